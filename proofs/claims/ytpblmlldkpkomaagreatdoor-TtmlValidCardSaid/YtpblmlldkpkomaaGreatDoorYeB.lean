/-
  Texts put together, in build order: W16 W17 W17m W18 W19 W20 W21 W22 W23 W24 W25 W26 W27 W28 W29.
-/
import Derived.Test.YtpblmlldkpkomaaGreatDoorYeA
set_option linter.all false

section
namespace Go.W
open Go Go.RowKit
theorem WY{q:TypeId→Prop}{w:World}{A:Option Addr}{c size n m:Nat}{xs:List Value}(h:iR q w A c size n xs) (hm:m≤n):iR q w A c size m (xs.take (m*size)):=by
 have hle:m*size≤n*size:=aXW _ hm
 refine⟨by rw[aYU,h.1]; omega,?_⟩;rcases h.2 with⟨h1,h2,h3⟩|⟨g,cur,e,fz,h1,h2,h3,h4,h5,h6,h7⟩
 ·exact .inl ⟨h1,h2,by omega⟩
 ·refine .inr ⟨g,cur,e,fz,h1,h2,h3,by omega,h5,h6,?_⟩;exact⟨by rw[←h7.1,List.take_take,Nat.min_eq_left hle],h7.2⟩
theorem xR{q:TypeId→Prop}{w:World}{ad:Addr}{c size n:Nat}{xs:List Value}(h:iR q w (some ad) c size n xs):∀j u,xs[j]?=some u→w.cell? (ad.add j)=some u:=by
 intro j u hu;rcases AtW.row h with h|⟨ad',h1,_,h3⟩
 ·rw[h] at hu; simp at hu
 ·injection h1 with h1; subst h1; exact h3 j u hu
theorem qI{q:TypeId→Prop}{P:Program}(w:World) (t ty e:TypeId) (i:TypeInfo) (z:Value) (size bytes:Nat) (ht:P.underlying t=some (.slice e)) (hi:P.info? e=some i) (hz:i.zero=some z)
  (hsize:i.size=size) (hby:i.bytes=bytes) (hzs:z.cells.size=size) (A:Option Addr) (c n:Nat) (xs:List Value) (hrow:iR q w A c size n xs) (hq:q e)
  (ad:Addr) (m cm:Nat) (news:List Value) (hl:news.length=m*size) (hnews:∀j u,news[j]?=some u→w.cell? (ad.add j)=some u) (h1:∀u∈news,u.oneCell'=true)
  (h63:n+m≤maxLen) (hbytes:(n+m)*bytes≤140737488355328) :
  ∃A1 c1 w',(Builtin.append_ #[t,t] ty #[.slice A n c,.slice (some ad) m cm]).run P w=.ok (.slice A1 (n+m) c1) w'∧iR q w' A1 c1 size (n+m) (xs++news)∧w.grownBy w' (Value.ownBlock (.slice A n c)) ∧
   (∀a1,A1=some a1→Value.ownBlock (.slice A n c)=some a1.block∨a1.block=w.heap.size):=by
 subst hsize;subst hby
 have hsmall:n+m≤9223372036854775807:=by simp only[maxLen] at h63; omega
 have hlen:(xs++news).length=(n+m)*i.size:=by rw[aYA,hrow.1,hl,aZY]
 have grown:∀(old:Nat),old<n+m→∀(row:Option Nat),
   iR q (w.drew.alloc (.cells (xs.toArray++news.toArray++Builtin.zeroCells z.cells (grownCap w (n+m) old e-(n+m))) e)) (some ⟨w.heap.size,0,none⟩) (grownCap w (n+m) old e) i.size (n+m) (xs++news) ∧
   w.grownBy (w.drew.alloc (.cells (xs.toArray++news.toArray++Builtin.zeroCells z.cells (grownCap w (n+m) old e-(n+m))) e)) row:=by
  intro old ho row
  have hge:=grownCap_ge w (n+m) old e
  have hcm:grownCap w (n+m) old e≤maxLen:=grownCap_le_maxLen w (n+m) old e h63
  refine⟨⟨hlen,.inr ⟨w.heap.size,_,e,(0,0),rfl,heap_alloc_new w.drew _,.inl rfl,hge,hcm,?_,?_,hq⟩⟩,⟨rfl,rfl,rfl,by simp,fun k hk _=>Below.heap_alloc w.drew _ k hk⟩⟩
  ·have:grownCap w (n+m) old e*i.size=(n+m)*i.size+(grownCap w (n+m) old e-(n+m))*i.size:=by rw[←aZY]; congr 1; omega
   simp only[Array.size_append,aYN,size_zeroCells,hzs,hrow.1,hl];rw[this,aZY];omega
  ·simp only[Array.toList_append,aYK];rw[←aYK,←hlen];exact List.take_left
 rcases hrow.2 with⟨rfl,rfl,rfl⟩|⟨g,cur,e',fz,rfl,hg,hfz,hnc,hcm,hcs,htake,hqe⟩
 ·have hx:xs=[]:=aWZ (by simpa using hrow.1)
  subst hx
  by_cases hm:m=0
  ·subst hm
   have hn:news=[]:=aWZ (by simpa using hl)
   subst hn;refine⟨none,0,w,?_,⟨by simp,.inl ⟨rfl,rfl,rfl⟩⟩,World.grownBy.refl w _,fun a1 h=>(by cases h)⟩;simp[Builtin.append_,run_underlying ht,sizeOf,typeInfo,hi,Builtin.lenOf,Builtin.firstCells,loadCells,loadCellsFrom]
  ·have hr:=run_append_nil (P:=P) w t ty e i z ht hi hz ad m cm news hl hnews (by omega) (by omega) (by have hb:=hbytes; simp only[aZS] at hb; omega)
   have hgr:=grown 0 (by omega) (Value.ownBlock (.slice none 0 0))
   simp only[aZS,aZA,Array.empty_append] at hgr ⊢;refine⟨_,_,_,hr,hgr.1,hgr.2,fun a1 h=>.inr (by injection h with h; subst h; rfl)⟩
 ·by_cases hroom:n+m≤c
  ·have hnm:n*i.size+news.length≤cur.size:=by
    rw[hl,←aZY];exact aZR (aXW _ hroom) hcs
   have hf:=run_firstCells_some (P:=P) w i.size m ad m cm news hl hnews
   have hst:=iU (P:=P) g (n*i.size) e' fz news 0 cur w hg hfz (by simpa using hnm) h1
   simp only[aZV] at hst
   have hr:(Builtin.append_ #[t,t] ty #[.slice (some ⟨g,0,none⟩) n c,.slice (some ad) m cm]).run P w =
     .ok (.slice (some ⟨g,0,none⟩) (n+m) c) (w.setRow g (cur.toList.take (n*i.size)++news++cur.toList.drop (n*i.size+news.length)).toArray):=by
    simp[Builtin.append_,run_underlying ht,sizeOf,typeInfo,hi,Builtin.lenOf,hroom,hf,Addr.add_lit,hst]
   refine⟨_,_,_,hr,⟨hlen,.inr ⟨g,_,e',fz,rfl,setRow_heap w g cur _ e' _ hg,?_,hroom,hcm,?_,?_,hqe⟩⟩,⟨rfl,rfl,rfl,by simp,fun k _ hk=>setRow_other w g k _ (fun e=>hk (by simp[Value.ownBlock,e]))⟩,
    fun a1 h=>.inl (by injection h with h; subst h; rfl)⟩
   ·have:(cur.toList.take (n*i.size)++news++cur.toList.drop (n*i.size+news.length)).toArray.size=cur.size:=by simp; omega
    rw[this]; exact hfz
   ·simp only[aYN,aYA,aYU,aYV,aX7];omega
   ·rw[htake,←hlen];exact List.take_left
  ·have hr:=run_append_grow (P:=P) w t ty e i z ht hi hz ⟨g,0,none⟩ n c xs hrow.1 (xR hrow) ad m cm news hl hnews (by omega) (by omega) (growslice_fits (by omega) hbytes)
   have hgr:=grown c (by omega) (Value.ownBlock (.slice (some ⟨g,0,none⟩) n c))
   exact⟨_,_,_,hr,hgr.1,hgr.2,fun a1 h=>.inr (by injection h with h; subst h; rfl)⟩
def kA(bs:Y_):List Value:=bs.map fun b=>.int .u8 (b.toNat:Int)
theorem R1(bs:Y_):Lib.strCells ⟨bs.toArray⟩=kA bs:=by simp[Lib.strCells,kA]
theorem vF(K:Kn):∀bs:Y_,dH (aT K .u8) bs (kA bs)
 | []=>rfl
 |b::bs=>⟨[_],kA bs,rfl,rfl,vF K bs⟩
theorem tT{q:TypeId→Prop}{P:Program}(w:World) (t u ty e:TypeId) (i:TypeInfo) (z:Value) (ht:P.underlying t=some (.slice e)) (hu:P.underlying u=some .string) (hi:P.info? e=some i) (hz:i.zero=some z)
  (hsize:i.size=1) (hby:i.bytes=1) (hzs:z.cells.size=1) (A:Option Addr) (c n:Nat) (xs:List Value) (hrow:iR q w A c 1 n xs) (hq:q e) (bs:Y_) (hbytes:n+bs.length≤140737488355328) :
  ∃A1 c1 w',(Builtin.append_ #[t,u] ty #[.slice A n c,.string ⟨bs.toArray⟩]).run P w=.ok (.slice A1 (n+bs.length) c1) w'∧iR q w' A1 c1 1 (n+bs.length) (xs++kA bs)∧w.grownBy w' (Value.ownBlock (.slice A n c)) ∧
   (∀a1,A1=some a1→Value.ownBlock (.slice A n c)=some a1.block∨a1.block=w.heap.size):=by
 have hss:(⟨bs.toArray⟩:ByteArray).size=bs.length:=by simp[ByteArray.size]
 have hl:(kA bs).length=bs.length:=by simp[kA]
 have h63:n+bs.length≤maxLen:=by unfold maxLen; omega
 have hxl:xs.length=n:=by simpa using hrow.1
 have hlen:(xs++kA bs).length=(n+bs.length)*1:=by rw[aYA,hxl,hl,Nat.mul_one]
 have grown:∀(old:Nat),old<n+bs.length→∀(row:Option Nat),
   iR q (w.drew.alloc (.cells (xs.toArray++(kA bs).toArray++Builtin.zeroCells z.cells (grownCap w (n+bs.length) old e-(n+bs.length))) e)) (some ⟨w.heap.size,0,none⟩) (grownCap w (n+bs.length) old e) 1 (n+bs.length) (xs++kA bs) ∧
   w.grownBy (w.drew.alloc (.cells (xs.toArray++(kA bs).toArray++Builtin.zeroCells z.cells (grownCap w (n+bs.length) old e-(n+bs.length))) e)) row:=by
  intro old ho row
  have hge:=grownCap_ge w (n+bs.length) old e
  have hcm:grownCap w (n+bs.length) old e≤maxLen:=grownCap_le_maxLen w (n+bs.length) old e h63
  refine⟨⟨hlen,.inr ⟨w.heap.size,_,e,(0,0),rfl,heap_alloc_new w.drew _,.inl rfl,hge,hcm,?_,?_,hq⟩⟩,⟨rfl,rfl,rfl,by simp,fun k hk _=>Below.heap_alloc w.drew _ k hk⟩⟩
  ·simp only[Array.size_append,aYN,size_zeroCells,hzs,hxl,hl];omega
  ·simp only[Array.toList_append,aYK];rw[←aYK,←hlen];exact List.take_left
 rcases hrow.2 with⟨rfl,rfl,rfl⟩|⟨g,cur,e',fz,rfl,hg,hfz,hnc,hcm,hcs,htake,hqe⟩
 ·have hx:xs=[]:=aWZ hxl
  subst hx
  by_cases hm:bs.length=0
  ·have hn:bs=[]:=aWZ hm
   subst hn;refine⟨none,0,w,?_,⟨by simp[kA],.inl ⟨rfl,rfl,rfl⟩⟩,World.grownBy.refl w _,fun a1 h=>(by cases h)⟩;simp[Builtin.append_,run_underlying ht,run_underlying hu,sizeOf,typeInfo,hi,Builtin.lenOf,Builtin.firstCells,ByteArray.size]
  ·have h63':¬(9223372036854775807<(bs.length:Int)):=by omega
   have h48:¬(281474976710656<Builtin.nextslicecap (0+bs.length) 0*i.bytes):=by
    have:=growslice_fits (need:=0+bs.length) (old:=0) (bytes:=1) (by omega) (by omega)
    rw[hby]; omega
   have hgr:=grown 0 (by omega) (Value.ownBlock (.slice none 0 0))
   simp only[aZS,aZA,Array.empty_append] at hgr h48 ⊢;refine⟨_,_,_,?_,hgr.1,hgr.2,fun a1 h=>.inr (by injection h with h; subst h; rfl)⟩;simp[Builtin.append_,run_underlying ht,run_underlying hu,sizeOf,typeInfo,zeroValue,hi,hz,Builtin.lenOf,hss,hm,h63',h48,Question.forced,newRow,grownCap,Builtin.firstCells];rw[aXG (by simp)];rfl
 ·by_cases hroom:n+bs.length≤c
  ·have hnm:n+(kA bs).length≤cur.size:=by rw[hl]; omega
   have hf:=Lib.run_firstCells_string (P:=P) w 1 ⟨bs.toArray⟩
   rw[R1,hss] at hf
   have hone:∀v∈kA bs,v.oneCell'=true:=by
    intro v hv;simp only[kA,List.mem_map] at hv;obtain⟨_,_,rfl⟩:=hv;rfl
   have hst:=iU (P:=P) g n e' fz (kA bs) 0 cur w hg hfz (by simpa using hnm) hone
   simp only[aZV] at hst
   have hr:(Builtin.append_ #[t,u] ty #[.slice (some ⟨g,0,none⟩) n c,.string ⟨bs.toArray⟩]).run P w =
     .ok (.slice (some ⟨g,0,none⟩) (n+bs.length) c) (w.setRow g (cur.toList.take n++kA bs++cur.toList.drop (n+(kA bs).length)).toArray):=by
    simp[Builtin.append_,run_underlying ht,run_underlying hu,sizeOf,typeInfo,hi,hsize,Builtin.lenOf,hss,hroom,hf,Addr.add_lit,hst]
   refine⟨_,_,_,hr,⟨hlen,.inr ⟨g,_,e',fz,rfl,setRow_heap w g cur _ e' _ hg,?_,hroom,hcm,?_,?_,hqe⟩⟩,⟨rfl,rfl,rfl,by simp,fun k _ hk=>setRow_other w g k _ (fun e=>hk (by simp[Value.ownBlock,e]))⟩,
    fun a1 h=>.inl (by injection h with h; subst h; rfl)⟩
   ·have:(cur.toList.take n++kA bs++cur.toList.drop (n+(kA bs).length)).toArray.size=cur.size:=by simp; omega
    rw[this]; exact hfz
   ·simp only[aYN,aYA,aYU,aYV,aX7];omega
   ·rw[Nat.mul_one] at htake;rw[htake,←hlen];exact List.take_left
  ·have hr:=Lib.run_append_grow_string (P:=P) w t u ty e i z ht hu hi hz ⟨g,0,none⟩ n c xs (by rw[hsize]; simpa using hxl) (xR hrow) ⟨bs.toArray⟩ (by rw[hss]; omega) (by rw[hss]; omega) (by rw[hss,hby]; exact growslice_fits (by omega) (by omega))
   rw[hss,R1] at hr
   have hgr:=grown c (by omega) (Value.ownBlock (.slice (some ⟨g,0,none⟩) n c))
   exact⟨_,_,_,hr,hgr.1,hgr.2,fun a1 h=>.inr (by injection h with h; subst h; rfl)⟩
theorem AH{P:Program}(w:World) (t ty e:TypeId) (i:TypeInfo) (ht:P.underlying t=some (.slice e)) (hi:P.info? e=some i) (A:Option Addr) (c n cm:Nat) (hn:n≤c) :
  (Builtin.append_ #[t,t] ty #[.slice A n c,.slice none 0 cm]).run P w=.ok (.slice A n c) w:=by
 cases A<;>simp[Builtin.append_,run_underlying ht,sizeOf,typeInfo,hi,Builtin.lenOf,Builtin.firstCells,hn,storeCells]
section
variable {E:Env} {g:Operand→SV} {ob:Obs} {tk:Nat} {o:Oper} {α:Type} {k:Out→Option α} {r:α}
theorem CT(hE:EnvOk E){t u ei:TypeId}{e:Ty}{i:TypeInfo}{y:Cell}{ys:List e.den}(ht:E.t t=some (.slice e)) (hu:E.P.underlying t=some (.slice ei)) (hi:E.P.info? ei=some i) (hT:aAO E t u y=true) (hy:GO ob e y=some ys)
  {w0 w:World} {K0 K:Kn} {H:Nat→Prop} {γ:Ghs} {ob1:Obs} (hle:∀j x,ob j=some x→ob1 j=some x) (hH:Hp w0 K0 H γ ob1 K w) {vy:Value} (hv:aF γ K y vy) {A:Option Addr} {c n:Nat} {xs:List e.den} {vs:List Value} (hn:xs.length=n) (hrow:iR (qOf e) w A c e.size n vs) (hL:dH (aT K e) xs vs) (hroom:dV ((n:Int)+len ys) i.bytes=true) (ty:TypeId) :
  ∃A1 c1 w' vs',(Builtin.append_ #[t,u] ty #[.slice A n c,vy]).run E.P w=.ok (.slice A1 (xs++ys).length c1) w'∧iR (qOf e) w' A1 c1 e.size (xs++ys).length vs'∧dH (aT K e) (xs++ys) vs'∧w.grownBy w' (Value.ownBlock (.slice A n c))∧(∀a1,A1=some a1→Value.ownBlock (.slice A n c)=some a1.block∨a1.block=w.heap.size):=by
 have hT2:=hT
 unfold aAO at hT2;rw[aYS] at hT2;obtain⟨hub,hT'⟩:=hT2
 clear hT
 have hT:=hT'
 clear hT'
 obtain⟨ei',hu',he⟩:=hE.und ht;rw[hu] at hu';injection hu' with hu';injection hu' with hu';subst hu';obtain⟨i',z,i1,i2,i3,i4,i5,i6⟩:=hE.info he;rw[hi] at i1;injection i1 with i1;subst i1;obtain⟨zs,e1,hz⟩:=iL K i4
 have hzs:z.cells.size=e.size:=by rw[e1,aYN,bV hz]
 have hrm:((n:Int)+(ys.length:Int))*(i.bytes:Int)≤140737488355328:=of_decide_eq_true hroom
 have hrm':(n+ys.length)*i.bytes≤140737488355328:=by
  have:(((n+ys.length)*i.bytes:Nat):Int)≤140737488355328:=by push_cast; exact hrm
  omega
 have hnm:n+ys.length≤140737488355328:=by
  have:(n+ys.length)*1≤(n+ys.length)*i.bytes:=Nat.mul_le_mul_left _ i6
  omega
 have hlen:(xs++ys).length=n+ys.length:=by rw[aYA,hn]
 rw[hlen];unfold GO at hy
 split at hy
 ·rename_i s;obtain⟨e1',e2⟩:=aU hy;injection e1' with e1';subst e1';subst e2;simp only[aC5] at hT
  split at hT
  ·rename_i hus
   have hv:vy=.string (bst s):=by simpa [aF,aT] using hv
   obtain⟨ib,hib,hb1⟩:=hE.byte he;rw[hi] at hib;injection hib with hib;subst hib;rw[hv];obtain⟨A1,c1,w',r1,r2,r3,r4⟩:=tT (P:=E.P) w t u ty ei i z hu (hE.und hus) hi i3 i2 hb1 hzs A c n vs hrow (hE.ubOf hub ht hu) s (by omega);exact⟨A1,c1,w',_,r1,r2,nP hL (vF K s),r3,r4⟩
  ·cases hT
 ·rename_i hns
  have htu:t=u:=by
   unfold aC5 at hT
   split at hT
   ·exact absurd rfl (hns _)
   ·exact aXJ hT
  have hc:=hy
  subst htu;obtain⟨B,cap,es,q1,q2,q3,q4,q5,q6⟩:=CP hc hv hle hH i5
  cases B with
  |none =>
   have hy0:=q6 rfl
   subst hy0;rw[q1]
   have hnc:n≤c:=by
    rcases hrow.2 with⟨_,h2,h3⟩|⟨_,_,_,_,_,_,_,h4,_⟩
    ·omega
    ·exact h4
   have:=AH (P:=E.P) w t ty ei i hu hi A c n cap hnc
   refine⟨A,c,w,vs,this,hrow,by simpa using hL,World.grownBy.refl w _,fun a1 h=>?_⟩;subst h;exact .inl rfl
  |some ad =>
   rw[q1]
   have hel:=cT bA q4
   have hcell:∀j u,es[j]?=some u→w.cell? (ad.add j)=some u:=fun j u hu=>by
    rcases q5 with q5|⟨ad',h1,h2,h3⟩
    ·rw[q5] at hu; simp at hu
    ·injection h1 with h1; subst h1; exact h3 j u hu
   obtain⟨A1,c1,w',r1,r2,r3,r4⟩:=qI (P:=E.P) w t ty ei i z e.size i.bytes hu hi i3 i2 rfl hzs A c n vs hrow (hE.ubOf hub ht hu) ad ys.length cap es hel hcell (jX _ (fun _ _ h=>dB h) q4) (by unfold maxLen; omega) hrm';exact⟨A1,c1,w',vs++es,r1,r2,nP hL q4,r3,r4⟩
theorem WZ(hE:EnvOk E){c0:Call}{t u ei:TypeId}{i:TypeInfo}{x y:Cell}(ho:o.op=.call c0) (hcal:c0.callee=.builtin .append) (hts:c0.argTypes.toList=[t,u]) (has:eY g c0.args.toList=[.val (.one x),.val (.one y)]) (hT:aAO E t u y=true) (hu:E.P.underlying t=some (.slice ei)) (hi:E.P.info? ei=some i)
  (h:JU E ob tk t x y i.bytes k=some r):∃out,k out=some r∧bF E g ob tk o out:=by
 -- the operands
 have args:∀ {γ:Ghs} {K:Kn} {a:Act},(∀x∈o.op.operands.toList,aV γ K (g x) (a.eval x))→∃vx vy,c0.args.map a.eval=#[vx,vy]∧aF γ K x vx∧aF γ K y vy:=by
  intro γ K a hr
  have hr':∀z∈c0.args.toList,aV γ K (g z) (a.eval z):=fun z hz=>hr z (by simp[ho,Op.operands,Call.operands,hcal]; simpa using hz)
  have hlen:c0.args.toList.length=2:=by
   have hl:∀l:List Operand,(eY g l).length=l.length:=fun l=>by induction l with|nil=>rfl|cons a l ih=>simp[eY,ih]
   rw[←hl,has]; rfl
  obtain⟨vx,h1,h2⟩:=iT hr' 0 _ (by rw[has]; rfl);obtain⟨vy,h3,h4⟩:=iT hr' 1 _ (by rw[has]; rfl);refine⟨vx,vy,?_,h2,h4⟩;apply aYW.1;rw[aYX]
  match hm:c0.args.toList.map a.eval,h1,h3 with
  | [p,q],h1,h3=>simp at h1 h3; subst h1; subst h3; rfl
  | [],h1,_=>simp at h1
  | [p],_,h3=>simp at h3
  |p::q::s::l,_,_ =>
   have:=congrArg List.length hm
   simp at this hlen;omega
 have hta:c0.argTypes=#[t,u]:=by apply aYW.1; rw[hts]
 have fH:∀ {a:Act} {w w':World} {vx vy v:Value},c0.args.map a.eval=#[vx,vy]→(Builtin.append_ #[t,u] o.type #[vx,vy]).run E.P w=.ok v w'→(execOp a.eval o).run E.P w=.ok (.value v) w':=by
  intro a w w' vx vy v ha hr;simp only[execOp,ho,resolve,hcal,aZU,aZT,aYM,invoke,builtin,hta,ha,hr]
 unfold JU at h
 split at h
 ·rename_i e ht
  split at h
  ·cases h
  ·rename_i ys hy
   have hpos:0<e.size:=by
    obtain⟨_,_,he⟩:=hE.und ht;obtain⟨_,_,_,_,_,_,hpos,_⟩:=hE.info he; exact hpos
   -- the row j, cut to its first elements
   have row:∀ {j hv n hh:Nat} {xs0 xs:List e.den} {new:List e.den},ob j=some (.row hh e xs0)→hh=hv→aCY (iP y) j=true→xs=xs0.take n→new=xs++ys→dV ((n:Int)+len ys) i.bytes=true →
     (∀(γ:Ghs) (K:Kn) (v:Value) (g':Gh),aF γ K x v→γ j=some g'→g'.hv=hv→g'.n=xs0.length→v=.slice g'.a n g'.c∧n≤xs0.length)→(∀(γ:Ghs) (K:Kn) (v:Value),aF γ K x v→∃g',γ j=some g') →
     bF E g ob tk o ⟨.val (.one (.row j tk)),[],[(j,.row tk e new)]⟩:=by
    intro j hv n hh xs0 xs new hob hhv htok hxs hnew hroom hval hgh;intro w0 K0 H γ ob1 K a w hr hle hH hG _ hver h0 next Q hn
    obtain⟨vx,vy,ha,rx,ry⟩:=args hr;obtain⟨g',k1⟩:=hgh γ K vx rx
    have hgv:=hver (j,_) aYE g' k1
    have hobj:=hle _ _ hob
    obtain⟨q1,q2,q3,q4,q5,vs,q6,q7,q8⟩:=hH.ok j _ g' hobj k1;obtain⟨hvx,hnx⟩:=hval γ K vx g' rx k1 (q1.trans hhv) q3
    have hrow:=WY q6 hnx
    have hL:=fE bA n q7
    rw[←hxs] at hL
    have hxl:xs.length=n:=by rw[hxs]; simp; omega
    obtain⟨A1,c1,w',vs',r1,r2,r3,r4,r5⟩:=CT hE ht hu hi hT hy hle hH ry hxl hrow hL hroom o.type;rw[hvx] at ha;unfold Oper.wp;rw[fH ha r1]
    have hA1:∀ad,A1=some ad→w.heap.size≤ad.block∨∃ad0,g'.a=some ad0∧ad0.block=ad.block:=fun ad had=>by
     rcases r5 ad had with h|h
     ·right
      cases hga:g'.a with
      |none=>rw[hga] at h; simp[Value.ownBlock] at h
      |some ad0 =>
       rw[hga] at h;simp only[Value.ownBlock,aY7,Option.some.injEq] at h;exact⟨ad0,rfl,h⟩
     ·left; omega
    obtain⟨t1,t2⟩:=hH.turn (w':=w') j ⟨A1,c1,(xs++ys).length,e.size,tk⟩ (.row tk e new) r4.os r4.tape r4.output r4.size (fun gg hgg=>by
      rw[k1] at hgg; injection hgg with hgg; subst hgg;refine⟨by show g'.hv≤tk; omega,fun hh'=>?_⟩;rcases hh' with hh' | hh'
      ·simp only at hh'; omega
      ·omega)
     (fun b2 hb2 hne=>r4.block b2 hb2 (fun e2=>by
      cases hga:g'.a with
      |none=>rw[hga] at e2; simp[Value.ownBlock] at e2
      |some ad0 =>
       rw[hga] at e2;simp only[Value.ownBlock,aY7,Option.some.injEq] at e2;exact hne _ g' ad0 hobj k1 rfl hga e2))
     (fun _ ad had=>by
      rcases hA1 ad had with h|⟨ad0,h1,h2⟩
      ·exact .inl h
      ·exact .inr ⟨_,g',ad0,hobj,k1,rfl,h1,h2⟩)
     (by
      rw[hnew];refine⟨rfl,h0,rfl,rfl,q5,vs',r2,r3,fun ad had o'=>?_⟩;rcases hA1 ad had with h|⟨ad0,h1,h2⟩
      ·exact hH.knone h o'
      ·rw[←h2]; exact q8 ad0 h1 o')
    refine hn _ _ K _ ⟨t1,Kn.le.refl K,⟨rfl,_,aK _ _ _,h0,aZ0 _,fun _=>rfl⟩,t2,fun i' gg hgg=>?_,fun i hi=>absurd hi (aY6 i)⟩
    by_cases hij:i'=j
    ·subst hij; rw[aK] at hgg; injection hgg with hgg; subst hgg; exact .inr ⟨aZ0 _,.inl ⟨g',k1⟩⟩
    ·rw[bC _ _ hij] at hgg; exact .inl hgg
   split at h
   ·
    obtain⟨hb,h⟩:=aP h;refine⟨_,h,?_⟩;intro w0 K0 H γ ob1 K a w hr hle hH hG hfr _ h0 next Q hn
    have hj:γ tk=none:=by have:=hfr 0 (by simp); simpa using this
    obtain⟨vx,vy,ha,rx,ry⟩:=args hr
    have hvx:vx=.slice none 0 0:=rx
    obtain⟨A1,c1,w',vs',r1,r2,r3,r4,r5⟩:=CT hE ht hu hi hT hy hle hH ry (xs:=[]) (n:=0) rfl (A:=none) (c:=0) (vs:=[]) ⟨by simp,.inl ⟨rfl,rfl,rfl⟩⟩ rfl (by simpa using hb) o.type;rw[hvx] at ha;unfold Oper.wp;rw[fH ha r1];obtain⟨t1,t2⟩:=hH.turn (w':=w') tk ⟨A1,c1,ys.length,e.size,tk⟩ (.row tk e ys) r4.os r4.tape r4.output r4.size (fun gg hgg=>by rw[hj] at hgg; cases hgg)
     (fun b2 hb2 _=>r4.block b2 hb2 (fun e2=>by simp[Value.ownBlock] at e2))
     (fun _ ad had=>by
      rcases r5 ad had with h|h
      ·simp[Value.ownBlock] at h
      ·exact .inl (by omega))
     ⟨rfl,h0,rfl,rfl,hpos,vs',r2,r3,fun ad had o'=>by
      rcases r5 ad had with h|h
      ·simp[Value.ownBlock] at h
      ·exact hH.knone (by omega) o'⟩
    exact hn _ _ K _ ⟨t1,Kn.le.refl K,⟨rfl,_,aK _ _ _,h0,aZ0 _,fun _=>rfl⟩,t2,mW (by simp) (aZ0 _) [],jZ _ _ _⟩
   ·rename_i j hv
    split at h
    ·rename_i hh e' xs hob
     split at h
     ·rename_i xs' hb hx';simp only[aYS] at hb;obtain⟨e1,e2⟩:=aU hx';injection e1 with e1;subst e1;subst e2;obtain⟨hb2,h⟩:=aP h;refine⟨_,h,row (n:=xs.length) hob (aXJ hb.1) hb.2 rfl (by rw[aYY]; rfl) hb2 (fun γ K v g' hv hg hgv hgn=>?_) (fun γ K v hv=>?_)⟩
      ·obtain⟨_,g2,k1,_,_,k4⟩:=hv;rw[hg] at k1;injection k1 with k1;subst k1;exact⟨by rw[k4 hgv,hgn],aZ0 _⟩
      ·obtain⟨_,g',k1,_⟩:=hv; exact⟨g',k1⟩
     ·cases h
    ·cases h
   ·rename_i j hv n
    split at h
    ·rename_i hh e' xs hob
     split at h
     ·rename_i xs' hb hx';simp only[aYS] at hb;obtain⟨e1,e2⟩:=aU hx';injection e1 with e1;subst e1;subst e2;obtain⟨hb2,h⟩:=aP h;refine⟨_,h,row (n:=n) hob (aXJ hb.1) hb.2 rfl rfl hb2 (fun γ K v g' hv hg hgv hgn=>?_) (fun γ K v hv=>?_)⟩
      ·obtain⟨_,g2,k1,_,_,k4⟩:=hv;rw[hg] at k1;injection k1 with k1;subst k1;obtain⟨p1,A,cc,p2,_,_,_,p6⟩:=k4 hgv;obtain⟨z1,z2⟩:=p6 rfl;exact⟨by rw[p2,z1,z2],by omega⟩
      ·obtain⟨_,g',k1,_⟩:=hv; exact⟨g',k1⟩
     ·cases h
    ·cases h
   ·cases h
 ·cases h
theorem CU(hE:EnvOk E){t ei:TypeId}{e:Ty}{i:TypeInfo}(ht:E.t t=some (.slice e)) (hub:ubS E t=true) (hu:E.P.underlying t=some (.slice ei)) (hi:E.P.info? ei=some i)
  {w:World} {A:Option Addr} {c n:Nat} {vs:List Value} (hrow:iR (qOf e) w A c e.size n vs) {B:Option Addr} {cap:Nat} {us:List Value} (hyr:iR (qOf e) w B cap e.size 1 us) (h1:∀u∈us,u.oneCell'=true) (hroom:dV ((n:Int)+1) i.bytes=true) (ty:TypeId) :
  ∃A1 c1 w',(Builtin.append_ #[t,t] ty #[.slice A n c,.slice B 1 cap]).run E.P w=.ok (.slice A1 (n+1) c1) w'∧iR (qOf e) w' A1 c1 e.size (n+1) (vs++us)∧w.grownBy w' (Value.ownBlock (.slice A n c))∧(∀a1,A1=some a1→Value.ownBlock (.slice A n c)=some a1.block∨a1.block=w.heap.size):=by
 obtain⟨ei',hu',he⟩:=hE.und ht;rw[hu] at hu';injection hu' with hu';injection hu' with hu';subst hu';obtain⟨i',z,i1,i2,i3,i4,i5,i6⟩:=hE.info he;rw[hi] at i1;injection i1 with i1;subst i1;obtain⟨zs,e1,hz⟩:=iL (fun _ _=>none) i4
 have hzs:z.cells.size=e.size:=by rw[e1,aYN,bV hz]
 have hrm:((n:Int)+1)*(i.bytes:Int)≤140737488355328:=of_decide_eq_true hroom
 have hrm':(n+1)*i.bytes≤140737488355328:=by
  have:(((n+1)*i.bytes:Nat):Int)≤140737488355328:=by push_cast; exact hrm
  omega
 have hnm:n+1≤140737488355328:=by
  have:(n+1)*1≤(n+1)*i.bytes:=Nat.mul_le_mul_left _ i6
  omega
 rcases hyr.2 with⟨_,_,h0⟩|⟨b,cur,ee,fz,rfl,_⟩
 ·omega
 ·obtain⟨A1,c1,w',r1,r2,r3,r4⟩:=qI (P:=E.P) w t ty ei i z e.size i.bytes hu hi i3 i2 rfl hzs A c n vs hrow (hE.ubOf hub ht hu) ⟨b,0,none⟩ 1 cap us (by rw[hyr.1]) (xR hyr) h1 (by unfold maxLen; omega) hrm';exact⟨A1,c1,w',r1,r2,r3,r4⟩
theorem XO(hE:EnvOk E){c0:Call}{t u ei:TypeId}{i:TypeInfo}{x y:Cell}(ho:o.op=.call c0) (hcal:c0.callee=.builtin .append) (hts:c0.argTypes.toList=[t,u]) (has:eY g c0.args.toList=[.val (.one x),.val (.one y)]) (hT:aAO E t u y=true) (hu:E.P.underlying t=some (.slice ei)) (hi:E.P.info? ei=some i)
  (h:JV E ob tk t x y i.bytes k=some r):∃out,k out=some r∧bF E g ob tk o out:=by
 have args:∀ {γ:Ghs} {K:Kn} {a:Act},(∀x∈o.op.operands.toList,aV γ K (g x) (a.eval x))→∃vx vy,c0.args.map a.eval=#[vx,vy]∧aF γ K x vx∧aF γ K y vy:=by
  intro γ K a hr
  have hr':∀z∈c0.args.toList,aV γ K (g z) (a.eval z):=fun z hz=>hr z (by simp[ho,Op.operands,Call.operands,hcal]; simpa using hz)
  have hlen:c0.args.toList.length=2:=by
   have hl:∀l:List Operand,(eY g l).length=l.length:=fun l=>by induction l with|nil=>rfl|cons a l ih=>simp[eY,ih]
   rw[←hl,has]; rfl
  obtain⟨vx,h1,h2⟩:=iT hr' 0 _ (by rw[has]; rfl);obtain⟨vy,h3,h4⟩:=iT hr' 1 _ (by rw[has]; rfl);refine⟨vx,vy,?_,h2,h4⟩;apply aYW.1;rw[aYX]
  match hm:c0.args.toList.map a.eval,h1,h3 with
  | [p,q],h1,h3=>simp at h1 h3; subst h1; subst h3; rfl
  | [],h1,_=>simp at h1
  | [p],_,h3=>simp at h3
  |p::q::s::l,_,_ =>
   have:=congrArg List.length hm
   simp at this hlen;omega
 unfold aAO at hT;rw[aYS] at hT;obtain⟨hub,hT⟩:=hT;unfold JV at h
 split at h
 ·rename_i e jy hy ht
  have htu:t=u:=aXJ hT
  subst htu
  have hta:c0.argTypes=#[t,t]:=by apply aYW.1; rw[hts]
  have fH:∀ {a:Act} {w w':World} {vx vy v:Value},c0.args.map a.eval=#[vx,vy]→(Builtin.append_ #[t,t] o.type #[vx,vy]).run E.P w=.ok v w'→(execOp a.eval o).run E.P w=.ok (.value v) w':=by
   intro a w w' vx vy v ha hr;simp only[execOp,ho,resolve,hcal,aZU,aZT,aYM,invoke,builtin,hta,ha,hr]
  have hpos:0<e.size:=by
   obtain⟨_,_,he⟩:=hE.und ht;obtain⟨_,_,_,_,_,_,hpos,_⟩:=hE.info he; exact hpos
  split at h
  ·rename_i hh e1 y0 cs hoby
   split at h
   ·rename_i ys hb hys
    have hb:=aXJ hb
    obtain⟨e1',e2⟩:=aU hys;injection e1' with e1';subst e1';subst e2
    -- the open element
    have src:∀ {w0:World} {K0:Kn} {H:Nat→Prop} {γ:Ghs} {ob1:Obs} {K:Kn} {w:World} {vy:Value},(∀j x,ob j=some x→ob1 j=some x)→Hp w0 K0 H γ ob1 K w→aF γ K (.row jy hy) vy→∃B cap us,vy=.slice B 1 cap∧iR (qOf e1) w B cap e1.size 1 us∧bK γ K cs us:=by
     intro w0 K0 H γ ob1 K w vy hle hH hv;obtain⟨k0,g',k1,k2,k3,k4⟩:=hv;obtain⟨q1,q2,q3,q4,q5,vs,us,q6,q7,q9,q8⟩:=hH.ok jy _ g' (hle _ _ hoby) k1
     have hvs:vs=[]:=q7
     subst hvs;rcases q9 with⟨q9,_⟩|⟨_,q9⟩
     ·cases q9
     exact⟨g'.a,g'.c,us,by rw[k4 (q1.trans hb),q3]; rfl,q6,q9⟩
    split at h
    ·obtain⟨hrm,h⟩:=aP h;refine⟨_,h,?_⟩;intro w0 K0 H γ ob1 K a w hr hle hH hG hfr _ h0 next Q hn
     have hj:γ tk=none:=by have:=hfr 0 (by simp); simpa using this
     obtain⟨vx,vy,ha,rx,ry⟩:=args hr
     have hvx:vx=.slice none 0 0:=rx
     obtain⟨B,cap,us,ey,hyr,hus⟩:=src hle hH ry;obtain⟨A1,c1,w',r1,r2,r4,r5⟩:=CU hE ht hub hu hi (A:=none) (c:=0) (n:=0) (vs:=[]) ⟨by simp,.inl ⟨rfl,rfl,rfl⟩⟩ hyr (lM hus) (by simpa [dV,len] using hrm) o.type;rw[hvx,ey] at ha;unfold Oper.wp;rw[fH ha r1]
     have hgl:Ghs.le γ (cH γ tk ⟨A1,c1,1,e1.size,tk⟩):=fun i gi hi=>by
      by_cases hij:i=tk
      ·subst hij; rw[hj] at hi; cases hi
      ·exact⟨gi,by rw[bC _ _ hij]; exact hi,aZ0 _,fun _=>rfl⟩
     have hH2:=hH.gone jy
     obtain⟨t1,t2⟩:=hH2.turn (w':=w') tk ⟨A1,c1,1,e1.size,tk⟩ (.opn tk e1 [y0] cs) r4.os r4.tape r4.output r4.size (fun gg hgg=>by rw[hj] at hgg; cases hgg)
      (fun b2 hb2 _=>r4.block b2 hb2 (fun e2=>by simp[Value.ownBlock] at e2))
      (fun _ ad had=>by
       rcases r5 ad had with h|h
       ·simp[Value.ownBlock] at h
       ·exact .inl (by omega))
      ⟨rfl,h0,rfl,rfl,hpos,[],us,by simpa using r2,rfl,.inr ⟨by simp,hus.mono hgl (Kn.le.refl K)⟩,fun ad had o'=>by
       rcases r5 ad had with h|h
       ·simp[Value.ownBlock] at h
       ·exact hH.knone (by omega) o'⟩
     exact hn _ _ K _ ⟨t1,Kn.le.refl K,⟨rfl,_,aK _ _ _,h0,aZ0 _,fun _=>rfl⟩,t2,mW (by simp) (aZ0 _) [],jZ _ _ _⟩
    ·rename_i j hv
     split at h
     ·rename_i h' e' xs0 hob
      split at h
      ·rename_i xs hb2 hxs;simp only[aYS,aYL] at hb2
       have hb3:=aXJ hb2.1
       have hne:j≠jy:=fun e=>by subst e; simp at hb2
       obtain⟨e1',e2⟩:=aU hxs;injection e1' with e1';subst e1';subst e2;obtain⟨hrm,h⟩:=aP h;refine⟨_,h,?_⟩;intro w0 K0 H γ ob1 K a w hr hle hH hG _ hver h0 next Q hn
       obtain⟨vx,vy,ha,rx,ry⟩:=args hr;obtain⟨B,cap,us,ey,hyr,hus⟩:=src hle hH ry;obtain⟨k0,g',k1,k2,k3,k4⟩:=rx
       have hgv:=hver (j,.opn tk e' (bH xs0 [y0]) cs) (aXV _ aYE) g' k1
       have hobj:=hle _ _ hob
       obtain⟨q1,q2,q3,q4,q5,vs,q6,q7,q8⟩:=hH.ok j _ g' hobj k1
       have hvx:=k4 (q1.trans hb3)
       rw[q3] at hvx;obtain⟨A1,c1,w',r1,r2,r4,r5⟩:=CU hE ht hub hu hi q6 hyr (lM hus) (by simpa [dV,len,aE] using hrm) o.type;rw[hvx,ey] at ha;unfold Oper.wp;rw[fH ha r1]
       have hH2:=hH.gone jy
       have hobj2:cH ob1 jy .gone j=some (.row h' e' xs0):=by rw[bC _ _ hne]; exact hobj
       have hA1:∀ad,A1=some ad→w.heap.size≤ad.block∨∃ad0,g'.a=some ad0∧ad0.block=ad.block:=fun ad had=>by
        rcases r5 ad had with h|h
        ·right
         cases hga:g'.a with
         |none=>rw[hga] at h; simp[Value.ownBlock] at h
         |some ad0 =>
          rw[hga] at h;simp only[Value.ownBlock,aY7,Option.some.injEq] at h;exact⟨ad0,rfl,h⟩
        ·left; omega
       have hle2:∀gg,γ j=some gg→gg.hv≤tk∧(tk=gg.hv∨gg.hv=0→(⟨A1,c1,xs0.length+1,e'.size,tk⟩:Gh)=gg):=fun gg hgg=>by
        rw[k1] at hgg; injection hgg with hgg; subst hgg;refine⟨by omega,fun hh'=>?_⟩;rcases hh' with hh' | hh'
        ·omega
        ·omega
       have hgl:Ghs.le γ (cH γ j ⟨A1,c1,xs0.length+1,e'.size,tk⟩):=fun i gi hi=>by
        by_cases hij:i=j
        ·subst hij; exact⟨_,aK _ _ _,hle2 gi hi⟩
        ·exact⟨gi,by rw[bC _ _ hij]; exact hi,aZ0 _,fun _=>rfl⟩
       obtain⟨t1,t2⟩:=hH2.turn (w':=w') j ⟨A1,c1,xs0.length+1,e'.size,tk⟩ (.opn tk e' (bH xs0 [y0]) cs) r4.os r4.tape r4.output r4.size hle2
        (fun b2 hb2 hne=>r4.block b2 hb2 (fun e2=>by
         cases hga:g'.a with
         |none=>rw[hga] at e2; simp[Value.ownBlock] at e2
         |some ad0 =>
          rw[hga] at e2;simp only[Value.ownBlock,aY7,Option.some.injEq] at e2;exact hne _ g' ad0 hobj2 k1 rfl hga e2))
        (fun _ ad had=>by
         rcases hA1 ad had with h|⟨ad0,h1,h2⟩
         ·exact .inl h
         ·exact .inr ⟨_,g',ad0,hobj2,k1,rfl,h1,h2⟩)
        (by
         have hll:(bH xs0 [y0]).length=xs0.length+1:=by simp[bH]
         refine⟨rfl,h0,hll.symm,rfl,q5,vs,us,by rw[hll]; exact r2,by simpa [bH] using q7,.inr ⟨by simp[bH],hus.mono hgl (Kn.le.refl K)⟩,fun ad had o'=>?_⟩;rcases hA1 ad had with h|⟨ad0,h1,h2⟩
         ·exact hH.knone h o'
         ·rw[←h2]; exact q8 ad0 h1 o')
       refine hn _ _ K _ ⟨t1,Kn.le.refl K,⟨rfl,_,aK _ _ _,h0,aZ0 _,fun _=>rfl⟩,t2,fun i' gg hgg=>?_,fun i hi=>absurd hi (aY6 i)⟩
       by_cases hij:i'=j
       ·subst hij; rw[aK] at hgg; injection hgg with hgg; subst hgg; exact .inr ⟨aZ0 _,.inl ⟨g',k1⟩⟩
       ·rw[bC _ _ hij] at hgg; exact .inl hgg
      ·cases h
     ·cases h
    ·cases h
   ·cases h
  ·cases h
 ·cases h
end
end Go.W
end

section
namespace Go.W
open Go Go.RowKit
section
variable {E:Env} {g:Operand→SV} {ob:Obs} {tk:Nat} {o:Oper} {α:Type} {k:Out→Option α} {r:α}
theorem EnvOk.undEx(hE:EnvOk E){t:TypeId}{T:Ty}(ht:E.t t=some T):∃d,E.P.underlying t=some d:=by
 have:=hE.und ht
 cases T with
 |int k=>exact⟨_,this.1⟩
 |u8=>exact⟨_,this⟩
 |bool=>exact⟨_,this⟩
 |str=>exact⟨_,this⟩
 |slice T'=>obtain⟨e,h,_⟩:=this; exact⟨_,h⟩
 |arr n T'=>obtain⟨e,h,_⟩:=this; exact⟨_,h⟩
 |st B=>obtain⟨e,h,_⟩:=this; exact⟨_,h⟩
 |nptr=>obtain⟨e,h⟩:=this; exact⟨_,h⟩
 |nif=>obtain⟨e,h⟩:=this; exact⟨_,h⟩
 |unit=>exact this.elim
 |pair a b=>exact this.elim
theorem aA2{e:Ty}(hp:0<e.size){y:Cell}{ys:List e.den}(hy:GO ob e y=some ys){w0 w:World}{K0 K:Kn}{H:Nat→Prop}{γ:Ghs}{ob1:Obs}(hle:∀j x,ob j=some x→ob1 j=some x) (hH:Hp w0 K0 H γ ob1 K w){vy:Value}(hv:aF γ K y vy) (P:Program) (n:Nat) (hn:n≤ys.length) :
  (Builtin.lenOf vy).run P w=.ok ys.length w∧∃news,(Builtin.firstCells e.size n vy).run P w=.ok (List.toArray news) w∧dH (aT K e) (ys.take n) news:=by
 have sl:cE ob e y=some ys→(Builtin.lenOf vy).run P w=.ok ys.length w∧∃news,(Builtin.firstCells e.size n vy).run P w=.ok (List.toArray news) w∧dH (aT K e) (ys.take n) news:=fun hc=>by
  obtain⟨B,cap,es,q1,q2,q3,q4,q5,q6⟩:=CP hc hv hle hH hp;rw[q1];refine⟨rfl,es.take (n*e.size),?_,fE bA n q4⟩
  have hel:=cT bA q4
  have hln:(es.take (n*e.size)).length=n*e.size:=by
   have:n*e.size≤ys.length*e.size:=aXW _ hn
   rw[aYU]; omega
  cases B with
  |none =>
   have hy0:=q6 rfl
   subst hy0
   have:n=0:=by simpa using hn
   subst this;simp[Builtin.firstCells]
  |some ad =>
   have hcell:∀j u,(es.take (n*e.size))[j]?=some u→w.cell? (ad.add j)=some u:=fun j u hu=>by
    rw[aYB] at hu
    split at hu
    ·rcases q5 with q5|⟨ad',h1,h2,h3⟩
     ·rw[q5] at hu; simp at hu
     ·injection h1 with h1; subst h1; exact h3 j u hu
    ·cases hu
   have:=run_loadCells_list (P:=P) w ad (es.take (n*e.size)) hcell
   rw[hln] at this;simp only[Builtin.firstCells,this]
 unfold GO at hy
 split at hy
 ·rename_i s;obtain⟨e1',e2⟩:=aU hy;injection e1' with e1';subst e1';subst e2
  have hv:vy=.string (bst s):=by simpa [aF,aT] using hv
  rw[hv];refine⟨by simp[Builtin.lenOf,cD],kA (List.take n s),?_,vF K _⟩;simp only[Builtin.firstCells,aZT,Q6,aZG];congr 1;apply aYW.1;simp[bst,kA]
 ·exact sl hy
theorem aDJ{K:Kn}{e:Ty}{xs zs:List e.den}{vs news:List Value}{lo:Nat}(hL:dH (aT K e) xs vs) (hz:dH (aT K e) zs news):dH (aT K e) (aAK xs lo zs) (seg vs (lo*e.size) news):=by
 unfold aAK seg;rw[cT bA hz,←aZY];exact nP (nP (fE bA lo hL) hz) (lK bA _ hL)
theorem aDK{c0:Call}{b:Builtin}{x y:Cell}(ho:o.op=.call c0) (hcal:c0.callee=.builtin b) (has:eY g c0.args.toList=[.val (.one x),.val (.one y)]){γ:Ghs}{K:Kn}{a:Act}(hr:∀x∈o.op.operands.toList,aV γ K (g x) (a.eval x)):∃vx vy,c0.args.map a.eval=#[vx,vy]∧aF γ K x vx∧aF γ K y vy:=by
 have hr':∀z∈c0.args.toList,aV γ K (g z) (a.eval z):=fun z hz=>hr z (by simp[ho,Op.operands,Call.operands,hcal]; simpa using hz)
 have hlen:c0.args.toList.length=2:=by
  have hl:∀l:List Operand,(eY g l).length=l.length:=fun l=>by induction l with|nil=>rfl|cons a l ih=>simp[eY,ih]
  rw[←hl,has]; rfl
 obtain⟨vx,h1,h2⟩:=iT hr' 0 _ (by rw[has]; rfl);obtain⟨vy,h3,h4⟩:=iT hr' 1 _ (by rw[has]; rfl);refine⟨vx,vy,?_,h2,h4⟩;apply aYW.1;rw[aYX]
 match hm:c0.args.toList.map a.eval,h1,h3 with
 | [p,q],h1,h3=>simp at h1 h3; subst h1; subst h3; rfl
 | [],h1,_=>simp at h1
 | [p],_,h3=>simp at h3
 |p::q::s::l,_,_ =>
  have:=congrArg List.length hm
  simp at this hlen;omega
theorem aDL(hE:EnvOk E){c0:Call}{t:TypeId}{ts:List TypeId}{x y:Cell}(ho:o.op=.call c0) (hcal:c0.callee=.builtin .copy) (hts:c0.argTypes.toList=t::ts) (has:eY g c0.args.toList=[.val (.one x),.val (.one y)])
  (h:aCZ E ob t x y k=some r):∃out,k out=some r∧bF E g ob tk o out:=by
 unfold aCZ at h
 split at h
 ·rename_i e ht
  split at h
  ·cases h
  ·rename_i ys hy;obtain⟨ei,hu,he⟩:=hE.und ht
   have hpos:0<e.size:=by obtain⟨_,_,_,_,_,_,hpos,_⟩:=hE.info he; exact hpos
   have hta:c0.argTypes[0]?=some t:=by rw[←aXM,hts]; rfl
   have row:∀ {j hv lo n hh:Nat} {xs new:List e.den} {res:Int},ob j=some (.row hh e xs)→hh=hv→new=aAK xs lo (ys.take n)→res=((min ys.length n:Nat):Int) →
     (∀(γ:Ghs) (K:Kn) (v:Value) (g':Gh),aF γ K x v→γ j=some g'→g'.hv=hv→g'.n=xs.length→∃A c,v=.slice A n c∧lo+n≤xs.length∧(n=0∨A=g'.a.map (·.add (lo*g'.sz))))→(∀(γ:Ghs) (K:Kn) (v:Value),aF γ K x v→∃g',γ j=some g') →
     bF E g ob tk o ⟨.val (.one (.v (.int .i64) res)),[],[(j,.row hh e new)]⟩:=by
    intro j hv lo n hh xs new res hob hhv hnew hres hval hgh;intro w0 K0 H γ ob1 K a w hr hle hH hG _ hver h0 next Q hn
    obtain⟨vx,vy,ha,rx,ry⟩:=aDK ho hcal has hr;obtain⟨g',k1⟩:=hgh γ K vx rx
    have hobj:=hle _ _ hob
    obtain⟨q1,q2,q3,q4,q5,vs,q6,q7,q8⟩:=hH.ok j _ g' hobj k1;obtain⟨A,cc,hvx,hnx,hA⟩:=hval γ K vx g' rx k1 (q1.trans hhv) q3;obtain⟨f1,news,f2,f3⟩:=aA2 hpos hy hle hH ry E.P (min ys.length n) (Nat.min_le_left _ _)
    have hnl:=cT bA f3
    have htk:ys.take (min ys.length n)=ys.take n:=by
     apply aYJ;intro i;rw[aYB,aYB]
     by_cases hi:i<ys.length
     ·by_cases hi2:i<n
      ·rw[if_pos (by omega),if_pos hi2]
      ·rw[if_neg (by omega),if_neg hi2]
     ·rw[aXN (Nat.le_of_not_lt hi)]; simp
    rw[htk] at f3 hnl
    have hzl:(ys.take n).length=min n ys.length:=by simp
    rw[hzl] at hnl
    have hvl:=q6.1
    have hin:(lo+min n ys.length)*e.size≤xs.length*e.size:=aXW _ (by omega)
    have hL:=aDJ (lo:=lo) q7 f3
    have hx:∃w',(execOp a.eval o).run E.P w=.ok (.value (.int .i64 res)) w'∧w'.os=w.os∧w'.tape=w.tape∧w'.output=w.output∧w.heap.size≤w'.heap.size∧(∀b,(∀ad,g'.a=some ad→b≠ad.block)→w'.heap[b]?=w.heap[b]?)∧iR (qOf e) w' g'.a g'.c e.size xs.length (seg vs (lo*e.size) news):=by
     have hexec:∀ {w':World},(match A with|some ad=>(storeCells ad news).run E.P w|none=>.ok () w)=.ok () w'→(execOp a.eval o).run E.P w=.ok (.value (.int .i64 res)) w':=by
      intro w' hst
      have e1:(c0.args.map a.eval)[0]?=some (.slice A n cc):=by rw[ha,hvx]; rfl
      have e2:(c0.args.map a.eval)[1]?=some vy:=by rw[ha]; rfl
      simp only[execOp,ho,resolve,hcal,aZU,aZT,aYM,invoke,builtin,Builtin.copy_,hta,e1,e2,bE hu,f1,hE.size he w];rw[show Nat.min ys.length n=min ys.length n from rfl];simp only[f2,aYM,aX6]
      cases A with
      |none=>simp only at hst; injection hst with _ hst; subst hst; rw[hres]; rfl
      |some ad=>simp only at hst ⊢; rw[aZU,hst]; rw[hres]; rfl
     by_cases hz:min n ys.length=0
     ·have hnews:news=[]:=aWZ (by rw[hnl,hz,aZW])
      refine⟨w,hexec ?_,rfl,rfl,rfl,aZ0 _,fun _ _=>rfl,?_⟩
      ·subst hnews; cases A<;>rfl
      ·subst hnews; simpa [seg] using q6
     ·have hn0:n≠0:=by omega
      rcases hA with hA|hA
      ·exact absurd hA hn0
      ·rcases q6.2 with⟨_,_,z2⟩|⟨b,cur,ee,fz,z1,z2,z3,z4,z5,z6,z7⟩
       ·omega
       ·rw[z1] at hA;simp only[aY7,add_lit,aZS,q4] at hA
        have hcl:xs.length*e.size≤cur.size:=aZR (aXW _ z4) z6
        rw[aZY] at hin
        have hst:=iU (P:=E.P) b (lo*e.size) ee fz news 0 cur w z2 z3 (by omega) (jX _ (fun _ _ h=>dB h) f3)
        simp only[aZV] at hst;refine⟨w.setRow b (seg cur.toList (lo*e.size) news).toArray,hexec ?_,rfl,rfl,rfl,by simp,fun b2 hne=>setRow_other w b b2 _ (hne _ z1),?_⟩
        ·rw[hA]; exact hst
        ·refine⟨by rw[fQ (by omega)]; exact hvl,.inr ⟨b,_,ee,fz,z1,setRow_heap w b _ _ ee _ z2,?_,z4,z5,?_,?_⟩⟩
         ·rw[aYN,fQ (by simp; omega)]; simpa using z3
         ·rw[aYN,fQ (by simp; omega)]; simpa using z6
         ·exact⟨by rw[aX6,CS (by omega) (by simp; omega),z7.1],z7.2⟩
    obtain⟨w',hx,x1,x2,x3,x4,x5,x6⟩:=hx;unfold Oper.wp;rw[hx]
    have hxl:new.length=xs.length:=by
     rw[hnew]; simp only[aAK,aYA,aYU,aYV]; omega
    obtain⟨t1,t2⟩:=hH.turn (w':=w') j g' (.row hh e new) x1 x2 x3 x4 (fun gg hgg=>by rw[k1] at hgg; injection hgg with hgg; subst hgg; exact⟨aZ0 _,fun _=>rfl⟩)
     (fun b2 _ hne=>x5 b2 fun ad had=>hne _ g' ad hobj k1 rfl had)
     (fun _ ad had=>.inr ⟨_,g',ad,hobj,k1,rfl,had,rfl⟩)
     ⟨q1,q2,by rw[hxl]; exact q3,q4,q5,_,by rw[hxl]; exact x6,by rw[hnew]; exact hL,q8⟩
    rw[fP k1] at t1 t2;exact hn _ γ K _ ⟨t1,Kn.le.refl K,rfl,t2,fun i gg hgg=>.inl hgg,fun i hi=>absurd hi (aY6 i)⟩
   split at h
   ·rename_i j hv
    split at h
    ·rename_i hh e' xs hob
     split at h
     ·rename_i xs' hb hx';obtain⟨e1,e2⟩:=aU hx';injection e1 with e1;subst e1;subst e2;refine⟨_,h,row (lo:=0) (n:=xs.length) hob (aXJ hb) rfl (by simp only[kY,len]; omega) (fun γ K v g' hv hg hgv hgn=>?_) (fun γ K v hv=>?_)⟩
      ·obtain⟨_,g2,k1,_,_,k4⟩:=hv;rw[hg] at k1;injection k1 with k1;subst k1;refine⟨g'.a,g'.c,by rw[k4 hgv,hgn],by omega,.inr ?_⟩;rw[aZW]
       cases g'.a with
       |none=>rfl
       |some ad=>simp[Addr.add]
      ·obtain⟨_,g',k1,_⟩:=hv; exact⟨g',k1⟩
     ·cases h
    ·cases h
   ·rename_i j hv lo n
    split at h
    ·rename_i hh e' xs hob
     split at h
     ·rename_i xs' hb hx';obtain⟨e1,e2⟩:=aU hx';injection e1 with e1;subst e1;subst e2;refine⟨_,h,row (lo:=lo) (n:=n) hob (aXJ hb) rfl (by simp only[kY,len,ofN]; omega) (fun γ K v g' hv hg hgv hgn=>?_) (fun γ K v hv=>?_)⟩
      ·obtain⟨_,g2,k1,_,_,k4⟩:=hv;rw[hg] at k1;injection k1 with k1;subst k1;obtain⟨p1,A,cc,p2,_,_,p5,_⟩:=k4 hgv;exact⟨A,cc,p2,by omega,p5⟩
      ·obtain⟨_,g',k1,_⟩:=hv; exact⟨g',k1⟩
     ·cases h
    ·cases h
   ·cases h
 ·cases h
theorem aDM(hE:EnvOk E){s d:TypeId}{x:Operand}{c:Cell}(ho:o.op=.convert s d x) (hx:g x=.val (.one c)) (h:aC0 E ob tk s d c k=some r):∃out,k out=some r∧bF E g ob tk o out:=by
 unfold aC0 at h
 split at h
 ·cases h
 ·rename_i S hs;obtain⟨du,hus⟩:=hE.undEx hs
  have main:∀ {z:Cell},(∀(w0:World) (K0:Kn) (H:Nat→Prop) (γ:Ghs) (ob1:Obs) (K:Kn) (w:World) (v:Value),aF γ K c v→(∀j x,ob j=some x→ob1 j=some x)→Hp w0 K0 H γ ob1 K w→∃p,(convert s d v).run E.P w=.ok p w∧aF γ K z p)→bF E g ob tk o (cA z):=fun {z} hz=>by
   refine bF.still fun w0 K0 H γ ob1 K a w hr hle hH=>?_
   have r1:=hr x (by simp[ho,Op.operands])
   rw[hx] at r1;obtain⟨p,h1,h2⟩:=hz w0 K0 H γ ob1 K w _ r1 hle hH;refine⟨p,?_,h2⟩;simp only[execOp,ho,aZU,h1,aYM,aZT]
  have toInt:∀ {kd kx:IntKind} {n:Int},E.P.underlying d=some (.int kd)→fT c=some (kx,n)→bF E g ob tk o (cA (mkW kd n)):=fun {kd kx n} hud hi=>main fun w0 K0 H γ ob1 K w v hv _ _=>by
   rw[(dW hi hv).1];refine⟨.int kd (kd.wrap n),?_,tR kd n⟩;simp only[convert,aZU,bE hus,bE hud,aYM,Conv.intToInt,aZT]
  split at h
  ·rename_i kd hd
   split at h
   ·rename_i kx n hi;exact⟨_,h,toInt (hE.und hd).1 hi⟩
   ·cases h
  ·rename_i hd
   split at h
   ·rename_i kx n hi;exact⟨_,h,toInt (hE.und hd) hi⟩
   ·cases h
  ·rename_i hd
   have hud:E.P.underlying d=some .string:=hE.und hd
   split at h
   ·rename_i str;refine⟨_,h,main fun w0 K0 H γ ob1 K w v hv _ _=>?_⟩
    have hv:v=.string (bst str):=by simpa [aF,aT] using hv
    rw[hv];refine⟨.string (bst str),?_,rfl⟩;simp only[convert,aZU,bE hus,bE hud,aYM,aZT]
   ·split at h
    ·rename_i kx n hi;refine⟨_,h,main fun w0 K0 H γ ob1 K w v hv _ _=>?_⟩;rw[(dW hi hv).1];refine⟨.string (Utf8.encode n),?_,?_⟩
     ·simp only[convert,aZU,bE hus,bE hud,aYM,Conv.intToString,aZT]
     ·show [Value.string (Utf8.encode n)]=[Value.string (bst (enc n))];unfold enc;rw[aDD]
    ·split at h
     ·split at h
      ·rename_i bs hc;refine⟨_,h,main fun w0 K0 H γ ob1 K w v hv hle hH=>?_⟩;obtain⟨ei,hus',he⟩:=hE.und hs;obtain⟨A,cap,es,q1,q2,q3,q4,q5,q6⟩:=CP hc hv hle hH (by decide);rw[q1];refine⟨.string (bst bs),?_,rfl⟩
       have hb:=vD (P:=E.P) (cap:=cap) q4 q5 q6
       have hue:=hE.und he
       simp only[convert,aZU,bE hus',bE hud,aYM,bE hue,hb]
      ·cases h
     ·cases h
  ·rename_i hd;obtain⟨ei,hud,he⟩:=hE.und hd
   have hue:E.P.underlying ei=some (.int .u8):=hE.und he
   split at h
   ·rename_i str;obtain⟨hub,h⟩:=aY h;obtain⟨hb,h⟩:=aP h
    have hb:(str.length:Int)≤9223372036854775807:=of_decide_eq_true hb
    refine⟨_,h,?_⟩;intro w0 K0 H γ ob1 K a w hr hle hH hG hfr _ h0 next Q hn
    have hj:γ tk=none:=by have:=hfr 0 (by simp); simpa using this
    have r1:=hr x (by simp[ho,Op.operands])
    rw[hx] at r1
    have hv:a.eval x=.string (bst str):=by simpa [aV,bY,aF,aT] using r1
    have hrun:=Lib.run_convert_string_bytes (P:=E.P) w s d ei (bst str) hus hud hue
    have hxx:(execOp a.eval o).run E.P w=.ok (.value (.slice (some ⟨w.heap.size,0,none⟩) str.length (grownCap w str.length 0 ei))) (Lib.bytesWorld w ei (bst str)):=by
     rw[cD] at hrun;simp only[execOp,ho,hv,aZU,hrun,aYM,aZT]
    unfold Oper.wp;rw[hxx]
    have hcell:(Lib.bytesCells w ei (bst str)).toList=kA str++List.replicate (grownCap w str.length 0 ei-str.length) (.int .u8 0):=by
     simp only[Lib.bytesCells,cD,Array.toList_append,aYX,Array.toList_replicate];rfl
    have hge:=grownCap_ge w str.length 0 ei
    have hsl:(kA str).length=str.length:=by simp[kA]
    have hnew:=Lib.bytesWorld_at_new w ei (bst str)
    have hcm:grownCap w str.length 0 ei≤maxLen:=grownCap_le_maxLen w str.length 0 ei (by unfold maxLen; omega)
    have hcs:(Lib.bytesCells w ei (bst str)).size=grownCap w str.length 0 ei:=by
     rw[←aX7,hcell];simp[hsl];omega
    obtain⟨t1,t2⟩:=hH.turn (w':=Lib.bytesWorld w ei (bst str)) tk ⟨some ⟨w.heap.size,0,none⟩,grownCap w str.length 0 ei,str.length,1,tk⟩ (.row tk .u8 str) rfl rfl rfl (by rw[Lib.bytesWorld_size]; omega) (fun gg hgg=>by rw[hj] at hgg; cases hgg)
     (fun b2 hb2 _=>Lib.bytesWorld_at_old w ei (bst str) b2 hb2)
     (fun _ ad had=>.inl (by injection had with had; rw[←had]; exact aZ0 _))
     ⟨rfl,h0,rfl,rfl,by decide,kA str,⟨by rw[hsl]; exact(Nat.mul_one _).symm,.inr ⟨w.heap.size,_,ei,_,rfl,hnew,.inr (aZ0 _),hge,hcm,by rw[hcs]; exact Nat.le_of_eq (Nat.mul_one _),by rw[hcell]; exact List.take_left' (by rw[hsl]; exact(Nat.mul_one _).symm),hE.ubOf hub hd hud⟩⟩,vF K str,fun ad had o'=>by injection had with had; rw[←had]; exact hH.knone (aZ0 _) o'⟩
    exact hn _ _ K _ ⟨t1,Kn.le.refl K,⟨rfl,_,aK _ _ _,h0,aZ0 _,fun _=>rfl⟩,t2,mW (by simp) (aZ0 _) [],jZ _ _ _⟩
   ·rename_i j hv
    split at h
    ·rename_i hh xs hsd hob
     split at h
     ·rename_i hb
      have hb:=aXJ hb
      have hsd:=aXJ hsd
      subst hsd;obtain⟨hpx,h⟩:=aP h
      have hpx:0<(xs.length:Int):=of_decide_eq_true hpx
      refine⟨_,h,?_⟩;intro w0 K0 H γ ob1 K a w hr hle hH hG _ _ h0 next Q hn
      have r1:=hr x (by simp[ho,Op.operands])
      rw[hx] at r1;obtain⟨k0,g',k1,k2,k3,k4⟩:=id r1
      have hobj:=hle _ _ hob
      obtain⟨q1,q2,q3,q4,q5,vs,q6,q7,q8⟩:=hH.ok j _ g' hobj k1
      have hvx:=k4 (q1.trans hb)
      rcases q6.2 with⟨z1,z2,z3⟩|⟨b,cur,ee,fz,z1,z2,z3,z4,z5,z6,z7⟩
      ·exfalso; omega
      ·have hw:∃w' fz',w.freeze ⟨b,cur.size,none⟩ 1=w'∧w'.heap[b]?=some (.cells cur ee fz')∧aAS fz' cur.size∧w'.os=w.os∧w'.tape=w.tape∧w'.output=w.output∧w'.heap.size=w.heap.size∧∀b2,b2≠b→w'.heap[b2]?=w.heap[b2]?:=by
        refine⟨_,if fz.1==fz.2 then(cur.size,cur.size+1) else(min fz.1 cur.size,max fz.2 (cur.size+1)),rfl,?_⟩;unfold World.freeze;rw[if_neg (by decide)];refine⟨?_,?_,rfl,rfl,rfl,by simp,fun b2 hb2=>?_⟩
        ·obtain⟨f1,f2⟩:=fz;simp[aXP,z2]
        ·split
         ·right; exact aZ0 _
         ·rename_i hne;rcases z3 with z3|z3
          ·rw[z3] at hne; simp at hne
          ·right; simp only; omega
        ·simp[aXP,Ne.symm hb2]
       obtain⟨w',fz',hfr,hb',hfz',hos,htape,hout,hsize,hoth⟩:=hw
       have hsh:w.shape? b=some (ee,cur.size):=by unfold World.shape?; rw[z2]
       have hrun:(convert s s (a.eval x)).run E.P w=.ok (a.eval x) w':=by
        rw[hvx,z1];simp[convert,run_underlying hud,run_underlying hue,markStringish,hsh,hfr]
       unfold Oper.wp
       have hxx:(execOp a.eval o).run E.P w=.ok (.value (a.eval x)) w':=by
        simp only[execOp,ho,aZU,hrun,aYM,aZT]
       rw[hxx];obtain⟨t1,t2⟩:=hH.turn (w':=w') j g' (.row hh .u8 xs) hos htape hout (Nat.le_of_eq hsize.symm) (fun gg hgg=>by rw[k1] at hgg; injection hgg with hgg; subst hgg; exact⟨aZ0 _,fun _=>rfl⟩)
        (fun b2 _ hne=>hoth b2 (hne _ g' _ hobj k1 rfl z1))
        (fun _ ad had=>.inr ⟨_,g',ad,hobj,k1,rfl,had,rfl⟩)
        ⟨q1,q2,q3,q4,q5,vs,⟨q6.1,.inr ⟨b,cur,ee,fz',z1,hb',hfz',z4,z5,z6,z7⟩⟩,q7,q8⟩
       rw[fP k1] at t1 t2;exact hn _ γ K _ ⟨t1,Kn.le.refl K,r1,t2,fun i gg hgg=>.inl hgg,fun i hi=>absurd hi (aY6 i)⟩
     ·cases h
    ·cases h
   ·cases h
  ·cases h
end
end Go.W
end

section
namespace Go.W
open Go Go.RowKit
theorem YA{ob:Obs}{T:Ty}{v:Val}{x:T.den}{γ:Ghs}{K:Kn}{u:Value}(hT:(jU T).isSome=true∨BY T=true) (h:cO ob T v=some x) (hv:bY γ K v u):u=eF T x:=by
 cases T with
 |int k =>
  cases v with
  |agg cs=>simp[cO,Ty.agg] at h
  |one c =>
   cases c with
   |v t y =>
    cases hc:cN (a:=t) (.int k) y with
    |none=>simp[cO,Ty.agg,bld,hc] at h
    |some z =>
     simp only[cO,Ty.agg,bld,hc,Option.some.injEq] at h;subst h;obtain⟨e,e2⟩:=aU hc;subst e; subst e2
     simpa [bY,aF,aT,eF] using hv
   |undef=>simp[cO,Ty.agg] at h
   |_=>simp[cO,Ty.agg,bld] at h
 |bool =>
  cases v with
  |agg cs=>simp[cO,Ty.agg] at h
  |one c =>
   cases c with
   |v t y =>
    cases hc:cN (a:=t) .bool y with
    |none=>simp[cO,Ty.agg,bld,hc] at h
    |some z =>
     simp only[cO,Ty.agg,bld,hc,Option.some.injEq] at h;subst h;obtain⟨e,e2⟩:=aU hc;subst e; subst e2
     simpa [bY,aF,aT,eF] using hv
   |undef=>simp[cO,Ty.agg] at h
   |_=>simp[cO,Ty.agg,bld] at h
 |str =>
  cases v with
  |agg cs=>simp[cO,Ty.agg] at h
  |one c =>
   cases c with
   |v t y =>
    cases hc:cN (a:=t) .str y with
    |none=>simp[cO,Ty.agg,bld,hc] at h
    |some z =>
     simp only[cO,Ty.agg,bld,hc,Option.some.injEq] at h;subst h;obtain⟨e,e2⟩:=aU hc;subst e; subst e2
     simpa [bY,aF,aT,eF] using hv
   |undef=>simp[cO,Ty.agg] at h
   |_=>simp[cO,Ty.agg,bld] at h
 |_=>rcases hT with hT|hT<;>cases hT
theorem QX{T:Ty}(hT:BY T=true) (x:T.den) (γ:Ghs) (K:Kn):aF γ K (.v T x) (eF T x):=by
 cases T with
 |int k=>rfl
 |bool=>rfl
 |_=>cases hT
def GH{κ ν:Type}(e:κ→κ→Bool):List (κ×ν)→κ→Nat
 | [],_=>0
 |x::r,k=>cond (e k x.1) 0 (GH e r k+1)
def zQ:Ty→TypeDesc
 | .int k=>.int k
 |_=>.string
theorem aDN{K:Ty}{e:K.den→K.den→Bool}(h:jU K=some e){a b:K.den}(hab:e a b=true):a=b:=by
 unfold jU at h
 split at h
 ·cases h
 ·injection h with h; subst h; exact of_decide_eq_true (by simpa [ieq] using hab)
 ·injection h with h; subst h; simpa [seq] using hab
 ·cases h
theorem YB{K:Ty}{e:K.den→K.den→Bool}(h:jU K=some e) (a b:K.den):Instr.sameNow (zQ K) (eF K a) (eF K b)=some (e a b):=by
 unfold jU at h
 split at h
 ·cases h
 ·injection h with h; subst h;simp[Instr.sameNow,zQ,eF,ieq]
 ·injection h with h; subst h;simp only[Instr.sameNow,zQ,eF,seq,Option.some.injEq];rw[beq_toListBytes,eB,eB]
 ·cases h
theorem QY{K:Ty}{e:K.den→K.den→Bool}(h:jU K=some e) (a:K.den):Instr.sameBits 10000 (eF K a) (eF K a)=true:=by
 unfold jU at h
 split at h
 ·cases h
 ·simp[Instr.sameBits,eF]
 ·simp[Instr.sameBits,eF,beq_toListBytes]
 ·cases h
section
variable {K V:Ty} {e:K.den→K.den→Bool}
theorem tU(hk:jU K=some e) (k:K.den):∀(es:List (K.den×V.den)) (l:List MapEntry) (i:Nat),GE K V es l →
  Instr.findNow (zQ K) (eF K k) l i=some (cond (jI e es k) (some (i+GH e es k,eF V (nO e V.dflt es k))) none)
 | [],l,i,h=>by have h:l=[]:=h; subst h; rfl
 |x::r,l,i,h=>by
  obtain⟨en,l',rfl,h1,h2,h3⟩:=h;simp only[Instr.findNow,h1,YB hk,jI,GH,nO]
  cases hx:e k x.1 with
  |true=>simp[bor,h2]
  |false =>
   simp only[bor,aZN,cond_false];rw[tU hk k r l' (i+1) h3,show i+(GH e r k+1)=i+1+GH e r k by omega]
theorem R2(hk:jU K=some e) (k:K.den):∀(es:List (K.den×V.den)) (l:List MapEntry),GE K V es l→jI e es k=true→∃en,l[GH e es k]?=some en∧en.key=eF K k
 | [],l,h,hh=>by cases hh
 |x::r,l,h,hh=>by
  obtain⟨en,l',rfl,h1,h2,h3⟩:=h;simp only[jI,GH] at hh ⊢
  cases hx:e k x.1 with
  |true=>exact⟨en,rfl,by rw[h1,aDN hk hx]⟩
  |false =>
   rw[hx] at hh;simp only[bor,aZN] at hh;obtain⟨en',q1,q2⟩:=R2 hk k r l' h3 hh;exact⟨en',by simpa using q1,q2⟩
theorem R3(k:K.den) (v:V.den):∀(es:List (K.den×V.den)) (l:List MapEntry),GE K V es l→jI e es k=true→GE K V (pY e es k v) (l.modify (GH e es k) fun en=>{ en with key:=eF K k,val:=eF V v })
 | [],l,h,hh=>by cases hh
 |x::r,l,h,hh=>by
  obtain⟨en,l',rfl,h1,h2,h3⟩:=h;simp only[jI,GH,pY] at hh ⊢
  cases hx:e k x.1 with
  |true=>exact⟨{ en with key:=eF K k,val:=eF V v },l',rfl,rfl,rfl,h3⟩
  |false =>
   rw[hx] at hh;simp only[bor,aZN] at hh;exact⟨en,_,List.modify_succ_cons ..,h1,h2,R3 k v r l' h3 hh⟩
theorem qJ(k:K.den) (v:V.den) (c:Nat):∀(es:List (K.den×V.den)) (l:List MapEntry),GE K V es l→jI e es k=false→GE K V (pY e es k v) (l++[{ key:=eF K k,val:=eF V v,born:=c }])
 | [],l,h,hh=>by
  have h:l=[]:=h
  subst h;exact⟨_,[],rfl,rfl,rfl,rfl⟩
 |x::r,l,h,hh=>by
  obtain⟨en,l',rfl,h1,h2,h3⟩:=h;simp only[jI,pY] at hh ⊢
  cases hx:e k x.1 with
  |true=>rw[hx] at hh; simp[bor] at hh
  |false =>
   rw[hx] at hh;simp only[bor,aZN] at hh;exact⟨en,_,rfl,h1,h2,qJ k v c r l' h3 hh⟩
end
section
variable {E:Env} {g:Operand→SV} {ob:Obs} {tk:Nat} {o:Oper} {α:Type} {k:Out→Option α} {r:α}
theorem CV(hE:EnvOk E){t:TypeId}{K V:Ty}{e:K.den→K.den→Bool}(h:QG E t=some (K,V)) (hk:jU K=some e) :
  ∃kt vt,E.P.underlying t=some (.map kt vt)∧E.P.underlying kt=some (zQ K)∧E.t vt=some V∧BY V=true:=by
 unfold QG at h
 split at h
 ·rename_i kt vt hu
  split at h
  ·rename_i K' V' h1 h2;unfold aQ at h
   split at h
   ·rename_i hv;simp only[Option.some.injEq,Prod.mk.injEq] at h;obtain⟨rfl,rfl⟩:=h;refine⟨kt,vt,hu,?_,h2,hv⟩
    have:=hE.und h1
    cases K' with
    |int kk=>exact this.1
    |str=>exact this
    |_=>cases hk
   ·cases h
  ·cases h
 ·cases h
theorem QZ{t:TypeId}{K V:Ty}(h:Q2 E t K V=true):QG E t=some (K,V):=by
 unfold Q2 at h
 split at h
 ·rename_i K' V' hm;simp only[aYS] at h;rw[hm,gC h.1,gC h.2]
 ·cases h
theorem zR{P:Program}{K:Ty}{e:K.den→K.den→Bool}(hk:jU K=some e){kt:TypeId}(h:P.underlying kt=some (zQ K)) (b:Bool) (k:K.den) (w:World) (n:Nat):(Instr.checkKey b (n+1) kt (eF K k)).run P w=.ok () w:=by
 unfold jU at hk
 split at hk
 ·cases hk
 ·simp only[Instr.checkKey,aZU,bE h,aYM,zQ,eF,aZT]
 ·simp only[Instr.checkKey,aZU,bE h,aYM,zQ,eF,aZT]
 ·cases hk
theorem aDO(hE:EnvOk E){t:TypeId}{V:Ty}(ht:E.t t=some V) (hv:BY V=true) (w:World):(zeroValue t).run E.P w=.ok (eF V V.dflt) w:=by
 obtain⟨i,z,h1,h2,h3,h4,_⟩:=hE.info ht
 have hz:z=eF V V.dflt:=by
  have key:∀ {cs:List Value},zC V [z]=some []→aT (fun _ _=>none) V V.zero cs→[z]=cs++[]→z=eF V V.dflt:=fun {cs} _ h e=>by
   rw[aY5] at e;subst e
   cases V with
   |int k=>simpa [aT,eF,Ty.dflt] using h
   |bool=>simpa [aT,eF,Ty.dflt] using h
   |_=>cases hv
  have hz:zC V [z]=some []:=by
   unfold zOk at h4
   cases V with
   |int k =>
    simp only[Ty.agg] at h4
    split at h4
    ·assumption
    ·cases h4
   |bool =>
    simp only[Ty.agg] at h4
    split at h4
    ·assumption
    ·cases h4
   |_=>cases hv
  obtain⟨cs,e,hr⟩:=QR (fun _ _=>none) V [z] [] hz;exact key hz hr e
 subst hz;simp only[zeroValue,typeInfo,program,aZU,Sem.run,aYM,h1,h3,aZT]
theorem GT{κ ν:Type}{e:κ→κ→Bool}{d:ν}{k:κ}:∀ {es:List (κ×ν)},jI e es k=false→nO e d es k=d
 | [],_=>rfl
 |y::l,hh=>by
  simp only[jI] at hh
  cases hy:e k y.1 with
  |true=>rw[hy] at hh; simp[bor] at hh
  |false =>
   rw[hy] at hh;simp only[bor,aZN] at hh;simp only[nO,hy,cond_false];exact GT hh
theorem RA(hE:EnvOk E){t:TypeId}(ho:o.op=.makeMap t none) (h:BZ E tk t k=some r):∃out,k out=some r∧bF E g ob tk o out:=by
 unfold BZ at h
 split at h
 ·rename_i K V hm
  split at h
  ·rename_i e hk;obtain⟨kt,vt,hu,hku,hvt,hv⟩:=CV hE hm hk;refine⟨_,h,bF.make fun w0 K0 H γ ob1 K1 a w hr hle hH h0 hj=>?_⟩;refine⟨.map (some w.heap.size),⟨some ⟨w.heap.size,0,none⟩,0,0,0,0⟩,w.drawn,.map #[] 0,?_,aZ1 _,fun ad had=>by injection had with had; subst had; rfl,?_,?_⟩
   ·simp only[execOp,ho,aY8,Instr.makeMap,aZU,aYM,aZT,newObj,Sem.run];rfl
   ·exact⟨w.heap.size,[],0,rfl,rfl,gW _ _,rfl,by rw[hk]; rfl,hv,fun o=>hH.knone (aZ0 _) o⟩
   ·exact⟨_,w.heap.size,aK _ _ _,rfl,rfl,rfl⟩
  ·cases h
 ·cases h
theorem aDP{w0 w:World}{K0 K1:Kn}{H:Nat→Prop}{γ:Ghs}{ob1:Obs}{j:Nat}{v:Value}{K V:Ty}{es:List (K.den×V.den)}(hH:Hp w0 K0 H γ ob1 K1 w) (hj:ob1 j=some (.map K V es)) (hv:aF γ K1 (.mp j) v) :
  ∃g b arr clock,γ j=some g∧g.hv=0∧g.a=some ⟨b,0,none⟩∧v=.map (some b)∧w.heap[b]?=some (.map (List.toArray arr) clock)∧GE K V es arr∧(jU K).isSome=true∧BY V=true∧∀o,K1 b o=none:=by
 obtain⟨g',b,k1,k2,k3,k4⟩:=hv;obtain⟨b',arr,clock,q0,q1,q2,q3,q4,q5,q6⟩:=hH.ok j _ g' hj k1;rw[k3] at q1;injection q1 with q1;injection q1 with q1;subst q1;exact⟨g',b,arr,clock,k1,k2,k3,k4,q2,q3,q4,q5,q6⟩
theorem aDQ(hE:EnvOk E){t:TypeId}{m x:Operand}{ok:Bool}{c:Cell}{vx:Val}(ho:o.op=.lookup t m x ok) (hm:g m=.val (.one c)) (hx:g x=.val vx) (h:aC1 E ob t c vx ok k=some r):∃out,k out=some r∧bF E g ob tk o out:=by
 unfold aC1 at h
 split at h
 ·rename_i j
  split at h
  ·rename_i K V es hj
   split at h
   ·rename_i e kx hmi hk hkx;obtain⟨kt,vt,hu,hku,hvt,hv⟩:=CV hE (QZ hmi) hk
    have run:∀ {w0:World} {K0:Kn} {H:Nat→Prop} {γ:Ghs} {ob1:Obs} {K1:Kn} {a:Act} {w:World},(∀x∈o.op.operands.toList,aV γ K1 (g x) (a.eval x))→(∀j x,ob j=some x→ob1 j=some x)→Hp w0 K0 H γ ob1 K1 w →
      (execOp a.eval o).run E.P w=.ok (.value (if ok then .tuple #[eF V (nO e V.dflt es kx),.bool (jI e es kx)] else eF V (nO e V.dflt es kx))) w:=by
     intro w0 K0 H γ ob1 K1 a w hr hle hH
     have r1:=hr m (by simp[ho,Op.operands])
     have r2:=hr x (by simp[ho,Op.operands])
     rw[hm] at r1; rw[hx] at r2;obtain⟨g',b,arr,clock,k1,k2,k3,k4,k5,k6,k7,k8,k9⟩:=aDP hH (hle _ _ hj) r1
     have e2:a.eval x=eF K kx:=YA (.inl (by rw[hk]; rfl)) hkx r2
     have hz:=aDO hE hvt hv w
     have hck:∀b:Bool,(Instr.checkKey b 10000 kt (eF K kx)).run E.P w=.ok () w:=fun b=>zR hk hku b kx w 9999
     have hf:=tU (V:=V) hk kx es arr 0 k6
     simp only[execOp,ho,k4,e2,Instr.lookup,aZU,bE hu,aYM,getObj,Sem.run,k5,aZT,hck,Instr.findKey,bE hku,hf]
     cases hh:jI e es kx with
     |true=>cases ok<;>rfl
     |false =>
      have hg:nO e V.dflt es kx=V.dflt:=GT hh
      simp[hz,hg]
    split at h
    ·refine⟨_,h,bF.still fun w0 K0 H γ ob1 K1 a w hr hle hH=>⟨_,run hr hle hH,?_⟩⟩;exact⟨[eF V (nO e V.dflt es kx),.bool (jI e es kx)],rfl,_,_,rfl,QX hv _ γ K1,_,_,rfl,eM (γ:=γ) (K:=K1) _,rfl⟩
    ·refine⟨_,h,bF.still fun w0 K0 H γ ob1 K1 a w hr hle hH=>⟨_,run hr hle hH,?_⟩⟩;exact QX hv _ γ K1
   ·cases h
  ·cases h
 ·cases h
theorem aA3(hE:EnvOk E){t:TypeId}{m x y:Operand}{c:Cell}{vx vy:Val}(ho:o.op=.mapUpdate t m x y) (hm:g m=.val (.one c)) (hx:g x=.val vx) (hy:g y=.val vy) (h:WK E ob t c vx vy k=some r):∃out,k out=some r∧bF E g ob tk o out:=by
 unfold WK at h
 split at h
 ·rename_i j
  split at h
  ·rename_i K V es hj
   split at h
   ·rename_i e kx vv hmi hk hkx hvy;obtain⟨kt,vt,hu,hku,hvt,hv⟩:=CV hE (QZ hmi) hk;refine⟨_,h,?_⟩;intro w0 K0 H γ ob1 K1 a w hr hle hH hG _ _ h0 next Q hn
    have r1:=hr m (by simp[ho,Op.operands])
    have r2:=hr x (by simp[ho,Op.operands])
    have r3:=hr y (by simp[ho,Op.operands])
    rw[hm] at r1; rw[hx] at r2; rw[hy] at r3;obtain⟨g',b,arr,clock,k1,k2,k3,k4,k5,k6,k7,k8,k9⟩:=aDP hH (hle _ _ hj) r1
    have e2:a.eval x=eF K kx:=YA (.inl (by rw[hk]; rfl)) hkx r2
    have e3:a.eval y=eF V vv:=YA (.inr hv) hvy r3
    have hf:=tU (V:=V) hk kx es arr 0 k6
    have hck:∀b:Bool,(Instr.checkKey b 10000 kt (eF K kx)).run E.P w=.ok () w:=fun b=>zR hk hku b kx w 9999
    have hbs:b<w.heap.size:=(aW3.1 k5).1
    have fin:∀(arr':List MapEntry) (clock':Nat),GE K V (pY e es kx vv) arr'→(execOp a.eval o).run E.P w=.ok .skip { w with heap:=w.heap.setIfInBounds b (.map (List.toArray arr') clock') }→o.wp E.P a w next Q:=by
     intro arr' clock' hR hrun;unfold Oper.wp;rw[hrun];obtain⟨t1,t2⟩:=hH.turn (w':={ w with heap:=w.heap.setIfInBounds b (.map (List.toArray arr') clock') }) j g' (.map K V (pY e es kx vv)) rfl rfl rfl (by simp) (fun gg hgg=>by rw[k1] at hgg; injection hgg with hgg; subst hgg; exact⟨aZ0 _,fun _=>rfl⟩)
      (fun b2 _ hne=>by
       have:=hne _ g' _ (hle _ _ hj) k1 rfl k3
       simp only at this ⊢;rw[Array.getElem?_setIfInBounds_ne (Ne.symm this)])
      (fun _ ad had=>.inr ⟨_,g',_,hle _ _ hj,k1,rfl,k3,by rw[k3] at had; injection had with had; rw[←had]⟩)
      ⟨b,arr',clock',k2,k3,by simp[hbs],hR,k7,k8,k9⟩
     rw[fP k1] at t1 t2;exact hn _ γ K1 _ ⟨t1,Kn.le.refl K1,trivial,t2,fun i gg hgg=>.inl hgg,fun i hi=>absurd hi (aY6 i)⟩
    cases hh:jI e es kx with
    |true =>
     obtain⟨en,q1,q2⟩:=R2 hk kx es arr k6 hh
     have hkk:((((List.toArray arr)[GH e es kx]?).map (·.key)).getD (eF K kx))=eF K kx:=by
      rw[List.getElem?_toArray,q1]; exact q2
     refine fin _ clock (R3 kx vv es arr k6 hh) ?_;rw[hh] at hf;simp only[execOp,ho,k4,e2,e3,Instr.mapUpdate,aZU,bE hu,aYM,getObj,Sem.run,k5,aZT,hck,Instr.findKey,bE hku,hf,cond_true,aZS,hkk,Instr.keyThatStays,QY hk,if_true,setObj];simp
    |false =>
     refine fin _ (clock+1) (qJ kx vv clock es arr k6 hh) ?_;rw[hh] at hf;simp only[execOp,ho,k4,e2,e3,Instr.mapUpdate,aZU,bE hu,aYM,getObj,Sem.run,k5,aZT,hck,Instr.findKey,bE hku,hf,cond_false,setObj];simp
   ·cases h
  ·cases h
 ·cases h
end
end Go.W
end

section
namespace Go.W
open Go Go.RowKit
section
variable {E:Env} {g:Operand→SV} {ob:Obs} {tk:Nat} {o:Oper} {α:Type} {k:Out→Option α} {r:α}
theorem aMC{c0:Call}{x y:Cell}{kx ky:IntKind}{m n:Int}(ho:o.op=.call c0) (hcal:c0.callee=.builtin .min) (has:eY g c0.args.toList=[.val (.one x),.val (.one y)]) (h1:fT x=some (kx,m)) (h2:fT y=some (ky,n)) (hk:qA kx ky=true) :
  bF E g ob tk o (cA (mkI kx (kY m n))):=by
 refine bF.still fun w0 K0 H γ ob1 K a w hr _ _=>?_
 obtain⟨vx,vy,ha,rx,ry⟩:=aDK ho hcal has hr
 have e1:=dW h1 rx
 have e2:=dW h2 ry
 have hk:=nS hk
 subst hk
 have hv:(c0.args.map a.eval).toList=[.int kx m,.int kx n]:=by rw[ha,e1.1,e2.1]
 refine⟨.int kx (kY m n),?_,oV fun e=>?_⟩
 ·simp only[execOp,ho,resolve,hcal,aZU,aZT,aYM,invoke,builtin,Builtin.min_,hv,List.foldlM_cons,List.foldlM_nil,Builtin.min2];congr 2;unfold kY;congr 1;omega
 ·have:=e1.2 e; have:=e2.2 e; unfold kY; omega
theorem aMD{c0:Call}{x y:Cell}{kx ky:IntKind}{m n:Int}(ho:o.op=.call c0) (hcal:c0.callee=.builtin .max) (has:eY g c0.args.toList=[.val (.one x),.val (.one y)]) (h1:fT x=some (kx,m)) (h2:fT y=some (ky,n)) (hk:qA kx ky=true) :
  bF E g ob tk o (cA (mkI kx (PY m n))):=by
 refine bF.still fun w0 K0 H γ ob1 K a w hr _ _=>?_
 obtain⟨vx,vy,ha,rx,ry⟩:=aDK ho hcal has hr
 have e1:=dW h1 rx
 have e2:=dW h2 ry
 have hk:=nS hk
 subst hk
 have hv:(c0.args.map a.eval).toList=[.int kx m,.int kx n]:=by rw[ha,e1.1,e2.1]
 refine⟨.int kx (PY m n),?_,oV fun e=>?_⟩
 ·simp only[execOp,ho,resolve,hcal,aZU,aZT,aYM,invoke,builtin,Builtin.max_,hv,List.foldlM_cons,List.foldlM_nil,Builtin.max2];congr 2;unfold PY;congr 1;omega
 ·have:=e1.2 e; have:=e2.2 e; unfold PY; omega
theorem RB(g:Operand→SV):∀l:List Operand,(eY g l).length=l.length
 | []=>rfl
 |_::l=>by simp[eY,RB g l]
theorem aME(hE:EnvOk E){c0:Call}{t:TypeId}{ts:List TypeId}{v:Val}{as:List SV}(h:(match E.t t with
  |some (.arr n _)=>k (cA (.v (.int .i64) (ofN n)))
  |some .str=>match v with
   | .one (.v .str s)=>k (cA (.v (.int .i64) (len s)))
   |_=>none
  |some (.slice _)=>match v with
   | .one c=>aH0 ob c fun c=>k (cA c)
   |_=>none
  |_=>none)=some r) (ho:o.op=.call c0) (hcal:c0.callee=.builtin .len) (hts:c0.argTypes.toList=t::ts) (has:eY g c0.args.toList=.val v::as):∃out,k out=some r∧bF E g ob tk o out:=by
 have hta:c0.argTypes[0]?=some t:=by rw[←aXM,hts]; rfl
 have arg:∀ {γ:Ghs} {K:Kn} {a:Act},(∀x∈o.op.operands.toList,aV γ K (g x) (a.eval x))→∃vx,(c0.args.map a.eval)[0]?=some vx∧bY γ K v vx:=by
  intro γ K a hr
  have hr':∀z∈c0.args.toList,aV γ K (g z) (a.eval z):=fun z hz=>hr z (by simp[ho,Op.operands,Call.operands,hcal]; simpa using hz)
  obtain⟨vx,h1,h2⟩:=iT hr' 0 _ (by rw[has]; rfl);exact⟨vx,by rw[←aXM,aYX]; exact h1,h2⟩
 split at h
 ·rename_i n e ht;obtain⟨ei,hu,_⟩:=hE.und ht;refine⟨_,h,bF.still fun w0 K0 H γ ob1 K a w hr _ _=>?_⟩;obtain⟨vx,h1,h2⟩:=arg hr;refine⟨.int .i64 (n:Int),?_,rfl⟩;simp only[execOp,ho,resolve,hcal,aZU,aZT,aYM,invoke,builtin,Builtin.len_,hta,h1,bE hu,goInt]
 ·rename_i ht
  split at h
  ·rename_i s;refine⟨_,h,bF.still fun w0 K0 H γ ob1 K a w hr _ _=>?_⟩;obtain⟨vx,h1,h2⟩:=arg hr
   have hv:vx=.string (bst s):=by simpa [bY,aF,aT] using h2
   refine⟨.int .i64 (len s),?_,rfl⟩;rw[hv] at h1;simp only[execOp,ho,resolve,hcal,aZU,aZT,aYM,invoke,builtin,Builtin.len_,hta,h1,bE (hE.und ht),goInt,cD,len]
  ·cases h
 ·rename_i e ht;obtain⟨ei,hu,_⟩:=hE.und ht
  split at h
  ·rename_i c;obtain⟨n,h1,h2⟩:=aIA h;refine⟨_,h1,bF.still fun w0 K0 H γ ob1 K a w hr hle hH=>?_⟩;obtain⟨vx,h3,h4⟩:=arg hr;obtain⟨A,m,cap,e1,e2⟩:=h2 w0 K0 H γ ob1 K w vx h4 hle hH;refine⟨.int .i64 n,?_,rfl⟩;rw[e1] at h3;simp only[execOp,ho,resolve,hcal,aZU,aZT,aYM,invoke,builtin,Builtin.len_,hta,h3,bE hu,goInt,e2]
  ·cases h
 ·cases h
theorem RC(hE:EnvOk E){c0:Call}{b:Builtin}(ho:o.op=.call c0) (hcal:c0.callee=.builtin b) (h:CD E ob tk b c0.argTypes.toList (eY g c0.args.toList) k=some r):∃out,k out=some r∧bF E g ob tk o out:=by
 unfold CD at h
 split at h
 ·rename_i t ts v as hts has;exact aME hE h ho hcal hts has
 ·rename_i t u x y hts has
  split at h
  ·rename_i e hT hu
   split at h
   ·rename_i i hi;unfold aQ at h
    split at h
    ·exact XO hE ho hcal hts has hT hu hi h
    ·exact WZ hE ho hcal hts has hT hu hi h
   ·cases h
  ·cases h
 ·rename_i t ts x y hts has;exact aDL hE ho hcal hts has h
 ·rename_i ts x y hts has
  split at h
  ·rename_i kx m ky n h1 h2;obtain⟨hk,h⟩:=aY h;exact⟨_,h,aMC ho hcal has h1 h2 hk⟩
  ·cases h
 ·rename_i ts x y hts has
  split at h
  ·rename_i kx m ky n h1 h2;obtain⟨hk,h⟩:=aY h;exact⟨_,h,aMD ho hcal has h1 h2 hk⟩
  ·cases h
 ·cases h
def YC(v:SV) (f:Nat) (ex:List SV):Prop:=(v=.val (.one (.fn f))∧ex=[])∨∃js,v=.val (.one (.clo f js))∧ex=aC4 js
def jQ(E:Env) (tab:List Con):Prop:=∀(g:Operand→SV) (ob:Obs) (tk:Nat) (o:Oper) (α:Type) (k:Out→Option α) (r:α) (c:Call) (x:Operand) (f:Nat) (ex:List SV),o.op=.call c→c.callee=.value x→YC (g x) f ex→QI tab ob tk f (app (eY g c.args.toList) ex) k=some r→∃out,k out=some r∧bF E g ob tk o out
theorem RD{α:Type}:∀l:List α,app l []=l
 | []=>rfl
 |x::l=>congrArg (x::·) (RD l)
theorem GU{γ:Ghs}{K:Kn}{g:Operand→SV}{ev:Operand→Value}:∀(l:List Operand){js:List Nat},CB (eY g l)=some js→(∀x∈l,aV γ K (g x) (ev x))→nQ γ js (l.map ev)
 | [],js,h,_=>by
  simp only[eY,CB,Option.some.injEq] at h;subst h;rfl
 |x::l,js,h,hr=>by
  have hx:=hr x aYE
  simp only[eY] at h;unfold CB at h
  split at h
  ·rename_i e; cases e
  ·rename_i j r e;injection e with e1 e2;rw[e1] at hx
   split at h
   ·rename_i js' hj;injection h with h;subst h;subst e2;obtain⟨g',b,q1,q2,q3,q4⟩:=hx;exact⟨g',b,_,by rw[aZM,q4],q1,q2,q3,GU l hj fun y hy=>hr y (aXV _ hy)⟩
   ·cases h
  ·cases h
theorem aID{kk:IntKind}{n:Int}{k':IntKind}{m:Int}(h:fT (ofV (.int kk n))=some (k',m)):m=n:=by
 unfold ofV at h
 split at h
 ·rename_i i heq;injection heq with e1 e2;subst e2;unfold aQ at h
  split at h
  ·rename_i hb;simp only[fT,Option.some.injEq,Prod.mk.injEq] at h;rw[←h.2];unfold n8;rw[UInt8.toNat_ofNat']
   have:=aXL hb
   show((i%256:Nat):Int)=Int.ofNat i;rw[Nat.mod_eq_of_lt this];rfl
  ·cases h
 ·cases h
 ·rename_i k2 n2 p1 p2 heq;injection heq with e1 e2;subst e1; subst e2;unfold fT at h
  split at h
  ·cases h
  ·rename_i h2; injection h2 with h2 h3; injection h2 with h2; subst h2; subst h3;simp only[Option.some.injEq,Prod.mk.injEq] at h; exact h.2.symm
  ·rename_i h2; cases h2
  ·cases h
 all_goals first|(rename_i heq; cases heq; done)|(cases h; done)
theorem aIE{P:Program}{t pe:TypeId}(hu:P.underlying t=some (.pointer pe)) (w:World) (d:Nat) (a:Addr):(Op.equalIn (d+1) t (.pointer (some a)) (.pointer none)).run P w=.ok false w:=by
 rw[Op.equalIn,aZU,bE hu]; rfl
theorem aIF{P:Program}{t pe:TypeId}(hu:P.underlying t=some (.pointer pe)) (w:World) (d:Nat):(Op.equalIn (d+1) t (.pointer none) (.pointer none)).run P w=.ok true w:=by
 rw[Op.equalIn,aZU,bE hu]; rfl
theorem aMF{P:Program}{t pe:TypeId}(hu:P.underlying t=some (.slice pe)) (w:World) (d:Nat) (A:Option Addr) (n c:Nat):(Op.equalIn (d+1) t (.slice A n c) (.slice none 0 0)).run P w=.ok A.isNone w:=by
 rw[Op.equalIn,aZU,bE hu];cases A<;>rfl
theorem KD{P:Program}{t:TypeId}{x y:Operand}{a b:Value}{w:World}{e:Bool}(h:(Op.equalIn (9999+1) t a b).run P w=.ok e w) (hg:∀op,(eqGuard op t x y a b).run P w=.ok () w) (he:binOp .eql t a b=(do pure (.bool (←Op.equal t a b)))) (hn:binOp .neq t a b=(do pure (.bool (!(←Op.equal t a b))))) :
  (do eqGuard .eql t x y a b; binOp .eql t a b:Sem Value).run P w=.ok (.bool e) w∧(do eqGuard .neq t x y a b; binOp .neq t a b:Sem Value).run P w=.ok (.bool (!e)) w:=by
 constructor
 ·rw[aZU,hg,he];simp only[aYM,Op.equal,Op.maxDepth,aZU,h,aZT]
 ·rw[aZU,hg,hn];simp only[aYM,Op.equal,Op.maxDepth,aZU,h,aZT]
theorem R4{P:Program}{t:TypeId}{x y:Operand}{a b:Option Addr}{w:World}(op:BinOp):(eqGuard op t x y (.pointer a) (.pointer b)).run P w=.ok () w:=by
 cases op<;>rfl
theorem aIG{P:Program}{t:TypeId}{x y:Operand}{a b:Option Addr}{n c n' c':Nat}{w:World}(op:BinOp):(eqGuard op t x y (.slice a n c) (.slice b n' c')).run P w=.ok () w:=by
 cases op<;>rfl
theorem sB{P:Program}{t pe:TypeId}(hu:P.underlying t=some (.pointer pe)) (x y:Operand) (w:World) (a:Addr) :
  (do eqGuard .eql t x y (.pointer (some a)) (.pointer none); binOp .eql t (.pointer (some a)) (.pointer none):Sem Value).run P w=.ok (.bool false) w∧(do eqGuard .neq t x y (.pointer (some a)) (.pointer none); binOp .neq t (.pointer (some a)) (.pointer none):Sem Value).run P w=.ok (.bool true) w :=
 KD (aIE hu w _ a) R4 rfl rfl
theorem GV{P:Program}{t pe:TypeId}(hu:P.underlying t=some (.pointer pe)) (x y:Operand) (w:World) :
  (do eqGuard .eql t x y (.pointer none) (.pointer none); binOp .eql t (.pointer none) (.pointer none):Sem Value).run P w=.ok (.bool true) w∧(do eqGuard .neq t x y (.pointer none) (.pointer none); binOp .neq t (.pointer none) (.pointer none):Sem Value).run P w=.ok (.bool false) w :=
 KD (aIF hu w _) R4 rfl rfl
theorem CW{P:Program}{t pe:TypeId}(hu:P.underlying t=some (.slice pe)) (x y:Operand) (w:World) (A:Option Addr) (n c:Nat) :
  (do eqGuard .eql t x y (.slice A n c) (.slice none 0 0); binOp .eql t (.slice A n c) (.slice none 0 0):Sem Value).run P w=.ok (.bool A.isNone) w∧(do eqGuard .neq t x y (.slice A n c) (.slice none 0 0); binOp .neq t (.slice A n c) (.slice none 0 0):Sem Value).run P w=.ok (.bool !A.isNone) w :=
 KD (aMF hu w _ A n c) aIG rfl rfl
theorem aA4(hE:EnvOk E){op:BinOp}{t yt:TypeId}{x y:Operand}{c d:Cell}{e:Bool}(ho:o.op=.binOp op t x y yt) (hx:g x=.val (.one c)) (hy:g y=.val (.one d)) (hn:WA (E.t t) c d op=some e):bF E g ob tk o (cA (.v .bool e)):=by
 refine bF.still fun w0 K0 H γ ob1 K a w hr _ _=>⟨.bool e,?_,rfl⟩
 have h1:=hr x (by simp[ho,Op.operands])
 have h2:=hr y (by simp[ho,Op.operands])
 rw[hx] at h1;rw[hy] at h2
 have fin:(do eqGuard op t x y (a.eval x) (a.eval y); binOp op t (a.eval x) (a.eval y):Sem Value).run E.P w=.ok (.bool e) w→(execOp a.eval o).run E.P w=.ok (.value (.bool e)) w:=fun q=>by
  simp only[execOp,ho,aZU] at q ⊢;rw[q];rfl
 refine fin ?_;unfold WA at hn
 split at hn
 ·rename_i j off ht;injection hn with hn; subst hn;obtain⟨pe,hu⟩:=hE.und ht;obtain⟨g',b,_,_,_,h4⟩:=h1
  have h2:a.eval y=.pointer none:=h2
  rw[h4,h2];exact(sB hu x y w _).1
 ·rename_i j off ht;injection hn with hn; subst hn;obtain⟨pe,hu⟩:=hE.und ht;obtain⟨g',b,_,_,_,h4⟩:=h1
  have h2:a.eval y=.pointer none:=h2
  rw[h4,h2];exact(sB hu x y w _).2
 ·rename_i t' z ht;injection hn with hn; subst hn;obtain⟨pe,hu⟩:=hE.und ht;obtain⟨ad,cs,h4,_⟩:=h1
  have h2:a.eval y=.pointer none:=h2
  rw[h4,h2];exact(sB hu x y w _).1
 ·rename_i t' z ht;injection hn with hn; subst hn;obtain⟨pe,hu⟩:=hE.und ht;obtain⟨ad,cs,h4,_⟩:=h1
  have h2:a.eval y=.pointer none:=h2
  rw[h4,h2];exact(sB hu x y w _).2
 ·rename_i ht;injection hn with hn; subst hn;obtain⟨pe,hu⟩:=hE.und ht
  have h1:a.eval x=.pointer none:=h1
  have h2:a.eval y=.pointer none:=h2
  rw[h1,h2];exact(GV hu x y w).1
 ·rename_i ht;injection hn with hn; subst hn;obtain⟨pe,hu⟩:=hE.und ht
  have h1:a.eval x=.pointer none:=h1
  have h2:a.eval y=.pointer none:=h2
  rw[h1,h2];exact(GV hu x y w).2
 ·rename_i e' ht;injection hn with hn; subst hn;obtain⟨pe,hu,_⟩:=hE.und ht
  have h1:a.eval x=.slice none 0 0:=h1
  have h2:a.eval y=.slice none 0 0:=h2
  rw[h1,h2];exact(CW hu x y w none 0 0).1
 ·rename_i e' ht;injection hn with hn; subst hn;obtain⟨pe,hu,_⟩:=hE.und ht
  have h1:a.eval x=.slice none 0 0:=h1
  have h2:a.eval y=.slice none 0 0:=h2
  rw[h1,h2];exact(CW hu x y w none 0 0).2
 ·cases hn
theorem KE(hE:EnvOk E){t:TypeId}{x:Operand}{lo hi mx:Option Operand}{c:Cell}{l h m:Option (IntKind×Int)}(ho:o.op=.slice t x lo hi mx) (hx:g x=.val (.one c)) (hl:CC g lo=some l) (hh:CC g hi=some h) (hm:CC g mx=some m)
  (hk:xG E ob tk t c l h m k=some r):∃out,k out=some r∧bF E g ob tk o out:=by
 unfold xG at hk
 split at hk
 ·rename_i e j hv kh h' km m' ht
  split at hk
  ·rename_i hh' e' xs hob
   split at hk
   ·rename_i xs' hb hx';obtain⟨e1,e2⟩:=aU hx';injection e1 with e1;subst e1;subst e2;obtain⟨hgd,hk⟩:=aP hk
    have hgd:0≤h'∧h'≤m'∧m'≤((xs.length:Nat):Int):=of_decide_eq_true hgd
    have hb:=aXJ hb
    subst hb;obtain⟨ei,hu,he⟩:=hE.und ht;refine⟨_,hk,?_⟩;intro w0 K0 H γ ob1 K a w hr hle hH hG _ hver h0 next Q hn
    have r1:=hr x (by simp[ho,Op.operands])
    rw[hx] at r1;obtain⟨_,g',k1,_,_,k4⟩:=r1
    have hobj:=hle _ _ hob
    obtain⟨q1,q2,q3,q4,q5,vs,q6,q7,q8⟩:=hH.ok j _ g' hobj k1
    have hval:=k4 q1
    have e1:=rZ (γ:=γ) (K:=K) (a:=a) hl (fun y hy=>hr y (by subst hy; simp[ho,Op.operands]))
    have e2:=rZ (γ:=γ) (K:=K) (a:=a) hh (fun y hy=>hr y (by subst hy; simp[ho,Op.operands]))
    have e3:=rZ (γ:=γ) (K:=K) (a:=a) hm (fun y hy=>hr y (by subst hy; simp[ho,Op.operands]))
    have hcap:xs.length≤g'.c:=by
     rcases q6.2 with⟨_,_,z⟩|⟨b,cur,ee,fz,_,_,_,z,_⟩
     ·omega
     ·exact z
    have hrun:(execOp a.eval o).run E.P w=.ok (.value (.slice g'.a h'.toNat m'.toNat)) w:=by
     simp only[execOp,ho,e1,e2,e3,hval,aY8,aY7,Instr.sliceAt,Instr.slice,Instr.sliceBounds,ivv,aZU,bE hu,aYM,aZT];rw[lL (y:=g'.c) ⟨by omega,by omega⟩];simp only[aYM];rw[lL (y:=m'.toNat) ⟨by omega,by omega⟩];simp only[aYM,hE.size he w,Nat.sub_zero];congr 3
     split
     ·rfl
     ·cases g'.a with
      |none=>rfl
      |some ad=>simp[Addr.add]
    unfold Oper.wp;rw[hrun]
    have hver':=hver (j,.row tk e' (bO (toN h') xs)) aYE g' k1
    have hln:(bO (toN h') xs).length=h'.toNat:=by simp only[bO,toN,aYU]; omega
    have hok:eG (cH γ j ⟨g'.a,m'.toNat,h'.toNat,e'.size,tk⟩) K w ⟨g'.a,m'.toNat,h'.toNat,e'.size,tk⟩ (.row tk e' (bO (toN h') xs)):=by
     refine⟨rfl,h0,hln.symm,rfl,q5,vs.take (h'.toNat*e'.size),⟨?_,?_⟩,?_,q8⟩
     ·have hvl:=q6.1
      have:=aXW e'.size (show h'.toNat≤xs.length by omega)
      rw[hln,aYU]; omega
     ·rw[hln];rcases q6.2 with⟨z1,z2,z3⟩|⟨b,cur,ee,fz,z1,z2,z3,z4,z5,z6,z7⟩
      ·exact .inl ⟨z1,by show m'.toNat=0; omega,by omega⟩
      ·refine .inr ⟨b,cur,ee,fz,z1,z2,z3,by show h'.toNat≤m'.toNat; omega,by show m'.toNat≤maxLen; omega,?_,?_⟩
       ·exact aZR (aXW _ (show m'.toNat≤g'.c by omega)) z6
       ·exact⟨by rw[←z7.1,List.take_take,Nat.min_eq_left (aXW _ (by omega))],z7.2⟩
     ·have:=fE (R:=aT K e') (n:=e'.size) bA h'.toNat q7
      simpa [bO,toN] using this
    obtain⟨t1,t2⟩:=hH.turn (w':=w) j ⟨g'.a,m'.toNat,h'.toNat,e'.size,tk⟩ (.row tk e' (bO (toN h') xs)) rfl rfl rfl (aZ0 _)
     (fun gg hgg=>by rw[k1] at hgg; injection hgg with hgg; subst hgg; exact⟨Nat.le_of_lt hver',fun hc=>by simp only at hc; exfalso; rw[q1] at hc hver'; omega⟩)
     (fun b2 _ _=>rfl)
     (fun _ ad had=>.inr ⟨_,g',ad,hobj,k1,rfl,had,rfl⟩) hok
    refine hn _ _ K _ ⟨t1,Kn.le.refl K,⟨rfl,_,aK _ _ _,h0,aZ0 _,fun _=>rfl⟩,t2,fun i gg hgg=>?_,fun i hi=>absurd hi (aY6 i)⟩
    by_cases hij:i=j
    ·subst hij;rw[aK] at hgg;injection hgg with hgg;subst hgg;exact .inr ⟨aZ0 _,.inl ⟨_,k1⟩⟩
    ·rw[bC _ _ hij] at hgg;exact .inl hgg
   ·cases hk
  ·cases hk
 ·cases hk
theorem Hp.mark{w0:World}{K0:Kn}{H:Nat→Prop}{γ:Ghs}{ob:Obs}{K:Kn}{w w':World}(h:Hp w0 K0 H γ ob K w){A:Option Addr}(hs:JZ w w' A) (ho:∀ad,A=some ad→w0.heap.size≤ad.block∨H ad.block)
  (hn:∀j o g ad' ad,ob j=some o→γ j=some g→o.owns=true→g.a=some ad'→A=some ad→ad'.block≠ad.block):Hp w0 K0 H γ ob K w':=by
 obtain⟨s1,s2,s3,s4,s5,s6⟩:=hs
 have old:∀(b:Nat) (cs:Array Value) (e:TypeId) (fz:Nat×Nat),w.heap[b]?=some (Obj.cells cs e fz)→∃fz',w'.heap[b]?=some (Obj.cells cs e fz'):=fun b cs e fz hb=>by
  have hlt:=(aW3.1 hb).1
  by_cases hA:∃ad,A=some ad∧b=ad.block
  ·obtain⟨ad,h1,h2⟩:=hA;subst h2;exact s6 ad h1 cs e fz hb
  ·exact⟨fz,by rw[s5 b hlt fun ad had hc=>hA ⟨ad,had,hc⟩]; exact hb⟩
 refine⟨s1.trans h.os,s2.trans h.tape,s3.trans h.output,aZR h.size s4,fun b hb hH=>?_,h.mono,fun b o v hv=>?_,fun j o g h1 h2=>?_,h.own,h.sep⟩
 ·refine⟨?_,(h.blk b hb hH).2⟩;rw[s5 b (aYD hb h.size) fun ad had hc=>?_]
  ·exact(h.blk b hb hH).1
  ·subst hc;rcases ho ad had with k|k
   ·omega
   ·exact hH k
 ·obtain⟨cs,e,fz,h1,h2⟩:=h.kok b o v hv;obtain⟨fz',h3⟩:=old b cs e fz h1;exact⟨cs,e,fz',h3,h2⟩
 ·have hok:=h.ok j o g h1 h2
  refine hok.mono (Ghs.le.refl γ) (Kn.le.refl K) fun how ad had=>⟨s5 _ ?_ fun ad2 h3 hc=>hn j o g ad ad2 h1 h2 how had h3 hc,fun _=>rfl⟩
  cases o with
  |box t cs =>
   obtain⟨b,vs,_,q1,⟨us,q2,_⟩,_⟩:=hok;rw[had] at q1; injection q1 with q1; subst q1;exact(aW3.1 q2).1
  |row hv t xs =>
   obtain⟨_,_,_,_,_,vs,q6,_⟩:=hok;rcases q6.2 with⟨z1,_⟩|⟨b,cur,ee,fz,z1,z2,_⟩
   ·rw[had] at z1; cases z1
   ·rw[had] at z1; injection z1 with z1; subst z1;exact(aW3.1 z2).1
  |opn hv t xs cs =>
   obtain⟨_,_,_,_,_,vs,us,q6,_⟩:=hok;rcases q6.2 with⟨z1,_⟩|⟨b,cur,ee,fz,z1,z2,_⟩
   ·rw[had] at z1; cases z1
   ·rw[had] at z1; injection z1 with z1; subst z1;exact(aW3.1 z2).1
  |iter s p =>
   obtain⟨b,_,q1,q2,_⟩:=hok;rw[had] at q1; injection q1 with q1; subst q1;exact(aW3.1 q2).1
  |map kt vt es =>
   obtain⟨b,_,_,_,q1,q2,_⟩:=hok;rw[had] at q1; injection q1 with q1; subst q1;exact(aW3.1 q2).1
  |frz _ _ _=>cases how
  |gone=>cases how
theorem nG{K:Kn}:∀ {xs:Y_}{vs:List Value},dH (aT K .u8) xs vs→vs=xs.map fun b=>Value.int .u8 (b.toNat:Int)
 | [],vs,h=>h
 |x::xs,vs,h=>by
  obtain⟨c1,c2,e1,e2,e3⟩:=h
  have e2:c1=[Value.int .u8 (x.toNat:Int)]:=e2
  rw[e1,e2,nG e3];rfl
theorem aMG(hE:EnvOk E){c0:Call}{xf:Operand}{f t:Nat}(ho:o.op=.call c0) (hcal:c0.callee=.value xf) (hx:g xf=.val (.one (.fn f))) (hb:aL6 E f=some t) (h:bsC ob t (eY g c0.args.toList) k=some r) :
  ∃out,k out=some r∧bF E g ob tk o out:=by
 have hbs:E.bs=some (f,t):=by
  unfold aL6 at hb
  split at hb
  ·rename_i z t' hz;unfold aQ at hb
   split at hb
   ·rename_i he
    have:=aXJ he
    subst this;injection hb with hb;subst hb;exact hz
   ·cases hb
  ·cases hb
 have args:∀ {j:Nat},eY g c0.args.toList=[.val (.one (.ptr j 0))]→∀ {γ:Ghs} {K:Kn} {a:Act} (w:World),(∀x∈o.op.operands.toList,aV γ K (g x) (a.eval x))→∃g' b,γ j=some g'∧g'.a=some ⟨b,0,none⟩∧(execOp a.eval o).run E.P w=(callFunc f #[.pointer (some ⟨b,0,none⟩)]).run E.P w:=by
  intro j has γ K a w hr
  have hfv:a.eval xf=.func (.func f) #[] #[]:=by
   have:=hr xf (by simp[ho,Op.operands,Call.operands,hcal])
   rw[hx] at this;exact this
  have hr':∀z∈c0.args.toList,aV γ K (g z) (a.eval z):=fun z hz=>hr z (by simp only[ho,Op.operands,Call.operands,hcal]; simp at hz ⊢; exact .inr hz)
  obtain⟨v,h1,h2⟩:=iT hr' 0 _ (by rw[has]; rfl);obtain⟨g',b,q1,q2,q3,q4⟩:=h2
  have hlen:c0.args.toList.length=1:=by
   have:(eY g c0.args.toList).length=c0.args.toList.length:=RB _ _
   rw[has] at this
   simpa using this.symm
  have hargs:c0.args.map a.eval=#[.pointer (some ⟨b,0,none⟩)]:=by
   apply aYW.1;rw[aYX]
   match hc:c0.args.toList,hlen with
   | [y],_ =>
    rw[hc] at h1;simp at h1;simp[h1,q4]
  refine⟨g',b,q1,q3,?_⟩;rw[←hargs];simp[execOp,ho,resolve,hcal,hfv,Deferred.ofValue,invoke]
 unfold bsC at h
 split at h
 ·rename_i j has
  split at h
  ·rename_i t' c1 c hob
   split at h
   ·rename_i ht
    have ht:=aXJ ht
    subst ht
    split at h
    ·refine⟨_,h,?_⟩;intro w0 K0 H γ ob1 K a w hr hle hH hG _ _ h0 next Q hn
     obtain⟨g',b,k1,k2,hex⟩:=args has w hr;obtain⟨b',vs,q0,q1,⟨us,q2,qs⟩,q3,q4⟩:=hH.ok j _ g' (hle _ _ hob) k1;rw[k2] at q1;injection q1 with q1;injection q1 with q1;subst q1;obtain⟨v1,vr,e1,_,_,v2,vr2,e2,e3,_,e4⟩:=q3
     have e4:vr2=[]:=e4
     have e3:v2=.slice none 0 0:=e3
     subst e4;subst e3;subst e2;subst e1;obtain⟨u1,u2,rfl⟩:∃u1 u2,us=[u1,u2]:=by
      have:=qs.1
      match us,this with
      | [u1,u2],_=>exact⟨u1,u2,rfl⟩
     have hu2:u2=.slice none 0 0:=by
      rcases qs.2 1 u2 (.slice none 0 0) rfl rfl with e|⟨e,_⟩
      ·exact e
      ·cases e
     subst hu2;obtain⟨c1',c2'⟩:=hE.bsok f t' hbs w b u1 none 0 [] (by simpa using q2) (aZ1 _) (.inl ⟨rfl,rfl,rfl⟩);unfold Oper.wp;rw[hex,c1',Oper.upon_enter];refine c2'.mono fun e w' he=>?_
     obtain⟨rfl,hs⟩:=he
     have hH':=hH.mark hs (fun ad had=>by cases had) (fun _ _ _ _ _ _ _ _ _ had=>by cases had)
     exact hn _ γ K w' ⟨Ghs.le.refl γ,Kn.le.refl K,rfl,hH',fun j g' hg=>.inl hg,fun i hi=>absurd hi (aY6 i)⟩
    ·rename_i i hv
     split at h
     ·rename_i hh xs hobi;obtain⟨hv2,h'⟩:=aY h
      have hv2:=aXJ hv2
      subst hv2;refine⟨_,h',?_⟩;intro w0 K0 H γ ob1 K a w hr hle hH hG _ _ h0 next Q hn
      obtain⟨g',b,k1,k2,hex⟩:=args has w hr;obtain⟨b',vs,q0,q1,⟨us,q2,qs⟩,q3,q4⟩:=hH.ok j _ g' (hle _ _ hob) k1;rw[k2] at q1;injection q1 with q1;injection q1 with q1;subst q1;obtain⟨v1,vr,e1,_,_,v2,vr2,e2,e3,_,e4⟩:=q3
      have e4:vr2=[]:=e4
      subst e4;subst e2;subst e1;obtain⟨_,gi,p1,_,_,p4⟩:=e3
      have hobi':=hle _ _ hobi
      obtain⟨r1,r2,r3,r4,r5,vi,r6,r7,r8⟩:=hH.ok i _ gi hobi' p1
      have hv2:=p4 r1
      subst hv2;obtain⟨u1,u2,rfl⟩:∃u1 u2,us=[u1,u2]:=by
       have:=qs.1
       match us,this with
       | [u1,u2],_=>exact⟨u1,u2,rfl⟩
      have hu2:u2=.slice gi.a gi.n gi.c:=by
       rcases qs.2 1 u2 (.slice gi.a gi.n gi.c) rfl rfl with e|⟨e,_⟩
       ·exact e
       ·cases e
      subst hu2
      have hvi:=nG r7
      have hpre:(gi.a=none∧gi.c=0∧xs=[])∨∃g cur fz,gi.a=some ⟨g,0,none⟩∧w.heap[g]?=some (.cells cur ub fz)∧aAS fz cur.size∧xs.length≤gi.c∧gi.c≤cur.size∧cur.toList.take xs.length=xs.map fun b=>Value.int .u8 (b.toNat:Int):=by
       rcases r6.2 with⟨z1,z2,z3⟩|⟨b2,cur,ee,fz,z1,z2,z3,z4,z5,z6,z7,z8⟩
       ·exact .inl ⟨z1,z2,aWZ z3⟩
       ·refine .inr ⟨b2,cur,fz,z1,?_,z3,z4,?_,?_⟩
        ·rw[←z8 rfl]; exact z2
        ·simpa [Ty.size] using z6
        ·rw[←hvi,←z7]; simp[Ty.size]
      have hcm:gi.c≤maxLen:=by
       rcases r6.2 with⟨_,z2,_⟩|⟨b2,cur,ee,fz,z1,z2,z3,z4,z5,_⟩
       ·rw[z2]; exact aZ1 _
       ·exact z5
      obtain⟨c1',c2'⟩:=hE.bsok f t' hbs w b u1 gi.a gi.c xs (by rw[r3] at q2; simpa using q2) hcm hpre;unfold Oper.wp;rw[hex,c1',Oper.upon_enter];refine c2'.mono fun e w' he=>?_
      obtain⟨rfl,hs⟩:=he;obtain⟨K',hK,hH',_⟩:=hH.frz i (.inl hobi')
      have hH2:=hH'.mark hs (fun ad had=>hH.own i _ gi hobi' p1 rfl ad had) (fun j2 o2 g2 ad' ad h1 h2 h3 h4 h5=>by
       by_cases hij:j2=i
       ·subst hij;rw[aK] at h1;injection h1 with h1;subst h1;cases h3
       ·rw[bC _ _ hij] at h1;exact hH.sep j2 i o2 _ g2 gi h1 hobi' h2 p1 h3 rfl hij ad' ad h4 h5)
      exact hn _ γ K' w' ⟨Ghs.le.refl γ,hK,rfl,hH2,fun j g' hg=>.inl hg,fun i hi=>absurd hi (aY6 i)⟩
     ·cases h
    ·cases h
   ·cases h
  ·cases h
 ·cases h
theorem aDR(hE:EnvOk E){tab:List Con}(htab:jQ E tab) (hg:∀v,g (.const v)=svV v) (h:opC E tab g ob tk o k=some r):∃out,k out=some r∧bF E g ob tk o out:=by
 unfold opC at h
 split at h
 ·rename_i x ho; exact⟨_,h,Q8 (.inl ho)⟩
 ·rename_i x ho; exact⟨_,h,Q8 (.inr ho)⟩
 ·rename_i c x y ho; exact aH7 ho h
 ·rename_i t ho; exact aDH hE ho h
 ·rename_i t x ho; exact aMB hE ho h
 ·rename_i t ps ho
  split at h
  ·rename_i l hl; exact aAZ hE ho hl h
  ·cases h
 ·rename_i t n ps ho
  split at h
  ·rename_i l hl;unfold aQ at h
   split at h
   ·rename_i hop;refine QV hE ?_ ho hl h;unfold aPQ at hop
    split at hop
    ·rfl
    ·cases hop
   ·exact CR hE ho hl h
  ·cases h
 ·rename_i t x ho
  split at h
  ·rename_i c hx; exact aDF hE ho hx h
  ·cases h
 ·rename_i t x y ho
  split at h
  ·rename_i c v hx hy; exact aA1 hE ho hx hy h
  ·cases h
 ·rename_i x ho; exact QS ho h
 ·rename_i op t x y yt ho
  split at h
  ·rename_i a b hx hy
   split at h
   ·rename_i e he; exact⟨_,h,aA4 hE ho hx hy he⟩
   split at h
   ·rename_i c hc; exact⟨_,h,aDE hE ho hx hc⟩
   refine aH8 ho hx hy (fun kk n e k' m hi=>?_) (fun hb=>?_) h
   ·subst e;rw[hg] at hy;simp only[svV] at hy;injection hy with hy;injection hy with hy;rw[←hy] at hi;exact aID hi
   ·unfold aCV at hb
    split at hb
    ·rename_i ht; exact hE.und ht
    ·cases hb
  ·rename_i a b hx hy; exact aMA hE h ho hx hy
  ·cases h
 ·rename_i op t x ho; exact aH9 h ho
 ·rename_i s d x ho
  split at h
  ·rename_i c hx; exact aDM hE ho hx h
  ·cases h
 ·rename_i f ho;refine⟨_,h,bF.still fun w0 K0 H γ ob1 K a w hr _ _=>⟨.func (.func f) #[] #[],?_,rfl⟩⟩;simp[execOp,ho,Instr.makeFunc]
 ·rename_i f cs _ ho
  split at h
  ·rename_i js hj;refine⟨_,h,bF.still fun w0 K0 H γ ob1 K a w hr _ _=>⟨.func (.func f) #[] (cs.map a.eval),?_,⟨(cs.toList.map a.eval),by
    congr 1;apply aYW.1;simp,GU cs.toList hj fun x hx=>hr x (by
     simp only[ho,Op.operands]
     simpa using hx)⟩⟩⟩
   simp[execOp,ho,Instr.makeFunc]
  ·cases h
 ·rename_i t x y ho; exact KC hE ho h
 ·rename_i t x lo hi mx ho
  split at h
  ·rename_i c l hh m hx hl hhh hm
   split at h
   ·exact aAY hE ho hx hl hhh hm h
   ·exact KE hE ho hx hl hhh hm h
  ·cases h
 ·rename_i t x f ho
  split at h
  ·rename_i c hx; exact GF hE ho hx h
  ·cases h
 ·rename_i t x f ho
  split at h
  ·rename_i cs hx; exact aAV hE ho hx h
  ·cases h
 ·rename_i t x i ho
  split at h
  ·rename_i c d hx hi; exact GG hE ho hx hi h
  ·cases h
 ·rename_i t x i ho
  split at h
  ·rename_i v c hx hi; exact aAW hE ho hx hi h
  ·cases h
 ·rename_i t x ho; exact aDI hE ho h
 ·rename_i x ho; exact aIC ho h
 ·rename_i t ho; exact RA hE ho h
 ·rename_i t m x y ho
  split at h
  ·rename_i c vx vy hm hx hy; exact aA3 hE ho hm hx hy h
  ·cases h
 ·rename_i t m x ok ho
  split at h
  ·rename_i c vx hm hx; exact aDQ hE ho hm hx h
  ·cases h
 ·rename_i x i ho; exact WU ho h
 ·rename_i c ho
  split at h
  ·rename_i b hc; exact RC hE ho hc h
  ·rename_i f hc
   split at h
   ·rename_i ff hf
    split at h
    ·rename_i t hb; exact aMG hE ho hc hf hb h
    ·exact htab _ _ _ _ _ _ _ c f ff [] ho hc (.inl ⟨hf,rfl⟩) (by rw[RD]; exact h)
   ·rename_i ff js hf;exact htab _ _ _ _ _ _ _ c f ff (aC4 js) ho hc (.inr ⟨js,hf,rfl⟩) h
   ·cases h
  ·cases h
 ·cases h
end
end Go.W
end

section
namespace Go.W
open Go Go.RowKit
section
variable {β:Type}
theorem oX(x v:Nat) (b:β):∀(l:List (Nat×Nat×β)) (y:Nat),lk (put x v b l) y=if y=x then some (v,b) else lk l y
 | [],y=>by
  simp only[put,lk,aQ]
  by_cases h:y=x
  ·subst h; simp
  ·have:Nat.beq x y=false:=by cases hb:Nat.beq x y with|false=>rfl|true=>exact absurd (aXJ hb).symm h
   simp[this,h]
 |(z,e)::r,y=>by
  simp only[put]
  cases hz:Nat.beq z x with
  |true =>
   have:=aXJ hz
   subst this;simp only[aQ,lk]
   by_cases h:y=z
   ·subst h; simp
   ·have:Nat.beq z y=false:=by cases hb:Nat.beq z y with|false=>rfl|true=>exact absurd (aXJ hb).symm h
    simp[this,h]
  |false =>
   simp only[aQ,lk]
   cases hy:Nat.beq z y with
   |true =>
    have:=aXJ hy
    subst this
    have:z≠x:=fun e=>by subst e; simp at hz
    simp[this]
   |false=>exact oX x v b r y
theorem mD:∀(l r:List (Nat×Nat×β)) (y:Nat),lk (app l r) y=match lk l y with|some e=>some e|none=>lk r y
 | [],r,y=>rfl
 |(z,e)::l,r,y=>by
  simp only[app,lk,aQ]
  cases Nat.beq z y with
  |true=>rfl
  |false=>exact mD l r y
end
theorem vG{β:Type}(x v:Nat) (b:β):∀(l:List (Nat×Nat×β)) (y:Nat),(lk (AC x v b l) y=lk l y∧(y=x→lk l y=none))∨(y=x∧lk (AC x v b l) y=some (v,b)∧(lk l y).isSome=true)
 | [],y=>.inl ⟨rfl,fun _=>rfl⟩
 |(z,e)::r,y=>by
  simp only[AC]
  cases hz:Nat.beq z x with
  |true =>
   have:=aXJ hz
   subst this;simp only[aQ,lk]
   cases hy:Nat.beq z y with
   |true=>right; exact⟨(aXJ hy).symm,rfl,rfl⟩
   |false=>left; exact⟨rfl,fun e=>by subst e; simp at hy⟩
  |false =>
   simp only[aQ,lk]
   cases hy:Nat.beq z y with
   |true=>left; exact⟨rfl,fun e=>by have:=aXJ hy; subst this; subst e; simp at hz⟩
   |false=>exact vG x v b r y
theorem mX(v:Nat):∀(u:Upd) (l:List (Nat×Nat×Ob)) (j:Nat),lk (sW v u l) j=lk l j∨((∃o,lk (sW v u l) j=some (v,o))∧(lk l j).isSome=true)
 | [],l,j=>.inl rfl
 |(i,o)::u,l,j=>by
  simp only[sW];rcases vG i v o l j with⟨h0,_⟩|⟨e0,h0,h1⟩
  ·rcases mX v u (AC i v o l) j with h|⟨⟨o',h⟩,h2⟩
   ·left; rw[h,h0]
   ·right; exact⟨⟨o',h⟩,by rw[←h0]; exact h2⟩
  ·rcases mX v u (AC i v o l) j with h|⟨⟨o',h⟩,h2⟩
   ·right; exact⟨⟨o,by rw[h,h0]⟩,h1⟩
   ·right; exact⟨⟨o',h⟩,h1⟩
def nU(l:List (Nat×Nat×Ob)):Obs:=fun j=>match lk l j with
 |some (_,o)=>some o
 |none=>none
theorem YD(s:ASt):obs s=nU s.ob:=rfl
def RE(ob ob':Obs):Prop:=∀j o,ob j=some o→ob' j=some o
theorem R5:∀(u:Upd){ob ob':Obs},RE ob ob'→RE (eL u ob) (eL u ob')
 | [],_,_,h=>h
 |(i,o)::u,ob,ob',h=>R5 u fun j x hj=>by
  by_cases hij:j=i
  ·subst hij; rw[aK] at hj ⊢; exact hj
  ·rw[bC _ _ hij] at hj ⊢; exact h j x hj
theorem R6:∀(os:List Ob) (n:Nat){ob ob':Obs},RE ob ob'→RE (jY n os ob) (jY n os ob')
 | [],_,_,_,h=>h
 |o::os,n,ob,ob',h=>R6 os (n+1) fun j x hj=>by
  by_cases hij:j=n
  ·subst hij; rw[aK] at hj ⊢; exact hj
  ·rw[bC _ _ hij] at hj ⊢; exact h j x hj
theorem aA5(x v:Nat) (b:Ob) (l:List (Nat×Nat×Ob)):RE (nU (AC x v b l)) (cH (nU l) x b):=fun j o hj=>by
 unfold nU at hj ⊢;rcases vG x v b l j with⟨h,hn⟩|⟨e,h,_⟩
 ·rw[h] at hj
  by_cases hjx:j=x
  ·rw[hn hjx] at hj; cases hj
  ·rw[bC _ _ hjx]; exact hj
 ·subst e; rw[h] at hj; rw[aK]; exact hj
theorem GW(v:Nat):∀(u:Upd) (l:List (Nat×Nat×Ob)),RE (nU (sW v u l)) (eL u (nU l))
 | [],_=>fun _ _ h=>h
 |(i,o)::u,l=>fun j x hj=>R5 u (aA5 i v o l) j x (GW v u (AC i v o l) j x hj)
theorem R7:∀(os:List Ob) (n:Nat) (ob:Obs) (j:Nat),j<n→jY n os ob j=ob j
 | [],_,_,_,_=>rfl
 |o::os,n,ob,j,h=>by simp only[jY]; rw[R7 os (n+1) _ j (by omega),bC _ _ (by omega)]
theorem vH(v:Nat):∀(os:List Ob) (n:Nat) (l:List (Nat×Nat×Ob)),(∀j e,lk l j=some e→j<n)→nU (app l (jV v n os))=jY n os (nU l)
 | [],n,l,_=>by
  simp only[jV,jY,bR,aY5]
 |o::os,n,l,h=>by
  have e:app l (jV v n (o::os))=app (app l [(n,v,o)]) (jV v (n+1) os):=by simp[bR,jV]
  rw[e,vH v os (n+1) (app l [(n,v,o)])]
  ·simp only[jY];congr 1;funext j;unfold nU cH;rw[mD]
   by_cases hj:j=n
   ·subst hj
    cases hl:lk l j with
    |none=>simp[lk,aQ]
    |some e=>exact absurd (h j e hl) (by omega)
   ·rw[if_neg hj]
    cases hl:lk l j with
    |none =>
     have:Nat.beq n j=false:=by cases hb:Nat.beq n j with|false=>rfl|true=>exact absurd (aXJ hb).symm hj
     simp[lk,aQ,this,hl]
    |some e=>simp[hl]
  ·intro j e hj;rw[mD] at hj
   cases hl:lk l j with
   |none =>
    rw[hl] at hj;simp only[lk,aQ] at hj
    cases hb:Nat.beq n j with
    |true=>have:=aXJ hb; omega
    |false=>rw[hb] at hj; cases hj
   |some e=>have:=h j e hl; omega
theorem vI(v:Nat):∀(os:List Ob) (n j:Nat) (e:Nat×Ob),lk (jV v n os) j=some e→e.1=v∧n≤j∧j<n+os.length
 | [],_,_,_,h=>by simp[jV,lk] at h
 |o::os,n,j,e,h=>by
  simp only[jV,lk,aQ] at h
  cases hb:Nat.beq n j with
  |true =>
   rw[hb] at h
   have:=aXJ hb
   injection h with h;subst h;exact⟨rfl,by omega,by simp; omega⟩
  |false =>
   rw[hb] at h
   have:=vI v os (n+1) j e h
   exact⟨this.1,by omega,by simp; omega⟩
structure Rel (E:Env) (N:Nat) (w0:World) (K0:Kn) (H:Nat→Prop) (G:Ghs) (s:ASt) (γ:Ghs) (K:Kn) (a:Act) (w:World):Prop where
 size:a.tmps.size=N
 defers:a.defers=[]
 slots:∀x v sv,lk s.sl x=some (v,sv)→v<s.tm∧aV γ K sv (a.tmps.getD x undef)
 hp:Hp w0 K0 H γ (obs s) K w
 glob:eU E K
 tok:∀j g,γ j=some g→j<s.tm∧g.hv<s.tm
 obv:∀j v o,lk s.ob j=some (v,o)→v<s.tm∧j<s.tm
 all:∀j e,lk s.ob j=some e→∃g,γ j=some g
 fix:Ghs.le G γ
 pos:0<s.tm
structure Ext (s s':ASt):Prop where
 tm:s.tm≤s'.tm
 sl:∀x v e,lk s'.sl x=some (v,e)→v<s.tm→lk s.sl x=some (v,e)
 ob:∀j v o,lk s'.ob j=some (v,o)→v<s.tm→lk s.ob j=some (v,o)
theorem Ext.refl(s:ASt):Ext s s:=⟨aZ0 _,fun _ _ _ h _=>h,fun _ _ _ h _=>h⟩
theorem Ext.trans{a b c:ASt}(h:Ext a b) (k:Ext b c):Ext a c :=
 ⟨aZR h.tm k.tm,fun x v e h1 h2=>h.sl x v e (k.sl x v e h1 (aYD h2 h.tm)) h2,fun x v e h1 h2=>h.ob x v e (k.ob x v e h1 (aYD h2 h.tm)) h2⟩
section
variable {E:Env} {N:Nat} {w0:World} {K0:Kn} {H:Nat→Prop} {G:Ghs} {s:ASt} {γ:Ghs} {K:Kn} {a:Act} {w:World}
theorem R8(v:Value) (h:ofV v≠.undef):aF γ K (ofV v) v:=by
 unfold ofV at h ⊢
 split
 ·rename_i n;simp only[aQ] at h ⊢
  split at h
  ·rename_i hb
   have hb':=aXL hb
   show [Value.int .u8 (Int.ofNat n)]=[Value.int .u8 (n8 (UInt8.ofNat n))];unfold n8;rw[UInt8.toNat_ofNat'];show [Value.int .u8 (Int.ofNat n)]=[Value.int .u8 ((n%256:Nat):Int)];rw[Nat.mod_eq_of_lt hb'];rfl
  ·exact absurd rfl h
 ·exact True.intro
 ·rfl
 ·rfl
 ·rename_i s;show [Value.string s]=[Value.string (bst s.data.toList)];rw[aDD]
 ·rfl
 ·rfl
 ·exact⟨_,rfl,fun _=>rfl,fun e=>by cases e⟩
 ·rfl
 ·exact True.intro
theorem RF:∀ {vs:List Value}{cs:List Cell},aCT vs=some cs→bK γ K cs vs
 | [],cs,h=>by simp only[aCT,Option.some.injEq] at h; subst h; rfl
 |v::vs,cs,h=>by
  simp only[aCT] at h
  split at h
  ·cases h
  ·rename_i l hl hc;injection h with h;subst h
   have hr:aF γ K (ofV v) v:=R8 v hc
   exact⟨v,vs,rfl,hr,aF.one hr hc,RF hl⟩
  ·cases h
theorem R9(v:Value):aV γ K (svV v) v:=by
 unfold svV
 split
 ·rename_i cs
  split
  ·rename_i l hl;exact⟨cs.toList,by simp,RF hl⟩
  ·exact True.intro
 ·by_cases h:ofV v=.undef
  ·rw[h]; exact True.intro
  ·exact R8 v h
theorem Rel.get(h:Rel E N w0 K0 H G s γ K a w) (x:Operand):aV γ K (pU E s x) (a.eval x):=by
 cases x with
 |tmp t =>
  simp only[pU,Act.eval]
  cases hl:lk s.sl t with
  |none=>exact True.intro
  |some e=>obtain⟨v,sv⟩:=e; exact(h.slots t v sv hl).2
 |const v=>exact R9 v
 |global g =>
  simp only[pU,Act.eval]
  cases hl:lkG E.gl g with
  |none=>exact True.intro
  |some p =>
   obtain⟨T,x⟩:=p;obtain⟨cs,h1,h2,_⟩:=h.glob.1 g T x hl;exact⟨_,cs,rfl,rfl,h1,fun j u hu=>by simpa using h2 j u hu⟩
 |func f=>exact rfl
theorem zS{d x:Nat}{v:Value}(h:x≠d):(a.put (some d) v).tmps.getD x undef=a.tmps.getD x undef:=by
 simp only[Act.put,aW2];rw[Array.getElem?_setIfInBounds_ne (by omega)]
theorem tH{d:Nat}{v:Value}(h:d<a.tmps.size):(a.put (some d) v).tmps.getD d undef=v:=by
 simp[Act.put,aW2,h]
theorem Rel.apply(h:Rel E N w0 K0 H G s γ K a w){o:Oper}{out:Out}(hd:∀d,o.dst=some d→d<N){v:Value}{γ':Ghs}{K':Kn}{w':World}(hs:Step w0 K0 H γ (obs s) K s.tm out v γ' K' w'):Rel E N w0 K0 H G (apply s o out) γ' K' (a.put o.dst v) w':=by
 have htm:(W.apply s o out).tm=s.tm+(out.new.length+1):=by simp[W.apply,cR]
 have hlt:∀j e,lk (sW s.tm out.upd s.ob) j=some e→j<s.tm:=fun j e hj=>by
  rcases mX s.tm out.upd s.ob j with h1|⟨_,h1⟩
  ·rw[h1] at hj; obtain⟨v,o⟩:=e; exact(h.obv j v o hj).2
  ·obtain⟨⟨v,o⟩,h1⟩:=Option.isSome_iff_exists.1 h1; exact(h.obv j v o h1).2
 have hobs:RE (obs (W.apply s o out)) (jY s.tm out.new (eL out.upd (obs s))):=by
  rw[YD];show RE (nU (app (sW s.tm out.upd s.ob) (jV s.tm s.tm out.new))) _;rw[vH _ _ _ _ hlt];exact R6 _ _ (GW _ _ _)
 refine⟨?_,?_,?_,hs.hp.less hobs,h.glob.mono hs.kle,?_,?_,?_,fun j g hg=>?_,by omega⟩
 ·cases hdd:o.dst<;>simp[Act.put,h.size]
 ·cases hdd:o.dst<;>simp[Act.put,h.defers]
 ·intro x vv sv hx
  cases hdd:o.dst with
  |none =>
   simp only[W.apply,hdd] at hx
   have:=h.slots x vv sv hx
   exact⟨by omega,by simpa [Act.put] using this.2.mono hs.gle hs.kle⟩
  |some d =>
   simp only[W.apply,hdd,oX] at hx
   split at hx
   ·rename_i e;subst e;injection hx with hx;injection hx with e1 e2;subst e1; subst e2;exact⟨by omega,by rw[tH (by rw[h.size]; exact hd x hdd)]; exact hs.sv⟩
   ·rename_i e
    have:=h.slots x vv sv hx
    exact⟨by omega,by rw[zS e]; exact this.2.mono hs.gle hs.kle⟩
 ·intro j g hg;rcases hs.new j g hg with h1|⟨h1,h2⟩
  ·have:=h.tok j g h1; omega
  ·rcases h2 with⟨g0,h2⟩|h2
   ·have:=h.tok j g0 h2; omega
   ·omega
 ·intro j vv ob hj;simp only[W.apply] at hj;rw[mD] at hj
  cases hl:lk (sW s.tm out.upd s.ob) j with
  |some e =>
   rw[hl] at hj;injection hj with hj;subst hj
   have hjt:=hlt j _ hl
   rcases mX s.tm out.upd s.ob j with h1|⟨⟨o',h1⟩,_⟩
   ·rw[h1] at hl; have:=h.obv j vv ob hl; omega
   ·rw[h1] at hl; injection hl with hl; injection hl with hl _; omega
  |none =>
   rw[hl] at hj
   have:=vI _ _ _ _ _ hj
   simp only at this;omega
 ·intro j e hj;simp only[W.apply] at hj;rw[mD] at hj
  cases hl:lk (sW s.tm out.upd s.ob) j with
  |some e =>
   have:∃e,lk s.ob j=some e:=by
    rcases mX s.tm out.upd s.ob j with h1|⟨_,h1⟩
    ·exact⟨e,by rw[←h1]; exact hl⟩
    ·exact Option.isSome_iff_exists.1 h1
   obtain⟨e,he⟩:=this;obtain⟨g,hg⟩:=h.all j e he;obtain⟨g',hg',_⟩:=hs.gle j g hg;exact⟨g',hg'⟩
  |none =>
   rw[hl] at hj
   have h1:=vI _ _ _ _ _ hj
   have h2:=hs.made (j-s.tm) (by omega)
   rw[show s.tm+(j-s.tm)=j by omega] at h2;exact h2
 ·exact(h.fix.trans hs.gle) j g hg
theorem sC(s:ASt) (o:Oper) (out:Out) (hob:∀j v ob,lk s.ob j=some (v,ob)→j<s.tm):Ext s (W.apply s o out):=by
 refine⟨by simp[W.apply],fun x v e hx hv=>?_,fun j v ob hj hv=>?_⟩
 ·cases hdd:o.dst with
  |none=>simpa [W.apply,hdd] using hx
  |some d =>
   simp only[W.apply,hdd,oX] at hx
   split at hx
   ·injection hx with hx; injection hx with e1 _; omega
   ·exact hx
 ·simp only[W.apply] at hj;rw[mD] at hj
  cases hl:lk (sW s.tm out.upd s.ob) j with
  |some e =>
   rw[hl] at hj;injection hj with hj;subst hj;rcases mX s.tm out.upd s.ob j with h1|⟨⟨o',h1⟩,_⟩
   ·rw[h1] at hl; exact hl
   ·rw[h1] at hl; injection hl with hl; injection hl with hl _; omega
  |none =>
   rw[hl] at hj
   have:=vI _ _ _ _ _ hj
   simp only at this;omega
section
variable {β:Type}
theorem CX(n:Nat) (k:Nat→β):fN n k=k n:=by cases n<;>rfl
theorem aDS{β:Type}:∀(l:List Nat) (k:List Nat→β),fJs l k=k l
 | [],_=>rfl
 |_::l,k=>by simp only[fJs,CX,aDS l]
theorem aKZ(c:Cell) (k:Cell→β):fC c k=k c:=by cases c<;>simp only[fC,CX,aDS]
theorem YE:∀(cs:List Cell) (k:List Cell→β),fCs cs k=k cs
 | [],_=>rfl
 |_::cs,k=>by simp only[fCs,aKZ,YE cs]
theorem aK0(v:Val) (k:Val→β):fV v k=k v:=by cases v<;>simp only[fV,aKZ,YE]
theorem aDT:∀(cs:List Val) (k:List Val→β),fVs cs k=k cs
 | [],_=>rfl
 |_::cs,k=>by simp only[fVs,aK0,aDT cs]
theorem aMH(v:SV) (k:SV→β):fSV v k=k v:=by cases v<;>simp only[fSV,aK0,aDT]
theorem aMI(o:Ob) (k:Ob→β):fOb o k=k o:=by cases o<;>simp only[fOb,YE,CX]
theorem aDU:∀(l:List (Nat×Nat×SV)) (k:List (Nat×Nat×SV)→β),fSl l k=k l
 | [],_=>rfl
 |(_,_,_)::l,k=>by simp only[fSl,CX,aMH,aDU l]
theorem S1:∀(l:List (Nat×Nat×Ob)) (k:List (Nat×Nat×Ob)→β),aH1 l k=k l
 | [],_=>rfl
 |(_,_,_)::l,k=>by simp only[aH1,CX,aMI,S1 l]
theorem fY(s:ASt) (k:ASt→β):fSt s k=k s:=by obtain⟨t,sl,ob⟩:=s; simp only[fSt,CX,aDU,S1]
end
theorem Rel.setS(h:Rel E N w0 K0 H G s γ K a w){g:Nat}{b:Bool}(hv:a.tmps.getD g undef=.bool b):Rel E N w0 K0 H G (setS s g b) γ K a w:=by
 refine⟨h.size,h.defers,fun x v sv hx=>?_,h.hp,h.glob,fun j g hg=>?_,fun j v o hj=>?_,h.all,h.fix,Nat.succ_pos _⟩
 ·simp only[W.setS,oX] at hx
  split at hx
  ·rename_i e;subst e;injection hx with hx;injection hx with e1 e2;subst e1; subst e2;exact⟨Nat.lt_succ_self _,by rw[hv]; rfl⟩
  ·have:=h.slots x v sv hx
   exact⟨Nat.lt_succ_of_lt this.1,this.2⟩
 ·have:=h.tok j g hg; simp only[W.setS]; omega
 ·have:=h.obv j v o hj; simp only[W.setS]; omega
theorem kB(s:ASt) (g:Nat) (b:Bool):Ext s (setS s g b):=by
 refine⟨Nat.le_succ _,fun x v e hx hv=>?_,fun _ _ _ h _=>h⟩;simp only[W.setS,oX] at hx
 split at hx
 ·injection hx with hx; injection hx with e1 _; omega
 ·exact hx
theorem Rel.skip(h:Rel E N w0 K0 H G s γ K a w){o:Oper}(hd:∀d,o.dst=some d→d<N):Rel E N w0 K0 H G (tG s o) γ K (a.put o.dst undef) w :=
 h.apply hd ⟨Ghs.le.refl γ,Kn.le.refl K,⟨[],rfl,rfl⟩,h.hp,fun _ _ hg=>.inl hg,fun i hi=>absurd hi (aY6 i)⟩
theorem tV{n:Nat}:∀ {ops:List Oper},xH n ops=true→∀o∈ops,∀d,o.dst=some d→d<n
 | [],_,o,ho=>by cases ho
 |p::r,h,o,ho=>fun d hd=>by
  simp only[xH] at h;rcases aZL.1 ho with rfl|ho
  ·rw[hd] at h;simp only[aQ] at h
   split at h
   ·rename_i hb; exact aXL hb
   ·cases h
  ·split at h
   ·simp only[aQ] at h
    split at h
    ·exact tV h o ho d hd
    ·cases h
   ·exact tV h o ho d hd
theorem zT{ops:Array Oper}{t:Array Value}{o:Oper}(h:o.guard=none):Region.wanted o (yielded ops t)=true:=by simp[Region.wanted,h]
theorem qK{ops:Array Oper}{t:Array Value}{o:Oper}{j g:Nat}{b:Bool}(h:o.guard=some (j,b)) (hg:uY ops.toList j=some g):Region.wanted o (yielded ops t)=true↔t.getD g undef=.bool b:=by
 unfold uY at hg;rw[xL] at hg
 split at hg
 ·rename_i oj hj;rw[aXM] at hj;simp only[Region.wanted,h,yielded,hj,hg,Option.bind_some];rw[aW2]
  cases hv:t[g]? with
  |none=>simp[undef]
  |some v=>cases v<;>simp
 ·cases hg
def aPU(γ:Ghs) (K:Kn):List SV→List Value→Prop
 | [],vs=>vs=[]
 |s::ss,vs=>∃v r,vs=v::r∧aV γ K s v∧aPU γ K ss r
theorem GX{γ:Ghs}{K:Kn}{g:Operand→SV}{a:Act}:∀(l:List Operand),(∀x∈l,aV γ K (g x) (a.eval x))→aPU γ K (eY g l) (l.map a.eval)
 | [],_=>rfl
 |x::l,h=>⟨_,_,rfl,h x aYE,GX l fun y hy=>h y (aXV _ hy)⟩
theorem S2(K:Kn):∀(bs:Y_),dH (aT K .u8) bs (bs.map fun b=>Value.int .u8 (b.toNat:Int))
 | []=>rfl
 |b::bs=>⟨[.int .u8 (b.toNat:Int)],bs.map fun b=>Value.int .u8 (b.toNat:Int),rfl,rfl,S2 K bs⟩
theorem aIH(hE:EnvOk E){tab:List Con}(htab:jQ E tab){g:Operand→SV}{ob:Obs}{tk:Nat}{o:Oper}{α:Type}{k:Out→Option α}{r:α}(hg:∀v,g (.const v)=svV v) (h:opD E tab g ob tk o k=some r)
  {γ:Ghs} {K:Kn} {a:Act} {w:World} (hr:∀x,aV γ K (g x) (a.eval x)) (hH:Hp w0 K0 H γ ob K w) (hG:eU E K) (hf:∀i,γ (tk+i)=none) (hv:∀j g',γ j=some g'→g'.hv<tk) (h0:0<tk)
  (next:Act→World→Prop) (Q:Exit→Act→World→Prop) (hn:∀out v γ' K' w',k out=some r→Step w0 K0 H γ ob K tk out v γ' K' w'→next (a.put o.dst v) w'):o.wp E.P a w next Q:=by
 unfold opD at h
 split at h
 ·rename_i nn ne ha;unfold aC7 at ha
  split at ha
  ·rename_i op t x y yt ho
   split at ha
   ·rename_i ne' hop
    split at ha
    ·rename_i e ht
     split at ha
     ·rename_i c hx hy
      split at ha
      ·rename_i n0 hc;simp only[Option.some.injEq,AnyK.nilc.injEq] at ha;obtain⟨e1,e2⟩:=ha;subst e1;subst e2;obtain⟨ei,hu,_⟩:=hE.und ht
       have h1:=hr x
       have h2:=hr y
       rw[hx] at h1;rw[hy] at h2
       have h2:a.eval y=.slice none 0 0:=h2
       have hval:∃A n cc,a.eval x=.slice A n cc∧(n0≠0→A≠none):=by
        unfold aC6 at hc
        split at hc
        ·rename_i T xs;obtain⟨hpos,hc⟩:=aY hc
         have hpos:=aXL hpos
         injection hc with hc;obtain⟨A,c',ev,_,_,es,q3,q4⟩:=h1;injection ev with ev _;refine⟨_,_,_,ev,fun hn hA=>?_⟩;subst hA;rcases q4 with q4|⟨ad,a1,_⟩
         ·subst q4
          cases xs with
          |nil=>exact hn (by rw[←hc]; rfl)
          |cons x0 xs =>
           obtain⟨c1,c2,ee,r1,_⟩:=q3
           have hl:=bV r1
           have:c1=[]:=by
            cases c1 with
            |nil=>rfl
            |cons _ _=>cases ee
           rw[this] at hl;simp at hl;omega
         ·cases a1
        ·rename_i j hv';obtain⟨_,g',k1,_,_,k4⟩:=h1
         split at hc
         ·rename_i h' T xs hob;obtain⟨hb,hc⟩:=aY hc;injection hc with hc
          have hok:=hH.ok j _ g' hob k1
          refine⟨_,_,_,k4 (hok.1.trans (aXJ hb)),fun hn hA=>?_⟩;obtain⟨_,_,q3,_,_,vs,q6,_⟩:=hok;rcases q6.2 with⟨_,_,z⟩|⟨b,cur,ee,fz,z1,_⟩
          ·exact hn (by rw[←hc]; simp[len,z])
          ·rw[hA] at z1; cases z1
         ·rename_i h' T xs hob;obtain⟨hb,hc⟩:=aY hc;injection hc with hc
          have hok:=hH.ok j _ g' hob k1
          refine⟨_,_,_,k4 (hok.1.trans (aXJ hb)),fun hn hA=>?_⟩;obtain⟨_,_,q3,_,hpos,_,_,es,q6,q7⟩:=hok;rcases q7 with q7|⟨ad,a1,_⟩
          ·have:=cT bA q6
           rw[q7] at this
           have:xs.length=0:=by
            rcases Nat.mul_eq_zero.1 this.symm with h|h
            ·exact h
            ·omega
           exact hn (by rw[←hc]; simp[len,this])
          ·rw[hA] at a1; cases a1
         ·cases hc
        ·rename_i j hv' lo n;obtain⟨_,g',k1,_,_,k4⟩:=h1
         split at hc
         ·rename_i h' T xs hob;obtain⟨hb,hc⟩:=aY hc;injection hc with hc
          have hok:=hH.ok j _ g' hob k1
          obtain⟨hle,A,cc,e1,_,_,hA1,_⟩:=k4 (hok.1.trans (aXJ hb));refine⟨_,_,_,e1,fun hn hA=>?_⟩;rcases hA1 with h0|hA1
          ·exact hn (by rw[←hc,h0]; rfl)
          ·obtain⟨_,_,q3,_,_,vs,q6,_⟩:=hok;rcases q6.2 with⟨_,_,z⟩|⟨b,cur,ee,fz,z1,_⟩
           ·have:n=0:=by omega
            exact hn (by rw[←hc,this]; rfl)
           ·rw[hA,z1] at hA1; cases hA1
         ·rename_i h' T xs hob;obtain⟨hb,hc⟩:=aY hc;injection hc with hc
          have hok:=hH.ok j _ g' hob k1
          obtain⟨hle,A,cc,e1,_,_,hA1,_⟩:=k4 (hok.1.trans (aXJ hb));refine⟨_,_,_,e1,fun hn hA=>?_⟩;rcases hA1 with h0|hA1
          ·exact hn (by rw[←hc,h0]; rfl)
          ·obtain⟨_,_,q3,_,hpos,_,_,es,q6,q7⟩:=hok;rcases q7 with q7|⟨ad,a1,_⟩
           ·have:=cT bA q6
            rw[q7] at this
            have h0:xs.length=0:=by
             rcases Nat.mul_eq_zero.1 this.symm with h|h
             ·exact h
             ·omega
            have:n=0:=by omega
            exact hn (by rw[←hc,this]; rfl)
           ·rw[hA,a1] at hA1; cases hA1
         ·cases hc
        ·cases hc
       obtain⟨A,n,cc,hval,hnz⟩:=hval
       have hrun:(execOp a.eval o).run E.P w=.ok (.value (.bool (bif ne' then !A.isNone else A.isNone))) w:=by
        have q:=CW hu x y w A n cc
        unfold aPR at hop
        split at hop
        ·injection hop with hop;subst hop
         have q:=q.1
         simp only[execOp,ho,aZU,hval,h2] at q ⊢;rw[q];rfl
        ·injection hop with hop;subst hop
         have q:=q.2
         simp only[execOp,ho,aZU,hval,h2] at q ⊢;rw[q];rfl
        ·cases hop
       unfold Oper.wp;rw[hrun]
       have hk:k (cA (.v .bool (bif ne' then !A.isNone else A.isNone)))=some r:=by
        unfold cnd at h
        split at h
        ·rename_i hn
         have hn:n0≠0:=by simpa [ine] using hn
         have:=hnz hn
         cases A with
         |none=>exact absurd rfl this
         |some ad =>
          cases ne' with
          |true=>exact h
          |false=>exact h
        ·exact aAM h _
       exact hn (cA (.v .bool (bif ne' then !A.isNone else A.isNone))) _ γ K w hk ⟨Ghs.le.refl γ,Kn.le.refl K,rfl,hH,fun j g' hg=>.inl hg,fun i hi=>absurd hi (aY6 i)⟩
      ·cases ha
     ·cases ha
    ·cases ha
   ·cases ha
  ·split at ha
   ·split at ha
    ·split at ha
     ·split at ha
      ·split at ha
       ·split at ha<;>cases ha
       ·cases ha
      ·cases ha
     ·cases ha
    ·cases ha
   ·cases ha
  ·cases ha
 ·rename_i n ha;obtain⟨hgd,h⟩:=aP h
  have hgd:0≤n∧n≤n∧n*((1:Nat):Int)≤140737488355328:=of_decide_eq_true hgd
  unfold aC7 at ha
  split at ha
  ·split at ha
   ·split at ha
    ·split at ha
     ·split at ha<;>cases ha
     ·cases ha
    ·cases ha
   ·cases ha
  ·rename_i c ho
   split at ha
   ·rename_i z hz
    split at ha
    ·rename_i f hcal
     split at ha
     ·rename_i f' hf'
      split at ha
      ·rename_i hb
       have hb:=aXJ hb
       subst hb
       split at ha
       ·rename_i a0 has
        split at ha
        ·rename_i n' hi;injection ha with ha;injection ha with ha;subst ha
         have hfv:a.eval f=.func (.func f') #[] #[]:=by
          have:=hr f
          rw[hf'] at this;exact this
         have hargs:c.args.map a.eval=#[.int .i64 n']:=by
          have hl:=GX (γ:=γ) (K:=K) (g:=g) (a:=a) c.args.toList (fun x _=>hr x)
          rw[has] at hl;obtain⟨v,rr,e1,e2,e3⟩:=hl
          have e3:rr=[]:=e3
          subst e3
          have e2:aF γ K a0 v:=e2
          rw[(dW hi e2).1] at e1;apply aYW.1;rw[aYX,e1]
         obtain⟨bs,d,hrun,hge,hle⟩:=hE.nzok f' hz n'.toNat w (by omega);rw[show((n'.toNat:Nat):Int)=n' by omega] at hrun
         have hex:(execOp a.eval o).run E.P w=.ok (.value (.slice (some ⟨w.heap.size,0,none⟩) n'.toNat bs.length)) (World.alloc { w with drawn:=d } (.cells (bs.map fun b=>Value.int .u8 (b.toNat:Int)).toArray ub)):=by
          have e0:(execOp a.eval o).run E.P w=(callFunc f' (c.args.map a.eval)).run E.P w:=by
           simp[execOp,ho,resolve,hcal,hfv,Deferred.ofValue,invoke]
          rw[e0,hargs];exact hrun
         unfold Oper.wp;rw[hex]
         have hj:γ tk=none:=by simpa using hf 0
         have hlt:(bs.take n'.toNat).length=n'.toNat:=by simp; omega
         have hok:eG (cH γ tk ⟨some ⟨w.heap.size,0,none⟩,bs.length,n'.toNat,1,tk⟩) K (World.alloc { w with drawn:=d } (.cells (bs.map fun b=>Value.int .u8 (b.toNat:Int)).toArray ub)) ⟨some ⟨w.heap.size,0,none⟩,bs.length,n'.toNat,1,tk⟩ (.row tk .u8 (bs.take n'.toNat)):=by
          refine⟨rfl,h0,hlt.symm,rfl,Nat.one_pos,(bs.take n'.toNat).map fun b=>Value.int .u8 (b.toNat:Int),⟨by simp[Ty.size],.inr ⟨w.heap.size,_,ub,(0,0),rfl,gW _ _,.inl rfl,?_,hle,?_,?_,fun _=>rfl⟩⟩,?_,fun ad had o=>by injection had with had; subst had; exact hH.knone (aZ0 _) o⟩
          ·show(bs.take n'.toNat).length≤bs.length;omega
          ·simp[Ty.size]
          ·rw[hlt]; simp[Ty.size]
          ·exact S2 K _
         obtain⟨q1,q2⟩:=(hH.drew d).alloc hj (.cells (bs.map fun b=>Value.int .u8 (b.toNat:Int)).toArray ub) ⟨some ⟨w.heap.size,0,none⟩,bs.length,n'.toNat,1,tk⟩ (.row tk .u8 (bs.take n'.toNat)) (fun ad had=>by injection had with had; subst had; rfl) hok;exact hn ⟨.val (.one (.row tk tk)),[.row tk .u8 (bs.take n'.toNat)],[]⟩ _ (cH γ tk _) K _ (VY h _ hlt) ⟨q1,Kn.le.refl K,⟨rfl,_,aK _ _ _,h0,aZ0 _,fun _=>rfl⟩,q2,mW (by simp) (aZ0 _) [],jZ _ _ _⟩
        ·cases ha
       ·cases ha
      ·cases ha
     ·cases ha
    ·cases ha
   ·cases ha
  ·cases ha
 ·obtain⟨out,h2,hop⟩:=aDR hE htab hg h;exact hop w0 K0 H γ ob K a w (fun x _=>hr x) (fun _ _ h=>h) hH hG (fun i _=>hf i) (fun p _ g' hg'=>hv _ g' hg') h0 next Q fun v γ' K' w' hst=>hn out v γ' K' w' h2 hst
theorem KF(hE:EnvOk E){tab:List Con}(htab:jQ E tab){ops:Array Oper}{α:Type}{r:α}{Q:Exit→Act→World→Prop} :
  ∀(os:List Oper) {s:ASt} {γ:Ghs} {K:Kn} {a:Act} {w:World} {k:ASt→Option α},xI E tab ops.toList os s k=some r→(∀o∈os,∀d,o.dst=some d→d<N)→Rel E N w0 K0 H G s γ K a w →
   (∀s' γ' K' a' w',k s'=some r→Ext s s'→Rel E N w0 K0 H G s' γ' K' a' w'→Q .normal a' w')→wpList E.P ops Q os a w
 | [],s,γ,K,a,w,k,h,_,hR,hk=>wpList_nil (hk s γ K a w h (Ext.refl s) hR)
 |o::os,s,γ,K,a,w,k,h,hd,hR,hk=>by
  have hdo:=hd o aYE
  have hdr:∀o∈os,∀d,o.dst=some d→d<N:=fun p hp=>hd p (aXV _ hp)
  -- the operation is carried out
  have run:∀ {s1:ASt},Ext s s1→Rel E N w0 K0 H G s1 γ K a w→opD E tab (pU E s1) (obs s1) s1.tm o (fun out=>fSt (W.apply s1 o out) fun s=>xI E tab ops.toList os s k)=some r→o.wp E.P a w (wpList E.P ops Q os) Q:=by
   intro s1 hx hR1 h1;refine aIH hE htab (fun _=>rfl) h1 hR1.get hR1.hp hR1.glob (fun i=>?_) (fun j g hg=>(hR1.tok j g hg).2) hR1.pos _ _ fun out v γ' K' w' h2 hst=>?_
   ·cases hg:γ (s1.tm+i) with
    |none=>rfl
    |some g=>have:=(hR1.tok _ g hg).1; omega
   ·rw[fY] at h2
    have hap:=sC s1 o out (fun j v ob hj=>(hR1.obv j v ob hj).2)
    exact KF hE htab os h2 hdr (hR1.apply hdo hst) fun s' γ' K' a' w' h3 h4 h5=>hk s' γ' K' a' w' h3 ((hx.trans hap).trans h4) h5
  have skip:∀ {s1:ASt},Ext s s1→Rel E N w0 K0 H G s1 γ K a w→(fSt (tG s1 o) fun s=>xI E tab ops.toList os s k)=some r→wpList E.P ops Q os (a.put o.dst undef) w:=by
   intro s1 hx hR1 h1;rw[fY] at h1
   have hap:=sC s1 o ⟨.tup [],[],[]⟩ (fun j v ob hj=>(hR1.obv j v ob hj).2)
   exact KF hE htab os h1 hdr (hR1.skip hdo) fun s' γ' K' a' w' h3 h4 h5=>hk s' γ' K' a' w' h3 ((hx.trans hap).trans h4) h5
  simp only[xI] at h;unfold wpList
  split at h
  ·rename_i hg;rw[if_pos (zT hg)];exact .inl (run (Ext.refl s) hR h)
  ·rename_i j b hg
   split at h
   ·cases h
   ·rename_i gs hgs
    have hw:=qK (t:=a.tmps) hg hgs
    have hget:=hR.get (.tmp gs)
    split at h
    ·rename_i e he;rw[he] at hget
     have hval:a.tmps.getD gs undef=.bool e:=by simpa [aV,bY,aF,aT,Act.eval] using hget
     cases b with
     |true =>
      cases e with
      |true =>
       rw[if_pos (hw.2 hval)];simp only[cnd,cond_true] at h;rw[fY] at h;exact .inl (run (kB s gs true) (hR.setS hval) h)
      |false =>
       rw[if_neg (fun hh=>by have:=hw.1 hh; rw[hval] at this; cases this)];simp only[cnd,cond_false] at h;exact skip (kB s gs false) (hR.setS hval) h
     |false =>
      cases e with
      |true =>
       rw[if_neg (fun hh=>by have:=hw.1 hh; rw[hval] at this; cases this)];simp only[cnd,cond_true] at h;exact skip (kB s gs true) (hR.setS hval) h
      |false =>
       rw[if_pos (hw.2 hval)];simp only[cnd,cond_false] at h;rw[fY] at h;exact .inl (run (kB s gs false) (hR.setS hval) h)
    ·rename_i he;rw[he] at hget;obtain⟨vs,e1,e2⟩:=hget
     have e2:vs=[]:=e2
     subst e2;rw[if_neg (fun hh=>by have:=hw.1 hh; simp only[Act.eval] at e1; rw[e1] at this; cases this)];exact skip (Ext.refl s) hR h
    ·cases h
end
end Go.W
end

section
namespace Go.W
open Go Go.RowKit
def Alg(ob:Obs) (c d:Cell):Prop:=(∃e xs,d=.v (.slice e) xs∧cE ob e c=some xs∧0<e.size)∨(d=c∧((∃t x,c=.v t x∧∀e,t≠.slice e)∨c=.nilp))
def KG(ob:Obs):List Cell→List Cell→Prop
 | [],ds=>ds=[]
 |c::cs,ds=>∃d r,ds=d::r∧Alg ob c d∧KG ob cs r
theorem CY{ob:Obs}:∀ {a b c d:List Cell},KG ob a c→KG ob b d→KG ob (a++b) (c++d)
 | [],_,_,_,h1,h2=>by cases h1; exact h2
 |_::_,_,_,_,⟨x,r,e,h1,h2⟩,h3=>by subst e; exact⟨x,r++_,rfl,h1,CY h2 h3⟩
theorem S3{ob:Obs}{t:Ty}{f:Nat→List Cell}(ih:∀cs x r,bld ob t cs=some (x,r)→∃d,cs=d++r∧KG ob d (cellsOf t x)):∀(n i:Nat) (cs:List Cell) (xs:List t.den) (r:List Cell),(∀k,k<n→f (i+k)=cellsOf t (xs.getD k t.zero))→JR (bld ob t) n cs=some (xs,r)→∃d,cs=d++r∧KG ob d (BV f n i)
 | 0,i,cs,xs,r,_,h=>by
  simp only[JR,Option.some.injEq,Prod.mk.injEq] at h;obtain⟨_,rfl⟩:=h;exact⟨[],rfl,rfl⟩
 |n+1,i,cs,xs,r,hf,h=>by
  simp only[JR] at h
  split at h
  ·rename_i y r1 h1
   split at h
   ·rename_i l r2 h2;simp only[Option.some.injEq,Prod.mk.injEq] at h;obtain⟨rfl,rfl⟩:=h;obtain⟨d,hd,ha⟩:=ih cs y r1 h1;obtain⟨d',hd',ha'⟩:=S3 (f:=f) ih n (i+1) r1 l r2 (fun k hk=>by
     have:=hf (k+1) (by omega)
     rw[show i+1+k=i+(k+1) by omega,this];simp) h2
    refine⟨d++d',by rw[hd,hd',aYK],?_⟩;simp only[BV,bR]
    have h0:=hf 0 (by omega)
    simp only[aZV,List.getD_cons_zero] at h0;rw[h0];exact CY ha ha'
   ·cases h
  ·cases h
theorem S4{ob:Obs}:∀(t:Ty),t.wf=true→∀(cs:List Cell) (x:t.den) (r:List Cell),bld ob t cs=some (x,r)→∃d,cs=d++r∧KG ob d (cellsOf t x):=by
 intro t
 induction t with
 |unit=>intro _ cs x r h; simp only[bld,Option.some.injEq,Prod.mk.injEq] at h; obtain⟨_,rfl⟩:=h; exact⟨[],rfl,rfl⟩
 |pair a b iha ihb =>
  intro hw cs x r h;simp only[Ty.wf,aYS] at hw;simp only[bld] at h
  split at h
  ·rename_i y r1 h1
   split at h
   ·rename_i z r2 h2;simp only[Option.some.injEq,Prod.mk.injEq] at h;obtain⟨rfl,rfl⟩:=h;obtain⟨d,hd,ha⟩:=iha hw.1 cs y r1 h1;obtain⟨d',hd',ha'⟩:=ihb hw.2 r1 z r2 h2;exact⟨d++d',by rw[hd,hd',aYK],by simp only[cellsOf,bR]; exact CY ha ha'⟩
   ·cases h
  ·cases h
 |st t ih=>intro hw cs x r h; exact ih hw cs x r h
 |arr n t ih =>
  intro hw cs x r h;exact S3 (ih hw) n 0 cs x r (fun k _=>by simp[aA,Ty.dflt]) h
 |nptr =>
  intro _ cs x r h
  cases cs with
  |nil=>simp[bld] at h
  |cons c cs =>
   cases c<;>simp only[bld] at h<;>try (cases h; done)
   simp only[Option.some.injEq,Prod.mk.injEq] at h;obtain⟨_,rfl⟩:=h;exact⟨[.nilp],rfl,.nilp,[],rfl,.inr ⟨rfl,.inr rfl⟩,rfl⟩
 |slice e _ =>
  intro hw cs x r h;simp only[Ty.wf,aYS] at hw
  cases cs with
  |nil=>simp[bld] at h
  |cons c cs =>
   simp only[bld] at h
   split at h
   ·rename_i xs hx;simp only[Option.some.injEq,Prod.mk.injEq] at h;obtain⟨rfl,rfl⟩:=h;exact⟨[c],rfl,_,[],rfl,.inl ⟨e,xs,rfl,hx,aXL hw.1⟩,rfl⟩
   ·cases h
 |int k =>
  intro _ cs x r h
  cases cs with
  |nil=>simp[bld] at h
  |cons c cs =>
   cases c<;>simp only[bld] at h<;>try (cases h; done)
   split at h
   ·rename_i y hy;simp only[Option.some.injEq,Prod.mk.injEq] at h;obtain⟨rfl,rfl⟩:=h;obtain⟨e1,e2⟩:=aU hy;subst e1; subst e2;exact⟨[_],rfl,_,[],rfl,.inr ⟨rfl,.inl ⟨_,_,rfl,fun _ e=>by cases e⟩⟩,rfl⟩
   ·cases h
 |u8 =>
  intro _ cs x r h
  cases cs with
  |nil=>simp[bld] at h
  |cons c cs =>
   cases c<;>simp only[bld] at h<;>try (cases h; done)
   split at h
   ·rename_i y hy;simp only[Option.some.injEq,Prod.mk.injEq] at h;obtain⟨rfl,rfl⟩:=h;obtain⟨e1,e2⟩:=aU hy;subst e1; subst e2;exact⟨[_],rfl,_,[],rfl,.inr ⟨rfl,.inl ⟨_,_,rfl,fun _ e=>by cases e⟩⟩,rfl⟩
   ·cases h
 |bool =>
  intro _ cs x r h
  cases cs with
  |nil=>simp[bld] at h
  |cons c cs =>
   cases c<;>simp only[bld] at h<;>try (cases h; done)
   split at h
   ·rename_i y hy;simp only[Option.some.injEq,Prod.mk.injEq] at h;obtain⟨rfl,rfl⟩:=h;obtain⟨e1,e2⟩:=aU hy;subst e1; subst e2;exact⟨[_],rfl,_,[],rfl,.inr ⟨rfl,.inl ⟨_,_,rfl,fun _ e=>by cases e⟩⟩,rfl⟩
   ·cases h
 |nif =>
  intro _ cs x r h
  cases cs with
  |nil=>simp[bld] at h
  |cons c cs =>
   cases c<;>simp only[bld] at h<;>try (cases h; done)
   split at h
   ·rename_i y hy;simp only[Option.some.injEq,Prod.mk.injEq] at h;obtain⟨rfl,rfl⟩:=h;obtain⟨e1,e2⟩:=aU hy;subst e1; subst e2;exact⟨[_],rfl,_,[],rfl,.inr ⟨rfl,.inl ⟨_,_,rfl,fun _ e=>by cases e⟩⟩,rfl⟩
   ·cases h
 |str =>
  intro _ cs x r h
  cases cs with
  |nil=>simp[bld] at h
  |cons c cs =>
   cases c<;>simp only[bld] at h<;>try (cases h; done)
   split at h
   ·rename_i y hy;simp only[Option.some.injEq,Prod.mk.injEq] at h;obtain⟨rfl,rfl⟩:=h;obtain⟨e1,e2⟩:=aU hy;subst e1; subst e2;exact⟨[_],rfl,_,[],rfl,.inr ⟨rfl,.inl ⟨_,_,rfl,fun _ e=>by cases e⟩⟩,rfl⟩
   ·cases h
theorem GY{ob:Obs}{t:Ty}{v:Val}{x:t.den}(hw:t.wf=true) (h:cO ob t v=some x):KG ob v.cells (cellsOf t x)∧(t.agg=true→∃cs,v=.agg cs)∧(t.agg=false→∃c,v=.one c∧c≠.undef):=by
 unfold cO at h
 split at h
 ·rename_i cs hT
  split at h
  ·rename_i y hb;injection h with h; subst h;obtain⟨d,hd,ha⟩:=S4 t hw cs y [] hb;simp only[aY5] at hd;subst hd;exact⟨ha,fun _=>⟨_,rfl⟩,fun e=>by rw[hT] at e; cases e⟩
  ·cases h
 ·cases h
 ·rename_i c hc hT
  split at h
  ·rename_i y hb;injection h with h; subst h;obtain⟨d,hd,ha⟩:=S4 t hw [c] y [] hb;simp only[aY5] at hd;subst hd;exact⟨ha,fun e=>(by rw[hT] at e; cases e),fun _=>⟨_,rfl,hc⟩⟩
  ·cases h
 ·cases h
def dY(j:Nat):Upd→Nat
 | []=>0
 |(i,.gone)::r=>(if i=j then 1 else 0)+dY j r
 |_::r=>dY j r
theorem qL(j:Nat):∀(u v:Upd),dY j (u++v)=dY j u+dY j v
 | [],v=>by simp[dY]
 |(i,o)::u,v=>by cases o<;>simp[dY,qL j u v,aZK]
theorem zV{ob:Obs}(j:Nat):∀ {u:Upd},qG ob u→dY j u=0
 | [],_=>rfl
 |(i,o)::u,h=>by
  obtain⟨a,t,xs,_,e⟩:=h (i,o) aYE;simp only at e;subst e;exact zV (u:=u) j fun p hp=>h p (aXV _ hp)
structure Fzd (ob obF:Obs) (U:Upd):Prop where
 frz:∀p∈U,p.2≠.gone→obF p.1=some p.2
 gone:∀p∈U,p.2=.gone→∀o,ob p.1=some o→obF p.1=some o
 no:∀j o,ob j=some o→(∀p∈U,p.1≠j)→obF j=some o
 src:∀p∈U,∃o,ob p.1=some o∧o.owns=true
def Ats(gs:List Gh) (tk n:Nat) (γ2:Ghs):Prop:=∀k g,gs[k]?=some g→γ2 (tk+(n+k))=some g
def RG(γ:Ghs) (obF:Obs) (K:Kn) (w:World) (tk:Nat) (P:Ghs→Prop) (o:Ob) (g2:Gh) (src:Option Nat):Prop :=
 o.owns=true∧(∀γ2,P γ2→eG γ2 K w g2 o)∧g2.hv=tk∧(g2.a=none∨∃j g p,src=some j∧γ j=some g∧obF j=some p∧p.owns=true∧g2.a=g.a)
def nH(γ:Ghs) (obF:Obs) (K:Kn) (w:World) (tk:Nat) (P:Ghs→Prop):List Ob→List Gh→List (Option Nat)→Prop
 | [],gs,js=>gs=[]∧js=[]
 |o::os,gs,js=>∃g gr j jr,gs=g::gr∧js=j::jr∧RG γ obF K w tk P o g j∧nH γ obF K w tk P os gr jr
theorem vJ{γ:Ghs}{obF:Obs}{K:Kn}{w:World}{tk:Nat}{P:Ghs→Prop}:∀ {a b:List Ob}{ga gb:List Gh}{ja jb:List (Option Nat)},nH γ obF K w tk P a ga ja→nH γ obF K w tk P b gb jb→nH γ obF K w tk P (a++b) (ga++gb) (ja++jb)
 | [],_,_,_,_,_,⟨h1,h2⟩,h3=>by subst h1; subst h2; exact h3
 |_::_,_,_,_,_,_,⟨g,gr,j,jr,e1,e2,h1,h2⟩,h3=>by subst e1; subst e2; exact⟨g,_,j,_,rfl,rfl,h1,vJ h2 h3⟩
theorem mE{γ:Ghs}{obF:Obs}{K:Kn}{w:World}{tk:Nat}{P:Ghs→Prop}:∀ {a:List Ob}{ga:List Gh}{ja:List (Option Nat)},nH γ obF K w tk P a ga ja→ga.length=a.length∧ja.length=a.length
 | [],_,_,⟨h1,h2⟩=>by subst h1; subst h2; exact⟨rfl,rfl⟩
 |_::_,_,_,⟨g,gr,j,jr,e1,e2,h1,h2⟩=>by subst e1; subst e2; have:=mE h2; simp[this.1,this.2]
theorem mF{γ:Ghs}{obF:Obs}{K:Kn}{w:World}{tk:Nat}{P:Ghs→Prop}:∀ {a:List Ob}{ga:List Gh}{ja:List (Option Nat)},nH γ obF K w tk P a ga ja→∀(i:Nat) (o:Ob),a[i]?=some o→∃g j,ga[i]?=some g∧ja[i]?=some j∧RG γ obF K w tk P o g j
 | [],_,_,_,i,o,h=>by simp at h
 |_::_,_,_,⟨g,gr,j,jr,e1,e2,h1,h2⟩,0,o,h=>by
  subst e1; subst e2;simp only[aXD,Option.some.injEq] at h;subst h;exact⟨g,j,rfl,rfl,h1⟩
 |_::_,_,_,⟨g,gr,j,jr,e1,e2,h1,h2⟩,i+1,o,h=>by
  subst e1; subst e2;simp only[aXC] at h ⊢;exact mF h2 i o h
section
variable {w0 w:World} {K0 K:Kn} {H:Nat→Prop} {γ:Ghs} {ob obF:Obs} {U:Upd} {tk:Nat}
theorem S5(hH:Hp w0 K0 H γ obF K w) (hU:Fzd ob obF U) (h0:0<tk){c:Cell}{u:Upd}(h:JS ob c=some u) (hu:∀p∈u,p∈U){e:Ty}{xs:List e.den}(hx:cE ob e c=some xs) (he:0<e.size){v:Value}(hv:aF γ K c v) :
  ∃g2 src,(∀P,RG γ obF K w tk P (.row tk e xs) g2 src)∧(∀j,dY j u=List.count (some j) [src])∧v=.slice g2.a g2.n g2.c:=by
 have row:∀ {j hh:Nat} {t:Ty} {ys:List t.den} {g:Gh},ob j=some (.row hh t ys)→u=[(j,.gone)]→γ j=some g→obF j=some (.row hh t ys)∧eG γ K w g (.row hh t ys):=by
  intro j hh t ys g hj hu1 hg
  have:=hU.gone (j,.gone) (hu _ (by rw[hu1]; simp)) rfl _ hj
  exact⟨this,hH.ok j _ g this hg⟩
 have cnt:∀ {j:Nat},u=[(j,.gone)]→∀i,dY i u=List.count (some i) [some j]:=fun {j} hu1 i=>by
  rw[hu1]
  by_cases hij:j=i
  ·subst hij; simp[dY]
  ·simp[dY,hij,aZB]
 unfold JS at h
 split at h
 ·injection h with h;subst h;simp only[cE,Option.some.injEq] at hx;subst hx;refine⟨⟨none,0,0,e.size,tk⟩,none,fun P=>⟨rfl,fun γ2 _=>⟨rfl,h0,rfl,rfl,he,[],⟨by simp,.inl ⟨rfl,rfl,rfl⟩⟩,rfl,fun ad ha=>by cases ha⟩,rfl,.inl rfl⟩,fun j=>by simp[dY],hv⟩
 ·rename_i j hvv
  split at h
  ·rename_i hh t ys hj;unfold aQ at h
   split at h
   ·rename_i hb
    have hb:=aXJ hb
    injection h with h;obtain⟨h0',g,h1,h2,h3,h4⟩:=hv;obtain⟨hF,e0,e1,e2,e3,e4,vs,hr,hL,hN⟩:=row hj h.symm h1;simp only[cE,hj,aQ,hb,Nat.beq_refl] at hx;obtain⟨t1,t2⟩:=aU hx;injection t1 with t1; subst t1; subst t2;exact⟨⟨g.a,g.c,g.n,g.sz,tk⟩,some j,fun P=>⟨rfl,fun γ2 _=>⟨rfl,h0,e2,e3,e4,vs,hr,hL,hN⟩,rfl,.inr ⟨j,g,_,rfl,h1,hF,rfl,rfl⟩⟩,cnt h.symm,h4 (by omega)⟩
   ·cases h
  ·cases h
 ·rename_i j hvv n
  split at h
  ·rename_i hh t ys hj;unfold aQ at h
   split at h
   ·rename_i hb
    have hb:=aXJ hb
    injection h with h;obtain⟨h0',g,h1,h2,h3,h4⟩:=hv;obtain⟨hF,e0,e1,e2,e3,e4,vs,hr,hL,hN⟩:=row hj h.symm h1;obtain⟨q1,A,c,q2,q3,q4,q5,q6⟩:=h4 (by omega);obtain⟨q6,q7⟩:=q6 rfl;subst q6; subst q7;simp only[cE,hj,aQ,hb,Nat.beq_refl] at hx;obtain⟨t1,t2⟩:=aU hx;injection t1 with t1; subst t1; subst t2
    have hlen:(gO ys 0 n).length=n:=by simp only[gO,aZG,aYU]; omega
    refine⟨⟨g.a,g.c,n,g.sz,tk⟩,some j,fun P=>⟨rfl,fun γ2 _=>⟨rfl,h0,hlen.symm,e3,e4,vs.take (n*t.size),⟨?_,?_⟩,?_,hN⟩,rfl,.inr ⟨j,g,_,rfl,h1,hF,rfl,rfl⟩⟩,cnt h.symm,q2⟩
    ·show(vs.take (n*t.size)).length=(gO ys 0 n).length*t.size;rw[hlen,aYU,hr.1]
     have:n*t.size≤ys.length*t.size:=aXW _ (by omega)
     omega
    ·rcases hr.2 with⟨a1,a2,a3⟩|⟨b,cur,ee,fz,k1,k2,k3,k4,k5,k6,k7⟩
     ·exact .inl ⟨a1,a2,by rw[show(List.length (gO ys 0 n))=n from hlen]; omega⟩
     ·refine .inr ⟨b,cur,ee,fz,k1,k2,k3,?_,k5,k6,?_,k7.2⟩
      ·rw[show(List.length (gO ys 0 n))=n from hlen]; exact q3
      ·rw[show(List.length (gO ys 0 n))=n from hlen,←k7.1,List.take_take];congr 1
       have:n*t.size≤ys.length*t.size:=aXW _ (by omega)
       omega
    ·show dH (aT K t) (gO ys 0 n) _;simp only[gO,aZG];exact fE bA n hL
   ·cases h
  ·cases h
 ·cases h
theorem aMJ(hU:Fzd ob obF U){c:Cell}(hu:∀p∈bW ob [c],p∈U):KA ob obF [c]:=by
 intro d hd j hj h t xs ho;simp only[aYG] at hd;subst hd;rcases ho with ho|ho
 ·exact hU.frz _ (hu _ (oU ob [d] d j (by simp) hj h t xs ho)) (fun e=>by cases e)
 ·refine hU.no j _ ho fun p hp e=>?_
  obtain⟨o,h1,h2⟩:=hU.src p hp;rw[e,ho] at h1;injection h1 with h1;subst h1;cases h2
theorem nV(hH:Hp w0 K0 H γ obF K w) (hU:Fzd ob obF U) (h0:0<tk){m:List Nat}:∀(cs:List Cell){ds:List Cell}{vs:List Value}{i n:Nat}{u:Upd},oS ob m i cs=some u→(∀p∈u,p∈U)→KG ob cs ds→bK γ K cs vs →
  ∀ {cs':List Cell} {os:List Ob},iD m tk i n ds=(cs',os)→∃gs js,(∀P,nH γ obF K w tk P os gs js)∧(∀j,dY j u=js.count (some j))∧∀γ2:Ghs,(∀k g,gs[k]?=some g→γ2 (tk+(n+k))=some g)→bK γ2 K cs' vs
 | [],ds,vs,i,n,u,hm,hu,ha,hv,cs',os,h=>by
  have ha:ds=[]:=ha
  subst ha;simp only[oS,Option.some.injEq] at hm;simp only[iD,Prod.mk.injEq] at h;obtain⟨rfl,rfl⟩:=h;subst hm;exact⟨[],[],fun _=>⟨rfl,rfl⟩,fun j=>rfl,fun _ _=>hv⟩
 |c::cs,ds,vs,i,n,u,hm,hu,ha,hv,cs',os,h=>by
  obtain⟨d,dr,rfl,ha1,ha2⟩:=ha;obtain⟨v,vr,rfl,hv1,hv2,hv3⟩:=hv;simp only[oS] at hm
  split at hm
  ·cases hm
  ·rename_i u1 hm1
   split at hm
   ·rename_i hmem
    split at hm
    ·rename_i g1 hown;injection hm with hm;subst hm;rw[bR] at hu ⊢;rcases ha1 with⟨e,xs,rfl,hx,he⟩|⟨rfl,ha1⟩
     ·simp only[iD,hmem] at h
      cases hr:iD m tk (i+1) (n+1) dr with
      |mk cs1 os1 =>
      rw[hr] at h;simp only[Prod.mk.injEq] at h;obtain⟨rfl,rfl⟩:=h;obtain⟨g2,src,q1,q2,q3⟩:=S5 hH hU h0 hown (fun p hp=>hu p (aXZ _ hp)) hx he hv1;obtain⟨gs,js,r1,r2,r3⟩:=nV hH hU h0 cs hm1 (fun p hp=>hu p (aXK _ hp)) ha2 hv3 hr;refine⟨g2::gs,src::js,fun P=>⟨g2,gs,src,js,rfl,rfl,q1 P,r1 P⟩,fun j=>?_,fun γ2 hγ=>⟨v,vr,rfl,?_,hv2,r3 γ2 fun k g hk=>?_⟩⟩
      ·rw[qL,q2,r2,aZB (l:=js),aX1];exact aZQ _ _
      ·exact⟨by rw[q3]; rfl,g2,by simpa using hγ 0 g2 rfl,h0,by rw[(q1 fun _=>True).2.2.1]; exact aZ0 _,fun _=>q3⟩
      ·have:=hγ (k+1) g (by simpa using hk)
       rwa [show n+(k+1)=n+1+k by omega] at this
     ·rcases ha1 with⟨t,x,rfl,_⟩|rfl
      ·simp[JS] at hown
      ·simp[JS] at hown
    ·cases hm
   ·rename_i hmem;injection hm with hm;subst hm;rw[bR] at hu ⊢;simp only[iD,hmem] at h
    cases hr:iD m tk (i+1) n dr with
    |mk cs1 os1 =>
    rw[hr] at h;simp only[Prod.mk.injEq] at h;obtain⟨rfl,rfl⟩:=h;obtain⟨gs,js,r1,r2,r3⟩:=nV hH hU h0 cs hm1 (fun p hp=>hu p (aXK _ hp)) ha2 hv3 hr;refine⟨gs,js,r1,fun j=>?_,fun γ2 hγ=>⟨v,vr,rfl,?_,hv2,r3 γ2 hγ⟩⟩
    ·rw[qL,zV j (eA ob [c]),aZS,r2]
    ·rcases ha1 with⟨e,xs,rfl,hx,he⟩|⟨rfl,ha1⟩
     ·exact lY hx hv1 hH (aMJ hU fun p hp=>hu p (aXZ _ hp))
     ·rcases ha1 with⟨t,x,rfl,_⟩|rfl
      ·exact hv1
      ·exact hv1
theorem nW{γ:Ghs}{obF:Obs}{K:Kn}{w:World}{tk:Nat}{P Q:Ghs→Prop}(hPQ:∀γ2,P γ2→Q γ2):∀ {a:List Ob}{ga:List Gh}{ja:List (Option Nat)},nH γ obF K w tk Q a ga ja→nH γ obF K w tk P a ga ja
 | [],_,_,h=>h
 |_::_,_,_,⟨g,gr,j,jr,e1,e2,h1,h2⟩=>⟨g,gr,j,jr,e1,e2,⟨h1.1,fun γ2 h=>h1.2.1 γ2 (hPQ γ2 h),h1.2.2⟩,nW hPQ h2⟩
theorem CZ{g1 g2:List Gh}{tk n:Nat}{γ2:Ghs}(h:Ats (g1++g2) tk n γ2):Ats g1 tk n γ2:=fun k g hk=>h k g (by
 rw[aW7]
 ·exact hk
 ·exact(aW6.1 hk).1)
theorem xS{g1 g2:List Gh}{tk n m:Nat}{γ2:Ghs}(h:Ats (g1++g2) tk n γ2) (hm:g1.length=m):Ats g2 tk (n+m) γ2:=fun k g hk=>by
 subst hm
 have:=h (g1.length+k) g (by rw[aW5 (by omega),aXE]; exact hk)
 rw[aZK]; exact this
theorem vK{α:Type}(xs:List α) (y:α):(xs.set (xs.length-1) y).dropLast=xs.dropLast:=by
 apply aYJ;intro i;simp only[List.getElem?_dropLast,List.length_set,List.getElem?_set]
 split
 ·rw[if_neg (by omega)]
 ·rfl
theorem lN{α:Type}(xs:List α) (y d:α) (h:xs≠[]):aM (bM xs y) d=y:=by
 have:0<xs.length:=aX8.2 h
 simp only[aM,bM,List.length_set,aW4];rw[List.getElem?_set_self (by omega)];rfl
theorem DA{tk:Nat}(h0:0<tk):∀(t:Ty) (n:Nat),t.wf=true→∃gs js,(∀P,nH γ obF K w tk P (dUn tk t n t.zero).2 gs js)∧∀j,js.count (some j)=0:=by
 intro t
 induction t with
 |pair a b iha ihb =>
  intro n hw;simp only[Ty.wf,aYS] at hw;obtain⟨g1,j1,a1,a2⟩:=iha n hw.1;obtain⟨g2,j2,b1,b2⟩:=ihb (n+lng (dUn tk a n a.zero).2) hw.2;refine⟨g1++g2,j1++j2,fun P=>?_,fun j=>by rw[List.count_append,a2,b2]⟩;simp only[dUn,Ty.zero,bR];exact vJ (a1 P) (b1 P)
 |st t ih=>intro n hw; exact ih n hw
 |slice e ih =>
  intro n hw;simp only[Ty.wf,aYS] at hw
  have he:=aXL hw.1
  simp only[dUn]
  split
  ·exact⟨[⟨none,0,0,e.size,tk⟩],[none],fun P=>⟨_,[],_,[],rfl,rfl,⟨rfl,fun γ2 _=>⟨rfl,h0,rfl,rfl,he,[],⟨by simp[Ty.zero],.inl ⟨rfl,rfl,rfl⟩⟩,rfl,fun ad ha=>by cases ha⟩,rfl,.inl rfl⟩,rfl,rfl⟩,fun j=>by simp⟩
  ·obtain⟨gs,js,a1,a2⟩:=ih (n+1) hw.2;refine⟨⟨none,0,0,e.size,tk⟩::gs,none::js,fun P=>⟨_,gs,_,js,rfl,rfl,⟨rfl,fun γ2 _=>⟨rfl,h0,rfl,rfl,he,[],[],⟨by simp[Ty.zero],.inl ⟨rfl,rfl,rfl⟩⟩,rfl,.inl ⟨rfl,rfl⟩,fun ad ha=>by cases ha⟩,rfl,.inl rfl⟩,a1 P⟩,fun j=>by rw[aZB,a2]; simp⟩
 |_=>intro n _; exact⟨[],[],fun P=>⟨rfl,rfl⟩,fun j=>rfl⟩
theorem DB(j i:Nat) (u:Upd):dY j ((i,.gone)::u)=(if i=j then 1 else 0)+dY j u:=rfl
theorem aDV(hH:Hp w0 K0 H γ obF K w) (hU:Fzd ob obF U) (h0:0<tk){e:Ty}(hw:(Ty.slice e).wf=true)
  (ih:∀ {cs r:List Cell} {x:e.den} {u:Upd},dPk ob e cs=some ((x,r),u)→(∀p∈u,p∈U)→∀ {vs:List Value},bK γ K cs vs→∀n,∃gs js vs1 vs2,vs=vs1++vs2∧bK γ K r vs2∧nH γ obF K w tk (Ats gs tk n) (dUn tk e n x).2 gs js∧(∀j,js.count (some j)≤dY j u)∧∀γ2,Ats gs tk n γ2→bK γ2 K (dUn tk e n x).1 vs1)
  {c:Cell} {xs:List e.den} {u:Upd} (h:QD ob e (dPk ob e) c=some (xs,u)) (hu:∀p∈u,p∈U) {v:Value} (hv:aF γ K c v) (hv1:v.oneCell'=true) (n:Nat) :
  ∃gs js,nH γ obF K w tk (Ats gs tk n) (dUn tk (.slice e) n xs).2 gs js∧(∀j,js.count (some j)≤dY j u)∧∀γ2,Ats gs tk n γ2→bK γ2 K (dUn tk (.slice e) n xs).1 [v]:=by
 simp only[Ty.wf,aYS] at hw
 have he:=aXL hw.1
 -- a row of flat elements
 have flat:JT e=true→∀ {c:Cell} {xs:List e.den} {u:Upd},JS ob c=some u→(∀p∈u,p∈U)→cE ob e c=some xs→aF γ K c v→∃gs js,nH γ obF K w tk (Ats gs tk n) (dUn tk (.slice e) n xs).2 gs js∧(∀j,js.count (some j)≤dY j u)∧∀γ2,Ats gs tk n γ2→bK γ2 K (dUn tk (.slice e) n xs).1 [v]:=by
  intro hn c xs u h1 h2 h3 h4;obtain⟨g2,src,q1,q2,q3⟩:=S5 hH hU h0 h1 h2 h3 he h4;refine⟨[g2],[src],?_,fun j=>Nat.le_of_eq (q2 j).symm,fun γ2 hγ=>?_⟩
  ·simp only[dUn,hn];exact⟨g2,[],src,[],rfl,rfl,q1 _,rfl,rfl⟩
  ·simp only[dUn,hn];refine⟨v,[],rfl,⟨by rw[q3]; rfl,g2,by simpa using hγ 0 g2 rfl,h0,by rw[(q1 fun _=>True).2.2.1]; exact aZ0 _,fun _=>q3⟩,hv1,rfl⟩
 unfold QD at h
 split at h
 ·
  simp only[Option.some.injEq,Prod.mk.injEq] at h;obtain⟨rfl,rfl⟩:=h
  cases hn:JT e with
  |true=>exact flat hn (c:=.nils) rfl (fun p hp=>by cases hp) rfl hv
  |false =>
   obtain⟨gs,js,a1,a2⟩:=DA (γ:=γ) (obF:=obF) (K:=K) (w:=w) h0 e (n+1) hw.2
   have hv:v=.slice none 0 0:=hv
   subst hv;refine⟨⟨none,0,0,e.size,tk⟩::gs,none::js,?_,fun j=>by rw[aZB,a2]; simp,fun γ2 hγ=>?_⟩
   ·simp only[dUn,hn];exact⟨_,gs,_,js,rfl,rfl,⟨rfl,fun γ2 _=>⟨rfl,h0,rfl,rfl,he,[],[],⟨by simp,.inl ⟨rfl,rfl,rfl⟩⟩,rfl,.inl ⟨rfl,rfl⟩,fun ad ha=>by cases ha⟩,rfl,.inl rfl⟩,a1 _⟩
   ·simp only[dUn,hn];exact⟨_,[],rfl,⟨rfl,_,by simpa using hγ 0 _ rfl,h0,aZ0 _,fun _=>rfl⟩,hv1,rfl⟩
 ·rename_i j hvv
  split at h
  ·rename_i hh t ys hj
   split at h
   ·rename_i zs hc hz;simp only[aYS] at hc;simp only[Option.some.injEq,Prod.mk.injEq] at h;obtain⟨rfl,rfl⟩:=h;refine flat hc.1 (c:=.row j hvv) ?_ hu ?_ hv
    ·simp only[JS,hj,hc.2,aQ]
    ·simp only[cE,hj,hc.2,aQ,hz]
   ·cases h
  ·rename_i hh t ys cs hj
   split at h
   ·rename_i zs hc hz;simp only[aYS,aYL] at hc
    have hb:=aXJ hc.2
    obtain⟨t1,t2⟩:=aU hz;injection t1 with t1;subst t1; subst t2
    split at h
    ·rename_i y u1 hy;simp only[Option.some.injEq,Prod.mk.injEq] at h;obtain⟨rfl,rfl⟩:=h
     have hF:obF j=some (.opn hh t ys cs):=hU.gone (j,.gone) (hu _ aYE) rfl _ hj
     obtain⟨k0,g,k1,k2,k3,k4⟩:=hv;obtain⟨q1,q2,q3,q4,q5,vs,us,q6,q7,q9,q8⟩:=hH.ok j _ g hF k1
     have hvv:=k4 (q1.trans hb)
     have hlen:(bM ys y).length=ys.length:=by simp[bM]
     have hdl:(bM ys y).dropLast=ys.dropLast:=vK ys y
     have fin:∀ {gs:List Gh} {js:List (Option Nat)} {P:Ghs→Prop},nH γ obF K w tk (Ats gs tk (n+1)) (dUn tk t (n+1) (aM (bM ys y) t.dflt)).2 gs js→(∀i,js.count (some i)≤dY i u1) →
       (∀γ2,Ats gs tk (n+1) γ2→eG γ2 K w ⟨g.a,g.c,g.n,g.sz,tk⟩ (.opn tk t (bM ys y) (dUn tk t (n+1) (aM (bM ys y) t.dflt)).1)) →
       ∃gs js,nH γ obF K w tk (Ats gs tk n) (dUn tk (.slice t) n (bM ys y)).2 gs js∧(∀i,js.count (some i)≤dY i ((j,.gone)::u1))∧∀γ2,Ats gs tk n γ2→bK γ2 K (dUn tk (.slice t) n (bM ys y)).1 [v]:=by
      intro gs js P hN hcnt hO
      have tl:∀γ2,Ats (⟨g.a,g.c,g.n,g.sz,tk⟩::gs) tk n γ2→Ats gs tk (n+1) γ2:=fun γ2 hγ=>xS (g1:=[⟨g.a,g.c,g.n,g.sz,tk⟩]) hγ rfl
      refine⟨⟨g.a,g.c,g.n,g.sz,tk⟩::gs,some j::js,?_,fun i=>?_,fun γ2 hγ=>?_⟩
      ·simp only[dUn,hc.1];exact⟨_,gs,_,js,rfl,rfl,⟨rfl,fun γ2 hγ=>hO γ2 (tl γ2 hγ),rfl,.inr ⟨j,g,_,rfl,k1,hF,rfl,rfl⟩⟩,nW tl hN⟩
      ·rw[aZB,DB]
       have:=hcnt i
       by_cases hij:j=i
       ·subst hij; simp; omega
       ·simp[hij]; omega
      ·simp only[dUn,hc.1];exact⟨v,[],rfl,⟨k0,⟨g.a,g.c,g.n,g.sz,tk⟩,by simpa using hγ 0 _ rfl,h0,aZ0 _,fun _=>hvv⟩,hv1,rfl⟩
     by_cases hne:ys=[]
     ·subst hne;obtain⟨gs,js,a1,a2⟩:=DA (γ:=γ) (obF:=obF) (K:=K) (w:=w) h0 t (n+1) hw.2;rcases q9 with⟨_,hus⟩|⟨hx,_⟩
      ·subst hus;exact fin (P:=fun _=>True) (a1 _) (fun i=>by rw[a2]; exact aZ1 _) fun γ2 _=>⟨rfl,h0,q3,q4,q5,vs,[],q6,q7,.inl ⟨rfl,rfl⟩,q8⟩
      ·exact absurd rfl hx
     ·rcases q9 with⟨hx,_⟩|⟨_,hrep⟩
      ·exact absurd hx hne
      ·obtain⟨gs,js,vs1,vs2,e1,e2,a1,a2,a3⟩:=ih hy (fun p hp=>hu p (aXV _ hp)) hrep (n+1)
       have e2:vs2=[]:=e2
       subst e2;rw[aY5] at e1;subst e1
       have hgl:=lN ys y t.dflt hne
       refine fin (P:=fun _=>True) (gs:=gs) (js:=js) (by rw[hgl]; exact a1) a2 fun γ2 hγ=>?_
       rw[hgl];refine⟨rfl,h0,by rw[hlen]; exact q3,q4,q5,vs,us,by rw[hlen]; exact q6,by rw[hdl]; exact q7,.inr ⟨fun e=>?_,a3 γ2 hγ⟩,q8⟩
       have:=congrArg List.length e
       rw[hlen] at this;exact hne (aWZ this)
    ·cases h
   ·cases h
  ·cases h
 ·cases h
theorem aDW(hH:Hp w0 K0 H γ obF K w) (hU:Fzd ob obF U) (h0:0<tk):∀(t:Ty),t.wf=true→∀ {cs r:List Cell}{x:t.den}{u:Upd},dPk ob t cs=some ((x,r),u)→(∀p∈u,p∈U)→∀ {vs:List Value},bK γ K cs vs→∀n,
  ∃gs js vs1 vs2,vs=vs1++vs2∧bK γ K r vs2∧nH γ obF K w tk (Ats gs tk n) (dUn tk t n x).2 gs js∧(∀j,js.count (some j)≤dY j u)∧∀γ2,Ats gs tk n γ2→bK γ2 K (dUn tk t n x).1 vs1:=by
 intro t
 have scal:∀ {t:Ty} {cs r:List Cell} {x:t.den} {u:Upd} {vs:List Value},(∀n,dUn tk t n x=([.v t x],[]))→(∃c,cs=c::r∧c=.v t x)→bK γ K cs vs→∀n,∃gs js vs1 vs2,vs=vs1++vs2∧bK γ K r vs2∧nH γ obF K w tk (Ats gs tk n) (dUn tk t n x).2 gs js∧(∀j,js.count (some j)≤dY j u)∧∀γ2,Ats gs tk n γ2→bK γ2 K (dUn tk t n x).1 vs1:=by
  intro t cs r x u vs hd hc hv n;obtain⟨c,rfl,rfl⟩:=hc;obtain⟨v,vr,rfl,q1,q2,q3⟩:=hv;exact⟨[],[],[v],vr,rfl,q3,by rw[hd]; exact⟨rfl,rfl⟩,fun j=>aZ1 _,fun γ2 _=>by rw[hd]; exact⟨v,[],rfl,q1,q2,rfl⟩⟩
 induction t with
 |pair a b iha ihb =>
  intro hw cs r x u h hu vs hv n;simp only[Ty.wf,aYS] at hw;simp only[dPk] at h
  split at h
  ·rename_i y r1 u1 h1
   split at h
   ·rename_i z r2 u2 h2;simp only[Option.some.injEq,Prod.mk.injEq] at h;obtain⟨⟨rfl,rfl⟩,rfl⟩:=h;rw[bR] at hu ⊢;obtain⟨g1,j1,v1,v2,e,a0,a1,a2,a3⟩:=iha hw.1 h1 (fun p hp=>hu p (aXZ _ hp)) hv n;obtain⟨g2,j2,w1,w2,e',b0,b1,b2,b3⟩:=ihb hw.2 h2 (fun p hp=>hu p (aXK _ hp)) a0 (n+lng (dUn tk a n y).2)
    have hl:=(mE a1).1
    have right:∀γ2,Ats (g1++g2) tk n γ2→Ats g2 tk (n+lng (dUn tk a n y).2) γ2:=fun γ2 hγ=>xS hγ (by rw[hl,cR])
    refine⟨g1++g2,j1++j2,v1++w1,w2,by rw[e,e',aYK],b0,?_,fun j=>?_,fun γ2 hγ=>?_⟩
    ·simp only[dUn,bR];exact vJ (nW (fun _=>CZ) a1) (nW right b1)
    ·rw[List.count_append,qL];exact Nat.add_le_add (a2 j) (b2 j)
    ·simp only[dUn,bR];exact iK (a3 γ2 (CZ hγ)) (b3 γ2 (right γ2 hγ))
   ·cases h
  ·cases h
 |st t ih=>intro hw cs r x u h hu vs hv n; exact ih hw h hu hv n
 |slice e ih =>
  intro hw cs r x u h hu vs hv n
  cases cs with
  |nil=>simp[dPk,dG] at h
  |cons c cs =>
   simp only[dPk] at h
   split at h
   ·rename_i xs u1 hc;simp only[Option.some.injEq,Prod.mk.injEq] at h;obtain⟨⟨rfl,rfl⟩,rfl⟩:=h;obtain⟨v,vr,rfl,q1,q2,q3⟩:=hv
    have hwe:e.wf=true:=by simp only[Ty.wf,aYS] at hw; exact hw.2
    obtain⟨gs,js,a1,a2,a3⟩:=aDV hH hU h0 hw (fun hh hu' _ hv'=>ih hwe hh hu' hv') hc hu q1 q2 n;exact⟨gs,js,[v],vr,rfl,q3,a1,a2,a3⟩
   ·cases h
 |int k =>
  intro _ cs r x u h hu vs hv n;refine scal (fun n=>rfl) ?_ hv n
  cases cs with
  |nil=>simp[dPk,dG,bld] at h
  |cons c cs =>
   cases c<;>simp only[dPk,dG,bld] at h<;>try (cases h; done)
   split at h
   ·rename_i hb
    split at hb
    ·rename_i y hy;simp only[Option.some.injEq,Prod.mk.injEq] at h hb;obtain⟨⟨rfl,rfl⟩,_⟩:=h;obtain⟨rfl,rfl⟩:=hb;obtain⟨e1,e2⟩:=aU hy;subst e1; subst e2;exact⟨_,rfl,rfl⟩
    ·cases hb
   ·cases h
 |u8 =>
  intro _ cs r x u h hu vs hv n;refine scal (fun n=>rfl) ?_ hv n
  cases cs with
  |nil=>simp[dPk,dG,bld] at h
  |cons c cs =>
   cases c<;>simp only[dPk,dG,bld] at h<;>try (cases h; done)
   split at h
   ·rename_i hb
    split at hb
    ·rename_i y hy;simp only[Option.some.injEq,Prod.mk.injEq] at h hb;obtain⟨⟨rfl,rfl⟩,_⟩:=h;obtain⟨rfl,rfl⟩:=hb;obtain⟨e1,e2⟩:=aU hy;subst e1; subst e2;exact⟨_,rfl,rfl⟩
    ·cases hb
   ·cases h
 |bool =>
  intro _ cs r x u h hu vs hv n;refine scal (fun n=>rfl) ?_ hv n
  cases cs with
  |nil=>simp[dPk,dG,bld] at h
  |cons c cs =>
   cases c<;>simp only[dPk,dG,bld] at h<;>try (cases h; done)
   split at h
   ·rename_i hb
    split at hb
    ·rename_i y hy;simp only[Option.some.injEq,Prod.mk.injEq] at h hb;obtain⟨⟨rfl,rfl⟩,_⟩:=h;obtain⟨rfl,rfl⟩:=hb;obtain⟨e1,e2⟩:=aU hy;subst e1; subst e2;exact⟨_,rfl,rfl⟩
    ·cases hb
   ·cases h
 |str =>
  intro _ cs r x u h hu vs hv n;refine scal (fun n=>rfl) ?_ hv n
  cases cs with
  |nil=>simp[dPk,dG,bld] at h
  |cons c cs =>
   cases c<;>simp only[dPk,dG,bld] at h<;>try (cases h; done)
   split at h
   ·rename_i hb
    split at hb
    ·rename_i y hy;simp only[Option.some.injEq,Prod.mk.injEq] at h hb;obtain⟨⟨rfl,rfl⟩,_⟩:=h;obtain⟨rfl,rfl⟩:=hb;obtain⟨e1,e2⟩:=aU hy;subst e1; subst e2;exact⟨_,rfl,rfl⟩
    ·cases hb
   ·cases h
 |_ =>
  intro _ cs r x u h;simp[dPk,dG] at h
end
end Go.W
end

section
namespace Go.W
open Go Go.RowKit
def UOk(ob:Obs) (u:Upd):Prop:=∀p∈u,(p.2=.gone∧∃o,ob p.1=some o∧o.owns=true)∨(∃h t xs,ob p.1=some (.row h t xs)∧p.2=.frz h t xs)
theorem AU{ob:Obs}{u v:Upd}(h:UOk ob u) (k:UOk ob v):UOk ob (u++v):=fun p hp=>(aY4.1 hp).elim (h p) (k p)
theorem aMK{ob:Obs}{u:Upd}(h:qG ob u):UOk ob u:=fun p hp=>.inr (h p hp)
theorem aDX{ob:Obs}{c:Cell}{u:Upd}(h:JS ob c=some u):UOk ob u:=by
 unfold JS at h
 split at h
 ·injection h with h; subst h; exact fun p hp=>by cases hp
 all_goals
  first
  |(cases h; done)
  |split at h
   ·rename_i hj;unfold aQ at h
    split at h
    ·injection h with h;subst h;intro p hp;simp only[aYG] at hp;subst hp;exact .inl ⟨rfl,_,hj,rfl⟩
    ·cases h
   ·cases h
theorem tW{ob:Obs}{m:List Nat}:∀(cs:List Cell){i:Nat}{u:Upd},oS ob m i cs=some u→UOk ob u
 | [],i,u,h=>by simp only[oS,Option.some.injEq] at h; subst h; exact fun p hp=>by cases hp
 |c::cs,i,u,h=>by
  simp only[oS] at h
  split at h
  ·cases h
  ·rename_i u1 h1
   have ih:=tW cs h1
   split at h
   ·split at h
    ·rename_i g hg;injection h with h;subst h;rw[bR];exact AU (aDX hg) ih
    ·cases h
   ·injection h with h;subst h;rw[bR];exact AU (aMK (eA ob [c])) ih
theorem sD{ob:Obs}{t:Ty}{m:List Nat}{v:Val}{x:t.den}{u:Upd}(h:GN ob t m v=some (x,u)):t.wf=true∧cO ob t v=some x∧oS ob m 0 v.cells=some u:=by
 unfold GN at h
 split at h
 ·rename_i h1 h2 h3;simp only[Option.some.injEq,Prod.mk.injEq] at h;obtain⟨rfl,rfl⟩:=h;exact⟨h1,h2,h3⟩
 ·cases h
theorem aA6{ob:Obs}{e:Ty}(ih:∀ {cs r:List Cell}{x:e.den}{u:Upd},dPk ob e cs=some ((x,r),u)→UOk ob u){c:Cell}{xs:List e.den}{u:Upd}(h:QD ob e (dPk ob e) c=some (xs,u)):UOk ob u:=by
 unfold QD at h
 split at h
 ·simp only[Option.some.injEq,Prod.mk.injEq] at h;obtain⟨_,rfl⟩:=h;exact fun p hp=>by cases hp
 ·split at h
  ·rename_i hj
   split at h
   ·simp only[Option.some.injEq,Prod.mk.injEq] at h;obtain⟨_,rfl⟩:=h;intro p hp;simp only[aYG] at hp;subst hp;exact .inl ⟨rfl,_,hj,rfl⟩
   ·cases h
  ·rename_i hj
   split at h
   ·split at h
    ·rename_i hy;simp only[Option.some.injEq,Prod.mk.injEq] at h;obtain⟨_,rfl⟩:=h;intro p hp;rcases aZL.1 hp with rfl|hp
     ·exact .inl ⟨rfl,_,hj,rfl⟩
     ·exact ih hy p hp
    ·cases h
   ·cases h
  ·cases h
 ·cases h
theorem S6{ob:Obs}:∀(t:Ty){cs r:List Cell}{x:t.den}{u:Upd},dPk ob t cs=some ((x,r),u)→UOk ob u:=by
 intro t
 have base:∀ {t:Ty} {cs r:List Cell} {x:t.den} {u:Upd},(match dG t,bld ob t cs with
   |true,some (x,r)=>some ((x,r),([]:Upd))
   |_,_=>none)=some ((x,r),u)→UOk ob u:=by
  intro t cs r x u h
  split at h
  ·simp only[Option.some.injEq,Prod.mk.injEq] at h;obtain⟨_,rfl⟩:=h;exact fun p hp=>by cases hp
  ·cases h
 induction t with
 |pair a b iha ihb =>
  intro cs r x u h;simp only[dPk] at h
  split at h
  ·rename_i h1
   split at h
   ·rename_i h2;simp only[Option.some.injEq,Prod.mk.injEq] at h;obtain⟨_,rfl⟩:=h;rw[bR];exact AU (iha h1) (ihb h2)
   ·cases h
  ·cases h
 |st t ih=>intro cs r x u h; exact ih h
 |slice e ih =>
  intro cs r x u h
  cases cs with
  |nil=>simp[dPk,dG] at h
  |cons c cs =>
   simp only[dPk] at h
   split at h
   ·rename_i hc;simp only[Option.some.injEq,Prod.mk.injEq] at h;obtain⟨_,rfl⟩:=h;exact aA6 (fun hh=>ih hh) hc
   ·cases h
 |int k=>intro cs r x u h; exact base h
 |u8=>intro cs r x u h; exact base h
 |bool=>intro cs r x u h; exact base h
 |str=>intro cs r x u h; exact base h
 |_=>intro cs r x u h; simp[dPk,dG] at h
theorem aA7{ob:Obs}{k:Kd}{s:Src}{x:k.t.den}{u:Upd}(h:P9 ob k s=some (x,u)):UOk ob u:=by
 cases k with
 |v t m =>
  cases s with
  |val v=>exact tW _ (sD h).2.2
  |tok j=>exact absurd (show(none:Option (Ty.den t×Upd))=some (x,u) from h) (by simp)
 |b ti t m =>
  cases s with
  |val v=>exact absurd (show(none:Option (Ty.den t×Upd))=some (x,u) from h) (by simp)
  |tok j =>
   have h:PZ ob ti t m j=some (x,u):=h
   unfold PZ at h
   split at h
   ·rename_i ti' cs hj
    split at h
    ·rename_i y u1 hti h1
     have h:=congrArg Prod.snd (Option.some.inj h)
     simp only at h;subst h;intro p hp;rcases aZL.1 hp with rfl|hp
     ·exact .inl ⟨rfl,_,hj,rfl⟩
     ·exact tW _ (sD h1).2.2 p hp
    ·cases h
   ·cases h
 |r hh e =>
  cases s with
  |val v=>exact absurd (show(none:Option (Ty.den (.slice e)×Upd))=some (x,u) from h) (by simp)
  |tok j =>
   have h:QA ob hh e j=some (x,u):=h
   unfold QA at h
   split at h
   ·rename_i h' e' xs hj
    split at h
    ·have h:=congrArg Prod.snd (Option.some.inj h)
     simp only at h;subst h;intro p hp;simp only[aYG] at hp;subst hp;exact .inl ⟨rfl,_,hj,rfl⟩
    ·cases h
   ·cases h
 |i =>
  cases s with
  |val v=>exact absurd (show(none:Option ((Y_×Int)×Upd))=some (x,u) from h) (by simp)
  |tok j =>
   have h:QB ob j=some (x,u):=h
   unfold QB at h
   split at h
   ·rename_i s' p' hj
    have h:=congrArg Prod.snd (Option.some.inj h)
    simp only at h;subst h;intro p hp;simp only[aYG] at hp;subst hp;exact .inl ⟨rfl,_,hj,rfl⟩
   ·cases h
 |m kt vt =>
  cases s with
  |val v=>exact absurd (show(none:Option (List (kt.den×vt.den)×Upd))=some (x,u) from h) (by simp)
  |tok j =>
   have h:QC ob kt vt j=some (x,u):=h
   unfold QC at h
   split at h
   ·rename_i K V es hj
    split at h
    ·have h:=congrArg Prod.snd (Option.some.inj h)
     simp only at h;subst h;intro p hp;simp only[aYG] at hp;subst hp;exact .inl ⟨rfl,_,hj,rfl⟩
    ·cases h
   ·cases h
 |d ti t =>
  cases s with
  |val v=>exact absurd (show(none:Option (Ty.den t×Upd))=some (x,u) from h) (by simp)
  |tok j =>
   have h:QE ob ti t j=some (x,u):=h
   unfold QE at h
   split at h
   ·rename_i ti' cs hj
    split at h
    ·rename_i y u1 hc hd
     have h:=congrArg Prod.snd (Option.some.inj h)
     simp only at h;subst h;intro p hp;rcases aZL.1 hp with rfl|hp
     ·exact .inl ⟨rfl,_,hj,rfl⟩
     ·exact S6 t hd p hp
    ·cases h
   ·cases h
 |l hh e =>
  cases s with
  |val v=>exact absurd (show(none:Option (Ty.den (.slice e)×Upd))=some (x,u) from h) (by simp)
  |tok j =>
   have h:QF ob hh e j=some (x,u):=h
   unfold QF at h
   split at h
   ·rename_i h' e' xs cs hj
    split at h
    ·split at h
     ·rename_i hd
      have h:=congrArg Prod.snd (Option.some.inj h)
      simp only at h;subst h;intro p hp;rcases aZL.1 hp with rfl|hp
      ·exact .inl ⟨rfl,_,hj,rfl⟩
      ·exact S6 e hd p hp
     ·cases h
    ·cases h
   ·cases h
theorem GZ{ob:Obs}{k:Kd}{l:List Kd}{ss:List Src}{x:Vec (dK (k::l))}{u:Upd}(h:lV ob (k::l) ss=some (x,u)):∃s sr y u1 z u2,ss=s::sr∧P9 ob k s=some (y,u1)∧lV ob l sr=some (z,u2)∧x=tE k.t (dK l) y z∧u=u1++u2:=by
 cases ss with
 |nil=>simp[lV] at h
 |cons s sr =>
  simp only[lV] at h
  split at h
  ·rename_i y u1 z u2 h1 h2
   have h:=Option.some.inj h
   exact⟨s,sr,y,u1,z,u2,rfl,h1,h2,(congrArg Prod.fst h).symm,by rw[←bR]; exact(congrArg Prod.snd h).symm⟩
  ·cases h
theorem nX{ob:Obs}:∀(l:List Kd){ss:List Src}{x:Vec (dK l)}{u:Upd},lV ob l ss=some (x,u)→UOk ob u
 | [],ss,x,u,h=>by
  cases ss with
  |nil=>simp only[lV,Option.some.injEq,Prod.mk.injEq] at h; obtain⟨_,rfl⟩:=h; exact fun p hp=>by cases hp
  |cons s sr=>simp[lV] at h
 |k::l,ss,x,u,h=>by
  obtain⟨s,sr,y,u1,z,u2,rfl,h1,h2,rfl,rfl⟩:=GZ h;exact AU (aA7 h1) (nX l h2)
theorem HA{j:Nat}:∀ {u:Upd},nF j u=false→∀p∈u,p.1≠j
 | [],_,p,hp=>by cases hp
 |(i,o)::u,h,p,hp=>by
  simp only[nF,aQ] at h
  split at h
  ·cases h
  ·rename_i hb;rcases aZL.1 hp with rfl|hp
   ·intro e; simp only at e; subst e; simp at hb
   ·exact HA h p hp
theorem tX{j:Nat}:∀ {u:Upd},oT j u=false→∀p∈u,p.2=.gone→p.1≠j
 | [],_,p,hp=>by cases hp
 |(i,o)::u,h,p,hp=>by
  intro hg
  cases o with
  |gone =>
   simp only[oT,aQ] at h
   split at h
   ·cases h
   ·rename_i hb;rcases aZL.1 hp with rfl|hp
    ·intro e; simp only at e; subst e; simp at hb
    ·exact tX h p hp hg
  |_ =>
   simp only[oT] at h;rcases aZL.1 hp with rfl|hp
   ·cases hg
   ·exact tX h p hp hg
theorem xT{j:Nat}:∀ {u:Upd},(∀p∈u,p.2=.gone→p.1≠j)→dY j u=0
 | [],_=>rfl
 |(i,o)::u,h=>by
  have ih:=xT (u:=u) fun p hp=>h p (aXV _ hp)
  cases o with
  |gone=>have:=h (i,.gone) aYE rfl; simp only at this; simp[dY,ih,this]
  |_=>exact ih
theorem vL{j:Nat}:∀ {u:Upd},0<dY j u→(j,Ob.gone)∈u
 | [],h=>by simp[dY] at h
 |(i,o)::u,h=>by
  cases o with
  |gone =>
   simp only[dY] at h
   split at h
   ·rename_i e; subst e; exact aYE
   ·exact aXV _ (vL (by omega))
  |_=>exact aXV _ (vL h)
theorem nY:∀ {u:Upd},pN u=true→(∀j,dY j u≤1)∧∀p∈u,p.2=.gone→∀q∈u,q.1=p.1→q.2=.gone
 | [],_=>⟨fun _=>aZ1 _,fun p hp=>by cases hp⟩
 |(i,o)::u,h=>by
  have gone:o=.gone→nF i u=false∧pN u=true:=fun e=>by
   subst e;simp only[pN,aQ] at h
   split at h
   ·cases h
   ·rename_i hb; exact⟨hb,h⟩
  have other:o≠.gone→oT i u=false∧pN u=true:=fun e=>by
   cases o with
   |gone=>exact absurd rfl e
   |_ =>
    simp only[pN,aQ] at h
    split at h
    ·cases h
    ·rename_i hb; exact⟨hb,h⟩
  by_cases ho:o=.gone
  ·obtain⟨h1,h2⟩:=gone ho;obtain⟨i1,i2⟩:=nY h2;subst ho
   have h3:=HA h1
   refine⟨fun j=>?_,fun p hp hg q hq e=>?_⟩
   ·simp only[dY]
    split
    ·rename_i e;subst e;rw[xT fun p hp _=>h3 p hp];exact aZ0 _
    ·have:=i1 j; omega
   ·rcases aZL.1 hp with rfl|hp
    ·rcases aZL.1 hq with rfl|hq
     ·rfl
     ·exact absurd e (h3 q hq)
    ·rcases aZL.1 hq with rfl|hq
     ·rfl
     ·exact i2 p hp hg q hq e
  ·obtain⟨h1,h2⟩:=other ho;obtain⟨i1,i2⟩:=nY h2
   have h3:=tX h1
   refine⟨fun j=>?_,fun p hp hg q hq e=>?_⟩
   ·have:dY j ((i,o)::u)=dY j u:=by cases o<;>first|rfl|exact absurd rfl ho
    rw[this]; exact i1 j
   ·rcases aZL.1 hp with rfl|hp
    ·exact absurd hg ho
    ·rcases aZL.1 hq with rfl|hq
     ·exact absurd e.symm (h3 p hp hg)
     ·exact i2 p hp hg q hq e
def fzP:Upd→Upd
 | []=>[]
 |(_,.gone)::r=>fzP r
 |p::r=>p::fzP r
theorem lC{p:Nat×Ob}:∀ {u:Upd},p∈fzP u↔p∈u∧p.2≠.gone
 | []=>by simp[fzP]
 |(i,o)::u=>by
  have ih:=lC (p:=p) (u:=u)
  cases o with
  |gone =>
   simp only[fzP,ih,aZL];constructor
   ·exact fun h=>⟨.inr h.1,h.2⟩
   ·rintro⟨rfl|h,h2⟩
    ·exact absurd rfl h2
    ·exact⟨h,h2⟩
  |_ =>
   simp only[fzP,aZL,ih];constructor
   ·rintro(rfl|h)
    ·exact⟨.inl rfl,fun e=>by cases e⟩
    ·exact⟨.inr h.1,h.2⟩
   ·rintro⟨rfl|h,h2⟩
    ·exact .inl rfl
    ·exact .inr ⟨h,h2⟩
section
variable {w0 w:World} {K0 K:Kn} {H:Nat→Prop} {γ:Ghs} {ob obF:Obs} {U:Upd} {tk:Nat}
theorem Hp.fzd{ob1:Obs}(h:Hp w0 K0 H γ ob1 K w) (hob:∀j o,ob j=some o→ob1 j=some o){u:Upd}(hu:UOk ob u) (ht:pN u=true) :
  ∃K1 obF,K.le K1∧Hp w0 K0 H γ obF K1 w∧Fzd ob obF u∧∀j,(∀p∈u,p.2≠.gone→p.1≠j)→obF j=ob1 j:=by
 have fr:qG ob (fzP u):=fun p hp=>by
  have hp:=lC.1 hp
  rcases hu p hp.1 with⟨e,_⟩|h
  ·exact absurd e hp.2
  ·exact h
 obtain⟨K1,h1,h2,h3⟩:=Hp.frzL (fzP u) fr (fun _ _ _ _ hj=>.inl (hob _ _ hj)) h;refine⟨K1,_,h1,h2,⟨fun p hp hg=>?_,fun p hp hg o ho=>?_,fun j o ho hj=>?_,fun p hp=>?_⟩,fun j hj=>?_⟩
 ·rcases h3 p.1 with⟨q,hq,e1,e2⟩|⟨hno,_⟩
  ·rw[e2];obtain⟨a1,t1,x1,b1,c1⟩:=fr q hq;obtain⟨a2,t2,x2,b2,c2⟩:=fr p (lC.2 ⟨hp,hg⟩);rw[e1,b2] at b1;injection b1 with b1;injection b1 with d1 d2 d3;subst d1; subst d2
   have d3:=eq_of_heq d3
   subst d3;rw[c1,c2]
  ·exact absurd rfl (hno p (lC.2 ⟨hp,hg⟩))
 ·rcases h3 p.1 with⟨q,hq,e1,e2⟩|⟨_,e⟩
  ·exact absurd ((nY ht).2 p hp hg q (lC.1 hq).1 e1) (lC.1 hq).2
  ·rw[e]; exact hob _ _ ho
 ·rcases h3 j with⟨q,hq,e1,e2⟩|⟨_,e⟩
  ·exact absurd e1 (hj q (lC.1 hq).1)
  ·rw[e]; exact hob _ _ ho
 ·rcases hu p hp with⟨_,h⟩|⟨a,t,xs,h,_⟩
  ·exact h
  ·exact⟨_,h,rfl⟩
 ·rcases h3 j with⟨q,hq,e1,e2⟩|⟨_,e⟩
  ·exact absurd e1 (hj q (lC.1 hq).1 (lC.1 hq).2)
  ·exact e
def aK1(γ:Ghs) (K:Kn):Src→Value→Prop
 | .val v,V=>bY γ K v V
 | .tok _,_=>True
def xU(γ:Ghs) (K:Kn):List Src→List Value→Prop
 | [],vs=>vs=[]
 |s::ss,vs=>∃v r,vs=v::r∧aK1 γ K s v∧xU γ K ss r
def vM(γ γ2:Ghs) (ob obF:Obs) (K:Kn) (w:World):Src→Value→Piece→Prop
 | .val _,V,.val v=>bY γ2 K v V
 | .tok j,_,.ob o=>o.owns=true∧(∃p,ob j=some p∧obF j=some p∧p.owns=true)∧∀g,γ j=some g→eG γ2 K w g o
 |_,_,_=>False
def PcL(γ γ2:Ghs) (ob obF:Obs) (K:Kn) (w:World):List Src→List Value→List Piece→Prop
 | [],_,ps=>ps=[]
 |s::ss,vs,ps=>∃v vr p pr,vs=v::vr∧ps=p::pr∧vM γ γ2 ob obF K w s v p∧PcL γ γ2 ob obF K w ss vr pr
def bN:List Src→List Nat
 | []=>[]
 | .tok j::l=>j::bN l
 | .val _::l=>bN l
theorem aA8(s:Src) (l:List Src):bN (s::l)=bN [s]++bN l:=by cases s<;>rfl
theorem aDY(hH:Hp w0 K0 H γ obF K w) (hU:Fzd ob obF U) (h0:0<tk){t:Ty}{m:List Nat}{v:Val}{x:t.den}{u:Upd}{V:Value}{n:Nat}(h:GN ob t m v=some (x,u)) (hu:∀p∈u,p∈U) (hv:bY γ K v V){v':Val}{os:List Ob}(hx:rW t m tk n x=(v',os)) :
  ∃gs js,(∀P,nH γ obF K w tk P os gs js)∧(∀j,dY j u=js.count (some j))∧∀γ2:Ghs,(∀k g,gs[k]?=some g→γ2 (tk+(n+k))=some g)→bY γ2 K v' V:=by
 obtain⟨h1,h2,h3⟩:=sD h;obtain⟨ha,hA,hO⟩:=GY h1 h2;unfold rW at hx
 cases hr:iD m tk 0 n (cellsOf t x) with
 |mk cs1 os1 =>
 rw[hr] at hx
 cases hT:t.agg with
 |true =>
  obtain⟨cs,rfl⟩:=hA hT;obtain⟨vs,rfl,hvs⟩:=hv;rw[hT] at hx;simp only[Prod.mk.injEq] at hx;obtain⟨rfl,rfl⟩:=hx;obtain⟨gs,js,r1,r2,r3⟩:=nV hH hU h0 cs h3 hu ha hvs hr;exact⟨gs,js,r1,r2,fun γ2 hγ=>⟨vs,rfl,r3 γ2 hγ⟩⟩
 |false =>
  obtain⟨c,rfl,hc⟩:=hO hT
  have hvs:bK γ K [c] [V]:=⟨V,[],rfl,hv,aF.one hv hc,rfl⟩
  obtain⟨gs,js,r1,r2,r3⟩:=nV hH hU h0 [c] h3 hu ha hvs hr;rw[hT] at hx
  cases cs1 with
  |nil =>
   simp only[Prod.mk.injEq] at hx;obtain⟨rfl,rfl⟩:=hx;exact⟨gs,js,r1,r2,fun γ2 hγ=>True.intro⟩
  |cons c1 cr =>
   simp only[Prod.mk.injEq] at hx;obtain⟨rfl,rfl⟩:=hx;refine⟨gs,js,r1,r2,fun γ2 hγ=>?_⟩;obtain⟨v1,vr,e,q1,_⟩:=r3 γ2 hγ;injection e with e _;subst e;exact q1
theorem aDZ(hH:Hp w0 K0 H γ obF K w) (hU:Fzd ob obF U) (h0:0<tk){k:Kd}{s:Src}{x:k.t.den}{u:Upd}{V:Value}{n:Nat}(h:P9 ob k s=some (x,u)) (hu:∀p∈u,p∈U) (hv:aK1 γ K s V) (hγj:∀j p,s=.tok j→ob j=some p→∃g,γ j=some g){p:Piece}{os:List Ob}(hx:gB tk n k x=(p,os)) :
  ∃gs js,nH γ obF K w tk (Ats gs tk n) os gs js∧(∀j,js.count (some j)+(bN [s]).count j≤dY j u)∧∀γ2:Ghs,(∀k g,gs[k]?=some g→γ2 (tk+(n+k))=some g)→vM γ γ2 ob obF K w s V p:=by
 cases k with
 |v t m =>
  cases s with
  |tok j=>exact absurd (show(none:Option (Ty.den t×Upd))=some (x,u) from h) (by simp)
  |val v =>
   have h:GN ob t m v=some (x,u):=h
   simp only[gB] at hx
   cases hr:rW t m tk n x with
   |mk v1 os1 =>
   rw[hr] at hx;simp only[Prod.mk.injEq] at hx;obtain⟨rfl,rfl⟩:=hx;obtain⟨gs,js,r1,r2,r3⟩:=aDY hH hU h0 h hu hv hr;exact⟨gs,js,r1 _,fun j=>by simp[r2,bN],fun γ2 hγ=>r3 γ2 hγ⟩
 |b ti t m =>
  cases s with
  |val v=>exact absurd (show(none:Option (Ty.den t×Upd))=some (x,u) from h) (by simp)
  |tok j =>
   have h:PZ ob ti t m j=some (x,u):=h
   unfold PZ at h
   split at h
   ·rename_i ti' cs hj
    split at h
    ·rename_i y u1 hti h1
     have hti:=aXJ hti
     subst hti
     have hy:y=x:=congrArg Prod.fst (Option.some.inj h)
     have h:=congrArg Prod.snd (Option.some.inj h)
     simp only at h;subst h;subst hy
     have hF:obF j=some (.box ti' cs):=hU.gone (j,.gone) (hu _ aYE) rfl _ hj
     obtain⟨g,hg⟩:=hγj j _ rfl hj;obtain⟨b,vs,k0,k1,k2,k3,k4⟩:=hH.ok j _ g hF hg;obtain⟨p1,p2,p3⟩:=sD h1;obtain⟨ha,hA,hO⟩:=GY p1 p2
     have hcs:(VZ t cs).cells=cs:=by
      cases hT:t.agg with
      |true=>simp[VZ,hT,Val.cells]
      |false =>
       obtain⟨c,hc,hc'⟩:=hO hT;unfold VZ at hc ⊢;rw[hT] at hc ⊢
       cases cs with
       |nil=>simp only[Val.one.injEq] at hc; exact absurd hc.symm hc'
       |cons d dr=>cases dr with
        |nil=>rfl
        |cons d2 dr=>simp only[Val.one.injEq] at hc; exact absurd hc.symm hc'
     rw[hcs] at p3 ha;simp only[gB] at hx
     cases hr:iD m tk 0 n (cellsOf t y) with
     |mk cs1 os1 =>
     rw[hr] at hx;simp only[Prod.mk.injEq] at hx;obtain⟨rfl,rfl⟩:=hx;obtain⟨gs,js,r1,r2,r3⟩:=nV hH hU h0 cs p3 (fun p hp=>hu p (aXV _ hp)) ha k3 hr;refine⟨gs,js,r1 _,fun i=>?_,fun γ2 hγ=>⟨rfl,⟨_,hj,hF,rfl⟩,fun g' hg'=>?_⟩⟩
     ·simp only[dY,r2,bN,aX1]
      by_cases hij:j=i
      ·subst hij; simp; omega
      ·simp[hij]
     ·rw[hg] at hg'; injection hg' with hg'; subst hg';exact⟨b,vs,k0,k1,k2,r3 γ2 hγ,k4⟩
    ·cases h
   ·cases h
 |r hh e =>
  cases s with
  |val v=>exact absurd (show(none:Option (Ty.den (.slice e)×Upd))=some (x,u) from h) (by simp)
  |tok j =>
   have h:QA ob hh e j=some (x,u):=h
   unfold QA at h
   split at h
   ·rename_i h' e' xs hj
    split at h
    ·rename_i ys hb hc
     have hy:ys=x:=congrArg Prod.fst (Option.some.inj h)
     have h:=congrArg Prod.snd (Option.some.inj h)
     simp only at h;subst h;subst hy
     have hF:obF j=some (.row h' e' xs):=hU.gone (j,.gone) (hu _ aYE) rfl _ hj
     simp only[aYS] at hb
     have hb1:=aXJ hb.1
     subst hb1;obtain⟨t1,t2⟩:=aU hc;injection t1 with t1;subst t1; subst t2;simp only[gB,Prod.mk.injEq] at hx;obtain⟨rfl,rfl⟩:=hx;refine⟨[],[],⟨rfl,rfl⟩,fun i=>?_,fun γ2 hγ=>⟨rfl,⟨_,hj,hF,rfl⟩,fun g' hg'=>?_⟩⟩
     ·simp only[dY,bN,aX1,List.count_nil]
      by_cases hij:j=i
      ·subst hij; simp
      ·simp[hij]
     ·exact hH.ok j _ g' hF hg'
    ·cases h
   ·cases h
 |i =>
  cases s with
  |val v=>exact absurd (show(none:Option ((Y_×Int)×Upd))=some (x,u) from h) (by simp)
  |tok j =>
   have h:QB ob j=some (x,u):=h
   unfold QB at h
   split at h
   ·rename_i s' p' hj
    have hy:(s',ofN p')=x:=congrArg Prod.fst (Option.some.inj h)
    have h:=congrArg Prod.snd (Option.some.inj h)
    simp only at h;subst h;subst hy
    have hF:obF j=some (.iter s' p'):=hU.gone (j,.gone) (hu _ aYE) rfl _ hj
    simp only[gB,Prod.mk.injEq] at hx;obtain⟨rfl,rfl⟩:=hx;refine⟨[],[],⟨rfl,rfl⟩,fun i=>?_,fun γ2 hγ=>⟨rfl,⟨_,hj,hF,rfl⟩,fun g' hg'=>?_⟩⟩
    ·simp only[dY,bN,aX1,List.count_nil]
     by_cases hij:j=i
     ·subst hij; simp
     ·simp[hij]
    ·have:toN (ofN p')=p':=by simp[toN,ofN]
     rw[this]; exact hH.ok j _ g' hF hg'
   ·cases h
 |m kt vt =>
  cases s with
  |val v=>exact absurd (show(none:Option (List (kt.den×vt.den)×Upd))=some (x,u) from h) (by simp)
  |tok j =>
   have h:QC ob kt vt j=some (x,u):=h
   unfold QC at h
   split at h
   ·rename_i kt' vt' es hj
    split at h
    ·rename_i ys hc
     have hy:ys=x:=congrArg Prod.fst (Option.some.inj h)
     have h:=congrArg Prod.snd (Option.some.inj h)
     simp only at h;subst h;subst hy
     have hF:obF j=some (.map kt' vt' es):=hU.gone (j,.gone) (hu _ aYE) rfl _ hj
     obtain⟨t1,t2⟩:=aU hc;injection t1 with t1;injection t1 with t1 t1';subst t1; subst t1'; subst t2;simp only[gB,Prod.mk.injEq] at hx;obtain⟨rfl,rfl⟩:=hx;refine⟨[],[],⟨rfl,rfl⟩,fun i=>?_,fun γ2 hγ=>⟨rfl,⟨_,hj,hF,rfl⟩,fun g' hg'=>?_⟩⟩
     ·simp only[dY,bN,aX1,List.count_nil]
      by_cases hij:j=i
      ·subst hij; simp
      ·simp[hij]
     ·exact hH.ok j _ g' hF hg'
    ·cases h
   ·cases h
 |d ti t =>
  cases s with
  |val v=>exact absurd (show(none:Option (Ty.den t×Upd))=some (x,u) from h) (by simp)
  |tok j =>
   have h:QE ob ti t j=some (x,u):=h
   unfold QE at h
   split at h
   ·rename_i ti' cs hj
    split at h
    ·rename_i y u1 hc hd;simp only[aYS] at hc
     have hti:=aXJ hc.1
     subst hti
     have hy:y=x:=congrArg Prod.fst (Option.some.inj h)
     have h:=congrArg Prod.snd (Option.some.inj h)
     simp only at h;subst h;subst hy
     have hF:obF j=some (.box ti' cs):=hU.gone (j,.gone) (hu _ aYE) rfl _ hj
     obtain⟨g,hg⟩:=hγj j _ rfl hj;obtain⟨b,vs,k0,k1,k2,k3,k4⟩:=hH.ok j _ g hF hg;obtain⟨gs,js,v1,v2,e,a0,a1,a2,a3⟩:=aDW hH hU h0 t hc.2 hd (fun p hp=>hu p (aXV _ hp)) k3 n
     have a0:v2=[]:=a0
     subst a0;rw[aY5] at e;subst e;simp only[gB] at hx
     cases hr:dUn tk t n y with
     |mk cs1 os1 =>
     rw[hr] at hx a1 a3;simp only[Prod.mk.injEq] at hx;obtain⟨rfl,rfl⟩:=hx;refine⟨gs,js,a1,fun i=>?_,fun γ2 hγ=>⟨rfl,⟨_,hj,hF,rfl⟩,fun g' hg'=>?_⟩⟩
     ·have:=a2 i
      simp only[dY,bN,aX1]
      by_cases hij:j=i
      ·subst hij; simp; omega
      ·simp[hij]; omega
     ·rw[hg] at hg'; injection hg' with hg'; subst hg';exact⟨b,vs,k0,k1,k2,a3 γ2 hγ,k4⟩
    ·cases h
   ·cases h
 |l hh e =>
  cases s with
  |val v=>exact absurd (show(none:Option (Ty.den (.slice e)×Upd))=some (x,u) from h) (by simp)
  |tok j =>
   have h:QF ob hh e j=some (x,u):=h
   unfold QF at h
   split at h
   ·rename_i h' e' xs cs hj
    split at h
    ·rename_i zs hc hz;simp only[aYS] at hc
     have hb1:=aXJ hc.1
     subst hb1;obtain⟨t1,t2⟩:=aU hz;injection t1 with t1;subst t1; subst t2
     split at h
     ·rename_i y u1 hd
      have hy:bM xs y=x:=congrArg Prod.fst (Option.some.inj h)
      have h:=congrArg Prod.snd (Option.some.inj h)
      simp only at h;subst h;subst hy
      have hF:obF j=some (.opn hh e' xs cs):=hU.gone (j,.gone) (hu _ aYE) rfl _ hj
      obtain⟨g,hg⟩:=hγj j _ rfl hj;obtain⟨q1,q2,q3,q4,q5,vs,us,q6,q7,q9,q8⟩:=hH.ok j _ g hF hg
      have hlen:(bM xs y).length=xs.length:=by simp[bM]
      have hdl:(bM xs y).dropLast=xs.dropLast:=vK xs y
      simp only[gB] at hx
      cases hr:dUn tk e' n (aM (bM xs y) e'.dflt) with
      |mk cs1 os1 =>
      rw[hr] at hx;simp only[Prod.mk.injEq] at hx;obtain⟨rfl,rfl⟩:=hx
      have cnt:∀ {js:List (Option Nat)},(∀i,js.count (some i)≤dY i u1)→∀i,js.count (some i)+(bN [Src.tok j]).count i≤dY i ((j,Ob.gone)::u1):=fun {js} a2 i=>by
       have:=a2 i
       simp only[dY,bN,aX1]
       by_cases hij:j=i
       ·subst hij; simp; omega
       ·simp[hij]; omega
      by_cases hne:xs=[]
      ·subst hne;obtain⟨gs,js,a1,a2⟩:=DA (γ:=γ) (obF:=obF) (K:=K) (w:=w) h0 e' n hc.2
       have hr:dUn tk e' n e'.zero=(cs1,os1):=hr
       rw[hr] at a1;rcases q9 with⟨_,hus⟩|⟨hx,_⟩
       ·subst hus;refine⟨gs,js,a1 _,cnt fun i=>(by rw[a2]; exact aZ1 _),fun γ2 hγ=>⟨rfl,⟨_,hj,hF,rfl⟩,fun g' hg'=>?_⟩⟩;rw[hg] at hg'; injection hg' with hg'; subst hg';exact⟨q1,q2,q3,q4,q5,vs,[],q6,q7,.inl ⟨rfl,rfl⟩,q8⟩
       ·exact absurd rfl hx
      ·rcases q9 with⟨hx,_⟩|⟨_,hrep⟩
       ·exact absurd hx hne
       ·obtain⟨gs,js,v1,v2,e1,e2,a1,a2,a3⟩:=aDW hH hU h0 e' hc.2 hd (fun p hp=>hu p (aXV _ hp)) hrep n
        have e2:v2=[]:=e2
        subst e2;rw[aY5] at e1;subst e1;rw[lN xs y e'.dflt hne] at hr;rw[hr] at a1 a3;refine⟨gs,js,a1,cnt a2,fun γ2 hγ=>⟨rfl,⟨_,hj,hF,rfl⟩,fun g' hg'=>?_⟩⟩;rw[hg] at hg'; injection hg' with hg'; subst hg';refine⟨q1,q2,by rw[hlen]; exact q3,q4,q5,vs,us,by rw[hlen]; exact q6,by rw[hdl]; exact q7,.inr ⟨fun e=>?_,a3 γ2 hγ⟩,q8⟩
        have:=congrArg List.length e
        rw[hlen] at this;exact hne (aWZ this)
     ·cases h
    ·cases h
   ·cases h
theorem aD0(t:Ty) (ts:List Ty) (x:t.den) (v:Vec ts):vhd t ts (tE t ts x v)=x:=by cases ts<;>rfl
theorem aD1(t:Ty) (ts:List Ty) (x:t.den) (v:Vec ts):vtl t ts (tE t ts x v)=v:=by cases ts<;>rfl
theorem vN(hH:Hp w0 K0 H γ obF K w) (hU:Fzd ob obF U) (h0:0<tk):∀(l:List Kd){ss:List Src}{x:Vec (dK l)}{u:Upd}{Vs:List Value}{n:Nat},(∀j p,Src.tok j∈ss→ob j=some p→∃g,γ j=some g)→lV ob l ss=some (x,u)→(∀p∈u,p∈U)→xU γ K ss Vs→∀ {ps:List Piece}{os:List Ob},aR tk l n x=(ps,os) →
  ∃gs js,nH γ obF K w tk (Ats gs tk n) os gs js∧(∀j,js.count (some j)+(bN ss).count j≤dY j u)∧∀γ2:Ghs,(∀k g,gs[k]?=some g→γ2 (tk+(n+k))=some g)→PcL γ γ2 ob obF K w ss Vs ps
 | [],ss,x,u,Vs,n,hγj,h,hu,hv,ps,os,hx=>by
  cases ss with
  |nil =>
   simp only[lV,Option.some.injEq,Prod.mk.injEq] at h;obtain⟨_,rfl⟩:=h;simp only[aR,Prod.mk.injEq] at hx;obtain⟨rfl,rfl⟩:=hx;exact⟨[],[],⟨rfl,rfl⟩,fun j=>aZ0 _,fun _ _=>rfl⟩
  |cons s sr=>simp[lV] at h
 |k::l,ss,x,u,Vs,n,hγj,h,hu,hv,ps,os,hx=>by
  obtain⟨s,sr,y,u1,z,u2,rfl,h1,h2,rfl,rfl⟩:=GZ h;obtain⟨V,Vr,rfl,hv1,hv2⟩:=hv;simp only[aR,aD0,aD1] at hx
  cases hr:gB tk n k y with
  |mk p1 os1 =>
  rw[hr] at hx;simp only at hx
  cases hr2:aR tk l (n+lng os1) z with
  |mk ps2 os2 =>
  rw[hr2] at hx;simp only[Prod.mk.injEq] at hx;obtain⟨rfl,rfl⟩:=hx;obtain⟨g1,j1,a1,a2,a3⟩:=aDZ hH hU h0 h1 (fun p hp=>hu p (aXZ _ hp)) hv1 (fun j p e=>hγj j p (by rw[e]; exact aYE)) hr;obtain⟨g2,j2,b1,b2,b3⟩:=vN hH hU h0 l (fun j p hj=>hγj j p (aXV _ hj)) h2 (fun p hp=>hu p (aXK _ hp)) hv2 hr2
  have hl:=mE a1
  refine⟨g1++g2,j1++j2,by rw[bR]; exact vJ (nW (fun _=>CZ) a1) (nW (fun _ hγ=>xS hγ (by rw[hl.1,cR])) b1),fun j=>?_,fun γ2 hγ=>⟨V,Vr,p1,ps2,rfl,rfl,a3 γ2 fun k g hk=>hγ k g ?_,b3 γ2 fun k g hk=>?_⟩⟩
  ·have h1:=a2 j
   have h2:=b2 j
   rw[qL,aA8 s sr,List.count_append,List.count_append];omega
  ·rw[aW7]
   ·exact hk
   ·exact(aW6.1 hk).1
  ·have:=hγ (os1.length+k) g (by rw[aW5 (by omega),hl.1,aXE]; exact hk)
   rw[cR,show tk+(n+os1.length+k)=tk+(n+(os1.length+k)) by omega];exact this
theorem Hp.rebuild(hH:Hp w0 K0 H γ ob K w){γ2:Ghs}{ob2:Obs}(src:Nat→Nat) (h1:∀j o g,ob2 j=some o→γ2 j=some g→eG γ2 K w g o)
  (h2:∀j o g ad,ob2 j=some o→γ2 j=some g→o.owns=true→g.a=some ad→∃p g',ob (src j)=some p∧γ (src j)=some g'∧p.owns=true∧g'.a=some ad)
  (h3:∀i j o p g g' ad ad',ob2 i=some o→ob2 j=some p→γ2 i=some g→γ2 j=some g'→o.owns=true→p.owns=true→g.a=some ad→g'.a=some ad'→i≠j→src i≠src j):Hp w0 K0 H γ2 ob2 K w:=by
 refine⟨hH.os,hH.tape,hH.output,hH.size,hH.blk,hH.mono,hH.kok,h1,fun j o g a1 a2 a3 ad a4=>?_,fun i j p q g g' a1 a2 a3 a4 a5 a6 hij ad ad' a7 a8=>?_⟩
 ·obtain⟨p,g',b1,b2,b3,b4⟩:=h2 j o g ad a1 a2 a3 a4;exact hH.own (src j) p g' b1 b2 b3 ad b4
 ·obtain⟨p1,g1,b1,b2,b3,b4⟩:=h2 i p g ad a1 a3 a5 a7;obtain⟨p2,g2,c1,c2,c3,c4⟩:=h2 j q g' ad' a2 a4 a6 a8;exact hH.sep (src i) (src j) p1 p2 g1 g2 b1 c1 b2 c2 b3 c3 (h3 i j p q g g' ad ad' a1 a2 a3 a4 a5 a6 a7 a8 hij) ad ad' b4 c4
end
end Go.W
end

section
namespace Go.W
open Go Go.RowKit
def PcK:Kd→Piece→Prop
 | .v _ _,.val _=>True
 | .b _ _ _,.ob (.box _ _)=>True
 | .r h _,.ob (.row h' _ _)=>h'=h
 | .i,.ob (.iter _ _)=>True
 | .m _ _,.ob (.map _ _ _)=>True
 | .d _ _,.ob (.box _ _)=>True
 | .l h _,.ob (.opn h' _ _ _)=>h'=h
 |_,_=>False
def xV:List Kd→List Piece→Prop
 | [],ps=>ps=[]
 |k::l,ps=>∃p r,ps=p::r∧PcK k p∧xV l r
theorem KH{tk n:Nat}(k:Kd) (x:k.t.den):PcK k (gB tk n k x).1:=by
 cases k with
 |v t m=>exact True.intro
 |b ti t m=>exact True.intro
 |r h e=>exact rfl
 |i=>exact True.intro
 |m kt vt=>exact True.intro
 |d ti t=>exact True.intro
 |l h e=>exact rfl
theorem fF{tk:Nat}:∀(l:List Kd) (n:Nat) (x:Vec (dK l)),xV l (aR tk l n x).1
 | [],n,x=>rfl
 |k::l,n,x=>by
  simp only[aR];exact⟨_,_,rfl,KH k _,fF l _ _⟩
def KI(a:Act):List Tgt→List Value
 | []=>[]
 | .s x::l=>a.tmps.getD x undef::KI a l
 | .o _::l=>undef::KI a l
theorem sE{α:Type} [BEq α] [LawfulBEq α] {l:List α}{a:α}:l.count a≤1→∀ {i k:Nat},l[i]?=some a→l[k]?=some a→i=k:=by
 induction l with
 |nil=>intro _ i k h; simp at h
 |cons b l ih =>
  intro h i k hi hk;rw[aZB] at h
  have pos:∀ {q:Nat},l[q]?=some a→1≤l.count a:=fun hq=>aYH.2 (aXU hq)
  cases i with
  |zero =>
   simp only[aXD,Option.some.injEq] at hi;subst hi
   cases k with
   |zero=>rfl
   |succ k =>
    simp only[aXC] at hk
    have:=pos hk
    simp at h;omega
  |succ i =>
   simp only[aXC] at hi
   cases k with
   |zero =>
    simp only[aXD,Option.some.injEq] at hk;subst hk
    have:=pos hi
    simp at h;omega
   |succ k =>
    simp only[aXC] at hk;rw[ih (by omega) hi hk]
theorem gX{x:Nat}:∀ {l:List Nat},lU x l=true↔x∈l
 | []=>by simp[lU]
 |y::l=>by
  simp only[lU,Bool.or_eq_true,aZL,gX (l:=l)];constructor
  ·rintro(h|h)
   ·exact .inl (aXJ h)
   ·exact .inr h
  ·rintro(h|h)
   ·subst h; exact .inl (Nat.beq_refl _)
   ·exact .inr h
theorem HE{ko:List Nat}:∀ {u:Upd},JY ko u=true→∀p∈u,p.1 ∉ ko
 | [],_,p,hp=>by cases hp
 |(i,o)::u,h,p,hp=>by
  simp only[JY] at h
  split at h
  ·cases h
  ·rename_i hb;rcases aZL.1 hp with rfl|hp
   ·intro hm; have:=gX.2 hm; simp only at this; rw[hb] at this; cases this
   ·exact HE h p hp
section
variable {β:Type}
theorem DC{l l':List (Nat×Nat×β)}:∀ {ks:List Nat},QO l l' ks=true→∀x∈ks,∃v b b',lk l x=some (v,b)∧lk l' x=some (v,b')
 | [],_,x,hx=>by cases hx
 |y::ks,h,x,hx=>by
  simp only[QO,aYS] at h;rcases aZL.1 hx with rfl|hx
  ·have h1:=h.1
   split at h1
   ·rename_i v b v' b' e1 e2
    have:=aXJ h1
    subst this;exact⟨v,b,b',e1,e2⟩
   ·cases h1
  ·exact DC h.2 x hx
theorem AV{l:List (Nat×Nat×β)}:∀ {ks:List Nat}{x:Nat}{e:Nat×β},lk (mV l ks) x=some e→x∈ks∧lk l x=some e
 | [],x,e,h=>by simp[mV,lk] at h
 |y::ks,x,e,h=>by
  simp only[mV] at h
  split at h
  ·rename_i e' he;simp only[lk,aQ] at h
   split at h
   ·rename_i hb
    have:=aXJ hb
    subst this;injection h with h;subst h;exact⟨aYE,he⟩
   ·have:=AV h
    exact⟨aXV _ this.1,this.2⟩
  ·have:=AV h
   exact⟨aXV _ this.1,this.2⟩
end
theorem mY(v:Nat):∀(os:List Ob) (n j:Nat) (e:Nat×Ob),lk (jV v n os) j=some e→∃i,j=n+i∧os[i]?=some e.2∧e.1=v
 | [],_,_,_,h=>by simp[jV,lk] at h
 |o::os,n,j,e,h=>by
  simp only[jV,lk,aQ] at h
  cases hb:Nat.beq n j with
  |true =>
   rw[hb] at h
   have:=aXJ hb
   injection h with h;subst h;exact⟨0,by omega,rfl,rfl⟩
  |false =>
   rw[hb] at h;obtain⟨i,h1,h2,h3⟩:=mY v os (n+1) j e h;exact⟨i+1,by omega,by simpa using h2,h3⟩
def clip(n:Nat) (g:Gh):Gh:=if g.hv<n then g else⟨g.a,g.c,g.n,g.sz,n⟩
theorem lD{n:Nat}{g:Gh}(h:g.hv<n):clip n g=g:=by simp[clip,h]
theorem aML(n:Nat) (g:Gh):(clip n g).a=g.a:=by unfold clip; split<;>rfl
theorem aII(n:Nat) (g:Gh):(clip n g).hv≤n:=by
 unfold clip
 split
 ·omega
 ·exact aZ0 _
section
variable {γ γ0 γ2:Ghs} {K K0:Kn} {n:Nat}
theorem nQ.clip(low:∀ {j:Nat}{g g0:Gh},γ0 j=some g0→γ j=some g→g.hv=0→γ2 j=some g):∀ {js:List Nat}{us vs:List Value},nQ γ0 js us→nQ γ js vs→nQ γ2 js vs
 | [],_,_,_,h=>h
 |_::_,_,_,⟨_,_,_,_,b1,_,_,b4⟩,⟨g,b,r,e,e1,e2,e3,e4⟩=>⟨g,b,r,e,low b1 e1 e2,e2,e3,nQ.clip low b4 e4⟩
theorem aF.clip{c:Cell}{V V0:Value}(hb:aF γ0 K0 c V0) (hn:∀j g,γ0 j=some g→j<n∧g.hv<n) (h2:∀j,j<n→γ2 j=(γ j).map (clip n)) (h:aF γ K c V):aF γ2 K c V:=by
 have key:∀ {j hv:Nat} {g g0:Gh},γ0 j=some g0→hv≤g0.hv→γ j=some g→hv≤g.hv→∃g',γ2 j=some g'∧hv≤g'.hv∧(g'.hv=hv→g'=g):=fun {j hv g g0} a1 a2 a3 a4=>by
  have h3:=hn j g0 a1
  refine⟨W.clip n g,by rw[h2 j h3.1,a3]; rfl,?_,fun e=>?_⟩
  ·unfold W.clip; split
   ·exact a4
   ·show hv≤n; omega
  ·unfold W.clip at e ⊢
   split at e
   ·rename_i hl; rw[if_pos hl]
   ·have:n=hv:=e
    omega
 have low:∀ {j:Nat} {g g0:Gh},γ0 j=some g0→γ j=some g→g.hv=0→γ2 j=some g:=fun {j g g0} a1 a2 a3=>by
  have h3:=hn j g0 a1
  rw[h2 j h3.1,a2,aY7,lD (by omega)]
 cases c with
 |row j hv =>
  obtain⟨_,g0,b1,b2,b3,_⟩:=hb;obtain⟨e0,g,e1,e2,e3,e4⟩:=h;obtain⟨g',q1,q2,q3⟩:=key b1 b3 e1 e3;exact⟨e0,g',q1,e2,q2,fun e=>by have:=q3 e; subst this; exact e4 e⟩
 |cut j hv lo m =>
  obtain⟨_,g0,b1,b2,b3,_⟩:=hb;obtain⟨e0,g,e1,e2,e3,e4⟩:=h;obtain⟨g',q1,q2,q3⟩:=key b1 b3 e1 e3;exact⟨e0,g',q1,e2,q2,fun e=>by have:=q3 e; subst this; exact e4 e⟩
 |el j hv i off =>
  obtain⟨_,g0,b1,b2,b3,_⟩:=hb;obtain⟨e0,g,e1,e2,e3,e4⟩:=h;obtain⟨g',q1,q2,q3⟩:=key b1 b3 e1 e3;exact⟨e0,g',q1,e2,q2,fun e=>by have:=q3 e; subst this; exact e4 e⟩
 |ptr j off =>
  obtain⟨g0,b,b1,_⟩:=hb;obtain⟨g,b',e1,e2,e3,e4⟩:=h;exact⟨g,b',low b1 e1 e2,e2,e3,e4⟩
 |it j =>
  obtain⟨g0,b,b1,_⟩:=hb;obtain⟨g,b',e1,e2,e3,e4⟩:=h;exact⟨g,b',low b1 e1 e2,e2,e3,e4⟩
 |mp j =>
  obtain⟨g0,b,b1,_⟩:=hb;obtain⟨g,b',e1,e2,e3,e4⟩:=h;exact⟨g,b',low b1 e1 e2,e2,e3,e4⟩
 |v t x=>exact h
 |kp t x=>exact h
 |fn f=>exact h
 |clo f js =>
  obtain⟨us,_,hb⟩:=hb;obtain⟨vs,e,h⟩:=h;exact⟨vs,e,nQ.clip low hb h⟩
 |nils=>exact h
 |nilp=>exact h
 |undef=>exact h
theorem bK.clip(hn:∀j g,γ0 j=some g→j<n∧g.hv<n) (h2:∀j,j<n→γ2 j=(γ j).map (clip n)):∀ {cs:List Cell}{vs us:List Value},bK γ0 K0 cs us→bK γ K cs vs→bK γ2 K cs vs
 | [],_,_,_,h=>h
 |_::_,_,_,⟨_,_,_,b1,_,b3⟩,⟨v,r,e,h1,h1',h3⟩=>⟨v,r,e,b1.clip hn h2 h1,h1',bK.clip hn h2 b3 h3⟩
theorem bY.clip(hn:∀j g,γ0 j=some g→j<n∧g.hv<n) (h2:∀j,j<n→γ2 j=(γ j).map (clip n)){x:Val}{V V0:Value}(hb:bY γ0 K0 x V0) (h:bY γ K x V):bY γ2 K x V:=by
 cases x with
 |one c=>exact aF.clip hb hn h2 h
 |agg cs=>obtain⟨us,_,hb⟩:=hb; obtain⟨vs,e,h⟩:=h; exact⟨vs,e,hb.clip hn h2 h⟩
theorem nR.clip(hn:∀j g,γ0 j=some g→j<n∧g.hv<n) (h2:∀j,j<n→γ2 j=(γ j).map (clip n)):∀ {cs:List Val}{vs us:List Value},nR γ0 K0 cs us→nR γ K cs vs→nR γ2 K cs vs
 | [],_,_,_,h=>h
 |_::_,_,_,⟨_,_,_,b1,b3⟩,⟨v,r,e,h1,h3⟩=>⟨v,r,e,b1.clip hn h2 h1,nR.clip hn h2 b3 h3⟩
theorem aV.clip(hn:∀j g,γ0 j=some g→j<n∧g.hv<n) (h2:∀j,j<n→γ2 j=(γ j).map (clip n)){x:SV}{V V0:Value}(hb:aV γ0 K0 x V0) (h:aV γ K x V):aV γ2 K x V:=by
 cases x with
 |val c=>exact bY.clip hn h2 hb h
 |tup cs=>obtain⟨us,_,hb⟩:=hb; obtain⟨vs,e,h⟩:=h; exact⟨vs,e,hb.clip hn h2 h⟩
theorem eG.clip{w w':World}{g g0:Gh}{o:Ob}(hp:0<n) (hn:∀j g,γ0 j=some g→j<n∧g.hv<n) (h2:∀j,j<n→γ2 j=(γ j).map (clip n)) (hg:g0.hv<n) (hb:eG γ0 K0 w' g0 o) (h:eG γ K w g o):eG γ2 K w (clip n g) o:=by
 cases o with
 |box t cs =>
  obtain⟨_,us,_,_,_,hb,_⟩:=hb;obtain⟨b,vs,h0,h1,h3,h4,h5⟩:=h;rw[lD (by omega)];exact⟨b,vs,h0,h1,h3,hb.clip hn h2 h4,h5⟩
 |row hh t xs =>
  have e1:=hb.1
  have e2:=h.1
  rw[lD (by omega)];exact h
 |frz hh t xs =>
  have e1:=hb.1
  have e2:=h.1
  rw[lD (by omega)];exact h
 |iter s p =>
  obtain⟨b,h0,h1,h3,h4⟩:=h;rw[lD (by omega)];exact⟨b,h0,h1,h3,h4⟩
 |map kt vt es =>
  obtain⟨b,arr,clock,h0,h1,h3⟩:=h;rw[lD (by omega)];exact⟨b,arr,clock,h0,h1,h3⟩
 |opn hh t xs cs =>
  obtain⟨e1,_,_,_,_,_,us,_,_,hb,_⟩:=hb;obtain⟨h0,h1,h2',h3,h4,vs,us',h5,h6,h7,h8⟩:=h;rw[lD (by omega)];refine⟨h0,h1,h2',h3,h4,vs,us',h5,h6,?_,h8⟩;rcases h7 with h7|⟨h7,h9⟩
  ·exact .inl h7
  ·rcases hb with⟨hb,_⟩|⟨_,hb⟩
   ·exact absurd hb h7
   ·exact .inr ⟨h7,hb.clip hn h2 h9⟩
 |gone=>exact True.intro
end
section
variable {E:Env} {N:Nat} {w0:World} {K0:Kn} {H:Nat→Prop} {G:Ghs} {s s':ASt} {γ γ0:Ghs} {K Kb:Kn} {a ab:Act} {w wb:World}
theorem Rel.srcs(h:Rel E N w0 K0 H G s γ K a w):∀(ts:List Tgt),xU γ K (lX s ts) (KI a ts)
 | []=>rfl
 | .s x::l=>by
  refine⟨_,_,rfl,?_,h.srcs l⟩
  split
  ·rename_i v e hl; exact(h.slots x _ _ hl).2
  ·exact True.intro
 | .o j::l=>⟨_,_,rfl,True.intro,h.srcs l⟩
theorem xU.mono{γ:Ghs}{K K':Kn}(h:K.le K'):∀ {ss:List Src}{vs:List Value},xU γ K ss vs→xU γ K' ss vs
 | [],_,hs=>hs
 | .val _::_,_,⟨v,r,e,h1,h2⟩=>⟨v,r,e,bY.mono (Ghs.le.refl γ) h h1,h2.mono h⟩
 | .tok _::_,_,⟨v,r,e,h1,h2⟩=>⟨v,r,e,h1,h2.mono h⟩
theorem DD{γ2:Ghs}{ob obF:Obs}{n tk:Nat}(hn:0<n):∀(ts:List Tgt){kd:List Kd}{ps:List Piece},jW n ts kd=true→xV kd ps→PcL γ γ2 ob obF K w (lX s ts) (KI a ts) ps →
  (∀x v sv,lk (eT tk ts ps).1 x=some (v,sv)→v=tk∧aV γ2 K sv (a.tmps.getD x undef)) ∧
  (∀j v o,lk (eT tk ts ps).2 j=some (v,o)→v=tk∧j<n∧(∃p,ob j=some p∧obF j=some p∧p.owns=true)∧(∀g,γ j=some g→eG γ2 K w g o∧g.hv<n)∧1≤(bN (lX s ts)).count j)
 | [],kd,ps,hf,hk,hp=>by
  have hp:ps=[]:=hp
  subst hp;exact⟨fun x v sv h=>by simp[eT,lk] at h,fun x v sv h=>by simp[eT,lk] at h⟩
 | .s x::ts,kd,ps,hf,hk,hp=>by
  obtain⟨V,Vr,p,pr,e1,rfl,hp1,hp2⟩:=hp;injection e1 with e1 e2;subst e1; subst e2
  cases kd with
  |nil=>simp[jW] at hf
  |cons k kd =>
   cases k with
   |v t m =>
    obtain⟨p',r',e,hk1,hk2⟩:=hk;injection e with e1 e2;subst e1; subst e2;obtain⟨i1,i2⟩:=DD hn ts (by simpa [jW] using hf) hk2 hp2 (tk:=tk)
    cases p with
    |ob o=>simp[PcK] at hk1
    |val v =>
     have hp1:bY γ2 K v (a.tmps.getD x undef):=by revert hp1; split<;>exact id
     have ht:bN (lX s (.s x::ts))=bN (lX s ts):=by simp only[lX]; split<;>rfl
     rw[ht];simp only[eT];refine⟨fun y v' sv hy=>?_,fun j v' o hj=>?_⟩
     ·simp only[lk,aQ] at hy
      split at hy
      ·rename_i hb
       have:=aXJ hb
       subst this;simp only[Option.some.injEq,Prod.mk.injEq] at hy;obtain⟨rfl,rfl⟩:=hy;exact⟨rfl,hp1⟩
      ·exact i1 y v' sv hy
     ·obtain⟨q1,q2,q3,q4,q5⟩:=i2 j v' o hj;exact⟨q1,q2,q3,q4,q5⟩
   |b ti t m=>simp[jW] at hf
   |r hh e=>simp[jW] at hf
   |i=>simp[jW] at hf
   |m kt vt=>simp[jW] at hf
   |d ti t=>simp[jW] at hf
   |l hh e=>simp[jW] at hf
 | .o j0::ts,kd,ps,hf,hk,hp=>by
  obtain⟨V,Vr,p,pr,e1,rfl,hp1,hp2⟩:=hp;injection e1 with e1 e2;subst e1; subst e2
  cases kd with
  |nil=>simp[jW] at hf
  |cons k kd =>
   have fin:j0<n→jW n ts kd=true→(∀o,p=.ob o→∀g,γ j0=some g→eG γ2 K w g o→g.hv<n)→xV (k::kd) (p::pr)→((∀x v sv,lk (eT tk (.o j0::ts) (p::pr)).1 x=some (v,sv)→v=tk∧aV γ2 K sv (a.tmps.getD x undef)) ∧
  (∀j v o,lk (eT tk (.o j0::ts) (p::pr)).2 j=some (v,o)→v=tk∧j<n∧(∃p,ob j=some p∧obF j=some p∧p.owns=true)∧(∀g,γ j=some g→eG γ2 K w g o∧g.hv<n)∧1≤(bN (lX s (.o j0::ts))).count j)):=fun hj0 hf' hhv hk=>by
    obtain⟨p',r',e,hk1,hk2⟩:=hk;injection e with e1 e2;subst e1; subst e2;obtain⟨i1,i2⟩:=DD hn ts hf' hk2 hp2 (tk:=tk)
    cases p with
    |val v=>exact absurd hp1 (by simp[vM])
    |ob o =>
     obtain⟨c1,c2,c3⟩:=hp1;show(∀x v sv,lk (eT tk ts pr).1 x=some (v,sv)→v=tk∧aV γ2 K sv (a.tmps.getD x undef)) ∧
      (∀j v o',lk ((j0,tk,o)::(eT tk ts pr).2) j=some (v,o')→v=tk∧j<n∧(∃p,ob j=some p∧obF j=some p∧p.owns=true)∧(∀g,γ j=some g→eG γ2 K w g o'∧g.hv<n)∧1≤(j0::bN (lX s ts)).count j)
     refine⟨i1,fun j v' o' hj=>?_⟩;simp only[lk,aQ] at hj
     split at hj
     ·rename_i hb
      have:=aXJ hb
      subst this;simp only[Option.some.injEq,Prod.mk.injEq] at hj;obtain⟨rfl,rfl⟩:=hj;exact⟨rfl,hj0,c2,fun g hg=>⟨c3 g hg,hhv o rfl g hg (c3 g hg)⟩,by simp⟩
     ·obtain⟨q1,q2,q3,q4,q5⟩:=i2 j v' o' hj;exact⟨q1,q2,q3,q4,by rw[aZB]; omega⟩
   cases k with
   |v t m=>simp[jW] at hf
   |b ti t m =>
    simp only[jW,aQ] at hf
    split at hf
    ·rename_i hb;refine fin (aXL hb) hf (fun o he g hg ho=>?_) hk;obtain⟨p',r',e,hk1,hk2⟩:=hk;injection e with e1 e2;subst e1; subst he
     cases o with
     |box cs=>obtain⟨_,_,_,h0,_⟩:=ho; omega
     |_=>exact absurd hk1 (by simp[PcK])
    ·cases hf
   |r hh e =>
    simp only[jW,aQ] at hf
    split at hf
    ·rename_i hb;simp only[aYS] at hb
     have hb2:=aXL hb.2
     refine fin (aXL hb.1) hf (fun o he g hg ho=>?_) hk;obtain⟨p',r',e,hk1,hk2⟩:=hk;injection e with e1 e2;subst e1; subst he
     cases o with
     |row h' t xs =>
      have h0:=ho.1
      have hk1:h'=hh:=hk1
      omega
     |_=>exact absurd hk1 (by simp[PcK])
    ·cases hf
   |d ti t =>
    simp only[jW,aQ] at hf
    split at hf
    ·rename_i hb;refine fin (aXL hb) hf (fun o he g hg ho=>?_) hk;obtain⟨p',r',e,hk1,hk2⟩:=hk;injection e with e1 e2;subst e1; subst he
     cases o with
     |box cs=>obtain⟨_,_,_,h0,_⟩:=ho; omega
     |_=>exact absurd hk1 (by simp[PcK])
    ·cases hf
   |l hh e =>
    simp only[jW,aQ] at hf
    split at hf
    ·rename_i hb;simp only[aYS] at hb
     have hb2:=aXL hb.2
     refine fin (aXL hb.1) hf (fun o he g hg ho=>?_) hk;obtain⟨p',r',e,hk1,hk2⟩:=hk;injection e with e1 e2;subst e1; subst he
     cases o with
     |opn h' t xs cs =>
      have h0:=ho.1
      have hk1:h'=hh:=hk1
      omega
     |_=>exact absurd hk1 (by simp[PcK])
    ·cases hf
   |i =>
    simp only[jW,aQ] at hf
    split at hf
    ·rename_i hb;refine fin (aXL hb) hf (fun o he g hg ho=>?_) hk;obtain⟨p',r',e,hk1,hk2⟩:=hk;injection e with e1 e2;subst e1; subst he
     cases o with
     |iter s p=>obtain⟨_,h0,_⟩:=ho; omega
     |_=>exact absurd hk1 (by simp[PcK])
    ·cases hf
   |m kt vt =>
    simp only[jW,aQ] at hf
    split at hf
    ·rename_i hb;refine fin (aXL hb) hf (fun o he g hg ho=>?_) hk;obtain⟨p',r',e,hk1,hk2⟩:=hk;injection e with e1 e2;subst e1; subst he
     cases o with
     |map K V es=>obtain⟨_,_,_,h0,_⟩:=ho; omega
     |_=>exact absurd hk1 (by simp[PcK])
    ·cases hf
theorem jL{sh:Shape}{v:Vec (dK sh.kd)}:fU sh s v=⟨s.tm+((aR s.tm sh.kd 0 v).2.length+1),(eT s.tm sh.ts (aR s.tm sh.kd 0 v).1).1++mV s.sl sh.ks,(eT s.tm sh.ts (aR s.tm sh.kd 0 v).1).2++(mV s.ob sh.ko++jV s.tm s.tm (aR s.tm sh.kd 0 v).2)⟩:=by
 unfold fU;simp only[bR,cR]
theorem DE(hB:Rel E N w0 K0 H G s γ0 Kb ab wb) (hx:Ext s s') (hR:Rel E N w0 K0 H G s' γ K a w){sh:Shape}{v:Vec (dK sh.kd)}(h:AD sh s s'=some v) :
  (∃γ2 K2,Rel E N w0 K0 H G (fU sh s v) γ2 K2 a w)∧Ext s (fU sh s v):=by
 unfold AD at h
 split at h
 ·rename_i x u hc hp;simp only[aYS] at hc;obtain⟨⟨hks,hko⟩,hfit⟩:=hc;simp only[aQ] at h
  split at h
  ·rename_i htn;injection h with h;subst h;simp only[aYS] at htn;obtain⟨ht,hno⟩:=htn
   have hno:=HE hno
   obtain⟨K1,obF,hle,hH,hF,_⟩:=hR.hp.fzd (fun _ _ h=>h) (nX _ hp) ht
   have hγj:∀j p,obs s' j=some p→∃g,γ j=some g:=fun j p hj=>by
    unfold obs at hj
    split at hj
    ·rename_i v0 o0 hl; exact hR.all j _ hl
    ·cases hj
   have hsrc:=(hR.srcs sh.ts).mono hle
   obtain⟨ps,os,hup⟩:∃ps os,aR s.tm sh.kd 0 x=(ps,os):=⟨_,_,rfl⟩;obtain⟨gs,js,r1,r2,r3⟩:=vN hH hF hB.pos sh.kd (fun j p _=>hγj j p) hp (fun p hp=>hp) hsrc hup
   have hlen:=mE r1
   have hcnt:=(nY ht).1
   -- the new names
   let γ2:Ghs:=fun j=>if j<s.tm then(γ j).map (clip s.tm) else gs[j-s.tm]?
   have hg1:∀j,j<s.tm→γ2 j=(γ j).map (clip s.tm):=fun j hj=>by simp only[γ2,if_pos hj]
   have hg2:∀i,γ2 (s.tm+i)=gs[i]?:=fun i=>by
    have:¬(s.tm+i<s.tm):=by omega
    simp only[γ2,if_neg this,aXE]
   have hpc:=r3 γ2 fun k g hk=>by rw[aZS,hg2]; exact hk
   have hkind:xV sh.kd ps:=by have:=fF (tk:=s.tm) sh.kd 0 x; rw[hup] at this; exact this
   obtain⟨p1,p2⟩:=DD (tk:=s.tm) hB.pos sh.ts hfit hkind hpc
   have htok:=hB.tok
   -- what is kept
   have keepS:∀y v0 sv,lk (mV s.sl sh.ks) y=some (v0,sv)→v0<s.tm∧lk s.sl y=some (v0,sv)∧aV γ2 K1 sv (a.tmps.getD y undef):=fun y v0 sv hy=>by
    obtain⟨m1,m2⟩:=AV hy;obtain⟨v1,b,b',q1,q2⟩:=DC hks y m1;rw[m2] at q1;simp only[Option.some.injEq,Prod.mk.injEq] at q1;obtain⟨rfl,rfl⟩:=q1
    have hb:=hB.slots y _ _ m2
    have:=hx.sl y _ _ q2 hb.1
    rw[m2] at this;simp only[Option.some.injEq,Prod.mk.injEq,true_and] at this;subst this;exact⟨hb.1,m2,hb.2.clip htok hg1 ((hR.slots y _ _ q2).2.mono (Ghs.le.refl γ) hle)⟩
   have keepO:∀j v0 o,lk (mV s.ob sh.ko) j=some (v0,o)→v0<s.tm∧j<s.tm∧lk s.ob j=some (v0,o)∧j∈sh.ko∧obF j=some o∧∃g,γ j=some g∧eG γ2 K1 w (clip s.tm g) o:=fun j v0 o hy=>by
    obtain⟨m1,m2⟩:=AV hy;obtain⟨v1,b,b',q1,q2⟩:=DC hko j m1;rw[m2] at q1;simp only[Option.some.injEq,Prod.mk.injEq] at q1;obtain⟨rfl,rfl⟩:=q1
    have hb:=hB.obv j _ _ m2
    have:=hx.ob j _ _ q2 hb.1
    rw[m2] at this;simp only[Option.some.injEq,Prod.mk.injEq,true_and] at this;subst this
    have hob:obF j=some o:=hF.no j o (by unfold obs; rw[q2]) fun p hp e=>hno p hp (by rw[e]; exact m1)
    obtain⟨g,hg⟩:=hR.all j _ q2;obtain⟨g0,hg0⟩:=hB.all j _ m2
    have hob0:obs s j=some o:=by unfold obs; rw[m2]
    exact⟨hb.1,hb.2,m2,m1,hob,g,hg,eG.clip hB.pos htok hg1 (htok j g0 hg0).2 (hB.hp.ok j o g0 hob0 hg0) (hH.ok j o g hob hg)⟩
   -- the objects, one by one
   have obj:∀j v0 o,lk ((eT s.tm sh.ts ps).2++(mV s.ob sh.ko++jV s.tm s.tm os)) j=some (v0,o) →
     (j<s.tm∧(v0<s.tm→lk s.ob j=some (v0,o))∧v0≤s.tm∧∃g,γ j=some g∧eG γ2 K1 w (clip s.tm g) o∧(o.owns=true→(∃p,obF j=some p∧p.owns=true)∧js.count (some j)=0)) ∨
     (∃i,j=s.tm+i∧i<os.length∧v0=s.tm∧∃g2 src,gs[i]?=some g2∧js[i]?=some src∧RG γ obF K1 w s.tm (Ats gs s.tm 0) o g2 src):=fun j v0 o hj=>by
    rw[←bR,mD] at hj
    cases hl:lk (eT s.tm sh.ts ps).2 j with
    |some e =>
     rw[hl] at hj;injection hj with hj;subst hj;obtain⟨q1,q2,⟨p,q3,q4,q5⟩,q6,q7⟩:=p2 j v0 o hl;obtain⟨g,hg⟩:=hγj j p q3;obtain⟨q8,q9⟩:=q6 g hg;refine .inl ⟨q2,fun hv=>by omega,by omega,g,hg,by rw[lD q9]; exact q8,fun _=>⟨⟨p,q4,q5⟩,?_⟩⟩
     have:=r2 j
     have:=hcnt j
     omega
    |none =>
     rw[hl] at hj;simp only at hj;rw[←bR,mD] at hj
     cases hl2:lk (mV s.ob sh.ko) j with
     |some e =>
      rw[hl2] at hj;injection hj with hj;subst hj;obtain⟨q1,q2,q3,q4,q5,g,q6,q7⟩:=keepO j v0 o hl2;refine .inl ⟨q2,fun _=>q3,by omega,g,q6,q7,fun ho=>⟨⟨o,q5,ho⟩,?_⟩⟩
      have h1:=r2 j
      have h2:dY j u=0:=xT fun p hp _ e=>hno p hp (by rw[e]; exact q4)
      omega
     |none =>
      rw[hl2] at hj;obtain⟨i,q1,q2,q3⟩:=mY _ _ _ _ _ hj;simp only at q2 q3;obtain⟨g2,src,k1,k2,k3⟩:=mF r1 i o q2;exact .inr ⟨i,q1,(aW6.1 q2).1,q3,g2,src,k1,k2,k3⟩
   have obj':∀j o,obs (fU sh s x) j=some o→∃v0,lk ((eT s.tm sh.ts ps).2++(mV s.ob sh.ko++jV s.tm s.tm os)) j=some (v0,o):=fun j o hj=>by
    unfold obs at hj;rw[jL,hup] at hj;simp only at hj
    split at hj
    ·rename_i v0 o0 hl;injection hj with hj;subst hj;exact⟨v0,hl⟩
    ·cases hj
   -- where an own object comes from
   let src:Nat→Nat:=fun j=>if j<s.tm then j else match js[j-s.tm]? with
    |some (some i)=>i
    |_=>0
   have src1:∀j,j<s.tm→src j=j:=fun j hj=>by simp only[src,if_pos hj]
   have src2:∀i k,js[i]?=some (some k)→src (s.tm+i)=k:=fun i k hk=>by
    have:¬(s.tm+i<s.tm):=by omega
    simp only[src,if_neg this,aXE,hk]
   have frm:∀j o g ad,obs (fU sh s x) j=some o→γ2 j=some g→o.owns=true→g.a=some ad→(∃p g',obF (src j)=some p∧γ (src j)=some g'∧p.owns=true∧g'.a=some ad)∧((j<s.tm∧js.count (some j)=0)∨∃i,j=s.tm+i∧js[i]?=some (some (src j))):=fun j o g ad hj hg ho ha=>by
    obtain⟨v0,hl⟩:=obj' j o hj;rcases obj j v0 o hl with⟨q1,_,_,g1,q2,q3,q4⟩|⟨i,rfl,q2,_,g2,sr,q3,q4,q5⟩
    ·obtain⟨⟨p,q5,q6⟩,q7⟩:=q4 ho;rw[hg1 j q1,q2] at hg;simp only[aY7,Option.some.injEq] at hg;subst hg;rw[aML] at ha;rw[src1 j q1];exact⟨⟨p,g1,q5,q2,q6,ha⟩,.inl ⟨q1,q7⟩⟩
    ·rw[hg2,q3] at hg;injection hg with hg;subst hg;obtain⟨_,_,_,q6⟩:=q5;rcases q6 with q6|⟨k,g',p,q6,q7,q8,q9,q10⟩
     ·rw[q6] at ha; cases ha
     ·subst q6;rw[src2 i k q4];exact⟨⟨p,g',q8,q7,q9,by rw[←q10]; exact ha⟩,.inr ⟨i,rfl,q4⟩⟩
   have hp2:Hp w0 K0 H γ2 (obs (fU sh s x)) K1 w:=by
    refine hH.rebuild src (fun j o g hj hg=>?_) (fun j o g ad hj hg ho ha=>(frm j o g ad hj hg ho ha).1) ?_
    ·obtain⟨v0,hl⟩:=obj' j o hj;rcases obj j v0 o hl with⟨q1,_,_,g1,q2,q3,q4⟩|⟨i,rfl,q2,_,g2,sr,q3,q4,q5⟩
     ·rw[hg1 j q1,q2] at hg;simp only[aY7,Option.some.injEq] at hg;subst hg;exact q3
     ·rw[hg2,q3] at hg;injection hg with hg;subst hg;exact q5.2.1 γ2 fun k g hk=>by rw[aZS,hg2]; exact hk
    ·intro i j o p g g' ad ad' a1 a2 a3 a4 a5 a6 a7 a8 hij e;rcases(frm i o g ad a1 a3 a5 a7).2 with⟨b1,b2⟩|⟨k,b1,b2⟩<;>rcases(frm j p g' ad' a2 a4 a6 a8).2 with⟨c1,c2⟩|⟨k',c1,c2⟩
     ·rw[src1 i b1,src1 j c1] at e; exact hij e
     ·rw[←e,src1 i b1] at c2
      have:=aYH.2 (aXU c2)
      omega
     ·rw[e,src1 j c1] at b2
      have:=aYH.2 (aXU b2)
      omega
     ·rw[e] at b2
      have h1:=r2 (src j)
      have h2:=hcnt (src j)
      have:=sE (by omega) b2 c2
      subst this;exact hij (by rw[b1,c1])
   have htm:(fU sh s x).tm=s.tm+(os.length+1):=by rw[jL,hup]
   refine⟨⟨γ2,K1,hR.size,hR.defers,fun y v0 sv hy=>?_,hp2,hR.glob.mono hle,fun j g hg=>?_,fun j v0 o hj=>?_,fun j e hj=>?_,fun j g hg=>?_,by omega⟩,by omega,fun y v0 sv hy hv=>?_,fun j v0 o hj hv=>?_⟩
   ·rw[htm];rw[jL,hup] at hy;simp only at hy;rw[←bR,mD] at hy
    cases hl:lk (eT s.tm sh.ts ps).1 y with
    |some e =>
     rw[hl] at hy;injection hy with hy;subst hy;obtain⟨q1,q2⟩:=p1 y v0 sv hl;exact⟨by omega,q2⟩
    |none =>
     rw[hl] at hy;obtain⟨q1,_,q2⟩:=keepS y v0 sv hy;exact⟨by omega,q2⟩
   ·rw[htm]
    by_cases hj:j<s.tm
    ·rw[hg1 j hj] at hg
     cases hgj:γ j with
     |none=>rw[hgj] at hg; cases hg
     |some g1 =>
      rw[hgj] at hg;simp only[aY7,Option.some.injEq] at hg;subst hg
      have:=aII s.tm g1
      omega
    ·have e:j=s.tm+(j-s.tm):=by omega
     rw[e,hg2] at hg;obtain⟨hl,_⟩:=aW6.1 hg;obtain⟨g2,sr,k1,k2,k3⟩:=mF r1 (j-s.tm) _ (aXB (by omega));rw[k1] at hg;injection hg with hg;subst hg
     have:=k3.2.2.1
     omega
   ·rw[htm];rw[jL,hup] at hj;rcases obj j v0 o hj with⟨q1,_,q3,_⟩|⟨i,rfl,q2,q3,_⟩
    ·omega
    ·omega
   ·rw[jL,hup] at hj;obtain⟨v0,o⟩:=e;rcases obj j v0 o hj with⟨q1,_,_,g,q2,_⟩|⟨i,rfl,q2,q3,g2,sr,q4,_⟩
    ·exact⟨clip s.tm g,by rw[hg1 j q1,q2]; rfl⟩
    ·exact⟨g2,by rw[hg2]; exact q4⟩
   ·obtain⟨g0,q1,q2,_⟩:=hB.fix j g hg;obtain⟨g',q3,q4,q5⟩:=hR.fix j g hg
    have h0:=hB.pos
    have h1:=htok j g0 q1
    refine⟨clip s.tm g',by rw[hg1 j h1.1,q3]; rfl,?_,fun e=>?_⟩
    ·unfold W.clip
     split
     ·exact q4
     ·show g.hv≤s.tm; omega
    ·have hlt:g'.hv<s.tm:=by
      rcases e with e|e
      ·unfold W.clip at e
       split at e
       ·assumption
       ·have e:s.tm=g.hv:=e
        omega
      ·rw[q5 (.inr e)]; omega
     rw[lD hlt] at e ⊢;exact q5 e
   ·rw[jL,hup] at hy;simp only at hy;rw[←bR,mD] at hy
    cases hl:lk (eT s.tm sh.ts ps).1 y with
    |some e =>
     rw[hl] at hy;injection hy with hy;subst hy;obtain⟨q1,q2⟩:=p1 y v0 sv hl;omega
    |none =>
     rw[hl] at hy;obtain⟨_,q1,q2⟩:=keepS y v0 sv hy;exact q1
   ·rw[jL,hup] at hj;rcases obj j v0 o hj with⟨q1,q2,_⟩|⟨i,rfl,q2,q3,_⟩
    ·exact q2 hv
    ·omega
  ·cases h
 ·cases h
end
end Go.W
end

section
namespace Go.W
open Go Go.RowKit
def KJ:Ex→Exit
 | .nrm=>.normal
 | .brk i=>.exit i
 | .ret=>.ret
 | .go l=>.goto l
theorem lO{α:Type}{b:Bool}{x r:Option α}{v:α}(h:aQ b x none=some v):b=true∧x=some v:=by
 cases b with
 |true=>exact⟨rfl,h⟩
 |false=>cases h
theorem kC{a b:Bool}(h:aQ a b false=true):a=true∧b=true:=by
 cases a with
 |true=>exact⟨rfl,h⟩
 |false=>cases h
def KK(E:Env) (tab:List Con):Prop:=∀(N:Nat) (w0:World) (K0:Kn) (H:Nat→Prop) (G:Ghs) (id:Nat) (ops:Array Oper) (s:ASt) (γ:Ghs) (K:Kn) (a:Act) (w:World) (α:Type) (k:ASt→Option α) (r:α) (Q:Exit→Act→World→Prop),
 mU E tab ops.toList ops.toList s [] k=some r→(∀o∈ops.toList,∀d,o.dst=some d→d<N)→Rel E N w0 K0 H G s γ K a w →
 (∀s' γ' K' a' w',k s'=some r→Ext s s'→Rel E N w0 K0 H G s' γ' K' a' w'→Q .normal a' w')→(Code.region id ops true).wp E.P Q a w
theorem sF:∀ {c:Code}{l:Nat},uZ c l=true→∃rest,findLabel c l=some rest
 | .seq a b,l,h=>by
  simp only[uZ,findLabel] at h ⊢
  cases ha:uZ a l with
  |true=>obtain⟨r,hr⟩:=sF ha; rw[hr]; exact⟨_,rfl⟩
  |false =>
   rw[ha] at h;obtain⟨r,hr⟩:=sF (c:=b) h
   cases hf:findLabel a l with
   |none=>exact⟨r,hr⟩
   |some q=>exact⟨_,rfl⟩
 | .label l',l,h=>by
  simp only[uZ] at h;simp only[findLabel]
  have:=aXJ h
  subst this;simp
 | .skip,_,h=>by cases h
 | .region ..,_,h=>by cases h
 | .cond ..,_,h=>by cases h
 | .block ..,_,h=>by cases h
 | .loop ..,_,h=>by cases h
 | .rangeFunc ..,_,h=>by cases h
 | .exit ..,_,h=>by cases h
 | .scope ..,_,h=>by cases h
 | .goto ..,_,h=>by cases h
 | .ret,_,h=>by cases h
 | .refuse ..,_,h=>by cases h
theorem mG:∀ {c:Code}{l:Nat},uZ c l=false→findLabel c l=none
 | .seq a b,l,h=>by
  simp only[uZ,findLabel] at h ⊢
  cases ha:uZ a l with
  |true=>rw[ha] at h; cases h
  |false=>rw[ha] at h; rw[mG ha]; exact mG (c:=b) h
 | .label l',l,h=>by
  simp only[uZ] at h;simp only[findLabel];rw[if_neg];intro e;rw[beq_iff_eq] at e;subst e;simp at h
 | .skip,_,_=>rfl
 | .region ..,_,_=>rfl
 | .cond ..,_,_=>rfl
 | .block ..,_,_=>rfl
 | .loop ..,_,_=>rfl
 | .rangeFunc ..,_,_=>rfl
 | .exit ..,_,_=>rfl
 | .scope ..,_,_=>rfl
 | .goto ..,_,_=>rfl
 | .ret,_,_=>rfl
 | .refuse ..,_,_=>rfl
def Exit.once(c:Code) (Q:Exit→Act→World→Prop):Exit→Act→World→Prop
 | .goto l,a,w=>findLabel c l=none∧Q (.goto l) a w
 |e,a,w=>Q e a w
def Exit.fwd(P:Program) (c:Code) (Q:Exit→Act→World→Prop):Exit→Act→World→Prop
 | .goto l,a,w=>(findLabel c l=none∧Q (.goto l) a w)∨∃rest,findLabel c l=some rest∧rest.wp P (Exit.once c Q) a w
 |e,a,w=>Q e a w
theorem KL{P:Program}{a:Act}{w:World}{Q:Exit→Act→World→Prop}{c:Code}(first:c.wp P (Exit.fwd P c Q) a w):(Code.scope c).wp P Q a w:=by
 intro b k cs
 have key:∀rest a w,rest.wp P (Exit.once c Q) a w→∃e a' w',Q e a' w'∧Arrives P (lone (b.at a (.code rest::.inScope c::k)) cs w) b k cs e a' w':=by
  intro rest a w hp;obtain⟨e,a₁,w₁,hq,harr⟩:=hp b (.inScope c::k) cs
  cases e with
  |normal=>exact⟨.normal,a₁,w₁,hq,Steps.trans harr (.one step_inScope)⟩
  |exit id=>exact⟨.exit id,a₁,w₁,hq,fun k' hk=>harr k' (by simp[exitTo,hk])⟩
  |goto l' =>
   obtain⟨hn,hq⟩:=hq;exact⟨.goto l',a₁,w₁,hq,fun k' hk=>harr k' (by simp[gotoIn,hn,hk])⟩
  |ret=>exact⟨_,a₁,w₁,hq,harr⟩
  |panic ch=>exact⟨_,a₁,w₁,hq,harr⟩
  |outgrown=>exact⟨_,a₁,w₁,hq,harr⟩
 obtain⟨e,a₁,w₁,hq,harr⟩:=first b (.inScope c::k) cs
 cases e with
 |normal=>exact⟨.normal,a₁,w₁,hq,.head step_scope (Steps.trans harr (.one step_inScope))⟩
 |exit id=>exact⟨.exit id,a₁,w₁,hq,fun k' hk=>.head step_scope (harr k' (by simp[exitTo,hk]))⟩
 |goto l' =>
  rcases hq with⟨hn,hq⟩|⟨rest,hf,hq⟩
  ·exact⟨.goto l',a₁,w₁,hq,fun k' hk=>.head step_scope (harr k' (by simp[gotoIn,hn,hk]))⟩
  ·obtain⟨e₂,a₂,w₂,hq₂,harr₂⟩:=key rest a₁ w₁ hq
   have hg:gotoIn l' (.inScope c::k)=some (.code rest::.inScope c::k):=by simp[gotoIn,hf]
   exact⟨e₂,a₂,w₂,hq₂,.of_steps (.head step_scope (harr _ hg)) harr₂⟩
 |ret=>exact⟨_,a₁,w₁,hq,.of_steps (.one step_scope) harr⟩
 |panic ch=>exact⟨_,a₁,w₁,hq,.of_steps (.one step_scope) harr⟩
 |outgrown=>exact⟨_,a₁,w₁,hq,.of_steps (.one step_scope) harr⟩
theorem aA9{w0 w:World}{K0 K:Kn}{H:Nat→Prop}{γ:Ghs}{ob:Obs}(hH:Hp w0 K0 H γ ob K w){j:Nat}{u:Upd}(h:WQ ob j=some u):∃K',K.le K'∧Hp w0 K0 H γ (eL u ob) K' w∧∀p∈u,∃o,ob p.1=some o:=by
 unfold WQ at h
 split at h
 ·rename_i hh t xs cs hj
  split at h
  ·rename_i y htk hb;injection h with h;subst h
   have htk:=sA htk
   have hF:=eA ob cs
   obtain⟨K',hK,hH',hq⟩:=Hp.frzL (bW ob cs) hF (fun j h t xs hh=>.inl hh) hH
   have hFz:=AT (cs:=cs) hF (fun p hp=>hp) (fun _ _ h=>h) hq
   have hobj:eL (bW ob cs) ob j=some (.opn hh t xs cs):=by
    rcases hq j with⟨p,hp,e1,_⟩|⟨_,e1⟩
    ·exact absurd e1 (htk p hp)
    ·rw[e1]; exact hj
   rw[bR,vA]
   have hmem:∀p∈bW ob cs++[(j,Ob.row hh t (bM xs y))],∃o,ob p.1=some o:=fun p hp=>by
    rcases aY4.1 hp with hp|hp
    ·obtain⟨h,t,xs,h1,_⟩:=hF p hp; exact⟨_,h1⟩
    ·simp only[aYG] at hp; subst hp; exact⟨_,hj⟩
   refine⟨K',hK,?_,hmem⟩;show Hp w0 K0 H γ (cH (eL (bW ob cs) ob) j (.row hh t (bM xs y))) K' w
   cases hg:γ j with
   |none =>
    refine⟨hH'.os,hH'.tape,hH'.output,hH'.size,hH'.blk,hH'.mono,hH'.kok,fun i o g h1 h2=>?_,fun i o g h1 h2 h3=>?_,fun i k p q g g' h1 h2 h3 h4 h5 h6=>?_⟩
    ·by_cases hij:i=j
     ·subst hij; rw[hg] at h2; cases h2
     ·rw[bC _ _ hij] at h1; exact hH'.ok i o g h1 h2
    ·by_cases hij:i=j
     ·subst hij; rw[hg] at h2; cases h2
     ·rw[bC _ _ hij] at h1; exact hH'.own i o g h1 h2 h3
    ·by_cases hi:i=j
     ·subst hi; rw[hg] at h3; cases h3
     ·by_cases hk:k=j
      ·subst hk; rw[hg] at h4; cases h4
      ·rw[bC _ _ hi] at h1; rw[bC _ _ hk] at h2; exact hH'.sep i k p q g g' h1 h2 h3 h4 h5 h6
   |some g =>
    obtain⟨q1,q2,q3,q4,q5,vs,us,q6,q7,q9,q8⟩:=hH'.ok j _ g hobj hg
    have hlen:(bM xs y).length=xs.length:=by simp[bM]
    obtain⟨t1,t2⟩:=hH'.turn (w':=w) j g (.row hh t (bM xs y)) rfl rfl rfl (aZ0 _) (fun gg hgg=>by rw[hg] at hgg; injection hgg with hgg; subst hgg; exact⟨aZ0 _,fun _=>rfl⟩)
     (fun _ _ _=>rfl) (fun _ ad had=>.inr ⟨_,g,ad,hobj,hg,rfl,had,rfl⟩) (by
      refine⟨q1,q2,by rw[hlen]; exact q3,q4,q5,vs++us,by rw[hlen]; exact q6,?_,q8⟩;rcases q9 with⟨e1,e2⟩|⟨hne,hrep⟩
      ·subst e1; subst e2;rw[aY5];exact q7
      ·obtain⟨v1,v2,e1,e2,e3,_⟩:=CI hH' (cs0:=cs) hFz t cs (fun _ hc=>hc) y [] us hb hrep
       have e3:v2=[]:=e3
       subst e3;rw[aY5] at e1;subst e1
       have hset:bM xs y=xs.dropLast++[y]:=by
        simp only[bM]
        have hp:0<xs.length:=aX8.2 hne
        apply aYJ;intro i;rw[List.getElem?_set,List.getElem?_append];simp only[aXX,List.getElem?_dropLast]
        by_cases h1:xs.length-1=i
        ·subst h1; simp; omega
        ·rw[if_neg h1]
         by_cases h2:i<xs.length-1
         ·rw[if_pos h2,if_pos h2]
         ·rw[if_neg h2,aXN (by omega),aXN (by simp; omega)]
       rw[hset];exact nP q7 (aDA e2))
    rw[fP hg] at t2;exact t2
  ·cases h
 ·cases h
theorem S7{E:Env}{N:Nat}{w0:World}{K0:Kn}{H:Nat→Prop}{G:Ghs}{α:Type}{r:α}{k:ASt→Option α}:∀(js:List Nat){s:ASt}{γ:Ghs}{K:Kn}{a:Act}{w:World},aH3 js s k=some r→Rel E N w0 K0 H G s γ K a w→∃s' γ' K',k s'=some r∧Ext s s'∧Rel E N w0 K0 H G s' γ' K' a w
 | [],s,γ,K,a,w,h,hR=>⟨s,γ,K,h,Ext.refl s,hR⟩
 |j::js,s,γ,K,a,w,h,hR=>by
  simp only[aH3] at h
  split at h
  ·rename_i u hu;rw[fY] at h;obtain⟨K',hK,hp,hin⟩:=aA9 hR.hp hu
   let o:Oper:={ op:=.move (.const .nilFunc),dst:=none,guard:=none,after:=#[],type:=0,pos:= "" }
   have hstep:Step w0 K0 H γ (obs s) K s.tm ⟨.val (.one .undef),[],u⟩ undef γ K' w:=⟨Ghs.le.refl γ,hK,True.intro,hp,fun j g' hg=>.inl hg,fun i hi=>absurd hi (aY6 i)⟩
   have hR2:=hR.apply (o:=o) (fun d hd=>by cases hd) hstep
   have hx:=sC s o ⟨.val (.one .undef),[],u⟩ (fun j v ob hl=>(hR.obv j v ob hl).2)
   obtain⟨s',γ',K2,q1,q2,q3⟩:=S7 js h hR2;exact⟨s',γ',K2,q1,hx.trans q2,q3⟩
  ·cases h
section
variable {E:Env} {N M:Nat} {w0:World} {K0:Kn} {H:Nat→Prop} {G:Ghs}
def wpM(P:Program) (Q:Exit→Act→World→Prop) (a:Act) (w:World) (c:Code):Option Nat→Prop
 |none=>c.wp P Q a w
 |some l=>∀rest,findLabel c l=some rest→rest.wp P Q a w
theorem aIJ(hE:EnvOk E){tab:List Con}(htab:jQ E tab) (hD:KK E tab){α:Type}{r:α}:∀(c:Code) (m:Option Nat) (an:Ann){s:ASt}{γ:Ghs}{K:Kn}{a:Act}{w:World}{k:Ex→ASt→Option α}{Q:Exit→Act→World→Prop},
  fH E tab M c m an s k=some r→jJ N c=true→Rel E N w0 K0 H G s γ K a w →
  (∀e s' γ' K' a' w',k e s'=some r→Ext s s'→Rel E N w0 K0 H G s' γ' K' a' w'→Q (KJ e) a' w')→wpM E.P Q a w c m:=by
 intro c
 induction c with
 |skip =>
  intro m an s γ K a w k Q h _ hR hk
  cases m with
  |none=>exact wp_skip (hk .nrm s γ K a w h (Ext.refl s) hR)
  |some l=>cases h
 |region id ops d =>
  intro m an s γ K a w k Q h hc hR hk
  cases m with
  |some l=>cases h
  |none =>
  simp only[fH] at h
  have hd:=tV (show xH N ops.toList=true from hc)
  have plain:∀(b:Bool) {s2:ASt} {γ2:Ghs} {K2:Kn},(match b with
    |false=>xI E tab ops.toList ops.toList s2 (k .nrm)
    |true=>mU E tab ops.toList ops.toList s2 [] (k .nrm))=some r→Ext s s2→Rel E N w0 K0 H G s2 γ2 K2 a w→(Code.region id ops b).wp E.P Q a w:=fun b s2 γ2 K2 h hx hR=>by
   cases b with
   |false=>exact wp_region_list (KF hE htab ops.toList h hd hR fun s' γ' K' a' w' h1 h2 h3=>hk .nrm s' γ' K' a' w' h1 (hx.trans h2) h3)
   |true=>exact hD N w0 K0 H G id ops s2 γ2 K2 a w α _ r Q h hd hR fun s' γ' K' a' w' h1 h2 h3=>hk .nrm s' γ' K' a' w' h1 (hx.trans h2) h3
  split at h
  ·obtain⟨s2,γ2,K2,q1,q2,q3⟩:=S7 _ h hR;exact plain d q1 q2 q3
  ·exact plain d h (Ext.refl s) hR
 |seq c d ihc ihd =>
  intro m an s γ K a w k Q h hc hR hk;obtain⟨hc1,hc2⟩:=kC (show aQ (jJ N c) (jJ N d) false=true from hc)
  cases m with
  |some l =>
   simp only[fH] at h;intro rest hrest;simp only[findLabel] at hrest
   split at h
   ·rename_i hl;obtain⟨r1,hr1⟩:=sF hl;rw[hr1] at hrest;injection hrest with hrest;subst hrest;refine wp_seq (ihc (some l) _ h hc1 hR (fun e s' γ' K' a' w' h1 h2 h3=>?_) r1 hr1)
    cases e with
    |nrm=>exact ihd none _ h1 hc2 h3 fun e s'' γ'' K'' a'' w'' q1 q2 q3=>hk e s'' γ'' K'' a'' w'' q1 (h2.trans q2) q3
    |brk i=>exact hk (.brk i) s' γ' K' a' w' h1 h2 h3
    |ret=>exact hk .ret s' γ' K' a' w' h1 h2 h3
    |go i=>exact hk (.go i) s' γ' K' a' w' h1 h2 h3
   ·rename_i hl;rw[mG hl] at hrest;exact ihd (some l) _ h hc2 hR hk rest hrest
  |none =>
  have plain:∀(x y:Ann),(fH E tab M c none x s fun e s'=>match e with
    | .nrm=>fH E tab M d none y s' k
    | .brk i=>k (.brk i) s'
    | .ret=>k .ret s'
    | .go l=>k (.go l) s')=some r→(Code.seq c d).wp E.P Q a w:=fun x y h=>by
   refine wp_seq (ihc none x h hc1 hR fun e s' γ' K' a' w' h1 h2 h3=>?_)
   cases e with
   |nrm=>exact ihd none y h1 hc2 h3 fun e s'' γ'' K'' a'' w'' q1 q2 q3=>hk e s'' γ'' K'' a'' w'' q1 (h2.trans q2) q3
   |brk i=>exact hk (.brk i) s' γ' K' a' w' h1 h2 h3
   |ret=>exact hk .ret s' γ' K' a' w' h1 h2 h3
   |go i=>exact hk (.go i) s' γ' K' a' w' h1 h2 h3
  cases an with
  |jn sh x y =>
   simp only[fH,W.jn] at h;refine wp_seq (ihc none x h hc1 hR fun e s' γ' K' a' w' h1 h2 h3=>?_)
   cases e with
   |nrm =>
    simp only at h1
    split at h1
    ·rename_i v hv;rw[fY] at h1;obtain⟨⟨γ2,K2,q1⟩,q2⟩:=DE hR h2 h3 hv;exact ihd none y h1 hc2 q1 fun e s'' γ'' K'' a'' w'' q3 q4 q5=>hk e s'' γ'' K'' a'' w'' q3 (q2.trans q4) q5
    ·cases h1
   |brk i=>exact hk (.brk i) s' γ' K' a' w' h1 h2 h3
   |ret=>exact hk .ret s' γ' K' a' w' h1 h2 h3
   |go i=>exact hk (.go i) s' γ' K' a' w' h1 h2 h3
  |lf=>exact plain _ _ h
  |sq x y=>exact plain _ _ h
  |lp sh x=>exact plain _ _ h
  |jk sh x=>exact plain _ _ h
  |cl js=>exact plain _ _ h
 |cond x c d ihc ihd =>
  intro m an s γ K a w k Q h hc hR hk
  cases m with
  |some l=>cases h
  |none =>
  obtain⟨hc1,hc2⟩:=kC (show aQ (jJ N c) (jJ N d) false=true from hc);simp only[fH] at h
  split at h
  ·rename_i e he
   have hget:=hR.get x
   rw[he] at hget
   have hval:a.eval x=.bool e:=by simpa [aV,bY,aF,aT] using hget
   have plain:∀(y z:Ann),cnd e (fH E tab M c none y s k) (fH E tab M d none z s k)=some r→(Code.cond x c d).wp E.P Q a w:=fun y z h=>by
    cases e with
    |true=>exact wp_cond_true hval (ihc none _ h hc1 hR hk)
    |false=>exact wp_cond_false hval (ihd none _ h hc2 hR hk)
   cases an with
   |jk sh y =>
    simp only[W.jn] at h
    have fin:∀(e:Ex) (s':ASt) (γ':Ghs) (K':Kn) (a':Act) (w':World),(match e with
     | .nrm=>match AD sh s s' with
      |some v=>fSt (fU sh s v) fun s=>k .nrm s
      |none=>none
     | .brk i=>k (.brk i) s'
     | .ret=>k .ret s'
     | .go l=>k (.go l) s')=some r→Ext s s'→Rel E N w0 K0 H G s' γ' K' a' w'→Q (KJ e) a' w':=fun e s' γ' K' a' w' h1 h2 h3=>by
     cases e with
     |nrm =>
      simp only at h1
      split at h1
      ·rename_i v hv;rw[fY] at h1;obtain⟨⟨γ2,K2,q1⟩,q2⟩:=DE hR h2 h3 hv;exact hk .nrm _ γ2 K2 a' w' h1 q2 q1
      ·cases h1
     |brk i=>exact hk (.brk i) s' γ' K' a' w' h1 h2 h3
     |ret=>exact hk .ret s' γ' K' a' w' h1 h2 h3
     |go i=>exact hk (.go i) s' γ' K' a' w' h1 h2 h3
    cases e with
    |true=>exact wp_cond_true hval (ihc none _ h hc1 hR fin)
    |false=>exact wp_cond_false hval (ihd none _ h hc2 hR fin)
   |lf=>exact plain _ _ h
   |sq y z=>exact plain _ _ h
   |jn sh y z=>exact plain _ _ h
   |lp sh y=>exact plain _ _ h
   |cl js=>exact plain _ _ h
  ·cases h
 |block id c ih =>
  intro m an s γ K a w k Q h hc hR hk
  cases m with
  |some l=>cases h
  |none =>
  have plain:∀an:Ann,(fH E tab M c none an s fun e s'=>match e with
   | .nrm=>k .nrm s'
   | .brk i=>aQ (Nat.beq i id) (k .nrm s') (k (.brk i) s')
   | .ret=>k .ret s'
   | .go l=>k (.go l) s')=some r→(Code.block id c).wp E.P Q a w:=fun an h=>by
   refine wp_block (ih none an h hc hR fun e s' γ' K' a' w' h1 h2 h3=>?_)
   cases e with
   |nrm=>exact hk .nrm s' γ' K' a' w' h1 h2 h3
   |brk i =>
    simp only[KJ,Exit.inBlock]
    cases hb:Nat.beq i id with
    |true =>
     simp only[hb,aQ] at h1;rw[if_pos (aXJ hb)];exact hk .nrm s' γ' K' a' w' h1 h2 h3
    |false =>
     simp only[hb,aQ] at h1;rw[if_neg (fun e=>by subst e; simp at hb)];exact hk (.brk i) s' γ' K' a' w' h1 h2 h3
   |ret=>exact hk .ret s' γ' K' a' w' h1 h2 h3
   |go i=>exact hk (.go i) s' γ' K' a' w' h1 h2 h3
  cases an with
  |jk sh y =>
   simp only[fH,W.jn] at h;refine wp_block (ih none y h hc hR fun e s' γ' K' a' w' h1 h2 h3=>?_)
   have fin:(match AD sh s s' with
    |some v=>fSt (fU sh s v) fun s=>k .nrm s
    |none=>none)=some r→Q .normal a' w':=fun h1=>by
    split at h1
    ·rename_i v hv;rw[fY] at h1;obtain⟨⟨γ2,K2,q1⟩,q2⟩:=DE hR h2 h3 hv;exact hk .nrm _ γ2 K2 a' w' h1 q2 q1
    ·cases h1
   cases e with
   |nrm=>exact fin h1
   |brk i =>
    simp only[KJ,Exit.inBlock]
    cases hb:Nat.beq i id with
    |true =>
     simp only[hb,aQ] at h1;rw[if_pos (aXJ hb)];exact fin h1
    |false =>
     simp only[hb,aQ] at h1;rw[if_neg (fun e=>by subst e; simp at hb)];exact hk (.brk i) s' γ' K' a' w' h1 h2 h3
   |ret=>exact hk .ret s' γ' K' a' w' h1 h2 h3
   |go i=>exact hk (.go i) s' γ' K' a' w' h1 h2 h3
  |lf=>exact plain _ h
  |sq y z=>exact plain _ h
  |jn sh y z=>exact plain _ h
  |lp sh y=>exact plain _ h
  |cl js=>exact plain _ h
 |loop c ih =>
  intro m an s γ K a w k Q h hc hR hk
  cases m with
  |some l=>cases h
  |none =>
  cases an with
  |lp sh x =>
   simp only[fH] at h
   split at h
   ·rename_i v0 hv0;obtain⟨⟨γ0,K0',q1⟩,q2⟩:=DE hR (Ext.refl s) hR hv0
    refine wp_loop_ghost (fun n a w=>∃v γ' K',bG (fun self v=>fSt (fU sh s v) fun s1=>fH E tab M c none x s1 fun e s'=>match e with
     | .nrm=>match AD sh s s' with
      |some v=>self v
      |none=>none
     | .brk i=>k (.brk i) s'
     | .ret=>k .ret s'
     | .go l=>k (.go l) s') n v=some r∧Ext s (fU sh s v)∧Rel E N w0 K0 H G (fU sh s v) γ' K' a w) M ⟨v0,γ0,K0',h,q2,q1⟩ ?_
    rintro n a1 w1 ⟨v,γ1,K1,h1,hx,hR1⟩
    cases n with
    |zero=>cases h1
    |succ n =>
     simp only[bG,fY] at h1;refine ih none x h1 hc hR1 fun e s' γ' K' a' w' h2 h3 h4=>?_
     cases e with
     |nrm =>
      simp only at h2
      split at h2
      ·rename_i v' hv';obtain⟨⟨γ2,K2,q3⟩,q4⟩:=DE hR (hx.trans h3) h4 hv';exact⟨n,Nat.lt_succ_self n,v',γ2,K2,by simpa only[fY] using h2,q4,q3⟩
      ·cases h2
     |brk i=>exact hk (.brk i) s' γ' K' a' w' h2 (hx.trans h3) h4
     |ret=>exact hk .ret s' γ' K' a' w' h2 (hx.trans h3) h4
     |go i=>exact hk (.go i) s' γ' K' a' w' h2 (hx.trans h3) h4
   ·cases h
  |lf=>cases h
  |sq x y=>cases h
  |jn sh x y=>cases h
  |jk sh x=>cases h
  |cl js=>cases h
 |scope c ih =>
  intro m an s γ K a w k Q h hc hR hk
  cases m with
  |some l=>cases h
  |none =>
  simp only[fH] at h;refine KL (ih none _ h hc hR fun e s' γ' K' a' w' h1 h2 h3=>?_)
  cases e with
  |nrm=>exact hk .nrm s' γ' K' a' w' h1 h2 h3
  |brk i=>exact hk (.brk i) s' γ' K' a' w' h1 h2 h3
  |ret=>exact hk .ret s' γ' K' a' w' h1 h2 h3
  |go l =>
   simp only at h1
   split at h1
   ·rename_i hl;obtain⟨rest,hrest⟩:=sF hl;refine .inr ⟨rest,hrest,ih (some l) _ h1 hc h3 (fun e s'' γ'' K'' a'' w'' q1 q2 q3=>?_) rest hrest⟩
    cases e with
    |nrm=>exact hk .nrm s'' γ'' K'' a'' w'' q1 (h2.trans q2) q3
    |brk i=>exact hk (.brk i) s'' γ'' K'' a'' w'' q1 (h2.trans q2) q3
    |ret=>exact hk .ret s'' γ'' K'' a'' w'' q1 (h2.trans q2) q3
    |go i =>
     simp only at q1
     cases hb:uZ c i with
     |true=>rw[hb] at q1; cases q1
     |false =>
      rw[hb] at q1;exact⟨mG hb,hk (.go i) s'' γ'' K'' a'' w'' q1 (h2.trans q2) q3⟩
   ·rename_i hl;exact .inl ⟨mG hl,hk (.go l) s' γ' K' a' w' h1 h2 h3⟩
 |label l' =>
  intro m an s γ K a w k Q h hc hR hk
  cases m with
  |none=>exact wp_label (hk .nrm s γ K a w h (Ext.refl s) hR)
  |some l =>
   obtain⟨hb,h'⟩:=lO (r:=none) (show aQ (Nat.beq l' l) (k .nrm s) none=some r from h)
   have:=aXJ hb
   subst this;intro rest hrest;simp only[findLabel,beq_self_eq_true,if_true,Option.some.injEq] at hrest;subst hrest;exact wp_skip (hk .nrm s γ K a w h' (Ext.refl s) hR)
 |goto l =>
  intro m an s γ K a w k Q h _ hR hk
  cases m with
  |none=>exact wp_goto (hk (.go l) s γ K a w h (Ext.refl s) hR)
  |some l=>cases h
 |exit id =>
  intro m an s γ K a w k Q h _ hR hk
  cases m with
  |none=>exact wp_exit (hk (.brk id) s γ K a w h (Ext.refl s) hR)
  |some l=>cases h
 |ret =>
  intro m an s γ K a w k Q h _ hR hk
  cases m with
  |none=>exact wp_ret (hk .ret s γ K a w h (Ext.refl s) hR)
  |some l=>cases h
 |_=>intro m an s γ K a w k Q h; cases m<;>cases h
end
end Go.W
end

section
namespace Go.W
open Go Go.RowKit
def dL:List Piece→List Ob
 | []=>[]
 | .ob o::l=>o::dL l
 | .val _::l=>dL l
def eE(ps:List PK) (x:Vec (dK (kdP ps))):Nat:=(aR 1 (kdP ps) 0 x).2.length
def aIK(gs:List Gh) (tk:Nat) (γ:Ghs):Prop:=∀k g,gs[k]?=some g→γ (tk+(0+k))=some g
structure Ent (E:Env) (ps:List PK) (x:Vec (dK (kdP ps))) (w:World) (K:Kn) (H:Nat→Prop) (γ:Ghs) (args:Array Value):Prop where
 size:args.size=ps.length
 slots:∀y v sv,lk (start ps x).sl y=some (v,sv)→v=0∧aV γ K sv (args.getD y undef)
 hp:Hp w K H γ (obs (start ps x)) K w
 glob:eU E K
 tok:∀j g,γ j=some g→j<(start ps x).tm∧g.hv<(start ps x).tm
 all:∀j e,lk (start ps x).ob j=some e→∃g,γ j=some g
def aIL(rs:List Kd) (ps:List PK) (x:Vec (dK (kdP ps))) (r:Vec (dK (app rs (kdB ps)))) (w:World) (K:Kn) (H:Nat→Prop) (γ:Ghs) (V:Value) (w':World) (tk:Nat):Prop :=
 ∃γf obF Kf gs js,Hp w K H γf obF Kf w'∧nH γf obF Kf w' tk (Ats gs tk 0) (aR tk (app rs (kdB ps)) 0 r).2 gs js∧(∀j,js.count (some j)≤1) ∧
  (∀i o,(dL (aR tk (app rs (kdB ps)) 0 r).1)[i]?=some o→js.count (some (1+eE ps x+i))=0∧γf (1+eE ps x+i)=γ (1+eE ps x+i)∧(∃p,obF (1+eE ps x+i)=some p∧p.owns=true) ∧
   ∀γ2,aIK gs tk γ2→∀g,γf (1+eE ps x+i)=some g→eG γ2 Kf w' g o) ∧
  (∀γ2,aIK gs tk γ2→aV γ2 Kf (WN (CA rs (aR tk (app rs (kdB ps)) 0 r).1)) V)
def aIM(P:Program) (f:FuncId) (args:Array Value) (w:World) (R:Value→World→Prop):Prop :=
 (∃v w',(callFunc f args).run P w=.ok (.value v) w'∧R v w') ∨
 ((callFunc f args).run P w=.ok (.enter f args) w∧Calls P f args w fun e w'=>match e with
  | .returned v=>R v w'
  |_=>False)
def aH(E:Env) (c:Con):Prop:=∀x r,c.fn x=some r→∀(w:World) (K:Kn) (H:Nat→Prop) (γ:Ghs) (args:Array Value),Ent E c.ps x w K H γ args →
 aIM E.P c.f args w fun V w'=>∀tk,0<tk→aIL c.rs c.ps x r w K H γ V w' tk
def SVL(γ:Ghs) (K:Kn):List SV→List Value→Prop
 | [],vs=>vs=[]
 |s::ss,vs=>∃v r,vs=v::r∧aV γ K s v∧SVL γ K ss r
def S8:List PK→List Value→List Value
 | .k _::l,v::vs=>v::S8 l vs
 | .fn _::l,_::vs=>S8 l vs
 |_,_=>[]
theorem RH{γ:Ghs}{K:Kn}{g:Operand→SV}{a:Act}:∀(l:List Operand),(∀x∈l,aV γ K (g x) (a.eval x))→SVL γ K (eY g l) (l.map a.eval)
 | [],_=>rfl
 |x::l,h=>⟨_,_,rfl,h x aYE,RH l fun y hy=>h y (aXV _ hy)⟩
theorem KM:∀(l:List Src),WL l=bN l
 | []=>rfl
 | .tok j::l=>by simp only[WL,bN,KM l]
 | .val _::l=>by simp only[WL,bN,KM l]
theorem vO{j:Nat}:∀ {l:List Src},Src.tok j∈l↔j∈bN l
 | []=>by simp[bN]
 | .tok i::l=>by simp[bN,vO (l:=l)]
 | .val v::l=>by simp[bN,vO (l:=l)]
theorem RI{k:PK}{ps:List PK}{as:List SV}{ss:List Src}(h:kZ (k::ps) as=some ss) :
  (∃t m v ar sr,k=.k (.v t m)∧as=.val v::ar∧kZ ps ar=some sr∧ss=.val v::sr) ∨
  (∃ti t m j ar sr,k=.k (.b ti t m)∧as=.val (.one (.ptr j 0))::ar∧kZ ps ar=some sr∧ss=.tok j::sr) ∨
  (∃f ar,k=.fn f∧as=.val (.one (.fn f))::ar∧kZ ps ar=some ss) ∨
  (∃t m j ar sr,k=.k (.m t m)∧as=.val (.one (.mp j))::ar∧kZ ps ar=some sr∧ss=.tok j::sr) ∨
  (∃hh e j ar sr,k=.k (.r hh e)∧as=.val (.one (.row j hh))::ar∧kZ ps ar=some sr∧ss=.tok j::sr) ∨
  (∃ti t j ar sr,k=.k (.d ti t)∧as=.val (.one (.ptr j 0))::ar∧kZ ps ar=some sr∧ss=.tok j::sr) ∨
  (∃hh e j i ar sr,k=.k (.l hh e)∧as=.val (.one (.el j hh i 0))::ar∧kZ ps ar=some sr∧ss=.tok j::sr):=by
 unfold kZ at h
 split at h
 ·rename_i e; cases e
 ·rename_i t m l v ar e;injection e with e1 e2;subst e1; subst e2
  split at h
  ·rename_i sr hsr;injection h with h;exact .inl ⟨t,m,v,ar,sr,rfl,rfl,hsr,h.symm⟩
  ·cases h
 ·rename_i ti t m l j ar e;injection e with e1 e2;subst e1; subst e2
  split at h
  ·rename_i sr hsr;injection h with h;exact .inr (.inl ⟨ti,t,m,j,ar,sr,rfl,rfl,hsr,h.symm⟩)
  ·cases h
 ·rename_i t m l j ar e;injection e with e1 e2;subst e1; subst e2
  split at h
  ·rename_i sr hsr;injection h with h;exact .inr (.inr (.inr (.inl ⟨t,m,j,ar,sr,rfl,rfl,hsr,h.symm⟩)))
  ·cases h
 ·rename_i hh t l j hv ar e;injection e with e1 e2;subst e1; subst e2
  split at h
  ·rename_i sr hb hsr
   have:=aXJ hb
   subst this;injection h with h;exact .inr (.inr (.inr (.inr (.inl ⟨hv,t,j,ar,sr,rfl,rfl,hsr,h.symm⟩))))
  ·cases h
 ·rename_i ti t l j ar e;injection e with e1 e2;subst e1; subst e2
  split at h
  ·rename_i sr hsr;injection h with h;exact .inr (.inr (.inr (.inr (.inr (.inl ⟨ti,t,j,ar,sr,rfl,rfl,hsr,h.symm⟩)))))
  ·cases h
 ·rename_i hh t l j hv i ar e;injection e with e1 e2;subst e1; subst e2
  split at h
  ·rename_i sr hb hsr
   have:=aXJ hb
   subst this;injection h with h;exact .inr (.inr (.inr (.inr (.inr (.inr ⟨hv,t,j,i,ar,sr,rfl,rfl,hsr,h.symm⟩)))))
  ·cases h
 ·rename_i f l f' ar e;injection e with e1 e2;subst e1; subst e2;unfold aQ at h
  split at h
  ·rename_i hb
   have:=aXJ hb
   subst this;exact .inr (.inr (.inl ⟨f,ar,rfl,rfl,h⟩))
  ·cases h
 ·cases h
section
variable {γ γ2:Ghs} {K:Kn} {w:World} {ob obF:Obs}
theorem iV:∀(ps:List PK){as:List SV}{ss:List Src}{vals:List Value},kZ ps as=some ss→SVL γ K as vals→xU γ K ss (S8 ps vals)∧vals.length=ps.length∧∀j,Src.tok j∈ss→∃g,γ j=some g
 | [],as,ss,vals,h,hv=>by
  cases as with
  |nil =>
   simp only[kZ,Option.some.injEq] at h;subst h
   have hv:vals=[]:=hv
   subst hv;exact⟨rfl,rfl,fun j hj=>by cases hj⟩
  |cons _ _=>simp[kZ] at h
 |k::ps,as,ss,vals,h,hv=>by
  rcases RI h with⟨t,m,v,ar,sr,rfl,rfl,h1,rfl⟩|⟨ti,t,m,j,ar,sr,rfl,rfl,h1,rfl⟩|⟨f,ar,rfl,rfl,h1⟩|⟨t,m,j,ar,sr,rfl,rfl,h1,rfl⟩|⟨hh,t,j,ar,sr,rfl,rfl,h1,rfl⟩|⟨ti,t,j,ar,sr,rfl,rfl,h1,rfl⟩|⟨hh,t,j,i0,ar,sr,rfl,rfl,h1,rfl⟩
  ·obtain⟨V,Vr,rfl,hv1,hv2⟩:=hv;obtain⟨i1,i2,i3⟩:=iV ps h1 hv2;exact⟨⟨V,_,rfl,hv1,i1⟩,by simp[i2],fun j hj=>by
    rcases aZL.1 hj with e|hj
    ·cases e
    ·exact i3 j hj⟩
  ·obtain⟨V,Vr,rfl,hv1,hv2⟩:=hv;obtain⟨i1,i2,i3⟩:=iV ps h1 hv2;refine⟨⟨V,_,rfl,True.intro,i1⟩,by simp[i2],fun i hj=>?_⟩;rcases aZL.1 hj with e|hj
   ·injection e with e;subst e;obtain⟨g,b,q1,q2,q3,_⟩:=hv1;exact⟨g,q1⟩
   ·exact i3 i hj
  ·obtain⟨V,Vr,rfl,hv1,hv2⟩:=hv;obtain⟨i1,i2,i3⟩:=iV ps h1 hv2;exact⟨i1,by simp[i2],i3⟩
  ·obtain⟨V,Vr,rfl,hv1,hv2⟩:=hv;obtain⟨i1,i2,i3⟩:=iV ps h1 hv2;refine⟨⟨V,_,rfl,True.intro,i1⟩,by simp[i2],fun i hj=>?_⟩;rcases aZL.1 hj with e|hj
   ·injection e with e;subst e;obtain⟨g,b,q1,q2,q3,_⟩:=hv1;exact⟨g,q1⟩
   ·exact i3 i hj
  ·obtain⟨V,Vr,rfl,hv1,hv2⟩:=hv;obtain⟨i1,i2,i3⟩:=iV ps h1 hv2;refine⟨⟨V,_,rfl,True.intro,i1⟩,by simp[i2],fun i hj=>?_⟩;rcases aZL.1 hj with e|hj
   ·injection e with e;subst e;obtain⟨_,g,q1,_⟩:=hv1;exact⟨g,q1⟩
   ·exact i3 i hj
  ·obtain⟨V,Vr,rfl,hv1,hv2⟩:=hv;obtain⟨i1,i2,i3⟩:=iV ps h1 hv2;refine⟨⟨V,_,rfl,True.intro,i1⟩,by simp[i2],fun i hj=>?_⟩;rcases aZL.1 hj with e|hj
   ·injection e with e;subst e;obtain⟨g,b,q1,q2,q3,_⟩:=hv1;exact⟨g,q1⟩
   ·exact i3 i hj
  ·obtain⟨V,Vr,rfl,hv1,hv2⟩:=hv;obtain⟨i1,i2,i3⟩:=iV ps h1 hv2;refine⟨⟨V,_,rfl,True.intro,i1⟩,by simp[i2],fun i hj=>?_⟩;rcases aZL.1 hj with e|hj
   ·injection e with e;subst e;obtain⟨_,g,q1,_⟩:=hv1;exact⟨g,q1⟩
   ·exact i3 i hj
theorem sG{k:Kd}{l:List Kd}{p:Piece}{r:List Piece}(h:xV (k::l) (p::r)):xV l r:=by
 obtain⟨p',r',e,_,h2⟩:=h;injection e with _ e;subst e;exact h2
def iW(γ:Ghs):List PK→List SV→Prop
 | .k (.l _ _)::l,.val (.one (.el j _ i _))::as=>(∀g,γ j=some g→i=g.n-1)∧iW γ l as
 |_::l,_::as=>iW γ l as
 |_,_=>True
theorem iW.tl{γ:Ghs}{k:PK}{ps:List PK}{a:SV}{as:List SV}(h:iW γ (k::ps) (a::as)):iW γ ps as:=by
 unfold iW at h
 split at h
 ·rename_i e1 e2;injection e1 with _ e1;injection e2 with _ e2;subst e1; subst e2;exact h.2
 ·rename_i e1 e2;injection e1 with _ e1;injection e2 with _ e2;subst e1; subst e2;exact h
 ·rename_i hno; exact(hno _ _ _ _ rfl rfl).elim
theorem qM:∀(ps:List PK){as:List SV}{ss:List Src}{vals:List Value}{pc:List Piece}(i b:Nat),kZ ps as=some ss→SVL γ K as vals→iW γ ps as→xV (kdP ps) pc→PcL γ γ2 ob obF K w ss (S8 ps vals) pc →
  (∀q j,(bN ss)[q]?=some j→γ2 (b+q)=γ j) →
  (∀y v sv,lk (inP ps pc i b).1 y=some (v,sv)→v=0∧i≤y∧aV γ2 K sv (vals.getD (y-i) undef))∧(inP ps pc i b).2=dL pc∧(dL pc).length=(bN ss).length
 | [],as,ss,vals,pc,i,b,h,hv,hL,hk,hp,hb=>by
  cases as with
  |nil =>
   simp only[kZ,Option.some.injEq] at h;subst h
   have hp:pc=[]:=hp
   subst hp;exact⟨fun y v sv h=>by simp[inP,lk] at h,rfl,rfl⟩
  |cons _ _=>simp[kZ] at h
 |k::ps,as,ss,vals,pc,i,b,h,hv,hL,hk,hp,hb=>by
  have step:∀ {sv0:SV} {V:Value} {Vr:List Value} {rest:List (Nat×Nat×SV)},aV γ2 K sv0 V→(∀y v sv,lk rest y=some (v,sv)→v=0∧i+1≤y∧aV γ2 K sv (Vr.getD (y-(i+1)) undef)) →
    ∀y v sv,lk ((i,0,sv0)::rest) y=some (v,sv)→v=0∧i≤y∧aV γ2 K sv ((V::Vr).getD (y-i) undef):=by
   intro sv0 V Vr rest h1 h2 y v sv hy;simp only[lk,aQ] at hy
   split at hy
   ·rename_i hb
    have:=aXJ hb
    subst this;simp only[Option.some.injEq,Prod.mk.injEq] at hy;obtain⟨rfl,rfl⟩:=hy;exact⟨rfl,aZ0 _,by simpa using h1⟩
   ·obtain⟨q1,q2,q3⟩:=h2 y v sv hy;refine⟨q1,by omega,?_⟩;rw[show y-i=(y-(i+1))+1 by omega]
    simpa using q3
  rcases RI h with⟨t,m,v,ar,sr,rfl,rfl,h1,rfl⟩|⟨ti,t,m,j,ar,sr,rfl,rfl,h1,rfl⟩|⟨f,ar,rfl,rfl,h1⟩|⟨t,m,j,ar,sr,rfl,rfl,h1,rfl⟩|⟨hh,t,j,ar,sr,rfl,rfl,h1,rfl⟩|⟨ti,t,j,ar,sr,rfl,rfl,h1,rfl⟩|⟨hh,t,j,i0,ar,sr,rfl,rfl,h1,rfl⟩
  ·obtain⟨V,Vr,rfl,hv1,hv2⟩:=hv;obtain⟨V',Vr',p,pr,e,rfl,hp1,hp2⟩:=hp;injection e with e1 e2;subst e1; subst e2
   cases p with
   |ob o=>exact absurd hp1 (by simp[vM])
   |val v' =>
    obtain⟨i1,i2,i3⟩:=qM ps (i+1) b h1 hv2 hL.tl (sG hk) hp2 hb;exact⟨step (sv0:=.val v') hp1 i1,i2,i3⟩
  ·obtain⟨V,Vr,rfl,hv1,hv2⟩:=hv;obtain⟨V',Vr',p,pr,e,rfl,hp1,hp2⟩:=hp;injection e with e1 e2;subst e1; subst e2
   cases p with
   |val v'=>exact absurd hp1 (by simp[vM])
   |ob o =>
    obtain⟨i1,i2,i3⟩:=qM ps (i+1) (b+1) h1 hv2 hL.tl (sG hk) hp2 (fun q j' hq=>by
     have:=hb (q+1) j' (by simpa [bN] using hq)
     rwa [show b+(q+1)=b+1+q by omega] at this)
    refine⟨step (sv0:=.val (.one (.ptr b 0))) ?_ i1,?_,?_⟩
    ·obtain⟨g,b',q1,q2,q3,q4⟩:=hv1
     have:=hb 0 j (by simp[bN])
     exact⟨g,b',by rw[←q1]; simpa using this,q2,q3,q4⟩
    ·show o::(inP ps pr (i+1) (b+1)).2=o::dL pr;rw[i2]
    ·simp[dL,bN,i3]
  ·obtain⟨V,Vr,rfl,hv1,hv2⟩:=hv;obtain⟨i1,i2,i3⟩:=qM ps (i+1) b h1 hv2 hL.tl hk hp hb;exact⟨step (sv0:=.val (.one (.fn f))) hv1 i1,i2,i3⟩
  ·obtain⟨V,Vr,rfl,hv1,hv2⟩:=hv;obtain⟨V',Vr',p,pr,e,rfl,hp1,hp2⟩:=hp;injection e with e1 e2;subst e1; subst e2
   cases p with
   |val v'=>exact absurd hp1 (by simp[vM])
   |ob o =>
    obtain⟨i1,i2,i3⟩:=qM ps (i+1) (b+1) h1 hv2 hL.tl (sG hk) hp2 (fun q j' hq=>by
     have:=hb (q+1) j' (by simpa [bN] using hq)
     rwa [show b+(q+1)=b+1+q by omega] at this)
    refine⟨step (sv0:=.val (.one (.mp b))) ?_ i1,?_,?_⟩
    ·obtain⟨g,b',q1,q2,q3,q4⟩:=hv1
     have:=hb 0 j (by simp[bN])
     exact⟨g,b',by rw[←q1]; simpa using this,q2,q3,q4⟩
    ·show o::(inP ps pr (i+1) (b+1)).2=o::dL pr;rw[i2]
    ·simp[dL,bN,i3]
  ·obtain⟨V,Vr,rfl,hv1,hv2⟩:=hv;obtain⟨V',Vr',p,pr,e,rfl,hp1,hp2⟩:=hp;injection e with e1 e2;subst e1; subst e2
   cases p with
   |val v'=>exact absurd hp1 (by simp[vM])
   |ob o =>
    obtain⟨i1,i2,i3⟩:=qM ps (i+1) (b+1) h1 hv2 hL.tl (sG hk) hp2 (fun q j' hq=>by
     have:=hb (q+1) j' (by simpa [bN] using hq)
     rwa [show b+(q+1)=b+1+q by omega] at this)
    refine⟨step (sv0:=.val (.one (.row b hh))) ?_ i1,?_,?_⟩
    ·obtain⟨q0,g,q1,q2,q3,q4⟩:=hv1
     have:=hb 0 j (by simp[bN])
     exact⟨q0,g,by rw[←q1]; simpa using this,q2,q3,q4⟩
    ·show o::(inP ps pr (i+1) (b+1)).2=o::dL pr;rw[i2]
    ·simp[dL,bN,i3]
  ·obtain⟨V,Vr,rfl,hv1,hv2⟩:=hv;obtain⟨V',Vr',p,pr,e,rfl,hp1,hp2⟩:=hp;injection e with e1 e2;subst e1; subst e2
   cases p with
   |val v'=>exact absurd hp1 (by simp[vM])
   |ob o =>
    obtain⟨i1,i2,i3⟩:=qM ps (i+1) (b+1) h1 hv2 hL.tl (sG hk) hp2 (fun q j' hq=>by
     have:=hb (q+1) j' (by simpa [bN] using hq)
     rwa [show b+(q+1)=b+1+q by omega] at this)
    refine⟨step (sv0:=.val (.one (.ptr b 0))) ?_ i1,?_,?_⟩
    ·obtain⟨g,b',q1,q2,q3,q4⟩:=hv1
     have:=hb 0 j (by simp[bN])
     exact⟨g,b',by rw[←q1]; simpa using this,q2,q3,q4⟩
    ·show o::(inP ps pr (i+1) (b+1)).2=o::dL pr;rw[i2]
    ·simp[dL,bN,i3]
  ·obtain⟨V,Vr,rfl,hv1,hv2⟩:=hv;obtain⟨V',Vr',p,pr,e,rfl,hp1,hp2⟩:=hp;injection e with e1 e2;subst e1; subst e2
   cases p with
   |val v'=>exact absurd hp1 (by simp[vM])
   |ob o =>
    obtain⟨i1,i2,i3⟩:=qM ps (i+1) (b+1) h1 hv2 hL.tl (sG hk) hp2 (fun q j' hq=>by
     have:=hb (q+1) j' (by simpa [bN] using hq)
     rwa [show b+(q+1)=b+1+q by omega] at this)
    refine⟨step (sv0:=.val (.one (.el b hh (pO o) 0))) ?_ i1,?_,?_⟩
    ·obtain⟨q0,g,q1,q2,q3,q4⟩:=hv1
     have:=hb 0 j (by simp[bN])
     have hi:i0=g.n-1:=hL.1 g q1
     obtain⟨p',r',ee,hk1,_⟩:=hk;injection ee with e1 _;subst e1
     have hob:=hp1.2.2 g q1
     cases o with
     |opn h' t' xs' cs' =>
      have hn:g.n=xs'.length:=hob.2.2.1
      have e0:pO (.opn h' t' xs' cs')=i0:=by rw[hi,hn]; rfl
      rw[e0];exact⟨q0,g,by rw[←q1]; simpa using this,q2,q3,q4⟩
     |_=>exact absurd hk1 (by simp[PcK])
    ·show o::(inP ps pr (i+1) (b+1)).2=o::dL pr;rw[i2]
    ·simp[dL,bN,i3]
end
def Ob.ver:Ob→Nat
 | .row h _ _=>h
 | .opn h _ _ _=>h
 |_=>0
theorem YF{γ:Ghs}{K:Kn}{w:World}{g:Gh}{o:Ob}(h:eG γ K w g o) (ho:o.owns=true):g.hv=o.ver:=by
 cases o with
 |box ti cs=>obtain⟨_,_,e,_⟩:=h; exact e
 |map kt vt es=>obtain⟨_,_,_,e,_⟩:=h; exact e
 |row hh t xs=>exact h.1
 |iter s p=>obtain⟨_,e,_⟩:=h; exact e
 |opn hh t xs cs=>exact h.1
 |_=>cases ho
theorem vP:∀(ps:List PK){pc:List Piece},xV (kdP ps) pc→∀o∈dL pc,o.ver≤hvP ps
 | [],pc,h,o,ho=>by
  have h:pc=[]:=h
  subst h; cases ho
 | .fn f::l,pc,h,o,ho=>vP l h o ho
 | .k k::l,pc,h,o,ho=>by
  obtain⟨p,pr,rfl,h1,h2⟩:=h
  have hl:hvP l≤hvP (.k k::l):=by cases k<;>simp[hvP]
  cases p with
  |val v=>exact aZR (vP l h2 o ho) hl
  |ob o' =>
   rcases aZL.1 (show o∈o'::dL pr from ho) with rfl|ho
   ·cases k with
    |r hh e =>
     cases o with
     |row h' e' xs =>
      have:h'=hh:=h1
      subst this;show h'≤h'+hvP l;omega
     |_=>exact absurd h1 (by simp[PcK])
    |l hh e =>
     cases o with
     |opn h' e' xs cs =>
      have:h'=hh:=h1
      subst this;show h'≤h'+hvP l;omega
     |_=>exact absurd h1 (by simp[PcK])
    |_=>cases o<;>first|exact aZ1 _|exact absurd h1 (by simp[PcK])
   ·exact aZR (vP l h2 o ho) hl
theorem RJ:∀(u:Upd){ob:Obs}{j:Nat}{o:Ob},eL u ob j=some o→(j,o)∈u∨(ob j=some o∧∀p∈u,p.1≠j)
 | [],ob,j,o,h=>.inr ⟨h,fun p hp=>by cases hp⟩
 |(i,x)::u,ob,j,o,h=>by
  rcases RJ u (show eL u (cH ob i x) j=some o from h) with h|⟨h,h'⟩
  ·exact .inl (aXV _ h)
  ·by_cases hij:j=i
   ·subst hij;rw[aK] at h;injection h with h;subst h;exact .inl aYE
   ·rw[bC _ _ hij] at h;exact .inr ⟨h,fun p hp=>(aZL.1 hp).elim (fun e=>by subst e; exact fun e=>hij e.symm) (h' p)⟩
theorem RK:∀(os:List Ob){n:Nat}{ob:Obs}{j:Nat}{o:Ob},jY n os ob j=some o→(∃i:Nat,j=n+i∧os[i]?=some o)∨(ob j=some o∧∀i,i<os.length→j≠n+i)
 | [],n,ob,j,o,h=>.inr ⟨h,fun i hi=>absurd hi (aY6 i)⟩
 |x::os,n,ob,j,o,h=>by
  rcases RK os (show jY (n+1) os (cH ob n x) j=some o from h) with⟨i,h1,h2⟩|⟨h,h'⟩
  ·exact .inl ⟨i+1,by omega,by simpa using h2⟩
  ·by_cases hij:j=n
   ·subst hij;rw[aK] at h;exact .inl ⟨0,rfl,by simpa using h⟩
   ·rw[bC _ _ hij] at h;refine .inr ⟨h,fun i hi e=>?_⟩;simp only[aYR] at hi
    cases i with
    |zero=>exact hij (by omega)
    |succ i=>exact h' i (by omega) (by omega)
theorem xW:∀(ps:List Piece){l:List Nat}{j:Nat}{o:Ob},(j,o)∈tF l ps→∃i:Nat,l[i]?=some j∧(dL ps)[i]?=some o
 | [],l,j,o,h=>by cases l<;>simp[tF] at h
 | .val v::ps,l,j,o,h=>by
  cases l with
  |nil=>simp[tF] at h
  |cons x l=>exact xW ps (l:=x::l) h
 | .ob p::ps,l,j,o,h=>by
  cases l with
  |nil=>simp[tF] at h
  |cons x l =>
   simp only[tF,aZL,Prod.mk.injEq] at h;rcases h with⟨rfl,rfl⟩|h
   ·exact⟨0,rfl,rfl⟩
   ·obtain⟨i,h1,h2⟩:=xW ps h;exact⟨i+1,by simpa using h1,by simpa [dL] using h2⟩
theorem Hp.enter{w0 w:World}{K0 K:Kn}{H:Nat→Prop}{γ:Ghs}{ob:Obs}(hH:Hp w0 K0 H γ ob K w){γ2:Ghs}{ob2:Obs}(src:Nat→Nat) (h1:∀j o g,ob2 j=some o→γ2 j=some g→eG γ2 K w g o)
  (h2:∀j o g ad,ob2 j=some o→γ2 j=some g→o.owns=true→g.a=some ad→∃p g',ob (src j)=some p∧γ (src j)=some g'∧p.owns=true∧g'.a=some ad)
  (h3:∀i j o p g g' ad ad',ob2 i=some o→ob2 j=some p→γ2 i=some g→γ2 j=some g'→o.owns=true→p.owns=true→g.a=some ad→g'.a=some ad'→i≠j→src i≠src j) :
  Hp w K (fun b=>∃j o g ad,ob2 j=some o∧γ2 j=some g∧o.owns=true∧g.a=some ad∧ad.block=b) γ2 ob2 K w:=by
 have:=hH.rebuild src h1 h2 h3
 exact⟨rfl,rfl,rfl,aZ0 _,fun _ _ _=>⟨rfl,fun _=>rfl⟩,Kn.le.refl K,hH.kok,h1,fun j o g a1 a2 a3 ad a4=>.inr ⟨j,o,g,ad,a1,a2,a3,a4,rfl⟩,this.sep⟩
end Go.W
end

section
namespace Go.W
open Go Go.RowKit
theorem vQ(ps:List PK) (x:Vec (dK (kdP ps))):start ps x=⟨hvP ps+(eE ps x+(inP ps (aR 1 (kdP ps) 0 x).1 0 (1+eE ps x)).2.length)+2,(inP ps (aR 1 (kdP ps) 0 x).1 0 (1+eE ps x)).1,
  jV 0 1 ((aR 1 (kdP ps) 0 x).2++(inP ps (aR 1 (kdP ps) 0 x).1 0 (1+eE ps x)).2)⟩:=by
 unfold start eE;simp only[bR,cR,Nat.succ_eq_add_one]
def zW(ob:Obs):List PK→List SV→Prop
 | .k (.l _ _)::l,.val (.one (.el j _ i _))::as=>(∃h t xs cs,ob j=some (.opn h t xs cs)∧(i:Int)=((List.length xs:Nat):Int)-1)∧zW ob l as
 |_::l,_::as=>zW ob l as
 |_,_=>True
theorem xX{α:Type}{r:α}{ob:Obs}:∀(ps:List PK) (as:List SV){k:Option α},WP ob ps as k=some r→zW ob ps as∧k=some r
 | [],as,k,h=>⟨trivial,by simpa [WP] using h⟩
 |p::ps,[],k,h=>⟨by simp[zW],by simpa [WP] using h⟩
 |p::ps,a::as,k,h=>by
  unfold WP at h;unfold zW
  split at h
  ·rename_i e1 e2;injection e1 with e0 e1;injection e2 with e3 e2;subst e0; subst e1; subst e2; subst e3
   split at h
   ·rename_i hh t xs cs hob;obtain⟨h1,h2⟩:=aP h;obtain⟨i1,i2⟩:=xX ps as h2;exact⟨⟨⟨_,_,_,_,hob,by simpa [ieq,ofN,aJ,len] using h1⟩,i1⟩,i2⟩
   ·cases h
  ·rename_i hno e1 e2;injection e1 with e0 e1;injection e2 with e3 e2;subst e0; subst e1; subst e2; subst e3;obtain⟨i1,i2⟩:=xX ps as h;refine⟨?_,i2⟩
   split
   ·rename_i e1 e2;injection e1 with e0 e1;injection e2 with e3 e2;subst e0; subst e3;exact(hno _ _ _ _ _ _ rfl rfl).elim
   ·rename_i e1 e2;injection e1 with e0 e1;injection e2 with e3 e2;subst e1; subst e2;exact i1
   ·trivial
  ·rename_i hno; exact(hno _ _ _ _ rfl rfl).elim
theorem RL{γ:Ghs}{p:PK}{ps:List PK}{a:SV}{as:List SV}(hno:∀(h:Nat) (e:Ty) (j hv i off:Nat),p=.k (.l h e)→a=.val (.one (.el j hv i off))→False) (ih:iW γ ps as):iW γ (p::ps) (a::as):=by
 unfold iW
 split
 ·rename_i e1 e2;injection e1 with e0 e1;injection e2 with e3 e2;subst e0; subst e3;exact(hno _ _ _ _ _ _ rfl rfl).elim
 ·rename_i e1 e2;injection e1 with e0 e1;injection e2 with e3 e2;subst e1; subst e2;exact ih
 ·trivial
theorem xY{w0 w:World}{K0 K:Kn}{H:Nat→Prop}{γ:Ghs}{ob ob1:Obs}(hle:∀j x,ob j=some x→ob1 j=some x) (hH:Hp w0 K0 H γ ob1 K w):∀(ps:List PK) (as:List SV),zW ob ps as→iW γ ps as
 | [],as,h=>trivial
 |p::ps,[],h=>by simp[iW]
 |p::ps,a::as,h=>by
  unfold zW at h
  split at h
  ·rename_i e1 e2;injection e1 with e0 e1;injection e2 with e3 e2;subst e0; subst e1; subst e2; subst e3;obtain⟨⟨hh,t,xs,cs,h1,h2⟩,h3⟩:=h;simp only[iW];refine⟨fun g hg=>?_,xY hle hH ps as h3⟩
   have hn:g.n=xs.length:=(hH.ok _ _ g (hle _ _ h1) hg).2.2.1
   omega
  ·rename_i hno e1 e2;injection e1 with e0 e1;injection e2 with e3 e2;subst e0; subst e1; subst e2; subst e3;exact RL hno (xY hle hH ps as h)
  ·rename_i hno; exact(hno _ _ _ _ rfl rfl).elim
section
variable {E:Env} {g:Operand→SV} {ob:Obs} {tk:Nat} {o:Oper} {α:Type} {k:Out→Option α} {r:α}
theorem aD2{c:Con}{as:List SV}{ss:List Src}{x:Vec (dK (kdP c.ps))}{u:Upd}(has:kZ c.ps as=some ss) (hp:lV ob (kdP c.ps) ss=some (x,u)) (ht:pN u=true)
  {w0:World} {K0:Kn} {H:Nat→Prop} {γ:Ghs} {ob1:Obs} {K:Kn} {w:World} {vals:List Value} (hle:∀j x,ob j=some x→ob1 j=some x) (hH:Hp w0 K0 H γ ob1 K w) (hG:eU E K) (hv:SVL γ K as vals) (hLf:zW ob c.ps as) :
  ∃K1 obF γc Hc,K.le K1∧Hp w0 K0 H γ obF K1 w∧Fzd ob obF u∧(∀j,(∀p∈u,p.2≠.gone→p.1≠j)→obF j=ob1 j)∧Ent E c.ps x w K1 Hc γc vals.toArray ∧
   (∀b,Hc b→∃i p g ad,obF i=some p∧p.owns=true∧γ i=some g∧g.a=some ad∧ad.block=b∧(i,Ob.gone)∈u) ∧
   (∀q j,(bN ss)[q]?=some j→γc (1+eE c.ps x+q)=γ j):=by
 obtain⟨K1,obF,hK,hH1,hF,hFo⟩:=hH.fzd hle (nX _ hp) ht
 have hv1:SVL γ K1 as vals:=by
  clear has hp hLf
  induction as generalizing vals with
  |nil=>exact hv
  |cons a as ih=>obtain⟨v,vr,e,q1,q2⟩:=hv; exact⟨v,vr,e,q1.mono (Ghs.le.refl γ) hK,ih q2⟩
 obtain⟨hs1,hs2,hs3⟩:=iV c.ps has hv1;obtain⟨pc,new,hup⟩:∃pc new,aR 1 (kdP c.ps) 0 x=(pc,new):=⟨_,_,rfl⟩;obtain⟨gs,js,r1,r2,r3⟩:=vN (tk:=1) hH1 hF (by omega) (kdP c.ps) (fun j p hj _=>hs3 j hj) hp (fun p hp=>hp) hs1 hup
 have hlen:=mE r1
 have hcnt:=(nY ht).1
 have hN:eE c.ps x=new.length:=by unfold eE; rw[hup]
 let γc:Ghs:=fun j=>if j=0 then none else if j<1+new.length then gs[j-1]? else((bN ss)[j-(1+new.length)]?).bind γ
 have c1:∀i,i<new.length→γc (1+i)=gs[i]?:=fun i hi=>by
  have e1:¬(1+i=0):=by omega
  have e2:1+i<1+new.length:=by omega
  simp only[γc,if_neg e1,if_pos e2,aXE]
 have c2:∀q,γc (1+new.length+q)=((bN ss)[q]?).bind γ:=fun q=>by
  have e1:¬(1+new.length+q=0):=by omega
  have e2:¬(1+new.length+q<1+new.length):=by omega
  simp only[γc,if_neg e1,if_neg e2,aXE]
 have hAt:Ats gs 1 0 γc:=fun kk g' hk=>by
  have:kk<new.length:=by rw[←hlen.1]; exact(aW6.1 hk).1
  rw[aZS,c1 kk this]; exact hk
 have hpc:=r3 γc hAt
 have htq:∀q j,(bN ss)[q]?=some j→γc (1+new.length+q)=γ j:=fun q j hq=>by rw[c2,hq]; rfl
 have hkd:xV (kdP c.ps) pc:=by have:=fF (tk:=1) (kdP c.ps) 0 x; rw[hup] at this; exact this
 have hLast:iW γ c.ps as:=xY hle hH c.ps as hLf
 obtain⟨p1,p2,p3⟩:=qM c.ps 0 (1+new.length) has hv1 hLast hkd hpc htq
 have hst:start c.ps x=⟨hvP c.ps+(new.length+(dL pc).length)+2,(inP c.ps pc 0 (1+new.length)).1,jV 0 1 (new++dL pc)⟩:=by
  rw[vQ,hN,hup,p2]
 -- a variable that is handed over
 have box:∀ {γ2:Ghs} {ss:List Src} {vs:List Value} {pc:List Piece},PcL γ γ2 ob obF K1 w ss vs pc→∀(q:Nat) (o:Ob),(dL pc)[q]?=some o→∃j,(bN ss)[q]?=some j∧o.owns=true∧(∃p,ob j=some p∧obF j=some p∧p.owns=true)∧∀g,γ j=some g→eG γ2 K1 w g o:=by
  intro γ2 ss
  induction ss with
  |nil=>intro vs pc h q o ho; have h:pc=[]:=h; subst h; simp[dL] at ho
  |cons s ss ih =>
   intro vs pc h q o ho;obtain⟨v,vr,p,pr,e1,e2,h1,h2⟩:=h;subst e1; subst e2
   cases s with
   |val v' =>
    cases p with
    |ob o=>exact absurd h1 (by simp[vM])
    |val v''=>exact ih h2 q o ho
   |tok j =>
    cases p with
    |val v''=>exact absurd h1 (by simp[vM])
    |ob o' =>
     cases q with
     |zero =>
      simp only[dL,aXD,Option.some.injEq] at ho;subst ho;exact⟨j,rfl,h1⟩
     |succ q =>
      obtain⟨j',q1,q2⟩:=ih h2 q o (by simpa [dL] using ho);exact⟨j',by simpa [bN] using q1,q2⟩
 -- the objects of the call, one by one
 have obj:∀j v0 o,lk (jV 0 1 (new++dL pc)) j=some (v0,o)→v0=0∧((∃i,j=1+i∧i<new.length∧∃g2 src,gs[i]?=some g2∧js[i]?=some src∧RG γ obF K1 w 1 (Ats gs 1 0) o g2 src) ∨
   (∃q i,j=1+new.length+q∧q<(dL pc).length∧(bN ss)[q]?=some i∧o.owns=true∧(∃p,ob i=some p∧obF i=some p∧p.owns=true)∧∀g,γ i=some g→eG γc K1 w g o)):=fun j v0 o hj=>by
  obtain⟨i,e1,e2,e3⟩:=mY _ _ _ _ _ hj;refine⟨e3,?_⟩;simp only at e2
  by_cases hi:i<new.length
  ·rw[aW7 hi] at e2;obtain⟨g2,src,k1,k2,k3⟩:=mF r1 i o e2;exact .inl ⟨i,e1,hi,g2,src,k1,k2,k3⟩
  ·rw[aW5 (by omega)] at e2;obtain⟨i',q1,q2,q3,q4⟩:=box hpc (i-new.length) o e2;exact .inr ⟨i-new.length,i',by omega,(aW6.1 e2).1,q1,q2,q3,q4⟩
 have obj':∀j o,obs (start c.ps x) j=some o→∃v0,lk (jV 0 1 (new++dL pc)) j=some (v0,o):=fun j o hj=>by
  unfold obs at hj;rw[hst] at hj;simp only at hj
  split at hj
  ·rename_i v0 o0 hl;injection hj with hj;subst hj;exact⟨v0,hl⟩
  ·cases hj
 have hvar:∀i,i∈bN ss→∃g,γ i=some g:=fun i hi=>hs3 i (vO.2 hi)
 let src:Nat→Nat:=fun j=>if j<1+new.length then(match js[j-1]? with
  |some (some i)=>i
  |_=>0) else((bN ss)[j-(1+new.length)]?).getD 0
 have src1:∀i kk,i<new.length→js[i]?=some (some kk)→src (1+i)=kk:=fun i kk hi hk=>by
  have e2:1+i<1+new.length:=by omega
  simp only[src,if_pos e2,aXE,hk]
 have src2:∀q i,(bN ss)[q]?=some i→src (1+new.length+q)=i:=fun q i hq=>by
  have e2:¬(1+new.length+q<1+new.length):=by omega
  simp only[src,if_neg e2,aXE,hq,Option.getD_some]
 have frm:∀j o g ad,obs (start c.ps x) j=some o→γc j=some g→o.owns=true→g.a=some ad→(∃p g',obF (src j)=some p∧γ (src j)=some g'∧p.owns=true∧g'.a=some ad)∧(src j,Ob.gone)∈u ∧
   ((∃i,j=1+i∧js[i]?=some (some (src j)))∨∃q,j=1+new.length+q∧(bN ss)[q]?=some (src j)):=fun j o g ad hj hg ho ha=>by
  obtain⟨v0,hl⟩:=obj' j o hj;obtain⟨_,hh⟩:=obj j v0 o hl;rcases hh with⟨i,rfl,q2,g2,sr,q3,q4,q5⟩|⟨q,i,rfl,_,q2,q3,⟨p,q4,q5,q6⟩,q7⟩
  ·rw[c1 i q2,q3] at hg;injection hg with hg;subst hg;obtain⟨_,_,_,q6⟩:=q5;rcases q6 with q6|⟨kk,g',p,q6,q7,q8,q9,q10⟩
   ·rw[q6] at ha; cases ha
   ·subst q6;rw[src1 i kk q2 q4];refine⟨⟨p,g',q8,q7,q9,by rw[←q10]; exact ha⟩,vL ?_,.inl ⟨i,rfl,q4⟩⟩
    have:=aYH.2 (aXU q4)
    have:=r2 kk
    omega
  ·rw[c2,q2] at hg
   have hg:γ i=some g:=hg
   rw[src2 q i q2];refine⟨⟨p,g,q5,hg,q6,ha⟩,vL ?_,.inr ⟨q,rfl,q2⟩⟩
   have:=aYH.2 (aXU q2)
   have:=r2 i
   omega
 have hp2:=hH1.enter (γ2:=γc) (ob2:=obs (start c.ps x)) src (fun j o g hj hg=>by
   obtain⟨v0,hl⟩:=obj' j o hj;obtain⟨_,hh⟩:=obj j v0 o hl;rcases hh with⟨i,rfl,q2,g2,sr,q3,q4,q5⟩|⟨q,i,rfl,_,q2,q3,_,q7⟩
   ·rw[c1 i q2,q3] at hg;injection hg with hg;subst hg;exact q5.2.1 γc hAt
   ·rw[c2,q2] at hg;exact q7 g hg) (fun j o g ad hj hg ho ha=>(frm j o g ad hj hg ho ha).1) (fun i j o p g g' ad ad' a1 a2 a3 a4 a5 a6 a7 a8 hij e=>by
   have h1:=r2 (src j)
   have h2:=hcnt (src j)
   rcases(frm i o g ad a1 a3 a5 a7).2.2 with⟨kk,b1,b2⟩|⟨kk,b1,b2⟩<;>rcases(frm j p g' ad' a2 a4 a6 a8).2.2 with⟨k',d1,d2⟩|⟨k',d1,d2⟩
   ·rw[e] at b2
    have:=sE (by omega) b2 d2
    subst this;exact hij (by rw[b1,d1])
   ·rw[e] at b2
    have:=aYH.2 (aXU b2)
    have:=aYH.2 (aXU d2)
    omega
   ·rw[e] at b2
    have:=aYH.2 (aXU b2)
    have:=aYH.2 (aXU d2)
    omega
   ·rw[e] at b2
    by_cases hkk:kk=k'
    ·subst hkk; exact hij (by rw[b1,d1])
    ·exact absurd (sE (by omega) b2 d2) hkk)
 refine⟨K1,obF,γc,_,hK,hH1,hF,hFo,⟨by simp[hs2],fun y v sv hy=>?_,hp2,hG.mono hK,fun j g' hg=>?_,fun j e hj=>?_⟩,fun b hb=>?_,by rw[hN]; exact htq⟩
 ·rw[hst] at hy;obtain⟨q1,_,q3⟩:=p1 y v sv hy;exact⟨q1,by simpa using q3⟩
 ·rw[hst];show j<hvP c.ps+(new.length+(dL pc).length)+2∧g'.hv<hvP c.ps+(new.length+(dL pc).length)+2
  by_cases h0:j=0
  ·subst h0; simp[γc] at hg
  ·by_cases hj:j<1+new.length
   ·have e:j=1+(j-1):=by omega
    rw[e,c1 _ (by omega)] at hg;obtain⟨g2,sr,k1,k2,k3⟩:=mF r1 (j-1) _ (aXB (by omega));rw[k1] at hg;injection hg with hg;subst hg
    have:=k3.2.2.1
    omega
   ·have e:j=1+new.length+(j-(1+new.length)):=by omega
    rw[e,c2] at hg
    cases hq:(bN ss)[j-(1+new.length)]? with
    |none=>rw[hq] at hg; cases hg
    |some i =>
     rw[hq] at hg
     have hg:γ i=some g':=hg
     have hl:=(aW6.1 hq).1
     have ho:=aXB (show j-(1+new.length)<(dL pc).length by omega)
     obtain⟨i',q1,q2,_,q4⟩:=box hpc _ _ ho;rw[hq] at q1;injection q1 with q1;subst q1
     have h1:=YF (q4 g' hg) q2
     have h2:=vP c.ps (by have:=fF (tk:=1) (kdP c.ps) 0 x; rw[hup] at this; exact this) _ (aXU ho)
     omega
 ·rw[hst] at hj;obtain⟨v0,o⟩:=e;obtain⟨_,hh⟩:=obj j v0 o hj;rcases hh with⟨i,rfl,q2,g2,sr,q3,q4,q5⟩|⟨q,i,rfl,_,q2,q3,_,q7⟩
  ·exact⟨g2,by rw[c1 i q2]; exact q3⟩
  ·obtain⟨g3,q1⟩:=hvar i (aXU q2);exact⟨g3,by rw[c2,q2]; exact q1⟩
 ·obtain⟨j,o,g',ad,b1,b2,b3,b4,b5⟩:=hb;obtain⟨⟨p,g2,d1,d2,d3,d4⟩,d5,_⟩:=frm j o g' ad b1 b2 b3 b4;exact⟨src j,p,g2,ad,d1,d3,d2,d4,b5,d5⟩
end
end Go.W
end

section
namespace Go.W
open Go Go.RowKit
section
variable {E:Env} {g:Operand→SV} {ob:Obs} {tk:Nat} {o:Oper} {α:Type} {k:Out→Option α} {r:α}
theorem aIN{c:Con}{ss:List Src}{x:Vec (dK (kdP c.ps))}{y:Vec (dK (app c.rs (kdB c.ps)))}{u:Upd}(hu:UOk ob u)
  {w0:World} {K0:Kn} {H:Nat→Prop} {γ:Ghs} {ob1 obF:Obs} {K K1:Kn} {w w':World} {γc:Ghs} {Hc:Nat→Prop} {V:Value}
  (hK:K.le K1) (hH:Hp w0 K0 H γ obF K1 w) (hF:Fzd ob obF u) (hFo:∀j,(∀p∈u,p.2≠.gone→p.1≠j)→obF j=ob1 j)
  (hHc:∀b,Hc b→∃i p g ad,obF i=some p∧p.owns=true∧γ i=some g∧g.a=some ad∧ad.block=b∧(i,Ob.gone)∈u)
  (hγc:∀q j,(bN ss)[q]?=some j→γc (1+eE c.ps x+q)=γ j)
  (hγt:∀j,j∈bN ss→∃g,γ j=some g)
  (hfr:∀i,i<(aR tk (app c.rs (kdB c.ps)) 0 y).2.length→γ (tk+i)=none)
  (hB:aIL c.rs c.ps x y w K1 Hc γc V w' tk) :
  ∃γ3 K3,Step w0 K0 H γ ob1 K tk ⟨WN (CA c.rs (aR tk (app c.rs (kdB c.ps)) 0 y).1),(aR tk (app c.rs (kdB c.ps)) 0 y).2,app u (tF (WL ss) (aR tk (app c.rs (kdB c.ps)) 0 y).1)⟩ V γ3 K3 w':=by
 obtain⟨γf,obC,Kf,gs,js,hC,r1,hcnt,hbox,hval⟩:=hB;generalize aR tk (app c.rs (kdB c.ps)) 0 y=up at *;obtain⟨ps,new⟩:=up;simp only at *
 have hlen:=mE r1
 rw[bR,KM]
 let γ3:Ghs:=fun j=>if tk≤j∧j<tk+new.length then gs[j-tk]? else γ j
 have g1:∀i,i<new.length→γ3 (tk+i)=gs[i]?:=fun i hi=>by
  have:tk≤tk+i∧tk+i<tk+new.length:=by omega
  simp only[γ3,if_pos this,aXE]
 have g2:∀j g,γ j=some g→γ3 j=some g:=fun j g hg=>by
  have:¬(tk≤j∧j<tk+new.length):=fun hj=>by
   have:=hfr (j-tk) (by omega)
   rw[show tk+(j-tk)=j by omega,hg] at this;cases this
  simp only[γ3,if_neg this]; exact hg
 have g3:∀j g,γ3 j=some g→γ j=some g∨∃i,j=tk+i∧i<new.length∧gs[i]?=some g:=fun j g hg=>by
  by_cases hj:tk≤j∧j<tk+new.length
  ·simp only[γ3,if_pos hj] at hg; exact .inr ⟨j-tk,by omega,by omega,hg⟩
  ·simp only[γ3,if_neg hj] at hg; exact .inl hg
 have hgle:Ghs.le γ γ3:=fun j g hg=>⟨g,g2 j g hg,aZ0 _,fun _=>rfl⟩
 have hgets:aIK gs tk γ3:=fun kk g hk=>by
  have:kk<new.length:=by rw[←hlen.1]; exact(aW6.1 hk).1
  rw[aZS,g1 kk this]; exact hk
 have hKf:K1.le Kf:=hC.mono
 have g4:∀j g,γ3 j=some g→(∀i,i<new.length→j≠tk+i)→γ j=some g:=fun j g hg hne=>by
  rcases g3 j g hg with h|⟨i,e,hi,_⟩
  ·exact h
  ·exact absurd e (hne i hi)
 have hvar:∀(i j:Nat) (g:Gh),(bN ss)[i]?=some j→γ3 j=some g→γ j=some g:=fun i j g hi hg=>by
  obtain⟨g',hg'⟩:=hγt j (aXU hi)
  have:=g2 j g' hg'
  rw[this] at hg;injection hg with hg;subst hg;exact hg'
 -- what lies where it lay
 have still:∀j o g,obF j=some o→γ j=some g→(∀p∈u,p.1≠j)→o.owns=true→∀ad,g.a=some ad→(w'.heap[ad.block]?=w.heap[ad.block]?∧∀i,Kf ad.block i=K1 ad.block i)∧ad.block<w.heap.size∧¬Hc ad.block:=fun j o g hj hg hne ho ad ha=>by
  have hb:=((hH.ok j o g hj hg).block ho ha).1
  have hnc:¬Hc ad.block:=fun hc=>by
   obtain⟨i,p,g',ad',q1,q2,q3,q4,q5,q6⟩:=hHc _ hc;exact hH.sep i j p o g' g q1 hj q3 hg q2 ho (hne _ q6) ad' ad q4 ha q5
  exact⟨hC.blk _ hb hnc,hb,hnc⟩
 -- the objects, one by one
 have obj:∀j o g,jY tk new (eL (u++tF (bN ss) ps) ob1) j=some o→γ3 j=some g →
   eG γ3 Kf w' g o∧(o.owns=true→∀ad,g.a=some ad→(γ j=some g∧obF j=some o∧∀p∈u,p.1≠j) ∨
    ∃p cs g',obC cs=some p∧p.owns=true∧γf cs=some g'∧g'.a=some ad∧((∃i,j=tk+i∧js[i]?=some (some cs))∨∃i,(bN ss)[i]?=some j∧cs=1+eE c.ps x+i∧js.count (some cs)=0)):=fun j o g hj hg=>by
  rcases RK new hj with⟨i,e1,e2⟩|⟨hj,hne⟩
  ·subst e1;obtain⟨gg,sr,k1,k2,k3⟩:=mF r1 i o e2;rw[g1 i (aW6.1 e2).1,k1] at hg;injection hg with hg;subst hg;refine⟨k3.2.1 γ3 hgets,fun _ ad ha=>.inr ?_⟩;rcases k3.2.2.2 with q|⟨cs,g',p,q1,q2,q3,q4,q5⟩
   ·rw[q] at ha; cases ha
   ·subst q1;exact⟨p,cs,g',q3,q4,q2,by rw[←q5]; exact ha,.inl ⟨i,rfl,k2⟩⟩
  ·rcases RJ _ hj with hm|⟨hj,hnu⟩
   ·rcases aY4.1 hm with hm|hm
    ·by_cases hgo:o=.gone
     ·subst hgo;exact⟨True.intro,fun e=>by cases e⟩
     ·have hfo:=hF.frz _ hm hgo
      simp only at hfo
      have hown:o.owns=false:=by
       rcases hu _ hm with⟨e,_⟩|⟨h,t,xs,_,e⟩
       ·exact absurd e hgo
       ·simp only at e; subst e; rfl
      exact⟨(hH.ok j o g hfo (g4 j g hg hne)).mono hgle hKf (fun e=>by rw[hown] at e; cases e),fun e=>by rw[hown] at e; cases e⟩
    ·obtain⟨i,e1,e2⟩:=xW ps hm
     have hgj:=hvar i j g e1 hg
     obtain⟨b1,b2,⟨p,b3,b3'⟩,b4⟩:=hbox i o e2;rw[hγc i j e1,hgj] at b2;exact⟨b4 γ3 hgets g b2,fun _ ad ha=>.inr ⟨p,_,g,b3,b3',b2,ha,.inr ⟨i,e1,rfl,b1⟩⟩⟩
   ·have hnu':∀p∈u,p.1≠j:=fun p hp=>hnu p (aXZ _ hp)
    have hfo:obF j=some o:=by rw[hFo j fun p hp _=>hnu' p hp]; exact hj
    have hgj:=g4 j g hg hne
    exact⟨(hH.ok j o g hfo hgj).mono hgle hKf (fun ho ad ha=>(still j o g hfo hgj hnu' ho ad ha).1),fun _ _ _=>.inl ⟨hgj,hfo,hnu'⟩⟩
 -- where the call's objects lie
 have far:∀(cs:Nat) (p:Ob) (g':Gh) (ad:Addr),obC cs=some p→p.owns=true→γf cs=some g'→g'.a=some ad→w.heap.size≤ad.block∨Hc ad.block:=fun cs p g' ad h1 h2 h3 h4=>hC.own cs p g' h1 h3 h2 ad h4
 refine⟨γ3,Kf,hgle,hK.trans hKf,hval γ3 hgets,⟨?_,?_,?_,?_,?_,?_,hC.kok,fun j o g hj hg=>(obj j o g hj hg).1,?_,?_⟩,?_,?_⟩
 ·rw[hC.os,hH.os]
 ·rw[hC.tape,hH.tape]
 ·rw[hC.output,hH.output]
 ·exact aZR hH.size hC.size
 ·intro b hb hnH
  have hnc:¬Hc b:=fun hc=>by
   obtain⟨i,p,g',ad',q1,q2,q3,q4,q5,q6⟩:=hHc _ hc;rcases hH.own i p g' q1 q3 q2 ad' q4 with h|h
   ·omega
   ·rw[q5] at h; exact hnH h
  have h1:=hC.blk b (aYD hb hH.size) hnc
  have h2:=hH.blk b hb hnH
  exact⟨by rw[h1.1]; exact h2.1,fun o=>by rw[h1.2]; exact h2.2 o⟩
 ·exact hH.mono.trans hKf
 ·intro j o g hj hg ho ad ha;rcases(obj j o g hj hg).2 ho ad ha with⟨q1,q2,_⟩|⟨p,cs,g',q1,q2,q3,q4,_⟩
  ·exact hH.own j o g q2 q1 ho ad ha
  ·rcases far cs p g' ad q1 q2 q3 q4 with h|h
   ·exact .inl (aZR hH.size h)
   ·obtain⟨i,p2,g2',ad2,d1,d2,d3,d4,d5,_⟩:=hHc _ h;rw[←d5];exact hH.own i p2 g2' d1 d3 d2 ad2 d4
 ·intro i j o p g g' hi hj hgi hgj hoi hoj hij ad ad' ha ha' e;rcases(obj i o g hi hgi).2 hoi ad ha with⟨q1,q2,q3⟩|⟨p1,c1,g1',q1,q2,q3,q4,q5⟩<;>rcases(obj j p g' hj hgj).2 hoj ad' ha' with⟨d1,d2,d3⟩|⟨p2,c2,g2',d1,d2,d3,d4,d5⟩
  ·exact hH.sep i j o p g g' q2 d2 q1 d1 hoi hoj hij ad ad' ha ha' e
  ·obtain⟨_,s1,s2⟩:=still i o g q2 q1 q3 hoi ad ha;rcases far c2 p2 g2' ad' d1 d2 d3 d4 with h|h
   ·omega
   ·rw[←e] at h; exact s2 h
  ·obtain⟨_,s1,s2⟩:=still j p g' d2 d1 d3 hoj ad' ha';rcases far c1 p1 g1' ad q1 q2 q3 q4 with h|h
   ·omega
   ·rw[e] at h; exact s2 h
  ·refine hC.sep c1 c2 p1 p2 g1' g2' q1 d1 q3 d3 q2 d2 (fun ec=>?_) ad ad' q4 d4 e;subst ec;rcases q5 with⟨a1,a2,a3⟩|⟨a1,a2,a3,a4⟩<;>rcases d5 with⟨b1,b2,b3⟩|⟨b1,b2,b3,b4⟩
   ·have:=sE (hcnt c1) a3 b3
    subst this;exact hij (by rw[a2,b2])
   ·have:=aYH.2 (aXU a3)
    omega
   ·have:=aYH.2 (aXU b3)
    omega
   ·have:a1=b1:=by omega
    subst this;rw[a2] at b2;injection b2 with b2;exact hij b2
 ·intro j g' hg;rcases g3 j g' hg with h|⟨i,e1,e2,e3⟩
  ·exact .inl h
  ·obtain⟨gg,sr,k1,k2,k3⟩:=mF r1 i _ (aXB e2);rw[e3] at k1;injection k1 with k1;subst k1
   have hh:new.length=new.length:=rfl
   exact .inr ⟨Nat.le_of_eq k3.2.2.1,.inr ⟨by omega,by show j<tk+new.length; omega⟩⟩
 ·intro i hi
  have hi:i<new.length:=hi
  exact⟨gs[i]'(by rw[hlen.1]; exact hi),by rw[g1 i hi]; exact aXB _⟩
theorem RM{γ:Ghs}{K:Kn}:∀ {js:List Nat}{vs:List Value},nQ γ js vs→SVL γ K (aC4 js) vs
 | [],_,h=>h
 |_::_,_,⟨g,b,r,e,h1,h2,h3,h4⟩=>⟨_,r,e,⟨g,b,h1,h2,h3,rfl⟩,RM h4⟩
theorem S9{γ:Ghs}{K:Kn}:∀ {l m:List SV}{us vs:List Value},SVL γ K l us→SVL γ K m vs→SVL γ K (app l m) (us++vs)
 | [],_,_,_,h,h2=>by
  have h:_=[]:=h
  subst h;exact h2
 |_::_,_,_,_,⟨v,r,e,h1,h3⟩,h2=>by
  subst e;exact⟨v,r++_,rfl,h1,S9 h3 h2⟩
theorem aBA{γ:Ghs}{K:Kn}{v:SV}{V:Value}{f:Nat}{ex:List SV}(h:YC v f ex) (hr:aV γ K v V):∃vs,V=.func (.func f) #[] vs.toArray∧SVL γ K ex vs:=by
 rcases h with⟨rfl,rfl⟩|⟨js,rfl,rfl⟩
 ·exact⟨[],hr,rfl⟩
 ·obtain⟨vs,e,h⟩:=hr;exact⟨vs,e,RM h⟩
theorem aD3{c:Con}(hc:aH E c){c0:Call}{xf:Operand}{f:Nat}{ex:List SV}(ho:o.op=.call c0) (hcal:c0.callee=.value xf) (hx:YC (g xf) f ex) (hf:c.f=f) (h:aC2 ob tk c (app (eY g c0.args.toList) ex) k=some r) :
  ∃out,k out=some r∧bF E g ob tk o out:=by
 unfold aC2 at h
 split at h
 ·cases h
 ·rename_i ss has
  split at h
  ·rename_i x u hp
   split at h
   ·rename_i htv;simp only[aYS] at htv;obtain⟨hLf,h⟩:=xX _ _ h;unfold bnd at h;obtain⟨y,hy,h⟩:=Option.bind_eq_some_iff.1 h;refine⟨_,h,?_⟩;intro w0 K0 H γ ob1 K a w hr hle hH hG hfr _ h0 next Q hn
    obtain⟨xs,hfv,hxs⟩:=aBA hx (hr xf (by simp[ho,Op.operands,Call.operands,hcal]))
    have hargs:∀z∈c0.args.toList,aV γ K (g z) (a.eval z):=fun z hz=>hr z (by simp only[ho,Op.operands,Call.operands,hcal]; simp at hz ⊢; exact .inr hz)
    have hv:=S9 (RH c0.args.toList hargs) hxs
    obtain⟨K1,obF,γc,Hc,e1,e2,e3,e4,e5,e6,e7⟩:=aD2 has hp htv.1 hle hH hG hv hLf
    have htoks:=(iV c.ps has hv).2.2
    have hexec:(execOp a.eval o).run E.P w=(callFunc f (c0.args.toList.map a.eval++xs).toArray).run E.P w:=by
     have:(c0.args.toList.map a.eval++xs).toArray=c0.args.map a.eval++xs.toArray:=by apply aYW.1; simp
     rw[this];simp[execOp,ho,resolve,hcal,hfv,Deferred.ofValue,invoke]
    have hfin:∀V w',(∀tk,0<tk→aIL c.rs c.ps x y w K1 Hc γc V w' tk)→next (a.put o.dst V) w':=fun V w' hb=>by
     obtain⟨γ3,K3,hst⟩:=aIN (ss:=ss) (nX _ hp) e1 e2 e3 e4 e6 e7 (fun j hj=>htoks j (vO.2 hj)) hfr (hb tk h0);exact hn V γ3 K3 w' hst
    unfold Oper.wp;rw[hexec]
    have:=hc x y hy w K1 Hc γc _ e5
    rw[hf] at this;rcases this with⟨V,w',q1,q2⟩|⟨q1,q2⟩
    ·rw[q1];exact hfin V w' q2
    ·rw[q1,Oper.upon_enter];refine q2.mono fun e w' he=>?_
     cases e with
     |returned V=>exact hfin V w' he
     |panicked ch=>exact he.elim
     |outgrown=>exact he.elim
   ·cases h
  ·cases h
theorem YG{tab:List Con}(h:∀c∈tab,aH E c):jQ E tab:=by
 intro g ob tk o α k r c x f ex ho hcal hx hk
 induction tab with
 |nil=>cases hk
 |cons c1 tab ih =>
  simp only[QI] at hk
  cases hb:(Nat.beq c1.f f&&aC3 c1.ps (app (eY g c.args.toList) ex)) with
  |true =>
   rw[hb] at hk;simp only[aYS] at hb;exact aD3 (h c1 aYE) ho hcal hx (aXJ hb.1) hk
  |false =>
   rw[hb] at hk;exact ih (fun c hc=>h c (aXV _ hc)) hk
end
end Go.W
end

section
namespace Go.W
open Go Go.RowKit
def aIO(tm:Array Value):ResultVar→Sem Value
 | .tmp t=>pure (tm.getD t undef)
 | .cell b t=>do loadVar t (←asAddr (tm.getD b undef))
theorem YH(fn:Func) (tm:Array Value):results fn tm=(do let vs ←fn.results.mapM (aIO tm); pure (if h:vs.size=1 then vs[0] else .tuple vs)):=by
 unfold results;congr
def AW:List Value→Value
 | [v]=>v
 |vs=>.tuple vs.toArray
section
variable {E:Env} {N M:Nat} {w0:World} {K0:Kn} {H:Nat→Prop} {G:Ghs} {s:ASt} {γ:Ghs} {K:Kn} {a:Act} {w:World}
theorem aD4{T:Ty}{cs:List Cell}{vs:List Value}(h:bK γ K cs vs):bY γ K (VZ T cs) (vOf T vs):=by
 unfold VZ vOf
 split
 ·rename_i hT; rw[hT]; exact⟨vs,rfl,h⟩
 ·rename_i c hT;rw[hT];obtain⟨v,r,rfl,h1,_⟩:=h;exact h1
 ·exact True.intro
theorem T0(hE:EnvOk E) (hR:Rel E N w0 K0 H G s γ K a w):∀(l:List Kd) (xs:List ResultVar){ss:List Src},WR E s l xs=some ss→∃Vs,(List.mapM (aIO a.tmps) xs).run E.P w=.ok Vs w∧xU γ K ss Vs∧bN ss=[]∧ss.length=l.length
 | [],[],ss,h=>by
  simp only[WR,Option.some.injEq] at h;subst h;exact⟨[],by simp,rfl,rfl,rfl⟩
 | [],_::_,ss,h=>by simp[WR] at h
 |_::_,[],ss,h=>by simp[WR] at h
 |k::l,x::xs,ss,h=>by
  simp only[WR] at h
  split at h
  ·rename_i r rs hr hrs;injection h with h;subst h;obtain⟨Vs,i1,i2,i3,i4⟩:=T0 hE hR l xs hrs
   have key:∃v V,r=.val v∧(aIO a.tmps x).run E.P w=.ok V w∧bY γ K v V:=by
    unfold aPS at hr
    split at hr
    ·rename_i t
     split at hr
     ·rename_i vv v hl;injection hr with hr;exact⟨v,_,hr.symm,rfl,(hR.slots t _ _ hl).2⟩
     ·cases hr
    ·rename_i t ty
     split at hr
     ·rename_i vv j hl
      split at hr
      ·rename_i vb tib cs T hb hT;obtain⟨hc,hr⟩:=lO (r:=none) hr;injection hr with hr;simp only[aYS] at hc
       have hTk:=gC hc.1.1
       have hlen:=aXJ hc.1.2
       rw[cR] at hlen
       have hs:=(hR.slots t _ _ hl).2
       obtain⟨g',b,k1,k2,k3,k4⟩:=hs
       have hob:obs s j=some (.box tib cs):=by unfold obs; rw[hb]
       obtain⟨b',vs,q0,q1,⟨us,q2,qs⟩,q3,_⟩:=hR.hp.ok j _ g' hob k1
       have:=qs.all q3 hc.2
       subst this;rw[k3] at q1;injection q1 with q1;injection q1 with q1;subst q1
       have hvl:=cM q3
       have hload:=CJ hE hT (w:=w) (ad:=⟨b,0,none⟩) (vs:=us) (fun i u hu=>by
        rw[add_lit,iS q2]; simpa using hu) (by omega)
       refine⟨_,vOf T us,hr.symm,?_,by rw[←hTk]; exact aD4 q3⟩
       have h4:(asAddr (a.tmps.getD t undef)).run E.P w=.ok ⟨b,0,none⟩ w:=by rw[k4]; rfl
       simp only[aIO,aZU,h4,aYM,hload]
      ·cases hr
     ·cases hr
   obtain⟨v,V,rfl,q1,q2⟩:=key;refine⟨V::Vs,?_,⟨V,Vs,rfl,q2,i2⟩,i3,by simp[i4]⟩;simp only[List.mapM_cons,aZU,q1,aYM,i1,aZT]
  ·cases h
theorem T7:∀(os:List Ob) (n i:Nat){ob:Obs}{j:Nat}{o:Ob},j=n+i→os[i]?=some o→jY n os ob j=some o
 | [],n,i,ob,j,o,_,h=>by simp at h
 |x::os,n,0,ob,j,o,e,h=>by
  simp only[aXD,Option.some.injEq] at h;subst h;show jY (n+1) os (cH ob n x) j=some x;rw[R7 os (n+1) _ j (by omega)];rw[show j=n by omega]; exact aK _ _ _
 |x::os,n,i+1,ob,j,o,e,h=>T7 os (n+1) i (by omega) (by simpa using h)
theorem RN{γ:Ghs}{K:Kn}:∀ {a b:List Src}{u v:List Value},xU γ K a u→xU γ K b v→xU γ K (a++b) (u++v)
 | [],_,_,_,h1,h2=>by cases h1; exact h2
 |_::_,_,_,_,⟨x,r,e,h1,h2⟩,h3=>by subst e; exact⟨x,r++_,rfl,h1,RN h2 h3⟩
theorem gE{γ:Ghs}{K:Kn}:∀(ps:List PK) (b:Nat),∃vs,xU γ K (iE ps b) vs
 | [],_=>⟨[],rfl⟩
 | .k (.v _ _)::l,b=>gE l b
 | .k (.b _ _ _)::l,b=>by obtain⟨vs,h⟩:=gE l (b+1); exact⟨undef::vs,undef,vs,rfl,True.intro,h⟩
 | .k (.m _ _)::l,b=>by obtain⟨vs,h⟩:=gE l (b+1); exact⟨undef::vs,undef,vs,rfl,True.intro,h⟩
 | .k (.r _ _)::l,b=>by obtain⟨vs,h⟩:=gE l (b+1); exact⟨undef::vs,undef,vs,rfl,True.intro,h⟩
 | .k (.d _ _)::l,b=>by obtain⟨vs,h⟩:=gE l (b+1); exact⟨undef::vs,undef,vs,rfl,True.intro,h⟩
 | .k (.l _ _)::l,b=>by obtain⟨vs,h⟩:=gE l (b+1); exact⟨undef::vs,undef,vs,rfl,True.intro,h⟩
 | .k .i::l,b=>gE l (b+1)
 | .fn _::l,b=>gE l b
theorem iM:∀(ps:List PK) (b:Nat),noR ps=true→∀(i j:Nat),(bN (iE ps b))[i]?=some j→j=b+i
 | [],_,_,i,j,h=>by simp[iE,bN] at h
 | .k (.v _ _)::l,b,hn,i,j,h=>iM l b hn i j h
 | .k (.b _ _ _)::l,b,hn,0,j,h=>by simp only[iE,bN,aXD,Option.some.injEq] at h; omega
 | .k (.b _ _ _)::l,b,hn,i+1,j,h=>by
  have:=iM l (b+1) hn i j (by simpa [iE,bN] using h)
  omega
 | .k (.m _ _)::l,b,hn,0,j,h=>by simp only[iE,bN,aXD,Option.some.injEq] at h; omega
 | .k (.m _ _)::l,b,hn,i+1,j,h=>by
  have:=iM l (b+1) hn i j (by simpa [iE,bN] using h)
  omega
 | .k (.r _ _)::l,b,hn,0,j,h=>by simp only[iE,bN,aXD,Option.some.injEq] at h; omega
 | .k (.r _ _)::l,b,hn,i+1,j,h=>by
  have:=iM l (b+1) hn i j (by simpa [iE,bN] using h)
  omega
 | .k (.d _ _)::l,b,hn,0,j,h=>by simp only[iE,bN,aXD,Option.some.injEq] at h; omega
 | .k (.d _ _)::l,b,hn,i+1,j,h=>by
  have:=iM l (b+1) hn i j (by simpa [iE,bN] using h)
  omega
 | .k (.l _ _)::l,b,hn,0,j,h=>by simp only[iE,bN,aXD,Option.some.injEq] at h; omega
 | .k (.l _ _)::l,b,hn,i+1,j,h=>by
  have:=iM l (b+1) hn i j (by simpa [iE,bN] using h)
  omega
 | .k .i::l,b,hn,i,j,h=>by cases hn
 | .fn _::l,b,hn,i,j,h=>iM l b hn i j h
theorem DF:∀(a b:List Src),bN (a++b)=bN a++bN b
 | [],_=>rfl
 | .tok j::a,b=>by simp only[aYT,bN,DF a b]
 | .val v::a,b=>by simp only[aYT,bN,DF a b]
theorem T8{γ2:Ghs}{ob obF:Obs}:∀ {ss:List Src}{vs:List Value}{pc:List Piece},PcL γ γ2 ob obF K w ss vs pc→∀(q:Nat) (o:Ob),(dL pc)[q]?=some o→∃j,(bN ss)[q]?=some j∧o.owns=true∧(∃p,ob j=some p∧obF j=some p∧p.owns=true)∧∀g,γ j=some g→eG γ2 K w g o:=by
 intro ss
 induction ss with
 |nil=>intro vs pc h q o ho; have h:pc=[]:=h; subst h; simp[dL] at ho
 |cons s ss ih =>
  intro vs pc h q o ho;obtain⟨v,vr,p,pr,e1,e2,h1,h2⟩:=h;subst e1; subst e2
  cases s with
  |val v' =>
   cases p with
   |ob o=>exact absurd h1 (by simp[vM])
   |val v''=>exact ih h2 q o ho
  |tok j =>
   cases p with
   |val v''=>exact absurd h1 (by simp[vM])
   |ob o' =>
    cases q with
    |zero =>
     simp only[dL,aXD,Option.some.injEq] at ho;subst ho;exact⟨j,rfl,h1⟩
    |succ q =>
     obtain⟨j',q1,q2⟩:=ih h2 q o (by simpa [dL] using ho);exact⟨j',by simpa [bN] using q1,q2⟩
theorem RO{γ2:Ghs}{ob obF:Obs}:∀(rs:List Kd){ss tl:List Src}{Vs Vt:List Value}{ps:List Piece},QH rs=true→ss.length=rs.length→bN ss=[]→xU γ K ss Vs→PcL γ γ2 ob obF K w (ss++tl) (Vs++Vt) ps→nR γ2 K (CA rs ps) Vs
 | [],ss,tl,Vs,Vt,ps,ho,hl,ht,hs,hp=>by
  have:ss=[]:=aWZ hl
  subst this
  have hs:Vs=[]:=hs
  subst hs;cases ps<;>rfl
 | .v t m::rs,ss,tl,Vs,Vt,ps,ho,hl,ht,hs,hp=>by
  cases ss with
  |nil=>simp at hl
  |cons s ss =>
   obtain⟨V,Vr,rfl,hs1,hs2⟩:=hs;obtain⟨V',Vr',p,pr,e1,rfl,hp1,hp2⟩:=hp;injection e1 with e1 e2;subst e1; subst e2
   cases s with
   |tok j=>simp[bN] at ht
   |val v =>
    cases p with
    |ob o=>exact absurd hp1 (by simp[vM])
    |val v'=>exact⟨V,Vr,rfl,hp1,RO (ss:=ss) rs ho (by simpa using hl) ht hs2 hp2⟩
 | .b _ t m::rs,ss,tl,Vs,Vt,ps,ho,hl,ht,hs,hp=>by cases ho
 | .r t m::rs,ss,tl,Vs,Vt,ps,ho,hl,ht,hs,hp=>by cases ho
 | .d t m::rs,ss,tl,Vs,Vt,ps,ho,hl,ht,hs,hp=>by cases ho
 | .l t m::rs,ss,tl,Vs,Vt,ps,ho,hl,ht,hs,hp=>by cases ho
 | .i::rs,ss,tl,Vs,Vt,ps,ho,hl,ht,hs,hp=>by cases ho
 | .m _ _::rs,ss,tl,Vs,Vt,ps,ho,hl,ht,hs,hp=>by cases ho
def vR:List PK→List Nat
 | .k (.b _ _ _)::l=>0::vR l
 | .k (.m _ _)::l=>0::vR l
 | .k (.r h _)::l=>h::vR l
 | .k (.d _ _)::l=>0::vR l
 | .k (.l h _)::l=>h::vR l
 |_::l=>vR l
 | []=>[]
theorem mZ:∀(ps:List PK){pc:List Piece}(i0 b b':Nat),noR ps=true→xV (kdP ps) pc→∀(i j:Nat),(bN (iE ps b))[i]?=some j→∃o,(inP ps pc i0 b').2[i]?=some o∧o.owns=true∧(vR ps)[i]?=some o.ver
 | [],pc,i0,b,b',_,_,i,j,h=>by simp[iE,bN] at h
 | .k (.v t m)::l,pc,i0,b,b',hn,hp,i,j,h=>by
  obtain⟨p,pr,rfl,h1,h2⟩:=hp
  cases p with
  |ob o=>exact absurd h1 (by simp[PcK])
  |val v=>exact mZ l (i0+1) b b' hn h2 i j h
 | .k (.b ti t m)::l,pc,i0,b,b',hn,hp,i,j,h=>by
  obtain⟨p,pr,rfl,h1,h2⟩:=hp
  cases p with
  |val v=>exact absurd h1 (by simp[PcK])
  |ob o =>
   cases o with
   |box ti' cs =>
    show ∃o,(Ob.box ti' cs::(inP l pr (i0+1) (b'+1)).2)[i]?=some o∧o.owns=true∧(0::vR l)[i]?=some o.ver
    cases i with
    |zero=>exact⟨_,rfl,rfl,rfl⟩
    |succ i =>
     simp only[aXC];exact mZ l (i0+1) (b+1) (b'+1) hn h2 i j (by simpa [iE,bN] using h)
   |_=>exact absurd h1 (by simp[PcK])
 | .k (.m kt vt)::l,pc,i0,b,b',hn,hp,i,j,h=>by
  obtain⟨p,pr,rfl,h1,h2⟩:=hp
  cases p with
  |val v=>exact absurd h1 (by simp[PcK])
  |ob o =>
   cases o with
   |map K V es =>
    show ∃o,(Ob.map K V es::(inP l pr (i0+1) (b'+1)).2)[i]?=some o∧o.owns=true∧(0::vR l)[i]?=some o.ver
    cases i with
    |zero=>exact⟨_,rfl,rfl,rfl⟩
    |succ i =>
     simp only[aXC];exact mZ l (i0+1) (b+1) (b'+1) hn h2 i j (by simpa [iE,bN] using h)
   |_=>exact absurd h1 (by simp[PcK])
 | .k (.r hh e)::l,pc,i0,b,b',hn,hp,i,j,h=>by
  obtain⟨p,pr,rfl,h1,h2⟩:=hp
  cases p with
  |val v=>exact absurd h1 (by simp[PcK])
  |ob o =>
   cases o with
   |row h' e' xs =>
    have h1:h'=hh:=h1
    subst h1;show ∃o,(Ob.row h' e' xs::(inP l pr (i0+1) (b'+1)).2)[i]?=some o∧o.owns=true∧(h'::vR l)[i]?=some o.ver
    cases i with
    |zero=>exact⟨_,rfl,rfl,rfl⟩
    |succ i =>
     simp only[aXC];exact mZ l (i0+1) (b+1) (b'+1) hn h2 i j (by simpa [iE,bN] using h)
   |_=>exact absurd h1 (by simp[PcK])
 | .k (.d ti t)::l,pc,i0,b,b',hn,hp,i,j,h=>by
  obtain⟨p,pr,rfl,h1,h2⟩:=hp
  cases p with
  |val v=>exact absurd h1 (by simp[PcK])
  |ob o =>
   cases o with
   |box ti' cs =>
    show ∃o,(Ob.box ti' cs::(inP l pr (i0+1) (b'+1)).2)[i]?=some o∧o.owns=true∧(0::vR l)[i]?=some o.ver
    cases i with
    |zero=>exact⟨_,rfl,rfl,rfl⟩
    |succ i =>
     simp only[aXC];exact mZ l (i0+1) (b+1) (b'+1) hn h2 i j (by simpa [iE,bN] using h)
   |_=>exact absurd h1 (by simp[PcK])
 | .k (.l hh e)::l,pc,i0,b,b',hn,hp,i,j,h=>by
  obtain⟨p,pr,rfl,h1,h2⟩:=hp
  cases p with
  |val v=>exact absurd h1 (by simp[PcK])
  |ob o =>
   cases o with
   |opn h' e' xs cs =>
    have h1:h'=hh:=h1
    subst h1;show ∃o,(Ob.opn h' e' xs cs::(inP l pr (i0+1) (b'+1)).2)[i]?=some o∧o.owns=true∧(h'::vR l)[i]?=some o.ver
    cases i with
    |zero=>exact⟨_,rfl,rfl,rfl⟩
    |succ i =>
     simp only[aXC];exact mZ l (i0+1) (b+1) (b'+1) hn h2 i j (by simpa [iE,bN] using h)
   |_=>exact absurd h1 (by simp[PcK])
 | .k .i::l,pc,i0,b,b',hn,hp,i,j,h=>by cases hn
 | .fn f::l,pc,i0,b,b',hn,hp,i,j,h=>mZ l (i0+1) b b' hn hp i j h
theorem gF:∀(ps:List PK){pc:List Piece},xV (kdB ps) pc→∀(i:Nat) (o:Ob),(dL pc)[i]?=some o→(vR ps)[i]?=some o.ver
 | [],pc,h,i,o,ho=>by
  have h:pc=[]:=h
  subst h; simp[dL] at ho
 | .k (.v t m)::l,pc,h,i,o,ho=>gF l h i o ho
 | .k (.b ti t m)::l,pc,h,i,o,ho=>by
  obtain⟨p,pr,rfl,h1,h2⟩:=h
  cases p with
  |val v=>exact absurd h1 (by simp[PcK])
  |ob o' =>
   cases i with
   |zero =>
    simp only[dL,aXD,Option.some.injEq] at ho;subst ho;cases o'<;>first|rfl|exact absurd h1 (by simp[PcK])
   |succ i=>exact gF l h2 i o (by simpa [dL] using ho)
 | .k (.m kt vt)::l,pc,h,i,o,ho=>by
  obtain⟨p,pr,rfl,h1,h2⟩:=h
  cases p with
  |val v=>exact absurd h1 (by simp[PcK])
  |ob o' =>
   cases i with
   |zero =>
    simp only[dL,aXD,Option.some.injEq] at ho;subst ho;cases o'<;>first|rfl|exact absurd h1 (by simp[PcK])
   |succ i=>exact gF l h2 i o (by simpa [dL] using ho)
 | .k (.r hh e)::l,pc,h,i,o,ho=>by
  obtain⟨p,pr,rfl,h1,h2⟩:=h
  cases p with
  |val v=>exact absurd h1 (by simp[PcK])
  |ob o' =>
   cases i with
   |zero =>
    simp only[dL,aXD,Option.some.injEq] at ho;subst ho
    cases o' with
    |row h' e' xs =>
     have h1:h'=hh:=h1
     subst h1;rfl
    |_=>exact absurd h1 (by simp[PcK])
   |succ i=>exact gF l h2 i o (by simpa [dL] using ho)
 | .k (.d ti t)::l,pc,h,i,o,ho=>by
  obtain⟨p,pr,rfl,h1,h2⟩:=h
  cases p with
  |val v=>exact absurd h1 (by simp[PcK])
  |ob o' =>
   cases i with
   |zero =>
    simp only[dL,aXD,Option.some.injEq] at ho;subst ho;cases o'<;>first|rfl|exact absurd h1 (by simp[PcK])
   |succ i=>exact gF l h2 i o (by simpa [dL] using ho)
 | .k (.l hh e)::l,pc,h,i,o,ho=>by
  obtain⟨p,pr,rfl,h1,h2⟩:=h
  cases p with
  |val v=>exact absurd h1 (by simp[PcK])
  |ob o' =>
   cases i with
   |zero =>
    simp only[dL,aXD,Option.some.injEq] at ho;subst ho
    cases o' with
    |opn h' e' xs cs =>
     have h1:h'=hh:=h1
     subst h1;rfl
    |_=>exact absurd h1 (by simp[PcK])
   |succ i=>exact gF l h2 i o (by simpa [dL] using ho)
 | .k .i::l,pc,h,i,o,ho=>gF l h i o ho
 | .fn f::l,pc,h,i,o,ho=>gF l h i o ho
theorem RP(ps:List PK):∀(rs:List Kd){pc:List Piece},QH rs=true→xV (app rs (kdB ps)) pc→∀(i:Nat) (o:Ob),(dL pc)[i]?=some o→(vR ps)[i]?=some o.ver
 | [],pc,_,h,i,o,ho=>gF ps h i o ho
 | .v t m::rs,pc,hv,h,i,o,ho=>by
  obtain⟨p,pr,rfl,h1,h2⟩:=h
  cases p with
  |ob o'=>exact absurd h1 (by simp[PcK])
  |val v=>exact RP ps rs hv h2 i o ho
 | .b _ t m::rs,pc,hv,h,i,o,ho=>by cases hv
 | .r t m::rs,pc,hv,h,i,o,ho=>by cases hv
 | .d t m::rs,pc,hv,h,i,o,ho=>by cases hv
 | .l t m::rs,pc,hv,h,i,o,ho=>by cases hv
 | .i::rs,pc,hv,h,i,o,ho=>by cases hv
 | .m _ _::rs,pc,hv,h,i,o,ho=>by cases hv
theorem aD5{γ:Ghs}{K:Kn}{l:List Val}{Vs:List Value}(h:nR γ K l Vs):aV γ K (WN l) (AW Vs):=by
 unfold WN
 split
 ·obtain⟨v,r,rfl,h1,h2⟩:=h
  have h2:r=[]:=h2
  subst h2;exact h1
 ·rename_i hne;refine⟨Vs,?_,h⟩;unfold AW
  split
  ·rename_i V
   cases l with
   |nil=>have h:[V]=[]:=h; cases h
   |cons v l =>
    obtain⟨v',r,e,h1,h2⟩:=h;injection e with e1 e2;subst e2
    cases l with
    |nil=>exact absurd rfl (hne v)
    |cons v2 l=>obtain⟨_,_,e,_⟩:=h2; cases e
  ·rfl
theorem aD6(hE:EnvOk E){tab:List Con}(htab:jQ E tab) (hD:KK E tab){f:Nat}{fn:Func}(hf:E.P.funcs[f]?=some fn) (hname:(fn.name == "runtime.NumGoroutine")=false) (an:Ann) (ps:List PK) (rs:List Kd) :
  aH E ⟨f,ps,rs,aN E tab M fn an ps rs⟩:=by
 intro x r h w K H γ args hEnt
 have h:aN E tab M fn an ps rs x=some r:=h
 unfold aN at h
 split at h
 ·cases h
 ·rename_i c hb;obtain⟨hc,h⟩:=lO (r:=none) h;simp only[aYS] at hc;obtain⟨⟨⟨hc1,hc2⟩,hc3⟩,hc4⟩:=hc
  have hc2:=aXL hc2
  rw[cR] at hc2;rw[fY] at h
  have hsz:args.size=ps.length:=hEnt.size
  have hstart:=vQ ps x
  right;refine⟨?_,?_⟩
  ·have hnone:fn.body.isNone=false:=by rw[hb]; rfl
   unfold callFunc;simp only[program,aZU,Sem.run,aYM,hf,hname,hnone,aYF,if_false];simp
  ·refine calls_of_wp hf hb (aIJ (N:=fn.ntmps) (w0:=w) (K0:=K) (H:=H) (G:=γ) hE htab hD c none an h hc1 (γ:=γ) (K:=K) ?_ ?_)
   ·refine⟨by simp; omega,rfl,fun y v sv hy=>?_,hEnt.hp,hEnt.glob,hEnt.tok,fun j v o hj=>?_,hEnt.all,Ghs.le.refl γ,by rw[hstart]; simp⟩
    ·obtain⟨q1,q2⟩:=hEnt.slots y v sv hy;refine⟨by rw[hstart]; simp; omega,?_⟩
     have:(args++Array.replicate (fn.ntmps-args.size) undef).getD y undef=args.getD y undef:=by
      simp only[aW2]
      by_cases hy:y<args.size
      ·rw[Array.getElem?_append_left hy]
      ·rw[Array.getElem?_append_right (by omega),Array.getElem?_eq_none (show args.size≤y by omega)];rw[Array.getElem?_replicate]
       split<;>rfl
     rw[this];exact q2
    ·have hj':=hj
     rw[hstart] at hj';obtain⟨i,e1,e2,e3⟩:=mY _ _ _ _ _ hj'
     have hl:=(aW6.1 e2).1
     rw[aYA] at hl;simp only at e3
     have hrn:eE ps x=(aR 1 (kdP ps) 0 x).2.length:=rfl
     rw[hstart];show v<_+(_+_)+2∧j<_+(_+_)+2;omega
   ·intro e s γ' K' a' w' hk hx hR
    cases e with
    |brk i=>cases hk
    |go i=>cases hk
    |_ =>
     simp only at hk
     split at hk
     ·rename_i ss hss
      split at hk
      ·rename_i y u hp;obtain⟨ht,hk⟩:=lO (r:=none) hk;injection hk with hk;subst hk;obtain⟨Vs,v1,v2,v3,v4⟩:=T0 hE hR rs _ hss;refine⟨hR.defers,AW Vs,?_,fun tk h0=>?_⟩
       ·rw[YH,Array.mapM_eq_mapM_toList];simp only[aZU,Sem.run_map,v1,aYM,aZT];congr 1
        match Vs with
        | []=>rfl
        | [v]=>rfl
        |v::u::r=>simp[AW]
       ·rw[bR ss,cR] at hp;obtain⟨Vt,hVt⟩:=gE (γ:=γ') (K:=K') ps (1+(aR 1 (kdP ps) 0 x).2.length);obtain⟨K2,obF,hle,hH,hF,_⟩:=hR.hp.fzd (fun _ _ h=>h) (nX _ hp) ht
        have hsrc:=(RN v2 hVt).mono hle
        obtain⟨gs,js,r1,r2,r3⟩:=vN (tk:=tk) hH hF h0 (app rs (kdB ps)) (fun j p _ hj=>by
         unfold obs at hj
         split at hj
         ·rename_i v0 o0 hl; exact hR.all j _ hl
         ·cases hj) hp (fun p hp=>hp) hsrc rfl
        have hcnt:=(nY ht).1
        have htk:bN (ss++iE ps (1+(aR 1 (kdP ps) 0 x).2.length))=bN (iE ps (1+(aR 1 (kdP ps) 0 x).2.length)):=by rw[DF,v3]; rfl
        refine⟨γ',obF,K2,gs,js,hH,r1,fun j=>?_,fun i o ho=>?_,fun γ2 hg=>?_⟩
        ·have:=r2 j
         have:=hcnt j
         omega
        ·
         have hany:∀γ2,aIK gs tk γ2→∃j,j=1+eE ps x+i∧(bN (iE ps (1+(aR 1 (kdP ps) 0 x).2.length)))[i]?=some j∧(∃p,obs s j=some p∧obF j=some p∧p.owns=true)∧∀g,γ' j=some g→eG γ2 K2 w' g o:=fun γ2 hg=>by
          obtain⟨j,q1,_,q2,q3⟩:=T8 (r3 γ2 hg) i o ho;rw[htk] at q1;exact⟨j,iM ps _ hc3 i j q1,q1,q2,q3⟩
         have hlen:=mE r1
         obtain⟨j,rfl,q1,⟨p,q2,q3,q4⟩,_⟩:=hany (fun j=>gs[j-tk]?) (fun kk g hk=>by
          show gs[tk+(0+kk)-tk]?=some g;rw[show tk+(0+kk)-tk=kk by omega]; exact hk)
         refine⟨?_,?_,⟨p,q3,q4⟩,fun γ2 hg g hgg=>?_⟩
         ·have h1:=r2 (1+eE ps x+i)
          have h2:=hcnt (1+eE ps x+i)
          have h3:=aYH.2 (aXU q1)
          rw[htk] at h1;show js.count (some (1+eE ps x+i))=0;omega
         ·
          obtain⟨obx,hbx,hbo,hbv⟩:=mZ ps 0 _ (1+eE ps x) hc3 (fF (tk:=1) (kdP ps) 0 x) i _ q1
          have hst:obs (start ps x) (1+eE ps x+i)=some obx:=by
           rw[YD,hstart];show nU (app [] (jV 0 1 _)) _=_;rw[vH 0 _ 1 [] (fun j e hj=>by simp[lk] at hj)];refine T7 _ _ (eE ps x+i) (by omega) ?_;rw[aW5 (by unfold eE; omega),show eE ps x+i-(aR 1 (kdP ps) 0 x).2.length=i by unfold eE; omega];exact hbx
          obtain⟨g,hg⟩:∃g,γ (1+eE ps x+i)=some g:=by
           unfold obs at hst
           split at hst
           ·rename_i v0 o0 hl; exact hEnt.all _ _ hl
           ·cases hst
          have h0':=YF (hEnt.hp.ok _ _ g hst hg) hbo
          obtain⟨g',hg',_,heq⟩:=hR.fix (1+eE ps x+i) g hg
          have hov:=RP ps rs hc4 (fF (tk:=tk) (app rs (kdB ps)) 0 _) i o ho
          obtain⟨j2,e2,_,_,q5⟩:=hany (fun j=>gs[j-tk]?) (fun kk g hk=>by
           show gs[tk+(0+kk)-tk]?=some g;rw[show tk+(0+kk)-tk=kk by omega]; exact hk)
          subst e2
          have hoo:o.owns=true:=by
           obtain⟨_,_,k2,_⟩:=T8 (r3 (fun j=>gs[j-tk]?) (fun kk g hk=>by
            show gs[tk+(0+kk)-tk]?=some g;rw[show tk+(0+kk)-tk=kk by omega]; exact hk)) i o ho
           exact k2
          have h1':=YF (q5 g' hg') hoo
          rw[hbv] at hov;injection hov with hov;rw[heq (.inl (by omega))] at hg';rw[hg',hg]
         ·obtain⟨j,rfl,_,_,q⟩:=hany γ2 hg;exact q g hgg
        ·have hpv:=r3 γ2 hg
         exact aD5 (RO rs hc4 v4 v3 (v2.mono hle) hpv)
      ·cases hk
     ·cases hk
end
end Go.W
end

section
namespace Go.W
open Go Go.RowKit
structure Rc where
 o:Oper
 out:Out
 tk:Nat
 T:List Nat
abbrev SF:=Nat→Option SV
def stepS(S:SF) (r:Rc):SF:=match r.o.dst with
 |some d=>cH S d r.out.sv
 |none=>S
def stepO(O:Obs) (r:Rc):Obs:=jY r.tk r.out.new (eL r.out.upd O)
def qN:List (Nat×Rc)→SF→SF
 | [],S=>S
 |p::l,S=>qN l (stepS S p.2)
def qO:List (Nat×Rc)→Obs→Obs
 | [],O=>O
 |p::l,O=>qO l (stepO O p.2)
def Rc.wr(x:Nat) (r:Rc):Bool:=r.o.dst==some x
def Rc.touch(j:Nat) (r:Rc):Bool:=lU j (QJ r.tk r.out)
theorem aBB{S S':SF}{x:Nat}(h:S x=S' x) (r:Rc):stepS S r x=stepS S' r x:=by
 cases hd:r.o.dst with
 |none=>simpa only[stepS,hd] using h
 |some d =>
  simp only[stepS,hd,cH]
  split
  ·rfl
  ·exact h
theorem RQ{S:SF}{x:Nat}{r:Rc}(h:r.wr x=false):stepS S r x=S x:=by
 unfold Rc.wr at h
 cases hd:r.o.dst with
 |none=>simp only[stepS,hd]
 |some d =>
  simp only[stepS,hd];refine bC _ _ fun e=>?_
  subst e;rw[hd] at h;simp at h
theorem aD7{S S':SF}{x:Nat}{r:Rc}(h:r.wr x=true):stepS S r x=stepS S' r x:=by
 unfold Rc.wr at h
 cases hd:r.o.dst with
 |none=>rw[hd] at h; simp at h
 |some d =>
  rw[hd] at h
  have:d=x:=by simpa using h
  subst this;simp only[stepS,hd,aK]
theorem DG:∀(u:Upd){O O':Obs}{j:Nat},O j=O' j→eL u O j=eL u O' j
 | [],_,_,_,h=>h
 |(i,o)::u,O,O',j,h=>DG u (by unfold cH; split; rfl; exact h)
theorem vS:∀(os:List Ob) (n:Nat){O O':Obs}{j:Nat},O j=O' j→jY n os O j=jY n os O' j
 | [],_,_,_,_,h=>h
 |o::os,n,O,O',j,h=>vS os (n+1) (by unfold cH; split; rfl; exact h)
theorem T9:∀(u:Upd){O:Obs}{j:Nat},(∀p∈u,p.1≠j)→eL u O j=O j
 | [],_,_,_=>rfl
 |(i,o)::u,O,j,h=>by
  show eL u (cH O i o) j=O j;rw[T9 u fun p hp=>h p (aXV _ hp),bC];exact fun e=>h (i,o) aYE e.symm
theorem U0:∀(u:Upd){O O':Obs}{j:Nat},(∃p∈u,p.1=j)→eL u O j=eL u O' j
 | [],_,_,_,⟨p,hp,_⟩=>by cases hp
 |(i,o)::u,O,O',j,⟨p,hp,e⟩=>by
  show eL u (cH O i o) j=eL u (cH O' i o) j
  by_cases hij:j=i
  ·subst hij; exact DG u (by rw[aK,aK])
  ·refine U0 u ⟨p,?_,e⟩;rcases aZL.1 hp with rfl|hp
   ·exact absurd e.symm hij
   ·exact hp
theorem U1:∀(os:List Ob) (n:Nat){O:Obs}{j:Nat},(∀i,i<os.length→j≠n+i)→jY n os O j=O j
 | [],_,_,_,_=>rfl
 |o::os,n,O,j,h=>by
  show jY (n+1) os (cH O n o) j=O j;rw[U1 os (n+1) fun i hi e=>h (i+1) (by simp; omega) (by omega),bC];exact fun e=>h 0 (by simp) (by omega)
theorem U2:∀(os:List Ob) (n:Nat){O O':Obs}{j:Nat},(∃i,i<os.length∧j=n+i)→jY n os O j=jY n os O' j
 | [],_,_,_,_,⟨i,hi,_⟩=>absurd hi (aY6 i)
 |o::os,n,O,O',j,⟨i,hi,e⟩=>by
  show jY (n+1) os (cH O n o) j=jY (n+1) os (cH O' n o) j
  by_cases hij:j=n
  ·subst hij; exact vS os _ (by rw[aK,aK])
  ·exact U2 os (n+1) ⟨i-1,by simp at hi; omega,by omega⟩
theorem RR{j:Nat}:∀ {m n:Nat},j∈aAP n m↔n≤j∧j<n+m
 | 0,n=>by simp[aAP]
 |m+1,n=>by
  simp only[aAP,aZL,RR (m:=m),Nat.succ_eq_add_one];omega
theorem HF{j:Nat}:∀ {u:Upd},j∈GP u↔∃p∈u,p.1=j
 | []=>by simp[GP]
 |(i,o)::u=>by
  simp only[GP,aZL,HF (u:=u)];constructor
  ·rintro(rfl|⟨p,hp,e⟩)
   ·exact⟨_,.inl rfl,rfl⟩
   ·exact⟨p,.inr hp,e⟩
  ·rintro⟨p,rfl|hp,e⟩
   ·exact .inl e.symm
   ·exact .inr ⟨p,hp,e⟩
theorem jM{j:Nat}{r:Rc}:r.touch j=true↔(∃p∈r.out.upd,p.1=j)∨(∃i,i<r.out.new.length∧j=r.tk+i):=by
 unfold Rc.touch QJ;rw[gX,bR,aY4,HF,RR,cR];constructor
 ·rintro(h|h)
  ·exact .inl h
  ·exact .inr ⟨j-r.tk,by omega,by omega⟩
 ·rintro(h|⟨i,h1,h2⟩)
  ·exact .inl h
  ·exact .inr (by omega)
theorem aBC{O O':Obs}{j:Nat}(h:O j=O' j) (r:Rc):stepO O r j=stepO O' r j:=vS _ _ (DG _ h)
theorem vT{O:Obs}{j:Nat}{r:Rc}(h:r.touch j=false):stepO O r j=O j:=by
 have h':¬(r.touch j=true):=by rw[h]; exact fun e=>by cases e
 rw[jM] at h';unfold stepO;rw[U1 _ _ fun i hi e=>h' (.inr ⟨i,hi,e⟩),T9 _ fun p hp e=>h' (.inl ⟨p,hp,e⟩)]
theorem aD8{O O':Obs}{j:Nat}{r:Rc}(h:r.touch j=true):stepO O r j=stepO O' r j:=by
 unfold stepO;rcases jM.1 h with h|h
 ·exact vS _ _ (U0 _ h)
 ·exact U2 _ _ h
theorem HH:∀(l:List (Nat×Rc)){S S':SF}{x:Nat},S x=S' x→qN l S x=qN l S' x
 | [],_,_,_,h=>h
 |p::l,_,_,_,h=>HH l (aBB h p.2)
theorem HI:∀(l:List (Nat×Rc)){O O':Obs}{j:Nat},O j=O' j→qO l O j=qO l O' j
 | [],_,_,_,h=>h
 |p::l,_,_,_,h=>HI l (aBC h p.2)
theorem vU:∀(l:List (Nat×Rc)){S:SF}{x:Nat},qN l S x=qN (l.filter fun p=>p.2.wr x) S x
 | [],_,_=>rfl
 |p::l,S,x=>by
  cases h:p.2.wr x with
  |true=>rw[List.filter_cons_of_pos (by exact h)]; exact vU l
  |false =>
   rw[List.filter_cons_of_neg (by rw[h]; exact fun e=>by cases e)];show qN l (stepS S p.2) x=_;rw[HH l (RQ h)];exact vU l
theorem vV:∀(l:List (Nat×Rc)){O:Obs}{j:Nat},qO l O j=qO (l.filter fun p=>p.2.touch j) O j
 | [],_,_=>rfl
 |p::l,O,j=>by
  cases h:p.2.touch j with
  |true=>rw[List.filter_cons_of_pos (by exact h)]; exact vV l
  |false =>
   rw[List.filter_cons_of_neg (by rw[h]; exact fun e=>by cases e)];show qO l (stepO O p.2) j=_;rw[HI l (vT h)];exact vV l
theorem tY{l:List (Nat×Rc)}{S:SF}{x:Nat}{f g:Nat→Bool}(h:∀p∈l,p.2.wr x=true→f p.1=g p.1):qN (l.filter fun p=>f p.1) S x=qN (l.filter fun p=>g p.1) S x:=by
 rw[vU,vU (l:=l.filter fun p=>g p.1),List.filter_filter,List.filter_filter];rw[List.filter_congr (q:=fun p:Nat×Rc=>p.2.wr x&&g p.1) fun p hp=>?_]
 cases hw:p.2.wr x with
 |true=>simp[h p hp hw]
 |false=>simp
theorem tZ{l:List (Nat×Rc)}{O:Obs}{j:Nat}{f g:Nat→Bool}(h:∀p∈l,p.2.touch j=true→f p.1=g p.1):qO (l.filter fun p=>f p.1) O j=qO (l.filter fun p=>g p.1) O j:=by
 rw[vV,vV (l:=l.filter fun p=>g p.1),List.filter_filter,List.filter_filter];rw[List.filter_congr (q:=fun p:Nat×Rc=>p.2.touch j&&g p.1) fun p hp=>?_]
 cases hw:p.2.touch j with
 |true=>simp[h p hp hw]
 |false=>simp
end Go.W
end

section
namespace Go.W
open Go Go.RowKit
def gY(s:ASt):SF:=fun x=>(lk s.sl x).map (·.2)
def sX(E:Env) (S:SF):Operand→SV
 | .tmp t=>(S t).getD (.val (.one .undef))
 | .const v=>svV v
 | .global g=>match lkG E.gl g with
  |some ⟨t,x⟩=>.val (.one (.kp t x))
  |none=>.val (.one .undef)
 | .func f=>.val (.one (.fn f))
theorem AX(E:Env) (s:ASt):pU E s=sX E (gY s):=by
 funext x
 cases x with
 |tmp t =>
  simp only[pU,sX,gY];cases lk s.sl t<;>rfl
 |const v=>rfl
 |global g=>rfl
 |func f=>rfl
def Rc.lg(r:Rc):Lg:=⟨r.T,QJ r.tk r.out⟩
def aPV(E:Env) (ops:List Oper) (S:SF) (o:Oper):Prop:=o.guard=none∨∃j b g,o.guard=some (j,b)∧uY ops j=some g∧sX E S (.tmp g)=.val (.one (.v .bool b))
def aD9(E:Env) (ops:List Oper) (S:SF) (o:Oper):Prop:=∃j b g,o.guard=some (j,b)∧uY ops j=some g∧(sX E S (.tmp g)=.val (.one (.v .bool (!b)))∨sX E S (.tmp g)=.tup [])
def aK2(E:Env) (ops:List Oper) (S:SF) (O:Obs) (r:Rc):Prop :=
 (aPV E ops S r.o∧bF E (sX E S) (aH2 r.T O) r.tk r.o r.out)∨(aD9 E ops S r.o∧r.out=⟨.tup [],[],[]⟩)
def xZ(E:Env) (ops:List Oper):SF→Obs→Nat→List Rc→Prop
 |_,_,_,[]=>True
 |S,O,tm,r::rs=>tm≤r.tk∧(∀p∈r.out.upd,p.1<r.tk∧∃o,O p.1=some o∧o≠.gone)∧aK2 E ops S O r∧xZ E ops (stepS S r) (stepO O r) (r.tk+r.out.new.length+1) rs
theorem DH{β:Type}:∀(l:List Nat) (k:List Nat→β),fNs l k=k l
 | [],_=>rfl
 |_::l,k=>by simp only[fNs,CX,DH l]
theorem DI{ob:Obs}:∀ {u:Upd},QL ob u=true→∀p∈u,∃o,ob p.1=some o∧o≠.gone
 | [],_,p,hp=>by cases hp
 |(j,x)::u,h,p,hp=>by
  simp only[QL] at h
  split at h
  ·cases h
  ·rename_i o hng ho;rcases aZL.1 hp with rfl|hp
   ·exact⟨o,ho,hng⟩
   ·exact DI h p hp
  ·cases h
theorem DJ(s:ASt) (o:Oper) (out:Out) (tk:Nat) (T:List Nat):gY (apply s o out)=stepS (gY s) ⟨o,out,tk,T⟩:=by
 funext x
 cases hd:o.dst with
 |none=>simp only[gY,apply,stepS,hd]
 |some d =>
  simp only[gY,apply,stepS,hd,oX,cH]
  split<;>rfl
theorem sH{E:Env}{s:ASt}{g:Nat}{b:Bool}(h:sX E (gY s) (.tmp g)=.val (.one (.v .bool b))):gY (setS s g b)=gY s:=by
 funext x;simp only[gY,setS,oX]
 split
 ·rename_i e;subst e;simp only[sX,gY] at h
  cases hl:lk s.sl x with
  |none=>rw[hl] at h; simp at h
  |some e=>rw[hl] at h; simpa using h.symm
 ·rfl
theorem KN{l:List (Nat×Nat×Ob)}{x:Nat}(v:Nat) (b:Ob) (h:∃e,lk l x=some e):nU (AC x v b l)=cH (nU l) x b:=by
 obtain⟨e,he⟩:=h;funext j;unfold nU;rcases vG x v b l j with⟨h1,h2⟩|⟨h1,h2,_⟩
 ·by_cases hj:j=x
  ·have:=h2 hj; subst hj; rw[he] at this; cases this
  ·rw[h1,bC _ _ hj]
 ·subst h1; rw[h2,aK]
theorem vW(v:Nat):∀(u:Upd) (l:List (Nat×Nat×Ob)),(∀p∈u,∃e,lk l p.1=some e)→nU (sW v u l)=eL u (nU l)
 | [],_,_=>rfl
 |(i,o)::u,l,h=>by
  show nU (sW v u (AC i v o l))=eL u (cH (nU l) i o);rw[vW v u (AC i v o l) fun p hp=>?_,KN v o (h (i,o) aYE)];obtain⟨e,he⟩:=h p (aXV _ hp);rcases vG i v o l p.1 with⟨h1,_⟩|⟨_,h1,_⟩
  ·exact⟨e,by rw[h1]; exact he⟩
  ·exact⟨_,h1⟩
theorem DK{s:ASt}{j:Nat}{o:Ob}(h:obs s j=some o):∃v,lk s.ob j=some (v,o):=by
 unfold obs at h
 split at h
 ·rename_i v o' hl; injection h with h; subst h; exact⟨v,hl⟩
 ·cases h
theorem HJ{s:ASt}{o:Oper}{out:Out}(hlt:∀j e,lk s.ob j=some e→j<s.tm) (hu:QL (obs s) out.upd=true) (T:List Nat):obs (apply s o out)=stepO (obs s) ⟨o,out,s.tm,T⟩:=by
 have hin:∀p∈out.upd,∃e,lk s.ob p.1=some e:=fun p hp=>by
  obtain⟨x,hx,_⟩:=DI hu p hp;obtain⟨v,hv⟩:=DK hx;exact⟨_,hv⟩
 rw[YD];show nU (app (sW s.tm out.upd s.ob) (jV s.tm s.tm out.new))=jY s.tm out.new (eL out.upd (nU s.ob));rw[vH _ _ _ _ fun j e hj=>?_,vW _ _ _ hin];rcases mX s.tm out.upd s.ob j with h1|⟨_,h1⟩
 ·rw[h1] at hj; exact hlt j e hj
 ·obtain⟨e',h1⟩:=Option.isSome_iff_exists.1 h1; exact hlt j e' h1
end Go.W
end
