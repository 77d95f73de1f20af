/-
  Texts put together, in build order: TD TE TF TG TH TI TJ TK TL TM TN TO TP TQ TR TS TU TV TW.
-/
import Derived.Test.YtpblmlldkpkomaaGreatDoorZvB
import Derived.Lib.ParseIntBCases
set_option linter.all false

section
set_option linter.all false
namespace Go.Mo
open Go Go.W Go.Lib
set_option maxRecDepth 100000
noncomputable section
structure FewD (d:Doc):Prop where
 reg:d.2.2.2.2.2.1.length≤6
 ev:d.2.2.2.2.2.2.1.length≤5
 cm:d.2.2.2.2.2.2.2.length≤4
 wt:wtD d≤1048576
theorem FN{α:Type}(f:α→Nat):∀a b:List α,bkL f (a++b)=bkL f a+bkL f b
 | [],b=>by simp[bkL]
 |x::a,b=>by simp only[aYT,bkL,FN f a b]; omega
def aG5(d:Doc):List Nd×Int:=if cK d≠0 then([],cK d) else aJR d
theorem aG6{d:Doc}(hs:uO d):q55 fuelH d=some (aG5 d):=by
 by_cases h:cK d=0
 ·unfold aG5;rw[if_neg (by simpa using h)];exact N5 (IY h) (by rw[jA hs,h])
 ·unfold aG5 q55;rw[if_pos h,bQ (jA hs),aD (cP h)]
def FO(d:Doc):Doc:=(d.1,d.2.1,d.2.2.1,d.2.2.2.1,d.2.2.2.2.1,d.2.2.2.2.2.1,d.2.2.2.2.2.2.1,[])
structure ThinD (d:Doc):Prop where
 reg:d.2.2.2.2.2.1.length≤1000000
 ev:d.2.2.2.2.2.2.1.length≤1000000
 tiny:∀x∈d.2.2.2.2.2.2.1,aVZ x
 cm:d.2.2.2.2.2.2.2.length≤1000000
theorem aJ8{d:Doc}(h:cK d=0) (hc:d.2.2.2.2.2.2.2.length≤1000000):ThinD d:=by
 have hd:=IY h
 refine⟨by have:=hd.nreg; omega,by have:=hd.nev; omega,fun x hx=>?_,hc⟩;obtain⟨_,_,_,q4,q5⟩:=hd.ev x hx;exact⟨by omega,fun r hr=>by have:=(q5 r hr).1; omega⟩
theorem JK{d:Doc}(h:ThinD d) (hc:d.2.2.2.2.2.2.2=[]):NS fuelH (d,d)=some true :=
 aF2 h.reg h.ev (fun x hx=>⟨by have:=(h.tiny x hx).1; omega,fun r hr=>by have:=(h.tiny x hx).2 r hr; omega⟩) hc
theorem aJ9:nZ fuelH ()=some true:=by kernel_rfl
def cZ{α R:Type}(p:α→Bool) (f:Nat→α→R) (K:R):Nat→List α→R
 |_,[]=>K
 |i,a::l=>if p a then f i a else cZ p f K (i+1) l
theorem jO{V R α:Type}{F:(V→Option R)→V→Option R}{l:List α}(st:Nat→V) (p:α→Bool) (f:Nat→α→Option R) (K:Option R){fuel:Nat}(hf:l.length<fuel)
  (hs:∀self i (h:i<l.length),F self (st i)=if p l[i] then f i l[i] else self (st (i+1))) (he:∀self,F self (st l.length)=K):bG F fuel (st 0)=cZ p f K 0 l:=by
 have key:∀(n i fu:Nat),l.length-i=n→l.length-i<fu→i≤l.length→bG F fu (st i)=cZ p f K i (l.drop i):=by
  intro n
  induction n with
  |zero =>
   intro i fu h1 h2 h3;obtain rfl:i=l.length:=by omega
   obtain⟨fu,rfl⟩:∃k,fu=k+1:=⟨fu-1,by omega⟩;rw[gT,he,aY1];rfl
  |succ n ih =>
   intro i fu h1 h2 h3
   have hi:i<l.length:=by omega
   obtain⟨fu,rfl⟩:∃k,fu=k+1:=⟨fu-1,by omega⟩;rw[gT,hs _ _ hi,aW8 hi];unfold cZ;rw[ih (i+1) fu (by omega) (by omega) (by omega)]
 have:=key _ 0 fuel rfl (by omega) (aZ1 _)
 rw[this,aZG]
theorem FP{α R:Type}(p:α→Bool) (b K:R):∀(i:Nat) (l:List α),cZ p (fun _ _=>b) K i l=if l.any p then b else K
 |_,[]=>rfl
 |i,a::l=>by
  unfold cZ;rw[FP p b K (i+1) l]
  by_cases h:p a=true<;>simp[h]
def rR(c:UInt8):Bool:=decide (48≤n8 c∧n8 c≤57)
def dgS(a:Nat) (c:UInt8):Nat:=a*10+(c.toNat-48)
def jC(a:Nat) (l:Y_):Nat:=l.foldl dgS a
theorem wO(a:Nat):jC a []=a:=by unfold jC; rw[List.foldl_nil]
theorem sQ(a:Nat) (c:UInt8) (r:Y_):jC a (c::r)=jC (a*10+(c.toNat-48)) r:=by unfold jC; rw[List.foldl_cons]; unfold dgS; rfl
theorem aG7(a b n:Nat) (h:a*10≤b):a*10^(n+1)≤b*10^n:=by
 have e:a*10^(n+1)=(a*10)*10^n:=by rw[Nat.pow_succ,Nat.mul_comm (10^n) 10,Nat.mul_assoc]
 rw[e];exact aXW _ h
theorem Z4(l:Y_):∀a:Nat,a*10^l.length≤jC a l:=by
 induction l with
 |nil=>intro a; rw[wO,aY9,Nat.pow_zero,Nat.mul_one]; exact aZ0 _
 |cons c l ih =>
  intro a
  have h:=ih (a*10+(c.toNat-48))
  have h2:=aG7 a (a*10+(c.toNat-48)) l.length (by omega)
  rw[aYR,sQ];exact aZR h2 h
theorem aKA(l:Y_):∀a b:Nat,a<b→(∀c∈l,rR c=true)→jC a l<b*10^l.length:=by
 induction l with
 |nil=>intro a b h _; rw[wO,aY9,Nat.pow_zero,Nat.mul_one]; exact h
 |cons c l ih =>
  intro a b h hd
  have hc:=of_decide_eq_true (hd c aYE)
  unfold n8 at hc
  have h1:=ih (a*10+(c.toNat-48)) (b*10) (by omega) fun x hx=>hd x (aXV _ hx)
  have e:b*10^(l.length+1)=(b*10)*10^l.length:=by rw[Nat.pow_succ,Nat.mul_comm (10^l.length) 10,Nat.mul_assoc]
  rw[aYR,e,sQ];exact h1
def O8(neg:Bool) (r:Y_) (hi:Int):Int×Int :=
 if r=[] then(0,4) else if r.headD 0=48∧(1<r.length∨neg=true) then(0,4) else if r.any (fun c=>!rR c) then(0,4) else
 if neg=true then(0,2) else if hi<(jC 0 r:Int) then(0,2) else((jC 0 r:Int),0)
def VL(s:Y_) (hi:Int):Int×Int:=if s.head?=some 45 then O8 true s.tail hi else O8 false s hi
theorem aLX:∀(l:Y_) (a:Nat),a≤2^64-1→(∀c∈l,rR c=true)→parseUintM (2^64-1) a l=if 2^64-1<jC a l then .range else .ok (jC a l)
 | [],a,ha,_=>by
  unfold parseUintM;rw[wO,if_neg (by omega)]
 |c::l,a,ha,hd=>by
  have hc:=of_decide_eq_true (hd c aYE)
  have hl:=fun x hx=>hd x (aXV _ hx)
  unfold n8 at hc
  have hge:=Z4 l (a*10+(c.toNat-48))
  have hp:1≤10^l.length:=Nat.one_le_pow _ _ (by omega)
  have hge2:a*10+(c.toNat-48)≤jC (a*10+(c.toNat-48)) l:=aZR (by have:=Nat.mul_le_mul_left (a*10+(c.toNat-48)) hp; omega) hge
  unfold parseUintM;rw[sQ,if_pos (by omega)]
  by_cases h1:1844674407370955162≤a
  ·rw[if_pos h1,if_pos (by omega)]
  rw[if_neg h1]
  by_cases h2:2^64-1<a*10+(c.toNat-48)
  ·rw[if_pos h2,if_pos (by omega)]
  rw[if_neg h2];exact aLX l _ (by omega) hl
theorem Z5{l:Y_}(h:l.any (fun c=>!rR c)=false):∀c∈l,rR c=true:=fun c hc=>by
 have:=List.any_eq_false.1 h c hc
 simpa using this
theorem aG8{l:Y_}(h0:l≠[]) (h:∀c∈l,rR c=true) (h48:l.headD 0≠48):10^(l.length-1)≤jC 0 l∧1≤jC 0 l:=by
 obtain⟨c,r,rfl⟩:∃c r,l=c::r:=by cases l with|nil=>exact absurd rfl h0|cons c r=>exact⟨c,r,rfl⟩
 have hc:=of_decide_eq_true (h c aYE)
 unfold n8 at hc
 have hne:c.toNat≠48:=fun k=>h48 (UInt8.toNat_inj.1 k)
 have:=Z4 r (0*10+(c.toNat-48))
 have hp:1≤10^r.length:=Nat.one_le_pow _ _ (by omega)
 have h3:1*10^r.length≤(0*10+(c.toNat-48))*10^r.length:=aXW _ (by omega)
 rw[sQ,aYR,aYI];omega
theorem aKB{neg:Bool}{r:Y_}(h0:r≠[]) (h:∀c∈r,rR c=true) (h48:neg=true→r.headD 0≠48){hi:Int}(hh:hi≤4611686018427387904) :
  (cnd (AI (if neg=true then 45::r else r)).2 (some ((0:Int),(2:Int))) (cnd (ilt (AI (if neg=true then 45::r else r)).1 0) (some (0,2)) (cnd (ilt hi (AI (if neg=true then 45::r else r)).1) (some (0,2)) (some ((AI (if neg=true then 45::r else r)).1,0)))))
  = some (if neg=true then(0,2) else if hi<(jC 0 r:Int) then(0,2) else((jC 0 r:Int),0)):=by
 have hu:parseUintB 64 r=if 2^64-1<jC 0 r then .range else .ok (jC 0 r):=by
  unfold parseUintB;rw[if_neg h0];exact aLX r 0 (by omega) h
 cases neg with
 |true =>
  have hp:AI (45::r)=match signedC (2^63) (parseUintB 64 r) with|NumEnd.ok v=>(v,false) | .range=>(Lib.intSat 64 (45::r),true)|_=>(0,true):=by
   unfold AI;rw[parseIntB_minus];rfl
  have h1:=(aG8 h0 h (h48 rfl)).2
  simp only[if_true];rw[hp,hu]
  by_cases c1:2^64-1<jC 0 r
  ·rw[if_pos c1]; rfl
  ·rw[if_neg c1];simp only[signedC]
   by_cases c2:2^63<jC 0 r
   ·rw[if_pos c2]; rfl
   ·rw[if_neg c2];simp only;rw[aC rfl,aD (aW (by omega))]
 |false =>
  obtain⟨c,t,rfl⟩:∃c t,r=c::t:=by cases r with|nil=>exact absurd rfl h0|cons c t=>exact⟨c,t,rfl⟩
  have hc:=of_decide_eq_true (h c aYE)
  unfold n8 at hc
  have hp:AI (c::t)=match signlessC (2^63) (parseUintB 64 (c::t)) with|NumEnd.ok v=>(v,false) | .range=>(Lib.intSat 64 (c::t),true)|_=>(0,true):=by
   unfold AI;rw[parseIntB_plain 64 c t (by omega) (by omega)];rfl
  simp only[aYF,if_false];rw[hp,hu]
  by_cases c1:2^64-1<jC 0 (c::t)
  ·rw[if_pos c1,if_pos (by omega)]; rfl
  ·rw[if_neg c1];simp only[signlessC]
   by_cases c2:2^63≤jC 0 (c::t)
   ·rw[if_pos c2,if_pos (by omega)]; rfl
   ·rw[if_neg c2];simp only;rw[aC rfl,aC (aX (by omega))]
    by_cases c3:hi<(jC 0 (c::t):Int)
    ·rw[aD (aW c3),if_pos c3]
    ·rw[aC (aX c3),if_neg c3]
theorem aKC(N:Nat) (s:Y_) (b:UInt8):K7 N (s,[b])=some (if s.head?=some b then(s.tail,true) else(s,false)):=by
 unfold K7 aEU q74
 cases s with
 |nil=>rfl
 |cons c s =>
  have h1:in2 (len [b]) (len (c::s))=true:=nA (by simp only[len,aYR,aY9]; omega)
  rw[aD (hM (by simp only[len,aYR,aY9]; omega)),aG h1]
  have e:bO (toN (len [b])) (c::s)=[c]:=rfl
  rw[e,aB]
  by_cases h:c=b
  ·subst h
   have:seq [c] [c]=true:=by rw[cJ]
   rw[this,aC (by rfl),aG h1,aB,if_pos (by rfl)];rfl
  ·have:seq [c] [b]=false:=by rw[cC]; simpa using h
   rw[this,aD (by rfl),aB,if_neg (by simpa using h)]
theorem VM{s:Y_}(hs:s.length≤4000000){hi:Int}(hh:hi≤4611686018427387904):K8 fuelH (s,0,hi)=some (VL s hi):=by
 have key:∀(neg:Bool) (r:Y_),s=(if neg=true then 45::r else r)→r.length≤s.length→K7 fuelH (s,[45])=some (r,neg)→K8 fuelH (s,0,hi)=some (O8 neg r hi):=by
  intro neg r hsr hrl hcut;unfold K8 O8;dsimp only;rw[bQ hcut];dsimp only;rw[bX]
  by_cases h0:r=[]
  ·subst h0;rw[aD (by rw[cJ]),if_pos rfl]
  ·have hr0:1≤r.length:=by cases r with|nil=>exact absurd rfl h0|cons _ _=>simp
   have hget:aA r (toN (0:Int)) 0=r.headD 0:=by cases r with|nil=>exact absurd rfl h0|cons _ _=>rfl
   rw[aC (by rw[cC]; simpa using h0),if_neg h0,aG (aZ (by simp only[len]; omega)),hget]
   have main:(¬(r.headD 0=48∧(1<r.length∨neg=true)))→(jn (fun (v2:Unit)=>bnd (cW fuelH (s,10,64)) fun v3=>cnd v3.2 (some ((0:Int),(2:Int))) (cnd (ilt v3.1 0) (some (0,2)) (cnd (ilt hi v3.1) (some (0,2)) (some (v3.1,0))))) fun v4 =>
     bG (fun v5 (v6:Int) =>
      cnd (ilt v6 (len r))
       (grd (inb v6 (len r))
        (cnd (ilt (n8 (aA r (toN v6) (0:UInt8))) (n8 (48:UInt8)))
         (some (0,4))
         (grd (inb v6 (len r))
          (cnd (ilt (n8 (57:UInt8)) (n8 (aA r (toN v6) (0:UInt8))))
           (some (0,4))
           (v5 (w64 (aE v6 1)))))))
       (v4 ())) fuelH 0)=some (if r.any (fun c=>!rR c) then(0,4) else if neg=true then(0,2) else if hi<(jC 0 r:Int) then(0,2) else((jC 0 r:Int),0)):=by
    intro hz;rw[bX];refine(jO (l:=r) (fun i=>(i:Int)) (fun c=>!rR c) (fun _ _=>some (0,4)) (bnd (cW fuelH (s,10,64)) fun v3=>cnd v3.2 (some ((0:Int),(2:Int))) (cnd (ilt v3.1 0) (some (0,2)) (cnd (ilt hi v3.1) (some (0,2)) (some (v3.1,0))))) (by have:=bI; omega) (fun self i h=>?_) (fun self=>?_)).trans ?_
    ·have hin:inb (i:Int) (len r)=true:=aZ (by simp only[len]; omega)
     dsimp only;rw[aD (aW (by simp only[len]; omega)),aG hin,aG hin,bB h,aS h (by omega)]
     have n48:n8 (48:UInt8)=48:=rfl
     have n57:n8 (57:UInt8)=57:=rfl
     rw[n48,n57]
     by_cases c1:n8 r[i]<48
     ·rw[aD (aW c1),if_pos (by simp only[rR,aYL,decide_eq_false_iff_not]; omega)]
     ·rw[aC (aX c1)]
      by_cases c2:57<n8 r[i]
      ·rw[aD (aW c2),if_pos (by simp only[rR,aYL,decide_eq_false_iff_not]; omega)]
      ·rw[aC (aX c2),if_neg (by simp only[rR,aYL,decide_eq_false_iff_not]; omega)]
    ·dsimp only;rw[aC (aX (by simp only[len]; omega))]
    ·rw[FP]
     by_cases ha:r.any (fun c=>!rR c)=true
     ·rw[if_pos ha,if_pos ha]
     ·rw[if_neg ha,if_neg ha]
      have hd:=Z5 (by simpa using ha)
      have hpi:cW fuelH (s,10,64)=some (AI s):=by
       show grd (ieq (10:Int) 10) (grd (ieq (64:Int) 64) (grd (decide (s.length≤281474976710656)) (some (AI s))))=_;rw[aG (dN rfl),aG (dN rfl),aG (decide_eq_true (by omega))]
      rw[bQ hpi,hsr];exact aKB h0 hd (fun hn k=>hz ⟨k,Or.inr hn⟩) hh
   by_cases hz:r.headD 0=48
   ·rw[aD (dN (by rw[hz]))]
    by_cases h1:1<r.length
    ·rw[aD (aW (by simp only[len]; omega)),if_pos ⟨hz,Or.inl h1⟩]
    ·rw[aC (aX (by simp only[len]; omega))]
     cases neg with
     |true=>rw[aD rfl,if_pos ⟨hz,Or.inr rfl⟩]
     |false =>
      have hn:¬(r.headD 0=48∧(1<r.length∨(false:Bool)=true)):=fun k=>k.2.elim h1 (fun k=>by cases k)
      rw[aC rfl,if_neg hn];exact main hn
   ·have hn:¬(r.headD 0=48∧(1<r.length∨neg=true)):=fun k=>hz k.1
    rw[aC (dF (fun k=>hz (fL k))),if_neg hn];exact main hn
 have hc:=aKC fuelH s 45
 unfold VL
 by_cases h:s.head?=some 45
 ·rw[if_pos h] at hc ⊢
  cases s with
  |nil=>cases h
  |cons c s =>
   have:c=45:=by simpa using h
   subst this;exact key true s rfl (by simp) hc
 ·rw[if_neg h] at hc ⊢;exact key false s rfl (aZ0 _) hc
def PG(n:Nd):List At:=n.2.2.1
def cU(n:Nd) (name:Ln):Ln:=(bL name (PG n)).1
def pH(n:Nd) (name:Ln):Bool:=(bL name (PG n)).2
theorem yZ{R:Type}(name:Ln) (f:Ln→R) (K:R):∀(i:Nat) (l:List At),cZ (fun a:At=>seq a.1 name) (fun _ a=>f a.2) K i l=if(bL name l).2 then f (bL name l).1 else K
 |_,[]=>rfl
 |i,a::l=>by
  unfold cZ bL;rw[yZ name f K (i+1) l]
  by_cases h:seq a.1 name=true
  ·rw[if_pos h];rw[cJ] at h;rw[if_pos h];rfl
  ·have h2:¬a.1=name:=fun k=>h (by rw[cJ]; exact k)
   rw[if_neg h,if_neg h2]
theorem uT(name:Ln):∀l:List At,(bL name l).2=false→(bL name l).1=[]
 | [],_=>rfl
 |a::l,h=>by
  unfold bL at h ⊢
  by_cases e:a.1=name
  ·rw[if_pos e] at h; cases h
  ·rw[if_neg e] at h ⊢; exact uT name l h
theorem zA{n:Nd}{name:Ln}(h:pH n name=false):cU n name=[]:=uT name _ h
theorem JL(name:Ln):∀l:List At,(bL name l).2=true→(name,(bL name l).1)∈l
 | [],h=>by cases h
 |a::l,h=>by
  unfold bL at h ⊢
  by_cases e:a.1=name
  ·rw[if_pos e] at h ⊢; subst e; exact aYE
  ·rw[if_neg e] at h ⊢; exact aXV _ (JL name l h)
theorem zB(name:Ln):∀l:List At,(bL name l).2=true↔name∈l.map Prod.fst
 | []=>by simp[bL]
 |a::l=>by
  unfold bL
  by_cases e:a.1=name
  ·rw[if_pos e]; simp[e]
  ·rw[if_neg e,aZM,aZL,zB name l];exact⟨fun k=>Or.inr k,fun k=>k.resolve_left (fun q=>e q.symm)⟩
theorem wP{n:Nd}(hs:smN n) (name:Ln):(cU n name).length≤1090000:=by
 cases h:pH n name with
 |false=>rw[zA h]; simp
 |true=>exact(hs.an _ (JL name _ h)).2
theorem fB{n:Nd}(hs:smN n) (e:Int) (name:Ln):q95 fuelH ((n,e),name)=some (cU n name,n,e):=by
 have hl:=hs.asz
 have hfu:=bI
 unfold q95;dsimp only;rw[bX];refine(jO (l:=n.2.2.1) (fun i=>(i:Int)) (fun a:At=>seq a.1 name) (fun _ a=>some (a.2,n,e)) (some ([],n,e)) (by omega) (fun self i h=>?_) (fun self=>?_)).trans ?_
 ·have hin:inb (i:Int) (len n.2.2.1)=true:=aZ (by simp only[len]; omega)
  rw[aD (aW (by simp only[len]; omega)),aG hin,bB h,aS h (by omega)];cases seq n.2.2.1[i].1 name<;>rfl
 ·rw[aC (aX (by simp only[len]; omega))]
 ·rw[yZ name (fun v=>some (v,n,e))]
  by_cases h:(bL name n.2.2.1).2=true
  ·rw[if_pos h]; rfl
  ·rw[if_neg h]
   have:cU n name=[]:=zA (by simpa [pH,PG] using h)
   rw[this]
def hP(a b:Int):Int:=if a=0 then b else a
theorem pI(N:Nat) (n:Nd) (a b:Int):q98 N ((n,a),b)=some (n,hP a b):=by
 unfold q98 hP;dsimp only
 by_cases h:a=0
 ·rw[aD (dN h),if_pos h]
 ·rw[aC (dF h),if_neg h]
def fS(n:Nd) (name:Ln) (hi:Int):Int×Int:=VL (cU n name) hi
theorem PH{n:Nd}(hs:smN n) (e:Int) (name:Ln){hi:Int}(hh:hi≤4611686018427387904):MH fuelH ((n,e),name,hi)=some ((fS n name hi).1,n,hP e (fS n name hi).2):=by
 have:=wP hs name
 unfold MH SH;dsimp only;rw[fB hs,aB];dsimp only;rw[VM (by omega) hh,aB]
 try dsimp only
 rw[pI];rfl
theorem wQ{n:Nd}(hs:smN n) (e:Int) (name:Ln):MK fuelH ((n,e),name)=some ((fS n name 32).1,n,hP e (fS n name 32).2):=by
 unfold MK;dsimp only;rw[PH hs e name (by omega),aB]
def aCK(s:Ln):Int×Int:=if s.getLast?=some 102 then VL s.dropLast 5184000 else(0,4)
def rS(n:Nd) (name:Ln):Int×Int:=aCK (cU n name)
theorem aKD{s:Ln}(hs:s.length≤4000000):aBM fuelH (s,[102])=some (if s.getLast?=some 102 then(s.dropLast,true) else(s,false)):=by
 unfold aBM aEW aEV;dsimp only;rcases List.eq_nil_or_concat s with rfl|⟨t,c,rfl⟩
 ·rfl
 ·rw[List.concat_eq_append] at hs ⊢;rw[aYA,aYR,aY9] at hs
  have hl:len (t++[c])=((t.length+1:Nat):Int):=by simp[len]
  have h1:len [(102:UInt8)]=1:=rfl
  have hw:w64 (aJ (len (t++[c])) (len [(102:UInt8)]))=(t.length:Int):=by
   rw[hl,h1];simp only[aJ];rw[bU (by omega)];omega
  have hd:cS (toN (t.length:Int)) (t++[c])=[c]:=by
   show(t++[c]).drop _=_
   have:toN (t.length:Int)=t.length:=by simp[toN]
   rw[this,List.drop_append_of_le_length (aZ0 _),aY1];rfl
  have ht:bO (toN (t.length:Int)) (t++[c])=t:=by
   show(t++[c]).take _=_
   have:toN (t.length:Int)=t.length:=by simp[toN]
   rw[this,List.take_append_of_le_length (aZ0 _),aYY]
  have hin:in2 (t.length:Int) (len (t++[c]))=true:=nA (by rw[hl]; omega)
  rw[aD (hM (by rw[hl,h1]; omega)),hw,aG hin,hd,aB,List.getLast?_concat,List.dropLast_concat]
  by_cases h:c=102
  ·subst h
   have:seq [(102:UInt8)] [102]=true:=by rw[cJ]
   rw[this,aC (by rfl),aG hin,ht,aB,if_pos rfl]
  ·have:seq [c] [102]=false:=by rw[cC]; simpa using h
   rw[this,aD (by rfl),aB,if_neg (by simpa using h)]
theorem Z6{n:Nd}(hs:smN n) (e:Int) (name:Ln):K9 fuelH ((n,e),name)=some ((rS n name).1,n,hP e (rS n name).2):=by
 have hl:=wP hs name
 unfold K9 SH rS aCK;rw[fB hs,aB];dsimp only;rw[aKD (by omega),aB]
 by_cases h:(cU n name).getLast?=some 102
 ·rw[if_pos h,if_pos h,aC (by rfl)];dsimp only;rw[VM (by rw[aXX]; omega) (by omega),aB]
  try dsimp only
  rw[pI];rfl
 ·rw[if_neg h,if_neg h,aD (by rfl)];dsimp only;rw[pI];rfl
def PI(tab:List Ln) (s:Ln):Option Nat:=cZ (fun x:Ln=>seq x s) (fun i _=>some i) none 0 tab
theorem VN{R:Type} (f:Nat→R) (K:R) (s:Ln):∀(k:Nat) (tab:List Ln),cZ (fun x:Ln=>seq x s) (fun i _=>f i) K k tab=match(cZ (fun x:Ln=>seq x s) (fun i _=>some i) none k tab:Option Nat) with|some i=>f i|none=>K
 |_,[]=>rfl
 |k,x::tab=>by
  unfold cZ;rw[VN f K s (k+1) tab]
  by_cases h:seq x s=true
  ·rw[if_pos h,if_pos h]
  ·rw[if_neg h,if_neg h]
theorem aKE{tab:List Ln}{s:Ln}{i:Nat}(h:PI tab s=some i):i<tab.length:=by
 have:∀(k:Nat) (tab:List Ln),(cZ (fun x:Ln=>seq x s) (fun i _=>some i) none k tab:Option Nat)=some i→i<k+tab.length:=by
  intro k tab
  induction tab generalizing k with
  |nil=>intro h; cases h
  |cons x tab ih =>
   intro h;unfold cZ at h;rw[aYR]
   by_cases e:seq x s=true
   ·rw[if_pos e] at h; injection h with h; omega
   ·rw[if_neg e] at h; have:=ih (k+1) h; omega
 have:=this 0 tab h
 omega
def chT(tab:List Ln) (n:Nd) (name:Ln):Int×Int:=if pH n name=false then(0,0) else match PI tab (cU n name) with|some i=>((i:Int),0)|none=>(0,4)
theorem O9{n:Nd}(hs:smN n) (e:Int){name:Ln}{tab:List Ln}(ht:tab.length≤100) (hh:pH n name=true):EG fuelH ((n,e),name,tab)=some ((chT tab n name).1,n,hP e (chT tab n name).2):=by
 have hfu:=bI
 unfold EG chT;rw[if_neg (by rw[hh]; simp)];dsimp only;rw[fB hs,aB,bX,pI,aB];dsimp only;refine(jO (l:=tab) (fun i=>(i:Int)) (fun x:Ln=>seq x (cU n name)) (fun i _=>some ((i:Int),n,e)) (some (0,n,hP e 4)) (by omega) (fun self i h=>?_) (fun self=>?_)).trans ?_
 ·have hin:inb (i:Int) (len tab)=true:=aZ (by simp only[len]; omega)
  rw[aD (aW (by simp only[len]; omega)),aG hin,bB h,aS h (by omega)];cases seq tab[i] (cU n name)<;>rfl
 ·rw[aC (aX (by simp only[len]; omega))]
 ·rw[VN (fun i=>some ((i:Int),n,e))]
  have:(cZ (fun x:Ln=>seq x (cU n name)) (fun i _=>some i) none 0 tab:Option Nat)=PI tab (cU n name):=rfl
  rw[this]
  cases PI tab (cU n name) with
  |none=>rfl
  |some i=>unfold hP; by_cases h:e=0<;>simp[h]
def flT(n:Nd) (name:Ln):Bool×Int:=(ieq (chT [[48],[49]] n name).1 1,(chT [[48],[49]] n name).2)
theorem Z7(e:Int):hP e 0=e:=by unfold hP; by_cases h:e=0<;>simp[h]
def JM(n:Nd):Prop:=((PG n).map Prod.fst).Nodup
def flE(name:Ln):Int→List At→Int
 |e,[]=>e
 |e,a::r=>flE name (if a.1=name∧a.2≠[48]∧a.2≠[49] then hP e 4 else e) r
theorem Z8(name:Ln):∀(l:List At) (e:Int),name ∉ l.map Prod.fst→flE name e l=e
 | [],_,_=>rfl
 |a::l,e,h=>by
  simp only[aZM,aZL,not_or] at h;unfold flE;rw[if_neg (fun k=>h.1 k.1.symm)];exact Z8 name l e h.2
theorem aG9(name:Ln):∀(l:List At) (e:Int),(l.map Prod.fst).Nodup→flE name e l=hP e (if(bL name l).2=true∧(bL name l).1≠[48]∧(bL name l).1≠[49] then 4 else 0)
 | [],e,_=>by simp[flE,bL,Z7]
 |a::l,e,h=>by
  rw[aZM,List.nodup_cons] at h;unfold flE bL
  by_cases ha:a.1=name
  ·subst ha;rw[Z8 _ _ _ h.1,if_pos rfl]
   by_cases c:a.2≠[48]∧a.2≠[49]
   ·rw[if_pos ⟨rfl,c⟩,if_pos ⟨rfl,c⟩]
   ·rw[if_neg (fun k=>c k.2),if_neg (fun k=>c k.2),Z7]
  ·rw[if_neg (fun k=>ha k.1),if_neg ha];exact aG9 name l e h.2
theorem aV3(s:Ln):PI [[48],[49]] s=if s=[48] then some 0 else if s=[49] then some 1 else none:=by
 unfold PI cZ cZ cZ
 by_cases h:s=[48]
 ·subst h; rfl
 ·rw[if_neg h]
  have h1:seq [48] s=false:=by rw[cC]; simpa using fun k=>h k.symm
  rw[if_neg (by rw[h1]; simp)]
  by_cases h2:s=[49]
  ·subst h2; rfl
  ·rw[if_neg h2]
   have h3:seq [49] s=false:=by rw[cC]; simpa using fun k=>h2 k.symm
   rw[if_neg (by rw[h3]; simp)]
theorem P0{n:Nd}(hs:smN n) (hu:JM n) (e:Int) (name:Ln):q99 fuelH ((n,e),name)=some ((flT n name).1,n,hP e (flT n name).2):=by
 have hl:=hs.asz
 have hfu:=bI
 unfold q99;dsimp only;rw[bX]
 have h:=cX (R:=Bool×Nd×Int) (s:=n.2.2.1) (F:=fun v3 (v4:Int×Nd×Int) =>
   cnd (ilt v4.1 (len n.2.2.1))
    (grd (inb v4.1 (len n.2.2.1))
     (cnd (seq (aA n.2.2.1 (toN v4.1) ([],[])).1 name)
      (cnd (sne (aA n.2.2.1 (toN v4.1) ([],[])).2 ([48]:Y_))
       (cnd (sne (aA n.2.2.1 (toN v4.1) ([],[])).2 ([49]:Y_))
        (bnd (q98 fuelH (v4.2,(4:Int))) fun v5 =>
        v3 (w64 (aE v4.1 (1:Int)),v5))
        (v3 (w64 (aE v4.1 (1:Int)),v4.2)))
       (v3 (w64 (aE v4.1 (1:Int)),v4.2)))
      (v3 (w64 (aE v4.1 (1:Int)),v4.2))))
    (bnd (q95 fuelH (v4.2,name)) fun v1 =>
     some (seq v1.1 ([49]:Y_),v1.2)))
  (fun (e:Int) (j:Nat)=>((j:Int),n,e)) (fun e r=>some (seq (cU n name) [49],n,flE name e r)) (fun _ _=>True) ?_ fuelH 0 e (by omega) (aZ1 _) trivial
 ·refine aZ3 h ?_;rw[aZG,aG9 name n.2.2.1 e hu];unfold flT chT;rw[aV3]
  have hv:(bL name n.2.2.1).1=cU n name:=rfl
  have hh:(bL name n.2.2.1).2=pH n name:=rfl
  rw[hv,hh]
  cases c:pH n name with
  |false =>
   have:=zA c
   rw[this,if_neg (by simp),if_pos rfl];rfl
  |true =>
   rw[if_neg (show ¬(true=false) by simp)]
   by_cases c0:cU n name=[48]
   ·rw[if_pos c0,if_neg (fun k=>k.2.1 c0),c0]; rfl
   ·rw[if_neg c0]
    by_cases c1:cU n name=[49]
    ·rw[if_pos c1,if_neg (fun k=>k.2.2 c1),c1]; rfl
    ·rw[if_neg c1,if_pos ⟨rfl,c0,c1⟩]
     have:seq (cU n name) [49]=false:=by rw[cC]; simpa using c1
     rw[this]; rfl
 ·intro self a j hj _ hself
  by_cases hjl:j<n.2.2.1.length
  ·have hin:inb (j:Int) (len n.2.2.1)=true:=aZ (by simp only[len]; omega)
   have hw:w64 (aE (j:Int) 1)=((j+1:Nat):Int):=aS hjl (by omega)
   dsimp only;rw[aD (aW (by simp only[len]; omega)),aG hin,bB hjl,hw,aW8 hjl];unfold flE
   have nx:=fun e'=>hself e' (j+1) (by omega) (by omega) trivial
   by_cases c:n.2.2.1[j].1=name
   ·rw[aD (by rw[cJ]; exact c)]
    by_cases c0:n.2.2.1[j].2=[48]
    ·rw[aC (by simpa [sne] using c0),if_neg (fun k=>k.2.1 c0)];exact nx a
    ·rw[aD (by simpa [sne] using c0)]
     by_cases c1:n.2.2.1[j].2=[49]
     ·rw[aC (by simpa [sne] using c1),if_neg (fun k=>k.2.2 c1)];exact nx a
     ·rw[aD (by simpa [sne] using c1),if_pos ⟨c,c0,c1⟩,pI,aB];exact nx _
   ·rw[aC (by rw[cC]; simpa using c),if_neg (fun k=>c k.1)];exact nx a
  ·obtain rfl:j=n.2.2.1.length:=by omega
   dsimp only;rw[aC (aX (by simp only[len]; omega)),fB hs,aB,aY1];rfl
def FQ(n:Nd):UInt8×Int:=(b8 (chT gl1 n [99,111,108,111,114]).1,(chT gl1 n [99,111,108,111,114]).2)
theorem aKF{n:Nd}(hs:smN n) (e:Int):aBO fuelH (n,e)=some ((FQ n).1,n,hP e (FQ n).2):=by
 have hl:=hs.asz
 have hfu:=bI
 unfold aBO;dsimp only;rw[bX];refine(jO (l:=n.2.2.1) (fun i=>(i:Int)) (fun a:At=>seq a.1 [99,111,108,111,114]) (fun _ _=>bnd (EG fuelH ((n,e),[99,111,108,111,114],gl1)) fun v4=>some (b8 v4.1,v4.2)) (some ((0:UInt8),n,e)) (by omega) (fun self i h=>?_) (fun self=>?_)).trans ?_
 ·have hin:inb (i:Int) (len n.2.2.1)=true:=aZ (by simp only[len]; omega)
  rw[aD (aW (by simp only[len]; omega)),aG hin,bB h,aS h (by omega)];cases seq n.2.2.1[i].1 [99,111,108,111,114]<;>rfl
 ·rw[aC (aX (by simp only[len]; omega))]
 ·rw[yZ [99,111,108,111,114] (fun _=>bnd (EG fuelH ((n,e),[99,111,108,111,114],gl1)) fun v4=>some (b8 v4.1,v4.2))]
  have hh:(bL [99,111,108,111,114] n.2.2.1).2=pH n [99,111,108,111,114]:=rfl
  rw[hh];unfold FQ
  cases c:pH n [99,111,108,111,114] with
  |true =>
   rw[if_pos rfl,O9 hs e (by decide) c,aB]
  |false =>
   unfold chT;rw[if_neg (by simp),c,if_pos rfl,Z7];rfl
def FR(s:Ln):UInt8×Int:=cZ (fun r:UInt8=>seq (lF r) s) (fun _ r=>(r,0)) (0,4) 0 [1,2,3,4,5,6,7]
def tD(s:Ln):UInt8×Int:=cZ (fun k:Ln=>seq k s) (fun i _=>(b8 (w64 (aE (i:Int) 1)),0)) (0,4) 0 [[68,73,65,76,79,71,85,69],[83,79,85,78,68],[84,73,84,76,69],[77,85,83,73,67]]
theorem zD{α R:Type}(p:α→Bool) (f:Nat→α→R) (K:R):∀(i:Nat) (l:List α),cZ p (fun i a=>some (f i a)) (some K) i l=some (cZ p f K i l)
 |_,[]=>rfl
 |i,a::l=>by
  unfold cZ;rw[zD p f K (i+1) l]
  by_cases h:p a=true
  ·rw[if_pos h,if_pos h]
  ·rw[if_neg h,if_neg h]
theorem aHA(s:Ln):q97 fuelH s=some (FR s):=by
 have hfu:=bI
 unfold q97;rw[bX]
 have hr:q96 fuelH ()=some [1,2,3,4,5,6,7]:=rfl
 rw[bQ hr];unfold FR;rw[←zD (fun r:UInt8=>seq (lF r) s) (fun _ r=>((r,0):UInt8×Int)) (0,4) 0];refine jO (l:=([1,2,3,4,5,6,7]:Y_)) (fun i=>(i:Int)) (fun r=>seq (lF r) s) (fun _ r=>some (r,0)) (some (0,4)) (by simp only[aYR,aY9]; omega) (fun self i h=>?_) (fun self=>?_)
 ·have hin:inb (i:Int) (len ([1,2,3,4,5,6,7]:Y_))=true:=aZ (by simp only[len]; omega)
  rw[aD (aW (by simp only[len]; omega)),aG hin,bB h,IX,aB,aS h (by simp only[aYR,aY9] at h ⊢; omega)];cases seq (lF ([1,2,3,4,5,6,7]:Y_)[i]) s<;>rfl
 ·rw[aC (aX (by simp only[len]; omega))]
theorem aHB(s:Ln):aBN fuelH s=some (tD s):=by
 have hfu:=bI
 unfold aBN;rw[bX]
 have hr:q26 fuelH ()=some [[68,73,65,76,79,71,85,69],[83,79,85,78,68],[84,73,84,76,69],[77,85,83,73,67]]:=rfl
 rw[bQ hr];unfold tD;rw[←zD (fun k:Ln=>seq k s) (fun i _=>((b8 (w64 (aE (i:Int) 1)),0):UInt8×Int)) (0,4) 0];refine jO (l:=([[68,73,65,76,79,71,85,69],[83,79,85,78,68],[84,73,84,76,69],[77,85,83,73,67]]:List Ln)) (fun i=>(i:Int)) (fun k=>seq k s) (fun i _=>some (b8 (w64 (aE (i:Int) 1)),0)) (some (0,4)) (by simp only[aYR,aY9]; omega) (fun self i h=>?_) (fun self=>?_)
 ·have hin:inb (i:Int) (len ([[68,73,65,76,79,71,85,69],[83,79,85,78,68],[84,73,84,76,69],[77,85,83,73,67]]:List Ln))=true:=aZ (by simp only[len]; omega)
  rw[aD (aW (by simp only[len]; omega)),aG hin,bB h,aS h (by simp only[aYR,aY9] at h ⊢; omega)];cases seq ([[68,73,65,76,79,71,85,69],[83,79,85,78,68],[84,73,84,76,69],[77,85,83,73,67]]:List Ln)[i] s<;>rfl
 ·rw[aC (aX (by simp only[len]; omega))]
def jP(n:Ln):List Ln:=if n=[116,116] then [[114,97,116,101],[108,97,115,116]] else if n=[114,101,103,105,111,110] then [[110,97,109,101],[116,111,112],[104,101,105,103,104,116],[108,101,102,116],[119,105,100,116,104],[97,108,105,103,110],[97,110,99,104,111,114]] else if n=[112] then [[105,100],[105,110],[111,117,116],[107,105,110,100]] else []
def rT(n:Ln):List Ln:=if n=[116,116] then [[116,105,116,108,101],[108,97,110,103],[100,114,111,112]] else if n=[114,101,103,105,111,110] then [] else if n=[112] then [[114,101,103,105,111,110],[115,112,101,97,107,101,114]] else if n=[114,117,110] then [[99,111,108,111,114],[105,116,97,108,105,99],[117,110,100,101,114,108,105,110,101],[114,117,98,121]] else []
def zF(n:Ln):List Ln:=if n=[116,116] then [[116,105,116,108,101],[108,97,110,103],[114,97,116,101],[100,114,111,112],[108,97,115,116]] else if n=[114,101,103,105,111,110] then [[110,97,109,101],[116,111,112],[104,101,105,103,104,116],[108,101,102,116],[119,105,100,116,104],[97,108,105,103,110],[97,110,99,104,111,114]] else if n=[112] then [[105,100],[105,110],[111,117,116],[114,101,103,105,111,110],[107,105,110,100],[115,112,101,97,107,101,114]] else if n=[114,117,110] then [[99,111,108,111,114],[105,116,97,108,105,99],[117,110,100,101,114,108,105,110,101],[114,117,98,121]] else []
theorem aV4{P:Ln→Prop}(h1:P [116,116]) (h2:P [114,101,103,105,111,110]) (h3:P [112]) (h4:P [114,117,110]) (h5:∀n,n≠[116,116]→n≠[114,101,103,105,111,110]→n≠[112]→n≠[114,117,110]→P n) (n:Ln):P n:=by
 by_cases c1:n=[116,116]
 ·rw[c1]; exact h1
 by_cases c2:n=[114,101,103,105,111,110]
 ·rw[c2]; exact h2
 by_cases c3:n=[112]
 ·rw[c3]; exact h3
 by_cases c4:n=[114,117,110]
 ·rw[c4]; exact h4
 exact h5 n c1 c2 c3 c4
theorem GL(N:Nat) (n:Ln):q92 N n=some (jP n,rT n):=by
 refine aV4 (P:=fun n=>q92 N n=some (jP n,rT n)) rfl rfl rfl rfl (fun n c1 c2 c3 c4=>?_) n;unfold q92 jP rT;rw[aC (by rw[cC]; simpa using c1),aC (by rw[cC]; simpa using c2),aC (by rw[cC]; simpa using c3),aC (by rw[cC]; simpa using c4),if_neg c1,if_neg c2,if_neg c3,if_neg c1,if_neg c2,if_neg c3,if_neg c4]
theorem Z9(n:Ln):(∀w,w∈zF n↔w∈jP n∨w∈rT n)∧(jP n).Nodup∧(jP n).length≤7∧(rT n).length≤4∧(zF n).length≤7:=by
 refine aV4 (P:=fun n=>(∀w,w∈zF n↔w∈jP n∨w∈rT n)∧(jP n).Nodup∧(jP n).length≤7∧(rT n).length≤4∧(zF n).length≤7) ?_ ?_ ?_ ?_ (fun n c1 c2 c3 c4=>?_) n
 ·refine⟨fun w=>?_,by decide,by decide,by decide,by decide⟩
  have e1:zF [116,116]=[[116,105,116,108,101],[108,97,110,103],[114,97,116,101],[100,114,111,112],[108,97,115,116]]:=rfl
  have e2:jP [116,116]=[[114,97,116,101],[108,97,115,116]]:=rfl
  have e3:rT [116,116]=[[116,105,116,108,101],[108,97,110,103],[100,114,111,112]]:=rfl
  rw[e1,e2,e3];simp only[aZL,List.not_mem_nil,or_false];constructor
  ·rintro(h|h|h|h|h)
   ·exact Or.inr (Or.inl h)
   ·exact Or.inr (Or.inr (Or.inl h))
   ·exact Or.inl (Or.inl h)
   ·exact Or.inr (Or.inr (Or.inr h))
   ·exact Or.inl (Or.inr h)
  ·rintro((h|h)|h|h|h)
   ·exact Or.inr (Or.inr (Or.inl h))
   ·exact Or.inr (Or.inr (Or.inr (Or.inr h)))
   ·exact Or.inl h
   ·exact Or.inr (Or.inl h)
   ·exact Or.inr (Or.inr (Or.inr (Or.inl h)))
 ·refine⟨fun w=>?_,by decide,by decide,by decide,by decide⟩
  have e3:rT [114,101,103,105,111,110]=[]:=rfl
  have e1:zF [114,101,103,105,111,110]=jP [114,101,103,105,111,110]:=rfl
  rw[e1,e3];simp
 ·refine⟨fun w=>?_,by decide,by decide,by decide,by decide⟩
  have e1:zF [112]=[[105,100],[105,110],[111,117,116],[114,101,103,105,111,110],[107,105,110,100],[115,112,101,97,107,101,114]]:=rfl
  have e2:jP [112]=[[105,100],[105,110],[111,117,116],[107,105,110,100]]:=rfl
  have e3:rT [112]=[[114,101,103,105,111,110],[115,112,101,97,107,101,114]]:=rfl
  rw[e1,e2,e3];simp only[aZL,List.not_mem_nil,or_false];constructor
  ·rintro(h|h|h|h|h|h)
   ·exact Or.inl (Or.inl h)
   ·exact Or.inl (Or.inr (Or.inl h))
   ·exact Or.inl (Or.inr (Or.inr (Or.inl h)))
   ·exact Or.inr (Or.inl h)
   ·exact Or.inl (Or.inr (Or.inr (Or.inr h)))
   ·exact Or.inr (Or.inr h)
  ·rintro((h|h|h|h)|h|h)
   ·exact Or.inl h
   ·exact Or.inr (Or.inl h)
   ·exact Or.inr (Or.inr (Or.inl h))
   ·exact Or.inr (Or.inr (Or.inr (Or.inr (Or.inl h))))
   ·exact Or.inr (Or.inr (Or.inr (Or.inl h)))
   ·exact Or.inr (Or.inr (Or.inr (Or.inr (Or.inr h))))
 ·refine⟨fun w=>?_,by decide,by decide,by decide,by decide⟩
  have e1:zF [114,117,110]=rT [114,117,110]:=rfl
  have e2:jP [114,117,110]=[]:=rfl
  rw[e1,e2];simp
 ·unfold jP rT zF;simp only[if_neg c1,if_neg c2,if_neg c3,if_neg c4];simp
def zH(n:Nd):Bool:=(PG n).all (fun a=>(zF n.1).contains a.1)&&(jP n.1).all (fun w=>((PG n).map Prod.fst).contains w)
theorem VO{l:List Ln}(hl:l.length≤1000) (s:Ln):q93 fuelH (l,s)=some (l.contains s):=by
 have hfu:=bI
 unfold q93;dsimp only;rw[bX];refine(jO (l:=l) (fun i=>(i:Int)) (fun x:Ln=>seq x s) (fun _ _=>some true) (some false) (by omega) (fun self i h=>?_) (fun self=>?_)).trans ?_
 ·have hin:inb (i:Int) (len l)=true:=aZ (by simp only[len]; omega)
  rw[aD (aW (by simp only[len]; omega)),aG hin,bB h,aS h (by omega)];cases seq l[i] s<;>rfl
 ·rw[aC (aX (by simp only[len]; omega))]
 ·rw[FP]
  have:l.any (fun x=>seq x s)=l.contains s:=by
   rw[aZE,List.any_eq_true,aXS];exact⟨fun ⟨x,hx,h⟩=>by rw[cJ] at h; exact h ▸ hx,fun h=>⟨s,h,by rw[cJ]⟩⟩
  rw[this];cases l.contains s<;>rfl
theorem nft:¬(false=true):=by simp
def wR(A l:List Ln):Nat:=(l.filter (fun w=>A.contains w)).length
theorem aCL(w:Ln) (A l:List Ln) (h:w ∉ A):wR (w::A) l=l.count w+wR A l:=by
 unfold wR
 induction l with
 |nil=>rfl
 |cons x l ih =>
  rw[List.filter_cons,List.filter_cons,aZB]
  by_cases e:x=w
  ·subst e
   have h1:(x::A).contains x=true:=by simp
   have h2:A.contains x=false:=by simpa using h
   have h3:(x==x)=true:=by simp
   rw[h1,h2,h3,if_pos rfl,if_neg nft,if_pos rfl,aYR,ih];omega
  ·have h1:(w::A).contains x=A.contains x:=by
    rw[List.contains_cons]
    have:(x==w)=false:=by simpa using e
    rw[this,aZN]
   have h3:(x==w)=false:=by simpa using e
   rw[h1,h3,if_neg nft,aZV]
   cases A.contains x with
   |true=>rw[if_pos rfl,if_pos rfl,aYR,aYR,ih]; omega
   |false=>rw[if_neg nft,if_neg nft,ih]
theorem aO6{l:List Ln}(h:l.Nodup) (w:Ln):l.count w≤1:=by
 induction l with
 |nil=>simp
 |cons x l ih =>
  rw[List.nodup_cons] at h;rw[aZB]
  by_cases e:x=w
  ·subst e;rw[if_pos (by simp),List.count_eq_zero_of_not_mem h.1];omega
  ·have:=ih h.2
   rw[if_neg (by simpa using e)];omega
theorem aHC{A l:List Ln}(hA:A.Nodup) (hl:l.Nodup):wR A l≤A.length∧(wR A l=A.length↔∀w∈A,w∈l):=by
 induction A with
 |nil =>
  have:wR [] l=0:=by unfold wR; simp
  rw[this];simp
 |cons w A ih =>
  rw[List.nodup_cons] at hA;obtain⟨h1,h2⟩:=ih hA.2;rw[aCL w A l hA.1,aYR]
  have hc:=aO6 hl w
  refine⟨by omega,fun h=>?_,fun h=>?_⟩
  ·have e1:l.count w=1:=by omega
   have e2:wR A l=A.length:=by omega
   intro v hv;rcases aZL.1 hv with rfl|hv
   ·exact aYH.1 (by omega)
   ·exact h2.1 e2 v hv
  ·have e1:0<l.count w:=aYH.2 (h w aYE)
   have e2:=h2.2 fun v hv=>h v (aXV _ hv)
   omega
def PJ(A M:List Ln):Nat→List At→Option Nat
 |c,[]=>some c
 |c,a::r=>if A.contains a.1 then PJ A M (c+1) r else if M.contains a.1 then PJ A M c r else none
theorem PL(A M:List Ln):∀(l:List At) (c:Nat),PJ A M c l=if l.all (fun a=>A.contains a.1||M.contains a.1) then some (c+wR A (l.map Prod.fst)) else none
 | [],c=>by simp[PJ,wR]
 |a::l,c=>by
  unfold PJ
  have e:wR A ((a::l).map Prod.fst)=(if A.contains a.1 then 1 else 0)+wR A (l.map Prod.fst):=by
   unfold wR;rw[aZM,List.filter_cons]
   cases A.contains a.1 with
   |true=>rw[if_pos rfl,if_pos rfl,aYR]; omega
   |false=>rw[if_neg nft,if_neg nft]; omega
  rw[e,aZP,PL A M l (c+1),PL A M l c]
  cases A.contains a.1 with
  |true =>
   rw[if_pos rfl,if_pos rfl,Bool.true_or,aZO]
   by_cases h:(l.all fun a=>A.contains a.1||M.contains a.1)=true
   ·rw[if_pos h,if_pos h]; congr 1; omega
   ·rw[if_neg h,if_neg h]
  |false =>
   rw[if_neg nft,if_neg nft,aZN]
   cases M.contains a.1 with
   |true=>rw[if_pos rfl,aZO,aZS]
   |false=>rw[if_neg nft,aZJ,if_neg nft]
theorem aHD{n:Nd} (hu:JM n):zH n=(match PJ (jP n.1) (rT n.1) 0 n.2.2.1 with|some c=>decide (c=(jP n.1).length)|none=>false):=by
 obtain⟨t1,t2,_⟩:=Z9 n.1;rw[PL]
 have e1:(n.2.2.1.all fun a=>(jP n.1).contains a.1||(rT n.1).contains a.1)=((PG n).all fun a=>(zF n.1).contains a.1):=by
  show _=n.2.2.1.all _;congr 1;funext a;rw[aZE,Bool.or_eq_true,aXS,aXS,aXS];exact(t1 a.1).symm
 rw[e1];unfold zH
 cases (PG n).all fun a=>(zF n.1).contains a.1 with
 |false=>rw[aZJ,if_neg nft]
 |true =>
  rw[aZO,if_pos rfl,aZS]
  have h:=(aHC (l:=n.2.2.1.map Prod.fst) t2 hu).2
  show _=decide (wR (jP n.1) (n.2.2.1.map Prod.fst)=(jP n.1).length);rw[aZE,aY0,decide_eq_true_eq,h];exact⟨fun k w hw=>by have:=k w hw; rwa [aXS] at this,fun k w hw=>by rw[aXS]; exact k w hw⟩
theorem GM{n:Nd}(hs:smN n) (hu:JM n):q94 fuelH n=some (zH n):=by
 have hl:=hs.asz
 have hfu:=bI
 obtain⟨_,_,t3,t4,_⟩:=Z9 n.1;unfold q94;rw[GL,aB,bX]
 have h:=cX (R:=Bool) (s:=n.2.2.1) (F:=fun v3 (v4:(List Ln)×(List Ln)×Int×Int) =>
   cnd (ilt v4.2.2.2 (len n.2.2.1))
    (grd (inb v4.2.2.2 (len n.2.2.1))
     (bnd (q93 fuelH (v4.1,(aA n.2.2.1 (toN v4.2.2.2) ([],[])).1)) fun v5 =>
     cnd v5
      (v3 (v4.1,v4.2.1,w64 (aE v4.2.2.1 (1:Int)),w64 (aE v4.2.2.2 (1:Int))))
      (bnd (q93 fuelH (v4.2.1,(aA n.2.2.1 (toN v4.2.2.2) ([],[])).1)) fun v6 =>
      cnd (bP v6)
       (some false)
       (v3 (v4.1,v4.2.1,v4.2.2.1,w64 (aE v4.2.2.2 (1:Int)))))))
    (some (ieq v4.2.2.1 (len v4.1))))
  (fun (c:Nat) (j:Nat)=>(jP n.1,rT n.1,(c:Int),(j:Int))) (fun c r=>some (match PJ (jP n.1) (rT n.1) c r with|some c=>decide (c=(jP n.1).length)|none=>false)) (fun j c=>c≤j) ?_ fuelH 0 0 (by omega) (aZ1 _) (aZ0 _)
 ·refine aZ3 h ?_;rw[aHD hu,aZG]
 ·intro self c j hj hc hself
  by_cases hjl:j<n.2.2.1.length
  ·have hin:inb (j:Int) (len n.2.2.1)=true:=aZ (by simp only[len]; omega)
   have hw:w64 (aE (j:Int) 1)=((j+1:Nat):Int):=aS hjl (by omega)
   have hwc:w64 (aE (c:Int) 1)=((c+1:Nat):Int):=aS (n:=n.2.2.1.length) (by omega) (by omega)
   dsimp only;rw[aD (aW (by simp only[len]; omega)),aG hin,bB hjl,hw,hwc,aW8 hjl,VO (by omega),aB,VO (by omega),aB];unfold PJ
   cases (jP n.1).contains n.2.2.1[j].1 with
   |true =>
    rw[aD rfl,if_pos rfl];exact hself (c+1) (j+1) (by omega) (by omega) (by omega)
   |false =>
    rw[aC rfl,if_neg nft]
    cases (rT n.1).contains n.2.2.1[j].1 with
    |true =>
     rw[aC (by rfl),if_pos rfl];exact hself c (j+1) (by omega) (by omega) (by omega)
    |false =>
     rw[aD (by rfl),if_neg nft]
  ·obtain rfl:j=n.2.2.1.length:=by omega
   dsimp only;rw[aC (aX (by simp only[len]; omega)),aY1];unfold PJ;dsimp only;congr 1;rw[aZE,decide_eq_true_eq];constructor
   ·intro h
    by_cases e:(c:Int)=len (jP n.1)
    ·simp only[len] at e; omega
    ·rw[dF e] at h; cases h
   ·intro h;exact dN (by simp only[len]; omega)
theorem aHE{α β:Type}(p:α×β):(p.1,p.2)=p:=rfl
theorem aHF{α:Type}(xs:List α) (d:α):bM xs (aM xs d)=xs:=by
 unfold bM aM
 cases xs with
 |nil=>rfl
 |cons x xs =>
  have h:(x::xs).length-1<(x::xs).length:=by simp
  rw[aW4,aXB h,Option.getD_some];exact List.set_getElem_self _
theorem P1{α:Type}{xs:List α}(h:xs≠[]) (hl:xs.length≤4000000):inb (w64 (aJ (len xs) 1)) (len xs)=true∧ieq (w64 (aJ (len xs) 1)) (aJ (len xs) 1)=true∧ieq (ofN (toN (w64 (aJ (len xs) 1)))) (aJ (len xs) 1)=true∧toN (w64 (aJ (len xs) 1))=xs.length-1:=by
 have h1:1≤xs.length:=by cases xs with|nil=>exact absurd rfl h|cons _ _=>simp
 have e:w64 (aJ (len xs) 1)=((xs.length-1:Nat):Int):=by
  simp only[aJ,len];rw[bU (by omega)];omega
 have e2:aJ (len xs) 1=((xs.length-1:Nat):Int):=by simp only[aJ,len]; omega
 rw[e,e2];refine⟨aZ (by simp only[len]; omega),dN rfl,dN ?_,by simp[toN]⟩;simp[toN,ofN]
theorem aHG{α:Type}{xs:List α}(h:xs≠[]) (d:α):aA xs (xs.length-1) d=aM xs d:=by
 unfold aA aM;rfl
theorem aHH{α:Type}(xs:List α) (x:α):xC xs (xs.length-1) x=bM xs x:=rfl
def evY:Ev:=(0,(0,0),[],0,[],[])
def bZ(d:Doc):List Row:=(aM d.2.2.2.2.2.2.1 evY).2.2.2.2.2
def dJ(d:Doc):Row:=aM (bZ d) []
def uU:Run:=([],(0,false,false),[])
def mR(d:Doc) (rows:List Row):Doc:=(d.1,d.2.1,d.2.2.1,d.2.2.2.1,d.2.2.2.2.1,d.2.2.2.2.2.1,bM d.2.2.2.2.2.2.1 ((aM d.2.2.2.2.2.2.1 evY).1,(aM d.2.2.2.2.2.2.1 evY).2.1,(aM d.2.2.2.2.2.2.1 evY).2.2.1,(aM d.2.2.2.2.2.2.1 evY).2.2.2.1,(aM d.2.2.2.2.2.2.1 evY).2.2.2.2.1,rows),d.2.2.2.2.2.2.2)
def pS:Int:=1099511627776
def pT(d:Doc) (n:Nd):Int×Doc :=
 (hP (hP (FR (cU n [114,97,116,101])).2 (flT n [100,114,111,112]).2) (fS n [108,97,115,116] pS).2,(cU n [116,105,116,108,101],cU n [108,97,110,103],(FR (cU n [114,97,116,101])).1,(flT n [100,114,111,112]).1,(fS n [108,97,115,116] pS).1,d.2.2.2.2.2.1,d.2.2.2.2.2.2.1,d.2.2.2.2.2.2.2))
def PM(n:Nd):Reg:=(cU n [110,97,109,101],(fS n [116,111,112] 32).1,(fS n [104,101,105,103,104,116] 32).1,(fS n [108,101,102,116] 32).1,(fS n [119,105,100,116,104] 32).1,b8 (w64 (aE (chT gl0 n [97,108,105,103,110]).1 1)),ieq (chT [[84,79,80],[66,79,84,84,79,77]] n [97,110,99,104,111,114]).1 1)
def rU(d:Doc) (n:Nd):Int×Doc :=
 (hP (hP (hP (hP (hP (fS n [116,111,112] 32).2 (fS n [104,101,105,103,104,116] 32).2) (fS n [108,101,102,116] 32).2) (fS n [119,105,100,116,104] 32).2) (chT gl0 n [97,108,105,103,110]).2) (chT [[84,79,80],[66,79,84,84,79,77]] n [97,110,99,104,111,114]).2,
  (d.1,d.2.1,d.2.2.1,d.2.2.2.1,d.2.2.2.2.1,d.2.2.2.2.2.1++[PM n],d.2.2.2.2.2.2.1,d.2.2.2.2.2.2.2))
def evT(n:Nd):Ev:=((fS n [105,100] pS).1,((rS n [105,110]).1,(rS n [111,117,116]).1),cU n [114,101,103,105,111,110],(tD (cU n [107,105,110,100])).1,cU n [115,112,101,97,107,101,114],[])
def oQ(d:Doc) (n:Nd):Int×Doc :=
 (hP (hP (hP (fS n [105,100] pS).2 (rS n [105,110]).2) (rS n [111,117,116]).2) (tD (cU n [107,105,110,100])).2,
  (d.1,d.2.1,d.2.2.1,d.2.2.2.1,d.2.2.2.2.1,d.2.2.2.2.2.1,d.2.2.2.2.2.2.1++[evT n],d.2.2.2.2.2.2.2))
def rV(n:Nd):Run:=([],((FQ n).1,(flT n [105,116,97,108,105,99]).1,(flT n [117,110,100,101,114,108,105,110,101]).1),cU n [114,117,98,121])
def VP(d:Doc) (n:Nd):Int×Doc :=
 (hP (hP (FQ n).2 (flT n [105,116,97,108,105,99]).2) (flT n [117,110,100,101,114,108,105,110,101]).2,mR d (bM (bZ d) (dJ d++[rV n])))
def aHI(d:Doc) (n:Nd):Int×Doc:=(0,mR d (bM (bZ d) (bM (dJ d) (n.2.1,(aM (dJ d) uU).2))))
def dA(d:Doc) (n:Nd):Int×Doc :=
 if n.1=[116,116] then pT d n else if n.1=[114,101,103,105,111,110] then rU d n else if n.1=[112] then oQ d n else if n.1=[114,111,119] then(0,mR d (bZ d++[[]])) else if n.1=[114,117,110] then VP d n else aHI d n
structure HasR (d:Doc) (n:Nd):Prop where
 rg:d.2.2.2.2.2.1.length≤1000000
 ev:d.2.2.2.2.2.2.1.length≤1000000
 row:n.1≠[116,116]→n.1≠[114,101,103,105,111,110]→n.1≠[112]→d.2.2.2.2.2.2.1≠[]∧(bZ d).length≤1000000
 run:n.1≠[116,116]→n.1≠[114,101,103,105,111,110]→n.1≠[112]→n.1≠[114,111,119]→bZ d≠[]∧(dJ d).length≤1000000
 tx:n.1≠[116,116]→n.1≠[114,101,103,105,111,110]→n.1≠[112]→n.1≠[114,111,119]→n.1≠[114,117,110]→dJ d≠[]
theorem hY{α:Type}(xs:List α) (y v:α):bM (xs++[y]) v=xs++[v]:=by
 unfold bM;rw[aYA,aYR,aY9,aYI,aXQ _ _ (aZ0 _),aZX];rfl
theorem PN{n:Nd}(ha:zH n=true){w:Ln}(hw:(jP n.1).contains w=true):pH n w=true:=by
 unfold zH at ha;rw[aYS,aY0,aY0] at ha;rw[aXS] at hw
 have:=ha.2 w hw
 rw[aXS] at this;exact(zB w _).2 this
theorem aKG(s:Ln):(tD s).2=0∨(tD s).2=4:=by
 unfold tD
 have:∀(l:List Ln) (k:Nat),(cZ (fun k:Ln=>seq k s) (fun i _=>(b8 (w64 (aE (i:Int) 1)),(0:Int))) ((0:UInt8),(4:Int)) k l).2=0∨(cZ (fun k:Ln=>seq k s) (fun i _=>(b8 (w64 (aE (i:Int) 1)),(0:Int))) ((0:UInt8),(4:Int)) k l).2=4:=by
  intro l
  induction l with
  |nil=>intro k; exact Or.inr rfl
  |cons x l ih =>
   intro k;unfold cZ
   by_cases h:seq x s=true
   ·rw[if_pos h]; exact Or.inl rfl
   ·rw[if_neg h]; exact ih (k+1)
 exact this _ 0
theorem sq{a b:Ln}(h:a=b):seq a b=true:=by rw[cJ]; exact h
theorem sqf{a b:Ln}(h:¬a=b):seq a b=false:=by rw[cC]; simpa using h
theorem aO7{d:Doc}{n:Nd}(hs:smN n) (hu:JM n) (ha:zH n=true) (hr:HasR d n):mI fuelH (d,n)=some (dA d n):=by
 have hMax:(1099511627776:Int)≤4611686018427387904:=by omega
 unfold mI dA;dsimp only;simp only[aHF,aHE];rw[bX]
 by_cases c1:n.1=[116,116]
 ·rw[aD (sq c1),if_pos c1,fB hs,aB];dsimp only;rw[fB hs,aB];dsimp only;rw[fB hs,aB];dsimp only;rw[aHA,aB];rw[pI,aB,P0 hs hu,aB];dsimp only;rw[PH hs _ _ hMax,aB];rfl
 rw[aC (sqf c1),if_neg c1]
 by_cases c2:n.1=[114,101,103,105,111,110]
 ·have h1:pH n [97,108,105,103,110]=true:=PN ha (by rw[c2]; rfl)
  have h2:pH n [97,110,99,104,111,114]=true:=PN ha (by rw[c2]; rfl)
  rw[aD (sq c2),if_pos c2,fB hs,aB];dsimp only;rw[wQ hs,aB];dsimp only;rw[wQ hs,aB];dsimp only;rw[wQ hs,aB];dsimp only;rw[wQ hs,aB];dsimp only;rw[O9 hs _ (by decide) h1,aB];dsimp only;rw[O9 hs _ (by simp) h2,aB];dsimp only;rw[aG (eQ (by have:=hr.rg; simp only[aE,len,aYR,aY9]; omega))];rfl
 rw[aC (sqf c2),if_neg c2]
 by_cases c3:n.1=[112]
 ·rw[aD (sq c3),if_pos c3,PH hs _ _ hMax,aB];dsimp only;rw[Z6 hs,aB];dsimp only;rw[Z6 hs,aB];dsimp only;rw[fB hs,aB];dsimp only;rw[fB hs,aB];dsimp only;rw[aHB,aB,bX]
  have key:∀e:Int,e=hP (hP (hP (hP 0 (fS n [105,100] 1099511627776).2) (rS n [105,110]).2) (rS n [111,117,116]).2) (tD (cU n [107,105,110,100])).2 →
    (bnd (q95 fuelH ((n,e),[115,112,101,97,107,101,114])) fun v23 =>
     grd (dV (aE (len d.2.2.2.2.2.2.1) (len ([zE]:List Ev))) 88)
     (some (v23.2.2,d.1,d.2.1,d.2.2.1,d.2.2.2.1,d.2.2.2.2.1,d.2.2.2.2.2.1,bM (bH d.2.2.2.2.2.2.1 ([zE]:List Ev)) ((fS n [105,100] 1099511627776).1,((rS n [105,110]).1,(rS n [111,117,116]).1),cU n [114,101,103,105,111,110],(tD (cU n [107,105,110,100])).1,v23.1,([]:List Row)),d.2.2.2.2.2.2.2)))=some (oQ d n):=by
   intro e he;rw[fB hs,aB,aG (eQ (by have:=hr.ev; simp only[aE,len,aYR,aY9]; omega))]
   have:∀x:Ev,bH d.2.2.2.2.2.2.1 [x]=d.2.2.2.2.2.2.1++[x]:=fun _=>rfl
   rw[this,hY,he];rfl
  rcases aKG (cU n [107,105,110,100]) with h|h
  ·rw[aC (cQ h)];exact key _ (by rw[h,Z7])
  ·rw[aD (cP (by rw[h]; decide)),pI,aB];exact key _ (by rw[h])
 rw[aC (sqf c3),if_neg c3];obtain⟨r1,r2⟩:=hr.row c1 c2 c3;obtain⟨g1,g2,g3,g4⟩:=P1 r1 (by have:=hr.ev; omega)
 have hz:zE=evY:=rfl
 rw[hz]
 by_cases c4:n.1=[114,111,119]
 ·rw[aD (sq c4),if_pos c4,aG g1,aG g2,aG g3]
  have hl:(aM d.2.2.2.2.2.2.1 evY).2.2.2.2.2.length≤1000000:=r2
  rw[aG (eQ (by simp only[aE,len,aYR,aY9]; omega)),aG g1,aG g2,aG g3]
  have:∀(l:List Row) (x:Row),bH l [x]=l++[x]:=fun _ _=>rfl
  rw[this,hY];rfl
 rw[aC (sqf c4),if_neg c4];obtain⟨s1,s2⟩:=hr.run c1 c2 c3 c4
 have s1:(aM d.2.2.2.2.2.2.1 evY).2.2.2.2.2≠[]:=s1
 have hl:(aM d.2.2.2.2.2.2.1 evY).2.2.2.2.2.length≤1000000:=r2
 obtain⟨k1,k2,k3,k4⟩:=P1 s1 (by omega)
 have hl2:(aM (aM d.2.2.2.2.2.2.1 evY).2.2.2.2.2 []).length≤1000000:=s2
 by_cases c5:n.1=[114,117,110]
 ·rw[aD (sq c5),if_pos c5,fB hs,aB];dsimp only;rw[aKF hs,aB];dsimp only;rw[P0 hs hu,aB];dsimp only;rw[P0 hs hu,aB];dsimp only;rw[aG g1,aG g2,aG g3,aG g1,aG g2,aG g3,aG k1,aG k2,aG k3,aG (eQ (by simp only[aE,len,aYR,aY9]; omega)),aG k3];rfl
 rw[aC (sqf c5),if_neg c5]
 have t1:aM (aM d.2.2.2.2.2.2.1 evY).2.2.2.2.2 []≠[]:=hr.tx c1 c2 c3 c4 c5
 obtain⟨m1,m2,m3,m4⟩:=P1 t1 (by omega);rw[aG g1,aG g2,aG g3,aG g1,aG g2,aG g3,aG k1,aG k2,aG k3,aG k3,aG m1,m4,aHH,aHG t1];rfl
def VQ(n:Nd) (parent:Ln) (reg:Bool):Bool :=
 if parent=[] then decide (n.1=[116,116]) else if parent=[116,116] then(if n.1=[112] then true else if n.1=[114,101,103,105,111,110] then reg else false) else
 if parent=[112] then decide (n.1=[114,111,119]) else if parent=[114,111,119] then decide (n.1=[114,117,110]) else if parent=[114,117,110] then decide (n.1=[]) else false
def noE(d:Doc):Bool:=decide (d.2.2.2.2.2.2.1.length=0)
def wS(op:List Ln) (n:Nd):Ln:=if 0<dep n then op.getD ((dep n).toNat-1) [] else []
def okN(op:List Ln) (d:Doc) (n:Nd):Bool:=VQ n (wS op n) (noE d)&&zH n
def noD0:Doc:=([],[],0,false,0,[],[],[])
def aKH(d:Doc):Doc×Int×Int:=if cK d≠0 then(noD0,0,cK d) else(d,0,0)
def goS:Nat→List Ln→Doc→List Nd→Doc×Int×Int
 |_,_,d,[]=>aKH d
 |i,op,d,n::r=>if okN op d n=false then(noD0,(i:Int),4) else if(dA d n).1≠0 then(noD0,(i:Int),(dA d n).1) else goS (i+1) (op.take (dep n).toNat++[n.1]) (dA d n).2 r
def gV(l:List Nd):Doc×Int×Int:=if mO l≠0 then(noD0,0,mO l) else goS 0 [] noD0 l
def fM(d:Doc):List Ev:=d.2.2.2.2.2.2.1
def Sh(op:List Ln) (d:Doc):Prop :=
 (op=[]∧fM d=[])∨(op=[[116,116]]∧fM d=[])∨(op=[[116,116],[114,101,103,105,111,110]]∧fM d=[])∨(op=[[116,116],[112]]∧fM d≠[])∨(op=[[116,116],[112],[114,111,119]]∧fM d≠[]∧bZ d≠[]) ∨
 (op=[[116,116],[112],[114,111,119],[114,117,110]]∧fM d≠[]∧bZ d≠[]∧dJ d≠[]∧(aM (dJ d) uU).1=[])∨(op=[[116,116],[112],[114,111,119],[114,117,110],[]]∧fM d≠[]∧bZ d≠[]∧dJ d≠[])
structure Inv (l:List Nd) (i:Nat) (op:List Ln) (d:Doc):Prop where
 sh:Sh op d
 zero:i=0→op=[]
 one:1≤i→(op.length:Int)=dep (l.getD (i-1) ndz)+1
 path:∀k,k<op.length→∃j,j<i∧dep (l.getD j ndz)=(k:Int)∧(l.getD j ndz).1=op.getD k []∧∀m,j<m→m<i→(k:Int)<dep (l.getD m ndz)
 rg:d.2.2.2.2.2.1.length≤i
 ev:(fM d).length≤i
 rw:(bZ d).length≤i
 rn:(dJ d).length≤i
 ti:d.1.length≤1090000
 small:∀x∈fM d,∀r∈x.2.2.2.2.2,(∀u∈r,u.1.length≤1090000∧u.2.2.length≤1090000)∧tot r≤bkL wtN (l.take i)
 cm:d.2.2.2.2.2.2.2=[]
theorem aV5(l:List Nd):Inv l 0 [] noD0 :=
 ⟨Or.inl ⟨rfl,rfl⟩,fun _=>rfl,fun h=>absurd h (by omega),fun k h=>by simp at h,aZ0 _,aZ0 _,aZ0 _,aZ0 _,aZ1 _,(fun x hx=>by cases hx),rfl⟩
inductive Nx (i:Nat) (op:List Ln) (d:Doc) (n:Nd):Prop
 |tt (h0:i=0) (hk:dep n=0) (ho:op=[]) (hn:n.1=[116,116]) (he:fM d=[])
 |p (hk:dep n=1) (ho:op.take 1=[[116,116]]) (hn:n.1=[112])
 |rg (hk:dep n=1) (ho:op.take 1=[[116,116]]) (hn:n.1=[114,101,103,105,111,110]) (he:fM d=[])
 |row (hk:dep n=2) (ho:op.take 2=[[116,116],[112]]) (hn:n.1=[114,111,119]) (he:fM d≠[])
 |run (hk:dep n=3) (ho:op.take 3=[[116,116],[112],[114,111,119]]) (hn:n.1=[114,117,110]) (he:fM d≠[]) (hr:bZ d≠[])
 |tx (hk:dep n=4) (ho:op=[[116,116],[112],[114,111,119],[114,117,110]]) (hn:n.1=[]) (he:fM d≠[]) (hr:bZ d≠[]) (hu:dJ d≠[]) (ht:(aM (dJ d) uU).1=[])
theorem aKI{n:Nd}{q:Ln}{b:Bool}(h:VQ n q b=true) (h1:q≠[]) (h2:q≠[116,116]) (h3:q≠[112]) (h4:q≠[114,111,119]) (h5:q≠[114,117,110]):False:=by
 unfold VQ at h;rw[if_neg h1,if_neg h2,if_neg h3,if_neg h4,if_neg h5] at h;cases h
theorem aAA{l:List Nd}(hd:Deep l){i:Nat}(hi:i<l.length){op:List Ln}{d:Doc}(hI:Inv l i op d):(i=0∧dep l[i]=0)∨(1≤i∧1≤dep l[i]∧dep l[i]≤(op.length:Int)∧(dep l[i]=(op.length:Int)→(l.getD (i-1) ndz).1≠[])):=by
 by_cases h0:i=0
 ·subst h0; exact Or.inl ⟨rfl,hd.root hi⟩
 ·have h1:=hI.one (by omega)
  have h2:=hd.low (i-1) (by omega)
  have e:l.getD (i-1) ndz=l[i-1]:=gD (by omega)
  have e2:l[i-1+1]'(by omega)=l[i]:=by congr 1; omega
  rw[e2] at h2;rw[e] at h1 ⊢;exact Or.inr ⟨by omega,h2.1,by omega,fun k=>h2.2.2 (by omega)⟩
theorem aLY{l:List Nd}(hc:mO l=0){i:Nat}(hi:i<l.length){op:List Ln}{d:Doc}(hI:Inv l i op d) (hf:VQ l[i] (wS op l[i]) (noE d)=true):Nx i op d l[i]:=by
 have hck:=(rN hc).2.2
 have hd:=OU hck
 have hnoE:noE d=true→fM d=[]:=fun h=>aXF.1 (of_decide_eq_true h)
 rcases aAA hd hi hI with⟨h0,hk⟩|⟨h1,k1,k2,k3⟩
 ·have ho:=hI.zero h0
  have hp:wS op l[i]=[]:=by unfold wS; rw[if_neg (by omega)]
  rw[hp] at hf
  have he:fM d=[]:=by
   have:=hI.ev
   exact aXF.1 (by omega)
  exact Nx.tt h0 hk ho (of_decide_eq_true hf) he
 ·have hp:wS op l[i]=op.getD ((dep l[i]).toNat-1) []:=by unfold wS; rw[if_pos (by omega)]
  rw[hp] at hf
  have at1:op.take 1=[[116,116]]→dep l[i]=1→Nx i op d l[i]:=by
   intro ho hk
   have:op.getD ((dep l[i]).toNat-1) []=[116,116]:=by
    rw[hk]
    cases op with
    |nil=>cases ho
    |cons a t=>injection ho with e _
   rw[this] at hf
   have hf:(if l[i].1=[112] then true else if l[i].1=[114,101,103,105,111,110] then noE d else false)=true:=hf
   by_cases c1:l[i].1=[112]
   ·exact Nx.p hk ho c1
   rw[if_neg c1] at hf
   by_cases c2:l[i].1=[114,101,103,105,111,110]
   ·rw[if_pos c2] at hf;exact Nx.rg hk ho c2 (hnoE hf)
   ·rw[if_neg c2] at hf; cases hf
  have at2:op.take 2=[[116,116],[112]]→dep l[i]=2→fM d≠[]→Nx i op d l[i]:=by
   intro ho hk he
   have:op.getD ((dep l[i]).toNat-1) []=[112]:=by
    rw[hk]
    match op,ho with
    |a::b::t,ho=>injection ho with _ e; injection e with e _
   rw[this] at hf;exact Nx.row hk ho (of_decide_eq_true (show decide (l[i].1=[114,111,119])=true from hf)) he
  have at3:op.take 3=[[116,116],[112],[114,111,119]]→dep l[i]=3→fM d≠[]→bZ d≠[]→Nx i op d l[i]:=by
   intro ho hk he hr
   have:op.getD ((dep l[i]).toNat-1) []=[114,111,119]:=by
    rw[hk]
    match op,ho with
    |a::b::c::t,ho=>injection ho with _ e; injection e with _ e; injection e with e _
   rw[this] at hf;exact Nx.run hk ho (of_decide_eq_true (show decide (l[i].1=[114,117,110])=true from hf)) he hr
  rcases hI.sh with⟨ho,he⟩|⟨ho,he⟩|⟨ho,he⟩|⟨ho,he⟩|⟨ho,he,hr⟩|⟨ho,he,hr,hu,ht⟩|⟨ho,he,hr,hu⟩
  ·rw[ho] at k2; simp at k2; omega
  ·have hk:dep l[i]=1:=by rw[ho] at k2; simp at k2; omega
   exact at1 (by rw[ho]; rfl) hk
  ·have hl:dep l[i]=1∨dep l[i]=2:=by rw[ho] at k2; simp at k2; omega
   rcases hl with hk|hk
   ·exact at1 (by rw[ho]; rfl) hk
   ·exfalso;rw[ho,hk] at hf;exact aKI (q:=[114,101,103,105,111,110]) hf (by decide) (by decide) (by decide) (by decide) (by decide)
  ·have hl:dep l[i]=1∨dep l[i]=2:=by rw[ho] at k2; simp at k2; omega
   rcases hl with hk|hk
   ·exact at1 (by rw[ho]; rfl) hk
   ·exact at2 (by rw[ho]; rfl) hk he
  ·have hl:dep l[i]=1∨dep l[i]=2∨dep l[i]=3:=by rw[ho] at k2; simp at k2; omega
   rcases hl with hk|hk|hk
   ·exact at1 (by rw[ho]; rfl) hk
   ·exact at2 (by rw[ho]; rfl) hk he
   ·exact at3 (by rw[ho]; rfl) hk he hr
  ·have hl:dep l[i]=1∨dep l[i]=2∨dep l[i]=3∨dep l[i]=4:=by rw[ho] at k2; simp at k2; omega
   rcases hl with hk|hk|hk|hk
   ·exact at1 (by rw[ho]; rfl) hk
   ·exact at2 (by rw[ho]; rfl) hk he
   ·exact at3 (by rw[ho]; rfl) hk he hr
   ·rw[ho,hk] at hf;exact Nx.tx hk ho (of_decide_eq_true (show decide (l[i].1=[])=true from hf)) he hr hu ht
  ·
   have hlast:(l.getD (i-1) ndz).1=[]:=by
    obtain⟨j,j1,j2,j3,j4⟩:=hI.path 4 (by rw[ho]; simp)
    have h1':=hI.one h1
    rw[ho] at h1' j3;simp only[aYR,aY9] at h1'
    have:j=i-1:=by
     by_cases e:j=i-1
     ·exact e
     ·have:=j4 (i-1) (by omega) (by omega)
      omega
    rw[this] at j3;exact j3
   have hl:dep l[i]=1∨dep l[i]=2∨dep l[i]=3∨dep l[i]=4∨dep l[i]=5:=by rw[ho] at k2; simp at k2; omega
   rcases hl with hk|hk|hk|hk|hk
   ·exact at1 (by rw[ho]; rfl) hk
   ·exact at2 (by rw[ho]; rfl) hk he
   ·exact at3 (by rw[ho]; rfl) hk he hr
   ·exfalso;rw[ho,hk] at hf
    have hn:l[i].1=[]:=of_decide_eq_true (show decide (l[i].1=[])=true from hf)
    have htx:=FI (hck i hi) hn
    have e:l.getD (i-1) ndz=l[i-1]:=gD (by omega)
    have h1':=hI.one h1
    rw[ho,e] at h1';simp only[aYR,aY9] at h1';rw[e] at hlast
    have hpv:prv l i=some l[i-1]:=by
     have:=mP (l:=l) (i:=i-1) (by omega)
     have e3:i-1+1=i:=by omega
     rwa [e3] at this
    rw[hpv] at htx;unfold txE txP at htx;rw[if_pos (decide_eq_true ⟨hlast,by omega⟩)] at htx;cases htx
   ·exfalso;exact k3 (by rw[ho]; simp only[aYR,aY9]; omega) hlast
theorem aKJ{p:Option Nd}{n:Nd}(h:ndE p n=0):JM n:=by
 unfold JM PG
 by_cases hn:n.1=[]
 ·have:=FI h hn
  unfold txE at this
  split at this
  ·cases this
  split at this
  ·cases this
  split at this
  ·cases this
  ·rename_i _ _ h0
   have:n.2.2.1=[]:=aXF.1 (by omega)
   rw[this];exact List.nodup_nil
 ·have he:=aGX h hn
  unfold elE at he
  split at he
  ·cases he
  split at he
  ·cases he
  split at he
  ·cases he
  have key:∀(r:List At) (seen:List Ln),seen.Nodup→atE seen r=0→(seen++r.map Prod.fst).Nodup:=by
   intro r
   induction r with
   |nil=>intro seen hs _; simpa using hs
   |cons a r ih =>
    intro seen hs h;unfold atE at h
    split at h
    ·cases h
    split at h
    ·cases h
    split at h
    ·cases h
    rename_i _ hm _
    have:=ih (seen++[a.1]) (by
     rw[List.nodup_append];refine⟨hs,by simp,?_⟩;intro x hx y hy;rw[aYG] at hy;subst hy;intro e;exact hm (e ▸ hx)) h
    rw[aYK] at this;exact this
  exact key _ [] List.nodup_nil he
theorem aKK{l:List Nd}{i:Nat}(hi:i≤1000000){op:List Ln}{d:Doc}{n:Nd}(hI:Inv l i op d) (hx:Nx i op d n):HasR d n:=by
 have h1:=hI.rg
 have h2:=hI.ev
 have h3:=hI.rw
 have h4:=hI.rn
 have h2':d.2.2.2.2.2.2.1.length≤i:=h2
 cases hx with
 |tt h0 hk ho hn he=>exact⟨by omega,by omega,fun k=>absurd hn k,fun k=>absurd hn k,fun k=>absurd hn k⟩
 |p hk ho hn=>exact⟨by omega,by omega,fun _ _ k=>absurd hn k,fun _ _ k=>absurd hn k,fun _ _ k=>absurd hn k⟩
 |rg hk ho hn he=>exact⟨by omega,by omega,fun _ k=>absurd hn k,fun _ k=>absurd hn k,fun _ k=>absurd hn k⟩
 |row hk ho hn he=>exact⟨by omega,by omega,fun _ _ _=>⟨he,by omega⟩,fun _ _ _ k=>absurd hn k,fun _ _ _ k=>absurd hn k⟩
 |run hk ho hn he hr=>exact⟨by omega,by omega,fun _ _ _=>⟨he,by omega⟩,fun _ _ _ _=>⟨hr,by omega⟩,fun _ _ _ _ k=>absurd hn k⟩
 |tx hk ho hn he hr hu ht=>exact⟨by omega,by omega,fun _ _ _=>⟨he,by omega⟩,fun _ _ _ _=>⟨hr,by omega⟩,fun _ _ _ _ _=>hu⟩
theorem wT{α:Type}{xs:List α}(h:xs≠[]) (d:α):aM xs d∈xs:=by
 have h1:xs.length-1<xs.length:=by cases xs with|nil=>exact absurd rfl h|cons _ _=>simp
 unfold aM;rw[aW4,aXB h1,Option.getD_some];exact aY2 h1
theorem BU{α:Type}{xs:List α}{v x:α}(h:x∈bM xs v):x∈xs∨x=v:=List.mem_or_eq_of_mem_set h
theorem pJ{α:Type}(xs:List α) (v:α):(bM xs v).length=xs.length:=by unfold bM; rw[List.length_set]
theorem PO{α:Type}{xs:List α}(h:xs≠[]) (v:α):bM xs v≠[]:=fun k=>h (aXF.1 (by rw[←pJ xs v,k]; rfl))
theorem P2{α:Type}(xs:List α) (v:α):xs++[v]≠[]:=by simp
theorem jD{α:Type}(xs:List α) (v d:α):aM (xs++[v]) d=v:=by
 unfold aM;rw[aYA,aYR,aY9,aYI,aW4,aW5 (aZ0 _),aZX];rfl
theorem zI{d:Doc}(h:fM d≠[]) (rows:List Row):bZ (mR d rows)=rows:=by
 unfold bZ mR;dsimp only
 have h:d.2.2.2.2.2.2.1≠[]:=h
 rw[Go.W.lN _ _ _ h]
theorem aaFS{d:Doc}(h:fM d≠[]) (rows:List Row):fM (mR d rows)≠[]:=PO h _
theorem aKL{row:Row}(h:row≠[]) (t:Ln) (s:Sty×Ln):tot (bM row (t,s))≤tot row+t.length:=by
 obtain⟨r,u,rfl⟩:∃r u,row=r++[u]:=by
  rcases List.eq_nil_or_concat row with k|⟨r,u,k⟩
  ·exact absurd k h
  ·exact⟨r,u,by rw[k,List.concat_eq_append]⟩
 rw[hY,BM,BM];simp only[tot];omega
theorem VR{l:List Nd}{i:Nat}(hi:i<l.length):bkL wtN (l.take (i+1))=bkL wtN (l.take i)+wtN l[i]:=by
 rw[aWY hi];generalize l.take i=a
 induction a with
 |nil=>simp[bkL]
 |cons x a ih=>simp only[aYT,bkL,ih]; omega
def smR(W:Nat) (r:Row):Prop:=(∀u∈r,u.1.length≤1090000∧u.2.2.length≤1090000)∧tot r≤W
theorem zJ{W:Nat}{d:Doc}(he:fM d≠[]){rows:List Row}(h1:∀x∈fM d,∀r∈x.2.2.2.2.2,smR W r) (h2:∀r∈rows,smR W r):∀x∈fM (mR d rows),∀r∈x.2.2.2.2.2,smR W r:=by
 intro x hx r hr
 have hx:x∈bM (fM d) _:=hx
 rcases BU hx with hx|hx
 ·exact h1 x hx r hr
 ·subst hx; exact h2 r hr
theorem wU{W:Nat}{d:Doc}(he:fM d≠[]) (h1:∀x∈fM d,∀r∈x.2.2.2.2.2,smR W r):∀r∈bZ d,smR W r:=fun r hr=>h1 _ (wT he evY) r hr
theorem VS{l:List Nd}(hs:∀n∈l,smN n){i:Nat}(hi:i<l.length){op:List Ln}{d:Doc}(hI:Inv l i op d) (hx:Nx i op d l[i]):Inv l (i+1) (op.take (dep l[i]).toNat++[l[i].1]) (dA d l[i]).2:=by
 have hn:=hs _ (aY2 hi)
 have hW:=VR hi
 have hwt:l[i].2.1.length+1≤wtN l[i]:=by unfold wtN; omega
 have gi:l.getD i ndz=l[i]:=gD hi
 have h1:=hI.rg
 have h2:=hI.ev
 have h3:=hI.rw
 have h4:=hI.rn
 have hsm:∀x∈fM d,∀r∈x.2.2.2.2.2,smR (bkL wtN (l.take (i+1))) r:=fun x hx r hr=>⟨(hI.small x hx r hr).1,by have:=(hI.small x hx r hr).2; omega⟩
 have path:∀k:Nat,dep l[i]=(k:Int)→k≤op.length→(∀q,q<(op.take k++[l[i].1]).length→∃j,j<i+1∧dep (l.getD j ndz)=(q:Int)∧(l.getD j ndz).1=(op.take k++[l[i].1]).getD q []∧∀m,j<m→m<i+1→(q:Int)<dep (l.getD m ndz))∧((op.take k++[l[i].1]).length:Int)=dep (l.getD i ndz)+1:=by
  intro k hk hko
  have hlt:(op.take k).length=k:=by rw[aYU]; omega
  refine⟨fun q hq=>?_,by rw[gi,hk,aYA,hlt]; simp⟩;rw[aYA,hlt] at hq;simp only[aYR,aY9] at hq
  by_cases e:q=k
  ·subst e;refine⟨i,by omega,by rw[gi,hk],?_,fun m h1 h2=>by omega⟩;rw[gi,aW4,aW5 (by omega),hlt,aZX];rfl
  ·obtain⟨j,j1,j2,j3,j4⟩:=hI.path q (by omega);refine⟨j,by omega,j2,?_,fun m m1 m2=>?_⟩
   ·rw[j3,aW4,aW4,aW7 (by omega),List.getElem?_take_of_lt (by omega)]
   ·by_cases e2:m=i
    ·subst e2; rw[gi,hk]; omega
    ·exact j4 m m1 (by omega)
 have tl:∀k:Nat,∀z:List Ln,z.length=k→op.take k=z→k≤op.length:=by
  intro k z hz ho
  have:=congrArg List.length ho
  rw[aYU,hz] at this;omega
 cases hx with
 |tt h0 hk ho hn1 he =>
  have e:(dep l[i]).toNat=0:=by rw[hk]; rfl
  rw[e];obtain⟨p1,p2⟩:=path 0 (by rw[hk]; rfl) (aZ1 _)
  have ea:(dA d l[i]).2=(pT d l[i]).2:=by unfold dA; rw[if_pos hn1]
  have ee:fM (pT d l[i]).2=[]:=he
  have er:bZ (pT d l[i]).2=bZ d:=rfl
  rw[ea];refine⟨Or.inr (Or.inl ⟨by rw[hn1]; simp,ee⟩),fun k=>by omega,fun _=>by rw[aYI]; exact p2,p1,?_,?_,?_,?_,?_,?_,hI.cm⟩
  ·exact aYQ h1
  ·rw[ee]; exact aZ1 _
  ·rw[er]; omega
  ·exact aYQ h4
  ·exact wP hn _
  ·intro x hx; rw[ee] at hx; cases hx
 |p hk ho hn1 =>
  have e:(dep l[i]).toNat=1:=by rw[hk]; rfl
  rw[e];obtain⟨p1,p2⟩:=path 1 (by rw[hk]; rfl) (tl 1 _ rfl ho)
  have ea:(dA d l[i]).2=(oQ d l[i]).2:=by unfold dA; rw[if_neg (by rw[hn1]; decide),if_neg (by rw[hn1]; decide),if_pos hn1]
  have ee:fM (oQ d l[i]).2=fM d++[evT l[i]]:=rfl
  have er:bZ (oQ d l[i]).2=[]:=by
   show(aM (fM d++[evT l[i]]) evY).2.2.2.2.2=[];rw[jD]; rfl
  rw[ea];refine⟨Or.inr (Or.inr (Or.inr (Or.inl ⟨by rw[ho,hn1]; rfl,by rw[ee]; exact P2 _ _⟩))),fun k=>by omega,fun _=>by rw[aYI]; exact p2,p1,?_,?_,?_,?_,?_,?_,hI.cm⟩
  ·exact aYQ h1
  ·rw[ee,aYA]; simp only[aYR,aY9]; omega
  ·rw[er]; exact aZ1 _
  ·unfold dJ; rw[er]; exact aZ1 _
  ·exact hI.ti
  ·intro x hx r hr;rw[ee,aY4,aYG] at hx;rcases hx with hx|rfl
   ·exact hsm x hx r hr
   ·cases hr
 |rg hk ho hn1 he =>
  have e:(dep l[i]).toNat=1:=by rw[hk]; rfl
  rw[e];obtain⟨p1,p2⟩:=path 1 (by rw[hk]; rfl) (tl 1 _ rfl ho)
  have ea:(dA d l[i]).2=(rU d l[i]).2:=by unfold dA; rw[if_neg (by rw[hn1]; decide),if_pos hn1]
  have ee:fM (rU d l[i]).2=[]:=he
  rw[ea];refine⟨Or.inr (Or.inr (Or.inl ⟨by rw[ho,hn1]; rfl,ee⟩)),fun k=>by omega,fun _=>by rw[aYI]; exact p2,p1,?_,?_,?_,?_,?_,?_,hI.cm⟩
  ·show(d.2.2.2.2.2.1++[PM l[i]]).length≤i+1;rw[aYA]; simp only[aYR,aY9]; omega
  ·rw[ee]; exact aZ1 _
  ·exact aYQ h3
  ·exact aYQ h4
  ·exact hI.ti
  ·intro x hx; rw[ee] at hx; cases hx
 |row hk ho hn1 he =>
  have e:(dep l[i]).toNat=2:=by rw[hk]; rfl
  rw[e];obtain⟨p1,p2⟩:=path 2 (by rw[hk]; rfl) (tl 2 _ rfl ho)
  have ea:(dA d l[i]).2=mR d (bZ d++[[]]):=by unfold dA; rw[if_neg (by rw[hn1]; decide),if_neg (by rw[hn1]; decide),if_neg (by rw[hn1]; decide),if_pos hn1]
  have er:=zI he (bZ d++[[]])
  rw[ea];refine⟨Or.inr (Or.inr (Or.inr (Or.inr (Or.inl ⟨by rw[ho,hn1]; rfl,aaFS he _,by rw[er]; exact P2 _ _⟩)))),fun k=>by omega,fun _=>by rw[aYI]; exact p2,p1,?_,?_,?_,?_,?_,?_,hI.cm⟩
  ·exact aYQ h1
  ·show(bM (fM d) _).length≤_; rw[pJ]; omega
  ·rw[er,aYA]; simp only[aYR,aY9]; omega
  ·unfold dJ; rw[er,jD]; exact aZ1 _
  ·exact hI.ti
  ·refine zJ he hsm fun r hr=>?_
   rw[aY4,aYG] at hr;rcases hr with hr|rfl
   ·exact wU he hsm r hr
   ·exact⟨(fun u hu=>by cases hu),aZ1 _⟩
 |run hk ho hn1 he hr =>
  have e:(dep l[i]).toNat=3:=by rw[hk]; rfl
  rw[e];obtain⟨p1,p2⟩:=path 3 (by rw[hk]; rfl) (tl 3 _ rfl ho)
  have ea:(dA d l[i]).2=mR d (bM (bZ d) (dJ d++[rV l[i]])):=by unfold dA; rw[if_neg (by rw[hn1]; decide),if_neg (by rw[hn1]; decide),if_neg (by rw[hn1]; decide),if_neg (by rw[hn1]; decide),if_pos hn1]; rfl
  have er:=zI he (bM (bZ d) (dJ d++[rV l[i]]))
  have el:dJ (mR d (bM (bZ d) (dJ d++[rV l[i]])))=dJ d++[rV l[i]]:=by
   show aM (bZ _) []=_;rw[er,Go.W.lN _ _ _ hr]
  rw[ea];refine⟨Or.inr (Or.inr (Or.inr (Or.inr (Or.inr (Or.inl ⟨by rw[ho,hn1]; rfl,aaFS he _,by rw[er]; exact PO hr _,by rw[el]; exact P2 _ _,by rw[el,jD]; rfl⟩))))),fun k=>by omega,fun _=>by rw[aYI]; exact p2,p1,?_,?_,?_,?_,?_,?_,hI.cm⟩
  ·exact aYQ h1
  ·show(bM (fM d) _).length≤_; rw[pJ]; omega
  ·rw[er,pJ]; omega
  ·rw[el,aYA]; simp only[aYR,aY9]; omega
  ·exact hI.ti
  ·refine zJ he hsm fun r hr2=>?_
   rcases BU hr2 with hr2|hr2
   ·exact wU he hsm r hr2
   ·subst hr2
    have ho':smR (bkL wtN (l.take (i+1))) (dJ d):=wU he hsm _ (wT hr [])
    refine⟨fun u hu=>?_,?_⟩
    ·rw[aY4,aYG] at hu;rcases hu with hu|rfl
     ·exact ho'.1 u hu
     ·exact⟨aZ1 _,wP hn _⟩
    ·rw[BM]
     have:tot [rV l[i]]=0:=rfl
     rw[this];exact ho'.2
 |tx hk ho hn1 he hr hu ht =>
  have e:(dep l[i]).toNat=4:=by rw[hk]; rfl
  rw[e];obtain⟨p1,p2⟩:=path 4 (by rw[hk]; rfl) (by rw[ho]; simp)
  have ea:(dA d l[i]).2=mR d (bM (bZ d) (bM (dJ d) (l[i].2.1,(aM (dJ d) uU).2))):=by unfold dA; rw[if_neg (by rw[hn1]; decide),if_neg (by rw[hn1]; decide),if_neg (by rw[hn1]; decide),if_neg (by rw[hn1]; decide),if_neg (by rw[hn1]; decide)]; rfl
  have er:=zI he (bM (bZ d) (bM (dJ d) (l[i].2.1,(aM (dJ d) uU).2)))
  have el:dJ (mR d (bM (bZ d) (bM (dJ d) (l[i].2.1,(aM (dJ d) uU).2))))=bM (dJ d) (l[i].2.1,(aM (dJ d) uU).2):=by
   show aM (bZ _) []=_;rw[er,Go.W.lN _ _ _ hr]
  rw[ea];refine⟨Or.inr (Or.inr (Or.inr (Or.inr (Or.inr (Or.inr ⟨by rw[ho,hn1]; rfl,aaFS he _,by rw[er]; exact PO hr _,by rw[el]; exact PO hu _⟩))))),fun k=>by omega,fun _=>by rw[aYI]; exact p2,p1,?_,?_,?_,?_,?_,?_,hI.cm⟩
  ·exact aYQ h1
  ·show(bM (fM d) _).length≤_; rw[pJ]; omega
  ·rw[er,pJ]; omega
  ·rw[el,pJ]; omega
  ·exact hI.ti
  ·refine zJ he hsm fun r hr2=>?_
   rcases BU hr2 with hr2|hr2
   ·exact wU he hsm r hr2
   ·subst hr2
    have hmem:dJ d∈bZ d:=wT hr []
    have ho':=hI.small _ (wT he evY) _ hmem
    refine⟨fun u hu2=>?_,?_⟩
    ·rcases BU hu2 with hu2|rfl
     ·exact ho'.1 u hu2
     ·exact⟨hn.tx,(ho'.1 _ (wT hu uU)).2⟩
    ·have:=aKL hu l[i].2.1 (aM (dJ d) uU).2
     have h5:=ho'.2
     omega
theorem JN{l:List Nd}{i:Nat}{op:List Ln}{d:Doc}(hI:Inv l i op d) (hi:i≤4000000) (hb:bkL wtN (l.take i)≤4000000):uO d:=by
 have h1:=hI.rg
 have h2:=hI.ti
 refine⟨by omega,by omega,fun x hx r hr=>?_,fun c hc=>by rw[hI.cm] at hc; cases hc⟩
 have h:=hI.small x hx r hr
 exact⟨fun u hu=>by have:=h.1 u hu; omega,by have:=h.2; omega⟩
theorem aHJ(N:Nat) (n:Nd) (q:Ln) (b:Bool):q91 N (n,q,b)=some (VQ n q b):=by
 unfold q91 VQ;dsimp only
 by_cases h1:q=[]
 ·rw[aD (sq h1),if_pos h1]
  by_cases h:n.1=[116,116]
  ·rw[sq h,decide_eq_true h]
  ·rw[sqf h,decide_eq_false h]
 rw[aC (sqf h1),if_neg h1]
 by_cases h2:q=[116,116]
 ·rw[aD (sq h2),if_pos h2]
  by_cases c1:n.1=[112]
  ·rw[aD (sq c1),if_pos c1]
  ·rw[aC (sqf c1),if_neg c1]
   by_cases c2:n.1=[114,101,103,105,111,110]
   ·rw[aD (sq c2),if_pos c2]
   ·rw[aC (sqf c2),if_neg c2]
 rw[aC (sqf h2),if_neg h2]
 by_cases h3:q=[112]
 ·rw[aD (sq h3),if_pos h3]
  by_cases h:n.1=[114,111,119]
  ·rw[sq h,decide_eq_true h]
  ·rw[sqf h,decide_eq_false h]
 rw[aC (sqf h3),if_neg h3]
 by_cases h4:q=[114,111,119]
 ·rw[aD (sq h4),if_pos h4]
  by_cases h:n.1=[114,117,110]
  ·rw[sq h,decide_eq_true h]
  ·rw[sqf h,decide_eq_false h]
 rw[aC (sqf h4),if_neg h4]
 by_cases h5:q=[114,117,110]
 ·rw[aD (sq h5),if_pos h5]
  by_cases h:n.1=[]
  ·rw[sq h,decide_eq_true h]
  ·rw[sqf h,decide_eq_false h]
 rw[aC (sqf h5),if_neg h5]
theorem aKM(a b:Int):ieq a b=decide (a=b):=by
 by_cases h:a=b
 ·rw[dN h,decide_eq_true h]
 ·rw[dF h,decide_eq_false h]
theorem aO8(d:Doc):ieq (len d.2.2.2.2.2.2.1) 0=noE d:=by
 rw[aKM];unfold noE;rw[aZE,decide_eq_true_eq,decide_eq_true_eq];simp only[len];omega
theorem FT{l:List Nd}(hs:∀n∈l,smN n) (hb:bkL wtN l≤4000000):aBP fuelH l=some (gV l):=by
 have hfu:=bI
 have hl:l.length≤4000000:=aZR (M8 (f:=wtN) (fun n=>by unfold wtN; omega) l) hb
 unfold aBP gV;rw[bQ (UZ hl hs)]
 by_cases hc:mO l=0
 ·have hck:=(rN hc).2.2
  have h8:=(rN hc).2.1
  have hd:=OU hck
  rw[aC (cQ hc),if_neg (by simpa using hc)];simp only[aHF,aHE];rw[bX]
  have h:=cX (R:=Doc×Int×Int) (s:=l) (F:=fun v4 (v5:(List Ln)×Int×Doc) =>
   cnd (ilt v5.2.1 (len l))
    (grd (inb v5.2.1 (len l))
     (grd (in2 (aA l (toN v5.2.1) zN).2.2.2 (ofN (kN v5.1)))
      (jn (fun (v6:Ln) =>
       bnd (q91 fuelH (aA l (toN v5.2.1) zN,v6,ieq (len v5.2.2.2.2.2.2.2.2.1) (0:Int))) fun v7 =>
       cnd (bP v7)
        (some ((([]:Ln),([]:Ln),(0:UInt8),false,(0:Int),([]:List Reg),([]:List Ev),([]:List Cmt)),v5.2.1,(4:Int)))
        (bnd (q94 fuelH (aA l (toN v5.2.1) zN)) fun v8 =>
        cnd (bP v8)
         (some ((([]:Ln),([]:Ln),(0:UInt8),false,(0:Int),([]:List Reg),([]:List Ev),([]:List Cmt)),v5.2.1,(4:Int)))
         (bnd (mI fuelH (v5.2.2,aA l (toN v5.2.1) zN)) fun v9 =>
         cnd (ine v9.1 (0:Int))
          (some ((([]:Ln),([]:Ln),(0:UInt8),false,(0:Int),([]:List Reg),([]:List Ev),([]:List Cmt)),v5.2.1,v9.1))
          (grd (dV (aE (ofN (toN (aA l (toN v5.2.1) zN).2.2.2)) (len ([(aA l (toN v5.2.1) zN).1]:List Ln))) 16)
           (v4 (bH (bO (toN (aA l (toN v5.2.1) zN).2.2.2) v5.1) ([(aA l (toN v5.2.1) zN).1]:List Ln),w64 (aE v5.2.1 (1:Int)),v9.2))))))
      fun v10 =>
      cnd (ilt (0:Int) (aA l (toN v5.2.1) zN).2.2.2)
       (grd (inb (w64 (aJ (aA l (toN v5.2.1) zN).2.2.2 (1:Int))) (ofN (toN (aA l (toN v5.2.1) zN).2.2.2)))
        (v10 (aA v5.1 (nN 0 (toN (w64 (aJ (aA l (toN v5.2.1) zN).2.2.2 (1:Int))))) [])))
       (v10 ([]:Ln)))))
    (bnd (q48 fuelH v5.2.2) fun v2 =>
     cnd (ine v2 (0:Int))
      (some ((([]:Ln),([]:Ln),(0:UInt8),false,(0:Int),([]:List Reg),([]:List Ev),([]:List Cmt)),(0:Int),v2))
      (some (v5.2.2,(0:Int),(0:Int)))))
   (fun (a:List Ln×Doc) (j:Nat)=>(a.1,(j:Int),a.2)) (fun a r=>some (goS (l.length-r.length) a.1 a.2 r)) (fun j a=>Inv l j a.1 a.2) ?_ fuelH 0 ([],noD0) (by omega) (aZ1 _) (aV5 l)
  ·refine aZ3 h ?_;rw[aZG,aZX]
  ·intro self a j hj hI hself
   by_cases hjl:j<l.length
   ·have hin:inb (j:Int) (len l)=true:=aZ (by simp only[len]; omega)
    have hw:w64 (aE (j:Int) 1)=((j+1:Nat):Int):=aS hjl (by omega)
    have hn:=hs _ (aY2 hjl)
    have hu:=aKJ (hck j hjl)
    have hdep:=aAA hd hjl hI
    have hdle:0≤dep l[j]∧dep l[j]≤(a.1.length:Int)∧dep l[j]≤15:=by
     have:=hd.high j hjl
     rcases hdep with⟨_,k⟩|⟨_,k1,k2,_⟩
     ·omega
     ·omega
    dsimp only;rw[aD (aW (by simp only[len]; omega)),aG hin,wL hjl,hw]
    have hdd:l[j].2.2.2=dep l[j]:=rfl
    rw[hdd]
    have hon:ofN (kN a.1)=(a.1.length:Int):=rfl
    rw[hon,aG (nA (by omega)),aW8 hjl]
    have e1:l.length-(l[j]::l.drop (j+1)).length=j:=by rw[aYR,aYV]; omega
    rw[e1];unfold goS
    have hofN:ofN (toN (dep l[j]))=dep l[j]:=by simp[ofN,toN]; omega
    have par:∀k:Ln→Option (Doc×Int×Int),jn k (fun k=>cnd (ilt 0 (dep l[j])) (grd (inb (w64 (aJ (dep l[j]) 1)) (ofN (toN (dep l[j])))) (k (aA a.1 (nN 0 (toN (w64 (aJ (dep l[j]) 1)))) []))) (k []))=k (wS a.1 l[j]):=by
     intro k;rw[bX];unfold wS
     by_cases h0:0<dep l[j]
     ·have hw2:w64 (aJ (dep l[j]) 1)=dep l[j] - 1:=by simp only[aJ]; rw[bU (by omega)]
      rw[aD (aW h0),if_pos h0,hw2,hofN,aG (aZ (by omega))];congr 1
      have e2:nN 0 (toN (dep l[j] - 1))=(dep l[j]).toNat-1:=by
       have:toN (dep l[j] - 1)=(dep l[j]).toNat-1:=by simp only[toN]; omega
       rw[this];show 0+_=_;omega
      rw[e2];rfl
     ·rw[aC (aX h0),if_neg h0]
    rw[par];rw[aO8,aHJ,aB];unfold okN
    cases hf:VQ l[j] (wS a.1 l[j]) (noE a.2) with
    |false=>rw[aD (by rfl),aZJ,if_pos rfl]; rfl
    |true =>
     have hx:=aLY hc hjl hI hf
     rw[aC (by rfl),GM hn hu,aB,aZO]
     cases ha:zH l[j] with
     |false=>rw[aD (by rfl),if_pos rfl]; rfl
     |true =>
      rw[aC (by rfl),if_neg (by simp),aO7 hn hu ha (aKK (by omega) hI hx),aB]
      by_cases he:(dA a.2 l[j]).1=0
      ·have htk:toN (dep l[j])=(dep l[j]).toNat:=rfl
       rw[aC (cQ he),if_neg (by simpa using he),hofN,aG (eQ (by simp only[aE,len,aYR,aY9]; omega)),htk];refine(hself (a.1.take (dep l[j]).toNat++[l[j].1],(dA a.2 l[j]).2) (j+1) (by omega) (by omega) (VS hs hjl hI hx)).trans ?_
       have e3:l.length-(l.drop (j+1)).length=j+1:=by rw[aYV]; omega
       rw[e3]
      ·rw[aD (cP he),if_pos (by simpa using he)];rfl
   ·obtain rfl:j=l.length:=by omega
    have hsm:=JN hI hl (by rw[aYY]; exact hb)
    dsimp only;rw[aC (aX (by simp only[len]; omega)),aY1,bQ (jA hsm)];unfold goS aKH
    by_cases h:cK a.2=0
    ·rw[aC (cQ h),if_neg (by simpa using h)]
    ·rw[aD (cP h),if_pos h];rfl
 ·rw[aD (cP hc),if_pos hc];rfl
theorem aHK(s:Y_):lP fuelH s=some (s.take 900):=by
 unfold lP;obtain⟨e1,e2⟩:=aFN s 900
 have e1:bO (toN (kY (len s) (900:Int))) s=_:=e1
 rw[aG (show in2 (kY (len s) (900:Int)) (len s)=true from e2),e1]
theorem uV{s:Ls}(hs:s.length≤262144):((lI s).2=[]∧mO (lI s).1=0∧bkL wtN (lI s).1≤10*s.length)∨(lI s).2.length=1:=by
 have hpp:lI s=aO4 s (kU s.length p0 s):=by
  unfold lI;rw[if_neg (by omega)]
 cases hq:kU s.length p0 s with
 |mk l d =>
  rw[hpp,hq]
  cases d with
  |some y =>
   obtain⟨i,e⟩:=y;exact Or.inr rfl
  |none =>
   have hV:=FM (n:=s.length) _ s p0 0 (aZ0 _) (by omega) ⟨rfl,aZ1 _,fun _=>⟨rfl,rfl⟩,fun q hq=>(by cases hq),aZ1 _⟩ hq
   exact Or.inl ⟨rfl,hV.1,hV.2⟩
def aO9(s:Ls):Doc×List (Int×Int×Int) :=
 if(lI s).2≠[] then(noD0,(lI s).2) else if(gV (lI s).1).2.2≠0 then(noD0,[(1,1,(gV (lI s).1).2.2)]) else((gV (lI s).1).1,[])
theorem aAB{α:Type}(l:List α):ilt 0 (len l)=decide (l≠[]):=by
 cases l with
 |nil=>rfl
 |cons x l=>rw[aW (by simp only[len,aYR]; omega),decide_eq_true (by simp)]
theorem aCM{s:Ls}(hs:s.length≤100000):NB fuelH s=some (aO9 s):=by
 unfold NB aO9;rw[VE (by omega),aB,aAB];rcases uV (s:=s) (by omega) with⟨h,hc,hb⟩|h
 ·rw[h,aC (by rfl),if_neg (by simp),FT (X2 (by omega)) (by omega),aB]
  by_cases e:(gV (lI s).1).2.2=0
  ·rw[aC (cQ e),if_neg (by simpa using e)]
  ·rw[aD (cP e),if_pos e];rfl
 ·have hne:(lI s).2≠[]:=fun k=>by rw[k] at h; cases h
  rw[aD (decide_eq_true hne),if_pos hne];rfl
theorem JO(a:Nat) (l:Y_) (c:UInt8):jC a (l++[c])=jC a l*10+(c.toNat-48):=by
 unfold jC;rw[List.foldl_append,List.foldl_cons,List.foldl_nil];rfl
theorem wV{k:Nat}(h:k<10):(UInt8.ofNat (48+k)).toNat=48+k:=by
 rw[UInt8.toNat_ofNat'];exact Nat.mod_eq_of_lt (by omega)
theorem VT{k:Nat}(h:k<10):rR (UInt8.ofNat (48+k))=true:=by
 unfold rR n8;rw[wV h];exact decide_eq_true ⟨by omega,by omega⟩
theorem FU(n u:Nat):fA (n+1) u []=if 10≤u then fA n (u / 10) []++[UInt8.ofNat (48+u%10)] else [UInt8.ofNat (48+u)]:=by
 show aQ (Nat.ble 10 u) (fA n (u / 10) [UInt8.ofNat (48+u%10)]) [UInt8.ofNat (48+u)]=_
 by_cases h:10≤u
 ·rw[if_pos h,Nat.ble_eq_true_of_le h,yS n (u / 10) [UInt8.ofNat (48+u%10)]];rfl
 ·have:Nat.ble 10 u=false:=by
   cases e:Nat.ble 10 u with
   |false=>rfl
   |true=>exact absurd (aXL e) h
  rw[if_neg h,this];rfl
theorem zK:∀(n u:Nat),0<n→u<10^n→jC 0 (fA n u [])=u∧(∀c∈fA n u [],rR c=true)∧fA n u []≠[]∧(1≤u→(fA n u []).headD 0≠48):=by
 intro n
 induction n with
 |zero=>intro u h; omega
 |succ n ih =>
  intro u _ hu;rw[FU]
  by_cases h:10≤u
  ·rw[if_pos h]
   have hn:0<n:=by
    cases n with
    |zero=>simp at hu; omega
    |succ n=>omega
   obtain⟨i1,i2,i3,i4⟩:=ih (u / 10) hn (by rw[Nat.pow_succ] at hu; omega)
   have hm:u%10<10:=Nat.mod_lt _ (by omega)
   refine⟨?_,?_,by simp,fun _=>?_⟩
   ·rw[JO,i1,wV hm]; omega
   ·intro c hc;rw[aY4,aYG] at hc;rcases hc with hc|rfl
    ·exact i2 c hc
    ·exact VT hm
   ·have:=i4 (by omega)
    cases e:fA n (u / 10) [] with
    |nil=>exact absurd e i3
    |cons c t=>rw[e] at this; exact this
  ·rw[if_neg h]
   have hlt:u<10:=by omega
   refine⟨?_,?_,by simp,fun h1=>?_⟩
   ·have:=JO 0 [] (UInt8.ofNat (48+u))
    rw[aZA,wO,wV hlt] at this;omega
   ·intro c hc;rw[aYG] at hc;rw[hc];exact VT hlt
   ·show UInt8.ofNat (48+u)≠48;intro k
    have:=congrArg UInt8.toNat k
    rw[wV hlt] at this
    have e48:(48:UInt8).toNat=48:=rfl
    omega
theorem wW{n:Int}(h0:0≤n):dO n=fA 20 n.toNat []:=by
 obtain⟨k,rfl⟩:∃k:Nat,n=(k:Int):=⟨n.toNat,by omega⟩;rfl
theorem sR{n:Int}(h0:0≤n) (h1:n≤9223372036854775807):dO n≠[]:=by
 rw[wW h0];exact(zK 20 n.toNat (by omega) (by omega)).2.2.1
theorem mS{n hi:Int}(h0:0≤n) (h1:n≤9223372036854775807) (h2:n≤hi):VL (dO n) hi=(n,0):=by
 rw[wW h0];obtain⟨e1,e2,e3,e4⟩:=zK 20 n.toNat (by omega) (by omega)
 have hz:n.toNat=0→fA 20 n.toNat []=[48]:=fun h=>by rw[h]; rfl
 generalize fA 20 n.toNat []=s at *
 have hh:s.head?≠some 45:=by
  intro k
  cases s with
  |nil=>cases k
  |cons c t =>
   have:c=45:=by simpa using k
   have hd:=e2 c aYE
   rw[this] at hd;exact absurd hd (by decide)
 unfold VL O8;rw[if_neg hh,if_neg e3]
 have h48:¬(s.headD 0=48∧(1<s.length∨(false:Bool)=true)):=by
  intro k
  have hl:1<s.length:=k.2.resolve_right (by simp)
  by_cases hn:n.toNat=0
  ·rw[hz hn] at hl; simp at hl
  ·exact e4 (by omega) k.1
 have hany:s.any (fun c=>!rR c)=false:=by
  rw[List.any_eq_false];intro c hc;rw[e2 c hc];simp
 rw[if_neg h48,hany,if_neg nft,if_neg nft,e1,if_neg (by omega)]
 have:((n.toNat:Nat):Int)=n:=by omega
 rw[this]
theorem VU{n:Int}(h0:0≤n) (h2:n≤5184000):aCK (dO n++[102])=(n,0):=by
 unfold aCK;rw[List.getLast?_concat,if_pos rfl,List.dropLast_concat];exact mS h0 (by omega) h2
theorem JP(name:Ln):∀l:List At,name ∉ l.map Prod.fst→bL name l=([],false)
 | [],_=>rfl
 |a::l,h=>by
  simp only[aZM,aZL,not_or] at h;unfold bL;rw[if_neg (fun k=>h.1 k.symm)];exact JP name l h.2
theorem pK:∀(l:List At) (x:Ln),x∈(eR l).map Prod.fst→x∈l.map Prod.fst
 | [],x,h=>h
 |a::l,x,h=>by
  have e:eR (a::l)=kW a++eR l:=rfl
  rw[e,aZD,aY4] at h;rw[aZM,aZL];rcases h with h|h
  ·unfold kW at h
   split at h
   ·cases h
   ·exact Or.inl (by simpa using h)
  ·exact Or.inr (pK l x h)
theorem FV(name:Ln):∀l:List At,(l.map Prod.fst).Nodup→bL name (eR l)=if(bL name l).1=[] then([],false) else((bL name l).1,true)
 | [],_=>rfl
 |a::l,h=>by
  rw[aZM,List.nodup_cons] at h
  have ih:=FV name l h.2
  have e:eR (a::l)=kW a++eR l:=rfl
  rw[e];unfold kW
  by_cases h1:a.2=[]
  ·rw[if_pos h1,aZA]
   by_cases h2:a.1=name
   ·have:name ∉ (eR l).map Prod.fst:=fun k=>h.1 (h2 ▸ pK l name k)
    have e2:bL name (a::l)=(a.2,true):=by unfold bL; rw[if_pos h2]
    rw[JP name _ this,e2,h1,if_pos rfl]
   ·have e2:bL name (a::l)=bL name l:=by
     show(if a.1=name then _ else _)=_;rw[if_neg h2]
    rw[e2];exact ih
  ·rw[if_neg h1]
   by_cases h2:a.1=name
   ·have e2:bL name (a::l)=(a.2,true):=by unfold bL; rw[if_pos h2]
    rw[e2,if_neg h1];show(if a.1=name then _ else _)=_;rw[if_pos h2]
   ·have e2:bL name (a::l)=bL name l:=by
     show(if a.1=name then _ else _)=_;rw[if_neg h2]
    rw[e2,←ih];show(if a.1=name then _ else bL name (eR l))=_;rw[if_neg h2]
theorem FW:∀l:List At,(l.map Prod.fst).Nodup→((eR l).map Prod.fst).Nodup
 | [],h=>h
 |a::l,h=>by
  rw[aZM,List.nodup_cons] at h
  have ih:=FW l h.2
  have e:eR (a::l)=kW a++eR l:=rfl
  rw[e];unfold kW
  split
  ·exact ih
  ·show(a.1::(eR l).map Prod.fst).Nodup;rw[List.nodup_cons];exact⟨fun k=>h.1 (pK l _ k),ih⟩
theorem uW{k:Int}{n:Ln}{l:List At}(h:(l.map Prod.fst).Nodup) (name:Ln):cU (elQ k n l) name=(bL name l).1∧pH (elQ k n l) name=decide ((bL name l).1≠[]):=by
 have:=FV name l h
 constructor
 ·show(bL name (eR l)).1=_;rw[this]
  by_cases e:(bL name l).1=[]
  ·rw[if_pos e,e]
  ·rw[if_neg e]
 ·show(bL name (eR l)).2=_;rw[this]
  by_cases e:(bL name l).1=[]
  ·rw[if_pos e,decide_eq_false (by simpa using e)]
  ·rw[if_neg e,decide_eq_true e]
theorem PP{k:Int}{n:Ln}{l:List At}(h:(l.map Prod.fst).Nodup) (h1:∀x∈l.map Prod.fst,x∈zF n) (h2:∀w∈jP n,(bL w l).1≠[]):zH (elQ k n l)=true:=by
 unfold zH;rw[aYS,aY0,aY0];refine⟨fun a ha=>?_,fun w hw=>?_⟩
 ·rw[aXS];exact h1 _ (pK l _ (List.mem_map_of_mem ha))
 ·rw[aXS];refine(zB w _).1 ?_
  have:=(uW (k:=k) (n:=n) h w).2
  rw[decide_eq_true (h2 w hw)] at this;exact this
theorem aCN{r:UInt8}(h:1≤n8 r∧n8 r≤7):FR (lF r)=(r,0)∧lF r≠[]:=by
 have:=of_decide_eq_true (gU (P:=fun r=>decide (1≤n8 r∧n8 r≤7→FR (lF r)=(r,0)∧lF r≠[])) (by rfl) r)
 exact this h
theorem aCO{k:UInt8}(h:1≤n8 k∧n8 k≤4):tD (tB k)=(k,0)∧tB k≠[]:=by
 have:=of_decide_eq_true (gU (P:=fun r=>decide (1≤n8 r∧n8 r≤4→tD (tB r)=(r,0)∧tB r≠[])) (by rfl) k)
 exact this h
def chV(tab:List Ln) (v:Ln):Int×Int:=if v=[] then(0,0) else match PI tab v with|some i=>((i:Int),0)|none=>(0,4)
theorem JQ{k:Int}{n:Ln}{l:List At}(h:(l.map Prod.fst).Nodup) (tab:List Ln) (name:Ln):chT tab (elQ k n l) name=chV tab (bL name l).1:=by
 unfold chT chV;rw[(uW h name).1,(uW h name).2]
 by_cases e:(bL name l).1=[]
 ·rw[if_pos (by simpa using e),if_pos e]
 ·rw[if_neg (by simpa using e),if_neg e]<;>rfl
theorem P3{c:UInt8}(h:n8 c≤6):b8 (chV gl1 (GK c)).1=c∧(chV gl1 (GK c)).2=0:=by
 have:=of_decide_eq_true (gU (P:=fun c=>decide (n8 c≤6→b8 (chV gl1 (GK c)).1=c∧(chV gl1 (GK c)).2=0)) (by rfl) c)
 exact this h
theorem P4{a:UInt8}(h:1≤n8 a∧n8 a≤3):b8 (w64 (aE (chV gl0 (uP a)).1 1))=a∧(chV gl0 (uP a)).2=0∧uP a≠[]:=by
 have:=of_decide_eq_true (gU (P:=fun a=>decide (1≤n8 a∧n8 a≤3→b8 (w64 (aE (chV gl0 (uP a)).1 1))=a∧(chV gl0 (uP a)).2=0∧uP a≠[])) (by rfl) a)
 exact this h
theorem VV(b:Bool):ieq (chV [[84,79,80],[66,79,84,84,79,77]] (if b then [66,79,84,84,79,77] else [84,79,80])).1 1=b∧(chV [[84,79,80],[66,79,84,84,79,77]] (if b then [66,79,84,84,79,77] else [84,79,80])).2=0∧(if b then [66,79,84,84,79,77] else [84,79,80]:Ln)≠[]:=by
 cases b
 ·exact⟨by rfl,by rfl,by decide⟩
 ·exact⟨by rfl,by rfl,by decide⟩
theorem zL(b:Bool):ieq (chV [[48],[49]] (UU b)).1 1=b∧(chV [[48],[49]] (UU b)).2=0:=by cases b<;>exact⟨by rfl,by rfl⟩
abbrev Hd5:=Ln×Ln×UInt8×Bool×Int
def mkD(h:Hd5) (rs:List Reg) (evs:List Ev):Doc:=(h.1,h.2.1,h.2.2.1,h.2.2.2.1,h.2.2.2.2,rs,evs,[])
def dE(h:Hd5) (rs:List Reg) (es:List Ev) (e:Ev) (rows:List Row):Doc:=mkD h rs (es++[(e.1,e.2.1,e.2.2.1,e.2.2.2.1,e.2.2.2.2.1,rows)])
theorem FX(h:Hd5) (rs:List Reg) (es:List Ev) (e:Ev) (rows:List Row):bZ (dE h rs es e rows)=rows:=by
 show(aM (es++[_]) evY).2.2.2.2.2=rows;rw[jD]
theorem PQ(h:Hd5) (rs:List Reg) (es:List Ev) (e:Ev) (rows rows':List Row):mR (dE h rs es e rows) rows'=dE h rs es e rows':=by
 unfold mR dE mkD;dsimp only;rw[jD,hY]
theorem sS{i:Nat}{op:List Ln}{d d':Doc}{n:Nd}{r:List Nd}(h1:okN op d n=true) (h2:dA d n=(0,d')):goS i op d (n::r)=goS (i+1) (op.take (dep n).toNat++[n.1]) d' r:=by
 have e:goS i op d (n::r)=if okN op d n=false then(noD0,(i:Int),4) else if(dA d n).1≠0 then(noD0,(i:Int),(dA d n).1) else goS (i+1) (op.take (dep n).toNat++[n.1]) (dA d n).2 r:=rfl
 rw[e,h1,if_neg (by simp),h2,if_neg (by simp)]
theorem wX{α:Type}{P:List Ln→Prop}{Q:α→Prop}{g:α→List Nd}{D:List α→Doc}(hs:∀x i op acc r,Q x→P op→∃i' op',P op'∧goS i op (D acc) (g x++r)=goS i' op' (D (acc++[x])) r) :
  ∀(l:List α) (acc:List α) (i:Nat) (op:List Ln) (r:List Nd),(∀x∈l,Q x)→P op→∃i' op',P op'∧goS i op (D acc) (l.flatMap g++r)=goS i' op' (D (acc++l)) r
 | [],acc,i,op,r,_,hp=>⟨i,op,hp,by simp⟩
 |x::l,acc,i,op,r,hq,hp=>by
  obtain⟨i1,op1,p1,e1⟩:=hs x i op acc (l.flatMap g++r) (hq x aYE) hp;obtain⟨i2,op2,p2,e2⟩:=wX hs l (acc++[x]) i1 op1 r (fun y hy=>hq y (aXV _ hy)) p1;refine⟨i2,op2,p2,?_⟩;rw[List.flatMap_cons,aYK,e1,e2,aYK];rfl
theorem VW{op:List Ln}{d:Doc}{n:Nd}(h1:VQ n (wS op n) (noE d)=true) (h2:zH n=true):okN op d n=true:=by unfold okN; rw[h1,h2]; rfl
theorem sT{op z:List Ln}{k:Nat}(h:op.take (k+1)=z) (hz:z.length=k+1):op.getD k []=z.getD k []:=by
 rw[←h,aW4,aW4,List.getElem?_take_of_lt (by omega)]
theorem zM(u:Run):((jF u).map Prod.fst).Nodup:=(by decide:([[99,111,108,111,114],[105,116,97,108,105,99],[117,110,100,101,114,108,105,110,101],[114,117,98,121]]:List Ln).Nodup)
theorem aPA(h:Hd5) (rs:List Reg) (es:List Ev) (e:Ev) (rows:List Row) (u:Run) (i:Nat) (op:List Ln) (acc:List Run) (r:List Nd) (hu:n8 u.2.1.1≤6) (hp:op.take 3=[[116,116],[112],[114,111,119]]) :
  ∃i' op',op'.take 3=[[116,116],[112],[114,111,119]]∧goS i op (dE h rs es e (rows++[acc])) (uQ u++r)=goS i' op' (dE h rs es e (rows++[acc++[u]])) r:=by
 have hn:=zM u
 have e1:uQ u++r=elQ 3 [114,117,110] (jF u)::(([],u.1,[],4):Nd)::r:=rfl
 have a1:okN op (dE h rs es e (rows++[acc])) (elQ 3 [114,117,110] (jF u))=true:=by
  refine VW ?_ (PP hn (fun x hx=>hx) (fun w hw=>by cases hw))
  have:wS op (elQ 3 [114,117,110] (jF u))=[114,111,119]:=(sT (k:=2) hp rfl)
  rw[this];rfl
 have v:∀w,cU (elQ 3 [114,117,110] (jF u)) w=(bL w (jF u)).1:=fun w=>(uW hn w).1
 have hc:=P3 hu
 have hi:=zL u.2.1.2.1
 have hud:=zL u.2.1.2.2
 have fc:FQ (elQ 3 [114,117,110] (jF u))=(u.2.1.1,0):=by
  unfold FQ;rw[JQ hn];exact Prod.ext hc.1 hc.2
 have fi:flT (elQ 3 [114,117,110] (jF u)) [105,116,97,108,105,99]=(u.2.1.2.1,0):=by
  unfold flT;rw[JQ hn];exact Prod.ext hi.1 hi.2
 have fu:flT (elQ 3 [114,117,110] (jF u)) [117,110,100,101,114,108,105,110,101]=(u.2.1.2.2,0):=by
  unfold flT;rw[JQ hn];exact Prod.ext hud.1 hud.2
 have a2:dA (dE h rs es e (rows++[acc])) (elQ 3 [114,117,110] (jF u))=(0,dE h rs es e (rows++[acc++[([],u.2.1,u.2.2)]])):=by
  have:dA (dE h rs es e (rows++[acc])) (elQ 3 [114,117,110] (jF u))=VP (dE h rs es e (rows++[acc])) (elQ 3 [114,117,110] (jF u)):=rfl
  rw[this];unfold VP rV;rw[fc,fi,fu,v,PQ];unfold dJ;rw[FX,jD,hY];rfl
 rw[e1,sS a1 a2]
 have ho:op.take (dep (elQ 3 [114,117,110] (jF u))).toNat++[(elQ 3 [114,117,110] (jF u)).1]=[[116,116],[112],[114,111,119],[114,117,110]]:=by
  show op.take 3++[[114,117,110]]=_;rw[hp]; rfl
 rw[ho]
 have b2:dA (dE h rs es e (rows++[acc++[([],u.2.1,u.2.2)]])) (([],u.1,[],4):Nd)=(0,dE h rs es e (rows++[acc++[u]])):=by
  have:dA (dE h rs es e (rows++[acc++[([],u.2.1,u.2.2)]])) (([],u.1,[],4):Nd)=aHI (dE h rs es e (rows++[acc++[([],u.2.1,u.2.2)]])) (([],u.1,[],4):Nd):=rfl
  rw[this];unfold aHI dJ;rw[PQ,FX,jD,jD,hY,hY]
 exact⟨i+1+1,_,by rfl,sS (by rfl) b2⟩
theorem aPB(h:Hd5) (rs:List Reg) (es:List Ev) (e:Ev) (row:Row) (i:Nat) (op:List Ln) (acc:List Row) (r:List Nd) (hu:∀u∈row,n8 u.2.1.1≤6) (hp:op.take 2=[[116,116],[112]]) :
  ∃i' op',op'.take 2=[[116,116],[112]]∧goS i op (dE h rs es e acc) (kL row++r)=goS i' op' (dE h rs es e (acc++[row])) r:=by
 have e1:kL row++r=elQ 2 [114,111,119] []::(row.flatMap uQ++r):=rfl
 have a1:okN op (dE h rs es e acc) (elQ 2 [114,111,119] [])=true:=by
  refine VW ?_ (by rfl)
  have:wS op (elQ 2 [114,111,119] [])=[112]:=(sT (k:=1) hp rfl)
  rw[this];rfl
 have a2:dA (dE h rs es e acc) (elQ 2 [114,111,119] [])=(0,dE h rs es e (acc++[[]])):=by
  have:dA (dE h rs es e acc) (elQ 2 [114,111,119] [])=(0,mR (dE h rs es e acc) (bZ (dE h rs es e acc)++[[]])):=rfl
  rw[this,PQ,FX]
 rw[e1,sS a1 a2]
 have ho:op.take (dep (elQ 2 [114,111,119] [])).toNat++[(elQ 2 [114,111,119] []).1]=[[116,116],[112],[114,111,119]]:=by
  show op.take 2++[[114,111,119]]=_;rw[hp]; rfl
 rw[ho];obtain⟨i',op',p',e'⟩:=wX (P:=fun op=>op.take 3=[[116,116],[112],[114,111,119]]) (Q:=fun u:Run=>n8 u.2.1.1≤6) (g:=uQ) (D:=fun us=>dE h rs es e (acc++[us])) (fun u i op us r hq hp=>aPA h rs es e acc u i op us r hq hp) row [] (i+1) [[116,116],[112],[114,111,119]] r hu rfl;refine⟨i',op',?_,e'⟩
 have:=congrArg (List.take 2) p'
 rw[List.take_take] at this;exact this
theorem aKN{x:Ev}{rs:List Reg}(h:oG x rs=0):1≤n8 x.2.2.2.1∧n8 x.2.2.2.1≤4:=by
 unfold oG at h
 split at h
 ·cases h
 split at h
 ·cases h
 split at h
 ·cases h
 split at h
 ·cases h
 split at h
 ·cases h
 ·rename_i hk;exact Decidable.of_not_not hk
structure EvQ (e:Ev):Prop where
 id:1≤e.1∧e.1≤1099511627776
 sp:0≤e.2.1.1∧e.2.1.1≤5184000∧0≤e.2.1.2∧e.2.1.2≤5184000
 kd:1≤n8 e.2.2.2.1∧n8 e.2.2.2.1≤4
 co:∀l∈e.2.2.2.2.2,∀u∈l,n8 u.2.1.1≤6
theorem FY(e:Ev):((evA e).map Prod.fst).Nodup:=(by decide:([[105,100],[105,110],[111,117,116],[114,101,103,105,111,110],[107,105,110,100],[115,112,101,97,107,101,114]]:List Ln).Nodup)
theorem aV6(h:Hd5) (rs:List Reg) (e:Ev) (i:Nat) (op:List Ln) (acc:List Ev) (r:List Nd) (he:EvQ e) (hp:op.take 1=[[116,116]]) :
  ∃i' op',op'.take 1=[[116,116]]∧goS i op (mkD h rs acc) (evN e++r)=goS i' op' (mkD h rs (acc++[e])) r:=by
 have hn:=FY e
 obtain⟨i1,i2⟩:=he.id;obtain⟨s1,s2,s3,s4⟩:=he.sp
 have hk:=aCO he.kd
 have e1:evN e++r=elQ 1 [112] (evA e)::(e.2.2.2.2.2.flatMap kL++r):=rfl
 have v:∀w,cU (elQ 1 [112] (evA e)) w=(bL w (evA e)).1:=fun w=>(uW hn w).1
 have a1:okN op (mkD h rs acc) (elQ 1 [112] (evA e))=true:=by
  refine VW ?_ (PP hn (fun x hx=>hx) (fun w hw=>?_))
  ·have:wS op (elQ 1 [112] (evA e))=[116,116]:=(sT (k:=0) hp rfl)
   rw[this];rfl
  ·have hw:w∈[[105,100],[105,110],[111,117,116],[107,105,110,100]]:=hw
   simp only[aZL,List.not_mem_nil,or_false] at hw;rcases hw with rfl|rfl|rfl|rfl
   ·exact sR (by omega) (by omega)
   ·show dO e.2.1.1++[102]≠[]; simp
   ·show dO e.2.1.2++[102]≠[]; simp
   ·exact hk.2
 have n1:fS (elQ 1 [112] (evA e)) [105,100] pS=(e.1,0):=by
  unfold fS; rw[v]; exact mS (by omega) (by omega) (by unfold pS; omega)
 have n2:rS (elQ 1 [112] (evA e)) [105,110]=(e.2.1.1,0):=by
  unfold rS; rw[v]; exact VU s1 s2
 have n3:rS (elQ 1 [112] (evA e)) [111,117,116]=(e.2.1.2,0):=by
  unfold rS; rw[v]; exact VU s3 s4
 have n4:tD (cU (elQ 1 [112] (evA e)) [107,105,110,100])=(e.2.2.2.1,0):=by rw[v]; exact hk.1
 have a2:dA (mkD h rs acc) (elQ 1 [112] (evA e))=(0,dE h rs acc e []):=by
  have:dA (mkD h rs acc) (elQ 1 [112] (evA e))=oQ (mkD h rs acc) (elQ 1 [112] (evA e)):=rfl
  rw[this];unfold oQ evT;rw[n1,n2,n3,n4,v,v];rfl
 rw[e1,sS a1 a2]
 have ho:op.take (dep (elQ 1 [112] (evA e))).toNat++[(elQ 1 [112] (evA e)).1]=[[116,116],[112]]:=by
  show op.take 1++[[112]]=_;rw[hp]; rfl
 rw[ho];obtain⟨i',op',p',e'⟩:=wX (P:=fun op=>op.take 2=[[116,116],[112]]) (Q:=fun l:Row=>∀u∈l,n8 u.2.1.1≤6) (g:=kL) (D:=fun rows=>dE h rs acc e rows) (fun l i op rows r hq hp=>aPB h rs acc e l i op rows r hq hp) e.2.2.2.2.2 [] (i+1) [[116,116],[112]] r he.co rfl;refine⟨i',op',?_,e'⟩
 have:=congrArg (List.take 1) p'
 rw[List.take_take] at this;exact this
theorem zO(g:Reg):((jN g).map Prod.fst).Nodup:=(by decide:([[110,97,109,101],[116,111,112],[104,101,105,103,104,116],[108,101,102,116],[119,105,100,116,104],[97,108,105,103,110],[97,110,99,104,111,114]]:List Ln).Nodup)
theorem aPC(h:Hd5) (g:Reg) (i:Nat) (op:List Ln) (acc:List Reg) (r:List Nd) (hg:eC g=0) (hp:op.take 1=[[116,116]]) :
  ∃i' op',op'.take 1=[[116,116]]∧goS i op (mkD h acc []) (rM g++r)=goS i' op' (mkD h (acc++[g]) []) r:=by
 have hn:=zO g
 obtain⟨q1,q2,q3,q4,q5,q6,q7⟩:=sM hg
 have e1:rM g++r=elQ 1 [114,101,103,105,111,110] (jN g)::r:=rfl
 have v:∀w,cU (elQ 1 [114,101,103,105,111,110] (jN g)) w=(bL w (jN g)).1:=fun w=>(uW hn w).1
 have hal:=P4 (a:=g.2.2.2.2.2.1) ⟨q6,q7⟩
 have han:=VV g.2.2.2.2.2.2
 have hnm:g.1≠[]:=fun k=>by rw[k] at q1; cases q1
 have a1:okN op (mkD h acc []) (elQ 1 [114,101,103,105,111,110] (jN g))=true:=by
  refine VW ?_ (PP hn (fun x hx=>hx) (fun w hw=>?_))
  ·have:wS op (elQ 1 [114,101,103,105,111,110] (jN g))=[116,116]:=(sT (k:=0) hp rfl)
   rw[this];rfl
  ·have hw:w∈[[110,97,109,101],[116,111,112],[104,101,105,103,104,116],[108,101,102,116],[119,105,100,116,104],[97,108,105,103,110],[97,110,99,104,111,114]]:=hw
   simp only[aZL,List.not_mem_nil,or_false] at hw;rcases hw with rfl|rfl|rfl|rfl|rfl|rfl|rfl
   ·exact hnm
   ·exact sR (by omega) (by omega)
   ·exact sR (by omega) (by omega)
   ·exact sR (by omega) (by omega)
   ·exact sR (by omega) (by omega)
   ·exact hal.2.2
   ·exact han.2.2
 have n1:fS (elQ 1 [114,101,103,105,111,110] (jN g)) [116,111,112] 32=(g.2.1,0):=by unfold fS; rw[v]; exact mS (by omega) (by omega) (by omega)
 have n2:fS (elQ 1 [114,101,103,105,111,110] (jN g)) [104,101,105,103,104,116] 32=(g.2.2.1,0):=by unfold fS; rw[v]; exact mS (by omega) (by omega) (by omega)
 have n3:fS (elQ 1 [114,101,103,105,111,110] (jN g)) [108,101,102,116] 32=(g.2.2.2.1,0):=by unfold fS; rw[v]; exact mS (by omega) (by omega) (by omega)
 have n4:fS (elQ 1 [114,101,103,105,111,110] (jN g)) [119,105,100,116,104] 32=(g.2.2.2.2.1,0):=by unfold fS; rw[v]; exact mS (by omega) (by omega) (by omega)
 have c1:chT gl0 (elQ 1 [114,101,103,105,111,110] (jN g)) [97,108,105,103,110]=chV gl0 (uP g.2.2.2.2.2.1):=JQ hn gl0 [97,108,105,103,110]
 have c2:chT [[84,79,80],[66,79,84,84,79,77]] (elQ 1 [114,101,103,105,111,110] (jN g)) [97,110,99,104,111,114]=chV [[84,79,80],[66,79,84,84,79,77]] (if g.2.2.2.2.2.2 then [66,79,84,84,79,77] else [84,79,80]):=JQ hn _ [97,110,99,104,111,114]
 have a2:dA (mkD h acc []) (elQ 1 [114,101,103,105,111,110] (jN g))=(0,mkD h (acc++[g]) []):=by
  have:dA (mkD h acc []) (elQ 1 [114,101,103,105,111,110] (jN g))=rU (mkD h acc []) (elQ 1 [114,101,103,105,111,110] (jN g)):=rfl
  rw[this];unfold rU PM;rw[n1,n2,n3,n4,c1,c2,hal.1,hal.2.1,han.1,han.2.1,v];rfl
 rw[e1,sS a1 a2];refine⟨i+1,_,?_,rfl⟩;show(op.take 1++[[114,101,103,105,111,110]]).take 1=_;rw[hp]; rfl
theorem FZ{d:Doc}(h:iZ d=0):vld d.1=true∧d.1.length≤400∧(d.2.1=[]∨nm d.2.1=true)∧tvB d.2.2.1=true:=by
 unfold iZ at h
 split at h
 ·cases h
 rename_i c1
 split at h
 ·cases h
 rename_i c2
 split at h
 ·cases h
 rename_i c3
 split at h
 ·cases h
 rename_i c4;refine⟨by simpa using c1,by omega,?_,?_⟩
 ·by_cases e:d.2.1=[]
  ·exact Or.inl e
  ·refine Or.inr ?_
   cases hn:nm d.2.1 with
   |true=>rfl
   |false=>exact absurd ⟨e,hn⟩ c3
 ·cases ht:tvB d.2.2.1 with
  |true=>rfl
  |false=>exact absurd (Or.inl ht) c4
theorem aPD:((List.range 256).all fun n=>decide (tvB (UInt8.ofNat n)=true→1≤n8 (UInt8.ofNat n)∧n8 (UInt8.ofNat n)≤7))=true:=by kernel_rfl
theorem aV7{r:UInt8}(h:tvB r=true):1≤n8 r∧n8 r≤7 :=
 of_decide_eq_true (gU (P:=fun r=>decide (tvB r=true→1≤n8 r∧n8 r≤7)) aPD r) h
theorem GA(d:Doc):((iI d).map Prod.fst).Nodup:=(by decide:([[116,105,116,108,101],[108,97,110,103],[114,97,116,101],[100,114,111,112],[108,97,115,116]]:List Ln).Nodup)
def hdO(d:Doc):Hd5:=(d.1,d.2.1,d.2.2.1,d.2.2.2.1,d.2.2.2.2.1)
theorem aKO{d:Doc}(h:cK d=0) (r:List Nd):goS 0 [] noD0 (elQ 0 [116,116] (iI d)::r)=goS 1 [[116,116]] (mkD (hdO d) [] []) r:=by
 have hn:=GA d
 obtain⟨_,_,_,h4⟩:=FZ (lR h).1;obtain⟨l1,l2⟩:=FB h
 have hr:=aCN (aV7 h4)
 have hf:=zL d.2.2.2.1
 have v:∀w,cU (elQ 0 [116,116] (iI d)) w=(bL w (iI d)).1:=fun w=>(uW hn w).1
 have a1:okN [] noD0 (elQ 0 [116,116] (iI d))=true:=by
  refine VW (by rfl) (PP hn (fun x hx=>hx) (fun w hw=>?_))
  have hw:w∈([[114,97,116,101],[108,97,115,116]]:List Ln):=hw
  simp only[aZL,List.not_mem_nil,or_false] at hw;rcases hw with rfl|rfl
  ·exact hr.2
  ·exact sR l1 (by omega)
 have n1:fS (elQ 0 [116,116] (iI d)) [108,97,115,116] pS=(d.2.2.2.2.1,0):=by
  unfold fS; rw[v]; exact mS l1 (by omega) (by unfold pS; omega)
 have n2:FR (cU (elQ 0 [116,116] (iI d)) [114,97,116,101])=(d.2.2.1,0):=by rw[v]; exact hr.1
 have n3:flT (elQ 0 [116,116] (iI d)) [100,114,111,112]=(d.2.2.2.1,0):=by
  unfold flT;rw[JQ hn];exact Prod.ext hf.1 hf.2
 have a2:dA noD0 (elQ 0 [116,116] (iI d))=(0,mkD (hdO d) [] []):=by
  have:dA noD0 (elQ 0 [116,116] (iI d))=pT noD0 (elQ 0 [116,116] (iI d)):=rfl
  rw[this];unfold pT;rw[n1,n2,n3,v,v];rfl
 exact sS a1 a2
theorem aKP{d:Doc}(h:cK d=0):cK (FO d)=0:=by
 unfold cK at h
 split at h
 ·rename_i hc; exact absurd h hc
 rename_i c1
 split at h
 ·rename_i hc; exact absurd h hc
 rename_i c2
 split at h
 ·cases h
 rename_i c3
 split at h
 ·rename_i hc; exact absurd h hc
 rename_i c4
 have e1:iZ (FO d)=iZ d:=rfl
 have e2:uN (FO d)=uN d:=rfl
 have e3:sL (FO d)=0:=by
  unfold sL;rw[if_neg (by simp[FO])];rfl
 unfold cK;rw[e1,e2,e3,if_neg c1,if_neg (show ¬jS (FO d).2.2.2.2.2.1≠0 from c2),if_neg (show ¬400<(FO d).2.2.2.2.2.2.1.length from c3),if_neg c4]
theorem aPE{d:Doc}(h:cK d=0):∀e∈d.2.2.2.2.2.2.1,EvQ e:=fun e he=>by
 obtain⟨q1,q2,q3,q4,q5⟩:=(IY h).ev e he
 have hk:=aKN (OS (lR h).2.2 e he)
 exact⟨⟨q1,q2⟩,⟨q3.1,by omega,by omega,q3.2.2⟩,hk,fun l hl u hu=>(q5 l hl).2 u hu⟩
theorem aV8{d:Doc}(h:cK d=0) (hk:mO (iJ d)=0):gV (iJ d)=(FO d,0,0):=by
 unfold gV;rw[if_neg (by simpa using hk)]
 have e0:iJ d=elQ 0 [116,116] (iI d)::(d.2.2.2.2.2.1.flatMap rM++(d.2.2.2.2.2.2.1.flatMap evN++[])):=by
  unfold iJ;rw[aY5,aYK];rfl
 rw[e0,aKO h];obtain⟨i1,op1,p1,e1⟩:=wX (P:=fun op=>op.take 1=[[116,116]]) (Q:=fun g:Reg=>eC g=0) (g:=rM) (D:=fun rs=>mkD (hdO d) rs []) (fun g i op acc r hq hp=>aPC (hdO d) g i op acc r hq hp) d.2.2.2.2.2.1 [] 1 [[116,116]] (d.2.2.2.2.2.2.1.flatMap evN++[]) (IY h).reg rfl;obtain⟨i2,op2,p2,e2⟩:=wX (P:=fun op=>op.take 1=[[116,116]]) (Q:=EvQ) (g:=evN) (D:=fun es=>mkD (hdO d) d.2.2.2.2.2.1 es) (fun e i op acc r hq hp=>aV6 (hdO d) d.2.2.2.2.2.1 e i op acc r hq hp) d.2.2.2.2.2.2.1 [] i1 op1 [] (aPE h) p1
 have e1:goS 1 [[116,116]] (mkD (hdO d) [] []) (d.2.2.2.2.2.1.flatMap rM++(d.2.2.2.2.2.2.1.flatMap evN++[]))=goS i1 op1 (mkD (hdO d) d.2.2.2.2.2.1 []) (d.2.2.2.2.2.2.1.flatMap evN++[]):=e1
 have e2:goS i1 op1 (mkD (hdO d) d.2.2.2.2.2.1 []) (d.2.2.2.2.2.2.1.flatMap evN++[])=goS i2 op2 (mkD (hdO d) d.2.2.2.2.2.1 d.2.2.2.2.2.2.1) []:=e2
 rw[e1,e2]
 have:mkD (hdO d) d.2.2.2.2.2.1 d.2.2.2.2.2.2.1=FO d:=rfl
 rw[this];unfold goS aKH;rw[if_neg (by simpa using aKP h)]
theorem aKQ:((List.range 256).all fun n=>decide (32≤n8 (UInt8.ofNat n)∧n8 (UInt8.ofNat n)≤126→dS (n8 (UInt8.ofNat n))=true∧ofR [n8 (UInt8.ofNat n)]=[UInt8.ofNat n]))=true:=by kernel_rfl
theorem lJ:∀s:Ln,(∀c∈s,32≤n8 c∧n8 c≤126)→vld s=true
 | [],_=>rfl
 |c::s,h=>by
  have ih:=lJ s fun x hx=>h x (aXV _ hx)
  obtain⟨h1,h2⟩:=of_decide_eq_true (gU (P:=fun c=>decide (32≤n8 c∧n8 c≤126→dS (n8 c)=true∧ofR [n8 c]=[c])) aKQ c) (h c aYE)
  have:=OL [n8 c] s (by rw[aZP,h1]; rfl)
  rw[h2] at this;exact this.trans ih
theorem PR{s:Ln}(h:nm s=true):vld s=true:=by
 refine lJ s fun c hc=>?_
 unfold nm at h;rw[aYS,aY0] at h
 have:=of_decide_eq_true (h.2 c hc)
 omega
theorem kM{n:Int}(h0:0≤n) (h1:n≤9223372036854775807):∀c∈dO n,32≤n8 c∧n8 c≤126:=fun c hc=>by
 rw[wW h0] at hc
 have:=of_decide_eq_true ((zK 20 n.toNat (by omega) (by omega)).2.1 c hc)
 omega
theorem aHL(c:UInt8):vld (tB c)=true:=of_decide_eq_true (gU (P:=fun c=>decide (vld (tB c)=true)) (by kernel_rfl) c)
theorem aHM(c:UInt8):vld (lF c)=true:=of_decide_eq_true (gU (P:=fun c=>decide (vld (lF c)=true)) (by kernel_rfl) c)
theorem aHN(c:UInt8):vld (uP c)=true:=of_decide_eq_true (gU (P:=fun c=>decide (vld (uP c)=true)) (by kernel_rfl) c)
theorem aHO(c:UInt8) (h:n8 c≤6):vld (GK c)=true:=of_decide_eq_true (gU (P:=fun c=>decide (n8 c≤6→vld (GK c)=true)) (by kernel_rfl) c) h
theorem GB(b:Bool):vld (UU b)=true:=by cases b<;>rfl
theorem VX:∀(l:List At) (seen:List Ln),(∀a∈l,nmX a.1=true∧vld a.2=true∧a.1 ∉ seen)→(l.map Prod.fst).Nodup→atE seen l=0
 | [],_,_,_=>rfl
 |a::l,seen,h,hn=>by
  obtain⟨h1,h2,h3⟩:=h a aYE;rw[aZM,List.nodup_cons] at hn;unfold atE;rw[h1,h2,if_neg (by simp),if_neg h3,if_neg (by simp)];refine VX l (seen++[a.1]) (fun b hb=>?_) hn.2;obtain⟨q1,q2,q3⟩:=h b (aXV _ hb);refine⟨q1,q2,fun k=>?_⟩;rw[aY4,aYG] at k;rcases k with k|k
  ·exact q3 k
  ·exact hn.1 (k ▸ List.mem_map_of_mem hb)
theorem GC:∀(l:List At) (a:At),a∈eR l→a∈l
 | [],a,h=>h
 |b::l,a,h=>by
  have e:eR (b::l)=kW b++eR l:=rfl
  rw[e,aY4] at h;rcases h with h|h
  ·unfold kW at h
   split at h
   ·cases h
   ·rw[aYG] at h; rw[h]; exact aYE
  ·exact aXV _ (GC l a h)
theorem wY{k:Int}{n:Ln}{l:List At}(hn:nmX n=true) (hl:l.length≤16) (hd:(l.map Prod.fst).Nodup) (h:∀a∈l,nmX a.1=true∧vld a.2=true):elE (elQ k n l)=0:=by
 have h1:¬nmX (elQ k n l).1=false:=by
  show ¬nmX n=false;rw[hn]; simp
 have h2:¬(elQ k n l).2.1≠[]:=by show ¬([]:Ln)≠[]; simp
 have h3:¬16<(elQ k n l).2.2.1.length:=by
  show ¬16<(eR l).length
  have:=UV l
  omega
 unfold elE;rw[if_neg h1,if_neg h2,if_neg h3];exact VX _ _ (fun a ha=>⟨(h a (GC l a ha)).1,(h a (GC l a ha)).2,by simp⟩) (FW l hd)
def oR(q:Nd):Int:=if q.1≠[] then dep q+1 else dep q
theorem aHP{q n:Nd}(h1:1≤dep n) (h2:dep n≤oR q) (h3:dep n≤15):uR (some q) n=0:=by
 have e:uR (some q) n=if dep n<1 then 8 else if oR q<dep n then 8 else if 15<dep n then 9 else 0:=rfl
 rw[e,if_neg (by omega),if_neg (by omega),if_neg (by omega)]
theorem aAC{q n:Nd}(h1:1≤dep n) (h2:dep n≤oR q) (h3:dep n≤15) (hn:n.1≠[]) (he:elE n=0):ndE (some q) n=0:=by
 unfold ndE;rw[if_neg (by rw[aHP h1 h2 h3]; simp),if_pos hn,he]
theorem aV9{q n:Nd}(h1:1≤dep n) (h2:dep n≤oR q) (h3:dep n≤15) (hq:q.1≠[]) (hn:n.1=[]) (ht:n.2.1≠[]) (ha:n.2.2.1=[]) (hv:vld n.2.1=true):ndE (some q) n=0:=by
 unfold ndE;rw[if_neg (by rw[aHP h1 h2 h3]; simp),if_neg (by simpa using hn)]
 have hp:txP (some q) n=false:=by
  show decide (q.1=[]∧dep q=dep n)=false;exact decide_eq_false fun k=>hq k.1
 unfold txE;rw[hp,if_neg nft,if_neg ht,ha,if_neg (by simp),hv,if_neg (by simp)]
theorem sU{p:Option Nd}{n:Nd}{r:List Nd}(h:ndE p n=0):ckE p (n::r)=ckE (some n) r:=by
 have e:ckE p (n::r)=if ndE p n≠0 then ndE p n else ckE (some n) r:=rfl
 rw[e,h,if_neg (by simp)]
theorem wZ{α:Type}{Q:α→Prop}{g:α→List Nd}{c:Int}(hs:∀x q r,Q x→c≤oR q→∃q',c≤oR q'∧ckE (some q) (g x++r)=ckE (some q') r) :
  ∀(l:List α) (q:Nd) (r:List Nd),(∀x∈l,Q x)→c≤oR q→∃q',c≤oR q'∧ckE (some q) (l.flatMap g++r)=ckE (some q') r
 | [],q,r,_,hc=>⟨q,hc,rfl⟩
 |x::l,q,r,hq,hc=>by
  obtain⟨q1,c1,e1⟩:=hs x q (l.flatMap g++r) (hq x aYE) hc;obtain⟨q2,c2,e2⟩:=wZ hs l q1 r (fun y hy=>hq y (aXV _ hy)) c1;refine⟨q2,c2,?_⟩;rw[List.flatMap_cons,aYK,e1,e2]
def aHQ(u:Run):Prop:=vld u.1=true∧u.1≠[]∧n8 u.2.1.1≤6∧vld u.2.2=true
theorem aPF(u:Run) (q:Nd) (r:List Nd) (h:aHQ u) (hc:3≤oR q):∃q',3≤oR q'∧ckE (some q) (uQ u++r)=ckE (some q') r:=by
 obtain⟨h1,h2,h3,h4⟩:=h
 have he:elE (elQ 3 [114,117,110] (jF u))=0:=by
  refine wY (by rfl) (by simp[jF]) (zM u) fun a ha=>?_
  simp only[jF,aZL,List.not_mem_nil,or_false] at ha;rcases ha with rfl|rfl|rfl|rfl
  ·exact⟨by rfl,aHO _ h3⟩
  ·exact⟨by rfl,GB _⟩
  ·exact⟨by rfl,GB _⟩
  ·exact⟨by rfl,h4⟩
 have e1:uQ u++r=elQ 3 [114,117,110] (jF u)::(([],u.1,[],4):Nd)::r:=rfl
 have d3:dep (elQ 3 [114,117,110] (jF u))=3:=rfl
 have d4:dep (([],u.1,[],4):Nd)=4:=rfl
 have c4:oR (elQ 3 [114,117,110] (jF u))=4:=rfl
 refine⟨([],u.1,[],4),by show(3:Int)≤4; omega,?_⟩;rw[e1,sU (aAC (by omega) (by omega) (by omega) (by show [114,117,110]≠[]; simp) he),sU (aV9 (by omega) (by omega) (by omega) (by show [114,117,110]≠[]; simp) rfl h2 rfl h1)]
theorem aPG(l:Row) (q:Nd) (r:List Nd) (h:∀u∈l,aHQ u) (hc:2≤oR q):∃q',2≤oR q'∧ckE (some q) (kL l++r)=ckE (some q') r:=by
 have he:elE (elQ 2 [114,111,119] [])=0:=wY (by rfl) (by simp) (by simp) fun a ha=>by cases ha
 have e1:kL l++r=elQ 2 [114,111,119] []::(l.flatMap uQ++r):=rfl
 have d2:dep (elQ 2 [114,111,119] [])=2:=rfl
 have c3:oR (elQ 2 [114,111,119] [])=3:=rfl
 obtain⟨q',c',e'⟩:=wZ (Q:=aHQ) (g:=uQ) (c:=3) aPF l (elQ 2 [114,111,119] []) r h (by omega);refine⟨q',by omega,?_⟩;rw[e1,sU (aAC (by omega) (by omega) (by omega) (by show [114,111,119]≠[]; simp) he),e']
structure EvV (e:Ev):Prop where
 id:1≤e.1∧e.1≤1099511627776
 sp:0≤e.2.1.1∧e.2.1.1≤5184000∧0≤e.2.1.2∧e.2.1.2≤5184000
 rg:vld e.2.2.1=true
 sk:vld e.2.2.2.2.1=true
 co:∀l∈e.2.2.2.2.2,∀u∈l,aHQ u
theorem aLZ{s:Ln}(h:∀c∈s,32≤n8 c∧n8 c≤126):vld (s++[102])=true:=lJ _ fun c hc=>by
 rw[aY4,aYG] at hc;rcases hc with hc|rfl
 ·exact h c hc
 ·decide
theorem aWA(e:Ev) (q:Nd) (r:List Nd) (h:EvV e) (hc:1≤oR q):∃q',1≤oR q'∧ckE (some q) (evN e++r)=ckE (some q') r:=by
 obtain⟨i1,i2⟩:=h.id;obtain⟨s1,s2,s3,s4⟩:=h.sp
 have he:elE (elQ 1 [112] (evA e))=0:=by
  refine wY (by rfl) (by simp[evA]) (FY e) fun a ha=>?_
  simp only[evA,aZL,List.not_mem_nil,or_false] at ha;rcases ha with rfl|rfl|rfl|rfl|rfl|rfl
  ·exact⟨by rfl,lJ _ (kM (by omega) (by omega))⟩
  ·exact⟨by rfl,aLZ (kM (by omega) (by omega))⟩
  ·exact⟨by rfl,aLZ (kM (by omega) (by omega))⟩
  ·exact⟨by rfl,h.rg⟩
  ·exact⟨by rfl,aHL _⟩
  ·exact⟨by rfl,h.sk⟩
 have e1:evN e++r=elQ 1 [112] (evA e)::(e.2.2.2.2.2.flatMap kL++r):=rfl
 have d1:dep (elQ 1 [112] (evA e))=1:=rfl
 have c2:oR (elQ 1 [112] (evA e))=2:=rfl
 obtain⟨q',c',e'⟩:=wZ (Q:=fun l:Row=>∀u∈l,aHQ u) (g:=kL) (c:=2) aPG e.2.2.2.2.2 (elQ 1 [112] (evA e)) r h.co (by omega);refine⟨q',by omega,?_⟩;rw[e1,sU (aAC (by omega) (by omega) (by omega) (by show [112]≠[]; simp) he),e']
theorem aPH(g:Reg) (q:Nd) (r:List Nd) (h:eC g=0) (hc:1≤oR q):∃q',1≤oR q'∧ckE (some q) (rM g++r)=ckE (some q') r:=by
 obtain⟨q1,q2,q3,q4,q5,q6,q7⟩:=sM h
 have he:elE (elQ 1 [114,101,103,105,111,110] (jN g))=0:=by
  refine wY (by rfl) (by simp[jN]) (zO g) fun a ha=>?_
  simp only[jN,aZL,List.not_mem_nil,or_false] at ha;rcases ha with rfl|rfl|rfl|rfl|rfl|rfl|rfl
  ·exact⟨by rfl,PR q1⟩
  ·exact⟨by rfl,lJ _ (kM (by omega) (by omega))⟩
  ·exact⟨by rfl,lJ _ (kM (by omega) (by omega))⟩
  ·exact⟨by rfl,lJ _ (kM (by omega) (by omega))⟩
  ·exact⟨by rfl,lJ _ (kM (by omega) (by omega))⟩
  ·exact⟨by rfl,aHN _⟩
  ·refine⟨by rfl,?_⟩;show vld (if g.2.2.2.2.2.2 then [66,79,84,84,79,77] else [84,79,80])=true;cases g.2.2.2.2.2.2<;>rfl
 have e1:rM g++r=elQ 1 [114,101,103,105,111,110] (jN g)::r:=rfl
 have d1:dep (elQ 1 [114,101,103,105,111,110] (jN g))=1:=rfl
 have c2:oR (elQ 1 [114,101,103,105,111,110] (jN g))=2:=rfl
 refine⟨elQ 1 [114,101,103,105,111,110] (jN g),by omega,?_⟩;rw[e1,sU (aAC (by omega) (by omega) (by omega) (by show [114,101,103,105,111,110]≠[]; simp) he)]
theorem aHR{x:Ev}{rs:List Reg}(hr:∀g∈rs,eC g=0) (h:oG x rs=0):vld x.2.2.1=true∧vld x.2.2.2.2.1=true:=by
 unfold oG at h
 split at h
 ·cases h
 split at h
 ·cases h
 split at h
 ·cases h
 split at h
 ·cases h
 rename_i r hf
 split at h
 ·cases h
 split at h
 ·cases h
 rename_i hk;constructor
 ·by_cases e:x.2.2.1=[]
  ·rw[e]; rfl
  ·unfold IG at hf;rw[if_neg e] at hf
   have h1:=List.find?_some hf
   have h2:=List.mem_of_find?_eq_some hf
   have h3:r.1=x.2.2.1:=by simpa using h1
   rw[←h3];exact PR (sM (hr r h2)).1
 ·by_cases e:x.2.2.2.2.1=[]
  ·rw[e]; rfl
  ·refine PR ?_
   cases hn:nm x.2.2.2.2.1 with
   |true=>rfl
   |false=>exact absurd ⟨e,hn⟩ hk
theorem aPI{d:Doc}(h:cK d=0):∀e∈d.2.2.2.2.2.2.1,EvV e:=fun e he=>by
 obtain⟨h1,h2,h3⟩:=lR h
 have hc:=OS h3 e he
 obtain⟨q1,q2,q3,q4,q5,q6,_⟩:=aFZ hc;obtain⟨n1,n2⟩:=aHR (IY h).reg hc;exact⟨⟨q1,q2⟩,⟨q3.1,by omega,by omega,q3.2.2⟩,n1,n2,fun l hl u hu=>(yN (UX (q6 l hl))).2 u hu⟩
theorem aAD{d:Doc}(h:cK d=0) (h8:(iJ d).length≤8192):mO (iJ d)=0:=by
 obtain⟨h1,h2,h3,h4⟩:=FZ (lR h).1;obtain⟨l1,l2⟩:=FB h
 have he:elE (elQ 0 [116,116] (iI d))=0:=by
  refine wY (by rfl) (by simp[iI]) (GA d) fun a ha=>?_
  simp only[iI,aZL,List.not_mem_nil,or_false] at ha;rcases ha with rfl|rfl|rfl|rfl|rfl
  ·exact⟨by rfl,h1⟩
  ·refine⟨by rfl,?_⟩;rcases h3 with e|e
   ·show vld d.2.1=true;rw[e]; rfl
   ·exact PR e
  ·exact⟨by rfl,aHM _⟩
  ·exact⟨by rfl,GB _⟩
  ·exact⟨by rfl,lJ _ (kM (by omega) (by omega))⟩
 have e0:iJ d=elQ 0 [116,116] (iI d)::(d.2.2.2.2.2.1.flatMap rM++(d.2.2.2.2.2.2.1.flatMap evN++[])):=by
  unfold iJ;rw[aY5,aYK];rfl
 have hlen:(iJ d).length≠0:=by rw[e0]; simp
 have hroot:ndE none (elQ 0 [116,116] (iI d))=0:=by
  have hd:uR none (elQ 0 [116,116] (iI d))=0:=rfl
  unfold ndE;rw[hd,if_neg (by simp),if_pos (by show [116,116]≠[]; simp),he]
 unfold mO;rw[if_neg hlen,if_neg (by omega),e0,sU hroot];obtain⟨q1,c1,e1⟩:=wZ (Q:=fun g:Reg=>eC g=0) (g:=rM) (c:=1) aPH d.2.2.2.2.2.1 (elQ 0 [116,116] (iI d)) (d.2.2.2.2.2.2.1.flatMap evN++[]) (IY h).reg (by show(1:Int)≤1; omega);obtain⟨q2,c2,e2⟩:=wZ (Q:=EvV) (g:=evN) (c:=1) aWA d.2.2.2.2.2.2.1 q1 [] (aPI h) c1;rw[e1,e2];rfl
theorem PS{d:Doc}(h:cK d=0) (h8:(iJ d).length≤8192) (hp:(prT [] (iJ d)).length≤262144) (hb:bkL wtN (iJ d)≤1090000):NB fuelH (prT [] (iJ d))=some (FO d,[]):=by
 have hk:=aAD h h8
 unfold NB;rw[VE (by omega),aB,VJ hk hp,aC (by rfl),FT (X2 hb) (by omega),aB,aV8 h hk,aC (by rfl)]
theorem aCP:∀(n u k:Nat),1≤k→u<10^k→(fA n u []).length≤k:=by
 intro n
 induction n with
 |zero=>intro u k h _; exact aZ1 _
 |succ n ih =>
  intro u k hk hu;rw[FU]
  by_cases h:10≤u
  ·rw[if_pos h,aYA,aYR,aY9];obtain⟨j,rfl⟩:∃j,k=j+1:=⟨k-1,by omega⟩
   have hj:1≤j:=by
    cases j with
    |zero=>simp at hu; omega
    |succ j=>omega
   have:=ih (u / 10) j hj (by rw[Nat.pow_succ] at hu; omega)
   omega
  ·rw[if_neg h,aYR,aY9];omega
theorem pL{s:Ln}{hi n:Int}(h:VL s hi=(n,0)):0≤n∧(dO n).length≤s.length:=by
 unfold VL at h
 by_cases c:s.head?=some 45
 ·rw[if_pos c] at h;unfold O8 at h
  split at h
  ·injection h with _ h; cases h
  split at h
  ·injection h with _ h; cases h
  split at h
  ·injection h with _ h; cases h
  rw[if_pos rfl] at h;injection h with _ h; cases h
 ·rw[if_neg c] at h;unfold O8 at h
  split at h
  ·injection h with _ h; cases h
  rename_i h0
  split at h
  ·injection h with _ h; cases h
  split at h
  ·injection h with _ h; cases h
  rename_i ha;rw[if_neg nft] at h
  split at h
  ·injection h with _ h; cases h
  injection h with h _
  have hd:=Z5 (by simpa using ha)
  have hl:1≤s.length:=by cases s with|nil=>exact absurd rfl h0|cons _ _=>simp
  have hv:=aKA s 0 1 (by omega) hd
  rw[aZZ] at hv;subst h;refine⟨Int.natCast_nonneg _,?_⟩;rw[wW (Int.natCast_nonneg _),aYP];exact aCP 20 _ _ hl hv
theorem aAE{s:Ln}{n:Int}(h:aCK s=(n,0)):0≤n∧(dO n++[102]).length≤s.length:=by
 unfold aCK at h
 by_cases c:s.getLast?=some 102
 ·rw[if_pos c] at h;obtain⟨h1,h2⟩:=pL h;refine⟨h1,?_⟩
  have hs:s≠[]:=fun k=>by rw[k] at c; cases c
  have hl:1≤s.length:=by cases s with|nil=>exact absurd rfl hs|cons _ _=>simp
  rw[aXX] at h2;rw[aYA,aYR,aY9];omega
 ·rw[if_neg c] at h;injection h with _ h; cases h
theorem aHS{s:Ln}(h:(FR s).2=0):lF (FR s).1=s:=by
 unfold FR at h ⊢
 have:∀(l:Y_) (k:Nat),(cZ (fun r:UInt8=>seq (lF r) s) (fun _ r=>((r,0):UInt8×Int)) (0,4) k l).2=0→lF (cZ (fun r:UInt8=>seq (lF r) s) (fun _ r=>((r,0):UInt8×Int)) (0,4) k l).1=s:=by
  intro l
  induction l with
  |nil=>intro k h; cases h
  |cons r l ih =>
   intro k h;unfold cZ at h ⊢
   by_cases c:seq (lF r) s=true
   ·rw[if_pos c]; rw[cJ] at c; exact c
   ·rw[if_neg c] at h ⊢; exact ih _ h
 exact this _ _ h
theorem aHT{s:Ln}(h:(tD s).2=0):tB (tD s).1=s:=by
 unfold tD at h ⊢;unfold cZ cZ cZ cZ cZ at h ⊢
 by_cases c1:seq [68,73,65,76,79,71,85,69] s=true
 ·rw[if_pos c1]; rw[cJ] at c1; rw[←c1]; rfl
 rw[if_neg c1] at h ⊢
 by_cases c2:seq [83,79,85,78,68] s=true
 ·rw[if_pos c2]; rw[cJ] at c2; rw[←c2]; rfl
 rw[if_neg c2] at h ⊢
 by_cases c3:seq [84,73,84,76,69] s=true
 ·rw[if_pos c3]; rw[cJ] at c3; rw[←c3]; rfl
 rw[if_neg c3] at h ⊢
 by_cases c4:seq [77,85,83,73,67] s=true
 ·rw[if_pos c4]; rw[cJ] at c4; rw[←c4]; rfl
 rw[if_neg c4] at h;cases h
theorem aHU{tab:List Ln}{s:Ln}{i:Nat}(h:PI tab s=some i):tab.getD i []=s:=by
 have:∀(tab:List Ln) (k:Nat),(cZ (fun x:Ln=>seq x s) (fun i _=>some i) none k tab:Option Nat)=some i→k≤i∧tab.getD (i-k) []=s:=by
  intro tab
  induction tab with
  |nil=>intro k h; cases h
  |cons x tab ih =>
   intro k h;unfold cZ at h
   by_cases c:seq x s=true
   ·rw[if_pos c] at h;injection h with h;rw[cJ] at c;subst h;rw[aZX];exact⟨aZ0 _,c⟩
   ·rw[if_neg c] at h;obtain⟨h1,h2⟩:=ih (k+1) h;refine⟨by omega,?_⟩
    have:i-k=(i-(k+1))+1:=by omega
    rw[this];exact h2
 have:=(this tab 0 h).2
 rwa [Nat.sub_zero] at this
theorem xB{tab:List Ln}{n:Nd}{name:Ln}(h:(chT tab n name).2=0):(chT tab n name).1=0∧pH n name=false∨∃i:Nat,(chT tab n name).1=(i:Int)∧i<tab.length∧tab.getD i []=cU n name:=by
 unfold chT at h ⊢
 by_cases c:pH n name=false
 ·rw[if_pos c]; exact Or.inl ⟨rfl,c⟩
 ·rw[if_neg c] at h ⊢
  cases e:PI tab (cU n name) with
  |none=>rw[e] at h; cases h
  |some i=>exact Or.inr ⟨i,rfl,aKE e,aHU e⟩
theorem aKR{n:Nd}(h:(FQ n).2=0):(GK (FQ n).1).length≤(cU n [99,111,108,111,114]).length:=by
 rcases xB (tab:=gl1) (n:=n) (name:=[99,111,108,111,114]) h with⟨h1,_⟩|⟨i,h1,h2,h3⟩
 ·have:(FQ n).1=b8 (chT gl1 n [99,111,108,111,114]).1:=rfl
  rw[this,h1];exact aZ1 _
 ·have:(FQ n).1=b8 (chT gl1 n [99,111,108,111,114]).1:=rfl
  rw[this,h1,←h3]
  have h2:i<7:=h2
  have:i=0∨i=1∨i=2∨i=3∨i=4∨i=5∨i=6:=by omega
  rcases this with rfl|rfl|rfl|rfl|rfl|rfl|rfl<;>decide
theorem aKS{n:Nd}(hh:pH n [97,108,105,103,110]=true) (h:(chT gl0 n [97,108,105,103,110]).2=0):(uP (b8 (w64 (aE (chT gl0 n [97,108,105,103,110]).1 1)))).length≤(cU n [97,108,105,103,110]).length:=by
 rcases xB h with⟨_,h1⟩|⟨i,h1,h2,h3⟩
 ·rw[hh] at h1; cases h1
 ·rw[h1,←h3]
  have h2:i<3:=h2
  have:i=0∨i=1∨i=2:=by omega
  rcases this with rfl|rfl|rfl<;>decide
theorem aKT{n:Nd}(hh:pH n [97,110,99,104,111,114]=true) (h:(chT [[84,79,80],[66,79,84,84,79,77]] n [97,110,99,104,111,114]).2=0):(if ieq (chT [[84,79,80],[66,79,84,84,79,77]] n [97,110,99,104,111,114]).1 1 then [66,79,84,84,79,77] else [84,79,80]:Ln).length≤(cU n [97,110,99,104,111,114]).length:=by
 rcases xB h with⟨_,h1⟩|⟨i,h1,h2,h3⟩
 ·rw[hh] at h1; cases h1
 ·rw[h1,←h3]
  have h2:i<2:=h2
  have:i=0∨i=1:=by omega
  rcases this with rfl|rfl<;>decide
theorem P5{n:Nd}{name:Ln}(h:(flT n name).2=0):(UU (flT n name).1).length≤(cU n name).length:=by
 have h:(chT [[48],[49]] n name).2=0:=h
 have e:(flT n name).1=ieq (chT [[48],[49]] n name).1 1:=rfl
 rw[e];rcases xB h with⟨h1,_⟩|⟨i,h1,h2,h3⟩
 ·rw[h1]; exact aZ1 _
 ·rw[h1,←h3]
  have h2:i<2:=h2
  have:i=0∨i=1:=by omega
  rcases this with rfl|rfl<;>decide
def P6(name:Ln):List At→List At
 | []=>[]
 |a::l=>if a.1=name then l else a::P6 name l
theorem aAF(name:Ln):∀l:List At,(bL name l).2=true→bkL wtA l=wtA (name,(bL name l).1)+bkL wtA (P6 name l)
 | [],h=>by cases h
 |a::l,h=>by
  unfold bL at h ⊢;unfold P6
  by_cases c:a.1=name
  ·rw[if_pos c,if_pos c];subst c;rfl
  ·rw[if_neg c] at h ⊢;rw[if_neg c]
   have:=aAF name l h
   simp only[bkL];omega
theorem GD{name w:Ln}(h:w≠name):∀l:List At,bL w (P6 name l)=bL w l
 | []=>rfl
 |a::l=>by
  unfold P6
  by_cases c:a.1=name
  ·rw[if_pos c]
   have:¬a.1=w:=fun k=>h (k ▸ c)
   show bL w l=(if a.1=w then _ else bL w l);rw[if_neg this]
  ·rw[if_neg c];show(if a.1=w then(a.2,true) else bL w (P6 name l))=(if a.1=w then(a.2,true) else bL w l);rw[GD h l]
theorem PT:∀(L A:List At),(L.map Prod.fst).Nodup→(∀a∈L,a.2.length≤(bL a.1 A).1.length)→bkL wtA (eR L)≤bkL wtA A
 | [],_,_,_=>aZ1 _
 |a::L,A,hn,h=>by
  rw[aZM,List.nodup_cons] at hn
  have e:eR (a::L)=kW a++eR L:=rfl
  rw[e,FN];unfold kW
  by_cases c:a.2=[]
  ·rw[if_pos c]
   have:=PT L A hn.2 fun b hb=>h b (aXV _ hb)
   simp only[bkL];omega
  ·rw[if_neg c]
   have h1:=h a aYE
   have hl:1≤a.2.length:=by
    cases e2:a.2 with
    |nil=>exact absurd e2 c
    |cons _ _=>simp
   have hh:(bL a.1 A).2=true:=by
    cases e2:(bL a.1 A).2 with
    |true=>rfl
    |false =>
     rw[uT _ _ e2,aY9] at h1;omega
   have h2:=aAF a.1 A hh
   have h3:=PT L (P6 a.1 A) hn.2 fun b hb=>by
    have:b.1≠a.1:=fun k=>hn.1 (k ▸ List.mem_map_of_mem hb)
    rw[GD this];exact h b (aXV _ hb)
   rw[h2];simp only[bkL,wtA];omega
theorem aAG{k:Int}{n:Nd}{L:List At}(hn:(L.map Prod.fst).Nodup) (h:∀a∈L,a.2.length≤(cU n a.1).length):wtN (elQ k n.1 L)≤wtN n:=by
 have:=PT L n.2.2.1 hn h
 unfold wtN;show n.1.length+1+(0+1+(bkL wtA (eR L)+1+1))≤_;omega
theorem fD{a b:Int}(h:hP a b=0):a=0∧b=0:=by
 unfold hP at h
 by_cases c:a=0
 ·rw[if_pos c] at h; exact⟨c,h⟩
 ·rw[if_neg c] at h; exact absurd h c
def bkR(rows:List Row):Nat:=bkL wtN (rows.flatMap kL)
def bkD(d:Doc):Nat:=bkL wtN (iJ d)
theorem aPJ(n:Nd):bkL wtN [n]=wtN n:=rfl
theorem PU(r:Row):bkL wtN (kL r)=wtN (elQ 2 [114,111,119] [])+bkL wtN (r.flatMap uQ):=rfl
theorem aL0(e:Ev):bkL wtN (evN e)=wtN (elQ 1 [112] (evA e))+bkR e.2.2.2.2.2:=rfl
theorem P7(u:Run):bkL wtN (uQ u)=wtN (elQ 3 [114,117,110] (jF u))+(u.1.length+4):=by
 show wtN _+(wtN (([],u.1,[],4):Nd)+0)=_
 have:wtN (([],u.1,[],4):Nd)=0+1+(u.1.length+1+(0+1+1)):=rfl
 rw[this];omega
theorem uX(d:Doc):bkD d=wtN (elQ 0 [116,116] (iI d))+bkL wtN (d.2.2.2.2.2.1.flatMap rM)+bkL wtN (d.2.2.2.2.2.2.1.flatMap evN):=by
 unfold bkD iJ;rw[FN,FN,aPJ]
theorem fG{α:Type}(g:α→List Nd) (l:List α) (x:α):bkL wtN ((l++[x]).flatMap g)=bkL wtN (l.flatMap g)+bkL wtN (g x):=by
 rw[List.flatMap_append,FN];simp
theorem PV{α:Type}{l:List α}(h:l≠[]) (d:α):∃a,l=a++[aM l d]:=by
 rcases List.eq_nil_or_concat l with k|⟨r,u,k⟩
 ·exact absurd k h
 ·rw[List.concat_eq_append] at k;refine⟨r,?_⟩;rw[k,jD]
theorem PW{d:Doc}(he:fM d≠[]) (rows:List Row):bkD (mR d rows)+bkR (bZ d)=bkD d+bkR rows:=by
 obtain⟨es,e⟩:=PV (l:=d.2.2.2.2.2.2.1) he evY;rw[uX,uX]
 have e1:iI (mR d rows)=iI d:=rfl
 have e2:(mR d rows).2.2.2.2.2.1=d.2.2.2.2.2.1:=rfl
 have hr:bZ d=(aM d.2.2.2.2.2.2.1 evY).2.2.2.2.2:=rfl
 rw[e1,e2,hr]
 have e3:(mR d rows).2.2.2.2.2.2.1=bM d.2.2.2.2.2.2.1 ((aM d.2.2.2.2.2.2.1 evY).1,(aM d.2.2.2.2.2.2.1 evY).2.1,(aM d.2.2.2.2.2.2.1 evY).2.2.1,(aM d.2.2.2.2.2.2.1 evY).2.2.2.1,(aM d.2.2.2.2.2.2.1 evY).2.2.2.2.1,rows):=rfl
 rw[e3];generalize aM d.2.2.2.2.2.2.1 evY=x at *;rw[e,hY,fG,fG,aL0,aL0]
 have e4:evA (x.1,x.2.1,x.2.2.1,x.2.2.2.1,x.2.2.2.2.1,rows)=evA x:=rfl
 rw[e4];show _+_+(_+(_+bkR rows))+bkR x.2.2.2.2.2=_;omega
theorem aAH{rows:List Row}(h:rows≠[]) (row:Row):bkR (bM rows row)+bkL wtN (kL (aM rows []))=bkR rows+bkL wtN (kL row):=by
 obtain⟨a,e⟩:=PV (l:=rows) h [];generalize aM rows []=x at *;rw[e,hY];unfold bkR;rw[fG,fG];omega
theorem aWB{d:Doc}{n:Nd}(hn:n.1=[116,116]) (h:(pT d n).1=0):wtN (elQ 0 [116,116] (iI (pT d n).2))≤wtN n:=by
 obtain⟨h1,h3⟩:=fD h;obtain⟨h1,h2⟩:=fD h1
 have hl:=pL (s:=cU n [108,97,115,116]) (hi:=pS) (n:=(fS n [108,97,115,116] pS).1) (Prod.ext rfl h3)
 have:=aAG (k:=0) (n:=n) (L:=iI (pT d n).2) (GA _) fun a ha=>by
  simp only[iI,aZL,List.not_mem_nil,or_false] at ha;rcases ha with rfl|rfl|rfl|rfl|rfl
  ·exact aZ0 _
  ·exact aZ0 _
  ·show(lF (FR (cU n [114,97,116,101])).1).length≤_;rw[aHS h1];exact aZ0 _
  ·exact P5 h2
  ·exact hl.2
 rw[hn] at this;exact this
theorem aWC{d:Doc}{n:Nd}(hn:n.1=[114,101,103,105,111,110]) (ha:zH n=true) (h:(rU d n).1=0):wtN (elQ 1 [114,101,103,105,111,110] (jN (PM n)))≤wtN n:=by
 have g1:pH n [97,108,105,103,110]=true:=PN ha (by rw[hn]; rfl)
 have g2:pH n [97,110,99,104,111,114]=true:=PN ha (by rw[hn]; rfl)
 obtain⟨h,h6⟩:=fD h;obtain⟨h,h5⟩:=fD h;obtain⟨h,h4⟩:=fD h;obtain⟨h,h3⟩:=fD h;obtain⟨h1,h2⟩:=fD h
 have l1:=pL (s:=cU n [116,111,112]) (hi:=32) (n:=(fS n [116,111,112] 32).1) (Prod.ext rfl h1)
 have l2:=pL (s:=cU n [104,101,105,103,104,116]) (hi:=32) (n:=(fS n [104,101,105,103,104,116] 32).1) (Prod.ext rfl h2)
 have l3:=pL (s:=cU n [108,101,102,116]) (hi:=32) (n:=(fS n [108,101,102,116] 32).1) (Prod.ext rfl h3)
 have l4:=pL (s:=cU n [119,105,100,116,104]) (hi:=32) (n:=(fS n [119,105,100,116,104] 32).1) (Prod.ext rfl h4)
 have:=aAG (k:=1) (n:=n) (L:=jN (PM n)) (zO _) fun a ha=>by
  simp only[jN,aZL,List.not_mem_nil,or_false] at ha;rcases ha with rfl|rfl|rfl|rfl|rfl|rfl|rfl
  ·exact aZ0 _
  ·exact l1.2
  ·exact l2.2
  ·exact l3.2
  ·exact l4.2
  ·exact aKS g1 h5
  ·exact aKT g2 h6
 rw[hn] at this;exact this
theorem aWW{d:Doc}{n:Nd}(hn:n.1=[112]) (h:(oQ d n).1=0):wtN (elQ 1 [112] (evA (evT n)))≤wtN n:=by
 obtain⟨h,h4⟩:=fD h;obtain⟨h,h3⟩:=fD h;obtain⟨h1,h2⟩:=fD h
 have l1:=pL (s:=cU n [105,100]) (hi:=pS) (n:=(fS n [105,100] pS).1) (Prod.ext rfl h1)
 have l2:=aAE (s:=cU n [105,110]) (n:=(rS n [105,110]).1) (Prod.ext rfl h2)
 have l3:=aAE (s:=cU n [111,117,116]) (n:=(rS n [111,117,116]).1) (Prod.ext rfl h3)
 have:=aAG (k:=1) (n:=n) (L:=evA (evT n)) (FY _) fun a ha=>by
  simp only[evA,aZL,List.not_mem_nil,or_false] at ha;rcases ha with rfl|rfl|rfl|rfl|rfl|rfl
  ·exact l1.2
  ·exact l2.2
  ·exact l3.2
  ·exact aZ0 _
  ·show(tB (tD (cU n [107,105,110,100])).1).length≤_;rw[aHT h4];exact aZ0 _
  ·exact aZ0 _
 rw[hn] at this;exact this
theorem aPK{d:Doc}{n:Nd}(hn:n.1=[114,117,110]) (h:(VP d n).1=0):wtN (elQ 3 [114,117,110] (jF (rV n)))≤wtN n:=by
 obtain⟨h,h3⟩:=fD h;obtain⟨h1,h2⟩:=fD h
 have:=aAG (k:=3) (n:=n) (L:=jF (rV n)) (zM _) fun a ha=>by
  simp only[jF,aZL,List.not_mem_nil,or_false] at ha;rcases ha with rfl|rfl|rfl|rfl
  ·exact aKR h1
  ·exact P5 h2
  ·exact P5 h3
  ·exact aZ0 _
 rw[hn] at this;exact this
theorem aHV{l:List Nd}(hs:∀n∈l,smN n){i:Nat}(hi:i<l.length){op:List Ln}{d:Doc}(hI:Inv l i op d) (hx:Nx i op d l[i]) (ha:zH l[i]=true) (h0:(dA d l[i]).1=0) (hb:1≤i→bkD d≤2*bkL wtN (l.take i)):bkD (dA d l[i]).2≤2*bkL wtN (l.take (i+1)):=by
 have hW:=VR hi
 have h1:i≠0→1≤i:=fun k=>by omega
 have notz:1≤dep l[i]→1≤i:=fun k=>by
  by_cases e:i=0
  ·exfalso
   cases hx with
   |tt _ hk _ _ _=>omega
   |p _ ho _=>rw[hI.zero e] at ho; cases ho
   |rg _ ho _ _=>rw[hI.zero e] at ho; cases ho
   |row _ ho _ _=>rw[hI.zero e] at ho; cases ho
   |run _ ho _ _ _=>rw[hI.zero e] at ho; cases ho
   |tx _ ho _ _ _ _ _=>rw[hI.zero e] at ho; cases ho
  ·omega
 cases hx with
 |tt hz hk ho hn he =>
  have ea:dA d l[i]=pT d l[i]:=by unfold dA; rw[if_pos hn]
  rw[ea] at h0 ⊢
  have hl:=aWB hn h0
  have hr:d.2.2.2.2.2.1=[]:=aXF.1 (by have:=hI.rg; omega)
  have he:d.2.2.2.2.2.2.1=[]:=he
  rw[uX]
  have e1:(pT d l[i]).2.2.2.2.2.2.1=d.2.2.2.2.2.1:=rfl
  have e2:(pT d l[i]).2.2.2.2.2.2.2.1=d.2.2.2.2.2.2.1:=rfl
  rw[e1,e2,hr,he];simp only[List.flatMap_nil,bkL];omega
 |p hk ho hn =>
  have hb:=hb (notz (by omega))
  have ea:dA d l[i]=oQ d l[i]:=by unfold dA; rw[if_neg (by rw[hn]; decide),if_neg (by rw[hn]; decide),if_pos hn]
  rw[ea] at h0 ⊢
  have hl:=aWW hn h0
  have e:bkD (oQ d l[i]).2=bkD d+bkL wtN (evN (evT l[i])):=by
   rw[uX,uX]
   have e1:iI (oQ d l[i]).2=iI d:=rfl
   have e2:(oQ d l[i]).2.2.2.2.2.2.1=d.2.2.2.2.2.1:=rfl
   have e3:(oQ d l[i]).2.2.2.2.2.2.2.1=d.2.2.2.2.2.2.1++[evT l[i]]:=rfl
   rw[e1,e2,e3,fG];omega
  have e4:bkL wtN (evN (evT l[i]))=wtN (elQ 1 [112] (evA (evT l[i])))+0:=rfl
  omega
 |rg hk ho hn he =>
  have hb:=hb (notz (by omega))
  have ea:dA d l[i]=rU d l[i]:=by unfold dA; rw[if_neg (by rw[hn]; decide),if_pos hn]
  rw[ea] at h0 ⊢
  have hl:=aWC hn ha h0
  have e:bkD (rU d l[i]).2=bkD d+bkL wtN (rM (PM l[i])):=by
   rw[uX,uX]
   have e1:iI (rU d l[i]).2=iI d:=rfl
   have e2:(rU d l[i]).2.2.2.2.2.2.1=d.2.2.2.2.2.1++[PM l[i]]:=rfl
   have e3:(rU d l[i]).2.2.2.2.2.2.2.1=d.2.2.2.2.2.2.1:=rfl
   rw[e1,e2,e3,fG];omega
  have e4:bkL wtN (rM (PM l[i]))=wtN (elQ 1 [114,101,103,105,111,110] (jN (PM l[i])))+0:=rfl
  omega
 |row hk ho hn he =>
  have hb:=hb (notz (by omega))
  have ea:(dA d l[i]).2=mR d (bZ d++[[]]):=by unfold dA; rw[if_neg (by rw[hn]; decide),if_neg (by rw[hn]; decide),if_neg (by rw[hn]; decide),if_pos hn]
  rw[ea]
  have e:=PW he (bZ d++[[]])
  have e2:bkR (bZ d++[[]])=bkR (bZ d)+bkL wtN (kL []):=fG kL _ _
  have e3:bkL wtN (kL [])=7:=by rfl
  have hw:7≤wtN l[i]:=by unfold wtN; rw[hn]; simp only[aYR,aY9]; omega
  omega
 |run hk ho hn he hr =>
  have hb:=hb (notz (by omega))
  have ea:dA d l[i]=VP d l[i]:=by unfold dA; rw[if_neg (by rw[hn]; decide),if_neg (by rw[hn]; decide),if_neg (by rw[hn]; decide),if_neg (by rw[hn]; decide),if_pos hn]
  rw[ea] at h0 ⊢
  have hl:=aPK hn h0
  have e:bkD (mR d (bM (bZ d) (dJ d++[rV l[i]])))+bkR (bZ d)=bkD d+bkR (bM (bZ d) (dJ d++[rV l[i]])):=PW he _
  have e2:=aAH hr (dJ d++[rV l[i]])
  have e3:bkL wtN (kL (dJ d++[rV l[i]]))=bkL wtN (kL (dJ d))+bkL wtN (uQ (rV l[i])):=by
   rw[PU,PU,fG];omega
  have e4:=P7 (rV l[i])
  have e5:(rV l[i]).1.length=0:=rfl
  have e6:aM (bZ d) []=dJ d:=rfl
  rw[e6] at e2
  have hw:7≤wtN l[i]:=by unfold wtN; rw[hn]; simp only[aYR,aY9]; omega
  show bkD (mR d (bM (bZ d) (dJ d++[rV l[i]])))≤_;omega
 |tx hk ho hn he hr hu ht =>
  have hb:=hb (notz (by omega))
  have ea:(dA d l[i]).2=mR d (bM (bZ d) (bM (dJ d) (l[i].2.1,(aM (dJ d) uU).2))):=by unfold dA; rw[if_neg (by rw[hn]; decide),if_neg (by rw[hn]; decide),if_neg (by rw[hn]; decide),if_neg (by rw[hn]; decide),if_neg (by rw[hn]; decide)]; rfl
  rw[ea]
  have e:=PW he (bM (bZ d) (bM (dJ d) (l[i].2.1,(aM (dJ d) uU).2)))
  have e2:=aAH hr (bM (dJ d) (l[i].2.1,(aM (dJ d) uU).2))
  have e6:aM (bZ d) []=dJ d:=rfl
  rw[e6] at e2
  have e3:bkL wtN (kL (bM (dJ d) (l[i].2.1,(aM (dJ d) uU).2)))=bkL wtN (kL (dJ d))+l[i].2.1.length:=by
   obtain⟨us,eu⟩:=PV (l:=dJ d) hu uU;generalize aM (dJ d) uU=u at *;rw[PU,PU,eu,hY,fG,fG,P7,P7,ht]
   have:jF (l[i].2.1,u.2)=jF u:=rfl
   rw[this];simp only[aY9];omega
  have hw:l[i].2.1.length≤wtN l[i]:=by unfold wtN; omega
  omega
theorem aKU{l:List Nd}(hs:∀n∈l,smN n) (hc:mO l=0) (hb:bkL wtN l≤1000000):∀(k i:Nat) (op:List Ln) (d:Doc),i+k=l.length→Inv l i op d→(1≤i→bkD d≤2*bkL wtN (l.take i))→(goS i op d (l.drop i)).2.2=0 →
  cK (goS i op d (l.drop i)).1=0∧uO (goS i op d (l.drop i)).1∧(goS i op d (l.drop i)).1.2.2.2.2.2.2.2=[]∧bkD (goS i op d (l.drop i)).1≤2*bkL wtN l:=by
 have hl8:=(rN hc).2.1
 have hl0:=(rN hc).1
 intro k
 induction k with
 |zero =>
  intro i op d h hI hB
  have hi:i=l.length:=by omega
  subst hi
  have hB:=hB (by omega)
  rw[aYY] at hB;rw[aY1];unfold goS aKH
  by_cases h:cK d=0
  ·rw[if_neg (by simpa using h)];exact fun _=>⟨h,JN hI (by omega) (by rw[aYY]; omega),hI.cm,hB⟩
  ·rw[if_pos h];exact fun k=>absurd k h
 |succ k ih =>
  intro i op d h hI hB
  have hi:i<l.length:=by omega
  rw[aW8 hi]
  have e:goS i op d (l[i]::l.drop (i+1))=if okN op d l[i]=false then(noD0,(i:Int),4) else if(dA d l[i]).1≠0 then(noD0,(i:Int),(dA d l[i]).1) else goS (i+1) (op.take (dep l[i]).toNat++[l[i].1]) (dA d l[i]).2 (l.drop (i+1)):=rfl
  rw[e]
  by_cases hok:okN op d l[i]=false
  ·rw[if_pos hok];exact fun k=>absurd (show(4:Int)=0 from k) (by decide)
  ·rw[if_neg hok]
   have hok:okN op d l[i]=true:=by simpa using hok
   unfold okN at hok;rw[aYS] at hok
   have hx:=aLY hc hi hI hok.1
   by_cases he:(dA d l[i]).1=0
   ·rw[if_neg (by simpa using he)];exact ih (i+1) _ _ (by omega) (VS hs hi hI hx) (fun _=>aHV hs hi hI hx hok.2 he hB)
   ·rw[if_pos he];exact fun k=>absurd k he
theorem aCQ{l:List Nd}(hs:∀n∈l,smN n) (hc:mO l=0) (hb:bkL wtN l≤1000000) (h:(gV l).2.2=0):cK (gV l).1=0∧uO (gV l).1∧(gV l).1.2.2.2.2.2.2.2=[]∧bkD (gV l).1≤2*bkL wtN l:=by
 unfold gV at h ⊢;rw[if_neg (by simpa using hc)] at h ⊢
 have:=aKU hs hc hb l.length 0 [] noD0 (by omega) (aV5 l) (fun k=>by omega)
 rw[aZG] at this;exact this h
theorem aHW(n:Nd):4≤wtN n:=by unfold wtN; omega
theorem aAI:∀l:List Nd,4*l.length≤bkL wtN l
 | []=>aZ0 _
 |n::l=>by have:=aAI l; have:=aHW n; simp only[bkL,aYR]; omega
theorem P8{d:Doc}(hs:uO d) (hc:cK d=0) (hb:bkL wtN (iJ d)≤30000):q66 fuelH d=some (prT [] (iJ d),0)∧(iJ d).length≤8192∧(prT [] (iJ d)).length≤262144:=by
 have h4:=aAI (iJ d)
 have hlen:=BS (iJ d) []
 have hc0:(cls []).length=0:=rfl
 have h8:(iJ d).length≤8192:=by omega
 have hk:=aAD hc h8
 refine⟨?_,h8,by omega⟩
 have hen:aG5 d=(iJ d,0):=by
  unfold aG5 aJR;rw[if_neg (show ¬cK d≠0 by simpa using hc),if_neg (by omega)]
 unfold q66;rw[bQ (aG6 hs),hen,aC (by rfl)];dsimp only;rw[aGY (X2 (by omega)) (by omega),aB];unfold O3;rw[if_neg (by simpa using hk),if_neg (by omega)]
theorem PX(x:Ls):hJ fuelH x=some true:=by
 have h:(x.take 900).length≤900:=by rw[aYU]; omega
 unfold hJ;rw[aJ9,aB,aC (by rfl),aHK,aB];generalize x.take 900=s at *
 have hno:NS fuelH (noD0,noD0)=some true:=JK ⟨by simp[noD0],by simp[noD0],(fun x hx=>by cases hx),by simp[noD0]⟩ rfl
 have hz:((([]:Y_),([]:Y_),(0:UInt8),false,(0:Int),([]:List Reg),([]:List Ev),([]:List Cmt)):Doc)=noD0:=rfl
 rw[aCM (by omega),aB,aAB];unfold aO9
 by_cases hp:(lI s).2=[]
 ·have hcs:mO (lI s).1=0∧bkL wtN (lI s).1≤10*s.length:=by
   rcases uV (s:=s) (by omega) with⟨_,hc,hb⟩|k
   ·exact⟨hc,hb⟩
   ·rw[hp] at k; cases k
  rw[if_neg (by simpa using hp)]
  by_cases he:(gV (lI s).1).2.2=0
  ·rw[if_neg (by simpa using he),aC (by rfl)];dsimp only;obtain⟨b1,b2,b3,b4⟩:=aCQ (X2 (by omega)) hcs.1 (by omega) he;generalize (gV (lI s).1).1=d at *
   have hb4:bkL wtN (iJ d)≤2*bkL wtN (lI s).1:=b4
   obtain⟨e1,e2,e3⟩:=P8 b2 b1 (by omega)
   have hcut:FO d=d:=by
    obtain⟨t,g,r,dr,la,rs,es,cs⟩:=d
    have b3:cs=[]:=b3
    subst b3;rfl
   rw[e1,aB];dsimp only;rw[PS b1 e2 e3 (by omega),aB,jA b2,aB,b1,aD (by rfl),b3,aD (by rfl),aD (by rfl),aD (by rfl),hcut];dsimp only;rw[JK (aJ8 b1 (by rw[b3]; simp)) b3,aB]
  ·rw[if_pos he,aD (by rfl),aD (by rfl)];dsimp only;rw[hz,hno,aB]
 ·have h1:(lI s).2.length=1:=by
   rcases uV (s:=s) (by omega) with⟨k,_⟩|k
   ·exact absurd k hp
   ·exact k
  rw[if_pos hp,aD (decide_eq_true hp),aD (dN (by simp only[len]; omega))];dsimp only;rw[hz,hno,aB]
end
end Go.Mo
end
