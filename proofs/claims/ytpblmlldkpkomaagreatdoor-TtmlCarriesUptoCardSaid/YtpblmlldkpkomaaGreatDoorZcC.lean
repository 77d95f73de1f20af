/-
  Texts put together, in build order: TE TF TG TH TI TJ TK TL TM TN TO TP TQ TR TS TU.
-/
import Derived.Test.YtpblmlldkpkomaaGreatDoorZcB
import Derived.Lib.ParseIntBCases
set_option linter.all false

section
set_option linter.all false
namespace Go.Mo
open Go Go.W Go.Lib
set_option maxRecDepth 100000
noncomputable section
def fO{α R:Type}(p:α→Bool) (f:Nat→α→R) (K:R):Nat→List α→R
 |_,[]=>K
 |i,a::l=>if p a then f i a else fO p f K (i+1) l
theorem jH{V R α:Type}{F:(V→Option R)→V→Option R}{l:List α}(st:Nat→V) (p:α→Bool) (f:Nat→α→Option R) (K:Option R){fuel:Nat}(hf:l.length<fuel)
  (hs:∀self i (h:i<l.length),F self (st i)=if p l[i] then f i l[i] else self (st (i+1))) (he:∀self,F self (st l.length)=K):bI F fuel (st 0)=fO p f K 0 l:=by
 have key:∀(n i fu:Nat),l.length-i=n→l.length-i<fu→i≤l.length→bI F fu (st i)=fO p f K i (l.drop i):=by
  intro n
  induction n with
  |zero =>
   intro i fu h1 h2 h3;obtain rfl:i=l.length:=by omega
   obtain⟨fu,rfl⟩:∃k,fu=k+1:=⟨fu-1,by omega⟩;rw[gN,he,aZK];rfl
  |succ n ih =>
   intro i fu h1 h2 h3
   have hi:i<l.length:=by omega
   obtain⟨fu,rfl⟩:∃k,fu=k+1:=⟨fu-1,by omega⟩;rw[gN,hs _ _ hi,aXR hi];unfold fO;rw[ih (i+1) fu (by omega) (by omega) (by omega)]
 have:=key _ 0 fuel rfl (by omega) (bAK _)
 rw[this,aZZ]
theorem ER{α R:Type}(p:α→Bool) (b K:R):∀(i:Nat) (l:List α),fO p (fun _ _=>b) K i l=if l.any p then b else K
 |_,[]=>rfl
 |i,a::l=>by
  unfold fO;rw[ER p b K (i+1) l]
  by_cases h:p a=true<;>simp[h]
def sI(c:UInt8):Bool:=decide (48≤n8 c∧n8 c≤57)
def dgS(a:Nat) (c:UInt8):Nat:=a*10+(c.toNat-48)
def iX(a:Nat) (l:Y_):Nat:=l.foldl dgS a
theorem ES(a:Nat):iX a []=a:=by unfold iX; rw[List.foldl_nil]
theorem yE(a:Nat) (c:UInt8) (r:Y_):iX a (c::r)=iX (a*10+(c.toNat-48)) r:=by unfold iX; rw[List.foldl_cons]; unfold dgS; rfl
theorem aG6(a b n:Nat) (h:a*10≤b):a*10^(n+1)≤b*10^n:=by
 have e:a*10^(n+1)=(a*10)*10^n:=by rw[Nat.pow_succ,Nat.mul_comm (10^n) 10,Nat.mul_assoc]
 rw[e];exact aYF _ h
theorem X1(l:Y_):∀a:Nat,a*10^l.length≤iX a l:=by
 induction l with
 |nil=>intro a; rw[ES,aZS,Nat.pow_zero,Nat.mul_one]; exact bAJ _
 |cons c l ih =>
  intro a
  have h:=ih (a*10+(c.toNat-48))
  have h2:=aG6 a (a*10+(c.toNat-48)) l.length (by omega)
  rw[aZA,yE];exact bAA h2 h
def aG7(neg:Bool) (r:Y_) (hi:Int):Int×Int :=
 if r=[] then(0,4) else if r.headD 0=48∧(1<r.length∨neg=true) then(0,4) else if r.any (fun c=>!sI c) then(0,4) else
 if neg=true then(0,2) else if hi<(iX 0 r:Int) then(0,2) else((iX 0 r:Int),0)
def aCK(s:Y_) (hi:Int):Int×Int:=if s.head?=some 45 then aG7 true s.tail hi else aG7 false s hi
theorem aLZ:∀(l:Y_) (a:Nat),a≤2^64-1→(∀c∈l,sI c=true)→parseUintM (2^64-1) a l=if 2^64-1<iX a l then .range else .ok (iX a l)
 | [],a,ha,_=>by
  unfold parseUintM;rw[ES,if_neg (by omega)]
 |c::l,a,ha,hd=>by
  have hc:=of_decide_eq_true (hd c aYX)
  have hl:=fun x hx=>hd x (aYE _ hx)
  unfold n8 at hc
  have hge:=X1 l (a*10+(c.toNat-48))
  have hp:1≤10^l.length:=Nat.one_le_pow _ _ (by omega)
  have hge2:a*10+(c.toNat-48)≤iX (a*10+(c.toNat-48)) l:=bAA (by have:=Nat.mul_le_mul_left (a*10+(c.toNat-48)) hp; omega) hge
  unfold parseUintM;rw[yE,if_pos (by omega)]
  by_cases h1:1844674407370955162≤a
  ·rw[if_pos h1,if_pos (by omega)]
  rw[if_neg h1]
  by_cases h2:2^64-1<a*10+(c.toNat-48)
  ·rw[if_pos h2,if_pos (by omega)]
  rw[if_neg h2];exact aLZ l _ (by omega) hl
theorem aKG{l:Y_}(h:l.any (fun c=>!sI c)=false):∀c∈l,sI c=true:=fun c hc=>by
 have:=List.any_eq_false.1 h c hc
 simpa using this
theorem aG8{l:Y_}(h0:l≠[]) (h:∀c∈l,sI c=true) (h48:l.headD 0≠48):10^(l.length-1)≤iX 0 l∧1≤iX 0 l:=by
 obtain⟨c,r,rfl⟩:∃c r,l=c::r:=by cases l with|nil=>exact absurd rfl h0|cons c r=>exact⟨c,r,rfl⟩
 have hc:=of_decide_eq_true (h c aYX)
 unfold n8 at hc
 have hne:c.toNat≠48:=fun k=>h48 (UInt8.toNat_inj.1 k)
 have:=X1 r (0*10+(c.toNat-48))
 have hp:1≤10^r.length:=Nat.one_le_pow _ _ (by omega)
 have h3:1*10^r.length≤(0*10+(c.toNat-48))*10^r.length:=aYF _ (by omega)
 rw[yE,aZA,aY1];omega
theorem aKH{neg:Bool}{r:Y_}(h0:r≠[]) (h:∀c∈r,sI c=true) (h48:neg=true→r.headD 0≠48){hi:Int}(hh:hi≤4611686018427387904) :
  (cnd (zO (if neg=true then 45::r else r)).2 (some ((0:Int),(2:Int))) (cnd (ilt (zO (if neg=true then 45::r else r)).1 0) (some (0,2)) (cnd (ilt hi (zO (if neg=true then 45::r else r)).1) (some (0,2)) (some ((zO (if neg=true then 45::r else r)).1,0)))))
  = some (if neg=true then(0,2) else if hi<(iX 0 r:Int) then(0,2) else((iX 0 r:Int),0)):=by
 have hu:parseUintB 64 r=if 2^64-1<iX 0 r then .range else .ok (iX 0 r):=by
  unfold parseUintB;rw[if_neg h0];exact aLZ r 0 (by omega) h
 cases neg with
 |true =>
  have hp:zO (45::r)=match signedC (2^63) (parseUintB 64 r) with|NumEnd.ok v=>(v,false) | .range=>(Lib.intSat 64 (45::r),true)|_=>(0,true):=by
   unfold zO;rw[parseIntB_minus];rfl
  have h1:=(aG8 h0 h (h48 rfl)).2
  simp only[if_true];rw[hp,hu]
  by_cases c1:2^64-1<iX 0 r
  ·rw[if_pos c1]; rfl
  ·rw[if_neg c1];simp only[signedC]
   by_cases c2:2^63<iX 0 r
   ·rw[if_pos c2]; rfl
   ·rw[if_neg c2];simp only;rw[aC rfl,aD (aV (by omega))]
 |false =>
  obtain⟨c,t,rfl⟩:∃c t,r=c::t:=by cases r with|nil=>exact absurd rfl h0|cons c t=>exact⟨c,t,rfl⟩
  have hc:=of_decide_eq_true (h c aYX)
  unfold n8 at hc
  have hp:zO (c::t)=match signlessC (2^63) (parseUintB 64 (c::t)) with|NumEnd.ok v=>(v,false) | .range=>(Lib.intSat 64 (c::t),true)|_=>(0,true):=by
   unfold zO;rw[parseIntB_plain 64 c t (by omega) (by omega)];rfl
  simp only[aYY,if_false];rw[hp,hu]
  by_cases c1:2^64-1<iX 0 (c::t)
  ·rw[if_pos c1,if_pos (by omega)]; rfl
  ·rw[if_neg c1];simp only[signlessC]
   by_cases c2:2^63≤iX 0 (c::t)
   ·rw[if_pos c2,if_pos (by omega)]; rfl
   ·rw[if_neg c2];simp only;rw[aC rfl,aC (aX (by omega))]
    by_cases c3:hi<(iX 0 (c::t):Int)
    ·rw[aD (aV c3),if_pos c3]
    ·rw[aC (aX c3),if_neg c3]
theorem aKI(N:Nat) (s:Y_) (b:UInt8):I8 N (s,[b])=some (if s.head?=some b then(s.tail,true) else(s,false)):=by
 unfold I8 aES q74
 cases s with
 |nil=>rfl
 |cons c s =>
  have h1:in2 (len [b]) (len (c::s))=true:=mP (by simp only[len,aZA,aZS]; omega)
  rw[aD (gT (by simp only[len,aZA,aZS]; omega)),aF h1]
  have e:bL (toN (len [b])) (c::s)=[c]:=rfl
  rw[e,aB]
  by_cases h:c=b
  ·subst h
   have:seq [c] [c]=true:=by rw[cX]
   rw[this,aC (by rfl),aF h1,aB,if_pos (by rfl)];rfl
  ·have:seq [c] [b]=false:=by rw[cB]; simpa using h
   rw[this,aD (by rfl),aB,if_neg (by simpa using h)]
theorem UY{s:Y_}(hs:s.length≤4000000){hi:Int}(hh:hi≤4611686018427387904):I9 fuelH (s,0,hi)=some (aCK s hi):=by
 have key:∀(neg:Bool) (r:Y_),s=(if neg=true then 45::r else r)→r.length≤s.length→I8 fuelH (s,[45])=some (r,neg)→I9 fuelH (s,0,hi)=some (aG7 neg r hi):=by
  intro neg r hsr hrl hcut;unfold I9 aG7;dsimp only;rw[bM hcut];dsimp only;rw[bT]
  by_cases h0:r=[]
  ·subst h0;rw[aD (by rw[cX]),if_pos rfl]
  ·have hr0:1≤r.length:=by cases r with|nil=>exact absurd rfl h0|cons _ _=>simp
   have hget:aA r (toN (0:Int)) 0=r.headD 0:=by cases r with|nil=>exact absurd rfl h0|cons _ _=>rfl
   rw[aC (by rw[cB]; simpa using h0),if_neg h0,aF (aY (by simp only[len]; omega)),hget]
   have main:(¬(r.headD 0=48∧(1<r.length∨neg=true)))→(jn (fun (v2:Unit)=>bnd (cT fuelH (s,10,64)) fun v3=>cnd v3.2 (some ((0:Int),(2:Int))) (cnd (ilt v3.1 0) (some (0,2)) (cnd (ilt hi v3.1) (some (0,2)) (some (v3.1,0))))) fun v4 =>
     bI (fun v5 (v6:Int) =>
      cnd (ilt v6 (len r))
       (grd (inb v6 (len r))
        (cnd (ilt (n8 (aA r (toN v6) (0:UInt8))) (n8 (48:UInt8)))
         (some (0,4))
         (grd (inb v6 (len r))
          (cnd (ilt (n8 (57:UInt8)) (n8 (aA r (toN v6) (0:UInt8))))
           (some (0,4))
           (v5 (w64 (aE v6 1)))))))
       (v4 ())) fuelH 0)=some (if r.any (fun c=>!sI c) then(0,4) else if neg=true then(0,2) else if hi<(iX 0 r:Int) then(0,2) else((iX 0 r:Int),0)):=by
    intro hz;rw[bT];refine(jH (l:=r) (fun i=>(i:Int)) (fun c=>!sI c) (fun _ _=>some (0,4)) (bnd (cT fuelH (s,10,64)) fun v3=>cnd v3.2 (some ((0:Int),(2:Int))) (cnd (ilt v3.1 0) (some (0,2)) (cnd (ilt hi v3.1) (some (0,2)) (some (v3.1,0))))) (by have:=bG; omega) (fun self i h=>?_) (fun self=>?_)).trans ?_
    ·have hin:inb (i:Int) (len r)=true:=aY (by simp only[len]; omega)
     dsimp only;rw[aD (aV (by simp only[len]; omega)),aF hin,aF hin,bA h,aR h (by omega)]
     have n48:n8 (48:UInt8)=48:=rfl
     have n57:n8 (57:UInt8)=57:=rfl
     rw[n48,n57]
     by_cases c1:n8 r[i]<48
     ·rw[aD (aV c1),if_pos (by simp only[sI,aY4,decide_eq_false_iff_not]; omega)]
     ·rw[aC (aX c1)]
      by_cases c2:57<n8 r[i]
      ·rw[aD (aV c2),if_pos (by simp only[sI,aY4,decide_eq_false_iff_not]; omega)]
      ·rw[aC (aX c2),if_neg (by simp only[sI,aY4,decide_eq_false_iff_not]; omega)]
    ·dsimp only;rw[aC (aX (by simp only[len]; omega))]
    ·rw[ER]
     by_cases ha:r.any (fun c=>!sI c)=true
     ·rw[if_pos ha,if_pos ha]
     ·rw[if_neg ha,if_neg ha]
      have hd:=aKG (by simpa using ha)
      have hpi:cT fuelH (s,10,64)=some (zO s):=by
       show grd (ieq (10:Int) 10) (grd (ieq (64:Int) 64) (grd (decide (s.length≤281474976710656)) (some (zO s))))=_;rw[aF (dJ rfl),aF (dJ rfl),aF (decide_eq_true (by omega))]
      rw[bM hpi,hsr];exact aKH h0 hd (fun hn k=>hz ⟨k,Or.inr hn⟩) hh
   by_cases hz:r.headD 0=48
   ·rw[aD (dJ (by rw[hz]))]
    by_cases h1:1<r.length
    ·rw[aD (aV (by simp only[len]; omega)),if_pos ⟨hz,Or.inl h1⟩]
    ·rw[aC (aX (by simp only[len]; omega))]
     cases neg with
     |true=>rw[aD rfl,if_pos ⟨hz,Or.inr rfl⟩]
     |false =>
      have hn:¬(r.headD 0=48∧(1<r.length∨(false:Bool)=true)):=fun k=>k.2.elim h1 (fun k=>by cases k)
      rw[aC rfl,if_neg hn];exact main hn
   ·have hn:¬(r.headD 0=48∧(1<r.length∨neg=true)):=fun k=>hz k.1
    rw[aC (dA (fun k=>hz (fG k))),if_neg hn];exact main hn
 have hc:=aKI fuelH s 45
 unfold aCK
 by_cases h:s.head?=some 45
 ·rw[if_pos h] at hc ⊢
  cases s with
  |nil=>cases h
  |cons c s =>
   have:c=45:=by simpa using h
   subst this;exact key true s rfl (by simp) hc
 ·rw[if_neg h] at hc ⊢;exact key false s rfl (bAJ _) hc
def OZ(n:Nd):List At:=n.2.2.1
def eU(n:Nd) (name:Ln):Ln:=(bS name (OZ n)).1
def yF(n:Nd) (name:Ln):Bool:=(bS name (OZ n)).2
theorem yG{R:Type}(name:Ln) (f:Ln→R) (K:R):∀(i:Nat) (l:List At),fO (fun a:At=>seq a.1 name) (fun _ a=>f a.2) K i l=if(bS name l).2 then f (bS name l).1 else K
 |_,[]=>rfl
 |i,a::l=>by
  unfold fO bS;rw[yG name f K (i+1) l]
  by_cases h:seq a.1 name=true
  ·rw[if_pos h];rw[cX] at h;rw[if_pos h];rfl
  ·have h2:¬a.1=name:=fun k=>h (by rw[cX]; exact k)
   rw[if_neg h,if_neg h2]
theorem ET(name:Ln):∀l:List At,(bS name l).2=false→(bS name l).1=[]
 | [],_=>rfl
 |a::l,h=>by
  unfold bS at h ⊢
  by_cases e:a.1=name
  ·rw[if_pos e] at h; cases h
  ·rw[if_neg e] at h ⊢; exact ET name l h
theorem yH{n:Nd}{name:Ln}(h:yF n name=false):eU n name=[]:=ET name _ h
theorem IN(name:Ln):∀l:List At,(bS name l).2=true→(name,(bS name l).1)∈l
 | [],h=>by cases h
 |a::l,h=>by
  unfold bS at h ⊢
  by_cases e:a.1=name
  ·rw[if_pos e] at h ⊢; subst e; exact aYX
  ·rw[if_neg e] at h ⊢; exact aYE _ (IN name l h)
theorem yI(name:Ln):∀l:List At,(bS name l).2=true↔name∈l.map Prod.fst
 | []=>by simp[bS]
 |a::l=>by
  unfold bS
  by_cases e:a.1=name
  ·rw[if_pos e]; simp[e]
  ·rw[if_neg e,aZ5,aZ4,yI name l];exact⟨fun k=>Or.inr k,fun k=>k.resolve_left (fun q=>e q.symm)⟩
theorem vU{n:Nd}(hs:smN n) (name:Ln):(eU n name).length≤1090000:=by
 cases h:yF n name with
 |false=>rw[yH h]; simp
 |true=>exact(hs.an _ (IN name _ h)).2
theorem eY{n:Nd}(hs:smN n) (e:Int) (name:Ln):q95 fuelH ((n,e),name)=some (eU n name,n,e):=by
 have hl:=hs.asz
 have hfu:=bG
 unfold q95;dsimp only;rw[bT];refine(jH (l:=n.2.2.1) (fun i=>(i:Int)) (fun a:At=>seq a.1 name) (fun _ a=>some (a.2,n,e)) (some ([],n,e)) (by omega) (fun self i h=>?_) (fun self=>?_)).trans ?_
 ·have hin:inb (i:Int) (len n.2.2.1)=true:=aY (by simp only[len]; omega)
  rw[aD (aV (by simp only[len]; omega)),aF hin,bA h,aR h (by omega)];cases seq n.2.2.1[i].1 name<;>rfl
 ·rw[aC (aX (by simp only[len]; omega))]
 ·rw[yG name (fun v=>some (v,n,e))]
  by_cases h:(bS name n.2.2.1).2=true
  ·rw[if_pos h]; rfl
  ·rw[if_neg h]
   have:eU n name=[]:=yH (by simpa [yF,OZ] using h)
   rw[this]
def iG(a b:Int):Int:=if a=0 then b else a
theorem oS(N:Nat) (n:Nd) (a b:Int):q98 N ((n,a),b)=some (n,iG a b):=by
 unfold q98 iG;dsimp only
 by_cases h:a=0
 ·rw[aD (dJ h),if_pos h]
 ·rw[aC (dA h),if_neg h]
def iH(n:Nd) (name:Ln) (hi:Int):Int×Int:=aCK (eU n name) hi
theorem PA{n:Nd}(hs:smN n) (e:Int) (name:Ln){hi:Int}(hh:hi≤4611686018427387904):LL fuelH ((n,e),name,hi)=some ((iH n name hi).1,n,iG e (iH n name hi).2):=by
 have:=vU hs name
 unfold LL RT;dsimp only;rw[eY hs,aB];dsimp only;rw[UY (by omega) hh,aB]
 try dsimp only
 rw[oS];rfl
theorem vV{n:Nd}(hs:smN n) (e:Int) (name:Ln):LO fuelH ((n,e),name)=some ((iH n name 32).1,n,iG e (iH n name 32).2):=by
 unfold LO;dsimp only;rw[PA hs e name (by omega),aB]
def aKJ(s:Ln):Int×Int:=if s.getLast?=some 102 then aCK s.dropLast 5184000 else(0,4)
def tX(n:Nd) (name:Ln):Int×Int:=aKJ (eU n name)
theorem aKK{s:Ln}(hs:s.length≤4000000):aA2 fuelH (s,[102])=some (if s.getLast?=some 102 then(s.dropLast,true) else(s,false)):=by
 unfold aA2 aEU aET;dsimp only;rcases List.eq_nil_or_concat s with rfl|⟨t,c,rfl⟩
 ·rfl
 ·rw[List.concat_eq_append] at hs ⊢;rw[aYT,aZA,aZS] at hs
  have hl:len (t++[c])=((t.length+1:Nat):Int):=by simp[len]
  have h1:len [(102:UInt8)]=1:=rfl
  have hw:w64 (aJ (len (t++[c])) (len [(102:UInt8)]))=(t.length:Int):=by
   rw[hl,h1];simp only[aJ];rw[bU (by omega)];omega
  have hd:cQ (toN (t.length:Int)) (t++[c])=[c]:=by
   show(t++[c]).drop _=_
   have:toN (t.length:Int)=t.length:=by simp[toN]
   rw[this,List.drop_append_of_le_length (bAJ _),aZK];rfl
  have ht:bL (toN (t.length:Int)) (t++[c])=t:=by
   show(t++[c]).take _=_
   have:toN (t.length:Int)=t.length:=by simp[toN]
   rw[this,List.take_append_of_le_length (bAJ _),aZH]
  have hin:in2 (t.length:Int) (len (t++[c]))=true:=mP (by rw[hl]; omega)
  rw[aD (gT (by rw[hl,h1]; omega)),hw,aF hin,hd,aB,List.getLast?_concat,List.dropLast_concat]
  by_cases h:c=102
  ·subst h
   have:seq [(102:UInt8)] [102]=true:=by rw[cX]
   rw[this,aC (by rfl),aF hin,ht,aB,if_pos rfl]
  ·have:seq [c] [102]=false:=by rw[cB]; simpa using h
   rw[this,aD (by rfl),aB,if_neg (by simpa using h)]
theorem X2{n:Nd}(hs:smN n) (e:Int) (name:Ln):J0 fuelH ((n,e),name)=some ((tX n name).1,n,iG e (tX n name).2):=by
 have hl:=vU hs name
 unfold J0 RT tX aKJ;rw[eY hs,aB];dsimp only;rw[aKK (by omega),aB]
 by_cases h:(eU n name).getLast?=some 102
 ·rw[if_pos h,if_pos h,aC (by rfl)];dsimp only;rw[UY (by rw[aYG]; omega) (by omega),aB]
  try dsimp only
  rw[oS];rfl
 ·rw[if_neg h,if_neg h,aD (by rfl)];dsimp only;rw[oS];rfl
def aCL(tab:List Ln) (s:Ln):Option Nat:=fO (fun x:Ln=>seq x s) (fun i _=>some i) none 0 tab
theorem UZ{R:Type} (f:Nat→R) (K:R) (s:Ln):∀(k:Nat) (tab:List Ln),fO (fun x:Ln=>seq x s) (fun i _=>f i) K k tab=match(fO (fun x:Ln=>seq x s) (fun i _=>some i) none k tab:Option Nat) with|some i=>f i|none=>K
 |_,[]=>rfl
 |k,x::tab=>by
  unfold fO;rw[UZ f K s (k+1) tab]
  by_cases h:seq x s=true
  ·rw[if_pos h,if_pos h]
  ·rw[if_neg h,if_neg h]
def chT(tab:List Ln) (n:Nd) (name:Ln):Int×Int:=if yF n name=false then(0,0) else match aCL tab (eU n name) with|some i=>((i:Int),0)|none=>(0,4)
theorem N2{n:Nd}(hs:smN n) (e:Int){name:Ln}{tab:List Ln}(ht:tab.length≤100) (hh:yF n name=true):DJ fuelH ((n,e),name,tab)=some ((chT tab n name).1,n,iG e (chT tab n name).2):=by
 have hfu:=bG
 unfold DJ chT;rw[if_neg (by rw[hh]; simp)];dsimp only;rw[eY hs,aB,bT,oS,aB];dsimp only;refine(jH (l:=tab) (fun i=>(i:Int)) (fun x:Ln=>seq x (eU n name)) (fun i _=>some ((i:Int),n,e)) (some (0,n,iG e 4)) (by omega) (fun self i h=>?_) (fun self=>?_)).trans ?_
 ·have hin:inb (i:Int) (len tab)=true:=aY (by simp only[len]; omega)
  rw[aD (aV (by simp only[len]; omega)),aF hin,bA h,aR h (by omega)];cases seq tab[i] (eU n name)<;>rfl
 ·rw[aC (aX (by simp only[len]; omega))]
 ·rw[UZ (fun i=>some ((i:Int),n,e))]
  have:(fO (fun x:Ln=>seq x (eU n name)) (fun i _=>some i) none 0 tab:Option Nat)=aCL tab (eU n name):=rfl
  rw[this]
  cases aCL tab (eU n name) with
  |none=>rfl
  |some i=>unfold iG; by_cases h:e=0<;>simp[h]
def flT(n:Nd) (name:Ln):Bool×Int:=(ieq (chT [[48],[49]] n name).1 1,(chT [[48],[49]] n name).2)
theorem X3(e:Int):iG e 0=e:=by unfold iG; by_cases h:e=0<;>simp[h]
def aaIO(n:Nd):Prop:=((OZ n).map Prod.fst).Nodup
def flE(name:Ln):Int→List At→Int
 |e,[]=>e
 |e,a::r=>flE name (if a.1=name∧a.2≠[48]∧a.2≠[49] then iG e 4 else e) r
theorem X4(name:Ln):∀(l:List At) (e:Int),name ∉ l.map Prod.fst→flE name e l=e
 | [],_,_=>rfl
 |a::l,e,h=>by
  simp only[aZ5,aZ4,not_or] at h;unfold flE;rw[if_neg (fun k=>h.1 k.1.symm)];exact X4 name l e h.2
theorem aG9(name:Ln):∀(l:List At) (e:Int),(l.map Prod.fst).Nodup→flE name e l=iG e (if(bS name l).2=true∧(bS name l).1≠[48]∧(bS name l).1≠[49] then 4 else 0)
 | [],e,_=>by simp[flE,bS,X3]
 |a::l,e,h=>by
  rw[aZ5,List.nodup_cons] at h;unfold flE bS
  by_cases ha:a.1=name
  ·subst ha;rw[X4 _ _ _ h.1,if_pos rfl]
   by_cases c:a.2≠[48]∧a.2≠[49]
   ·rw[if_pos ⟨rfl,c⟩,if_pos ⟨rfl,c⟩]
   ·rw[if_neg (fun k=>c k.2),if_neg (fun k=>c k.2),X3]
  ·rw[if_neg (fun k=>ha k.1),if_neg ha];exact aG9 name l e h.2
theorem aWO(s:Ln):aCL [[48],[49]] s=if s=[48] then some 0 else if s=[49] then some 1 else none:=by
 unfold aCL fO fO fO
 by_cases h:s=[48]
 ·subst h; rfl
 ·rw[if_neg h]
  have h1:seq [48] s=false:=by rw[cB]; simpa using fun k=>h k.symm
  rw[if_neg (by rw[h1]; simp)]
  by_cases h2:s=[49]
  ·subst h2; rfl
  ·rw[if_neg h2]
   have h3:seq [49] s=false:=by rw[cB]; simpa using fun k=>h2 k.symm
   rw[if_neg (by rw[h3]; simp)]
theorem N3{n:Nd}(hs:smN n) (hu:aaIO n) (e:Int) (name:Ln):q99 fuelH ((n,e),name)=some ((flT n name).1,n,iG e (flT n name).2):=by
 have hl:=hs.asz
 have hfu:=bG
 unfold q99;dsimp only;rw[bT]
 have h:=cU (R:=Bool×Nd×Int) (s:=n.2.2.1) (F:=fun v3 (v4:Int×Nd×Int) =>
   cnd (ilt v4.1 (len n.2.2.1))
    (grd (inb v4.1 (len n.2.2.1))
     (cnd (seq (aA n.2.2.1 (toN v4.1) ([],[])).1 name)
      (cnd (sne (aA n.2.2.1 (toN v4.1) ([],[])).2 ([48]:Y_))
       (cnd (sne (aA n.2.2.1 (toN v4.1) ([],[])).2 ([49]:Y_))
        (bnd (q98 fuelH (v4.2,(4:Int))) fun v5 =>
        v3 (w64 (aE v4.1 (1:Int)),v5))
        (v3 (w64 (aE v4.1 (1:Int)),v4.2)))
       (v3 (w64 (aE v4.1 (1:Int)),v4.2)))
      (v3 (w64 (aE v4.1 (1:Int)),v4.2))))
    (bnd (q95 fuelH (v4.2,name)) fun v1 =>
     some (seq v1.1 ([49]:Y_),v1.2)))
  (fun (e:Int) (j:Nat)=>((j:Int),n,e)) (fun e r=>some (seq (eU n name) [49],n,flE name e r)) (fun _ _=>True) ?_ fuelH 0 e (by omega) (bAK _) trivial
 ·refine bAM h ?_;rw[aZZ,aG9 name n.2.2.1 e hu];unfold flT chT;rw[aWO]
  have hv:(bS name n.2.2.1).1=eU n name:=rfl
  have hh:(bS name n.2.2.1).2=yF n name:=rfl
  rw[hv,hh]
  cases c:yF n name with
  |false =>
   have:=yH c
   rw[this,if_neg (by simp),if_pos rfl];rfl
  |true =>
   rw[if_neg (show ¬(true=false) by simp)]
   by_cases c0:eU n name=[48]
   ·rw[if_pos c0,if_neg (fun k=>k.2.1 c0),c0]; rfl
   ·rw[if_neg c0]
    by_cases c1:eU n name=[49]
    ·rw[if_pos c1,if_neg (fun k=>k.2.2 c1),c1]; rfl
    ·rw[if_neg c1,if_pos ⟨rfl,c0,c1⟩]
     have:seq (eU n name) [49]=false:=by rw[cB]; simpa using c1
     rw[this]; rfl
 ·intro self a j hj _ hself
  by_cases hjl:j<n.2.2.1.length
  ·have hin:inb (j:Int) (len n.2.2.1)=true:=aY (by simp only[len]; omega)
   have hw:w64 (aE (j:Int) 1)=((j+1:Nat):Int):=aR hjl (by omega)
   dsimp only;rw[aD (aV (by simp only[len]; omega)),aF hin,bA hjl,hw,aXR hjl];unfold flE
   have nx:=fun e'=>hself e' (j+1) (by omega) (by omega) trivial
   by_cases c:n.2.2.1[j].1=name
   ·rw[aD (by rw[cX]; exact c)]
    by_cases c0:n.2.2.1[j].2=[48]
    ·rw[aC (by simpa [sne] using c0),if_neg (fun k=>k.2.1 c0)];exact nx a
    ·rw[aD (by simpa [sne] using c0)]
     by_cases c1:n.2.2.1[j].2=[49]
     ·rw[aC (by simpa [sne] using c1),if_neg (fun k=>k.2.2 c1)];exact nx a
     ·rw[aD (by simpa [sne] using c1),if_pos ⟨c,c0,c1⟩,oS,aB];exact nx _
   ·rw[aC (by rw[cB]; simpa using c),if_neg (fun k=>c k.1)];exact nx a
  ·obtain rfl:j=n.2.2.1.length:=by omega
   dsimp only;rw[aC (aX (by simp only[len]; omega)),eY hs,aB,aZK];rfl
def N4(n:Nd):UInt8×Int:=(b8 (chT gl1 n [99,111,108,111,114]).1,(chT gl1 n [99,111,108,111,114]).2)
theorem aKL{n:Nd}(hs:smN n) (e:Int):aA4 fuelH (n,e)=some ((N4 n).1,n,iG e (N4 n).2):=by
 have hl:=hs.asz
 have hfu:=bG
 unfold aA4;dsimp only;rw[bT];refine(jH (l:=n.2.2.1) (fun i=>(i:Int)) (fun a:At=>seq a.1 [99,111,108,111,114]) (fun _ _=>bnd (DJ fuelH ((n,e),[99,111,108,111,114],gl1)) fun v4=>some (b8 v4.1,v4.2)) (some ((0:UInt8),n,e)) (by omega) (fun self i h=>?_) (fun self=>?_)).trans ?_
 ·have hin:inb (i:Int) (len n.2.2.1)=true:=aY (by simp only[len]; omega)
  rw[aD (aV (by simp only[len]; omega)),aF hin,bA h,aR h (by omega)];cases seq n.2.2.1[i].1 [99,111,108,111,114]<;>rfl
 ·rw[aC (aX (by simp only[len]; omega))]
 ·rw[yG [99,111,108,111,114] (fun _=>bnd (DJ fuelH ((n,e),[99,111,108,111,114],gl1)) fun v4=>some (b8 v4.1,v4.2))]
  have hh:(bS [99,111,108,111,114] n.2.2.1).2=yF n [99,111,108,111,114]:=rfl
  rw[hh];unfold N4
  cases c:yF n [99,111,108,111,114] with
  |true =>
   rw[if_pos rfl,N2 hs e (by decide) c,aB]
  |false =>
   unfold chT;rw[if_neg (by simp),c,if_pos rfl,X3];rfl
def N5(s:Ln):UInt8×Int:=fO (fun r:UInt8=>seq (oA r) s) (fun _ r=>(r,0)) (0,4) 0 [1,2,3,4,5,6,7]
def zV(s:Ln):UInt8×Int:=fO (fun k:Ln=>seq k s) (fun i _=>(b8 (w64 (aE (i:Int) 1)),0)) (0,4) 0 [[68,73,65,76,79,71,85,69],[83,79,85,78,68],[84,73,84,76,69],[77,85,83,73,67]]
theorem yJ{α R:Type}(p:α→Bool) (f:Nat→α→R) (K:R):∀(i:Nat) (l:List α),fO p (fun i a=>some (f i a)) (some K) i l=some (fO p f K i l)
 |_,[]=>rfl
 |i,a::l=>by
  unfold fO;rw[yJ p f K (i+1) l]
  by_cases h:p a=true
  ·rw[if_pos h,if_pos h]
  ·rw[if_neg h,if_neg h]
theorem aHA(s:Ln):q97 fuelH s=some (N5 s):=by
 have hfu:=bG
 unfold q97;rw[bT]
 have hr:q96 fuelH ()=some [1,2,3,4,5,6,7]:=rfl
 rw[bM hr];unfold N5;rw[←yJ (fun r:UInt8=>seq (oA r) s) (fun _ r=>((r,0):UInt8×Int)) (0,4) 0];refine jH (l:=([1,2,3,4,5,6,7]:Y_)) (fun i=>(i:Int)) (fun r=>seq (oA r) s) (fun _ r=>some (r,0)) (some (0,4)) (by simp only[aZA,aZS]; omega) (fun self i h=>?_) (fun self=>?_)
 ·have hin:inb (i:Int) (len ([1,2,3,4,5,6,7]:Y_))=true:=aY (by simp only[len]; omega)
  rw[aD (aV (by simp only[len]; omega)),aF hin,bA h,IA,aB,aR h (by simp only[aZA,aZS] at h ⊢; omega)];cases seq (oA ([1,2,3,4,5,6,7]:Y_)[i]) s<;>rfl
 ·rw[aC (aX (by simp only[len]; omega))]
theorem aHB(s:Ln):aA3 fuelH s=some (zV s):=by
 have hfu:=bG
 unfold aA3;rw[bT]
 have hr:q26 fuelH ()=some [[68,73,65,76,79,71,85,69],[83,79,85,78,68],[84,73,84,76,69],[77,85,83,73,67]]:=rfl
 rw[bM hr];unfold zV;rw[←yJ (fun k:Ln=>seq k s) (fun i _=>((b8 (w64 (aE (i:Int) 1)),0):UInt8×Int)) (0,4) 0];refine jH (l:=([[68,73,65,76,79,71,85,69],[83,79,85,78,68],[84,73,84,76,69],[77,85,83,73,67]]:List Ln)) (fun i=>(i:Int)) (fun k=>seq k s) (fun i _=>some (b8 (w64 (aE (i:Int) 1)),0)) (some (0,4)) (by simp only[aZA,aZS]; omega) (fun self i h=>?_) (fun self=>?_)
 ·have hin:inb (i:Int) (len ([[68,73,65,76,79,71,85,69],[83,79,85,78,68],[84,73,84,76,69],[77,85,83,73,67]]:List Ln))=true:=aY (by simp only[len]; omega)
  rw[aD (aV (by simp only[len]; omega)),aF hin,bA h,aR h (by simp only[aZA,aZS] at h ⊢; omega)];cases seq ([[68,73,65,76,79,71,85,69],[83,79,85,78,68],[84,73,84,76,69],[77,85,83,73,67]]:List Ln)[i] s<;>rfl
 ·rw[aC (aX (by simp only[len]; omega))]
def jI(n:Ln):List Ln:=if n=[116,116] then [[114,97,116,101],[108,97,115,116]] else if n=[114,101,103,105,111,110] then [[110,97,109,101],[116,111,112],[104,101,105,103,104,116],[108,101,102,116],[119,105,100,116,104],[97,108,105,103,110],[97,110,99,104,111,114]] else if n=[112] then [[105,100],[105,110],[111,117,116],[107,105,110,100]] else []
def rB(n:Ln):List Ln:=if n=[116,116] then [[116,105,116,108,101],[108,97,110,103],[100,114,111,112]] else if n=[114,101,103,105,111,110] then [] else if n=[112] then [[114,101,103,105,111,110],[115,112,101,97,107,101,114]] else if n=[114,117,110] then [[99,111,108,111,114],[105,116,97,108,105,99],[117,110,100,101,114,108,105,110,101],[114,117,98,121]] else []
def yK(n:Ln):List Ln:=if n=[116,116] then [[116,105,116,108,101],[108,97,110,103],[114,97,116,101],[100,114,111,112],[108,97,115,116]] else if n=[114,101,103,105,111,110] then [[110,97,109,101],[116,111,112],[104,101,105,103,104,116],[108,101,102,116],[119,105,100,116,104],[97,108,105,103,110],[97,110,99,104,111,114]] else if n=[112] then [[105,100],[105,110],[111,117,116],[114,101,103,105,111,110],[107,105,110,100],[115,112,101,97,107,101,114]] else if n=[114,117,110] then [[99,111,108,111,114],[105,116,97,108,105,99],[117,110,100,101,114,108,105,110,101],[114,117,98,121]] else []
theorem aWP{P:Ln→Prop}(h1:P [116,116]) (h2:P [114,101,103,105,111,110]) (h3:P [112]) (h4:P [114,117,110]) (h5:∀n,n≠[116,116]→n≠[114,101,103,105,111,110]→n≠[112]→n≠[114,117,110]→P n) (n:Ln):P n:=by
 by_cases c1:n=[116,116]
 ·rw[c1]; exact h1
 by_cases c2:n=[114,101,103,105,111,110]
 ·rw[c2]; exact h2
 by_cases c3:n=[112]
 ·rw[c3]; exact h3
 by_cases c4:n=[114,117,110]
 ·rw[c4]; exact h4
 exact h5 n c1 c2 c3 c4
theorem FO(N:Nat) (n:Ln):q92 N n=some (jI n,rB n):=by
 refine aWP (P:=fun n=>q92 N n=some (jI n,rB n)) rfl rfl rfl rfl (fun n c1 c2 c3 c4=>?_) n;unfold q92 jI rB;rw[aC (by rw[cB]; simpa using c1),aC (by rw[cB]; simpa using c2),aC (by rw[cB]; simpa using c3),aC (by rw[cB]; simpa using c4),if_neg c1,if_neg c2,if_neg c3,if_neg c1,if_neg c2,if_neg c3,if_neg c4]
theorem X5(n:Ln):(∀w,w∈yK n↔w∈jI n∨w∈rB n)∧(jI n).Nodup∧(jI n).length≤7∧(rB n).length≤4∧(yK n).length≤7:=by
 refine aWP (P:=fun n=>(∀w,w∈yK n↔w∈jI n∨w∈rB n)∧(jI n).Nodup∧(jI n).length≤7∧(rB n).length≤4∧(yK n).length≤7) ?_ ?_ ?_ ?_ (fun n c1 c2 c3 c4=>?_) n
 ·refine⟨fun w=>?_,by decide,by decide,by decide,by decide⟩
  have e1:yK [116,116]=[[116,105,116,108,101],[108,97,110,103],[114,97,116,101],[100,114,111,112],[108,97,115,116]]:=rfl
  have e2:jI [116,116]=[[114,97,116,101],[108,97,115,116]]:=rfl
  have e3:rB [116,116]=[[116,105,116,108,101],[108,97,110,103],[100,114,111,112]]:=rfl
  rw[e1,e2,e3];simp only[aZ4,List.not_mem_nil,or_false];constructor
  ·rintro(h|h|h|h|h)
   ·exact Or.inr (Or.inl h)
   ·exact Or.inr (Or.inr (Or.inl h))
   ·exact Or.inl (Or.inl h)
   ·exact Or.inr (Or.inr (Or.inr h))
   ·exact Or.inl (Or.inr h)
  ·rintro((h|h)|h|h|h)
   ·exact Or.inr (Or.inr (Or.inl h))
   ·exact Or.inr (Or.inr (Or.inr (Or.inr h)))
   ·exact Or.inl h
   ·exact Or.inr (Or.inl h)
   ·exact Or.inr (Or.inr (Or.inr (Or.inl h)))
 ·refine⟨fun w=>?_,by decide,by decide,by decide,by decide⟩
  have e3:rB [114,101,103,105,111,110]=[]:=rfl
  have e1:yK [114,101,103,105,111,110]=jI [114,101,103,105,111,110]:=rfl
  rw[e1,e3];simp
 ·refine⟨fun w=>?_,by decide,by decide,by decide,by decide⟩
  have e1:yK [112]=[[105,100],[105,110],[111,117,116],[114,101,103,105,111,110],[107,105,110,100],[115,112,101,97,107,101,114]]:=rfl
  have e2:jI [112]=[[105,100],[105,110],[111,117,116],[107,105,110,100]]:=rfl
  have e3:rB [112]=[[114,101,103,105,111,110],[115,112,101,97,107,101,114]]:=rfl
  rw[e1,e2,e3];simp only[aZ4,List.not_mem_nil,or_false];constructor
  ·rintro(h|h|h|h|h|h)
   ·exact Or.inl (Or.inl h)
   ·exact Or.inl (Or.inr (Or.inl h))
   ·exact Or.inl (Or.inr (Or.inr (Or.inl h)))
   ·exact Or.inr (Or.inl h)
   ·exact Or.inl (Or.inr (Or.inr (Or.inr h)))
   ·exact Or.inr (Or.inr h)
  ·rintro((h|h|h|h)|h|h)
   ·exact Or.inl h
   ·exact Or.inr (Or.inl h)
   ·exact Or.inr (Or.inr (Or.inl h))
   ·exact Or.inr (Or.inr (Or.inr (Or.inr (Or.inl h))))
   ·exact Or.inr (Or.inr (Or.inr (Or.inl h)))
   ·exact Or.inr (Or.inr (Or.inr (Or.inr (Or.inr h))))
 ·refine⟨fun w=>?_,by decide,by decide,by decide,by decide⟩
  have e1:yK [114,117,110]=rB [114,117,110]:=rfl
  have e2:jI [114,117,110]=[]:=rfl
  rw[e1,e2];simp
 ·unfold jI rB yK;simp only[if_neg c1,if_neg c2,if_neg c3,if_neg c4];simp
def EU(n:Nd):Bool:=(OZ n).all (fun a=>(yK n.1).contains a.1)&&(jI n.1).all (fun w=>((OZ n).map Prod.fst).contains w)
theorem VA{l:List Ln}(hl:l.length≤1000) (s:Ln):q93 fuelH (l,s)=some (l.contains s):=by
 have hfu:=bG
 unfold q93;dsimp only;rw[bT];refine(jH (l:=l) (fun i=>(i:Int)) (fun x:Ln=>seq x s) (fun _ _=>some true) (some false) (by omega) (fun self i h=>?_) (fun self=>?_)).trans ?_
 ·have hin:inb (i:Int) (len l)=true:=aY (by simp only[len]; omega)
  rw[aD (aV (by simp only[len]; omega)),aF hin,bA h,aR h (by omega)];cases seq l[i] s<;>rfl
 ·rw[aC (aX (by simp only[len]; omega))]
 ·rw[ER]
  have:l.any (fun x=>seq x s)=l.contains s:=by
   rw[aZX,List.any_eq_true,aYB];exact⟨fun ⟨x,hx,h⟩=>by rw[cX] at h; exact h ▸ hx,fun h=>⟨s,h,by rw[cX]⟩⟩
  rw[this];cases l.contains s<;>rfl
theorem nft:¬(false=true):=by simp
def vW(A l:List Ln):Nat:=(l.filter (fun w=>A.contains w)).length
theorem aCM(w:Ln) (A l:List Ln) (h:w ∉ A):vW (w::A) l=l.count w+vW A l:=by
 unfold vW
 induction l with
 |nil=>rfl
 |cons x l ih =>
  rw[List.filter_cons,List.filter_cons,aZU]
  by_cases e:x=w
  ·subst e
   have h1:(x::A).contains x=true:=by simp
   have h2:A.contains x=false:=by simpa using h
   have h3:(x==x)=true:=by simp
   rw[h1,h2,h3,if_pos rfl,if_neg nft,if_pos rfl,aZA,ih];omega
  ·have h1:(w::A).contains x=A.contains x:=by
    rw[List.contains_cons]
    have:(x==w)=false:=by simpa using e
    rw[this,aZ6]
   have h3:(x==w)=false:=by simpa using e
   rw[h1,h3,if_neg nft,bAE]
   cases A.contains x with
   |true=>rw[if_pos rfl,if_pos rfl,aZA,aZA,ih]; omega
   |false=>rw[if_neg nft,if_neg nft,ih]
theorem aPS{l:List Ln}(h:l.Nodup) (w:Ln):l.count w≤1:=by
 induction l with
 |nil=>simp
 |cons x l ih =>
  rw[List.nodup_cons] at h;rw[aZU]
  by_cases e:x=w
  ·subst e;rw[if_pos (by simp),List.count_eq_zero_of_not_mem h.1];omega
  ·have:=ih h.2
   rw[if_neg (by simpa using e)];omega
theorem aHC{A l:List Ln}(hA:A.Nodup) (hl:l.Nodup):vW A l≤A.length∧(vW A l=A.length↔∀w∈A,w∈l):=by
 induction A with
 |nil =>
  have:vW [] l=0:=by unfold vW; simp
  rw[this];simp
 |cons w A ih =>
  rw[List.nodup_cons] at hA;obtain⟨h1,h2⟩:=ih hA.2;rw[aCM w A l hA.1,aZA]
  have hc:=aPS hl w
  refine⟨by omega,fun h=>?_,fun h=>?_⟩
  ·have e1:l.count w=1:=by omega
   have e2:vW A l=A.length:=by omega
   intro v hv;rcases aZ4.1 hv with rfl|hv
   ·exact aY0.1 (by omega)
   ·exact h2.1 e2 v hv
  ·have e1:0<l.count w:=aY0.2 (h w aYX)
   have e2:=h2.2 fun v hv=>h v (aYE _ hv)
   omega
def PB(A M:List Ln):Nat→List At→Option Nat
 |c,[]=>some c
 |c,a::r=>if A.contains a.1 then PB A M (c+1) r else if M.contains a.1 then PB A M c r else none
theorem PC(A M:List Ln):∀(l:List At) (c:Nat),PB A M c l=if l.all (fun a=>A.contains a.1||M.contains a.1) then some (c+vW A (l.map Prod.fst)) else none
 | [],c=>by simp[PB,vW]
 |a::l,c=>by
  unfold PB
  have e:vW A ((a::l).map Prod.fst)=(if A.contains a.1 then 1 else 0)+vW A (l.map Prod.fst):=by
   unfold vW;rw[aZ5,List.filter_cons]
   cases A.contains a.1 with
   |true=>rw[if_pos rfl,if_pos rfl,aZA]; omega
   |false=>rw[if_neg nft,if_neg nft]; omega
  rw[e,aZ8,PC A M l (c+1),PC A M l c]
  cases A.contains a.1 with
  |true =>
   rw[if_pos rfl,if_pos rfl,Bool.true_or,aZ7]
   by_cases h:(l.all fun a=>A.contains a.1||M.contains a.1)=true
   ·rw[if_pos h,if_pos h]; congr 1; omega
   ·rw[if_neg h,if_neg h]
  |false =>
   rw[if_neg nft,if_neg nft,aZ6]
   cases M.contains a.1 with
   |true=>rw[if_pos rfl,aZ7,bAB]
   |false=>rw[if_neg nft,aZ2,if_neg nft]
theorem aHD{n:Nd} (hu:aaIO n):EU n=(match PB (jI n.1) (rB n.1) 0 n.2.2.1 with|some c=>decide (c=(jI n.1).length)|none=>false):=by
 obtain⟨t1,t2,_⟩:=X5 n.1;rw[PC]
 have e1:(n.2.2.1.all fun a=>(jI n.1).contains a.1||(rB n.1).contains a.1)=((OZ n).all fun a=>(yK n.1).contains a.1):=by
  show _=n.2.2.1.all _;congr 1;funext a;rw[aZX,Bool.or_eq_true,aYB,aYB,aYB];exact(t1 a.1).symm
 rw[e1];unfold EU
 cases (OZ n).all fun a=>(yK n.1).contains a.1 with
 |false=>rw[aZ2,if_neg nft]
 |true =>
  rw[aZ7,if_pos rfl,bAB]
  have h:=(aHC (l:=n.2.2.1.map Prod.fst) t2 hu).2
  show _=decide (vW (jI n.1) (n.2.2.1.map Prod.fst)=(jI n.1).length);rw[aZX,aZJ,decide_eq_true_eq,h];exact⟨fun k w hw=>by have:=k w hw; rwa [aYB] at this,fun k w hw=>by rw[aYB]; exact k w hw⟩
theorem FP{n:Nd}(hs:smN n) (hu:aaIO n):q94 fuelH n=some (EU n):=by
 have hl:=hs.asz
 have hfu:=bG
 obtain⟨_,_,t3,t4,_⟩:=X5 n.1;unfold q94;rw[FO,aB,bT]
 have h:=cU (R:=Bool) (s:=n.2.2.1) (F:=fun v3 (v4:(List Ln)×(List Ln)×Int×Int) =>
   cnd (ilt v4.2.2.2 (len n.2.2.1))
    (grd (inb v4.2.2.2 (len n.2.2.1))
     (bnd (q93 fuelH (v4.1,(aA n.2.2.1 (toN v4.2.2.2) ([],[])).1)) fun v5 =>
     cnd v5
      (v3 (v4.1,v4.2.1,w64 (aE v4.2.2.1 (1:Int)),w64 (aE v4.2.2.2 (1:Int))))
      (bnd (q93 fuelH (v4.2.1,(aA n.2.2.1 (toN v4.2.2.2) ([],[])).1)) fun v6 =>
      cnd (bO v6)
       (some false)
       (v3 (v4.1,v4.2.1,v4.2.2.1,w64 (aE v4.2.2.2 (1:Int)))))))
    (some (ieq v4.2.2.1 (len v4.1))))
  (fun (c:Nat) (j:Nat)=>(jI n.1,rB n.1,(c:Int),(j:Int))) (fun c r=>some (match PB (jI n.1) (rB n.1) c r with|some c=>decide (c=(jI n.1).length)|none=>false)) (fun j c=>c≤j) ?_ fuelH 0 0 (by omega) (bAK _) (bAJ _)
 ·refine bAM h ?_;rw[aHD hu,aZZ]
 ·intro self c j hj hc hself
  by_cases hjl:j<n.2.2.1.length
  ·have hin:inb (j:Int) (len n.2.2.1)=true:=aY (by simp only[len]; omega)
   have hw:w64 (aE (j:Int) 1)=((j+1:Nat):Int):=aR hjl (by omega)
   have hwc:w64 (aE (c:Int) 1)=((c+1:Nat):Int):=aR (n:=n.2.2.1.length) (by omega) (by omega)
   dsimp only;rw[aD (aV (by simp only[len]; omega)),aF hin,bA hjl,hw,hwc,aXR hjl,VA (by omega),aB,VA (by omega),aB];unfold PB
   cases (jI n.1).contains n.2.2.1[j].1 with
   |true =>
    rw[aD rfl,if_pos rfl];exact hself (c+1) (j+1) (by omega) (by omega) (by omega)
   |false =>
    rw[aC rfl,if_neg nft]
    cases (rB n.1).contains n.2.2.1[j].1 with
    |true =>
     rw[aC (by rfl),if_pos rfl];exact hself c (j+1) (by omega) (by omega) (by omega)
    |false =>
     rw[aD (by rfl),if_neg nft]
  ·obtain rfl:j=n.2.2.1.length:=by omega
   dsimp only;rw[aC (aX (by simp only[len]; omega)),aZK];unfold PB;dsimp only;congr 1;rw[aZX,decide_eq_true_eq];constructor
   ·intro h
    by_cases e:(c:Int)=len (jI n.1)
    ·simp only[len] at e; omega
    ·rw[dA e] at h; cases h
   ·intro h;exact dJ (by simp only[len]; omega)
theorem aHE{α β:Type}(p:α×β):(p.1,p.2)=p:=rfl
theorem aHF{α:Type}(xs:List α) (d:α):bP xs (aP xs d)=xs:=by
 unfold bP aP
 cases xs with
 |nil=>rfl
 |cons x xs =>
  have h:(x::xs).length-1<(x::xs).length:=by simp
  rw[aXN,aXU h,Option.getD_some];exact List.set_getElem_self _
theorem N6{α:Type}{xs:List α}(h:xs≠[]) (hl:xs.length≤4000000):inb (w64 (aJ (len xs) 1)) (len xs)=true∧ieq (w64 (aJ (len xs) 1)) (aJ (len xs) 1)=true∧ieq (ofN (toN (w64 (aJ (len xs) 1)))) (aJ (len xs) 1)=true∧toN (w64 (aJ (len xs) 1))=xs.length-1:=by
 have h1:1≤xs.length:=by cases xs with|nil=>exact absurd rfl h|cons _ _=>simp
 have e:w64 (aJ (len xs) 1)=((xs.length-1:Nat):Int):=by
  simp only[aJ,len];rw[bU (by omega)];omega
 have e2:aJ (len xs) 1=((xs.length-1:Nat):Int):=by simp only[aJ,len]; omega
 rw[e,e2];refine⟨aY (by simp only[len]; omega),dJ rfl,dJ ?_,by simp[toN]⟩;simp[toN,ofN]
theorem aHG{α:Type}{xs:List α}(h:xs≠[]) (d:α):aA xs (xs.length-1) d=aP xs d:=by
 unfold aA aP;rfl
theorem aHH{α:Type}(xs:List α) (x:α):pG xs (xs.length-1) x=bP xs x:=rfl
def evY:Ev:=(0,(0,0),[],0,[],[])
def dK(d:Doc):List Row:=(aP d.2.2.2.2.2.2.1 evY).2.2.2.2.2
def gW(d:Doc):Row:=aP (dK d) []
def PD:Run:=([],(0,false,false),[])
def tY(d:Doc) (rows:List Row):Doc:=(d.1,d.2.1,d.2.2.1,d.2.2.2.1,d.2.2.2.2.1,d.2.2.2.2.2.1,bP d.2.2.2.2.2.2.1 ((aP d.2.2.2.2.2.2.1 evY).1,(aP d.2.2.2.2.2.2.1 evY).2.1,(aP d.2.2.2.2.2.2.1 evY).2.2.1,(aP d.2.2.2.2.2.2.1 evY).2.2.2.1,(aP d.2.2.2.2.2.2.1 evY).2.2.2.2.1,rows),d.2.2.2.2.2.2.2)
def zF:Int:=1099511627776
def IP(d:Doc) (n:Nd):Int×Doc :=
 (iG (iG (N5 (eU n [114,97,116,101])).2 (flT n [100,114,111,112]).2) (iH n [108,97,115,116] zF).2,(eU n [116,105,116,108,101],eU n [108,97,110,103],(N5 (eU n [114,97,116,101])).1,(flT n [100,114,111,112]).1,(iH n [108,97,115,116] zF).1,d.2.2.2.2.2.1,d.2.2.2.2.2.2.1,d.2.2.2.2.2.2.2))
def aPT(n:Nd):Reg:=(eU n [110,97,109,101],(iH n [116,111,112] 32).1,(iH n [104,101,105,103,104,116] 32).1,(iH n [108,101,102,116] 32).1,(iH n [119,105,100,116,104] 32).1,b8 (w64 (aE (chT gl0 n [97,108,105,103,110]).1 1)),ieq (chT [[84,79,80],[66,79,84,84,79,77]] n [97,110,99,104,111,114]).1 1)
def VB(d:Doc) (n:Nd):Int×Doc :=
 (iG (iG (iG (iG (iG (iH n [116,111,112] 32).2 (iH n [104,101,105,103,104,116] 32).2) (iH n [108,101,102,116] 32).2) (iH n [119,105,100,116,104] 32).2) (chT gl0 n [97,108,105,103,110]).2) (chT [[84,79,80],[66,79,84,84,79,77]] n [97,110,99,104,111,114]).2,
  (d.1,d.2.1,d.2.2.1,d.2.2.2.1,d.2.2.2.2.1,d.2.2.2.2.2.1++[aPT n],d.2.2.2.2.2.2.1,d.2.2.2.2.2.2.2))
def evT(n:Nd):Ev:=((iH n [105,100] zF).1,((tX n [105,110]).1,(tX n [111,117,116]).1),eU n [114,101,103,105,111,110],(zV (eU n [107,105,110,100])).1,eU n [115,112,101,97,107,101,114],[])
def EV(d:Doc) (n:Nd):Int×Doc :=
 (iG (iG (iG (iH n [105,100] zF).2 (tX n [105,110]).2) (tX n [111,117,116]).2) (zV (eU n [107,105,110,100])).2,
  (d.1,d.2.1,d.2.2.1,d.2.2.2.1,d.2.2.2.2.1,d.2.2.2.2.2.1,d.2.2.2.2.2.2.1++[evT n],d.2.2.2.2.2.2.2))
def N7(n:Nd):Run:=([],((N4 n).1,(flT n [105,116,97,108,105,99]).1,(flT n [117,110,100,101,114,108,105,110,101]).1),eU n [114,117,98,121])
def aHI(d:Doc) (n:Nd):Int×Doc :=
 (iG (iG (N4 n).2 (flT n [105,116,97,108,105,99]).2) (flT n [117,110,100,101,114,108,105,110,101]).2,tY d (bP (dK d) (gW d++[N7 n])))
def aHJ(d:Doc) (n:Nd):Int×Doc:=(0,tY d (bP (dK d) (bP (gW d) (n.2.1,(aP (gW d) PD).2))))
def fP(d:Doc) (n:Nd):Int×Doc :=
 if n.1=[116,116] then IP d n else if n.1=[114,101,103,105,111,110] then VB d n else if n.1=[112] then EV d n else if n.1=[114,111,119] then(0,tY d (dK d++[[]])) else if n.1=[114,117,110] then aHI d n else aHJ d n
structure HasR (d:Doc) (n:Nd):Prop where
 rg:d.2.2.2.2.2.1.length≤1000000
 ev:d.2.2.2.2.2.2.1.length≤1000000
 row:n.1≠[116,116]→n.1≠[114,101,103,105,111,110]→n.1≠[112]→d.2.2.2.2.2.2.1≠[]∧(dK d).length≤1000000
 run:n.1≠[116,116]→n.1≠[114,101,103,105,111,110]→n.1≠[112]→n.1≠[114,111,119]→dK d≠[]∧(gW d).length≤1000000
 tx:n.1≠[116,116]→n.1≠[114,101,103,105,111,110]→n.1≠[112]→n.1≠[114,111,119]→n.1≠[114,117,110]→gW d≠[]
theorem mE{α:Type}(xs:List α) (y v:α):bP (xs++[y]) v=xs++[v]:=by
 unfold bP;rw[aYT,aZA,aZS,aY1,aX9 _ _ (bAJ _),bAG];rfl
theorem aHK{n:Nd}(ha:EU n=true){w:Ln}(hw:(jI n.1).contains w=true):yF n w=true:=by
 unfold EU at ha;rw[aZB,aZJ,aZJ] at ha;rw[aYB] at hw
 have:=ha.2 w hw
 rw[aYB] at this;exact(yI w _).2 this
theorem aKM(s:Ln):(zV s).2=0∨(zV s).2=4:=by
 unfold zV
 have:∀(l:List Ln) (k:Nat),(fO (fun k:Ln=>seq k s) (fun i _=>(b8 (w64 (aE (i:Int) 1)),(0:Int))) ((0:UInt8),(4:Int)) k l).2=0∨(fO (fun k:Ln=>seq k s) (fun i _=>(b8 (w64 (aE (i:Int) 1)),(0:Int))) ((0:UInt8),(4:Int)) k l).2=4:=by
  intro l
  induction l with
  |nil=>intro k; exact Or.inr rfl
  |cons x l ih =>
   intro k;unfold fO
   by_cases h:seq x s=true
   ·rw[if_pos h]; exact Or.inl rfl
   ·rw[if_neg h]; exact ih (k+1)
 exact this _ 0
theorem sq{a b:Ln}(h:a=b):seq a b=true:=by rw[cX]; exact h
theorem sqf{a b:Ln}(h:¬a=b):seq a b=false:=by rw[cB]; simpa using h
theorem aPU{d:Doc}{n:Nd}(hs:smN n) (hu:aaIO n) (ha:EU n=true) (hr:HasR d n):lT fuelH (d,n)=some (fP d n):=by
 have hMax:(1099511627776:Int)≤4611686018427387904:=by omega
 unfold lT fP;dsimp only;simp only[aHF,aHE];rw[bT]
 by_cases c1:n.1=[116,116]
 ·rw[aD (sq c1),if_pos c1,eY hs,aB];dsimp only;rw[eY hs,aB];dsimp only;rw[eY hs,aB];dsimp only;rw[aHA,aB];rw[oS,aB,N3 hs hu,aB];dsimp only;rw[PA hs _ _ hMax,aB];rfl
 rw[aC (sqf c1),if_neg c1]
 by_cases c2:n.1=[114,101,103,105,111,110]
 ·have h1:yF n [97,108,105,103,110]=true:=aHK ha (by rw[c2]; rfl)
  have h2:yF n [97,110,99,104,111,114]=true:=aHK ha (by rw[c2]; rfl)
  rw[aD (sq c2),if_pos c2,eY hs,aB];dsimp only;rw[vV hs,aB];dsimp only;rw[vV hs,aB];dsimp only;rw[vV hs,aB];dsimp only;rw[vV hs,aB];dsimp only;rw[N2 hs _ (by decide) h1,aB];dsimp only;rw[N2 hs _ (by simp) h2,aB];dsimp only;rw[aF (dD (by have:=hr.rg; simp only[aE,len,aZA,aZS]; omega))];rfl
 rw[aC (sqf c2),if_neg c2]
 by_cases c3:n.1=[112]
 ·rw[aD (sq c3),if_pos c3,PA hs _ _ hMax,aB];dsimp only;rw[X2 hs,aB];dsimp only;rw[X2 hs,aB];dsimp only;rw[eY hs,aB];dsimp only;rw[eY hs,aB];dsimp only;rw[aHB,aB,bT]
  have key:∀e:Int,e=iG (iG (iG (iG 0 (iH n [105,100] 1099511627776).2) (tX n [105,110]).2) (tX n [111,117,116]).2) (zV (eU n [107,105,110,100])).2 →
    (bnd (q95 fuelH ((n,e),[115,112,101,97,107,101,114])) fun v23 =>
     grd (cJ (aE (len d.2.2.2.2.2.2.1) (len ([zE]:List Ev))) 88)
     (some (v23.2.2,d.1,d.2.1,d.2.2.1,d.2.2.2.1,d.2.2.2.2.1,d.2.2.2.2.2.1,bP (bC d.2.2.2.2.2.2.1 ([zE]:List Ev)) ((iH n [105,100] 1099511627776).1,((tX n [105,110]).1,(tX n [111,117,116]).1),eU n [114,101,103,105,111,110],(zV (eU n [107,105,110,100])).1,v23.1,([]:List Row)),d.2.2.2.2.2.2.2)))=some (EV d n):=by
   intro e he;rw[eY hs,aB,aF (dD (by have:=hr.ev; simp only[aE,len,aZA,aZS]; omega))]
   have:∀x:Ev,bC d.2.2.2.2.2.2.1 [x]=d.2.2.2.2.2.2.1++[x]:=fun _=>rfl
   rw[this,mE,he];rfl
  rcases aKM (eU n [107,105,110,100]) with h|h
  ·rw[aC (cL h)];exact key _ (by rw[h,X3])
  ·rw[aD (cA (by rw[h]; decide)),oS,aB];exact key _ (by rw[h])
 rw[aC (sqf c3),if_neg c3];obtain⟨r1,r2⟩:=hr.row c1 c2 c3;obtain⟨g1,g2,g3,g4⟩:=N6 r1 (by have:=hr.ev; omega)
 have hz:zE=evY:=rfl
 rw[hz]
 by_cases c4:n.1=[114,111,119]
 ·rw[aD (sq c4),if_pos c4,aF g1,aF g2,aF g3]
  have hl:(aP d.2.2.2.2.2.2.1 evY).2.2.2.2.2.length≤1000000:=r2
  rw[aF (dD (by simp only[aE,len,aZA,aZS]; omega)),aF g1,aF g2,aF g3]
  have:∀(l:List Row) (x:Row),bC l [x]=l++[x]:=fun _ _=>rfl
  rw[this,mE];rfl
 rw[aC (sqf c4),if_neg c4];obtain⟨s1,s2⟩:=hr.run c1 c2 c3 c4
 have s1:(aP d.2.2.2.2.2.2.1 evY).2.2.2.2.2≠[]:=s1
 have hl:(aP d.2.2.2.2.2.2.1 evY).2.2.2.2.2.length≤1000000:=r2
 obtain⟨k1,k2,k3,k4⟩:=N6 s1 (by omega)
 have hl2:(aP (aP d.2.2.2.2.2.2.1 evY).2.2.2.2.2 []).length≤1000000:=s2
 by_cases c5:n.1=[114,117,110]
 ·rw[aD (sq c5),if_pos c5,eY hs,aB];dsimp only;rw[aKL hs,aB];dsimp only;rw[N3 hs hu,aB];dsimp only;rw[N3 hs hu,aB];dsimp only;rw[aF g1,aF g2,aF g3,aF g1,aF g2,aF g3,aF k1,aF k2,aF k3,aF (dD (by simp only[aE,len,aZA,aZS]; omega)),aF k3];rfl
 rw[aC (sqf c5),if_neg c5]
 have t1:aP (aP d.2.2.2.2.2.2.1 evY).2.2.2.2.2 []≠[]:=hr.tx c1 c2 c3 c4 c5
 obtain⟨m1,m2,m3,m4⟩:=N6 t1 (by omega);rw[aF g1,aF g2,aF g3,aF g1,aF g2,aF g3,aF k1,aF k2,aF k3,aF k3,aF m1,m4,aHH,aHG t1];rfl
def VC(n:Nd) (parent:Ln) (reg:Bool):Bool :=
 if parent=[] then decide (n.1=[116,116]) else if parent=[116,116] then(if n.1=[112] then true else if n.1=[114,101,103,105,111,110] then reg else false) else
 if parent=[112] then decide (n.1=[114,111,119]) else if parent=[114,111,119] then decide (n.1=[114,117,110]) else if parent=[114,117,110] then decide (n.1=[]) else false
def noE(d:Doc):Bool:=decide (d.2.2.2.2.2.2.1.length=0)
def vX(op:List Ln) (n:Nd):Ln:=if 0<dep n then op.getD ((dep n).toNat-1) [] else []
def okN(op:List Ln) (d:Doc) (n:Nd):Bool:=VC n (vX op n) (noE d)&&EU n
def vY:Doc:=([],[],0,false,0,[],[],[])
def aPV(d:Doc):Doc×Int×Int:=if cH d≠0 then(vY,0,cH d) else(d,0,0)
def goS:Nat→List Ln→Doc→List Nd→Doc×Int×Int
 |_,_,d,[]=>aPV d
 |i,op,d,n::r=>if okN op d n=false then(vY,(i:Int),4) else if(fP d n).1≠0 then(vY,(i:Int),(fP d n).1) else goS (i+1) (op.take (dep n).toNat++[n.1]) (fP d n).2 r
def PE(l:List Nd):Doc×Int×Int:=if qX l≠0 then(vY,0,qX l) else goS 0 [] vY l
def fQ(d:Doc):List Ev:=d.2.2.2.2.2.2.1
def Sh(op:List Ln) (d:Doc):Prop :=
 (op=[]∧fQ d=[])∨(op=[[116,116]]∧fQ d=[])∨(op=[[116,116],[114,101,103,105,111,110]]∧fQ d=[])∨(op=[[116,116],[112]]∧fQ d≠[])∨(op=[[116,116],[112],[114,111,119]]∧fQ d≠[]∧dK d≠[]) ∨
 (op=[[116,116],[112],[114,111,119],[114,117,110]]∧fQ d≠[]∧dK d≠[]∧gW d≠[]∧(aP (gW d) PD).1=[])∨(op=[[116,116],[112],[114,111,119],[114,117,110],[]]∧fQ d≠[]∧dK d≠[]∧gW d≠[])
structure Inv (l:List Nd) (i:Nat) (op:List Ln) (d:Doc):Prop where
 sh:Sh op d
 zero:i=0→op=[]
 one:1≤i→(op.length:Int)=dep (l.getD (i-1) ndz)+1
 path:∀k,k<op.length→∃j,j<i∧dep (l.getD j ndz)=(k:Int)∧(l.getD j ndz).1=op.getD k []∧∀m,j<m→m<i→(k:Int)<dep (l.getD m ndz)
 rg:d.2.2.2.2.2.1.length≤i
 ev:(fQ d).length≤i
 rw:(dK d).length≤i
 rn:(gW d).length≤i
 ti:d.1.length≤1090000
 small:∀x∈fQ d,∀r∈x.2.2.2.2.2,(∀u∈r,u.1.length≤1090000∧u.2.2.length≤1090000)∧tot r≤bkL wtN (l.take i)
 cm:d.2.2.2.2.2.2.2=[]
theorem aXF(l:List Nd):Inv l 0 [] vY :=
 ⟨Or.inl ⟨rfl,rfl⟩,fun _=>rfl,fun h=>absurd h (by omega),fun k h=>by simp at h,bAJ _,bAJ _,bAJ _,bAJ _,bAK _,(fun x hx=>by cases hx),rfl⟩
inductive Nx (i:Nat) (op:List Ln) (d:Doc) (n:Nd):Prop
 |tt (h0:i=0) (hk:dep n=0) (ho:op=[]) (hn:n.1=[116,116]) (he:fQ d=[])
 |p (hk:dep n=1) (ho:op.take 1=[[116,116]]) (hn:n.1=[112])
 |rg (hk:dep n=1) (ho:op.take 1=[[116,116]]) (hn:n.1=[114,101,103,105,111,110]) (he:fQ d=[])
 |row (hk:dep n=2) (ho:op.take 2=[[116,116],[112]]) (hn:n.1=[114,111,119]) (he:fQ d≠[])
 |run (hk:dep n=3) (ho:op.take 3=[[116,116],[112],[114,111,119]]) (hn:n.1=[114,117,110]) (he:fQ d≠[]) (hr:dK d≠[])
 |tx (hk:dep n=4) (ho:op=[[116,116],[112],[114,111,119],[114,117,110]]) (hn:n.1=[]) (he:fQ d≠[]) (hr:dK d≠[]) (hu:gW d≠[]) (ht:(aP (gW d) PD).1=[])
theorem aKN{n:Nd}{q:Ln}{b:Bool}(h:VC n q b=true) (h1:q≠[]) (h2:q≠[116,116]) (h3:q≠[112]) (h4:q≠[114,111,119]) (h5:q≠[114,117,110]):False:=by
 unfold VC at h;rw[if_neg h1,if_neg h2,if_neg h3,if_neg h4,if_neg h5] at h;cases h
theorem X6{l:List Nd}(hd:Deep l){i:Nat}(hi:i<l.length){op:List Ln}{d:Doc}(hI:Inv l i op d):(i=0∧dep l[i]=0)∨(1≤i∧1≤dep l[i]∧dep l[i]≤(op.length:Int)∧(dep l[i]=(op.length:Int)→(l.getD (i-1) ndz).1≠[])):=by
 by_cases h0:i=0
 ·subst h0; exact Or.inl ⟨rfl,hd.root hi⟩
 ·have h1:=hI.one (by omega)
  have h2:=hd.low (i-1) (by omega)
  have e:l.getD (i-1) ndz=l[i-1]:=gD (by omega)
  have e2:l[i-1+1]'(by omega)=l[i]:=by congr 1; omega
  rw[e2] at h2;rw[e] at h1 ⊢;exact Or.inr ⟨by omega,h2.1,by omega,fun k=>h2.2.2 (by omega)⟩
theorem aWQ{l:List Nd}(hc:qX l=0){i:Nat}(hi:i<l.length){op:List Ln}{d:Doc}(hI:Inv l i op d) (hf:VC l[i] (vX op l[i]) (noE d)=true):Nx i op d l[i]:=by
 have hck:=(xZ hc).2.2
 have hd:=ON hck
 have hnoE:noE d=true→fQ d=[]:=fun h=>aXY.1 (of_decide_eq_true h)
 rcases X6 hd hi hI with⟨h0,hk⟩|⟨h1,k1,k2,k3⟩
 ·have ho:=hI.zero h0
  have hp:vX op l[i]=[]:=by unfold vX; rw[if_neg (by omega)]
  rw[hp] at hf
  have he:fQ d=[]:=by
   have:=hI.ev
   exact aXY.1 (by omega)
  exact Nx.tt h0 hk ho (of_decide_eq_true hf) he
 ·have hp:vX op l[i]=op.getD ((dep l[i]).toNat-1) []:=by unfold vX; rw[if_pos (by omega)]
  rw[hp] at hf
  have at1:op.take 1=[[116,116]]→dep l[i]=1→Nx i op d l[i]:=by
   intro ho hk
   have:op.getD ((dep l[i]).toNat-1) []=[116,116]:=by
    rw[hk]
    cases op with
    |nil=>cases ho
    |cons a t=>injection ho with e _
   rw[this] at hf
   have hf:(if l[i].1=[112] then true else if l[i].1=[114,101,103,105,111,110] then noE d else false)=true:=hf
   by_cases c1:l[i].1=[112]
   ·exact Nx.p hk ho c1
   rw[if_neg c1] at hf
   by_cases c2:l[i].1=[114,101,103,105,111,110]
   ·rw[if_pos c2] at hf;exact Nx.rg hk ho c2 (hnoE hf)
   ·rw[if_neg c2] at hf; cases hf
  have at2:op.take 2=[[116,116],[112]]→dep l[i]=2→fQ d≠[]→Nx i op d l[i]:=by
   intro ho hk he
   have:op.getD ((dep l[i]).toNat-1) []=[112]:=by
    rw[hk]
    match op,ho with
    |a::b::t,ho=>injection ho with _ e; injection e with e _
   rw[this] at hf;exact Nx.row hk ho (of_decide_eq_true (show decide (l[i].1=[114,111,119])=true from hf)) he
  have at3:op.take 3=[[116,116],[112],[114,111,119]]→dep l[i]=3→fQ d≠[]→dK d≠[]→Nx i op d l[i]:=by
   intro ho hk he hr
   have:op.getD ((dep l[i]).toNat-1) []=[114,111,119]:=by
    rw[hk]
    match op,ho with
    |a::b::c::t,ho=>injection ho with _ e; injection e with _ e; injection e with e _
   rw[this] at hf;exact Nx.run hk ho (of_decide_eq_true (show decide (l[i].1=[114,117,110])=true from hf)) he hr
  rcases hI.sh with⟨ho,he⟩|⟨ho,he⟩|⟨ho,he⟩|⟨ho,he⟩|⟨ho,he,hr⟩|⟨ho,he,hr,hu,ht⟩|⟨ho,he,hr,hu⟩
  ·rw[ho] at k2; simp at k2; omega
  ·have hk:dep l[i]=1:=by rw[ho] at k2; simp at k2; omega
   exact at1 (by rw[ho]; rfl) hk
  ·have hl:dep l[i]=1∨dep l[i]=2:=by rw[ho] at k2; simp at k2; omega
   rcases hl with hk|hk
   ·exact at1 (by rw[ho]; rfl) hk
   ·exfalso;rw[ho,hk] at hf;exact aKN (q:=[114,101,103,105,111,110]) hf (by decide) (by decide) (by decide) (by decide) (by decide)
  ·have hl:dep l[i]=1∨dep l[i]=2:=by rw[ho] at k2; simp at k2; omega
   rcases hl with hk|hk
   ·exact at1 (by rw[ho]; rfl) hk
   ·exact at2 (by rw[ho]; rfl) hk he
  ·have hl:dep l[i]=1∨dep l[i]=2∨dep l[i]=3:=by rw[ho] at k2; simp at k2; omega
   rcases hl with hk|hk|hk
   ·exact at1 (by rw[ho]; rfl) hk
   ·exact at2 (by rw[ho]; rfl) hk he
   ·exact at3 (by rw[ho]; rfl) hk he hr
  ·have hl:dep l[i]=1∨dep l[i]=2∨dep l[i]=3∨dep l[i]=4:=by rw[ho] at k2; simp at k2; omega
   rcases hl with hk|hk|hk|hk
   ·exact at1 (by rw[ho]; rfl) hk
   ·exact at2 (by rw[ho]; rfl) hk he
   ·exact at3 (by rw[ho]; rfl) hk he hr
   ·rw[ho,hk] at hf;exact Nx.tx hk ho (of_decide_eq_true (show decide (l[i].1=[])=true from hf)) he hr hu ht
  ·
   have hlast:(l.getD (i-1) ndz).1=[]:=by
    obtain⟨j,j1,j2,j3,j4⟩:=hI.path 4 (by rw[ho]; simp)
    have h1':=hI.one h1
    rw[ho] at h1' j3;simp only[aZA,aZS] at h1'
    have:j=i-1:=by
     by_cases e:j=i-1
     ·exact e
     ·have:=j4 (i-1) (by omega) (by omega)
      omega
    rw[this] at j3;exact j3
   have hl:dep l[i]=1∨dep l[i]=2∨dep l[i]=3∨dep l[i]=4∨dep l[i]=5:=by rw[ho] at k2; simp at k2; omega
   rcases hl with hk|hk|hk|hk|hk
   ·exact at1 (by rw[ho]; rfl) hk
   ·exact at2 (by rw[ho]; rfl) hk he
   ·exact at3 (by rw[ho]; rfl) hk he hr
   ·exfalso;rw[ho,hk] at hf
    have hn:l[i].1=[]:=of_decide_eq_true (show decide (l[i].1=[])=true from hf)
    have htx:=OY (hck i hi) hn
    have e:l.getD (i-1) ndz=l[i-1]:=gD (by omega)
    have h1':=hI.one h1
    rw[ho,e] at h1';simp only[aZA,aZS] at h1';rw[e] at hlast
    have hpv:prv l i=some l[i-1]:=by
     have:=mC (l:=l) (i:=i-1) (by omega)
     have e3:i-1+1=i:=by omega
     rwa [e3] at this
    rw[hpv] at htx;unfold txE txP at htx;rw[if_pos (decide_eq_true ⟨hlast,by omega⟩)] at htx;cases htx
   ·exfalso;exact k3 (by rw[ho]; simp only[aZA,aZS]; omega) hlast
theorem aKO{p:Option Nd}{n:Nd}(h:ndE p n=0):aaIO n:=by
 unfold aaIO OZ
 by_cases hn:n.1=[]
 ·have:=OY h hn
  unfold txE at this
  split at this
  ·cases this
  split at this
  ·cases this
  split at this
  ·cases this
  ·rename_i _ _ h0
   have:n.2.2.1=[]:=aXY.1 (by omega)
   rw[this];exact List.nodup_nil
 ·have he:=aGV h hn
  unfold elE at he
  split at he
  ·cases he
  split at he
  ·cases he
  split at he
  ·cases he
  have key:∀(r:List At) (seen:List Ln),seen.Nodup→atE seen r=0→(seen++r.map Prod.fst).Nodup:=by
   intro r
   induction r with
   |nil=>intro seen hs _; simpa using hs
   |cons a r ih =>
    intro seen hs h;unfold atE at h
    split at h
    ·cases h
    split at h
    ·cases h
    split at h
    ·cases h
    rename_i _ hm _
    have:=ih (seen++[a.1]) (by
     rw[List.nodup_append];refine⟨hs,by simp,?_⟩;intro x hx y hy;rw[aYZ] at hy;subst hy;intro e;exact hm (e ▸ hx)) h
    rw[aY3] at this;exact this
  exact key _ [] List.nodup_nil he
theorem aKP{l:List Nd}{i:Nat}(hi:i≤1000000){op:List Ln}{d:Doc}{n:Nd}(hI:Inv l i op d) (hx:Nx i op d n):HasR d n:=by
 have h1:=hI.rg
 have h2:=hI.ev
 have h3:=hI.rw
 have h4:=hI.rn
 have h2':d.2.2.2.2.2.2.1.length≤i:=h2
 cases hx with
 |tt h0 hk ho hn he=>exact⟨by omega,by omega,fun k=>absurd hn k,fun k=>absurd hn k,fun k=>absurd hn k⟩
 |p hk ho hn=>exact⟨by omega,by omega,fun _ _ k=>absurd hn k,fun _ _ k=>absurd hn k,fun _ _ k=>absurd hn k⟩
 |rg hk ho hn he=>exact⟨by omega,by omega,fun _ k=>absurd hn k,fun _ k=>absurd hn k,fun _ k=>absurd hn k⟩
 |row hk ho hn he=>exact⟨by omega,by omega,fun _ _ _=>⟨he,by omega⟩,fun _ _ _ k=>absurd hn k,fun _ _ _ k=>absurd hn k⟩
 |run hk ho hn he hr=>exact⟨by omega,by omega,fun _ _ _=>⟨he,by omega⟩,fun _ _ _ _=>⟨hr,by omega⟩,fun _ _ _ _ k=>absurd hn k⟩
 |tx hk ho hn he hr hu ht=>exact⟨by omega,by omega,fun _ _ _=>⟨he,by omega⟩,fun _ _ _ _=>⟨hr,by omega⟩,fun _ _ _ _ _=>hu⟩
theorem vZ{α:Type}{xs:List α}(h:xs≠[]) (d:α):aP xs d∈xs:=by
 have h1:xs.length-1<xs.length:=by cases xs with|nil=>exact absurd rfl h|cons _ _=>simp
 unfold aP;rw[aXN,aXU h1,Option.getD_some];exact aZL h1
theorem AZ{α:Type}{xs:List α}{v x:α}(h:x∈bP xs v):x∈xs∨x=v:=List.mem_or_eq_of_mem_set h
theorem oT{α:Type}(xs:List α) (v:α):(bP xs v).length=xs.length:=by unfold bP; rw[List.length_set]
theorem PF{α:Type}{xs:List α}(h:xs≠[]) (v:α):bP xs v≠[]:=fun k=>h (aXY.1 (by rw[←oT xs v,k]; rfl))
theorem N8{α:Type}(xs:List α) (v:α):xs++[v]≠[]:=by simp
theorem kD{α:Type}(xs:List α) (v d:α):aP (xs++[v]) d=v:=by
 unfold aP;rw[aYT,aZA,aZS,aY1,aXN,aXO (bAJ _),bAG];rfl
theorem yL{d:Doc}(h:fQ d≠[]) (rows:List Row):dK (tY d rows)=rows:=by
 unfold dK tY;dsimp only
 have h:d.2.2.2.2.2.2.1≠[]:=h
 rw[Go.W.lA _ _ _ h]
theorem EW{d:Doc}(h:fQ d≠[]) (rows:List Row):fQ (tY d rows)≠[]:=PF h _
theorem aKQ{row:Row}(h:row≠[]) (t:Ln) (s:Sty×Ln):tot (bP row (t,s))≤tot row+t.length:=by
 obtain⟨r,u,rfl⟩:∃r u,row=r++[u]:=by
  rcases List.eq_nil_or_concat row with k|⟨r,u,k⟩
  ·exact absurd k h
  ·exact⟨r,u,by rw[k,List.concat_eq_append]⟩
 rw[mE,AR,AR];simp only[tot];omega
theorem aHL{l:List Nd}{i:Nat}(hi:i<l.length):bkL wtN (l.take (i+1))=bkL wtN (l.take i)+wtN l[i]:=by
 rw[aXH hi];generalize l.take i=a
 induction a with
 |nil=>simp[bkL]
 |cons x a ih=>simp only[aZC,bkL,ih]; omega
def smR(W:Nat) (r:Row):Prop:=(∀u∈r,u.1.length≤1090000∧u.2.2.length≤1090000)∧tot r≤W
theorem yM{W:Nat}{d:Doc}(he:fQ d≠[]){rows:List Row}(h1:∀x∈fQ d,∀r∈x.2.2.2.2.2,smR W r) (h2:∀r∈rows,smR W r):∀x∈fQ (tY d rows),∀r∈x.2.2.2.2.2,smR W r:=by
 intro x hx r hr
 have hx:x∈bP (fQ d) _:=hx
 rcases AZ hx with hx|hx
 ·exact h1 x hx r hr
 ·subst hx; exact h2 r hr
theorem wA{W:Nat}{d:Doc}(he:fQ d≠[]) (h1:∀x∈fQ d,∀r∈x.2.2.2.2.2,smR W r):∀r∈dK d,smR W r:=fun r hr=>h1 _ (vZ he evY) r hr
theorem aHM{l:List Nd}(hs:∀n∈l,smN n){i:Nat}(hi:i<l.length){op:List Ln}{d:Doc}(hI:Inv l i op d) (hx:Nx i op d l[i]):Inv l (i+1) (op.take (dep l[i]).toNat++[l[i].1]) (fP d l[i]).2:=by
 have hn:=hs _ (aZL hi)
 have hW:=aHL hi
 have hwt:l[i].2.1.length+1≤wtN l[i]:=by unfold wtN; omega
 have gi:l.getD i ndz=l[i]:=gD hi
 have h1:=hI.rg
 have h2:=hI.ev
 have h3:=hI.rw
 have h4:=hI.rn
 have hsm:∀x∈fQ d,∀r∈x.2.2.2.2.2,smR (bkL wtN (l.take (i+1))) r:=fun x hx r hr=>⟨(hI.small x hx r hr).1,by have:=(hI.small x hx r hr).2; omega⟩
 have path:∀k:Nat,dep l[i]=(k:Int)→k≤op.length→(∀q,q<(op.take k++[l[i].1]).length→∃j,j<i+1∧dep (l.getD j ndz)=(q:Int)∧(l.getD j ndz).1=(op.take k++[l[i].1]).getD q []∧∀m,j<m→m<i+1→(q:Int)<dep (l.getD m ndz))∧((op.take k++[l[i].1]).length:Int)=dep (l.getD i ndz)+1:=by
  intro k hk hko
  have hlt:(op.take k).length=k:=by rw[aZD]; omega
  refine⟨fun q hq=>?_,by rw[gi,hk,aYT,hlt]; simp⟩;rw[aYT,hlt] at hq;simp only[aZA,aZS] at hq
  by_cases e:q=k
  ·subst e;refine⟨i,by omega,by rw[gi,hk],?_,fun m h1 h2=>by omega⟩;rw[gi,aXN,aXO (by omega),hlt,bAG];rfl
  ·obtain⟨j,j1,j2,j3,j4⟩:=hI.path q (by omega);refine⟨j,by omega,j2,?_,fun m m1 m2=>?_⟩
   ·rw[j3,aXN,aXN,aXQ (by omega),List.getElem?_take_of_lt (by omega)]
   ·by_cases e2:m=i
    ·subst e2; rw[gi,hk]; omega
    ·exact j4 m m1 (by omega)
 have tl:∀k:Nat,∀z:List Ln,z.length=k→op.take k=z→k≤op.length:=by
  intro k z hz ho
  have:=congrArg List.length ho
  rw[aZD,hz] at this;omega
 cases hx with
 |tt h0 hk ho hn1 he =>
  have e:(dep l[i]).toNat=0:=by rw[hk]; rfl
  rw[e];obtain⟨p1,p2⟩:=path 0 (by rw[hk]; rfl) (bAK _)
  have ea:(fP d l[i]).2=(IP d l[i]).2:=by unfold fP; rw[if_pos hn1]
  have ee:fQ (IP d l[i]).2=[]:=he
  have er:dK (IP d l[i]).2=dK d:=rfl
  rw[ea];refine⟨Or.inr (Or.inl ⟨by rw[hn1]; simp,ee⟩),fun k=>by omega,fun _=>by rw[aY1]; exact p2,p1,?_,?_,?_,?_,?_,?_,hI.cm⟩
  ·exact aY9 h1
  ·rw[ee]; exact bAK _
  ·rw[er]; omega
  ·exact aY9 h4
  ·exact vU hn _
  ·intro x hx; rw[ee] at hx; cases hx
 |p hk ho hn1 =>
  have e:(dep l[i]).toNat=1:=by rw[hk]; rfl
  rw[e];obtain⟨p1,p2⟩:=path 1 (by rw[hk]; rfl) (tl 1 _ rfl ho)
  have ea:(fP d l[i]).2=(EV d l[i]).2:=by unfold fP; rw[if_neg (by rw[hn1]; decide),if_neg (by rw[hn1]; decide),if_pos hn1]
  have ee:fQ (EV d l[i]).2=fQ d++[evT l[i]]:=rfl
  have er:dK (EV d l[i]).2=[]:=by
   show(aP (fQ d++[evT l[i]]) evY).2.2.2.2.2=[];rw[kD]; rfl
  rw[ea];refine⟨Or.inr (Or.inr (Or.inr (Or.inl ⟨by rw[ho,hn1]; rfl,by rw[ee]; exact N8 _ _⟩))),fun k=>by omega,fun _=>by rw[aY1]; exact p2,p1,?_,?_,?_,?_,?_,?_,hI.cm⟩
  ·exact aY9 h1
  ·rw[ee,aYT]; simp only[aZA,aZS]; omega
  ·rw[er]; exact bAK _
  ·unfold gW; rw[er]; exact bAK _
  ·exact hI.ti
  ·intro x hx r hr;rw[ee,aZN,aYZ] at hx;rcases hx with hx|rfl
   ·exact hsm x hx r hr
   ·cases hr
 |rg hk ho hn1 he =>
  have e:(dep l[i]).toNat=1:=by rw[hk]; rfl
  rw[e];obtain⟨p1,p2⟩:=path 1 (by rw[hk]; rfl) (tl 1 _ rfl ho)
  have ea:(fP d l[i]).2=(VB d l[i]).2:=by unfold fP; rw[if_neg (by rw[hn1]; decide),if_pos hn1]
  have ee:fQ (VB d l[i]).2=[]:=he
  rw[ea];refine⟨Or.inr (Or.inr (Or.inl ⟨by rw[ho,hn1]; rfl,ee⟩)),fun k=>by omega,fun _=>by rw[aY1]; exact p2,p1,?_,?_,?_,?_,?_,?_,hI.cm⟩
  ·show(d.2.2.2.2.2.1++[aPT l[i]]).length≤i+1;rw[aYT]; simp only[aZA,aZS]; omega
  ·rw[ee]; exact bAK _
  ·exact aY9 h3
  ·exact aY9 h4
  ·exact hI.ti
  ·intro x hx; rw[ee] at hx; cases hx
 |row hk ho hn1 he =>
  have e:(dep l[i]).toNat=2:=by rw[hk]; rfl
  rw[e];obtain⟨p1,p2⟩:=path 2 (by rw[hk]; rfl) (tl 2 _ rfl ho)
  have ea:(fP d l[i]).2=tY d (dK d++[[]]):=by unfold fP; rw[if_neg (by rw[hn1]; decide),if_neg (by rw[hn1]; decide),if_neg (by rw[hn1]; decide),if_pos hn1]
  have er:=yL he (dK d++[[]])
  rw[ea];refine⟨Or.inr (Or.inr (Or.inr (Or.inr (Or.inl ⟨by rw[ho,hn1]; rfl,EW he _,by rw[er]; exact N8 _ _⟩)))),fun k=>by omega,fun _=>by rw[aY1]; exact p2,p1,?_,?_,?_,?_,?_,?_,hI.cm⟩
  ·exact aY9 h1
  ·show(bP (fQ d) _).length≤_; rw[oT]; omega
  ·rw[er,aYT]; simp only[aZA,aZS]; omega
  ·unfold gW; rw[er,kD]; exact bAK _
  ·exact hI.ti
  ·refine yM he hsm fun r hr=>?_
   rw[aZN,aYZ] at hr;rcases hr with hr|rfl
   ·exact wA he hsm r hr
   ·exact⟨(fun u hu=>by cases hu),bAK _⟩
 |run hk ho hn1 he hr =>
  have e:(dep l[i]).toNat=3:=by rw[hk]; rfl
  rw[e];obtain⟨p1,p2⟩:=path 3 (by rw[hk]; rfl) (tl 3 _ rfl ho)
  have ea:(fP d l[i]).2=tY d (bP (dK d) (gW d++[N7 l[i]])):=by unfold fP; rw[if_neg (by rw[hn1]; decide),if_neg (by rw[hn1]; decide),if_neg (by rw[hn1]; decide),if_neg (by rw[hn1]; decide),if_pos hn1]; rfl
  have er:=yL he (bP (dK d) (gW d++[N7 l[i]]))
  have el:gW (tY d (bP (dK d) (gW d++[N7 l[i]])))=gW d++[N7 l[i]]:=by
   show aP (dK _) []=_;rw[er,Go.W.lA _ _ _ hr]
  rw[ea];refine⟨Or.inr (Or.inr (Or.inr (Or.inr (Or.inr (Or.inl ⟨by rw[ho,hn1]; rfl,EW he _,by rw[er]; exact PF hr _,by rw[el]; exact N8 _ _,by rw[el,kD]; rfl⟩))))),fun k=>by omega,fun _=>by rw[aY1]; exact p2,p1,?_,?_,?_,?_,?_,?_,hI.cm⟩
  ·exact aY9 h1
  ·show(bP (fQ d) _).length≤_; rw[oT]; omega
  ·rw[er,oT]; omega
  ·rw[el,aYT]; simp only[aZA,aZS]; omega
  ·exact hI.ti
  ·refine yM he hsm fun r hr2=>?_
   rcases AZ hr2 with hr2|hr2
   ·exact wA he hsm r hr2
   ·subst hr2
    have ho':smR (bkL wtN (l.take (i+1))) (gW d):=wA he hsm _ (vZ hr [])
    refine⟨fun u hu=>?_,?_⟩
    ·rw[aZN,aYZ] at hu;rcases hu with hu|rfl
     ·exact ho'.1 u hu
     ·exact⟨bAK _,vU hn _⟩
    ·rw[AR]
     have:tot [N7 l[i]]=0:=rfl
     rw[this];exact ho'.2
 |tx hk ho hn1 he hr hu ht =>
  have e:(dep l[i]).toNat=4:=by rw[hk]; rfl
  rw[e];obtain⟨p1,p2⟩:=path 4 (by rw[hk]; rfl) (by rw[ho]; simp)
  have ea:(fP d l[i]).2=tY d (bP (dK d) (bP (gW d) (l[i].2.1,(aP (gW d) PD).2))):=by unfold fP; rw[if_neg (by rw[hn1]; decide),if_neg (by rw[hn1]; decide),if_neg (by rw[hn1]; decide),if_neg (by rw[hn1]; decide),if_neg (by rw[hn1]; decide)]; rfl
  have er:=yL he (bP (dK d) (bP (gW d) (l[i].2.1,(aP (gW d) PD).2)))
  have el:gW (tY d (bP (dK d) (bP (gW d) (l[i].2.1,(aP (gW d) PD).2))))=bP (gW d) (l[i].2.1,(aP (gW d) PD).2):=by
   show aP (dK _) []=_;rw[er,Go.W.lA _ _ _ hr]
  rw[ea];refine⟨Or.inr (Or.inr (Or.inr (Or.inr (Or.inr (Or.inr ⟨by rw[ho,hn1]; rfl,EW he _,by rw[er]; exact PF hr _,by rw[el]; exact PF hu _⟩))))),fun k=>by omega,fun _=>by rw[aY1]; exact p2,p1,?_,?_,?_,?_,?_,?_,hI.cm⟩
  ·exact aY9 h1
  ·show(bP (fQ d) _).length≤_; rw[oT]; omega
  ·rw[er,oT]; omega
  ·rw[el,oT]; omega
  ·exact hI.ti
  ·refine yM he hsm fun r hr2=>?_
   rcases AZ hr2 with hr2|hr2
   ·exact wA he hsm r hr2
   ·subst hr2
    have hmem:gW d∈dK d:=vZ hr []
    have ho':=hI.small _ (vZ he evY) _ hmem
    refine⟨fun u hu2=>?_,?_⟩
    ·rcases AZ hu2 with hu2|rfl
     ·exact ho'.1 u hu2
     ·exact⟨hn.tx,(ho'.1 _ (vZ hu PD)).2⟩
    ·have:=aKQ hu l[i].2.1 (aP (gW d) PD).2
     have h5:=ho'.2
     omega
theorem aCN{l:List Nd}{i:Nat}{op:List Ln}{d:Doc}(hI:Inv l i op d) (hi:i≤4000000) (hb:bkL wtN (l.take i)≤4000000):tW d:=by
 have h1:=hI.rg
 have h2:=hI.ti
 refine⟨by omega,by omega,fun x hx r hr=>?_,fun c hc=>by rw[hI.cm] at hc; cases hc⟩
 have h:=hI.small x hx r hr
 exact⟨fun u hu=>by have:=h.1 u hu; omega,by have:=h.2; omega⟩
theorem aHN(N:Nat) (n:Nd) (q:Ln) (b:Bool):q91 N (n,q,b)=some (VC n q b):=by
 unfold q91 VC;dsimp only
 by_cases h1:q=[]
 ·rw[aD (sq h1),if_pos h1]
  by_cases h:n.1=[116,116]
  ·rw[sq h,decide_eq_true h]
  ·rw[sqf h,decide_eq_false h]
 rw[aC (sqf h1),if_neg h1]
 by_cases h2:q=[116,116]
 ·rw[aD (sq h2),if_pos h2]
  by_cases c1:n.1=[112]
  ·rw[aD (sq c1),if_pos c1]
  ·rw[aC (sqf c1),if_neg c1]
   by_cases c2:n.1=[114,101,103,105,111,110]
   ·rw[aD (sq c2),if_pos c2]
   ·rw[aC (sqf c2),if_neg c2]
 rw[aC (sqf h2),if_neg h2]
 by_cases h3:q=[112]
 ·rw[aD (sq h3),if_pos h3]
  by_cases h:n.1=[114,111,119]
  ·rw[sq h,decide_eq_true h]
  ·rw[sqf h,decide_eq_false h]
 rw[aC (sqf h3),if_neg h3]
 by_cases h4:q=[114,111,119]
 ·rw[aD (sq h4),if_pos h4]
  by_cases h:n.1=[114,117,110]
  ·rw[sq h,decide_eq_true h]
  ·rw[sqf h,decide_eq_false h]
 rw[aC (sqf h4),if_neg h4]
 by_cases h5:q=[114,117,110]
 ·rw[aD (sq h5),if_pos h5]
  by_cases h:n.1=[]
  ·rw[sq h,decide_eq_true h]
  ·rw[sqf h,decide_eq_false h]
 rw[aC (sqf h5),if_neg h5]
theorem aKR(a b:Int):ieq a b=decide (a=b):=by
 by_cases h:a=b
 ·rw[dJ h,decide_eq_true h]
 ·rw[dA h,decide_eq_false h]
theorem aPW(d:Doc):ieq (len d.2.2.2.2.2.2.1) 0=noE d:=by
 rw[aKR];unfold noE;rw[aZX,decide_eq_true_eq,decide_eq_true_eq];simp only[len];omega
theorem N9{l:List Nd}(hs:∀n∈l,smN n) (hb:bkL wtN l≤4000000):aA5 fuelH l=some (PE l):=by
 have hfu:=bG
 have hl:l.length≤4000000:=bAA (NT (f:=wtN) (fun n=>by unfold wtN; omega) l) hb
 unfold aA5 PE;rw[bM (UJ hl hs)]
 by_cases hc:qX l=0
 ·have hck:=(xZ hc).2.2
  have h8:=(xZ hc).2.1
  have hd:=ON hck
  rw[aC (cL hc),if_neg (by simpa using hc)];simp only[aHF,aHE];rw[bT]
  have h:=cU (R:=Doc×Int×Int) (s:=l) (F:=fun v4 (v5:(List Ln)×Int×Doc) =>
   cnd (ilt v5.2.1 (len l))
    (grd (inb v5.2.1 (len l))
     (grd (in2 (aA l (toN v5.2.1) zN).2.2.2 (ofN (kF v5.1)))
      (jn (fun (v6:Ln) =>
       bnd (q91 fuelH (aA l (toN v5.2.1) zN,v6,ieq (len v5.2.2.2.2.2.2.2.2.1) (0:Int))) fun v7 =>
       cnd (bO v7)
        (some ((([]:Ln),([]:Ln),(0:UInt8),false,(0:Int),([]:List Reg),([]:List Ev),([]:List Cmt)),v5.2.1,(4:Int)))
        (bnd (q94 fuelH (aA l (toN v5.2.1) zN)) fun v8 =>
        cnd (bO v8)
         (some ((([]:Ln),([]:Ln),(0:UInt8),false,(0:Int),([]:List Reg),([]:List Ev),([]:List Cmt)),v5.2.1,(4:Int)))
         (bnd (lT fuelH (v5.2.2,aA l (toN v5.2.1) zN)) fun v9 =>
         cnd (ine v9.1 (0:Int))
          (some ((([]:Ln),([]:Ln),(0:UInt8),false,(0:Int),([]:List Reg),([]:List Ev),([]:List Cmt)),v5.2.1,v9.1))
          (grd (cJ (aE (ofN (toN (aA l (toN v5.2.1) zN).2.2.2)) (len ([(aA l (toN v5.2.1) zN).1]:List Ln))) 16)
           (v4 (bC (bL (toN (aA l (toN v5.2.1) zN).2.2.2) v5.1) ([(aA l (toN v5.2.1) zN).1]:List Ln),w64 (aE v5.2.1 (1:Int)),v9.2))))))
      fun v10 =>
      cnd (ilt (0:Int) (aA l (toN v5.2.1) zN).2.2.2)
       (grd (inb (w64 (aJ (aA l (toN v5.2.1) zN).2.2.2 (1:Int))) (ofN (toN (aA l (toN v5.2.1) zN).2.2.2)))
        (v10 (aA v5.1 (nC 0 (toN (w64 (aJ (aA l (toN v5.2.1) zN).2.2.2 (1:Int))))) [])))
       (v10 ([]:Ln)))))
    (bnd (q48 fuelH v5.2.2) fun v2 =>
     cnd (ine v2 (0:Int))
      (some ((([]:Ln),([]:Ln),(0:UInt8),false,(0:Int),([]:List Reg),([]:List Ev),([]:List Cmt)),(0:Int),v2))
      (some (v5.2.2,(0:Int),(0:Int)))))
   (fun (a:List Ln×Doc) (j:Nat)=>(a.1,(j:Int),a.2)) (fun a r=>some (goS (l.length-r.length) a.1 a.2 r)) (fun j a=>Inv l j a.1 a.2) ?_ fuelH 0 ([],vY) (by omega) (bAK _) (aXF l)
  ·refine bAM h ?_;rw[aZZ,bAG]
  ·intro self a j hj hI hself
   by_cases hjl:j<l.length
   ·have hin:inb (j:Int) (len l)=true:=aY (by simp only[len]; omega)
    have hw:w64 (aE (j:Int) 1)=((j+1:Nat):Int):=aR hjl (by omega)
    have hn:=hs _ (aZL hjl)
    have hu:=aKO (hck j hjl)
    have hdep:=X6 hd hjl hI
    have hdle:0≤dep l[j]∧dep l[j]≤(a.1.length:Int)∧dep l[j]≤15:=by
     have:=hd.high j hjl
     rcases hdep with⟨_,k⟩|⟨_,k1,k2,_⟩
     ·omega
     ·omega
    dsimp only;rw[aD (aV (by simp only[len]; omega)),aF hin,vO hjl,hw]
    have hdd:l[j].2.2.2=dep l[j]:=rfl
    rw[hdd]
    have hon:ofN (kF a.1)=(a.1.length:Int):=rfl
    rw[hon,aF (mP (by omega)),aXR hjl]
    have e1:l.length-(l[j]::l.drop (j+1)).length=j:=by rw[aZA,aZE]; omega
    rw[e1];unfold goS
    have hofN:ofN (toN (dep l[j]))=dep l[j]:=by simp[ofN,toN]; omega
    have par:∀k:Ln→Option (Doc×Int×Int),jn k (fun k=>cnd (ilt 0 (dep l[j])) (grd (inb (w64 (aJ (dep l[j]) 1)) (ofN (toN (dep l[j])))) (k (aA a.1 (nC 0 (toN (w64 (aJ (dep l[j]) 1)))) []))) (k []))=k (vX a.1 l[j]):=by
     intro k;rw[bT];unfold vX
     by_cases h0:0<dep l[j]
     ·have hw2:w64 (aJ (dep l[j]) 1)=dep l[j] - 1:=by simp only[aJ]; rw[bU (by omega)]
      rw[aD (aV h0),if_pos h0,hw2,hofN,aF (aY (by omega))];congr 1
      have e2:nC 0 (toN (dep l[j] - 1))=(dep l[j]).toNat-1:=by
       have:toN (dep l[j] - 1)=(dep l[j]).toNat-1:=by simp only[toN]; omega
       rw[this];show 0+_=_;omega
      rw[e2];rfl
     ·rw[aC (aX h0),if_neg h0]
    rw[par];rw[aPW,aHN,aB];unfold okN
    cases hf:VC l[j] (vX a.1 l[j]) (noE a.2) with
    |false=>rw[aD (by rfl),aZ2,if_pos rfl]; rfl
    |true =>
     have hx:=aWQ hc hjl hI hf
     rw[aC (by rfl),FP hn hu,aB,aZ7]
     cases ha:EU l[j] with
     |false=>rw[aD (by rfl),if_pos rfl]; rfl
     |true =>
      rw[aC (by rfl),if_neg (by simp),aPU hn hu ha (aKP (by omega) hI hx),aB]
      by_cases he:(fP a.2 l[j]).1=0
      ·have htk:toN (dep l[j])=(dep l[j]).toNat:=rfl
       rw[aC (cL he),if_neg (by simpa using he),hofN,aF (dD (by simp only[aE,len,aZA,aZS]; omega)),htk];refine(hself (a.1.take (dep l[j]).toNat++[l[j].1],(fP a.2 l[j]).2) (j+1) (by omega) (by omega) (aHM hs hjl hI hx)).trans ?_
       have e3:l.length-(l.drop (j+1)).length=j+1:=by rw[aZE]; omega
       rw[e3]
      ·rw[aD (cA he),if_pos (by simpa using he)];rfl
   ·obtain rfl:j=l.length:=by omega
    have hsm:=aCN hI hl (by rw[aZH]; exact hb)
    dsimp only;rw[aC (aX (by simp only[len]; omega)),aZK,bM (dP hsm)];unfold goS aPV
    by_cases h:cH a.2=0
    ·rw[aC (cL h),if_neg (by simpa using h)]
    ·rw[aD (cA h),if_pos h];rfl
 ·rw[aD (cA hc),if_pos hc];rfl
theorem IQ(a:Nat) (l:Y_) (c:UInt8):iX a (l++[c])=iX a l*10+(c.toNat-48):=by
 unfold iX;rw[List.foldl_append,List.foldl_cons,List.foldl_nil];rfl
theorem wB{k:Nat}(h:k<10):(UInt8.ofNat (48+k)).toNat=48+k:=by
 rw[UInt8.toNat_ofNat'];exact Nat.mod_eq_of_lt (by omega)
theorem VD{k:Nat}(h:k<10):sI (UInt8.ofNat (48+k))=true:=by
 unfold sI n8;rw[wB h];exact decide_eq_true ⟨by omega,by omega⟩
theorem O1(n u:Nat):fK (n+1) u []=if 10≤u then fK n (u / 10) []++[UInt8.ofNat (48+u%10)] else [UInt8.ofNat (48+u)]:=by
 show aQ (Nat.ble 10 u) (fK n (u / 10) [UInt8.ofNat (48+u%10)]) [UInt8.ofNat (48+u)]=_
 by_cases h:10≤u
 ·rw[if_pos h,Nat.ble_eq_true_of_le h,xX n (u / 10) [UInt8.ofNat (48+u%10)]];rfl
 ·have:Nat.ble 10 u=false:=by
   cases e:Nat.ble 10 u with
   |false=>rfl
   |true=>exact absurd (aX4 e) h
  rw[if_neg h,this];rfl
theorem yN:∀(n u:Nat),0<n→u<10^n→iX 0 (fK n u [])=u∧(∀c∈fK n u [],sI c=true)∧fK n u []≠[]∧(1≤u→(fK n u []).headD 0≠48):=by
 intro n
 induction n with
 |zero=>intro u h; omega
 |succ n ih =>
  intro u _ hu;rw[O1]
  by_cases h:10≤u
  ·rw[if_pos h]
   have hn:0<n:=by
    cases n with
    |zero=>simp at hu; omega
    |succ n=>omega
   obtain⟨i1,i2,i3,i4⟩:=ih (u / 10) hn (by rw[Nat.pow_succ] at hu; omega)
   have hm:u%10<10:=Nat.mod_lt _ (by omega)
   refine⟨?_,?_,by simp,fun _=>?_⟩
   ·rw[IQ,i1,wB hm]; omega
   ·intro c hc;rw[aZN,aYZ] at hc;rcases hc with hc|rfl
    ·exact i2 c hc
    ·exact VD hm
   ·have:=i4 (by omega)
    cases e:fK n (u / 10) [] with
    |nil=>exact absurd e i3
    |cons c t=>rw[e] at this; exact this
  ·rw[if_neg h]
   have hlt:u<10:=by omega
   refine⟨?_,?_,by simp,fun h1=>?_⟩
   ·have:=IQ 0 [] (UInt8.ofNat (48+u))
    rw[aZT,ES,wB hlt] at this;omega
   ·intro c hc;rw[aYZ] at hc;rw[hc];exact VD hlt
   ·show UInt8.ofNat (48+u)≠48;intro k
    have:=congrArg UInt8.toNat k
    rw[wB hlt] at this
    have e48:(48:UInt8).toNat=48:=rfl
    omega
theorem EX{n:Int}(h0:0≤n):dZ n=fK 20 n.toNat []:=by
 obtain⟨k,rfl⟩:∃k:Nat,n=(k:Int):=⟨n.toNat,by omega⟩;rfl
theorem rV{n:Int}(h0:0≤n) (h1:n≤9223372036854775807):dZ n≠[]:=by
 rw[EX h0];exact(yN 20 n.toNat (by omega) (by omega)).2.2.1
theorem mF{n hi:Int}(h0:0≤n) (h1:n≤9223372036854775807) (h2:n≤hi):aCK (dZ n) hi=(n,0):=by
 rw[EX h0];obtain⟨e1,e2,e3,e4⟩:=yN 20 n.toNat (by omega) (by omega)
 have hz:n.toNat=0→fK 20 n.toNat []=[48]:=fun h=>by rw[h]; rfl
 generalize fK 20 n.toNat []=s at *
 have hh:s.head?≠some 45:=by
  intro k
  cases s with
  |nil=>cases k
  |cons c t =>
   have:c=45:=by simpa using k
   have hd:=e2 c aYX
   rw[this] at hd;exact absurd hd (by decide)
 unfold aCK aG7;rw[if_neg hh,if_neg e3]
 have h48:¬(s.headD 0=48∧(1<s.length∨(false:Bool)=true)):=by
  intro k
  have hl:1<s.length:=k.2.resolve_right (by simp)
  by_cases hn:n.toNat=0
  ·rw[hz hn] at hl; simp at hl
  ·exact e4 (by omega) k.1
 have hany:s.any (fun c=>!sI c)=false:=by
  rw[List.any_eq_false];intro c hc;rw[e2 c hc];simp
 rw[if_neg h48,hany,if_neg nft,if_neg nft,e1,if_neg (by omega)]
 have:((n.toNat:Nat):Int)=n:=by omega
 rw[this]
theorem VE{n:Int}(h0:0≤n) (h2:n≤5184000):aKJ (dZ n++[102])=(n,0):=by
 unfold aKJ;rw[List.getLast?_concat,if_pos rfl,List.dropLast_concat];exact mF h0 (by omega) h2
theorem IR(name:Ln):∀l:List At,name ∉ l.map Prod.fst→bS name l=([],false)
 | [],_=>rfl
 |a::l,h=>by
  simp only[aZ5,aZ4,not_or] at h;unfold bS;rw[if_neg (fun k=>h.1 k.symm)];exact IR name l h.2
theorem oU:∀(l:List At) (x:Ln),x∈(fM l).map Prod.fst→x∈l.map Prod.fst
 | [],x,h=>h
 |a::l,x,h=>by
  have e:fM (a::l)=kO a++fM l:=rfl
  rw[e,aZW,aZN] at h;rw[aZ5,aZ4];rcases h with h|h
  ·unfold kO at h
   split at h
   ·cases h
   ·exact Or.inl (by simpa using h)
  ·exact Or.inr (oU l x h)
theorem EY(name:Ln):∀l:List At,(l.map Prod.fst).Nodup→bS name (fM l)=if(bS name l).1=[] then([],false) else((bS name l).1,true)
 | [],_=>rfl
 |a::l,h=>by
  rw[aZ5,List.nodup_cons] at h
  have ih:=EY name l h.2
  have e:fM (a::l)=kO a++fM l:=rfl
  rw[e];unfold kO
  by_cases h1:a.2=[]
  ·rw[if_pos h1,aZT]
   by_cases h2:a.1=name
   ·have:name ∉ (fM l).map Prod.fst:=fun k=>h.1 (h2 ▸ oU l name k)
    have e2:bS name (a::l)=(a.2,true):=by unfold bS; rw[if_pos h2]
    rw[IR name _ this,e2,h1,if_pos rfl]
   ·have e2:bS name (a::l)=bS name l:=by
     show(if a.1=name then _ else _)=_;rw[if_neg h2]
    rw[e2];exact ih
  ·rw[if_neg h1]
   by_cases h2:a.1=name
   ·have e2:bS name (a::l)=(a.2,true):=by unfold bS; rw[if_pos h2]
    rw[e2,if_neg h1];show(if a.1=name then _ else _)=_;rw[if_pos h2]
   ·have e2:bS name (a::l)=bS name l:=by
     show(if a.1=name then _ else _)=_;rw[if_neg h2]
    rw[e2,←ih];show(if a.1=name then _ else bS name (fM l))=_;rw[if_neg h2]
theorem EZ:∀l:List At,(l.map Prod.fst).Nodup→((fM l).map Prod.fst).Nodup
 | [],h=>h
 |a::l,h=>by
  rw[aZ5,List.nodup_cons] at h
  have ih:=EZ l h.2
  have e:fM (a::l)=kO a++fM l:=rfl
  rw[e];unfold kO
  split
  ·exact ih
  ·show(a.1::(fM l).map Prod.fst).Nodup;rw[List.nodup_cons];exact⟨fun k=>h.1 (oU l _ k),ih⟩
theorem tZ{k:Int}{n:Ln}{l:List At}(h:(l.map Prod.fst).Nodup) (name:Ln):eU (elQ k n l) name=(bS name l).1∧yF (elQ k n l) name=decide ((bS name l).1≠[]):=by
 have:=EY name l h
 constructor
 ·show(bS name (fM l)).1=_;rw[this]
  by_cases e:(bS name l).1=[]
  ·rw[if_pos e,e]
  ·rw[if_neg e]
 ·show(bS name (fM l)).2=_;rw[this]
  by_cases e:(bS name l).1=[]
  ·rw[if_pos e,decide_eq_false (by simpa using e)]
  ·rw[if_neg e,decide_eq_true e]
theorem PG{k:Int}{n:Ln}{l:List At}(h:(l.map Prod.fst).Nodup) (h1:∀x∈l.map Prod.fst,x∈yK n) (h2:∀w∈jI n,(bS w l).1≠[]):EU (elQ k n l)=true:=by
 unfold EU;rw[aZB,aZJ,aZJ];refine⟨fun a ha=>?_,fun w hw=>?_⟩
 ·rw[aYB];exact h1 _ (oU l _ (List.mem_map_of_mem ha))
 ·rw[aYB];refine(yI w _).1 ?_
  have:=(tZ (k:=k) (n:=n) h w).2
  rw[decide_eq_true (h2 w hw)] at this;exact this
theorem aCO{r:UInt8}(h:1≤n8 r∧n8 r≤7):N5 (oA r)=(r,0)∧oA r≠[]:=by
 have:=of_decide_eq_true (eN (P:=fun r=>decide (1≤n8 r∧n8 r≤7→N5 (oA r)=(r,0)∧oA r≠[])) (by rfl) r)
 exact this h
theorem aCP{k:UInt8}(h:1≤n8 k∧n8 k≤4):zV (sF k)=(k,0)∧sF k≠[]:=by
 have:=of_decide_eq_true (eN (P:=fun r=>decide (1≤n8 r∧n8 r≤4→zV (sF r)=(r,0)∧sF r≠[])) (by rfl) k)
 exact this h
def chV(tab:List Ln) (v:Ln):Int×Int:=if v=[] then(0,0) else match aCL tab v with|some i=>((i:Int),0)|none=>(0,4)
theorem IS{k:Int}{n:Ln}{l:List At}(h:(l.map Prod.fst).Nodup) (tab:List Ln) (name:Ln):chT tab (elQ k n l) name=chV tab (bS name l).1:=by
 unfold chT chV;rw[(tZ h name).1,(tZ h name).2]
 by_cases e:(bS name l).1=[]
 ·rw[if_pos (by simpa using e),if_pos e]
 ·rw[if_neg (by simpa using e),if_neg e]<;>rfl
theorem O2{c:UInt8}(h:n8 c≤6):b8 (chV gl1 (EE c)).1=c∧(chV gl1 (EE c)).2=0:=by
 have:=of_decide_eq_true (eN (P:=fun c=>decide (n8 c≤6→b8 (chV gl1 (EE c)).1=c∧(chV gl1 (EE c)).2=0)) (by rfl) c)
 exact this h
theorem O3{a:UInt8}(h:1≤n8 a∧n8 a≤3):b8 (w64 (aE (chV gl0 (sG a)).1 1))=a∧(chV gl0 (sG a)).2=0∧sG a≠[]:=by
 have:=of_decide_eq_true (eN (P:=fun a=>decide (1≤n8 a∧n8 a≤3→b8 (w64 (aE (chV gl0 (sG a)).1 1))=a∧(chV gl0 (sG a)).2=0∧sG a≠[])) (by rfl) a)
 exact this h
theorem VF(b:Bool):ieq (chV [[84,79,80],[66,79,84,84,79,77]] (if b then [66,79,84,84,79,77] else [84,79,80])).1 1=b∧(chV [[84,79,80],[66,79,84,84,79,77]] (if b then [66,79,84,84,79,77] else [84,79,80])).2=0∧(if b then [66,79,84,84,79,77] else [84,79,80]:Ln)≠[]:=by
 cases b
 ·exact⟨by rfl,by rfl,by decide⟩
 ·exact⟨by rfl,by rfl,by decide⟩
theorem yO(b:Bool):ieq (chV [[48],[49]] (OJ b)).1 1=b∧(chV [[48],[49]] (OJ b)).2=0:=by cases b<;>exact⟨by rfl,by rfl⟩
abbrev Hd5:=Ln×Ln×UInt8×Bool×Int
def mkD(h:Hd5) (rs:List Reg) (evs:List Ev):Doc:=(h.1,h.2.1,h.2.2.1,h.2.2.2.1,h.2.2.2.2,rs,evs,[])
def dE(h:Hd5) (rs:List Reg) (es:List Ev) (e:Ev) (rows:List Row):Doc:=mkD h rs (es++[(e.1,e.2.1,e.2.2.1,e.2.2.2.1,e.2.2.2.2.1,rows)])
theorem FA(h:Hd5) (rs:List Reg) (es:List Ev) (e:Ev) (rows:List Row):dK (dE h rs es e rows)=rows:=by
 show(aP (es++[_]) evY).2.2.2.2.2=rows;rw[kD]
theorem PH(h:Hd5) (rs:List Reg) (es:List Ev) (e:Ev) (rows rows':List Row):tY (dE h rs es e rows) rows'=dE h rs es e rows':=by
 unfold tY dE mkD;dsimp only;rw[kD,mE]
theorem rW{i:Nat}{op:List Ln}{d d':Doc}{n:Nd}{r:List Nd}(h1:okN op d n=true) (h2:fP d n=(0,d')):goS i op d (n::r)=goS (i+1) (op.take (dep n).toNat++[n.1]) d' r:=by
 have e:goS i op d (n::r)=if okN op d n=false then(vY,(i:Int),4) else if(fP d n).1≠0 then(vY,(i:Int),(fP d n).1) else goS (i+1) (op.take (dep n).toNat++[n.1]) (fP d n).2 r:=rfl
 rw[e,h1,if_neg (by simp),h2,if_neg (by simp)]
theorem wC{α:Type}{P:List Ln→Prop}{Q:α→Prop}{g:α→List Nd}{D:List α→Doc}(hs:∀x i op acc r,Q x→P op→∃i' op',P op'∧goS i op (D acc) (g x++r)=goS i' op' (D (acc++[x])) r) :
  ∀(l:List α) (acc:List α) (i:Nat) (op:List Ln) (r:List Nd),(∀x∈l,Q x)→P op→∃i' op',P op'∧goS i op (D acc) (l.flatMap g++r)=goS i' op' (D (acc++l)) r
 | [],acc,i,op,r,_,hp=>⟨i,op,hp,by simp⟩
 |x::l,acc,i,op,r,hq,hp=>by
  obtain⟨i1,op1,p1,e1⟩:=hs x i op acc (l.flatMap g++r) (hq x aYX) hp;obtain⟨i2,op2,p2,e2⟩:=wC hs l (acc++[x]) i1 op1 r (fun y hy=>hq y (aYE _ hy)) p1;refine⟨i2,op2,p2,?_⟩;rw[List.flatMap_cons,aY3,e1,e2,aY3];rfl
theorem VG{op:List Ln}{d:Doc}{n:Nd}(h1:VC n (vX op n) (noE d)=true) (h2:EU n=true):okN op d n=true:=by unfold okN; rw[h1,h2]; rfl
theorem rX{op z:List Ln}{k:Nat}(h:op.take (k+1)=z) (hz:z.length=k+1):op.getD k []=z.getD k []:=by
 rw[←h,aXN,aXN,List.getElem?_take_of_lt (by omega)]
theorem IT(u:Run):((kL u).map Prod.fst).Nodup:=(by decide:([[99,111,108,111,114],[105,116,97,108,105,99],[117,110,100,101,114,108,105,110,101],[114,117,98,121]]:List Ln).Nodup)
theorem aPX(h:Hd5) (rs:List Reg) (es:List Ev) (e:Ev) (rows:List Row) (u:Run) (i:Nat) (op:List Ln) (acc:List Run) (r:List Nd) (hu:n8 u.2.1.1≤6) (hp:op.take 3=[[116,116],[112],[114,111,119]]) :
  ∃i' op',op'.take 3=[[116,116],[112],[114,111,119]]∧goS i op (dE h rs es e (rows++[acc])) (runN u++r)=goS i' op' (dE h rs es e (rows++[acc++[u]])) r:=by
 have hn:=IT u
 have e1:runN u++r=elQ 3 [114,117,110] (kL u)::(([],u.1,[],4):Nd)::r:=rfl
 have a1:okN op (dE h rs es e (rows++[acc])) (elQ 3 [114,117,110] (kL u))=true:=by
  refine VG ?_ (PG hn (fun x hx=>hx) (fun w hw=>by cases hw))
  have:vX op (elQ 3 [114,117,110] (kL u))=[114,111,119]:=(rX (k:=2) hp rfl)
  rw[this];rfl
 have v:∀w,eU (elQ 3 [114,117,110] (kL u)) w=(bS w (kL u)).1:=fun w=>(tZ hn w).1
 have hc:=O2 hu
 have hi:=yO u.2.1.2.1
 have hud:=yO u.2.1.2.2
 have fc:N4 (elQ 3 [114,117,110] (kL u))=(u.2.1.1,0):=by
  unfold N4;rw[IS hn];exact Prod.ext hc.1 hc.2
 have fi:flT (elQ 3 [114,117,110] (kL u)) [105,116,97,108,105,99]=(u.2.1.2.1,0):=by
  unfold flT;rw[IS hn];exact Prod.ext hi.1 hi.2
 have fu:flT (elQ 3 [114,117,110] (kL u)) [117,110,100,101,114,108,105,110,101]=(u.2.1.2.2,0):=by
  unfold flT;rw[IS hn];exact Prod.ext hud.1 hud.2
 have a2:fP (dE h rs es e (rows++[acc])) (elQ 3 [114,117,110] (kL u))=(0,dE h rs es e (rows++[acc++[([],u.2.1,u.2.2)]])):=by
  have:fP (dE h rs es e (rows++[acc])) (elQ 3 [114,117,110] (kL u))=aHI (dE h rs es e (rows++[acc])) (elQ 3 [114,117,110] (kL u)):=rfl
  rw[this];unfold aHI N7;rw[fc,fi,fu,v,PH];unfold gW;rw[FA,kD,mE];rfl
 rw[e1,rW a1 a2]
 have ho:op.take (dep (elQ 3 [114,117,110] (kL u))).toNat++[(elQ 3 [114,117,110] (kL u)).1]=[[116,116],[112],[114,111,119],[114,117,110]]:=by
  show op.take 3++[[114,117,110]]=_;rw[hp]; rfl
 rw[ho]
 have b2:fP (dE h rs es e (rows++[acc++[([],u.2.1,u.2.2)]])) (([],u.1,[],4):Nd)=(0,dE h rs es e (rows++[acc++[u]])):=by
  have:fP (dE h rs es e (rows++[acc++[([],u.2.1,u.2.2)]])) (([],u.1,[],4):Nd)=aHJ (dE h rs es e (rows++[acc++[([],u.2.1,u.2.2)]])) (([],u.1,[],4):Nd):=rfl
  rw[this];unfold aHJ gW;rw[PH,FA,kD,kD,mE,mE]
 exact⟨i+1+1,_,by rfl,rW (by rfl) b2⟩
theorem aPY(h:Hd5) (rs:List Reg) (es:List Ev) (e:Ev) (row:Row) (i:Nat) (op:List Ln) (acc:List Row) (r:List Nd) (hu:∀u∈row,n8 u.2.1.1≤6) (hp:op.take 2=[[116,116],[112]]) :
  ∃i' op',op'.take 2=[[116,116],[112]]∧goS i op (dE h rs es e acc) (rowN row++r)=goS i' op' (dE h rs es e (acc++[row])) r:=by
 have e1:rowN row++r=elQ 2 [114,111,119] []::(row.flatMap runN++r):=rfl
 have a1:okN op (dE h rs es e acc) (elQ 2 [114,111,119] [])=true:=by
  refine VG ?_ (by rfl)
  have:vX op (elQ 2 [114,111,119] [])=[112]:=(rX (k:=1) hp rfl)
  rw[this];rfl
 have a2:fP (dE h rs es e acc) (elQ 2 [114,111,119] [])=(0,dE h rs es e (acc++[[]])):=by
  have:fP (dE h rs es e acc) (elQ 2 [114,111,119] [])=(0,tY (dE h rs es e acc) (dK (dE h rs es e acc)++[[]])):=rfl
  rw[this,PH,FA]
 rw[e1,rW a1 a2]
 have ho:op.take (dep (elQ 2 [114,111,119] [])).toNat++[(elQ 2 [114,111,119] []).1]=[[116,116],[112],[114,111,119]]:=by
  show op.take 2++[[114,111,119]]=_;rw[hp]; rfl
 rw[ho];obtain⟨i',op',p',e'⟩:=wC (P:=fun op=>op.take 3=[[116,116],[112],[114,111,119]]) (Q:=fun u:Run=>n8 u.2.1.1≤6) (g:=runN) (D:=fun us=>dE h rs es e (acc++[us])) (fun u i op us r hq hp=>aPX h rs es e acc u i op us r hq hp) row [] (i+1) [[116,116],[112],[114,111,119]] r hu rfl;refine⟨i',op',?_,e'⟩
 have:=congrArg (List.take 2) p'
 rw[List.take_take] at this;exact this
theorem aKS{x:Ev}{rs:List Reg}(h:nT x rs=0):1≤n8 x.2.2.2.1∧n8 x.2.2.2.1≤4:=by
 unfold nT at h
 split at h
 ·cases h
 split at h
 ·cases h
 split at h
 ·cases h
 split at h
 ·cases h
 split at h
 ·cases h
 ·rename_i hk;exact Decidable.of_not_not hk
structure EvQ (e:Ev):Prop where
 id:1≤e.1∧e.1≤1099511627776
 sp:0≤e.2.1.1∧e.2.1.1≤5184000∧0≤e.2.1.2∧e.2.1.2≤5184000
 kd:1≤n8 e.2.2.2.1∧n8 e.2.2.2.1≤4
 co:∀l∈e.2.2.2.2.2,∀u∈l,n8 u.2.1.1≤6
theorem VH(e:Ev):((evA e).map Prod.fst).Nodup:=(by decide:([[105,100],[105,110],[111,117,116],[114,101,103,105,111,110],[107,105,110,100],[115,112,101,97,107,101,114]]:List Ln).Nodup)
theorem aWR(h:Hd5) (rs:List Reg) (e:Ev) (i:Nat) (op:List Ln) (acc:List Ev) (r:List Nd) (he:EvQ e) (hp:op.take 1=[[116,116]]) :
  ∃i' op',op'.take 1=[[116,116]]∧goS i op (mkD h rs acc) (evN e++r)=goS i' op' (mkD h rs (acc++[e])) r:=by
 have hn:=VH e
 obtain⟨i1,i2⟩:=he.id;obtain⟨s1,s2,s3,s4⟩:=he.sp
 have hk:=aCP he.kd
 have e1:evN e++r=elQ 1 [112] (evA e)::(e.2.2.2.2.2.flatMap rowN++r):=rfl
 have v:∀w,eU (elQ 1 [112] (evA e)) w=(bS w (evA e)).1:=fun w=>(tZ hn w).1
 have a1:okN op (mkD h rs acc) (elQ 1 [112] (evA e))=true:=by
  refine VG ?_ (PG hn (fun x hx=>hx) (fun w hw=>?_))
  ·have:vX op (elQ 1 [112] (evA e))=[116,116]:=(rX (k:=0) hp rfl)
   rw[this];rfl
  ·have hw:w∈[[105,100],[105,110],[111,117,116],[107,105,110,100]]:=hw
   simp only[aZ4,List.not_mem_nil,or_false] at hw;rcases hw with rfl|rfl|rfl|rfl
   ·exact rV (by omega) (by omega)
   ·show dZ e.2.1.1++[102]≠[]; simp
   ·show dZ e.2.1.2++[102]≠[]; simp
   ·exact hk.2
 have n1:iH (elQ 1 [112] (evA e)) [105,100] zF=(e.1,0):=by
  unfold iH; rw[v]; exact mF (by omega) (by omega) (by unfold zF; omega)
 have n2:tX (elQ 1 [112] (evA e)) [105,110]=(e.2.1.1,0):=by
  unfold tX; rw[v]; exact VE s1 s2
 have n3:tX (elQ 1 [112] (evA e)) [111,117,116]=(e.2.1.2,0):=by
  unfold tX; rw[v]; exact VE s3 s4
 have n4:zV (eU (elQ 1 [112] (evA e)) [107,105,110,100])=(e.2.2.2.1,0):=by rw[v]; exact hk.1
 have a2:fP (mkD h rs acc) (elQ 1 [112] (evA e))=(0,dE h rs acc e []):=by
  have:fP (mkD h rs acc) (elQ 1 [112] (evA e))=EV (mkD h rs acc) (elQ 1 [112] (evA e)):=rfl
  rw[this];unfold EV evT;rw[n1,n2,n3,n4,v,v];rfl
 rw[e1,rW a1 a2]
 have ho:op.take (dep (elQ 1 [112] (evA e))).toNat++[(elQ 1 [112] (evA e)).1]=[[116,116],[112]]:=by
  show op.take 1++[[112]]=_;rw[hp]; rfl
 rw[ho];obtain⟨i',op',p',e'⟩:=wC (P:=fun op=>op.take 2=[[116,116],[112]]) (Q:=fun l:Row=>∀u∈l,n8 u.2.1.1≤6) (g:=rowN) (D:=fun rows=>dE h rs acc e rows) (fun l i op rows r hq hp=>aPY h rs acc e l i op rows r hq hp) e.2.2.2.2.2 [] (i+1) [[116,116],[112]] r he.co rfl;refine⟨i',op',?_,e'⟩
 have:=congrArg (List.take 1) p'
 rw[List.take_take] at this;exact this
theorem IU(g:Reg):((kM g).map Prod.fst).Nodup:=(by decide:([[110,97,109,101],[116,111,112],[104,101,105,103,104,116],[108,101,102,116],[119,105,100,116,104],[97,108,105,103,110],[97,110,99,104,111,114]]:List Ln).Nodup)
theorem aPZ(h:Hd5) (g:Reg) (i:Nat) (op:List Ln) (acc:List Reg) (r:List Nd) (hg:eA g=0) (hp:op.take 1=[[116,116]]) :
  ∃i' op',op'.take 1=[[116,116]]∧goS i op (mkD h acc []) (qW g++r)=goS i' op' (mkD h (acc++[g]) []) r:=by
 have hn:=IU g
 obtain⟨q1,q2,q3,q4,q5,q6,q7⟩:=oB hg
 have e1:qW g++r=elQ 1 [114,101,103,105,111,110] (kM g)::r:=rfl
 have v:∀w,eU (elQ 1 [114,101,103,105,111,110] (kM g)) w=(bS w (kM g)).1:=fun w=>(tZ hn w).1
 have hal:=O3 (a:=g.2.2.2.2.2.1) ⟨q6,q7⟩
 have han:=VF g.2.2.2.2.2.2
 have hnm:g.1≠[]:=fun k=>by rw[k] at q1; cases q1
 have a1:okN op (mkD h acc []) (elQ 1 [114,101,103,105,111,110] (kM g))=true:=by
  refine VG ?_ (PG hn (fun x hx=>hx) (fun w hw=>?_))
  ·have:vX op (elQ 1 [114,101,103,105,111,110] (kM g))=[116,116]:=(rX (k:=0) hp rfl)
   rw[this];rfl
  ·have hw:w∈[[110,97,109,101],[116,111,112],[104,101,105,103,104,116],[108,101,102,116],[119,105,100,116,104],[97,108,105,103,110],[97,110,99,104,111,114]]:=hw
   simp only[aZ4,List.not_mem_nil,or_false] at hw;rcases hw with rfl|rfl|rfl|rfl|rfl|rfl|rfl
   ·exact hnm
   ·exact rV (by omega) (by omega)
   ·exact rV (by omega) (by omega)
   ·exact rV (by omega) (by omega)
   ·exact rV (by omega) (by omega)
   ·exact hal.2.2
   ·exact han.2.2
 have n1:iH (elQ 1 [114,101,103,105,111,110] (kM g)) [116,111,112] 32=(g.2.1,0):=by unfold iH; rw[v]; exact mF (by omega) (by omega) (by omega)
 have n2:iH (elQ 1 [114,101,103,105,111,110] (kM g)) [104,101,105,103,104,116] 32=(g.2.2.1,0):=by unfold iH; rw[v]; exact mF (by omega) (by omega) (by omega)
 have n3:iH (elQ 1 [114,101,103,105,111,110] (kM g)) [108,101,102,116] 32=(g.2.2.2.1,0):=by unfold iH; rw[v]; exact mF (by omega) (by omega) (by omega)
 have n4:iH (elQ 1 [114,101,103,105,111,110] (kM g)) [119,105,100,116,104] 32=(g.2.2.2.2.1,0):=by unfold iH; rw[v]; exact mF (by omega) (by omega) (by omega)
 have c1:chT gl0 (elQ 1 [114,101,103,105,111,110] (kM g)) [97,108,105,103,110]=chV gl0 (sG g.2.2.2.2.2.1):=IS hn gl0 [97,108,105,103,110]
 have c2:chT [[84,79,80],[66,79,84,84,79,77]] (elQ 1 [114,101,103,105,111,110] (kM g)) [97,110,99,104,111,114]=chV [[84,79,80],[66,79,84,84,79,77]] (if g.2.2.2.2.2.2 then [66,79,84,84,79,77] else [84,79,80]):=IS hn _ [97,110,99,104,111,114]
 have a2:fP (mkD h acc []) (elQ 1 [114,101,103,105,111,110] (kM g))=(0,mkD h (acc++[g]) []):=by
  have:fP (mkD h acc []) (elQ 1 [114,101,103,105,111,110] (kM g))=VB (mkD h acc []) (elQ 1 [114,101,103,105,111,110] (kM g)):=rfl
  rw[this];unfold VB aPT;rw[n1,n2,n3,n4,c1,c2,hal.1,hal.2.1,han.1,han.2.1,v];rfl
 rw[e1,rW a1 a2];refine⟨i+1,_,?_,rfl⟩;show(op.take 1++[[114,101,103,105,111,110]]).take 1=_;rw[hp]; rfl
theorem FB{d:Doc}(h:iT d=0):vld d.1=true∧d.1.length≤400∧(d.2.1=[]∨nm d.2.1=true)∧tvB d.2.2.1=true:=by
 unfold iT at h
 split at h
 ·cases h
 rename_i c1
 split at h
 ·cases h
 rename_i c2
 split at h
 ·cases h
 rename_i c3
 split at h
 ·cases h
 rename_i c4;refine⟨by simpa using c1,by omega,?_,?_⟩
 ·by_cases e:d.2.1=[]
  ·exact Or.inl e
  ·refine Or.inr ?_
   cases hn:nm d.2.1 with
   |true=>rfl
   |false=>exact absurd ⟨e,hn⟩ c3
 ·cases ht:tvB d.2.2.1 with
  |true=>rfl
  |false=>exact absurd (Or.inl ht) c4
theorem aP0:((List.range 256).all fun n=>decide (tvB (UInt8.ofNat n)=true→1≤n8 (UInt8.ofNat n)∧n8 (UInt8.ofNat n)≤7))=true:=by kernel_rfl
theorem aWS{r:UInt8}(h:tvB r=true):1≤n8 r∧n8 r≤7 :=
 of_decide_eq_true (eN (P:=fun r=>decide (tvB r=true→1≤n8 r∧n8 r≤7)) aP0 r) h
theorem VI(d:Doc):((mA d).map Prod.fst).Nodup:=(by decide:([[116,105,116,108,101],[108,97,110,103],[114,97,116,101],[100,114,111,112],[108,97,115,116]]:List Ln).Nodup)
def hdO(d:Doc):Hd5:=(d.1,d.2.1,d.2.2.1,d.2.2.2.1,d.2.2.2.2.1)
theorem aKT{d:Doc}(h:cH d=0) (r:List Nd):goS 0 [] vY (elQ 0 [116,116] (mA d)::r)=goS 1 [[116,116]] (mkD (hdO d) [] []) r:=by
 have hn:=VI d
 obtain⟨_,_,_,h4⟩:=FB (lD h).1;obtain⟨l1,l2⟩:=EF h
 have hr:=aCO (aWS h4)
 have hf:=yO d.2.2.2.1
 have v:∀w,eU (elQ 0 [116,116] (mA d)) w=(bS w (mA d)).1:=fun w=>(tZ hn w).1
 have a1:okN [] vY (elQ 0 [116,116] (mA d))=true:=by
  refine VG (by rfl) (PG hn (fun x hx=>hx) (fun w hw=>?_))
  have hw:w∈([[114,97,116,101],[108,97,115,116]]:List Ln):=hw
  simp only[aZ4,List.not_mem_nil,or_false] at hw;rcases hw with rfl|rfl
  ·exact hr.2
  ·exact rV l1 (by omega)
 have n1:iH (elQ 0 [116,116] (mA d)) [108,97,115,116] zF=(d.2.2.2.2.1,0):=by
  unfold iH; rw[v]; exact mF l1 (by omega) (by unfold zF; omega)
 have n2:N5 (eU (elQ 0 [116,116] (mA d)) [114,97,116,101])=(d.2.2.1,0):=by rw[v]; exact hr.1
 have n3:flT (elQ 0 [116,116] (mA d)) [100,114,111,112]=(d.2.2.2.1,0):=by
  unfold flT;rw[IS hn];exact Prod.ext hf.1 hf.2
 have a2:fP vY (elQ 0 [116,116] (mA d))=(0,mkD (hdO d) [] []):=by
  have:fP vY (elQ 0 [116,116] (mA d))=IP vY (elQ 0 [116,116] (mA d)):=rfl
  rw[this];unfold IP;rw[n1,n2,n3,v,v];rfl
 exact rW a1 a2
theorem X7{d:Doc}(h:cH d=0):cH (rA d)=0:=by
 unfold cH at h
 split at h
 ·rename_i hc; exact absurd h hc
 rename_i c1
 split at h
 ·rename_i hc; exact absurd h hc
 rename_i c2
 split at h
 ·cases h
 rename_i c3
 split at h
 ·rename_i hc; exact absurd h hc
 rename_i c4
 have e1:iT (rA d)=iT d:=rfl
 have e2:tV (rA d)=tV d:=rfl
 have e3:rS (rA d)=0:=by
  unfold rS;rw[if_neg (by simp[rA])];rfl
 unfold cH;rw[e1,e2,e3,if_neg c1,if_neg (show ¬jL (rA d).2.2.2.2.2.1≠0 from c2),if_neg (show ¬400<(rA d).2.2.2.2.2.2.1.length from c3),if_neg c4]
theorem aP1{d:Doc}(h:cH d=0):∀e∈d.2.2.2.2.2.2.1,EvQ e:=fun e he=>by
 obtain⟨q1,q2,q3,q4,q5⟩:=(yZ h).ev e he
 have hk:=aKS (OL (lD h).2.2 e he)
 exact⟨⟨q1,q2⟩,⟨q3.1,by omega,by omega,q3.2.2⟩,hk,fun l hl u hu=>(q5 l hl).2 u hu⟩
theorem aWT{d:Doc}(h:cH d=0) (hk:qX (jG d)=0):PE (jG d)=(rA d,0,0):=by
 unfold PE;rw[if_neg (by simpa using hk)]
 have e0:jG d=elQ 0 [116,116] (mA d)::(d.2.2.2.2.2.1.flatMap qW++(d.2.2.2.2.2.2.1.flatMap evN++[])):=by
  unfold jG;rw[aZO,aY3];rfl
 rw[e0,aKT h];obtain⟨i1,op1,p1,e1⟩:=wC (P:=fun op=>op.take 1=[[116,116]]) (Q:=fun g:Reg=>eA g=0) (g:=qW) (D:=fun rs=>mkD (hdO d) rs []) (fun g i op acc r hq hp=>aPZ (hdO d) g i op acc r hq hp) d.2.2.2.2.2.1 [] 1 [[116,116]] (d.2.2.2.2.2.2.1.flatMap evN++[]) (yZ h).reg rfl;obtain⟨i2,op2,p2,e2⟩:=wC (P:=fun op=>op.take 1=[[116,116]]) (Q:=EvQ) (g:=evN) (D:=fun es=>mkD (hdO d) d.2.2.2.2.2.1 es) (fun e i op acc r hq hp=>aWR (hdO d) d.2.2.2.2.2.1 e i op acc r hq hp) d.2.2.2.2.2.2.1 [] i1 op1 [] (aP1 h) p1
 have e1:goS 1 [[116,116]] (mkD (hdO d) [] []) (d.2.2.2.2.2.1.flatMap qW++(d.2.2.2.2.2.2.1.flatMap evN++[]))=goS i1 op1 (mkD (hdO d) d.2.2.2.2.2.1 []) (d.2.2.2.2.2.2.1.flatMap evN++[]):=e1
 have e2:goS i1 op1 (mkD (hdO d) d.2.2.2.2.2.1 []) (d.2.2.2.2.2.2.1.flatMap evN++[])=goS i2 op2 (mkD (hdO d) d.2.2.2.2.2.1 d.2.2.2.2.2.2.1) []:=e2
 rw[e1,e2]
 have:mkD (hdO d) d.2.2.2.2.2.1 d.2.2.2.2.2.2.1=rA d:=rfl
 rw[this];unfold goS aPV;rw[if_neg (by simpa using X7 h)]
theorem aKU:((List.range 256).all fun n=>decide (32≤n8 (UInt8.ofNat n)∧n8 (UInt8.ofNat n)≤126→dO (n8 (UInt8.ofNat n))=true∧ofR [n8 (UInt8.ofNat n)]=[UInt8.ofNat n]))=true:=by kernel_rfl
theorem kW:∀s:Ln,(∀c∈s,32≤n8 c∧n8 c≤126)→vld s=true
 | [],_=>rfl
 |c::s,h=>by
  have ih:=kW s fun x hx=>h x (aYE _ hx)
  obtain⟨h1,h2⟩:=of_decide_eq_true (eN (P:=fun c=>decide (32≤n8 c∧n8 c≤126→dO (n8 c)=true∧ofR [n8 c]=[c])) aKU c) (h c aYX)
  have:=U4 [n8 c] s (by rw[aZ8,h1]; rfl)
  rw[h2] at this;exact this.trans ih
theorem PI{s:Ln}(h:nm s=true):vld s=true:=by
 refine kW s fun c hc=>?_
 unfold nm at h;rw[aZB,aZJ] at h
 have:=of_decide_eq_true (h.2 c hc)
 omega
theorem kE{n:Int}(h0:0≤n) (h1:n≤9223372036854775807):∀c∈dZ n,32≤n8 c∧n8 c≤126:=fun c hc=>by
 rw[EX h0] at hc
 have:=of_decide_eq_true ((yN 20 n.toNat (by omega) (by omega)).2.1 c hc)
 omega
theorem aHO(c:UInt8):vld (sF c)=true:=of_decide_eq_true (eN (P:=fun c=>decide (vld (sF c)=true)) (by kernel_rfl) c)
theorem aHP(c:UInt8):vld (oA c)=true:=of_decide_eq_true (eN (P:=fun c=>decide (vld (oA c)=true)) (by kernel_rfl) c)
theorem aHQ(c:UInt8):vld (sG c)=true:=of_decide_eq_true (eN (P:=fun c=>decide (vld (sG c)=true)) (by kernel_rfl) c)
theorem aHR(c:UInt8) (h:n8 c≤6):vld (EE c)=true:=of_decide_eq_true (eN (P:=fun c=>decide (n8 c≤6→vld (EE c)=true)) (by kernel_rfl) c) h
theorem FC(b:Bool):vld (OJ b)=true:=by cases b<;>rfl
theorem VJ:∀(l:List At) (seen:List Ln),(∀a∈l,nmX a.1=true∧vld a.2=true∧a.1 ∉ seen)→(l.map Prod.fst).Nodup→atE seen l=0
 | [],_,_,_=>rfl
 |a::l,seen,h,hn=>by
  obtain⟨h1,h2,h3⟩:=h a aYX;rw[aZ5,List.nodup_cons] at hn;unfold atE;rw[h1,h2,if_neg (by simp),if_neg h3,if_neg (by simp)];refine VJ l (seen++[a.1]) (fun b hb=>?_) hn.2;obtain⟨q1,q2,q3⟩:=h b (aYE _ hb);refine⟨q1,q2,fun k=>?_⟩;rw[aZN,aYZ] at k;rcases k with k|k
  ·exact q3 k
  ·exact hn.1 (k ▸ List.mem_map_of_mem hb)
theorem FD:∀(l:List At) (a:At),a∈fM l→a∈l
 | [],a,h=>h
 |b::l,a,h=>by
  have e:fM (b::l)=kO b++fM l:=rfl
  rw[e,aZN] at h;rcases h with h|h
  ·unfold kO at h
   split at h
   ·cases h
   ·rw[aYZ] at h; rw[h]; exact aYX
  ·exact aYE _ (FD l a h)
theorem wD{k:Int}{n:Ln}{l:List At}(hn:nmX n=true) (hl:l.length≤16) (hd:(l.map Prod.fst).Nodup) (h:∀a∈l,nmX a.1=true∧vld a.2=true):elE (elQ k n l)=0:=by
 have h1:¬nmX (elQ k n l).1=false:=by
  show ¬nmX n=false;rw[hn]; simp
 have h2:¬(elQ k n l).2.1≠[]:=by show ¬([]:Ln)≠[]; simp
 have h3:¬16<(elQ k n l).2.2.1.length:=by
  show ¬16<(fM l).length
  have:=UG l
  omega
 unfold elE;rw[if_neg h1,if_neg h2,if_neg h3];exact VJ _ _ (fun a ha=>⟨(h a (FD l a ha)).1,(h a (FD l a ha)).2,by simp⟩) (EZ l hd)
def oE(q:Nd):Int:=if q.1≠[] then dep q+1 else dep q
theorem aHS{q n:Nd}(h1:1≤dep n) (h2:dep n≤oE q) (h3:dep n≤15):xY (some q) n=0:=by
 have e:xY (some q) n=if dep n<1 then 8 else if oE q<dep n then 8 else if 15<dep n then 9 else 0:=rfl
 rw[e,if_neg (by omega),if_neg (by omega),if_neg (by omega)]
theorem X8{q n:Nd}(h1:1≤dep n) (h2:dep n≤oE q) (h3:dep n≤15) (hn:n.1≠[]) (he:elE n=0):ndE (some q) n=0:=by
 unfold ndE;rw[if_neg (by rw[aHS h1 h2 h3]; simp),if_pos hn,he]
theorem aWU{q n:Nd}(h1:1≤dep n) (h2:dep n≤oE q) (h3:dep n≤15) (hq:q.1≠[]) (hn:n.1=[]) (ht:n.2.1≠[]) (ha:n.2.2.1=[]) (hv:vld n.2.1=true):ndE (some q) n=0:=by
 unfold ndE;rw[if_neg (by rw[aHS h1 h2 h3]; simp),if_neg (by simpa using hn)]
 have hp:txP (some q) n=false:=by
  show decide (q.1=[]∧dep q=dep n)=false;exact decide_eq_false fun k=>hq k.1
 unfold txE;rw[hp,if_neg nft,if_neg ht,ha,if_neg (by simp),hv,if_neg (by simp)]
theorem rY{p:Option Nd}{n:Nd}{r:List Nd}(h:ndE p n=0):ckE p (n::r)=ckE (some n) r:=by
 have e:ckE p (n::r)=if ndE p n≠0 then ndE p n else ckE (some n) r:=rfl
 rw[e,h,if_neg (by simp)]
theorem wE{α:Type}{Q:α→Prop}{g:α→List Nd}{c:Int}(hs:∀x q r,Q x→c≤oE q→∃q',c≤oE q'∧ckE (some q) (g x++r)=ckE (some q') r) :
  ∀(l:List α) (q:Nd) (r:List Nd),(∀x∈l,Q x)→c≤oE q→∃q',c≤oE q'∧ckE (some q) (l.flatMap g++r)=ckE (some q') r
 | [],q,r,_,hc=>⟨q,hc,rfl⟩
 |x::l,q,r,hq,hc=>by
  obtain⟨q1,c1,e1⟩:=hs x q (l.flatMap g++r) (hq x aYX) hc;obtain⟨q2,c2,e2⟩:=wE hs l q1 r (fun y hy=>hq y (aYE _ hy)) c1;refine⟨q2,c2,?_⟩;rw[List.flatMap_cons,aY3,e1,e2]
def aHT(u:Run):Prop:=vld u.1=true∧u.1≠[]∧n8 u.2.1.1≤6∧vld u.2.2=true
theorem aP2(u:Run) (q:Nd) (r:List Nd) (h:aHT u) (hc:3≤oE q):∃q',3≤oE q'∧ckE (some q) (runN u++r)=ckE (some q') r:=by
 obtain⟨h1,h2,h3,h4⟩:=h
 have he:elE (elQ 3 [114,117,110] (kL u))=0:=by
  refine wD (by rfl) (by simp[kL]) (IT u) fun a ha=>?_
  simp only[kL,aZ4,List.not_mem_nil,or_false] at ha;rcases ha with rfl|rfl|rfl|rfl
  ·exact⟨by rfl,aHR _ h3⟩
  ·exact⟨by rfl,FC _⟩
  ·exact⟨by rfl,FC _⟩
  ·exact⟨by rfl,h4⟩
 have e1:runN u++r=elQ 3 [114,117,110] (kL u)::(([],u.1,[],4):Nd)::r:=rfl
 have d3:dep (elQ 3 [114,117,110] (kL u))=3:=rfl
 have d4:dep (([],u.1,[],4):Nd)=4:=rfl
 have c4:oE (elQ 3 [114,117,110] (kL u))=4:=rfl
 refine⟨([],u.1,[],4),by show(3:Int)≤4; omega,?_⟩;rw[e1,rY (X8 (by omega) (by omega) (by omega) (by show [114,117,110]≠[]; simp) he),rY (aWU (by omega) (by omega) (by omega) (by show [114,117,110]≠[]; simp) rfl h2 rfl h1)]
theorem aP3(l:Row) (q:Nd) (r:List Nd) (h:∀u∈l,aHT u) (hc:2≤oE q):∃q',2≤oE q'∧ckE (some q) (rowN l++r)=ckE (some q') r:=by
 have he:elE (elQ 2 [114,111,119] [])=0:=wD (by rfl) (by simp) (by simp) fun a ha=>by cases ha
 have e1:rowN l++r=elQ 2 [114,111,119] []::(l.flatMap runN++r):=rfl
 have d2:dep (elQ 2 [114,111,119] [])=2:=rfl
 have c3:oE (elQ 2 [114,111,119] [])=3:=rfl
 obtain⟨q',c',e'⟩:=wE (Q:=aHT) (g:=runN) (c:=3) aP2 l (elQ 2 [114,111,119] []) r h (by omega);refine⟨q',by omega,?_⟩;rw[e1,rY (X8 (by omega) (by omega) (by omega) (by show [114,111,119]≠[]; simp) he),e']
structure EvV (e:Ev):Prop where
 id:1≤e.1∧e.1≤1099511627776
 sp:0≤e.2.1.1∧e.2.1.1≤5184000∧0≤e.2.1.2∧e.2.1.2≤5184000
 rg:vld e.2.2.1=true
 sk:vld e.2.2.2.2.1=true
 co:∀l∈e.2.2.2.2.2,∀u∈l,aHT u
theorem aL0{s:Ln}(h:∀c∈s,32≤n8 c∧n8 c≤126):vld (s++[102])=true:=kW _ fun c hc=>by
 rw[aZN,aYZ] at hc;rcases hc with hc|rfl
 ·exact h c hc
 ·decide
theorem aWV(e:Ev) (q:Nd) (r:List Nd) (h:EvV e) (hc:1≤oE q):∃q',1≤oE q'∧ckE (some q) (evN e++r)=ckE (some q') r:=by
 obtain⟨i1,i2⟩:=h.id;obtain⟨s1,s2,s3,s4⟩:=h.sp
 have he:elE (elQ 1 [112] (evA e))=0:=by
  refine wD (by rfl) (by simp[evA]) (VH e) fun a ha=>?_
  simp only[evA,aZ4,List.not_mem_nil,or_false] at ha;rcases ha with rfl|rfl|rfl|rfl|rfl|rfl
  ·exact⟨by rfl,kW _ (kE (by omega) (by omega))⟩
  ·exact⟨by rfl,aL0 (kE (by omega) (by omega))⟩
  ·exact⟨by rfl,aL0 (kE (by omega) (by omega))⟩
  ·exact⟨by rfl,h.rg⟩
  ·exact⟨by rfl,aHO _⟩
  ·exact⟨by rfl,h.sk⟩
 have e1:evN e++r=elQ 1 [112] (evA e)::(e.2.2.2.2.2.flatMap rowN++r):=rfl
 have d1:dep (elQ 1 [112] (evA e))=1:=rfl
 have c2:oE (elQ 1 [112] (evA e))=2:=rfl
 obtain⟨q',c',e'⟩:=wE (Q:=fun l:Row=>∀u∈l,aHT u) (g:=rowN) (c:=2) aP3 e.2.2.2.2.2 (elQ 1 [112] (evA e)) r h.co (by omega);refine⟨q',by omega,?_⟩;rw[e1,rY (X8 (by omega) (by omega) (by omega) (by show [112]≠[]; simp) he),e']
theorem aP4(g:Reg) (q:Nd) (r:List Nd) (h:eA g=0) (hc:1≤oE q):∃q',1≤oE q'∧ckE (some q) (qW g++r)=ckE (some q') r:=by
 obtain⟨q1,q2,q3,q4,q5,q6,q7⟩:=oB h
 have he:elE (elQ 1 [114,101,103,105,111,110] (kM g))=0:=by
  refine wD (by rfl) (by simp[kM]) (IU g) fun a ha=>?_
  simp only[kM,aZ4,List.not_mem_nil,or_false] at ha;rcases ha with rfl|rfl|rfl|rfl|rfl|rfl|rfl
  ·exact⟨by rfl,PI q1⟩
  ·exact⟨by rfl,kW _ (kE (by omega) (by omega))⟩
  ·exact⟨by rfl,kW _ (kE (by omega) (by omega))⟩
  ·exact⟨by rfl,kW _ (kE (by omega) (by omega))⟩
  ·exact⟨by rfl,kW _ (kE (by omega) (by omega))⟩
  ·exact⟨by rfl,aHQ _⟩
  ·refine⟨by rfl,?_⟩;show vld (if g.2.2.2.2.2.2 then [66,79,84,84,79,77] else [84,79,80])=true;cases g.2.2.2.2.2.2<;>rfl
 have e1:qW g++r=elQ 1 [114,101,103,105,111,110] (kM g)::r:=rfl
 have d1:dep (elQ 1 [114,101,103,105,111,110] (kM g))=1:=rfl
 have c2:oE (elQ 1 [114,101,103,105,111,110] (kM g))=2:=rfl
 refine⟨elQ 1 [114,101,103,105,111,110] (kM g),by omega,?_⟩;rw[e1,rY (X8 (by omega) (by omega) (by omega) (by show [114,101,103,105,111,110]≠[]; simp) he)]
theorem aHU{x:Ev}{rs:List Reg}(hr:∀g∈rs,eA g=0) (h:nT x rs=0):vld x.2.2.1=true∧vld x.2.2.2.2.1=true:=by
 unfold nT at h
 split at h
 ·cases h
 split at h
 ·cases h
 split at h
 ·cases h
 split at h
 ·cases h
 rename_i r hf
 split at h
 ·cases h
 split at h
 ·cases h
 rename_i hk;constructor
 ·by_cases e:x.2.2.1=[]
  ·rw[e]; rfl
  ·unfold GW at hf;rw[if_neg e] at hf
   have h1:=List.find?_some hf
   have h2:=List.mem_of_find?_eq_some hf
   have h3:r.1=x.2.2.1:=by simpa using h1
   rw[←h3];exact PI (oB (hr r h2)).1
 ·by_cases e:x.2.2.2.2.1=[]
  ·rw[e]; rfl
  ·refine PI ?_
   cases hn:nm x.2.2.2.2.1 with
   |true=>rfl
   |false=>exact absurd ⟨e,hn⟩ hk
theorem aP5{d:Doc}(h:cH d=0):∀e∈d.2.2.2.2.2.2.1,EvV e:=fun e he=>by
 obtain⟨h1,h2,h3⟩:=lD h
 have hc:=OL h3 e he
 obtain⟨q1,q2,q3,q4,q5,q6,_⟩:=aFU hc;obtain⟨n1,n2⟩:=aHU (yZ h).reg hc;exact⟨⟨q1,q2⟩,⟨q3.1,by omega,by omega,q3.2.2⟩,n1,n2,fun l hl u hu=>(xS (UI (q6 l hl))).2 u hu⟩
theorem X9{d:Doc}(h:cH d=0) (h8:(jG d).length≤8192):qX (jG d)=0:=by
 obtain⟨h1,h2,h3,h4⟩:=FB (lD h).1;obtain⟨l1,l2⟩:=EF h
 have he:elE (elQ 0 [116,116] (mA d))=0:=by
  refine wD (by rfl) (by simp[mA]) (VI d) fun a ha=>?_
  simp only[mA,aZ4,List.not_mem_nil,or_false] at ha;rcases ha with rfl|rfl|rfl|rfl|rfl
  ·exact⟨by rfl,h1⟩
  ·refine⟨by rfl,?_⟩;rcases h3 with e|e
   ·show vld d.2.1=true;rw[e]; rfl
   ·exact PI e
  ·exact⟨by rfl,aHP _⟩
  ·exact⟨by rfl,FC _⟩
  ·exact⟨by rfl,kW _ (kE (by omega) (by omega))⟩
 have e0:jG d=elQ 0 [116,116] (mA d)::(d.2.2.2.2.2.1.flatMap qW++(d.2.2.2.2.2.2.1.flatMap evN++[])):=by
  unfold jG;rw[aZO,aY3];rfl
 have hlen:(jG d).length≠0:=by rw[e0]; simp
 have hroot:ndE none (elQ 0 [116,116] (mA d))=0:=by
  have hd:xY none (elQ 0 [116,116] (mA d))=0:=rfl
  unfold ndE;rw[hd,if_neg (by simp),if_pos (by show [116,116]≠[]; simp),he]
 unfold qX;rw[if_neg hlen,if_neg (by omega),e0,rY hroot];obtain⟨q1,c1,e1⟩:=wE (Q:=fun g:Reg=>eA g=0) (g:=qW) (c:=1) aP4 d.2.2.2.2.2.1 (elQ 0 [116,116] (mA d)) (d.2.2.2.2.2.2.1.flatMap evN++[]) (yZ h).reg (by show(1:Int)≤1; omega);obtain⟨q2,c2,e2⟩:=wE (Q:=EvV) (g:=evN) (c:=1) aWV d.2.2.2.2.2.2.1 q1 [] (aP5 h) c1;rw[e1,e2];rfl
theorem PJ{d:Doc}(h:cH d=0) (h8:(jG d).length≤8192) (hp:(prT [] (jG d)).length≤262144) (hb:bkL wtN (jG d)≤1090000):aA6 fuelH (prT [] (jG d))=some (rA d,[]):=by
 have hk:=X9 h h8
 unfold aA6;rw[aGS (by omega),aB,UW hk hp,aC (by rfl),N9 (aLX hb) (by omega),aB,aWT h hk,aC (by rfl)]
theorem FE{x:Doc}(hb:wtD x≤1048576):eX fuelH x=some true:=by
 have hf:=aJ9 hb
 have hs:=EO hf.wt
 unfold eX;rw[aKF,aB,aC (by rfl),aPQ,aB];generalize aJ8 x=d at *;rw[aCF hf,aB]
 have hcut:((d.1,d.2.1,d.2.2.1,d.2.2.2.1,d.2.2.2.2.1,d.2.2.2.2.2.1,d.2.2.2.2.2.2.1,([]:List Cmt)):Doc)=rA d:=rfl
 rw[hcut]
 by_cases hc:cH d=0
 ·have hen:aCE d=if 8192<(jG d).length then([],9) else EM (jG d):=by
   unfold aCE EQ aGC;rw[if_neg (show ¬cH d≠0 by simpa using hc)]
   by_cases h8:8192<(jG d).length
   ·rw[if_pos h8,if_pos h8]; rfl
   ·rw[if_neg h8,if_neg h8]; rfl
  by_cases h8:8192<(jG d).length
  ·rw[hen,if_pos h8,aD (by rfl),aD (by rfl),dP hs,aB,hc];rfl
  ·have hk:=X9 hc (by omega)
   rw[hen,if_neg h8];unfold EM;rw[if_neg (by simpa using hk)]
   by_cases hl:262144<(prT [] (jG d)).length
   ·rw[if_pos hl,aD (by rfl),aD (by rfl),dP hs,aB,hc];rfl
   ·rw[if_neg hl,aC (by rfl)]
    have hbk:=W0 (yZ hc) hf
    have hcc:=X7 hc
    have hsm:tW (rA d):=⟨hs.1,hs.2.1,hs.2.2.1,fun c hc=>by cases hc⟩
    have hth:=X0 hcc (by simp[rA])
    have hred:aKE (rA d)=rA d:=by unfold aKE; rw[if_neg (by simpa using hcc)]; rfl
    dsimp only;rw[PJ hc (by omega) (by omega) hbk,aB,aD (by rfl)];dsimp only;rw[IM hth rfl,aB,aD rfl,aCJ hsm (by simp[rA]),aB,hred,IM hth rfl,aB]
 ·have hen:aCE d=([],cH d):=by
   unfold aCE EQ;rw[if_pos hc];exact if_pos hc
  rw[hen,aD (cA hc),aD (by rfl),dP hs,aB,aD (dJ rfl)]
end
end Go.Mo
end
