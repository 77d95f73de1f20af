/-
  Texts put together, in build order: W30 W31 W32 W33 W34 W35 WG WO WD.
-/
import Derived.Test.YtpblmlldkpkomaaGreatDoorYeB
import Derived.Lib.MakeNoZero
import Derived.Lib.Bytealg
import Derived.Lib.Builder
import Derived.Laws.Externs
import Derived.Lib.ParseIntB
import Derived.Lib.ValidU
import Derived.Lib.IndexMore
import Derived.Lib.ItoaNum
import Derived.Lib.LaidTab
import Derived.Lib.IndexAny
import Derived.Lib.Replace
import Derived.Lib.SlTrimSet
import Derived.ProofKit
import Derived.Deep.Slices
import Derived.Deep.Fields
import Derived.ChangeSame
import Derived.Below
import Derived.Carry
import Derived.OpenShut
import Derived.LaidMore
import Derived.Stop.Joined
set_option linter.all false

section
namespace Go.W
open Go Go.RowKit
structure Vok (s:ASt):Prop where
 sl:∀x v sv,lk s.sl x=some (v,sv)→v<s.tm
 ob:∀j v o,lk s.ob j=some (v,o)→v<s.tm∧j<s.tm
theorem Vok.apply{s:ASt}(h:Vok s) (o:Oper) (out:Out):Vok (apply s o out):=by
 have htm:(W.apply s o out).tm=s.tm+(out.new.length+1):=by simp[W.apply,cR]
 refine⟨fun x v sv hx=>?_,fun j v ob hj=>?_⟩
 ·rw[htm]
  cases hd:o.dst with
  |none=>simp only[W.apply,hd] at hx; have:=h.sl x v sv hx; omega
  |some d =>
   simp only[W.apply,hd,oX] at hx
   split at hx
   ·injection hx with hx; injection hx with e1 _; omega
   ·have:=h.sl x v sv hx; omega
 ·rw[htm];simp only[W.apply] at hj;rw[mD] at hj
  cases hl:lk (sW s.tm out.upd s.ob) j with
  |some e =>
   rw[hl] at hj;injection hj with hj;subst hj;rcases mX s.tm out.upd s.ob j with h1|⟨⟨o',h1⟩,h2⟩
   ·rw[h1] at hl; have:=h.ob j v ob hl; omega
   ·obtain⟨⟨v',ob'⟩,h2⟩:=Option.isSome_iff_exists.1 h2
    have:=h.ob j v' ob' h2
    rw[h1] at hl; injection hl with hl; injection hl with hl _; omega
  |none =>
   rw[hl] at hj
   have:=vI _ _ _ _ _ hj
   simp only at this;omega
theorem Vok.setS{s:ASt}(h:Vok s) (g:Nat) (b:Bool):Vok (setS s g b):=by
 refine⟨fun x v sv hx=>?_,fun j v ob hj=>?_⟩
 ·simp only[W.setS,oX] at hx ⊢
  split at hx
  ·injection hx with hx; injection hx with e1 _; omega
  ·have:=h.sl x v sv hx; omega
 ·have:=h.ob j v ob hj; simp only[W.setS]; omega
def aEA{α:Type}(E:Env) (ops os:List Oper) (s:ASt) (log:List Lg) (k:ASt→Option α) (r:α):Prop :=
 ∃rs s',rs.map Rc.o=os∧k s'=some r∧aAR ops (log++rs.map Rc.lg)=true∧xZ E ops (gY s) (obs s) s.tm rs∧Ext s s'∧Vok s'∧gY s'=rs.foldl stepS (gY s)∧obs s'=rs.foldl stepO (obs s)∧∀q∈rs,q.tk+q.out.new.length<s'.tm
section
variable {E:Env} {α:Type} {r:α}
theorem qP(hE:EnvOk E){tab:List Con}(htab:jQ E tab){ops:List Oper}:∀(os:List Oper){s:ASt}{log:List Lg}{k:ASt→Option α},mU E tab ops os s log k=some r→Vok s→aEA E ops os s log k r
 | [],s,log,k,h,hv=>by
  obtain⟨h1,h2⟩:=lO (r:=none) h;exact⟨[],s,rfl,h2,by simpa using h1,True.intro,Ext.refl s,hv,rfl,rfl,fun q hq=>(by cases hq)⟩
 |o::os,s,log,k,h,hv=>by
  have hext:∀ {s:ASt},Vok s→∀out,Ext s (W.apply s o out):=fun hv out=>sC _ o out fun j v ob hj=>(hv.ob j v ob hj).2
  -- the operation is carried out
  have run:∀ {s1:ASt},Vok s1→Ext s s1→gY s1=gY s→obs s1=obs s→aPV E ops (gY s) o→(aC9 E tab s1 o fun s l=>mU E tab ops os s (app log [l]) k)=some r→aEA E ops (o::os) s log k r:=fun {s1} hv1 hx e1 e2 hw h1=>by
   unfold aC9 at h1;rw[DH] at h1;obtain⟨out,h2,hop⟩:=aDR hE htab (fun _=>rfl) h1;obtain⟨hu,h2⟩:=lO (r:=none) h2;rw[DH,fY] at h2;simp only[bR] at h2;obtain⟨rs,s',q1,q2,q3,q4,q5,q6,q7,q8,q9⟩:=qP hE htab os h2 (hv1.apply o out)
   have hob:=HJ (o:=o) (fun j e hj=>(hv1.ob j e.1 e.2 hj).2) hu (CE (pU E s1) (obs s) o)
   have hsf:=DJ s1 o out s1.tm (CE (pU E s1) (obs s) o)
   have htm2:(W.apply s1 o out).tm=s1.tm+out.new.length+1:=by simp[W.apply,cR,aZK]
   rw[hob,hsf,htm2,e1,e2] at q4;rw[hsf,e1] at q7;rw[hob,e2] at q8;refine⟨⟨o,out,s1.tm,CE (pU E s1) (obs s) o⟩::rs,s',by simp[q1],q2,?_,⟨hx.tm,fun p hp=>?_,.inl ⟨hw,?_⟩,q4⟩,(hx.trans (hext hv1 out)).trans q5,q6,q7,q8,fun q hq=>(aZL.1 hq).elim (fun e=>by subst e; have:=q5.tm; rw[htm2] at this; show s1.tm+out.new.length<s'.tm; omega) (q9 q)⟩
   ·rw[←q3,e2]; simp[Rc.lg]
   ·obtain⟨x,hx,hng⟩:=DI hu p hp;obtain⟨v,hv⟩:=DK hx;exact⟨(hv1.ob _ _ _ hv).2,x,by rw[←e2]; exact hx,hng⟩
   ·rw[AX,e1,e2] at hop;show bF E (sX E (gY s)) (aH2 (CE (pU E s1) (obs s) o) (obs s)) s1.tm o out;rw[AX,e1];exact hop
  have skip:∀ {s1:ASt},Vok s1→Ext s s1→gY s1=gY s→obs s1=obs s→aD9 E ops (gY s) o→(QN s1 o fun s l=>mU E tab ops os s (app log [l]) k)=some r→aEA E ops (o::os) s log k r:=fun {s1} hv1 hx e1 e2 hw h1=>by
   unfold QN at h1;rw[fY] at h1;simp only[bR] at h1;obtain⟨rs,s',q1,q2,q3,q4,q5,q6,q7,q8,q9⟩:=qP hE htab os h1 (hv1.apply o ⟨.tup [],[],[]⟩)
   have hob:obs (tG s1 o)=stepO (obs s1) ⟨o,⟨.tup [],[],[]⟩,s1.tm,[]⟩:=HJ (o:=o) (fun j e hj=>(hv1.ob j e.1 e.2 hj).2) rfl []
   have hsf:gY (tG s1 o)=stepS (gY s1) ⟨o,⟨.tup [],[],[]⟩,s1.tm,[]⟩:=DJ s1 o _ s1.tm []
   have htm2:(tG s1 o).tm=s1.tm+0+1:=by simp[tG,W.apply,cR]
   rw[hob,hsf,htm2,e1,e2] at q4;rw[hsf,e1] at q7;rw[hob,e2] at q8;exact⟨⟨o,⟨.tup [],[],[]⟩,s1.tm,[]⟩::rs,s',by simp[q1],q2,by rw[←q3]; simp[Rc.lg,QJ,GP,aAP,app,lng],⟨hx.tm,fun p hp=>(by cases hp),.inr ⟨hw,rfl⟩,q4⟩,(hx.trans (hext hv1 _)).trans q5,q6,q7,q8,fun q hq=>(aZL.1 hq).elim (fun e=>by subst e; have:=q5.tm; rw[htm2] at this; show s1.tm+0<s'.tm; omega) (q9 q)⟩
  simp only[mU] at h
  split at h
  ·rename_i hg;exact run hv (Ext.refl s) rfl rfl (.inl hg) h
  ·rename_i j b hg
   split at h
   ·cases h
   ·rename_i gs hgs
    split at h
    ·rename_i e he;rw[AX] at he
     cases b with
     |true =>
      cases e with
      |true =>
       simp only[cnd,cond_true] at h;rw[fY] at h;exact run (hv.setS gs true) (kB s gs true) (sH he) rfl (.inr ⟨j,true,gs,hg,hgs,he⟩) h
      |false =>
       simp only[cnd,cond_false] at h;rw[fY] at h;exact skip (hv.setS gs false) (kB s gs false) (sH he) rfl ⟨j,true,gs,hg,hgs,.inl he⟩ h
     |false =>
      cases e with
      |true =>
       simp only[cnd,cond_true] at h;rw[fY] at h;exact skip (hv.setS gs true) (kB s gs true) (sH he) rfl ⟨j,false,gs,hg,hgs,.inl he⟩ h
      |false =>
       simp only[cnd,cond_false] at h;rw[fY] at h;exact run (hv.setS gs false) (kB s gs false) (sH he) rfl (.inr ⟨j,false,gs,hg,hgs,he⟩) h
    ·rename_i he;rw[AX] at he;exact skip hv (Ext.refl s) rfl rfl ⟨j,b,gs,hg,hgs,.inr he⟩ h
    ·cases h
end
end Go.W
end

section
namespace Go.W
open Go Go.RowKit
theorem tI{ops:List Oper}{p:List Nat}{o:Oper}{l:Lg}:∀ {xs:List Oper}{asl:List Lg}{i:Nat},lW ops p o l i xs asl=true→∀(q:Nat) (x:Oper) (a:Lg),xs[q]?=some x→asl[q]?=some a→i+q∈p∨xJ ops x o a l=true
 | [],_,_,_,q,x,a,h,_=>by simp at h
 |_::_,[],_,h,q,x,a,_,_=>by simp[lW] at h
 |x0::xs,a0::asl,i,h,q,x,a,h1,h2=>by
  obtain⟨h3,h4⟩:=kC (show aQ (lU i p||xJ ops x0 o a0 l) (lW ops p o l i.succ xs asl) false=true from h)
  cases q with
  |zero =>
   simp only[aXD,Option.some.injEq] at h1 h2;subst h1; subst h2;simp only[Bool.or_eq_true] at h3;rcases h3 with h3|h3
   ·exact .inl (gX.1 h3)
   ·exact .inr h3
  |succ q =>
   have:=tI h4 q x a (by simpa using h1) (by simpa using h2)
   rwa [show i.succ+q=i+(q+1) by omega] at this
theorem RS{ops:List Oper}{ps:List (List Nat)}:∀(rest:List Oper){ls:List Lg}{done:List Oper}{dl:List Lg},QK ops ps rest ls done dl=true→done.length=dl.length→∀(i k:Nat) (x y:Oper) (a b:Lg),i<k→done.length≤k→(done++rest)[i]?=some x→(done++rest)[k]?=some y→(dl++ls)[i]?=some a→(dl++ls)[k]?=some b →
  (∃p,ps[k]?=some p∧i∈p)∨xJ ops x y a b=true
 | [],ls,done,dl,_,hl,i,k,x,y,a,b,_,hk,_,h2,_,_=>by
  have:=(aW6.1 h2).1
  simp at this;omega
 |o::rest,[],done,dl,h,hl,i,k,x,y,a,b,_,hk,_,h2,_,_=>by simp[QK] at h
 |o::rest,l::ls,done,dl,h,hl,i,k,x,y,a,b,hik,hk,h1,h2,h3,h4=>by
  simp only[QK] at h
  split at h
  ·rename_i p hp;rw[xL,cR] at hp;obtain⟨h5,h6⟩:=kC h;rw[bR,bR] at h6
   by_cases hkd:k=done.length
   ·subst hkd;rw[aW5 (aZ0 _)] at h2;rw[hl,aW5 (aZ0 _)] at h4;simp only[aZX,aXD,Option.some.injEq] at h2 h4;subst h2; subst h4;rw[aW7 hik] at h1;rw[aW7 (by omega)] at h3;rcases tI h5 i x a h1 h3 with h7|h7
    ·exact .inl ⟨p,hp,by simpa using h7⟩
    ·exact .inr h7
   ·refine RS rest h6 (by simp[hl]) i k x y a b hik (by simp; omega) ?_ ?_ ?_ ?_
    ·simpa using h1
    ·simpa using h2
    ·simpa using h3
    ·simpa using h4
  ·cases h
end Go.W
end

section
namespace Go.W
open Go Go.RowKit
def yA(ops:List Oper) (D:Nat→Prop):Prop:=∀(k:Nat) (o:Oper),D k→ops[k]?=some o→∀e∈o.after.toList,Region.binds .any e=true→D e.on
theorem qQ{i:Nat}:∀ {l:List Edge},i∈iQ l→∃e∈l,Region.binds .any e=true∧e.on=i
 | [],h=>by simp[iQ] at h
 |e::l,h=>by
  simp only[iQ,aQ] at h
  split at h
  ·rename_i hb;rcases aZL.1 h with h|h
   ·exact⟨e,aYE,hb,h.symm⟩
   ·obtain⟨e',h1,h2⟩:=qQ h;exact⟨e',aXV _ h1,h2⟩
  ·obtain⟨e',h1,h2⟩:=qQ h;exact⟨e',aXV _ h1,h2⟩
theorem KO{i:Nat}:∀ {a b:List Nat},i∈uni a b→i∈a∨i∈b
 | [],b,h=>.inr h
 |x::a,b,h=>by
  simp only[uni,aQ] at h
  split at h
  ·rcases KO h with h|h
   ·exact .inl (aXV _ h)
   ·exact .inr h
  ·rcases KO h with h|h
   ·exact .inl (aXV _ h)
   ·rcases aZL.1 h with h|h
    ·exact .inl (by rw[h]; exact aYE)
    ·exact .inr h
theorem uA{i:Nat}{ps:List (List Nat)}:∀ {es acc:List Nat},i∈CF ps es acc→i∈acc∨i∈es∨∃j∈es,∃l,ps[j]?=some l∧i∈l
 | [],acc,h=>.inl h
 |j::es,acc,h=>by
  have up:∀ {acc':List Nat},(i∈acc'∨i∈es∨∃j∈es,∃l,ps[j]?=some l∧i∈l)→i∈acc'∨i∈j::es∨∃j'∈j::es,∃l,ps[j']?=some l∧i∈l:=fun h=>by
   rcases h with h|h|⟨j',h1,h2⟩
   ·exact .inl h
   ·exact .inr (.inl (aXV _ h))
   ·exact .inr (.inr ⟨j',aXV _ h1,h2⟩)
  simp only[CF,aQ] at h
  split at h
  ·exact up (uA h)
  ·rw[DH] at h;rcases up (uA h) with h|h
   ·rcases KO h with h|h
    ·split at h
     ·rename_i l hl;rw[xL] at hl;exact .inr (.inr ⟨j,aYE,l,hl,h⟩)
     ·cases h
    ·rcases aZL.1 h with h|h
     ·exact .inr (.inl (by rw[h]; exact aYE))
     ·exact .inl h
   ·exact .inr h
theorem DL{ops:List Oper}{D:Nat→Prop}(hD:yA ops D):∀(rest:List Oper){acc:List (List Nat)},(∀(k:Nat) (o:Oper),rest[k]?=some o→ops[acc.length+k]?=some o)→(∀(k:Nat) (p:List Nat),acc[k]?=some p→∀i∈p,D k→D i)→∀(k:Nat) (p:List Nat),(AQ rest acc)[k]?=some p→∀i∈p,D k→D i
 | [],acc,_,hacc,k,p,h=>hacc k p h
 |o::rest,acc,hops,hacc,k,p,h=>by
  simp only[AQ,DH,bR] at h;refine DL hD rest (fun q x hq=>?_) (fun q p' hq i hi hDq=>?_) k p h
  ·have:=hops (q+1) x (by simpa using hq)
   rw[aYA]
   simpa [aZK,aZQ 1] using this
  ·by_cases hql:q<acc.length
   ·rw[aW7 hql] at hq;exact hacc q p' hq i hi hDq
   ·have hq':=(aW6.1 hq).1
    simp at hq'
    have:q=acc.length:=by omega
    subst this;rw[aW5 (aZ0 _)] at hq;simp only[aZX,aXD,Option.some.injEq] at hq;subst hq
    have ho:=hops 0 o rfl
    have dir:∀j∈iQ o.after.toList,D j:=fun j hj=>by
     obtain⟨e,h1,h2,h3⟩:=qQ hj;rw[←h3];exact hD acc.length o hDq (by simpa using ho) e h1 h2
    rcases uA hi with h|h|⟨j,h1,l,h2,h3⟩
    ·cases h
    ·exact dir i h
    ·exact hacc j l h2 i h3 (dir j h1)
end Go.W
end

section
namespace Go.W
open Go Go.RowKit
def num:Nat→List Rc→List (Nat×Rc)
 |_,[]=>[]
 |n,r::rs=>(n,r)::num (n+1) rs
theorem KP{k:Nat}{r:Rc}:∀ {rs:List Rc}{n:Nat},(k,r)∈num n rs↔n≤k∧rs[k-n]?=some r
 | [],n=>by simp[num]
 |x::rs,n=>by
  simp only[num,aZL,Prod.mk.injEq,KP (rs:=rs)];constructor
  ·rintro(⟨rfl,rfl⟩|⟨h1,h2⟩)
   ·simp
   ·refine⟨by omega,?_⟩;rw[show k-n=(k-(n+1))+1 by omega,aXC];exact h2
  ·rintro⟨h1,h2⟩
   by_cases e:k=n
   ·subst e;left;simp at h2;exact⟨rfl,h2.symm⟩
   ·right;rw[show k-n=(k-(n+1))+1 by omega,aXC] at h2;exact⟨by omega,h2⟩
theorem mH{k:Nat}{r:Rc}{rs:List Rc}:(k,r)∈num 0 rs↔rs[k]?=some r:=by
 rw[KP]; simp
theorem YI:∀(rs:List Rc) (n i:Nat),(num n rs).filter (fun p=>decide (p.1<n+i))=num n (rs.take i)
 | [],n,i=>by simp[num]
 |r::rs,n,0=>by
  simp only[num,aZI,List.filter_eq_nil_iff];intro p hp;obtain⟨k,x⟩:=p
  have:=(KP (rs:=r::rs)).1 (by simpa [num] using hp)
  simp;omega
 |r::rs,n,i+1=>by
  simp only[num,aX5];rw[List.filter_cons_of_pos (by simp)];rw[←YI rs (n+1) i];simp only[show n+1+i=n+(i+1) by omega]
theorem yB:∀(rs:List Rc) (n:Nat) (S:SF),qN (num n rs) S=rs.foldl stepS S
 | [],_,_=>rfl
 |r::rs,n,S=>yB rs (n+1) _
theorem yC:∀(rs:List Rc) (n:Nat) (O:Obs),qO (num n rs) O=rs.foldl stepO O
 | [],_,_=>rfl
 |r::rs,n,O=>yC rs (n+1) _
theorem RT(rs:List Rc) (i:Nat) (S:SF):qN ((num 0 rs).filter fun p=>decide (p.1<i)) S=(rs.take i).foldl stepS S:=by
 have:=YI rs 0 i
 simp only[aZS] at this;rw[this,yB]
theorem RU(rs:List Rc) (i:Nat) (O:Obs):qO ((num 0 rs).filter fun p=>decide (p.1<i)) O=(rs.take i).foldl stepO O:=by
 have:=YI rs 0 i
 simp only[aZS] at this;rw[this,yC]
theorem xZ.at{E:Env}{ops:List Oper}:∀ {rs:List Rc}{S:SF}{O:Obs}{tm:Nat},xZ E ops S O tm rs→∀(i:Nat) (r:Rc),rs[i]?=some r →
  tm≤r.tk∧(∀p∈r.out.upd,p.1<r.tk∧∃o,(rs.take i).foldl stepO O p.1=some o∧o≠.gone)∧aK2 E ops ((rs.take i).foldl stepS S) ((rs.take i).foldl stepO O) r
 | [],_,_,_,_,i,r,h=>by simp at h
 |x::rs,S,O,tm,⟨h1,h2,h3,h4⟩,i,r,h=>by
  cases i with
  |zero =>
   simp only[aXD,Option.some.injEq] at h;subst h;exact⟨h1,h2,h3⟩
  |succ i =>
   have:=xZ.at h4 i r (by simpa using h)
   exact⟨by omega,this.2.1,this.2.2⟩
theorem xZ.lt{E:Env}{ops:List Oper}:∀ {rs:List Rc}{S:SF}{O:Obs}{tm:Nat},xZ E ops S O tm rs→∀(i k:Nat) (r q:Rc),i<k→rs[i]?=some r→rs[k]?=some q→r.tk+r.out.new.length<q.tk
 | [],_,_,_,_,i,k,r,q,_,h,_=>by simp at h
 |x::rs,S,O,tm,⟨h1,h2,h3,h4⟩,i,k,r,q,hik,hi,hk=>by
  obtain⟨k,rfl⟩:∃m,k=m+1:=⟨k-1,by omega⟩;rw[aXC] at hk
  cases i with
  |zero =>
   simp only[aXD,Option.some.injEq] at hi;subst hi
   have:=(xZ.at h4 k q hk).1
   omega
  |succ i=>exact xZ.lt h4 i k r q (by omega) (by simpa using hi) hk
theorem RV{n:Nat}:∀ {l:List Nat},QM n l=true→∀i∈l,i<n
 | [],_,i,hi=>by cases hi
 |j::l,h,i,hi=>by
  obtain⟨h1,h2⟩:=kC (show aQ (Nat.blt j n) (QM n l) false=true from h);rcases aZL.1 hi with rfl|hi
  ·exact aXL h1
  ·exact RV h2 i hi
theorem qR{e:Edge}:∀ {l:List Edge},e∈l→Region.binds .any e=true→e.on∈iQ l
 | [],h,_=>by cases h
 |x::l,h,hb=>by
  simp only[iQ];rcases aZL.1 h with rfl|h
  ·rw[hb]; exact aYE
  ·cases Region.binds .any x with
   |true=>exact aXV _ (qR h hb)
   |false=>exact qR h hb
theorem HK:∀ {ops:List Oper}{n:Nat},JX n ops=true→∀(k:Nat) (o:Oper),ops[k]?=some o→∀e∈o.after.toList,Region.binds .any e=true→e.on<n+k
 | [],_,_,k,o,h=>by simp at h
 |x::ops,n,h,k,o,hk=>by
  obtain⟨h1,h2⟩:=kC (show aQ (QM n (iQ x.after.toList)) (JX n.succ ops) false=true from h)
  cases k with
  |zero =>
   simp only[aXD,Option.some.injEq] at hk;subst hk;exact fun e he hb=>by have:=RV h1 _ (qR he hb); omega
  |succ k=>exact fun e he hb=>by have:=HK h2 k o (by simpa using hk) e he hb; omega
theorem oY:∀ {l m:List Nat},JW l m=true→∀x,x∈l→x∈m→False
 | [],_,_,x,h,_=>by cases h
 |y::l,m,h,x,hx,hm=>by
  simp only[JW] at h
  cases hy:lU y m with
  |true=>rw[hy] at h; cases h
  |false =>
   rw[hy] at h;rcases aZL.1 hx with rfl|hx
   ·rw[gX.2 hm] at hy; cases hy
   ·exact oY h x hx hm
structure Free (ops:List Oper) (x y:Rc):Prop where
 dr:∀d,x.o.dst=some d→d∈lA ops y.o→False
 rd:∀d,y.o.dst=some d→d∈lA ops x.o→False
 dd:∀d,x.o.dst=some d→y.o.dst=some d→False
 wt:∀j,x.touch j=true→j∈y.T→False
 tw:∀j,y.touch j=true→j∈x.T→False
 ww:∀j,x.touch j=true→y.touch j=true→False
theorem Free.of{ops:List Oper}{x y:Rc}(h:xJ ops x.o y.o x.lg y.lg=true):Free ops x y:=by
 unfold xJ at h;simp only[aYS] at h;obtain⟨⟨⟨⟨⟨h1,h2⟩,h3⟩,h4⟩,h5⟩,h6⟩:=h
 have hd:∀ {r:Rc} {d:Nat},r.o.dst=some d→d∈aAQ r.o:=fun e=>by unfold aAQ; rw[e]; exact aYE
 exact⟨fun d e h=>oY h1 d (hd e) h,fun d e h=>oY h2 d (hd e) h,fun d e e'=>oY h3 d (hd e) (hd e'),fun j e h=>oY h4 j (gX.1 e) h,fun j e h=>oY h5 j (gX.1 e) h,fun j e e'=>oY h6 j (gX.1 e) (gX.1 e')⟩
theorem aK3{ops:List Oper}{rs:List Rc}(hops:rs.map Rc.o=ops) (h:aAR ops (rs.map Rc.lg)=true){D:Nat→Prop}(hD:yA ops D){i k:Nat}{x y:Rc}(hik:i<k) (hi:rs[i]?=some x) (hk:rs[k]?=some y):(D k→D i)∨Free ops x y:=by
 obtain⟨_,h2⟩:=kC h
 have e1:ops[i]?=some x.o:=by rw[←hops]; simp[hi]
 have e2:ops[k]?=some y.o:=by rw[←hops]; simp[hk]
 rcases RS ops h2 rfl i k x.o y.o x.lg y.lg hik (aZ1 _) (by simpa using e1) (by simpa using e2) (by simp[hi]) (by simp[hk]) with⟨p,h3,h4⟩|h3
 ·left;exact DL hD ops (fun k o h=>by simpa using h) (fun k p h=>by simp at h) k p h3 i h4
 ·exact .inr (Free.of h3)
end Go.W
end

section
namespace Go.W
open Go Go.RowKit
def SDf(rs:List Rc) (S:SF) (D:Nat→Bool):SF:=qN ((num 0 rs).filter fun p=>D p.1) S
def ODf(rs:List Rc) (O:Obs) (D:Nat→Bool):Obs:=qO ((num 0 rs).filter fun p=>D p.1) O
section
variable {E:Env} {N:Nat} {w0:World} {K0:Kn} {H:Nat→Prop} {G:Ghs} {ops:List Oper} {rs:List Rc} {D D':Nat→Bool} {i:Nat} {r:Rc} {S0:SF} {O0:Obs} {tm0:Nat}
structure Nx (ops:List Oper) (rs:List Rc) (D D':Nat→Bool) (i:Nat) (r:Rc):Prop where
 hops:rs.map Rc.o=ops
 chk:aAR ops (rs.map Rc.lg)=true
 cl:yA ops (fun k=>D k=true)
 cl':yA ops (fun k=>D' k=true)
 at_:rs[i]?=some r
 no:D i=false
 self:D' i=true
 oth:∀k,k≠i→D' k=D k
theorem Nx.agree(h:Nx ops rs D D' i r){k:Nat}{q:Rc}(hk:rs[k]?=some q) (h1:¬Free ops q r) (h2:¬Free ops r q):D k=decide (k<i):=by
 rcases Nat.lt_trichotomy k i with hki|rfl|hki
 ·rcases aK3 h.hops h.chk h.cl' hki hk h.at_ with h3|h3
  ·have:=h3 h.self
   rw[h.oth k (by omega)] at this;rw[this]; simp[hki]
  ·exact absurd h3 h1
 ·rw[h.no]; simp
 ·rcases aK3 h.hops h.chk h.cl hki h.at_ hk with h3|h3
  ·have:D k=false:=by
    cases hd:D k with
    |false=>rfl
    |true=>have:=h3 hd; rw[h.no] at this; cases this
   rw[this]; simp; omega
  ·exact absurd h3 h2
theorem yD{q:Rc}{x:Nat}:q.wr x=true↔q.o.dst=some x:=by unfold Rc.wr; simp
theorem Nx.reads(h:Nx ops rs D D' i r) (S:SF){x:Nat}(hx:x∈lA ops r.o):SDf rs S D x=(rs.take i).foldl stepS S x:=by
 rw[←RT];refine tY (g:=fun k=>decide (k<i)) fun p hp hw=>?_
 have hp:=mH.1 (show(p.1,p.2)∈num 0 rs from hp)
 exact h.agree hp (fun hf=>hf.dr x (yD.1 hw) hx) (fun hf=>hf.rd x (yD.1 hw) hx)
theorem Nx.sees(h:Nx ops rs D D' i r) (O:Obs){j:Nat}(hx:j∈r.T∨r.touch j=true):ODf rs O D j=(rs.take i).foldl stepO O j:=by
 rw[←RU];refine tZ (g:=fun k=>decide (k<i)) fun p hp hw=>?_
 have hp:=mH.1 (show(p.1,p.2)∈num 0 rs from hp)
 rcases hx with hx|hx
 ·exact h.agree hp (fun hf=>hf.wt j hw hx) (fun hf=>hf.tw j hw hx)
 ·exact h.agree hp (fun hf=>hf.ww j hw hx) (fun hf=>hf.ww j hx hw)
theorem HM(h:rs[i]?=some r):rs.take (i+1)=rs.take i++[r]:=by
 rw[List.take_add_one,h]; rfl
theorem Nx.stepS(h:Nx ops rs D D' i r) (S:SF):SDf rs S D'=stepS (SDf rs S D) r:=by
 funext x
 cases hw:r.wr x with
 |true =>
  have e1:SDf rs S D' x=(rs.take (i+1)).foldl W.stepS S x:=by
   rw[←RT];refine tY (g:=fun k=>decide (k<i+1)) fun p hp hw'=>?_
   have hp:=mH.1 (show(p.1,p.2)∈num 0 rs from hp)
   by_cases e:p.1=i
   ·rw[e,h.self]; simp
   ·rw[h.oth _ e,h.agree hp (fun hf=>hf.dd x (yD.1 hw') (yD.1 hw)) (fun hf=>hf.dd x (yD.1 hw) (yD.1 hw'))];simp only[decide_eq_decide]; omega
  rw[e1,HM h.at_,List.foldl_append];exact aD7 hw
 |false =>
  rw[RQ hw];refine tY fun p hp hw'=>?_
  have hp:=mH.1 (show(p.1,p.2)∈num 0 rs from hp)
  refine h.oth _ fun e=>?_
  rw[e,h.at_] at hp;injection hp with hp;rw[←hp,hw] at hw'; cases hw'
theorem Nx.stepO(h:Nx ops rs D D' i r) (O:Obs):ODf rs O D'=stepO (ODf rs O D) r:=by
 funext x
 cases hw:r.touch x with
 |true =>
  have e1:ODf rs O D' x=(rs.take (i+1)).foldl W.stepO O x:=by
   rw[←RU];refine tZ (g:=fun k=>decide (k<i+1)) fun p hp hw'=>?_
   have hp:=mH.1 (show(p.1,p.2)∈num 0 rs from hp)
   by_cases e:p.1=i
   ·rw[e,h.self]; simp
   ·rw[h.oth _ e,h.agree hp (fun hf=>hf.ww x hw' hw) (fun hf=>hf.ww x hw hw')];simp only[decide_eq_decide]; omega
  rw[e1,HM h.at_,List.foldl_append];exact aD8 hw
 |false =>
  rw[vT hw];refine tZ fun p hp hw'=>?_
  have hp:=mH.1 (show(p.1,p.2)∈num 0 rs from hp)
  refine h.oth _ fun e=>?_
  rw[e,h.at_] at hp;injection hp with hp;rw[←hp,hw] at hw'; cases hw'
structure DR (E:Env) (N:Nat) (w0:World) (K0:Kn) (H:Nat→Prop) (G:Ghs) (S0:SF) (O0:Obs) (tm0:Nat) (rs:List Rc) (D:Nat→Bool) (γ:Ghs) (K:Kn) (a:Act) (w:World):Prop where
 size:a.tmps.size=N
 defers:a.defers=[]
 slots:∀x sv,SDf rs S0 D x=some sv→aV γ K sv (a.tmps.getD x undef)
 hp:Hp w0 K0 H γ (ODf rs O0 D) K w
 glob:eU E K
 tok:∀j g,γ j=some g→j<tm0∨∃k q,rs[k]?=some q∧D k=true∧q.tk≤j∧j<q.tk+q.out.new.length
 hvW:∀j g,γ j=some g→g.hv<tm0∨∃k q,rs[k]?=some q∧D k=true∧g.hv≤q.tk
 hvS:∀j g o,γ j=some g→ODf rs O0 D j=some o→o≠.gone→g.hv<tm0∨∃k q,rs[k]?=some q∧D k=true∧q.touch j=true∧g.hv≤q.tk
 all:∀j o,ODf rs O0 D j=some o→∃g,γ j=some g
 fix:Ghs.le G γ
theorem eG.hv_eq{γ γ':Ghs}{K K':Kn}{w w':World}{g g':Gh}{o:Ob}(hng:o≠.gone) (h:eG γ K w g o) (h':eG γ' K' w' g' o):g'.hv=g.hv:=by
 cases o with
 |box ti cs=>obtain⟨_,_,e,_⟩:=h; obtain⟨_,_,e',_⟩:=h'; rw[e,e']
 |row hv t xs=>obtain⟨e,_⟩:=h; obtain⟨e',_⟩:=h'; rw[e,e']
 |frz hv t xs=>obtain⟨e,_⟩:=h; obtain⟨e',_⟩:=h'; rw[e,e']
 |iter s p=>obtain⟨_,e,_⟩:=h; obtain⟨_,e',_⟩:=h'; rw[e,e']
 |map kt vt es=>obtain⟨_,_,_,e,_⟩:=h; obtain⟨_,_,_,e',_⟩:=h'; rw[e,e']
 |opn hv t xs cs=>obtain⟨e,_⟩:=h; obtain⟨e',_⟩:=h'; rw[e,e']
 |gone=>exact absurd rfl hng
theorem Nx.D_le(h:Nx ops rs D D' i r){k:Nat}(hk:D k=true):D' k=true:=by
 rw[h.oth k fun e=>by subst e; rw[h.no] at hk; cases hk]; exact hk
variable {γ:Ghs} {K:Kn} {a:Act} {w:World}
theorem DR.fresh(hR:DR E N w0 K0 H G S0 O0 tm0 rs D γ K a w) (h:Nx ops rs D D' i r) (ht:xZ E ops S0 O0 tm0 rs) (m:Nat) (hm:m<r.out.new.length):γ (r.tk+m)=none:=by
 cases hg:γ (r.tk+m) with
 |none=>rfl
 |some g =>
  have h0:=(ht.at i r h.at_).1
  rcases hR.tok _ g hg with h1|⟨k,q,h1,h2,h3,h4⟩
  ·omega
  ·rcases Nat.lt_trichotomy k i with hki|rfl|hki
   ·have:=ht.lt k i q r hki h1 h.at_; omega
   ·rw[h.no] at h2; cases h2
   ·have:=ht.lt i k r q hki h.at_ h1; omega
theorem DR.updHv(hR:DR E N w0 K0 H G S0 O0 tm0 rs D γ K a w) (h:Nx ops rs D D' i r) (ht:xZ E ops S0 O0 tm0 rs):∀p∈r.out.upd,∀g,γ p.1=some g→g.hv<r.tk:=fun p hp g hg=>by
 obtain⟨h0,h1,_⟩:=ht.at i r h.at_;obtain⟨_,o,ho,hng⟩:=h1 p hp
 have htch:r.touch p.1=true:=jM.2 (.inl ⟨p,hp,rfl⟩)
 rw[←h.sees O0 (.inr htch)] at ho;rcases hR.hvS _ g o hg ho hng with h2|⟨k,q,h2,h3,h4,h5⟩
 ·omega
 ·have:=h.agree h2 (fun hf=>hf.ww _ h4 htch) (fun hf=>hf.ww _ htch h4)
  rw[h3] at this
  have hki:k<i:=of_decide_eq_true this.symm
  have:=ht.lt k i q r hki h2 h.at_
  omega
theorem DR.step(hR:DR E N w0 K0 H G S0 O0 tm0 rs D γ K a w) (h:Nx ops rs D D' i r) (ht:xZ E ops S0 O0 tm0 rs) (hd:∀d,r.o.dst=some d→d<N){v:Value}{γ':Ghs}{K':Kn}{w':World}(hs:Step w0 K0 H γ (ODf rs O0 D) K r.tk r.out v γ' K' w'):DR E N w0 K0 H G S0 O0 tm0 rs D' γ' K' (a.put r.o.dst v) w':=by
 have hO:ODf rs O0 D'=jY r.tk r.out.new (eL r.out.upd (ODf rs O0 D)):=h.stepO O0
 have hhp:Hp w0 K0 H γ' (ODf rs O0 D') K' w':=by rw[hO]; exact hs.hp
 have hup:∀j,(∃p∈r.out.upd,p.1=j)→∃o,ODf rs O0 D j=some o∧o≠.gone:=fun j hj=>by
  obtain⟨p,hp,rfl⟩:=hj;obtain⟨_,o,ho,hng⟩:=(ht.at i r h.at_).2.1 p hp;exact⟨o,by rw[h.sees O0 (.inr (jM.2 (.inl ⟨p,hp,rfl⟩)))]; exact ho,hng⟩
 refine⟨?_,?_,?_,hhp,hR.glob.mono hs.kle,?_,?_,?_,?_,?_⟩
 ·cases hdd:r.o.dst<;>simp[Act.put,hR.size]
 ·cases hdd:r.o.dst<;>simp[Act.put,hR.defers]
 ·intro x sv hx;rw[h.stepS S0] at hx
  cases hdd:r.o.dst with
  |none =>
   simp only[W.stepS,hdd] at hx
   simpa [Act.put] using (hR.slots x sv hx).mono hs.gle hs.kle
  |some d =>
   simp only[W.stepS,hdd] at hx
   by_cases e:x=d
   ·subst e;rw[aK] at hx;injection hx with hx;subst hx;rw[tH (by rw[hR.size]; exact hd x hdd)]; exact hs.sv
   ·rw[bC _ _ e] at hx;rw[zS e]; exact(hR.slots x sv hx).mono hs.gle hs.kle
 ·intro j g hg
  have old:(∃g,γ j=some g)→j<tm0∨∃k q,rs[k]?=some q∧D' k=true∧q.tk≤j∧j<q.tk+q.out.new.length:=fun ⟨g,hg⟩=>by
   rcases hR.tok j g hg with h1|⟨k,q,h1,h2,h3⟩
   ·exact .inl h1
   ·exact .inr ⟨k,q,h1,h.D_le h2,h3⟩
  rcases hs.new j g hg with h1|⟨_,h1|h1⟩
  ·exact old ⟨_,h1⟩
  ·exact old h1
  ·exact .inr ⟨i,r,h.at_,h.self,h1⟩
 ·intro j g hg;rcases hs.new j g hg with h1|⟨h1,_⟩
  ·rcases hR.hvW j g h1 with h1|⟨k,q,h1,h2,h3⟩
   ·exact .inl h1
   ·exact .inr ⟨k,q,h1,h.D_le h2,h3⟩
  ·exact .inr ⟨i,r,h.at_,h.self,h1⟩
 ·intro j g o hg ho hng
  have old:∀o,γ j=some g→ODf rs O0 D j=some o→o≠.gone→g.hv<tm0∨∃k q,rs[k]?=some q∧D' k=true∧q.touch j=true∧g.hv≤q.tk:=fun o hg ho hng=>by
   rcases hR.hvS j g o hg ho hng with h1|⟨k,q,h1,h2,h3⟩
   ·exact .inl h1
   ·exact .inr ⟨k,q,h1,h.D_le h2,h3⟩
  cases htc:r.touch j with
  |true =>
   rcases hs.new j g hg with h1|⟨h1,_⟩
   ·rcases jM.1 htc with h2|⟨m,h2,h3⟩
    ·obtain⟨o',ho',hng'⟩:=hup j h2;exact old o' h1 ho' hng'
    ·have:=hR.fresh h ht m h2
     rw[←h3,h1] at this; cases this
   ·exact .inr ⟨i,r,h.at_,h.self,htc,h1⟩
  |false =>
   have ho':ODf rs O0 D j=some o:=by rw[h.stepO O0,vT htc] at ho; exact ho
   rcases hs.new j g hg with h1|⟨_,⟨g0,h1⟩|h1⟩
   ·exact old o h1 ho' hng
   ·have e:=eG.hv_eq hng (hR.hp.ok j o g0 ho' h1) (hhp.ok j o g ho hg)
    rcases hR.hvS j g0 o h1 ho' hng with h2|⟨k,q,h2,h3,h4,h5⟩
    ·exact .inl (by omega)
    ·exact .inr ⟨k,q,h2,h.D_le h3,h4,by omega⟩
   ·have:=jM.2 (.inr ⟨j-r.tk,by omega,by omega⟩:(∃p∈r.out.upd,p.1=j)∨(∃i,i<r.out.new.length∧j=r.tk+i))
    rw[htc] at this; cases this
 ·intro j o ho
  have le:(∃g,γ j=some g)→∃g,γ' j=some g:=fun ⟨g,hg⟩=>by obtain⟨g',h1,_⟩:=hs.gle j g hg; exact⟨g',h1⟩
  cases htc:r.touch j with
  |true =>
   rcases jM.1 htc with h2|⟨m,h2,h3⟩
   ·obtain⟨o',ho',_⟩:=hup j h2;exact le (hR.all j o' ho')
   ·rw[h3]; exact hs.made m h2
  |false =>
   rw[h.stepO O0,vT htc] at ho;exact le (hR.all j o ho)
 ·intro j g hg;exact(hR.fix.trans hs.gle) j g hg
end
end Go.W
end

section
namespace Go.W
open Go Go.RowKit
theorem DM{t:Nat}:∀ {l:List Operand},Operand.tmp t∈l→t∈tP l
 | [],h=>by cases h
 |x::l,h=>by
  rcases aZL.1 h with h|h
  ·subst h; exact aYE
  ·have:=DM h
   cases x<;>simp only[tP]
   case tmp=>exact aXV _ this
   all_goals exact this
theorem aEB{ops:List Oper}{o:Oper}{t:Nat}(h:Operand.tmp t∈o.op.operands.toList):t∈lA ops o:=by
 have:=DM h
 unfold lA
 split
 ·exact this
 ·split
  ·exact aXV _ this
  ·exact this
theorem RW{ops:List Oper}{o:Oper}{j g:Nat}{b:Bool}(h:o.guard=some (j,b)) (hg:uY ops j=some g):g∈lA ops o:=by
 unfold lA;rw[h];simp only[hg];exact aYE
section
variable {E:Env} {N:Nat} {w0:World} {K0:Kn} {H:Nat→Prop} {G:Ghs} {ops:List Oper} {rs:List Rc} {D D':Nat→Bool} {i:Nat} {r:Rc} {S0:SF} {O0:Obs} {tm0:Nat} {γ:Ghs} {K:Kn} {a:Act} {w:World}
theorem DR.get(hR:DR E N w0 K0 H G S0 O0 tm0 rs D γ K a w) (x:Operand):aV γ K (sX E (SDf rs S0 D) x) (a.eval x):=by
 cases x with
 |tmp t =>
  simp only[sX,Act.eval]
  cases hl:SDf rs S0 D t with
  |none=>exact True.intro
  |some sv=>exact hR.slots t sv hl
 |const v=>exact R9 v
 |global g =>
  simp only[sX,Act.eval]
  cases hl:lkG E.gl g with
  |none=>exact True.intro
  |some p =>
   obtain⟨T,x⟩:=p;obtain⟨cs,h1,h2,_⟩:=hR.glob.1 g T x hl;exact⟨_,cs,rfl,rfl,h1,fun j u hu=>by simpa using h2 j u hu⟩
 |func f=>exact rfl
theorem U3{S S':SF}{x:Operand}(h:∀t,x=.tmp t→S t=S' t):sX E S x=sX E S' x:=by
 cases x with
 |tmp t=>simp only[sX]; rw[h t rfl]
 |_=>rfl
theorem DR.op{opa:Array Oper}(hR:DR E N w0 K0 H G S0 O0 tm0 rs D γ K a w) (h:Nx opa.toList rs D D' i r) (ht:xZ E opa.toList S0 O0 tm0 rs) (h0:0<tm0) (hd:∀d,r.o.dst=some d→d<N){Q:Exit→Act→World→Prop}{k:Act→World→Prop}
  (hk:∀γ' K' a' w',DR E N w0 K0 H G S0 O0 tm0 rs D' γ' K' a' w'→k a' w'):wpOp E.P opa Q i k a w:=by
 obtain⟨htm,hup,hrun⟩:=ht.at i r h.at_
 have hoi:opa[i]?=some r.o:=by
  rw[←aXM,←h.hops]; simp[h.at_]
 have slot:∀ {j b g v},r.o.guard=some (j,b)→uY opa.toList j=some g→sX E ((rs.take i).foldl stepS S0) (.tmp g)=v→aV γ K v (a.tmps.getD g undef):=fun {j b g v} h1 h2 h3=>by
  have:=hR.get (.tmp g)
  rw[U3 (S':=(rs.take i).foldl stepS S0) (fun t e=>by injection e with e; subst e; exact h.reads S0 (RW h1 h2)),h3] at this;exact this
 unfold wpOp;rw[hoi];simp only;rcases hrun with⟨hw,hop⟩|⟨hw,hout⟩
 ·rw[if_pos]
  ·left;refine hop w0 K0 H γ (ODf rs O0 D) K a w (fun x hx=>?_) (fun j x hj=>?_) hR.hp hR.glob (hR.fresh h ht) (hR.updHv h ht) (by omega) _ _ fun v γ' K' w' hs=>?_
   ·rw[←U3 (S:=SDf rs S0 D) fun t e=>h.reads S0 (aEB (by rw[←e]; exact hx))];exact hR.get x
   ·unfold aH2 aQ at hj
    split at hj
    ·rename_i hm;rw[h.sees O0 (.inl (gX.1 hm))]; exact hj
    ·cases hj
   ·exact hk γ' K' _ w' (hR.step h ht hd hs)
  ·rcases hw with hw|⟨j,b,g,h1,h2,h3⟩
   ·exact zT hw
   ·refine(qK h1 h2).2 ?_
    have:=slot h1 h2 h3
    simpa [aV,bY,aF,aT] using this
 ·rw[if_neg]
  ·refine hk γ K _ w (hR.step h ht hd ?_);rw[hout];exact⟨Ghs.le.refl γ,Kn.le.refl K,⟨[],rfl,rfl⟩,hR.hp,fun _ _ hg=>.inl hg,fun i hi=>absurd hi (aY6 i)⟩
  ·obtain⟨j,b,g,h1,h2,h3⟩:=hw;intro hh
   have hv:=(qK h1 h2).1 hh
   rcases h3 with h3|h3
   ·have:=slot h1 h2 h3
    rw[hv] at this
    have this:[Value.bool b]=[.bool !b]:=this
    injection this with this;injection this with this;cases b<;>cases this
   ·obtain⟨vs,e1,e2⟩:=slot h1 h2 h3;rw[hv] at e1;cases e1
end
theorem HU:∀ {l:List Bool}{i:Nat},l[i]?=some false→(l.set i true).count false+1=l.count false
 | [],i,h=>by simp at h
 |b::l,0,h=>by
  simp only[aXD,Option.some.injEq] at h;subst h;simp
 |b::l,i+1,h=>by
  have:=HU (l:=l) (i:=i) (by simpa using h)
  simp only[List.set_cons_succ,aZB];omega
theorem YJ{l:List Bool}(h:l.count false=0) (i:Nat) (hi:l[i]?=some false):False:=by
  have:=aYH.2 (aXU hi)
  omega
theorem aEC{E:Env}(hE:EnvOk E){tab:List Con}(htab:jQ E tab):KK E tab:=by
 intro N w0 K0 H G id ops s γ K a w α k r Q hdr hd hR hk
 have hv:Vok s:=⟨fun x v sv h=>(hR.slots x v sv h).1,fun j v o h=>hR.obv j v o h⟩
 obtain⟨rs,s',q1,q2,q3,q4,q5,q6,q7,q8,q9⟩:=qP hE htab ops.toList hdr hv;simp only[aZA] at q3
 have hlen:rs.length=ops.size:=by
  have:=congrArg List.length q1
  simpa using this
 have hback:=HK (kC q3).1
 refine wp_region_any hE.mixed ?_
 have start:DR E N w0 K0 H G (gY s) (obs s) s.tm rs (fun k=>(Array.replicate ops.size false).getD k false) γ K a { w with drawn:=w.drawn+1 }:=by
  have hf:∀k,(Array.replicate ops.size false).getD k false=false:=fun k=>by
   rw[aW2]
   by_cases hk:k<ops.size
   ·simp[hk]
   ·simp[Array.getElem?_eq_none,hk]
  have e1:((num 0 rs).filter fun p=>(Array.replicate ops.size false).getD p.1 false)=[]:=by
   rw[List.filter_eq_nil_iff];intro p _;rw[hf]; simp
  have eS:SDf rs (gY s) (fun k=>(Array.replicate ops.size false).getD k false)=gY s:=by unfold SDf; rw[e1]; rfl
  have eO:ODf rs (obs s) (fun k=>(Array.replicate ops.size false).getD k false)=obs s:=by unfold ODf; rw[e1]; rfl
  refine⟨hR.size,hR.defers,fun x sv hx=>?_,?_,hR.glob,fun j g hg=>.inl (hR.tok j g hg).1,fun j g hg=>.inl (hR.tok j g hg).2,fun j g o hg _ _=>.inl (hR.tok j g hg).2,fun j o hj=>?_,hR.fix⟩
  ·rw[eS] at hx;simp only[gY,aXI] at hx;obtain⟨⟨v,sv'⟩,h1,h2⟩:=hx;subst h2;exact(hR.slots x v sv' h1).2
  ·rw[eO]
   have h:=hR.hp
   exact⟨h.os,h.tape,h.output,h.size,h.blk,h.mono,h.kok,fun j o g h1 h2=>(h.ok j o g h1 h2).mono (Ghs.le.refl γ) (Kn.le.refl K) (fun _ _ _=>⟨rfl,fun _=>rfl⟩),h.own,h.sep⟩
  ·rw[eO] at hj;obtain⟨v,hv⟩:=DK hj;exact hR.all j _ hv
 have fin:∀ {listed:Array Bool} {γ:Ghs} {K:Kn} {a:Act} {w:World},(∀k,k<ops.size→listed.getD k false=true)→DR E N w0 K0 H G (gY s) (obs s) s.tm rs (fun k=>listed.getD k false) γ K a w→Q .normal a w:=fun {listed γ K a w} hall h=>by
  have e1:((num 0 rs).filter fun p=>listed.getD p.1 false)=num 0 rs:=by
   rw[List.filter_eq_self];intro p hp
   have:=mH.1 (show(p.1,p.2)∈num 0 rs from hp)
   have:=(aW6.1 this).1
   exact hall p.1 (by omega)
  have eS:SDf rs (gY s) (fun k=>listed.getD k false)=gY s':=by unfold SDf; rw[e1,yB,q7]
  have eO:ODf rs (obs s) (fun k=>listed.getD k false)=obs s':=by unfold ODf; rw[e1,yC,q8]
  refine hk s' γ K a w q2 q5 ⟨h.size,h.defers,fun x v sv hx=>⟨q6.sl x v sv hx,?_⟩,?_,h.glob,fun j g hg=>⟨?_,?_⟩,fun j v o hj=>q6.ob j v o hj,fun j e hj=>?_,h.fix,?_⟩
  ·refine h.slots x sv ?_;rw[eS]; simp[gY,hx]
  ·rw[←eO]; exact h.hp
  ·rcases h.tok j g hg with h1|⟨k,q,h1,_,h3,h4⟩
   ·have:=q5.tm; omega
   ·have:=q9 q (aXU h1); omega
  ·rcases h.hvW j g hg with h1|⟨k,q,h1,_,h3⟩
   ·have:=q5.tm; omega
   ·have:=q9 q (aXU h1); omega
  ·refine h.all j e.2 ?_;rw[eO];unfold obs;rw[hj]
  ·have:=q5.tm; have:=hR.pos; omega
 have main:∀(fuel:Nat) (listed:Array Bool) (γ:Ghs) (K:Kn) (a:Act) (w:World),listed.size=ops.size→listed.toList.count false≤fuel→yA ops.toList (fun k=>listed.getD k false=true)→DR E N w0 K0 H G (gY s) (obs s) s.tm rs (fun k=>listed.getD k false) γ K a w→wpAny E.P .any ops Q fuel listed a w:=by
  intro fuel
  have alld:∀ {listed:Array Bool},listed.size=ops.size→Region.ready .any ops listed=[]→∀k,k<ops.size→listed.getD k false=true:=fun {listed} hsz hr k=>by
   induction k using Nat.strongRecOn with
   |ind k ih =>
    intro hk
    cases hl:listed.getD k false with
    |true=>rfl
    |false =>
     exfalso
     have hkl:k<listed.size:=by omega
     have:k∈Region.ready .any ops listed:=mem_ready.2 ⟨by simpa [hkl] using hl,ops[k],by simp[hk],fun e he hb=>ih e.on (by have:=hback k ops[k] (by simp[hk]) e (by simpa using he) hb; omega) (by have:=hback k ops[k] (by simp[hk]) e (by simpa using he) hb; omega)⟩
     rw[hr] at this; cases this
  induction fuel with
  |zero =>
   intro listed γ K a w hsz hc hcl h
   have hz:∀k,k<ops.size→listed.getD k false=true:=fun k hk=>by
    cases hl:listed.getD k false with
    |true=>rfl
    |false =>
     exfalso
     have hkl:k<listed.size:=by omega
     exact YJ (Nat.le_zero.1 hc) k (by rw[aXM]; simpa [hkl] using hl)
   refine⟨?_,fin hz h⟩;rw[List.eq_nil_iff_forall_not_mem];intro k hk;obtain⟨h1,o,h2,_⟩:=mem_ready.1 hk
   have hkl:=(aW3.1 h2).1
   have:=hz k hkl
   have hkl':k<listed.size:=by omega
   simp[hkl'] at h1 this;rw[h1] at this; cases this
  |succ fuel ih =>
   intro listed γ K a w hsz hc hcl h;refine⟨fun hr=>fin (alld hsz hr) h,fun i hi=>?_⟩;obtain⟨h1,o,h2,h3⟩:=mem_ready.1 hi
   have hio:=(aW3.1 h2).1
   have hil:i<listed.size:=by omega
   have hif:listed[i]?=some false:=by simpa [hil] using h1
   have hir:i<rs.length:=by omega
   have hoi:rs[i].o=o:=by
    have:=congrArg (·[i]?) q1
    simp[hir,h2] at this;exact this
   have hcl':yA ops.toList (fun k=>(listed.setIfInBounds i true).getD k false=true):=by
    intro k o' hk ho' e he hb
    by_cases hki:k=i
    ·subst hki;rw[aXM,h2] at ho';injection ho' with ho';subst ho';exact getD_set_true (h3 e (by simpa using he) hb)
    ·rw[getD_set_ne false (Ne.symm hki)] at hk;exact getD_set_true (hcl k o' hk ho' e he hb)
   have nx:Nx ops.toList rs (fun k=>listed.getD k false) (fun k=>(listed.setIfInBounds i true).getD k false) i rs[i]:=by
    refine⟨q1,q3,hcl,hcl',by simp[hir],?_,?_,fun k hki=>getD_set_ne false (Ne.symm hki)⟩
    ·simpa [hil] using h1
    ·simp[hil]
   refine h.op nx q4 hR.pos (fun d hdd=>hd o (Array.mem_toList_iff.2 (Array.mem_of_getElem? h2)) d (by rw[←hoi]; exact hdd)) fun γ' K' a' w' h'=>?_
   refine ih _ γ' K' a' w' (by simp[hsz]) ?_ hcl' h'
   have:=HU (l:=listed.toList) (i:=i) (by rw[aXM]; exact hif)
   rw[Array.toList_setIfInBounds];omega
 exact main ops.size _ γ K a _ (by simp) (by simp) (fun k o hk=>by
  exfalso
  have hk:(Array.replicate ops.size false).getD k false=true:=hk
  rw[aW2] at hk
  by_cases hkk:k<ops.size
  ·simp[hkk] at hk
  ·simp[Array.getElem?_eq_none,hkk] at hk) start
end Go.W
end

section
namespace Go.W
open Go Go.RowKit
def HV(E:Env):List Con→Prop
 | []=>True
 |c::l=>aH E c∧HV E l
theorem RX{E:Env}{tab:List Con}(h:HV E tab):jQ E tab:=by
 refine YG ?_
 induction tab with
 |nil=>intro c hc; cases hc
 |cons d l ih =>
  intro c hc;rcases aZL.1 hc with hc|hc
  ·rw[hc]; exact h.1
  ·exact ih h.2 c hc
theorem DN{E:Env}{rs:List Kd}{ps:List PK}{x:Vec (dK (kdP ps))}{r:Vec (dK (app rs (kdB ps)))}{w:World}{K:Kn}{H:Nat→Prop}{γ:Ghs}{args:Array Value}{V:Value}{tk:Nat}(hEnt:Ent E ps x w K H γ args)
  (h1:(aR tk (app rs (kdB ps)) 0 r).2=[]) (h2:dL (aR tk (app rs (kdB ps)) 0 r).1=[]) (hV:∀γ2,aV γ2 K (WN (CA rs (aR tk (app rs (kdB ps)) 0 r).1)) V):aIL rs ps x r w K H γ V w tk:=by
 refine⟨γ,obs (start ps x),K,[],[],hEnt.hp,?_,fun j=>by simp,fun i o ho=>?_,fun γ2 _=>hV γ2⟩
 ·rw[h1]; exact⟨rfl,rfl⟩
 ·rw[h2] at ho; simp at ho
def aK4:List PK:=[.k (.v .str []),.k (.v .u8 [])]
def aPW:List Kd:=[.v (.int .i64) []]
def eZ(_N:Nat) (x:Y_×UInt8):Option Int:=some (Lib.indexByte x.1 x.2)
def gZ(_N:Nat) (x:Y_×UInt8):Option Int:=some ((Lib.countByte x.1 x.2:Nat):Int)
theorem HW(x:UInt8):(n8 x).toNat.toUInt8=x:=by
 show(Int.toNat ((x.toNat:Nat):Int)).toUInt8=x;simp
theorem RY{args:Array Value}{n:Nat}(h:args.size=n) (h2:n=2):args=#[args.getD 0 undef,args.getD 1 undef]:=by
 subst h2;apply aZ2
 ·simpa using h
 ·intro i h1 h3;simp at h3
  match i,h3 with
  | 0,_=>simp[Array.getD,h]
  | 1,_=>simp[Array.getD,h]
theorem uB{E:Env}{f:Nat}{fn:Func}(hf:E.P.funcs[f]?=some fn) (hname:(fn.name == "runtime.NumGoroutine")=false) (hb:fn.body.isNone=true) (hx:Extern.findNext fn=none) (he:Extern.find fn=some Extern.BytealgIndexByte.indexByte) (N:Nat) :
  aH E ⟨f,aK4,aPW,eZ N⟩:=by
 intro x r h w K H γ args hEnt
 have h:some (Lib.indexByte x.1 x.2)=some r:=h
 injection h with h;subst h;left
 have hs:=hEnt.size
 have s0:=(hEnt.slots 0 0 (.val (.one (.v .str x.1))) rfl).2
 have s1:=(hEnt.slots 1 0 (.val (.one (.v .u8 x.2))) rfl).2
 have ha:=RY hs rfl
 have s1:args.getD 1 undef=.int .u8 (n8 x.2):=by simpa [aV,bY,aF,aT] using s1
 have s0:args.getD 0 undef=.string (bst x.1):=by simpa [aV,bY,aF,aT] using s0
 refine⟨.int .i64 (Lib.indexByte x.1 x.2),w,?_,fun tk _=>DN hEnt rfl rfl fun _=>rfl⟩;rw[ha,s1,s0]
 have h2:=Lib.run_indexByteString (P:=E.P) (bst x.1) (n8 x.2) w
 have e2:((n8 x.2).toNat.toUInt8)=x.2:=HW x.2
 rw[e2] at h2
 have e3:(bst x.1).data.toList=x.1:=rfl
 rw[e3] at h2;rw[run_callFunc_indexByte hf hname hb hx he,h2];rfl
theorem DO{E:Env}{f:Nat}{fn:Func}(hf:E.P.funcs[f]?=some fn) (hname:(fn.name == "runtime.NumGoroutine")=false) (hb:fn.body.isNone=true) (hx:Extern.findNext fn=none) (he:Extern.find fn=some Extern.BytealgCount.count) (N:Nat) :
  aH E ⟨f,aK4,aPW,gZ N⟩:=by
 intro x r h w K H γ args hEnt
 have h:some ((Lib.countByte x.1 x.2:Nat):Int)=some r:=h
 injection h with h;subst h;left
 have hs:=hEnt.size
 have s0:=(hEnt.slots 0 0 (.val (.one (.v .str x.1))) rfl).2
 have s1:=(hEnt.slots 1 0 (.val (.one (.v .u8 x.2))) rfl).2
 have ha:=RY hs rfl
 have s1:args.getD 1 undef=.int .u8 (n8 x.2):=by simpa [aV,bY,aF,aT] using s1
 have s0:args.getD 0 undef=.string (bst x.1):=by simpa [aV,bY,aF,aT] using s0
 refine⟨.int .i64 ((Lib.countByte x.1 x.2:Nat):Int),w,?_,fun tk _=>DN hEnt rfl rfl fun _=>rfl⟩;rw[ha,s1,s0]
 have h2:=Lib.run_countString (P:=E.P) (bst x.1) (n8 x.2) w
 have e2:((n8 x.2).toNat.toUInt8)=x.2:=HW x.2
 rw[e2] at h2
 have e3:(bst x.1).data.toList=x.1:=rfl
 rw[e3] at h2;rw[run_callFunc_extern hf hname hb hx he,h2];rfl
theorem vX:∀(n t:Nat) (acc:Array Value) (bs:Y_),acc.toList=bs.map (fun b=>Value.int .u8 (b.toNat:Int))→∃bs':Y_,(Extern.BytealgMakeNoZero.digits n t acc).toList=bs'.map (fun b=>Value.int .u8 (b.toNat:Int))
 | 0,_,acc,bs,h=>⟨bs,h⟩
 |n+1,t,acc,bs,h=>by
  rw[Extern.BytealgMakeNoZero.digits];refine vX n (t / 256) _ (bs++[UInt8.ofNat (t%256)]) ?_
  have:(UInt8.ofNat (t%256)).toNat=t%256:=by
   rw[UInt8.toNat_ofNat']; omega
  simp[h,this]
theorem aPX{P:Program}{f:Nat}{fn:Func}{ps:Array TypeId}{t:TypeId}(hf:P.funcs[f]?=some fn) (hname:(fn.name == "runtime.NumGoroutine")=false)
  (hb:fn.body.isNone=true) (hn:Extern.findNext fn=none) (he:Extern.find fn=some (Extern.BytealgMakeNoZero.makeNoZero ps #[t])) (ht:P.underlying t=some (.slice ub)):aL8 P f:=by
 intro n w hle
 have hdef:Extern.BytealgMakeNoZero.makeNoZero ps #[t] #[.int .i64 n] =
   (do
    let .slice elem ←underlying t|stuck "bytealg.MakeNoZero: slice type expected"
    if(n:Int)<0||(n:Int) > 2^48 then runtimePanic (.error "makeslice: len out of range")
    let cap ←choose (.appendCap (n:Int).toNat 0 elem)
    askRoom cap
    let bytes ←choose (.extern "internal/bytealg.MakeNoZero.bytes" 0)
    let a ←newRow elem (Extern.BytealgMakeNoZero.digits cap bytes #[])
    pure (.slice (some a) (n:Int).toNat cap)):=rfl
 obtain⟨bs,hbs⟩:=vX (grownCap w n 0 ub) ((Question.extern "internal/bytealg.MakeNoZero.bytes" 0).cut (w.tape (w.drawn+1) (.extern "internal/bytealg.MakeNoZero.bytes" 0))) #[] [] rfl
 have hsz:bs.length=grownCap w n 0 ub:=by
  have:=congrArg List.length hbs
  simp only[aX7,Lib.size_digits,aZC,Array.size_empty,aZS] at this;exact this.symm
 have hA:Extern.BytealgMakeNoZero.digits (grownCap w n 0 ub) ((Question.extern "internal/bytealg.MakeNoZero.bytes" 0).cut (w.tape (w.drawn+1) (.extern "internal/bytealg.MakeNoZero.bytes" 0))) #[]=(bs.map fun b=>Value.int .u8 (b.toNat:Int)).toArray:=by
  apply aYW.1;rw[hbs]
 refine⟨bs,w.drawn+1+1,?_,?_,?_⟩
 ·rw[run_callFunc_extern hf hname hb hn he,hdef]
  have h1:¬(n:Int)<0:=by omega
  have h2:¬(281474976710656:Int)<(n:Int):=by omega
  rw[←hA,hsz];simp[run_underlying ht,h1,h2,Question.forced,newRow,grownCap];rfl
 ·rw[hsz]; simpa using grownCap_ge w n 0 ub
 ·rw[hsz]; simpa using grownCap_le_maxLen w n 0 ub (by unfold maxLen; omega)
def tyB:Ty:=.st (.pair .nptr (.slice .u8))
def YK(t:Nat):List PK:=[.k (.b t tyB [1])]
def cB(_N:Nat) (x:Unit×Y_):Option (Unit×Y_):=some x
def aMM(P:Program) (f t:Nat):Prop:=∀(w:World) (b:Nat) (p v:Value),w.heap[b]?=some (.cells #[p,v] t (0,0))→(p=.pointer none∨p=.pointer (some ⟨b,0,none⟩)) →
 ((callFunc f #[.pointer (some ⟨b,0,none⟩)]).run P w=.ok (.enter f #[.pointer (some ⟨b,0,none⟩)]) w)∧Calls P f #[.pointer (some ⟨b,0,none⟩)] w fun e w'=>e=.returned (.tuple #[])∧w'.os=w.os∧w'.tape=w.tape∧w'.output=w.output∧w'.heap.size=w.heap.size∧(∀b',b'≠b→w'.heap[b']?=w.heap[b']?)∧(∃p',w'.heap[b]?=some (.cells #[p',v] t (0,0))∧(p'=.pointer none∨p'=.pointer (some ⟨b,0,none⟩)))
theorem KQ{E:Env}{f t:Nat}(hcc:aMM E.P f t) (N:Nat):aH E ⟨f,YK t,[],cB N⟩:=by
 intro x r h w K H γ args hEnt
 have h:some x=some r:=h
 injection h with h;subst h
 have hs:args.size=1:=hEnt.size
 have o1:obs (start (YK t) x) 1=some (.row 1 .u8 x.2):=rfl
 have o2:obs (start (YK t) x) 2=some (.box t [.nilp,.row 1 1]):=rfl
 obtain⟨g1,hg1⟩:=hEnt.all 1 _ (show lk (start (YK t) x).ob 1=some (0,.row 1 .u8 x.2) from rfl);obtain⟨g2,hg2⟩:=hEnt.all 2 _ (show lk (start (YK t) x).ob 2=some (0,.box t [.nilp,.row 1 1]) from rfl)
 have s0:=(hEnt.slots 0 0 (.val (.one (.ptr 2 0))) rfl).2
 obtain⟨g2',b,k1,k2,k3,k4⟩:=s0;rw[hg2] at k1;injection k1 with k1;subst k1
 have ha:args=#[.pointer (some ⟨b,0,none⟩)]:=by
  apply aZ2
  ·simpa using hs
  ·intro i h1 h3;simp at h3;subst h3
   have:args.getD 0 undef=args[0]:=by simp[Array.getD,hs]
   rw[←this,k4];rfl
 obtain⟨b',vs,q0,q1,⟨us,q2,qs⟩,q3,q4⟩:=hEnt.hp.ok 2 _ g2 o2 hg2;rw[k3] at q1;injection q1 with q1;injection q1 with q1;subst q1;obtain⟨v1,vr,e1,e1',_,v2,vr2,e2,e3,e3',e4⟩:=q3
 have e4:vr2=[]:=e4
 have e1':v1=.pointer none:=e1'
 subst e4;subst e1';subst e2;subst e1;obtain⟨u1,u2,rfl⟩:∃u1 u2,us=[u1,u2]:=by
  have:=qs.1
  match us,this with
  | [u1,u2],_=>exact⟨u1,u2,rfl⟩
 have hu1:u1=.pointer none∨u1=.pointer (some ⟨b,0,none⟩):=by
  rcases qs.2 0 u1 (.pointer none) rfl rfl with e|⟨_,e⟩
  ·exact .inl e
  ·exact .inr e
 have hu2:u2=v2:=by
  rcases qs.2 1 u2 v2 rfl rfl with e|⟨e,_⟩
  ·exact e
  ·obtain⟨h0,_⟩:=e3;subst e;cases h0
 subst hu2;obtain⟨c1,c2⟩:=hcc w b u1 u2 (by simpa using q2) hu1;subst ha;right;refine⟨c1,c2.mono fun e w' he=>?_⟩;obtain⟨rfl,d1,d2,d3,d4,d5,p',d6,d7⟩:=he;intro tk h0;obtain⟨r1,r2,r3,r4,r5,vi,r6,r7,r8⟩:=hEnt.hp.ok 1 _ g1 o1 hg1
 have hslf:Slf b [p',u2] [.pointer none,u2]:=by
  refine⟨rfl,fun i u v hu hv=>?_⟩
  match i with
  | 0 =>
   simp at hu hv;subst hu;subst hv;rcases d7 with d7|d7
   ·exact .inl d7
   ·exact .inr ⟨rfl,d7⟩
  | 1 =>
   simp at hu hv;subst hu;subst hv;exact .inl rfl
  |i+2=>simp at hu
 have hH:Hp w K H γ (obs (start (YK t) x)) K w':=by
  obtain⟨_,t2⟩:=hEnt.hp.turn (w':=w') 2 g2 (.box t [.nilp,.row 1 1]) d1 d2 d3 (Nat.le_of_eq d4.symm) (fun gg hgg=>by rw[hg2] at hgg; injection hgg with hgg; subst hgg; exact⟨aZ0 _,fun _=>rfl⟩)
   (fun b2 _ hne=>d5 b2 (hne _ g2 _ o2 hg2 rfl k3))
   (fun _ ad had=>.inr ⟨_,g2,ad,o2,hg2,rfl,had,rfl⟩)
   (by
    rw[fP hg2];exact⟨b,[.pointer none,u2],q0,k3,⟨[p',u2],by simpa using d6,hslf⟩,⟨_,_,rfl,rfl,rfl,_,_,rfl,e3,e3',rfl⟩,q4⟩)
  rw[fP hg2,fP o2] at t2;exact t2
 have hrow:∀γ2,eG γ2 K w' ⟨g1.a,g1.c,g1.n,g1.sz,tk⟩ (.row tk .u8 x.2):=fun γ2=>by
  refine⟨rfl,h0,r3,r4,r5,vi,⟨r6.1,?_⟩,r7,r8⟩;rcases r6.2 with z|⟨b2,cur,ee,fz,z1,z2,z3,z4⟩
  ·exact .inl z
  ·refine .inr ⟨b2,cur,ee,fz,z1,?_,z3,z4⟩;rw[d5 b2 (hEnt.hp.sep 1 2 _ _ g1 g2 o1 o2 hg1 hg2 rfl rfl (by decide) ⟨b2,0,none⟩ ⟨b,0,none⟩ z1 k3)];exact z2
 refine⟨γ,obs (start (YK t) x),K,[⟨g1.a,g1.c,g1.n,g1.sz,tk⟩],[some 1],hH,⟨_,_,_,_,rfl,rfl,⟨rfl,fun γ2 _=>hrow γ2,rfl,.inr ⟨1,g1,_,rfl,hg1,o1,rfl,rfl⟩⟩,rfl,rfl⟩,fun j=>?_,fun i o ho=>?_,fun γ2 _=>⟨[],rfl,rfl⟩⟩
 ·rw[aZB,List.count_nil]; split<;>simp
 ·match i with
  | 0 =>
   have ho:some (Ob.box t [.nilp,.row (tk+0) tk])=some o:=ho
   injection ho with ho;subst ho;refine⟨(by decide:List.count (some 2) [some 1]=0),rfl,⟨_,o2,rfl⟩,fun γ2 hG g hg=>?_⟩
   have hg:γ 2=some g:=hg
   rw[hg2] at hg;injection hg with hg;subst hg
   have hn:=hG 0 _ rfl
   refine⟨b,[.pointer none,u2],q0,k3,⟨[p',u2],by simpa using d6,hslf⟩,⟨_,_,rfl,rfl,rfl,_,_,rfl,?_,e3',rfl⟩,q4⟩;obtain⟨y0,gy,y1,y2,y3,y4⟩:=e3;rw[hg1] at y1;injection y1 with y1;subst y1;exact⟨y0,⟨g1.a,g1.c,g1.n,g1.sz,tk⟩,by simpa using hn,h0,aZ0 _,fun _=>y4 r1⟩
  |i+1 =>
   have ho:([]:List Ob)[i]?=some o:=ho
   simp at ho
def jG(_N:Nat) (x:Y_):Option Bool:=grd (eD (len x)) (some (Lib.validD x))
theorem aIP{E:Env}{f:Nat}{fn:Func}(g:Y_×Y_→Option Bool) (hf:E.P.funcs[f]?=some fn) (hb:fn.body.isNone=false) (hn:(fn.name == "runtime.NumGoroutine")=false)
  (h:∀x r,g x=some r→∀(w:World) (K:Kn),eU E K→KOk K w→Calls E.P f #[.string (bst x.1),.string (bst x.2)] w fun e w'=>e=.returned (.bool r)∧w'=w) :
  aH E ⟨f,[.k (.v .str []),.k (.v .str [])],[.v .bool []],g⟩:=by
 intro x r hr w K H γ args hEnt
 have h:=h x r hr w K hEnt.glob hEnt.hp.kok
 right
 have hs:args.size=2:=hEnt.size
 have s0:=(hEnt.slots 0 0 (.val (.one (.v .str x.1))) rfl).2
 have s0:args.getD 0 undef=.string (bst x.1):=by simpa [aV,bY,aF,aT] using s0
 have s1:=(hEnt.slots 1 0 (.val (.one (.v .str x.2))) rfl).2
 have s1:args.getD 1 undef=.string (bst x.2):=by simpa [aV,bY,aF,aT] using s1
 have ha:args=#[.string (bst x.1),.string (bst x.2)]:=by
  apply aZ2
  ·simpa using hs
  ·intro i h1 h3;simp at h3
   have:i=0∨i=1:=by omega
   rcases this with rfl|rfl
   ·have:args.getD 0 undef=args[0]:=by simp[Array.getD,hs]
    rw[←this,s0]; rfl
   ·have:args.getD 1 undef=args[1]:=by simp[Array.getD,hs]
    rw[←this,s1]; rfl
 subst ha;refine⟨by
  unfold callFunc;simp only[program,aZU,Sem.run,aYM,hf,hn,hb];rfl,?_⟩
 refine h.mono fun e w' he=>?_
 obtain⟨rfl,rfl⟩:=he;intro tk _;refine⟨γ,obs (W.start [.k (.v .str []),.k (.v .str [])] x),K,[],[],hEnt.hp,⟨rfl,rfl⟩,fun j=>by simp,fun i o ho=>?_,fun γ2 _=>rfl⟩
 have ho:([]:List Ob)[i]?=some o:=ho
 simp at ho
def fI(_N:Nat) (x:Y_×Y_):Option Bool:=grd (decide (x.1.length<4294967281)) (some (Lib.contains x.1 x.2))
theorem Hp.grown{w0 w w':World}{K0 K:Kn}{H:Nat→Prop}{γ:Ghs}{ob:Obs}(h:Hp w0 K0 H γ ob K w) (h1:w'.os=w.os) (h2:w'.tape=w.tape) (h3:w'.output=w.output) (h4:w.heap.size≤w'.heap.size) (h5:∀b,b<w.heap.size→w'.heap[b]?=w.heap[b]?):Hp w0 K0 H γ ob K w' :=
 ⟨h1.trans h.os,h2.trans h.tape,h3.trans h.output,aZR h.size h4,fun b hb hH=>⟨(h5 b (aYD hb h.size)).trans (h.blk b hb hH).1,(h.blk b hb hH).2⟩,h.mono,fun b o v hv=>by
  obtain⟨cs,e,fz,q1,q2⟩:=h.kok b o v hv;exact⟨cs,e,fz,(h5 b (aW3.1 q1).1).trans q1,q2⟩,fun j o g q1 q2=>(h.ok j o g q1 q2).mono (Ghs.le.refl γ) (Kn.le.refl K) fun q3 ad q4=>⟨h5 _ ((h.ok j o g q1 q2).block q3 q4).1,fun _=>rfl⟩,h.own,h.sep⟩
theorem aIQ{E:Env}{f:Nat}{fn:Func}(g:Int×Int→Option Y_) (hf:E.P.funcs[f]?=some fn) (hb:fn.body.isNone=false) (hn:(fn.name == "runtime.NumGoroutine")=false)
  (h:∀x r,g x=some r→∀(w:World) (K:Kn),eU E K→KOk K w→Calls E.P f #[.int .i64 x.1,.int .i64 x.2] w fun e w'=>e=.returned (.string (bst r))∧w'.os=w.os∧w'.tape=w.tape∧w'.output=w.output∧w.heap.size≤w'.heap.size∧∀b,b<w.heap.size→w'.heap[b]?=w.heap[b]?) :
  aH E ⟨f,[.k (.v (.int .i64) []),.k (.v (.int .i64) [])],[.v .str []],g⟩:=by
 intro x r hr w K H γ args hEnt
 have h:=h x r hr w K hEnt.glob hEnt.hp.kok
 right
 have hs:args.size=2:=hEnt.size
 have s0:=(hEnt.slots 0 0 (.val (.one (.v (.int .i64) x.1))) rfl).2
 have s0:args.getD 0 undef=.int .i64 x.1:=by simpa [aV,bY,aF,aT] using s0
 have s1:=(hEnt.slots 1 0 (.val (.one (.v (.int .i64) x.2))) rfl).2
 have s1:args.getD 1 undef=.int .i64 x.2:=by simpa [aV,bY,aF,aT] using s1
 have ha:args=#[.int .i64 x.1,.int .i64 x.2]:=by
  apply aZ2
  ·simpa using hs
  ·intro i h1 h3;simp at h3
   have:i=0∨i=1:=by omega
   rcases this with rfl|rfl
   ·have:args.getD 0 undef=args[0]:=by simp[Array.getD,hs]
    rw[←this,s0]; rfl
   ·have:args.getD 1 undef=args[1]:=by simp[Array.getD,hs]
    rw[←this,s1]; rfl
 subst ha;refine⟨by
  unfold callFunc;simp only[program,aZU,Sem.run,aYM,hf,hn,hb];rfl,?_⟩
 refine h.mono fun e w' he=>?_
 obtain⟨rfl,h1,h2,h3,h4,h5⟩:=he;intro tk _;refine⟨γ,obs (W.start [.k (.v (.int .i64) []),.k (.v (.int .i64) [])] x),K,[],[],hEnt.hp.grown h1 h2 h3 h4 h5,⟨rfl,rfl⟩,fun j=>by simp,fun i o ho=>?_,fun γ2 _=>rfl⟩
 have ho:([]:List Ob)[i]?=some o:=ho
 simp at ho
def AI(s:Y_):Int×Bool:=match Lib.parseIntB 64 s with
 | .ok v=>(v,false)
 | .range=>(Lib.intSat 64 s,true)
 |_=>(0,true)
def jH(_N:Nat) (x:Y_×Int×Int):Option (Int×Bool):=grd (ieq x.2.1 10) (grd (ieq x.2.2 64) (grd (decide (x.1.length≤281474976710656)) (some (AI x.1))))
theorem aMN{E:Env}{f:Nat}{fn:Func}(g:Y_×Int×Int→Option (Int×Bool)) (hf:E.P.funcs[f]?=some fn) (hb:fn.body.isNone=false) (hn:(fn.name == "runtime.NumGoroutine")=false)
  (h:∀x r,g x=some r→∀(w:World) (K:Kn),eU E K→KOk K w→Calls E.P f #[.string (bst x.1),.int .i64 x.2.1,.int .i64 x.2.2] w fun e w'=>∃ev,e=.returned (.tuple #[.int .i64 r.1,ev])∧(r.2=false→ev=.nilIface)∧(r.2=true→∃u y,ev=.iface u y)∧w'.os=w.os∧w'.tape=w.tape∧w'.output=w.output∧w.heap.size≤w'.heap.size∧∀b,b<w.heap.size→w'.heap[b]?=w.heap[b]?) :
  aH E ⟨f,[.k (.v .str []),.k (.v (.int .i64) []),.k (.v (.int .i64) [])],[.v (.int .i64) [],.v .nif []],g⟩:=by
 intro x r hr w K H γ args hEnt
 have h:=h x r hr w K hEnt.glob hEnt.hp.kok
 right
 have hs:args.size=3:=hEnt.size
 have s0:=(hEnt.slots 0 0 (.val (.one (.v .str x.1))) rfl).2
 have s0:args.getD 0 undef=.string (bst x.1):=by simpa [aV,bY,aF,aT] using s0
 have s1:=(hEnt.slots 1 0 (.val (.one (.v (.int .i64) x.2.1))) rfl).2
 have s1:args.getD 1 undef=.int .i64 x.2.1:=by simpa [aV,bY,aF,aT] using s1
 have s2:=(hEnt.slots 2 0 (.val (.one (.v (.int .i64) x.2.2))) rfl).2
 have s2:args.getD 2 undef=.int .i64 x.2.2:=by simpa [aV,bY,aF,aT] using s2
 have ha:args=#[.string (bst x.1),.int .i64 x.2.1,.int .i64 x.2.2]:=by
  apply aZ2
  ·simpa using hs
  ·intro i h1 h3;simp at h3
   have:i=0∨i=1∨i=2:=by omega
   rcases this with rfl|rfl|rfl
   ·have:args.getD 0 undef=args[0]:=by simp[Array.getD,hs]
    rw[←this,s0]; rfl
   ·have:args.getD 1 undef=args[1]:=by simp[Array.getD,hs]
    rw[←this,s1]; rfl
   ·have:args.getD 2 undef=args[2]:=by simp[Array.getD,hs]
    rw[←this,s2]; rfl
 subst ha;refine⟨by
  unfold callFunc;simp only[program,aZU,Sem.run,aYM,hf,hn,hb];rfl,?_⟩
 refine h.mono fun e w' he=>?_
 obtain⟨ev,rfl,e1,e2,h1,h2,h3,h4,h5⟩:=he;intro tk _;refine⟨γ,obs (W.start [.k (.v .str []),.k (.v (.int .i64) []),.k (.v (.int .i64) [])] x),K,[],[],hEnt.hp.grown h1 h2 h3 h4 h5,⟨rfl,rfl⟩,fun j=>by simp,fun i o ho=>?_,fun γ2 _=>⟨[.int .i64 r.1,ev],rfl,_,_,rfl,rfl,_,_,rfl,⟨ev,rfl,e1,e2⟩,rfl⟩⟩
 have ho:([]:List Ob)[i]?=some o:=ho
 simp at ho
def iF(_N:Nat) (x:Y_×Y_):Option Int:=grd (decide (x.1.length<4294967281)) (some (Lib.index x.1 x.2))
def fZ(_N:Nat) (x:Y_×Y_×Y_×Int):Option Y_:=grd (decide (x.1.length<4294967281)) (grd (decide (1≤x.2.1.length)) (grd (decide (x.1.length+Lib.count x.1 x.2.1*x.2.2.1.length≤140737488355328)) (some (Lib.replace x.1 x.2.1 x.2.2.1 x.2.2.2))))
theorem aED{E:Env}{f:Nat}{fn:Func}(g:Y_×Y_×Y_×Int→Option Y_) (hf:E.P.funcs[f]?=some fn) (hb:fn.body.isNone=false) (hn:(fn.name == "runtime.NumGoroutine")=false)
  (h:∀x r,g x=some r→∀(w:World) (K:Kn),eU E K→KOk K w→Calls E.P f #[.string (bst x.1),.string (bst x.2.1),.string (bst x.2.2.1),.int .i64 x.2.2.2] w fun e w'=>e=.returned (.string (bst r))∧w'.os=w.os∧w'.tape=w.tape∧w'.output=w.output∧w.heap.size≤w'.heap.size∧∀b,b<w.heap.size→w'.heap[b]?=w.heap[b]?) :
  aH E ⟨f,[.k (.v .str []),.k (.v .str []),.k (.v .str []),.k (.v (.int .i64) [])],[.v .str []],g⟩:=by
 intro x r hr w K H γ args hEnt
 have h:=h x r hr w K hEnt.glob hEnt.hp.kok
 right
 have hs:args.size=4:=hEnt.size
 have s0:=(hEnt.slots 0 0 (.val (.one (.v .str x.1))) rfl).2
 have s0:args.getD 0 undef=.string (bst x.1):=by simpa [aV,bY,aF,aT] using s0
 have s1:=(hEnt.slots 1 0 (.val (.one (.v .str x.2.1))) rfl).2
 have s1:args.getD 1 undef=.string (bst x.2.1):=by simpa [aV,bY,aF,aT] using s1
 have s2:=(hEnt.slots 2 0 (.val (.one (.v .str x.2.2.1))) rfl).2
 have s2:args.getD 2 undef=.string (bst x.2.2.1):=by simpa [aV,bY,aF,aT] using s2
 have s3:=(hEnt.slots 3 0 (.val (.one (.v (.int .i64) x.2.2.2))) rfl).2
 have s3:args.getD 3 undef=.int .i64 x.2.2.2:=by simpa [aV,bY,aF,aT] using s3
 have ha:args=#[.string (bst x.1),.string (bst x.2.1),.string (bst x.2.2.1),.int .i64 x.2.2.2]:=by
  apply aZ2
  ·simpa using hs
  ·intro i h1 h3;simp at h3
   have:i=0∨i=1∨i=2∨i=3:=by omega
   rcases this with rfl|rfl|rfl|rfl
   ·have:args.getD 0 undef=args[0]:=by simp[Array.getD,hs]
    rw[←this,s0]; rfl
   ·have:args.getD 1 undef=args[1]:=by simp[Array.getD,hs]
    rw[←this,s1]; rfl
   ·have:args.getD 2 undef=args[2]:=by simp[Array.getD,hs]
    rw[←this,s2]; rfl
   ·have:args.getD 3 undef=args[3]:=by simp[Array.getD,hs]
    rw[←this,s3]; rfl
 subst ha;refine⟨by
  unfold callFunc;simp only[program,aZU,Sem.run,aYM,hf,hn,hb];rfl,?_⟩
 refine h.mono fun e w' he=>?_
 obtain⟨rfl,h1,h2,h3,h4,h5⟩:=he;intro tk _;refine⟨γ,obs (W.start [.k (.v .str []),.k (.v .str []),.k (.v .str []),.k (.v (.int .i64) [])] x),K,[],[],hEnt.hp.grown h1 h2 h3 h4 h5,⟨rfl,rfl⟩,fun j=>by simp,fun i o ho=>?_,fun γ2 _=>rfl⟩
 have ho:([]:List Ob)[i]?=some o:=ho
 simp at ho
theorem aIR{E:Env}{f:Nat}{fn:Func}(g:Y_×Y_→Option Int) (hf:E.P.funcs[f]?=some fn) (hb:fn.body.isNone=false) (hn:(fn.name == "runtime.NumGoroutine")=false)
  (h:∀x r,g x=some r→∀(w:World) (K:Kn),eU E K→KOk K w→Calls E.P f #[.string (bst x.1),.string (bst x.2)] w fun e w'=>e=.returned (.int .i64 r)∧w'.os=w.os∧w'.tape=w.tape∧w'.output=w.output∧w.heap.size≤w'.heap.size∧∀b,b<w.heap.size→w'.heap[b]?=w.heap[b]?) :
  aH E ⟨f,[.k (.v .str []),.k (.v .str [])],[.v (.int .i64) []],g⟩:=by
 intro x r hr w K H γ args hEnt
 have h:=h x r hr w K hEnt.glob hEnt.hp.kok
 right
 have hs:args.size=2:=hEnt.size
 have s0:=(hEnt.slots 0 0 (.val (.one (.v .str x.1))) rfl).2
 have s0:args.getD 0 undef=.string (bst x.1):=by simpa [aV,bY,aF,aT] using s0
 have s1:=(hEnt.slots 1 0 (.val (.one (.v .str x.2))) rfl).2
 have s1:args.getD 1 undef=.string (bst x.2):=by simpa [aV,bY,aF,aT] using s1
 have ha:args=#[.string (bst x.1),.string (bst x.2)]:=by
  apply aZ2
  ·simpa using hs
  ·intro i h1 h3;simp at h3
   have:i=0∨i=1:=by omega
   rcases this with rfl|rfl
   ·have:args.getD 0 undef=args[0]:=by simp[Array.getD,hs]
    rw[←this,s0]; rfl
   ·have:args.getD 1 undef=args[1]:=by simp[Array.getD,hs]
    rw[←this,s1]; rfl
 subst ha;refine⟨by
  unfold callFunc;simp only[program,aZU,Sem.run,aYM,hf,hn,hb];rfl,?_⟩
 refine h.mono fun e w' he=>?_
 obtain⟨rfl,h1,h2,h3,h4,h5⟩:=he;intro tk _;refine⟨γ,obs (W.start [.k (.v .str []),.k (.v .str [])] x),K,[],[],hEnt.hp.grown h1 h2 h3 h4 h5,⟨rfl,rfl⟩,fun j=>by simp,fun i o ho=>?_,fun γ2 _=>rfl⟩
 have ho:([]:List Ob)[i]?=some o:=ho
 simp at ho
def KR:Y_→Bool
 | []=>true
 |b::l=>aQ (Nat.blt b.toNat 128) (KR l) false
theorem HX:∀ {l:Y_},KR l=true→∀(j:Nat) b,l[j]?=some b→b.toNat<128
 | [],_,j,b,h=>by simp at h
 |c::l,ha,j,b,h=>by
  simp only[KR] at ha;unfold aQ at ha
  split at ha
  ·rename_i hc
   cases j with
   |zero =>
    simp at h;subst h;exact aXL hc
   |succ j=>exact HX ha j b (by simpa using h)
  ·cases ha
def iX(_N:Nat) (x:Y_×Y_):Option Y_:=grd (decide (x.1.length<4294967281)) (grd (decide (x.2.length<4294967281)) (grd (KR x.2) (some (Lib.trimS x.1 x.2))))
def flatB(b:UInt8):UInt8:=aQ (b==9) 32 (aQ (b==10) 32 (aQ (b==13) 32 b))
def nI(_N:Nat) (x:Y_):Option Y_:=grd (decide (x.length<4294967281)) (some (x.map flatB))
theorem aMO{E:Env}{f:Nat}{fn:Func}(g:Y_→Option Y_) (hf:E.P.funcs[f]?=some fn) (hb:fn.body.isNone=false) (hn:(fn.name == "runtime.NumGoroutine")=false)
  (h:∀x r,g x=some r→∀(w:World) (K:Kn),eU E K→KOk K w→Calls E.P f #[.string (bst x)] w fun e w'=>e=.returned (.string (bst r))∧w'.os=w.os∧w'.tape=w.tape∧w'.output=w.output∧w.heap.size≤w'.heap.size∧∀b,b<w.heap.size→w'.heap[b]?=w.heap[b]?) :
  aH E ⟨f,[.k (.v .str [])],[.v .str []],g⟩:=by
 intro x r hr w K H γ args hEnt
 have h:=h x r hr w K hEnt.glob hEnt.hp.kok
 right
 have hs:args.size=1:=hEnt.size
 have s0:=(hEnt.slots 0 0 (.val (.one (.v .str x))) rfl).2
 have s0:args.getD 0 undef=.string (bst x):=by simpa [aV,bY,aF,aT] using s0
 have ha:args=#[.string (bst x)]:=by
  apply aZ2
  ·simpa using hs
  ·intro i h1 h3;simp at h3;subst h3
   have:args.getD 0 undef=args[0]:=by simp[Array.getD,hs]
   rw[←this,s0]; rfl
 subst ha;refine⟨by
  unfold callFunc;simp only[program,aZU,Sem.run,aYM,hf,hn,hb];rfl,?_⟩
 refine h.mono fun e w' he=>?_
 obtain⟨rfl,h1,h2,h3,h4,h5⟩:=he;intro tk _;refine⟨γ,obs (W.start [.k (.v .str [])] x),K,[],[],hEnt.hp.grown h1 h2 h3 h4 h5,⟨rfl,rfl⟩,fun j=>by simp,fun i o ho=>?_,fun γ2 _=>rfl⟩
 have ho:([]:List Ob)[i]?=some o:=ho
 simp at ho
theorem aIS{E:Env}{f:Nat}{fn:Func}(g:Y_×Y_→Option Y_) (hf:E.P.funcs[f]?=some fn) (hb:fn.body.isNone=false) (hn:(fn.name == "runtime.NumGoroutine")=false)
  (h:∀x r,g x=some r→∀(w:World) (K:Kn),eU E K→KOk K w→Calls E.P f #[.string (bst x.1),.string (bst x.2)] w fun e w'=>e=.returned (.string (bst r))∧w'.os=w.os∧w'.tape=w.tape∧w'.output=w.output∧w.heap.size≤w'.heap.size∧∀b,b<w.heap.size→w'.heap[b]?=w.heap[b]?) :
  aH E ⟨f,[.k (.v .str []),.k (.v .str [])],[.v .str []],g⟩:=by
 intro x r hr w K H γ args hEnt
 have h:=h x r hr w K hEnt.glob hEnt.hp.kok
 right
 have hs:args.size=2:=hEnt.size
 have s0:=(hEnt.slots 0 0 (.val (.one (.v .str x.1))) rfl).2
 have s0:args.getD 0 undef=.string (bst x.1):=by simpa [aV,bY,aF,aT] using s0
 have s1:=(hEnt.slots 1 0 (.val (.one (.v .str x.2))) rfl).2
 have s1:args.getD 1 undef=.string (bst x.2):=by simpa [aV,bY,aF,aT] using s1
 have ha:args=#[.string (bst x.1),.string (bst x.2)]:=by
  apply aZ2
  ·simpa using hs
  ·intro i h1 h3;simp at h3
   have:i=0∨i=1:=by omega
   rcases this with rfl|rfl
   ·have:args.getD 0 undef=args[0]:=by simp[Array.getD,hs]
    rw[←this,s0]; rfl
   ·have:args.getD 1 undef=args[1]:=by simp[Array.getD,hs]
    rw[←this,s1]; rfl
 subst ha;refine⟨by
  unfold callFunc;simp only[program,aZU,Sem.run,aYM,hf,hn,hb];rfl,?_⟩
 refine h.mono fun e w' he=>?_
 obtain⟨rfl,h1,h2,h3,h4,h5⟩:=he;intro tk _;refine⟨γ,obs (W.start [.k (.v .str []),.k (.v .str [])] x),K,[],[],hEnt.hp.grown h1 h2 h3 h4 h5,⟨rfl,rfl⟩,fun j=>by simp,fun i o ho=>?_,fun γ2 _=>rfl⟩
 have ho:([]:List Ob)[i]?=some o:=ho
 simp at ho
theorem RZ{K:Kn}{k:IntKind}:∀ {xs:List Int}{vs:List Value},dH (aT K (.int k)) xs vs→vs=xs.map fun z=>Value.int k z
 | [],_,h=>h
 |x::xs,vs,⟨c1,c2,e,h1,h2⟩=>by
  have h1:c1=[.int k x]:=h1
  subst h1;subst e;rw[RZ h2];rfl
theorem aMP{P:Program}{K:Kn}{w:World}(hk:KOk K w){g n:Nat}{k:IntKind}{xs:List Int}{cs:List Value}{name:String}(hr:aT K (.arr n (.int k)) xs cs) (hc:∀j u,cs[j]?=some u→K g j=some u) (he:K g cs.length=some (.tuple #[])) (hn:P.globalNamed name=some g):Lib.TabIs P w name k xs:=by
 obtain⟨ds,e,fz,h1,h2⟩:=hk _ _ _ he
 have hs:cs.length=ds.size:=h2.2 rfl
 have hcs:cs=xs.map fun z=>Value.int k z:=RZ hr.2
 have hd:ds=cs.toArray:=by
  apply aZ2
  ·simp[hs]
  ·intro i h3 h4
   have hu:cs[i]?=some cs[i]:=aXB (by omega)
   obtain⟨ds',e',fz',q1,q2⟩:=hk _ _ _ (hc i _ hu);rw[h1] at q1;injection q1 with q1;injection q1 with q1;subst q1
   have q3:=q2.1 (dB hr _ (aXU hu))
   rw[Array.getElem?_eq_getElem h3] at q3;exact Option.some.inj q3
 unfold Lib.TabIs World.var?;rw[hn];simp only[Option.bind_some,h1];rw[hd,hcs]
def fA:Nat→Nat→Y_→Y_
 | 0,_,l=>l
 |n+1,u,l=>aQ (Nat.ble 10 u) (fA n (u / 10) (UInt8.ofNat (48+u%10)::l)) (UInt8.ofNat (48+u)::l)
theorem DP:∀(n u:Nat) (l:Y_),u<10^n→fA n u l=Lib.decDigits u++l∨n=0
 | 0,_,_,_=>.inr rfl
 |n+1,u,l,h=>by
  left;unfold fA aQ;rw[Lib.decDigits]
  by_cases h1:u<10
  ·have hb:Nat.ble 10 u=false:=by rw[←aYZ]; intro k; have:=aXL k; omega
   rw[dif_pos h1,hb];rfl
  ·have hb:Nat.ble 10 u=true:=Nat.ble_eq_true_of_le (by omega)
   rw[dif_neg h1,hb]
   have hn:u / 10<10^n:=by rw[Nat.pow_succ] at h; omega
   rcases DP n (u / 10) (UInt8.ofNat (48+u%10)::l) hn with k|k
   ·simp only[k,aYK,List.singleton_append]
   ·subst k;simp at hn;omega
def dO(x:Int):Y_:=match x with
 | .ofNat n=>fA 20 n []
 | .negSucc n=>45::fA 20 (n+1) []
theorem aBD{x:Int}(h0:-9223372036854775808≤x) (h1:x≤9223372036854775807):dO x=Lib.itoa x:=by
 unfold Lib.itoa
 cases x with
 |ofNat n =>
  rw[if_neg (by show ¬((n:Nat):Int)<0; omega)];rcases DP 20 n [] (by have h1:((n:Nat):Int)≤_:=h1; omega) with k|k
  ·show fA 20 n []=_;rw[k,aY5];rfl
  ·cases k
 |negSucc n =>
  rw[if_pos (Int.negSucc_lt_zero n)];rcases DP 20 (n+1) [] (by have h0:_≤Int.negSucc n:=h0; rw[Int.negSucc_eq] at h0; omega) with k|k
  ·show 45::fA 20 (n+1) []=_;rw[k,aY5];rfl
  ·cases k
def dC(_N:Nat) (x:Int×Int):Option Y_:=grd (ieq x.2 10) (grd (ile (-9223372036854775808) x.1) (grd (ile x.1 9223372036854775807) (some (dO x.1))))
theorem aO{E:Env}(hE:EnvOk E){tab:List Con}{N f:Nat}{fn:Func}{an:Ann}{ps:List PK}{rs:List Kd}{m:Vec (dK (kdP ps))→Option (Vec (dK (app rs (kdB ps))))}
  (hx:aN E tab N fn an ps rs=m) (h:HV E tab) (hf:E.P.funcs[f]?=some fn) (hn:(fn.name == "runtime.NumGoroutine")=false):aH E ⟨f,ps,rs,m⟩:=by
 have hc:jQ E tab:=RX h
 rw[←hx];exact aD6 hE hc (aEC hE hc) hf hn _ _ _
theorem aBE{E:Env}{l:List Ty}{c:Con}(h:aH (E.wop l) c):aH E c:=fun x r hx w K H γ args he=>h x r hx w K H γ args ⟨he.size,he.slots,he.hp,he.glob,he.tok,he.all⟩
theorem YL{E:Env}{l:List Ty}{c:Con}(h:aH E c):aH (E.wop l) c:=fun x r hx w K H γ args he=>h x r hx w K H γ args ⟨he.size,he.slots,he.hp,he.glob,he.tok,he.all⟩
theorem SA{E:Env}{l:List Ty}:∀ {tab:List Con},HV E tab→HV (E.wop l) tab
 | [],_=>trivial
 |_::_,⟨h1,h2⟩=>⟨YL h1,SA h2⟩
theorem aEE{E:Env}{l:List Ty}(_hE:EnvOk E) (hD:EnvOk (E.wop l)){tab:List Con}{N f:Nat}{fn:Func}{an:Ann}{ps:List PK}{rs:List Kd}{m:Vec (dK (kdP ps))→Option (Vec (dK (app rs (kdB ps))))}
  (hx:aN (E.wop l) tab N fn an ps rs=m) (hc:HV E tab) (hf:E.P.funcs[f]?=some fn) (hn:(fn.name == "runtime.NumGoroutine")=false):aH E ⟨f,ps,rs,m⟩ :=
 aBE (aO hD hx (SA hc) hf hn)
end Go.W
end

section
namespace Go.W
open Go Go.RowKit Go.WideShapes Go.ChangeShapes Go.Deep
def OkV:(T:Ty)→T.den→Prop
 | .int k,x=>(Lit.int k x).wf=true
 | .str,s=>List.length s≤maxLen
 | .slice t,xs=>List.length xs≤maxLen∧∀x∈(xs:List t.den),OkV t x
 | .arr _ t,xs=>∀x∈(xs:List t.den),OkV t x
 | .pair a b,x=>OkV a x.1∧OkV b x.2
 | .st t,x=>OkV t x
 |_,_=>True
def Ty.plain:Ty→Bool
 | .slice t | .arr _ t | .st t=>t.plain
 | .pair a b=>a.plain&&b.plain
 | .nptr | .nif=>false
 |_=>true
def kOf(w:World):Kn:=fun b o=>match w.heap[b]? with
 |some (.cells cs _ _)=>if o=cs.size then some (.tuple #[]) else match cs[o]? with
  |some v=>if v.oneCell'=true then some v else none
  |none=>none
 |_=>none
theorem SB{w:World}{a:Addr}{v:Value}(h:w.cell? a=some v):a.spot=none:=by
 unfold World.cell? at h
 split at h
 ·split at h
  ·cases h
  ·rename_i hs; simpa using hs
 ·cases h
theorem qS{w:World}{a:Addr}{v:Value}(h:w.cell? a=some v) (hv:v.oneCell'=true):a.spot=none∧kOf w a.block a.off=some v:=by
 refine⟨SB h,?_⟩;unfold World.cell? at h
 split at h
 ·rename_i cs e fz hb
  split at h
  ·cases h
  ·have hlt:=(aW3.1 h).1
   unfold kOf;rw[hb];simp only;rw[if_neg (by omega),h];simp only;rw[if_pos hv]
 ·cases h
theorem aIT{w:World}{b:Nat}{cs:Array Value}{e:TypeId}{fz:Nat×Nat}(h:w.heap[b]?=some (.cells cs e fz)):kOf w b cs.size=some (.tuple #[]):=by
 unfold kOf;rw[h];exact if_pos rfl
theorem aMQ(w:World):KOk (kOf w) w:=fun b o v h=>by
 unfold kOf at h
 split at h
 ·rename_i cs e fz hb
  split at h
  ·rename_i ho;injection h with h;subst h;exact⟨cs,e,fz,hb,fun hv=>(by cases hv),fun _=>ho⟩
  ·split at h
   ·rename_i u hu
    split at h
    ·rename_i hv;injection h with h;subst h;exact⟨cs,e,fz,hb,fun _=>hu,fun hm=>(by subst hm; cases hv)⟩
    ·cases h
   ·cases h
 ·cases h
theorem qT{α:Type}{R:α→List Value→Prop}{sz:Nat}:∀(n:Nat){Q:Nat→α→Prop}{es:List Value},es.length=n*sz→(∀i,i<n→∃a,R a ((es.drop (i*sz)).take sz)∧Q i a)→∃xs:List α,xs.length=n∧dH R xs es∧∀i x,xs[i]?=some x→Q i x
 | 0,Q,es,hl,_=>⟨[],rfl,aWZ (by simpa using hl),fun i x hx=>by simp at hx⟩
 |n+1,Q,es,hl,h=>by
  obtain⟨a,ha,hq⟩:=h 0 (Nat.succ_pos n);rw[aZW,aZG] at ha;obtain⟨xs,x1,x2,x3⟩:=qT (R:=R) (sz:=sz) n (Q:=fun i=>Q (i+1)) (es:=es.drop sz) (by rw[aYV,hl,aZY]; omega) (fun i hi=>by
   obtain⟨b,hb,hq⟩:=h (i+1) (by omega);refine⟨b,?_,hq⟩;rw[aZF];rw[aZY,aZZ,aZQ] at hb;exact hb)
  exact⟨a::xs,by simp[x1],⟨_,_,(aXO sz es).symm,ha,x2⟩,fun i x hx=>by
   cases i with
   |zero=>simp at hx; subst hx; exact hq
   |succ i=>exact x3 i x (by simpa using hx)⟩
def bkL{α:Type}(f:α→Nat):List α→Nat
 | []=>0
 |x::r=>f x+bkL f r
def bkV:(T:Ty)→T.den→Nat
 | .str,s=>List.length s+1
 | .slice t,xs=>bkL (bkV t) xs+1
 | .arr _ t,xs=>bkL (bkV t) xs
 | .unit,_=>0
 | .pair a b,x=>bkV a x.1+bkV b x.2
 | .st t,x=>bkV t x
 |_,_=>1
structure Bk (H:Type) where
 b:DataW H→Nat
 all:List (DataW H)→Nat
 str:∀s,b (.lit (.string s))=s.length+1
 one:∀d,1≤b d
 sl:∀l r,all l+1≤b (.slice l r)
 ag:∀l,all l≤b (.agg l)
 nil:all []=0
 cons:∀d r,all (d::r)=b d+all r
theorem Bk.sum{H α:Type}(B:Bk H){f:α→Nat}:∀(xs:List α) (ds:List (DataW H)),xs.length=ds.length→(∀(i:Nat) (x:α) (d:DataW H),xs[i]?=some x→ds[i]?=some d→f x≤B.b d)→bkL f xs≤B.all ds
 | [],ds,_,_=>aZ1 _
 |x::xs,[],h,_=>by cases h
 |x::xs,d::ds,h,hi=>by
  have h1:=hi 0 x d rfl rfl
  have h2:=B.sum (f:=f) xs ds (by simpa using h) fun i y e hy he=>hi (i+1) y e (by simpa using hy) (by simpa using he)
  rw[B.cons];simp only[bkL];omega
section
variable {H:Type} (B:Bk H) {enc:TypeId×Value→H} {E:Env} {w:World} {base:Nat} {spare:Nat→Bool} {held:Bool}
theorem dP(hE:EnvOk E){t:TypeId}{T:Ty}(ht:E.t t=some T):E.P.cellsOf t=T.size:=by
 obtain⟨i,z,h1,h2,_⟩:=hE.info ht;unfold Program.cellsOf;rw[h1];exact h2
def Op1(B:Bk H) (enc:TypeId×Value→H) (E:Env) (w:World) (base:Nat) (spare:Nat→Bool) (held:Bool) (T:Ty):Prop :=
 ∀(t:TypeId) (fuel:Nat) (cs:List Value) (x:DataW H×List MemPlace),E.t t=some T→DataW.trod enc E.P w base spare held fuel t cs=some x→∃a:T.den,aT (kOf w) T a cs∧OkV T a∧bkV T a≤B.b x.1
def Op2(B:Bk H) (enc:TypeId×Value→H) (E:Env) (w:World) (base:Nat) (spare:Nat→Bool) (held:Bool) (U:Ty):Prop :=
 ∀(fs:List Field) (off n:Nat) (cs:List Value) (ys:List (DataW H×List MemPlace)),eK E fs off U=true→off+U.size≤cs.length→ys.length=fs.length→(∀(i:Nat) (f:Field),fs[i]?=some f→DataW.trod enc E.P w base spare held n f.type ((cs.drop f.offset).take (E.P.cellsOf f.type))=ys[i]?) →
  ∃a:U.den,aT (kOf w) U a ((cs.drop off).take U.size)∧OkV U a∧bkV U a≤B.all (ys.map (·.1))
theorem qU(hE:EnvOk E){U:Ty}(h:Op1 B enc E w base spare held U) (hp:U.isPair=false):Op2 B enc E w base spare held U:=by
 intro fs off n cs ys hf hl hyl hr
 match fs,hf with
 | [],hf=>cases hf
 | [f],hf =>
  simp only[eK,aYS] at hf;obtain⟨⟨⟨h1,h2⟩,_⟩,_⟩:=hf
  have h1:=aXJ h1
  have ht:=hZ h2
  match ys,hyl with
  | [y],_ =>
   have hy:=hr 0 f rfl
   rw[h1,dP hE ht] at hy;obtain⟨a,r1,r2,r3⟩:=h f.type n _ y ht hy;refine⟨a,r1,r2,?_⟩;simp only[aZM,List.map_nil,B.cons,B.nil];omega
 |f::g::r,hf =>
  cases U with
  |pair a b=>cases hp
  |_=>cases hf
theorem YM(hE:EnvOk E) (T:Ty) (hpl:T.plain=true):Op1 B enc E w base spare held T∧Op2 B enc E w base spare held T:=by
 induction T with
 |int k =>
  have h:Op1 B enc E w base spare held (.int k):=fun t fuel cs x ht hr=>by
   obtain⟨z,h1,_,hwf⟩:=DataW.trod_int (hE.und ht).1 hr;exact⟨z,h1,hwf,B.one _⟩
  exact⟨h,qU B hE h rfl⟩
 |u8 =>
  have h:Op1 B enc E w base spare held .u8:=fun t fuel cs x ht hr=>by
   obtain⟨z,h1,_,hwf⟩:=DataW.trod_int (hE.und ht) hr
   have hz:0≤z∧z≤255:=by simpa [Lit.wf,IntKind.min,IntKind.max,IntKind.signed,IntKind.bits] using hwf
   refine⟨b8 z,?_,trivial,B.one _⟩;show cs=[.int .u8 (n8 (b8 z))];rw[h1];congr 2;unfold n8 b8;rw[UInt8.toNat_ofNat'];omega
  exact⟨h,qU B hE h rfl⟩
 |bool =>
  have h:Op1 B enc E w base spare held .bool:=fun t fuel cs x ht hr=>by
   obtain⟨z,h1,_⟩:=DataW.trod_bool (hE.und ht) hr;exact⟨z,h1,trivial,B.one _⟩
  exact⟨h,qU B hE h rfl⟩
 |str =>
  have h:Op1 B enc E w base spare held .str:=fun t fuel cs x ht hr=>by
   obtain⟨s,h1,hx,hs⟩:=DataW.trod_string (hE.und ht) hr;refine⟨s.data.toList,?_,?_,by rw[hx,B.str]; exact aZ0 _⟩
   ·show cs=[.string (bst s.data.toList)];rw[h1];rfl
   ·show s.data.toList.length≤maxLen
    have:s.data.toList.length=s.size:=aX7
    omega
  exact⟨h,qU B hE h rfl⟩
 |slice T ih =>
  have ih:=ih hpl
  have h:Op1 B enc E w base spare held (.slice T):=fun t fuel cs x ht hr=>by
   obtain⟨te,hu,he⟩:=hE.und ht
   have hc:=dP hE he
   have hpos:0<T.size:=by obtain⟨_,_,_,_,_,_,hpos,_⟩:=hE.info he; exact hpos
   rcases DataW.trod_slice hu hr with⟨rfl,_⟩|⟨a,len,cap,elems,rest,n,rfl,rfl,hxx,hb,hl,hm,hel,hi,_⟩
   ·exact⟨[],⟨none,0,rfl,aZ0 _,aZ1 _,[],rfl,.inl rfl⟩,⟨aZ1 _,fun x hx=>by cases hx⟩,B.one _⟩
   ·rw[hc] at hi
    have hcell:∀j,j<len*T.size→∃v,w.cell? (a.add j)=some v:=fun j hj=>by
     have hq:j / T.size<len:=(Nat.div_lt_iff_lt_mul hpos).2 hj
     have h1:=hi (j / T.size) hq
     rw[aXB (by omega)] at h1
     cases hcs:w.cells? base (a.add (j / T.size*T.size)) T.size with
     |none=>rw[hcs] at h1; cases h1
     |some c =>
      obtain⟨_,c2,c3⟩:=World.cells?_some hcs
      have:=c3 (j%T.size) (Nat.mod_lt _ hpos)
      rw[add_add,Nat.div_add_mod'] at this;rw[this];exact⟨_,aXB (by rw[c2]; exact Nat.mod_lt _ hpos)⟩
    let es:=(List.range (len*T.size)).map fun j=>(w.cell? (a.add j)).getD undef
    have hes:∀j v,es[j]?=some v→w.cell? (a.add j)=some v:=fun j v hv=>by
     have hj:j<len*T.size:=by have:=(aW6.1 hv).1; simpa [es] using this
     obtain⟨u,hu⟩:=hcell j hj;simp only[es,aYO,List.getElem?_range hj,aY7,hu,Option.getD_some,Option.some.injEq] at hv;rw[hu,hv]
    obtain⟨xs,x1,x2,x3⟩:=qT (R:=aT (kOf w) T) (Q:=fun i x=>OkV T x∧∀y,elems[i]?=some y→bkV T x≤B.b y.1) (sz:=T.size) len (es:=es) (by simp[es]) (fun i hil=>by
     have h1:=hi i hil
     rw[aXB (by omega)] at h1
     cases hcs:w.cells? base (a.add (i*T.size)) T.size with
     |none=>rw[hcs] at h1; cases h1
     |some c =>
      rw[hcs] at h1;obtain⟨v,hv,hq,hbk⟩:=ih.1 te n c _ he h1;obtain⟨_,c2,c3⟩:=World.cells?_some hcs
      have:(es.drop (i*T.size)).take T.size=c:=by
       apply aYJ;intro r;rw[aYB]
       split
       ·rename_i hr;rw[aYC]
        have hlt:i*T.size+r<len*T.size:=by
         have:(i+1)*T.size≤len*T.size:=aXW _ hil
         rw[aZY] at this;omega
        have:=c3 r hr
        rw[add_add] at this;simp only[es,aYO,List.getElem?_range hlt,aY7];rw[this,aXB (by omega)];rfl
       ·rename_i hr;rw[aXN (by omega)]
      exact⟨v,by rw[this]; exact hv,hq,fun y hy=>by rw[aXB (by omega)] at hy; injection hy with hy; rw[←hy]; exact hbk⟩)
    refine⟨xs,⟨some a,cap,by show _=[Value.slice _ (List.length xs) cap]; rw[x1],by show List.length xs≤cap; omega,hm,es,x2,?_⟩,⟨by show List.length xs≤maxLen; omega,fun x hx=>by obtain⟨i,hi⟩:=List.mem_iff_getElem?.1 hx; exact(x3 i x hi).1⟩,?_⟩
    by_cases h0:len*T.size=0
    ·left; apply aWZ; simpa [es] using h0
    ·right;obtain⟨v0,hv0⟩:=hcell 0 (by omega)
     have hs:a.spot=none:=by
      have:=SB hv0
      simpa [Addr.add] using this
     refine⟨a,rfl,hs,fun j v hv=>?_⟩
     have:=(qS (hes j v hv) (jX (fun v=>v.oneCell'=true) (fun x cs h=>dB h) x2 v (aXU hv))).2
     rw[bS hs] at this;exact this
    ·have h1:=B.sl (elems.map (·.1)) (rest.map (·.1))
     have h2:=B.sum (f:=bkV T) xs (elems.map (·.1)) (by rw[aZC]; omega) fun i x d hx hd=>by
      rw[aYO] at hd;obtain⟨y,hy,hyd⟩:=aXI.1 hd;rw[←hyd];exact(x3 i x hx).2 y hy
     rw[hxx];show bkL (bkV T) xs+1≤_;exact aZR (Nat.succ_le_succ h2) h1
  exact⟨h,qU B hE h rfl⟩
 |arr n T ih =>
  have ih:=ih hpl
  have h:Op1 B enc E w base spare held (.arr n T):=fun t fuel cs x ht hr=>by
   obtain⟨te,hu,he,_⟩:=hE.und ht
   have hc:=dP hE he
   obtain⟨xs,m,_,hxx,hl,hxl,hf⟩:=DataW.trod_array hu hr;rw[dP hE ht] at hl;rw[hc] at hf;obtain⟨ys,y1,y2,y3⟩:=qT (R:=aT (kOf w) T) (Q:=fun i x=>OkV T x∧∀y,xs[i]?=some y→bkV T x≤B.b y.1) (sz:=T.size) n (es:=cs) hl (fun i hi=>by
    have h1:=hf i hi
    rw[aXB (by omega)] at h1;obtain⟨v,hv,hq,hbk⟩:=ih.1 te m _ _ he h1;exact⟨v,hv,hq,fun y hy=>by rw[aXB (by omega)] at hy; injection hy with hy; rw[←hy]; exact hbk⟩)
   refine⟨ys,⟨y1,y2⟩,fun x hx=>?_,?_⟩
   ·obtain⟨i,hi⟩:=List.mem_iff_getElem?.1 hx; exact(y3 i x hi).1
   ·rw[hxx];refine aZR (B.sum (f:=bkV T) ys (xs.map (·.1)) (by rw[aZC]; omega) fun i x d hx hd=>?_) (B.ag _);rw[aYO] at hd;obtain⟨y,hy,hyd⟩:=aXI.1 hd;rw[←hyd];exact(y3 i x hx).2 y hy
  exact⟨h,qU B hE h rfl⟩
 |unit=>exact⟨fun t fuel cs x ht hr=>(hE.und ht).elim,qU B hE (fun t fuel cs x ht hr=>(hE.und ht).elim) rfl⟩
 |pair a b iha ihb =>
  simp only[Ty.plain,aYS] at hpl
  have iha:=iha hpl.1
  have ihb:=ihb hpl.2
  refine⟨fun t fuel cs x ht hr=>(hE.und ht).elim,?_⟩;intro fs off n cs ys hf hl hyl hr
  match fs,hf with
  | [],hf=>cases hf
  | [f],hf=>simp[eK,Ty.isPair] at hf
  |f::g::r,hf =>
   simp only[eK,aYS] at hf;obtain⟨⟨⟨h1,h2⟩,_⟩,h4⟩:=hf
   have h1:=aXJ h1
   have ht:=hZ h2
   match ys,hyl with
   |y::ys,hyl =>
   have hy:=hr 0 f rfl
   rw[h1,dP hE ht] at hy;obtain⟨va,r1,q1,b1⟩:=iha.1 f.type n _ y ht hy
   have hsz:(Ty.pair a b).size=a.size+b.size:=rfl
   rw[hsz] at hl ⊢;obtain⟨vb,r2,q2,b2⟩:=ihb.2 (g::r) (off+a.size) n cs ys h4 (by omega) (by simpa using hyl) (fun i f' hf'=>by simpa using hr (i+1) f' (by simpa using hf'));refine⟨(va,vb),⟨_,_,?_,r1,r2⟩,⟨q1,q2⟩,?_⟩
   ·rw[List.take_add,aZF]
   ·rw[aZM,B.cons];show bkV a va+bkV b vb≤_;omega
 |st U ih =>
  have ih:=ih hpl
  have h:Op1 B enc E w base spare held (.st U):=fun t fuel cs x ht hr=>by
   obtain⟨fs,hu,hf,_⟩:=hE.und ht;obtain⟨xs,n,_,hxx,hl,hxl,hff⟩:=DataW.trod_struct hu hr;rw[dP hE ht] at hl
   have hl:cs.length=U.size:=hl
   obtain⟨a,r1,q1,b1⟩:=ih.2 fs.toList 0 n cs xs hf (by omega) (by rw[hxl,aX7]) (fun i f hfi=>hff i f (by simpa using hfi));refine⟨a,?_,q1,by rw[hxx]; exact aZR b1 (B.ag _)⟩;rw[aZG,aXG (by omega)] at r1;exact r1
  exact⟨h,qU B hE h rfl⟩
 |nptr=>cases hpl
 |nif=>cases hpl
def cL:List Ty→List PK
 | []=>[]
 |T::Ts=>.k (.v T [])::cL Ts
def aK5:(Ts:List Ty)→Vec (dK (kdP (cL Ts)))→Prop
 | [],_=>True
 |T::Ts,x=>OkV T (vhd T (dK (kdP (cL Ts))) x)∧aK5 Ts (vtl T (dK (kdP (cL Ts))) x)
def aEF:(Ts:List Ty)→Vec (dK (kdP (cL Ts)))→Nat
 | [],_=>0
 |T::Ts,x=>bkV T (vhd T (dK (kdP (cL Ts))) x)+aEF Ts (vtl T (dK (kdP (cL Ts))) x)
theorem yE:∀(t:Ty) (ts:List Ty) (x:t.den) (v:Vec ts),vhd t ts (tE t ts x v)=x
 |_,[],_,_=>rfl
 |_,_::_,_,_=>rfl
theorem yF:∀(t:Ty) (ts:List Ty) (x:t.den) (v:Vec ts),vtl t ts (tE t ts x v)=v
 |_,[],_,_=>rfl
 |_,_::_,_,_=>rfl
theorem SC:∀Ts:List Ty,(cL Ts).length=Ts.length
 | []=>rfl
 |_::Ts=>by simp only[cL,aYR,SC Ts]
theorem DQ(tk:Nat):∀(cs:List Cell) (i n:Nat),iD [] tk i n cs=(cs,[])
 | [],_,_=>rfl
 |c::cs,i,n=>by simp only[iD,lU,DQ tk cs]
theorem SD(T:Ty) (tk n:Nat) (x:T.den):rW T [] tk n x=(pM T x,[]):=by
 unfold rW pM;rw[DQ];cases T.agg<;>cases cellsOf T x<;>rfl
theorem aEG{γ:Ghs}{K:Kn}{T:Ty}{x:T.den}{V:Value}{cs:List Value}(h:aT K T x cs) (hag:T.agg=true→V=.agg cs.toArray) (hno:T.agg=false→cs=[V]):bY γ K (pM T x) V:=by
 have hr:=cI (γ:=γ) h
 unfold pM
 cases ha:T.agg with
 |true =>
  have:V=.agg cs.toArray:=hag ha
  subst this;exact⟨cs,rfl,hr⟩
 |false =>
  have:=hno ha
  subst this
  cases hc:cellsOf T x with
  |nil=>rw[hc] at hr; cases hr
  |cons c r =>
   rw[hc] at hr;obtain⟨v,rr,e,h1,_⟩:=hr;injection e with e1 e2;subst e1;exact h1
theorem aEH(hE:EnvOk E){T:Ty}(hpl:T.plain=true) (hna:∀n U,T≠.arr n U){t:TypeId}{r:Reach}{b0:Nat}{v:Value}{d:DataW H}{ps:List MemPlace}(ht:E.t t=some T) (hv:Value.okWide E.P w r b0 t v) (h:DataW.Trod enc E.P w base spare held t v d ps) :
  ∃a:T.den,(∀γ,bY γ (kOf w) (pM T a) v)∧OkV T a∧bkV T a≤B.b d:=by
 obtain⟨fuel,hf⟩:=h;obtain⟨a,h1,h2,h3⟩:=(YM B hE T hpl).1 t fuel _ _ ht hf;refine⟨a,fun γ=>aEG h1 (fun ha=>?_) (fun ha=>?_),h2,h3⟩
 ·cases T with
  |st U =>
   obtain⟨fs,hu,_⟩:=hE.und ht;obtain⟨cs,rfl,_⟩:=okWide_struct hu hv;simp[Value.cells]
  |arr n U=>exact absurd rfl (hna n U)
  |_=>cases ha
 ·cases T with
  |int k=>obtain⟨n,rfl⟩:=okWide_int (hE.und ht).1 hv; rfl
  |u8=>obtain⟨n,rfl⟩:=okWide_int (hE.und ht) hv; rfl
  |bool=>obtain⟨n,rfl⟩:=okWide_bool (hE.und ht) hv; rfl
  |str=>obtain⟨n,rfl⟩:=okWide_string (hE.und ht) hv; rfl
  |slice U=>obtain⟨te,hu,_⟩:=hE.und ht; obtain⟨_,_,_,rfl⟩:=okWide_slice hu hv; rfl
  |unit=>exact(hE.und ht).elim
  |pair a b=>exact(hE.und ht).elim
  |nptr=>cases hpl
  |nif=>cases hpl
  |_=>cases ha
def aMR:Ty→Bool
 | .arr _ _=>false
 |_=>true
theorem HY(hE:EnvOk E){r:Reach}{b0:Nat}:∀(Ts:List Ty) (ts:List TypeId) (vs:List Value) (ds:List (DataW H)) (ps:List MemPlace),(∀T∈Ts,T.plain=true∧aMR T=true)→ts.map E.t=Ts.map some→(∀(j:Nat) t v,ts[j]?=some t→vs[j]?=some v→Value.okWide E.P w r b0 t v)→DataW.TrodAll enc E.P w base spare held ts vs ds ps →
  ∃x:Vec (dK (kdP (cL Ts))),aK5 Ts x∧aEF Ts x≤B.all ds∧vs.length=Ts.length∧(aR 1 (kdP (cL Ts)) 0 x).2=[]∧∀i0 b,(inP (cL Ts) (aR 1 (kdP (cL Ts)) 0 x).1 i0 b).2=[] ∧
   ∀y v sv,lk (inP (cL Ts) (aR 1 (kdP (cL Ts)) 0 x).1 i0 b).1 y=some (v,sv)→v=0∧i0≤y∧∀γ,aV γ (kOf w) sv (vs.getD (y-i0) undef)
 | [],ts,vs,ds,ps,_,hts,_,h=>by
  cases ts with
  |cons _ _=>simp at hts
  |nil =>
   cases vs with
   |cons _ _=>cases ds<;>exact h.elim
   |nil=>exact⟨(),trivial,aZ1 _,rfl,rfl,fun i0 b=>⟨rfl,fun y v sv hy=>by cases hy⟩⟩
 |T::Ts,ts,vs,ds,ps,hT,hts,hok,h=>by
  cases ts with
  |nil=>simp at hts
  |cons t ts =>
   simp only[aZM,List.cons.injEq] at hts
   cases vs with
   |nil=>cases ds<;>exact h.elim
   |cons v vs =>
    cases ds with
    |nil=>exact h.elim
    |cons d ds =>
     obtain⟨p,q,h1,h2,rfl⟩:=h;obtain⟨a,ha,hq,hb⟩:=aEH B hE (hT T aYE).1 (fun n U e=>by have:=(hT T aYE).2; subst e; cases this) hts.1 (hok 0 t v rfl rfl) h1;obtain⟨x,x1,x0,x2,x3,x4⟩:=HY hE Ts ts vs ds q (fun U hU=>hT U (aXV _ hU)) hts.2 (fun j t' v' e1 e2=>hok (j+1) t' v' e1 e2) h2
     have hu:aR 1 (kdP (cL (T::Ts))) 0 (tE T (dK (kdP (cL Ts))) a x)=(.val (pM T a)::(aR 1 (kdP (cL Ts)) 0 x).1,[]):=by
      show(match gB 1 0 (.v T []) (vhd T (dK (kdP (cL Ts))) (tE T (dK (kdP (cL Ts))) a x)) with
       |(p,os)=>match aR 1 (kdP (cL Ts)) (0+lng os) (vtl T (dK (kdP (cL Ts))) (tE T (dK (kdP (cL Ts))) a x)) with
        |(ps,os')=>(p::ps,app os os'))=_
      rw[yE,yF];simp only[gB,SD,lng,aZV];rw[show aR 1 (kdP (cL Ts)) 0 x=((aR 1 (kdP (cL Ts)) 0 x).1,(aR 1 (kdP (cL Ts)) 0 x).2) from rfl,x3];rfl
     refine⟨tE T _ a x,⟨by rw[yE]; exact hq,by rw[yF]; exact x1⟩,by simp only[aEF,yE,yF,B.cons]; omega,by simp[x2],by rw[hu],fun i0 b=>?_⟩;rw[hu];obtain⟨y1,y2⟩:=x4 (i0+1) b;refine⟨y1,fun y v' sv hy=>?_⟩
     have hy:lk ((i0,0,.val (pM T a))::(inP (cL Ts) (aR 1 (kdP (cL Ts)) 0 x).1 (i0+1) b).1) y=some (v',sv):=hy
     by_cases hb:y=i0
     ·subst hb
      have hy:some (0,SV.val (pM T a))=some (v',sv):=by
       rw[←hy];simp only[lk];rw[show Nat.beq y y=true by simp];rfl
      simp only[Option.some.injEq,Prod.mk.injEq] at hy;obtain⟨e1,e2⟩:=hy;subst e1;subst e2;exact⟨rfl,aZ0 _,fun γ=>by rw[aZX]; exact ha γ⟩
     ·have hbq:Nat.beq i0 y=false:=by
       cases hq:Nat.beq i0 y with
       |false=>rfl
       |true=>exact absurd (aXJ hq).symm hb
      have hy:lk (inP (cL Ts) (aR 1 (kdP (cL Ts)) 0 x).1 (i0+1) b).1 y=some (v',sv):=by
       rw[←hy]
       conv=>rhs; unfold lk
       rw[hbq];rfl
      obtain⟨z1,z2,z3⟩:=y2 y v' sv hy;refine⟨z1,by omega,fun γ=>?_⟩
      have:=z3 γ
      rw[show y-i0=(y-(i0+1))+1 by omega]
      simpa using this
theorem aEI(_hE:EnvOk E){f:Nat}{Ts:List Ty}{fn:Vec (dK (kdP (cL Ts)))→Option (Vec (dK (app [.v .bool []] (kdB (cL Ts)))))}(hc:aH E ⟨f,cL Ts,[.v .bool []],fn⟩){x:Vec (dK (kdP (cL Ts)))}{r:Vec (dK (app [.v .bool []] (kdB (cL Ts))))}(hx:fn x=some r)
  {vs:List Value} (hlen:vs.length=Ts.length) (h1:(aR 1 (kdP (cL Ts)) 0 x).2=[]) (h2:∀i0 b,(inP (cL Ts) (aR 1 (kdP (cL Ts)) 0 x).1 i0 b).2=[] ∧
   ∀y v sv,lk (inP (cL Ts) (aR 1 (kdP (cL Ts)) 0 x).1 i0 b).1 y=some (v,sv)→v=0∧i0≤y∧∀γ,aV γ (kOf w) sv (vs.getD (y-i0) undef)) (hg:eU E (kOf w))
  (hnv:(callFunc f vs.toArray).run E.P w=.ok (.enter f vs.toArray) w) :
  Calls E.P f vs.toArray w fun e w'=>∃V,e=.returned V∧Below w.heap.size w w'∧∃γ K,aV γ K (WN (CA [.v .bool []] (aR 1 (app [.v .bool []] (kdB (cL Ts))) 0 r).1)) V:=by
 have hpl:=SC Ts
 have hob:(start (cL Ts) x).ob=[]:=by
  unfold start;rw[show aR 1 (kdP (cL Ts)) 0 x=((aR 1 (kdP (cL Ts)) 0 x).1,(aR 1 (kdP (cL Ts)) 0 x).2) from rfl,h1]
  have:=(h2 0 (1+lng ([]:List Ob))).1
  simp only;rw[show inP (cL Ts) (aR 1 (kdP (cL Ts)) 0 x).1 0 (1+lng ([]:List Ob))=((inP (cL Ts) (aR 1 (kdP (cL Ts)) 0 x).1 0 (1+lng ([]:List Ob))).1,(inP (cL Ts) (aR 1 (kdP (cL Ts)) 0 x).1 0 (1+lng ([]:List Ob))).2) from rfl,this];rfl
 have hsl:(start (cL Ts) x).sl=(inP (cL Ts) (aR 1 (kdP (cL Ts)) 0 x).1 0 (1+lng ([]:List Ob))).1:=by
  unfold start;rw[show aR 1 (kdP (cL Ts)) 0 x=((aR 1 (kdP (cL Ts)) 0 x).1,(aR 1 (kdP (cL Ts)) 0 x).2) from rfl,h1]
 have hobs:∀j,obs (start (cL Ts) x) j=none:=fun j=>by
  unfold obs;rw[hob];rfl
 have hEnt:Ent E (cL Ts) x w (kOf w) (fun _=>False) (fun _=>none) vs.toArray:=by
  refine⟨by simp[hlen,hpl],fun y v sv hy=>?_,?_,hg,fun j g hg=>(by cases hg),fun j e hj=>(by rw[hob] at hj; cases hj)⟩
  ·rw[hsl] at hy;obtain⟨z1,_,z3⟩:=(h2 0 _).2 y v sv hy;refine⟨z1,?_⟩
   have:=z3 (fun _=>none)
   rw[Nat.sub_zero] at this
   simpa using this
  ·exact⟨rfl,rfl,rfl,aZ0 _,fun b _ _=>⟨rfl,fun _=>rfl⟩,Kn.le.refl _,aMQ w,fun j o g hj=>(by rw[hobs] at hj; cases hj),fun j o g hj=>(by rw[hobs] at hj; cases hj),fun i j p q g g' hi=>(by rw[hobs] at hi; cases hi)⟩
 rcases hc x r hx w (kOf w) _ _ vs.toArray hEnt with⟨v,w',e1,_⟩|⟨_,h⟩
 ·rw[hnv] at e1; cases e1
 ·refine h.mono fun e w' he=>?_
  cases e with
  |returned V =>
   obtain⟨γf,obF,Kf,gs,js,q1,q2,_,_,q5⟩:=he 1 Nat.one_pos;refine⟨V,rfl,⟨q1.os,q1.tape,q1.output,q1.size,fun b hb=>(q1.blk b hb (fun h=>h)).1⟩,fun j=>gs[j-1]?,Kf,q5 _ fun k g hk=>?_⟩;show gs[1+(0+k)-1]?=some g;rw[show 1+(0+k)-1=k by omega];exact hk
  |panicked ch=>exact he.elim
  |outgrown=>exact he.elim
theorem zX{P:Program}{W:World}:∀ {ts:List TypeId}{vs:List Value}{ds:List (DataW H)}{ps:List MemPlace},DataW.TrodAll enc P W base spare held ts vs ds ps→ds.length=ts.length
 | [],[],[],_,_=>rfl
 |_::_,_::_,_::_,_,⟨_,_,_,h,_⟩=>by simp[zX h]
 | [],[],_::_,_,h=>h.elim
 | [],_::_,_,_,h=>h.elim
 |_::_,[],_,_,h=>h.elim
 |_::_,_::_,[],_,h=>h.elim
theorem tJ{P:Program}(hl:laidOutB P=true){W W':World}(hb:Below W.heap.size W W'):∀ {ts:List TypeId}{vs:List Value}{ds:List (DataW H)}{ps:List MemPlace},DataW.TrodAll enc P W 0 (fun _=>true) true ts vs ds ps →
  (∀t∈ts,P.readableRec t=true∧t<P.types.size)→(∀x∈ps,x.block<W.heap.size)→DataW.TrodAll enc P W' 0 (fun b=>decide (b<W.heap.size)) true ts vs ds ps
 | [],[],[],_,h,_,_=>h
 |t::_,_::_,_::_,_,⟨p,q,h1,h2,rfl⟩,hr,hlt =>
  ⟨p,q,Below.trod hl (hr t (aYE ..)).1 (hr t (aYE ..)).2 h1 hb (fun x hx=>hlt x (aXZ _ hx)),
   tJ hl hb h2 (fun t' ht'=>hr t' (aXV _ ht')) (fun x hx=>hlt x (aXK _ hx)),rfl⟩
 | [],[],_::_,_,h,_,_=>h.elim
 | [],_::_,_,_,h,_,_=>h.elim
 |_::_,[],_,_,h,_,_=>h.elim
 |_::_,_::_,[],_,h,_,_=>h.elim
theorem aEJ{P:Program}{f:Func}{s:ChangeSpec}{apart fresh handsOn:Bool}{W W':World}{args:Array Value}{ds gs:List (DataW H)}{before:List MemPlace}{tb:TypeId}
  (hW:DataW.Whole enc P f.params.toList s.vars apart W args.toList ds gs before) (hvars:s.vars=[]) (hfn:s.fn H (ds++gs)={ results:=[.lit (.bool true)],args:=ds })
  (hrt:f.resultTypes=#[tb]) (htb:P.underlying tb=some .bool) (hl:laidOutB P=true) (hread:∀t∈f.params.toList,P.readableRec t=true∧t<P.types.size) (hb:Below W.heap.size W W') :
  s.post enc P f apart fresh handsOn false W args (.bool true) W':=by
 have hlt:∀p∈before,p.block<W.heap.size:=fun p hp=>hW.lt p hp
 have hW0:=hW
 obtain⟨p,q,hA,hV,rfl,_,_⟩:=hW0;refine⟨ds,gs,p++q,[],p,[],hW,?_,?_,?_,hb.frame _,fun h=>by cases h⟩
 ·rw[hfn,hrt];exact trodAll_mk1 (shut_bool htb true)
 ·rw[hfn];exact tJ hl hb hA hread (fun x hx=>hlt x (aXZ _ hx))
 ·rw[hfn,hvars];rfl
end
end Go.W
end

section
namespace Go.W
open Go Go.RowKit
def Ty.flat:Ty→Bool
 | .int _ | .u8 | .bool | .str=>true
 | .arr _ t=>t.flat && !t.isPair
 | .st t=>t.flat
 | .pair a b=>a.flat&&b.flat && !a.isPair
 |_=>false
mutual
def toD{H:Type}:(T:Ty)→T.den→DataW H
 | .int k,x=>.lit (.int k x)
 | .u8,x=>.lit (.int .u8 (n8 x))
 | .bool,x=>.lit (.bool x)
 | .str,x=>.lit (.string x)
 | .arr _ t,xs=>.agg (List.map (toD t) xs)
 | .st B,x=>.agg (qV B x)
 |_,_=>.nil
def qV{H:Type}:(B:Ty)→B.den→List (DataW H)
 | .pair a b,x=>toD a x.1::qV b x.2
 | .int k,x=>[.lit (.int k x)]
 | .u8,x=>[.lit (.int .u8 (n8 x))]
 | .bool,x=>[.lit (.bool x)]
 | .str,x=>[.lit (.string x)]
 | .arr _ t,xs=>[.agg (List.map (toD t) xs)]
 | .st B,x=>[.agg (qV B x)]
 |_,_=>[]
end
theorem DS{H:Type}{T:Ty}(hf:T.flat=true) (hp:T.isPair=false) (x:T.den):qV (H:=H) T x=[toD T x]:=by
 cases T with
 |int k=>simp only[qV,toD]
 |u8=>simp only[qV,toD]
 |bool=>simp only[qV,toD]
 |str=>simp only[qV,toD]
 |arr n t=>simp only[qV,toD]
 |st B=>simp only[qV,toD]
 |pair a b=>cases hp
 |_=>cases hf
theorem U4{α β:Type}{f:α→β}(h:∀x y,f x=f y→x=y):∀ {l m:List α},l.map f=m.map f→l=m
 | [],[],_=>rfl
 | [],_::_,e=>by cases e
 |_::_,[],e=>by cases e
 |x::l,y::m,e=>by
  simp only[aZM,List.cons.injEq] at e;rw[h x y e.1,U4 h e.2]
theorem aIU{H:Type}(T:Ty) (hf:T.flat=true):(∀x y:T.den,T.isPair=false→toD (H:=H) T x=toD T y→x=y)∧(∀x y:T.den,qV (H:=H) T x=qV T y→x=y):=by
 have one:∀ {T:Ty},T.flat=true→T.isPair=false→(∀x y:T.den,toD (H:=H) T x=toD T y→x=y)→(∀x y:T.den,T.isPair=false→toD (H:=H) T x=toD T y→x=y)∧(∀x y:T.den,qV (H:=H) T x=qV T y→x=y):=fun hf hp h =>
  ⟨fun x y _=>h x y,fun x y e=>by
   rw[DS hf hp,DS hf hp] at e;injection e with e _;exact h x y e⟩
 induction T with
 |int k=>exact one hf rfl fun x y e=>by simpa [toD] using e
 |u8 =>
  refine one hf rfl fun x y e=>?_
  have:n8 x=n8 y:=by simpa [toD] using e
  unfold n8 at this;apply UInt8.toNat_inj.1;omega
 |bool=>exact one hf rfl fun x y e=>by simpa [toD] using e
 |str=>exact one hf rfl fun x y e=>by simpa [toD] using e
 |arr n t ih =>
  refine one hf rfl fun x y e=>?_
  simp only[toD,DataW.agg.injEq] at e;simp only[Ty.flat,aYS,aYL] at hf;exact U4 (fun a b h=>(ih hf.1).1 a b hf.2 h) e
 |st B ih =>
  refine one hf rfl fun x y e=>?_
  simp only[toD,DataW.agg.injEq] at e;exact(ih hf).2 x y e
 |pair a b iha ihb =>
  simp only[Ty.flat,aYS,aYL] at hf;refine⟨fun x y hp _=>(by cases hp),fun x y e=>?_⟩;simp only[qV,List.cons.injEq] at e;exact Prod.ext ((iha hf.1.1).1 _ _ hf.2 e.1) ((ihb hf.1.2).2 _ _ e.2)
 |_=>cases hf
theorem vY{α β:Type}{R:α→List Value→Prop}{f:α→β}{sz:Nat}:∀(n:Nat){es:List Value}{xs:List β},es.length=n*sz→xs.length=n→(∀i,i<n→∃a,R a ((es.drop (i*sz)).take sz)∧xs[i]?=some (f a))→∃asl:List α,asl.length=n∧dH R asl es∧xs=asl.map f
 | 0,es,xs,hl,hx,_=>⟨[],rfl,aWZ (by simpa using hl),by simpa using aWZ hx⟩
 |n+1,es,xs,hl,hx,h=>by
  obtain⟨a,ha,hq⟩:=h 0 (Nat.succ_pos n);rw[aZW,aZG] at ha
  cases xs with
  |nil=>simp at hx
  |cons x xs =>
   obtain⟨asl,x1,x2,x3⟩:=vY (R:=R) (f:=f) (sz:=sz) n (es:=es.drop sz) (xs:=xs) (by rw[aYV,hl,aZY]; omega) (by simpa using hx) (fun i hi=>by
    obtain⟨b,hb,hq⟩:=h (i+1) (by omega);refine⟨b,?_,by simpa using hq⟩;rw[aZF];rw[aZY,aZZ,aZQ] at hb;exact hb)
   refine⟨a::asl,by simp[x1],⟨_,_,(aXO sz es).symm,ha,x2⟩,?_⟩;simp only[aXD,Option.some.injEq] at hq;rw[hq,x3];rfl
section
variable {H:Type} {enc:TypeId×Value→H} {E:Env} {w:World} {base:Nat} {spare:Nat→Bool} {held:Bool}
def Dp1(enc:TypeId×Value→H) (E:Env) (w:World) (base:Nat) (spare:Nat→Bool) (held:Bool) (T:Ty):Prop :=
 ∀(t:TypeId) (fuel:Nat) (cs:List Value) (x:DataW H×List MemPlace),E.t t=some T→DataW.trod enc E.P w base spare held fuel t cs=some x→∃a:T.den,aT (kOf w) T a cs∧x.1=toD T a
def Dp2(enc:TypeId×Value→H) (E:Env) (w:World) (base:Nat) (spare:Nat→Bool) (held:Bool) (B:Ty):Prop :=
 ∀(fs:List Field) (off n:Nat) (cs:List Value) (xs:List (DataW H×List MemPlace)),eK E fs off B=true→off+B.size≤cs.length→xs.length=fs.length→(∀(i:Nat) (f:Field),fs[i]?=some f→DataW.trod enc E.P w base spare held n f.type ((cs.drop f.offset).take (E.P.cellsOf f.type))=xs[i]?) →
  ∃a:B.den,aT (kOf w) B a ((cs.drop off).take B.size)∧xs.map (·.1)=qV B a
theorem aMS(hE:EnvOk E){B:Ty}(hfl:B.flat=true) (h:Dp1 enc E w base spare held B) (hp:B.isPair=false):Dp2 enc E w base spare held B:=by
 intro fs off n cs xs hf hl hxl hr
 match fs,hf with
 | [],hf=>cases hf
 | [f],hf =>
  simp only[eK,aYS] at hf;obtain⟨⟨⟨h1,h2⟩,_⟩,_⟩:=hf
  have h1:=aXJ h1
  have ht:=hZ h2
  have hy:=hr 0 f rfl
  rw[h1,dP hE ht] at hy
  match xs,hxl with
  | [y],_ =>
   obtain⟨a,r1,r2⟩:=h f.type n _ y ht hy;exact⟨a,r1,by rw[DS hfl hp,←r2]; rfl⟩
 |f::g::r,hf =>
  cases B with
  |pair a b=>cases hp
  |_=>cases hf
theorem aBF(hE:EnvOk E) (T:Ty) (hfl:T.flat=true):(T.isPair=false→Dp1 enc E w base spare held T)∧Dp2 enc E w base spare held T:=by
 have both:∀ {T:Ty},T.flat=true→T.isPair=false→Dp1 enc E w base spare held T→(T.isPair=false→Dp1 enc E w base spare held T)∧Dp2 enc E w base spare held T:=fun hf hp h=>⟨fun _=>h,aMS hE hf h hp⟩
 induction T with
 |int k =>
  refine both hfl rfl fun t fuel cs x ht hr=>?_
  obtain⟨z,h1,h2,_⟩:=DataW.trod_int (hE.und ht).1 hr;exact⟨z,h1,by rw[h2]; simp only[toD]⟩
 |u8 =>
  refine both hfl rfl fun t fuel cs x ht hr=>?_
  obtain⟨z,h1,h2,hwf⟩:=DataW.trod_int (hE.und ht) hr
  have hz:0≤z∧z≤255:=by simpa [Lit.wf,IntKind.min,IntKind.max,IntKind.signed,IntKind.bits] using hwf
  have e:n8 (b8 z)=z:=by
   unfold n8 b8;rw[UInt8.toNat_ofNat'];omega
  refine⟨b8 z,?_,by rw[h2]; simp only[toD,e]⟩;show cs=[.int .u8 (n8 (b8 z))];rw[h1,e]
 |bool =>
  refine both hfl rfl fun t fuel cs x ht hr=>?_
  obtain⟨z,h1,h2⟩:=DataW.trod_bool (hE.und ht) hr;exact⟨z,h1,by rw[h2]; simp only[toD]⟩
 |str =>
  refine both hfl rfl fun t fuel cs x ht hr=>?_
  obtain⟨s,h1,hx,_⟩:=DataW.trod_string (hE.und ht) hr;refine⟨s.data.toList,?_,by rw[hx]; simp only[toD]⟩;show cs=[.string (bst s.data.toList)];rw[h1];rfl
 |arr n T ih =>
  simp only[Ty.flat,aYS,aYL] at hfl;refine both (by simp only[Ty.flat,hfl.1,hfl.2]; rfl) rfl fun t fuel cs x ht hr=>?_
  obtain⟨te,hu,he,_⟩:=hE.und ht
  have hc:=dP hE he
  obtain⟨xs,m,_,hx,hl,hxl,hf⟩:=DataW.trod_array hu hr;rw[dP hE ht] at hl;rw[hc] at hf;obtain⟨ys,y1,y2,y3⟩:=vY (R:=aT (kOf w) T) (f:=toD (H:=H) T) (sz:=T.size) n (es:=cs) (xs:=xs.map (·.1)) hl (by simpa using hxl) (fun i hi=>by
   have h1:=hf i hi
   rw[aXB (by omega)] at h1;obtain⟨a,r1,r2⟩:=(ih hfl.1).1 hfl.2 te m _ _ he h1;exact⟨a,r1,by rw[aYO,aXB (by omega)]; simp[r2]⟩)
  exact⟨ys,⟨y1,y2⟩,by rw[hx]; simp only[toD,y3]⟩
 |pair a b iha ihb =>
  simp only[Ty.flat,aYS,aYL] at hfl;refine⟨fun hp=>(by cases hp),?_⟩;intro fs off n cs xs hf hl hxl hr
  match fs,hf with
  | [],hf=>cases hf
  | [f],hf=>simp[eK,Ty.isPair] at hf
  |f::g::r,hf =>
   simp only[eK,aYS] at hf;obtain⟨⟨⟨h1,h2⟩,_⟩,h4⟩:=hf
   have h1:=aXJ h1
   have ht:=hZ h2
   have hy:=hr 0 f rfl
   rw[h1,dP hE ht] at hy
   cases xs with
   |nil=>simp at hxl
   |cons x xs =>
    obtain⟨va,r1,q1⟩:=(iha hfl.1.1).1 hfl.2 f.type n _ x ht hy
    have hsz:(Ty.pair a b).size=a.size+b.size:=rfl
    rw[hsz] at hl ⊢;obtain⟨vb,r2,q2⟩:=(ihb hfl.1.2).2 (g::r) (off+a.size) n cs xs h4 (by omega) (by simpa using hxl) (fun i f' hf'=>by simpa using hr (i+1) f' hf');refine⟨(va,vb),⟨_,_,?_,r1,r2⟩,?_⟩
    ·rw[List.take_add,aZF]
    ·simp only[aZM,qV,q1,q2]
 |st B ih =>
  refine both hfl rfl fun t fuel cs x ht hr=>?_
  obtain⟨fs,hu,hf,_⟩:=hE.und ht;obtain⟨xs,n,_,hx,hl,hxl,hff⟩:=DataW.trod_struct hu hr;rw[dP hE ht] at hl
  have hl:cs.length=B.size:=hl
  obtain⟨a,r1,q1⟩:=(ih hfl).2 fs.toList 0 n cs xs hf (by omega) (by simpa using hxl) (fun i f hfi=>hff i f (by simpa using hfi));refine⟨a,?_,by rw[hx]; simp only[toD,q1]⟩;rw[aZG,aXG (by omega)] at r1;exact r1
 |_=>cases hfl
theorem sI(hE:EnvOk E){W:World}{name:String}{D:DataW Unit}{g t:Nat}{T:Ty}{x:T.den}{cs:Array Value}{fuel:Nat}{p:List MemPlace}{enc:TypeId×Value→Unit}{base:Nat}{spare:Nat→Bool}{held:Bool}(hg:E.P.globalNamed name=some g) (ht:E.t t=some T) (hfl:T.flat=true) (hp:T.isPair=false) (hv:W.var? E.P name=some cs) (hd:DataW.trod enc E.P W base spare held fuel t cs.toList=some (D,p)) (hx:D=toD T x) :
  ∃cs,aT (kOf W) T x cs∧(∀j u,cs[j]?=some u→kOf W g j=some u)∧kOf W g cs.length=some (.tuple #[]):=by
 obtain⟨a,r1,r2⟩:=(aBF hE T hfl).1 hp t fuel cs.toList _ ht hd
 have:a=x:=(aIU T hfl).1 a x hp (by rw[←r2,←hx])
 subst this;refine⟨cs.toList,r1,fun j u hu=>?_,?_⟩
 ·have h1:=World.var?_cell hg hv j
  have hm:=dB r1 u (aXU hu)
  have hu:cs[j]?=some u:=by simpa using hu
  rw[hu] at h1;exact(qS h1 hm).2
 ·unfold World.var? at hv;rw[hg] at hv;simp only[Option.bind_some] at hv
  split at hv
  ·rename_i cs' e fz hb;injection hv with hv;subst hv;rw[aX7];exact aIT hb
  ·cases hv
theorem aK6{W:World}{name:String}{D:DataW Unit}{g t:Nat}{cs:Array Value}{fuel:Nat}{p:List MemPlace}{enc:TypeId×Value→Unit}{base:Nat}{spare:Nat→Bool}{held:Bool}{ms}(hg:E.P.globalNamed name=some g) (hu:E.P.underlying t=some (.interface ms)) (hv:W.var? E.P name=some cs) (hd:DataW.trod enc E.P W base spare held fuel t cs.toList=some (D,p)) :
  ∃v,kOf W g 0=some v∧(v=.nilIface∨∃u x,v=.iface u x):=by
 have h0:=World.var?_cell hg hv 0
 obtain⟨l⟩:=cs
 cases fuel with
 |zero=>cases hd
 |succ fuel =>
  unfold DataW.trod at hd;rw[hu] at hd
  match l,hd,h0 with
  | [.nilIface],_,h0=>exact⟨_,(qS h0 rfl).2,Or.inl rfl⟩
  | [.iface u x],_,h0=>exact⟨_,(qS h0 rfl).2,Or.inr ⟨u,x,rfl⟩⟩
end
end Go.W
end
