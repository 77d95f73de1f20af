/-
  Texts put together, in build order: XL XM XN XP XQ XR XS XU XV XT XW XX XY XZ XZa XZb TD TE TF TG TH TI TJ TK TL TM TN TO TP.
-/
import Derived.Test.YtpblmlldkpkomaaGreatDoorZdB
import Derived.Lib.ParseIntBCases
set_option linter.all false

section
set_option linter.all false
namespace Go.Mo
open Go Go.W Go.Lib
set_option maxRecDepth 100000
noncomputable section
def atM:List Ls→List At→List At→Int×List At
 |_,out,[]=>(0,out)
 |seen,out,a::r=>if a.1∈seen then(7,[]) else if(bM a.2).2≠0 then((bM a.2).2,[]) else atM (seen++[a.1]) (out++[(a.1,(bM a.2).1)]) r
def jV(p:Ps) (t:Tok):Int×Ps :=
 if(t.2.1::t.2.2.1.map Prod.fst).all nmX=false then(5,p) else if 16<t.2.2.1.length then(9,p) else if(atM [] [] t.2.2.1).1≠0 then((atM [] [] t.2.2.1).1,p) else if dC p false≠0 then(dC p false,p)
 else(0,p.1++[(t.2.1,[],(atM [] [] t.2.2.1).2,(p.2.1.length:Int))],if t.1=1 then p.2.1++[t.2.1] else p.2.1,false)
theorem aC7{R:Type}{l:List At}(hl:l.length≤300000) (n0:Ls) (K:List Ls×Int→Option R) :
  aY (fun v19 (v20:(List Y_)×Int) =>
  cnd (ilt v20.2 (len l))
   (grd (inb v20.2 (len l))
    (grd (cL (aE (len v20.1) (len ([(aA l (toN v20.2) ([],[])).1]:List Y_))) 16)
     (v19 (bL v20.1 ([(aA l (toN v20.2) ([],[])).1]:List Y_),w64 (aE v20.2 (1:Int))))))
   (K v20)) fuelH (([n0]:List Y_),(0:Int))=K (n0::l.map Prod.fst,(l.length:Int)):=by
 have h:=bT (s:=l) (fun (a:List Ls) (j:Nat)=>(a,(j:Int))) (fun a r=>K (a++r.map Prod.fst,(l.length:Int))) (fun j a=>a.length≤j+1)
  (F:=fun v19 (v20:(List Y_)×Int) =>
  cnd (ilt v20.2 (len l))
   (grd (inb v20.2 (len l))
    (grd (cL (aE (len v20.1) (len ([(aA l (toN v20.2) ([],[])).1]:List Y_))) 16)
     (v19 (bL v20.1 ([(aA l (toN v20.2) ([],[])).1]:List Y_),w64 (aE v20.2 (1:Int))))))
   (K v20)) ?_ fuelH 0 [n0] (bU (by omega) _) (bKD _) (by simp)
 ·exact h
 ·intro self a j hj hI hself;dsimp only
  by_cases hjl:j<l.length
  ·have hw:w64 (aE (j:Int) 1)=((j+1:Nat):Int):=aO hjl (by omega)
   rw[aD (aP (by simp only[len]; omega)),aF (aS (by simp only[len]; omega)),aU hjl,aF (cU (by simp only[len,aE,bI3,bJL]; omega)),hw,bHK hjl];refine bKF (hself (a++[(l[j]).1]) (j+1) (by omega) (by omega) (by simp; omega)) ?_;rw[bJY,bIW];rfl
  ·obtain rfl:j=l.length:=by omega
   rw[aC (aQ (by simp only[len]; omega)),bJD];simp
theorem aOC{R:Type}{l:List Ls}(hl:l.length≤400000) (bad:Option R) (K:Option R) :
  aY (fun v15 (v16:Int) =>
   cnd (ilt v16 (len l))
    (grd (inb v16 (len l))
     (bnd (dW fuelH (aA l (toN v16) [])) fun v17 =>
     cnd (bA v17)
      bad
      (v15 (w64 (aE v16 (1:Int))))))
    K) fuelH (0:Int)=if l.all nmX=false then bad else K:=by
 have h:=bT (s:=l) (fun (_:Unit) (j:Nat)=>(j:Int)) (fun _ r=>if r.all nmX=false then bad else K) (fun _ _=>True)
  (F:=fun v15 (v16:Int) =>
   cnd (ilt v16 (len l))
    (grd (inb v16 (len l))
     (bnd (dW fuelH (aA l (toN v16) [])) fun v17 =>
     cnd (bA v17)
      bad
      (v15 (w64 (aE v16 (1:Int))))))
    K) ?_ fuelH 0 () (bU (by omega) _) (bKD _) trivial
 ·exact h
 ·intro self a j hj _ hself
  by_cases hjl:j<l.length
  ·have hw:w64 (aE (j:Int) 1)=((j+1:Nat):Int):=aO hjl (by omega)
   rw[aD (aP (by simp only[len]; omega)),aF (aS (by simp only[len]; omega)),aU hjl,FG,aB,hw,bHK hjl,bJ1]
   by_cases e:nmX l[j]=true
   ·rw[e,aC (by rfl),bJ0];exact hself () (j+1) (by omega) (by omega) trivial
   ·have e:nmX l[j]=false:=by simpa using e
    rw[e,aD (by rfl),bJV,if_pos rfl]
  ·obtain rfl:j=l.length:=by omega
   rw[aC (aQ (by simp only[len]; omega)),bJD];rfl
theorem H2{R:Type}{l:List At}(hl:l.length≤400000) (name:Ls) (bad:Option R) (K:Option R) :
  aY (fun v12 (v13:Int) =>
       cnd (ilt v13 (len l))
        (grd (inb v13 (len l))
         (cnd (seq (aA l (toN v13) ([],[])).1 name)
          bad
          (v12 (w64 (aE v13 (1:Int))))))
        K) fuelH (0:Int)=if name∈l.map Prod.fst then bad else K:=by
 have h:=bT (s:=l) (fun (_:Unit) (j:Nat)=>(j:Int)) (fun _ r=>if name∈r.map Prod.fst then bad else K) (fun _ _=>True)
  (F:=fun v12 (v13:Int) =>
       cnd (ilt v13 (len l))
        (grd (inb v13 (len l))
         (cnd (seq (aA l (toN v13) ([],[])).1 name)
          bad
          (v12 (w64 (aE v13 (1:Int))))))
        K) ?_ fuelH 0 () (bU (by omega) _) (bKD _) trivial
 ·exact h
 ·intro self a j hj _ hself
  by_cases hjl:j<l.length
  ·have hw:w64 (aE (j:Int) 1)=((j+1:Nat):Int):=aO hjl (by omega)
   rw[aD (aP (by simp only[len]; omega)),aF (aS (by simp only[len]; omega)),aU hjl,hw,bHK hjl,bJY]
   by_cases e:(l[j]).1=name
   ·rw[aD (by rw[cF]; exact e),if_pos (by rw[e]; exact bIQ)]
   ·rw[aC (by rw[bO]; simpa using e)];refine bKF (hself () (j+1) (by omega) (by omega) trivial) ?_
    have:(name∈(l[j]).1::(l.drop (j+1)).map Prod.fst)↔(name∈(l.drop (j+1)).map Prod.fst):=by
     rw[bJX];exact⟨fun k=>k.resolve_left (fun q=>e q.symm),.inr⟩
    simp only[this]
  ·obtain rfl:j=l.length:=by omega
   rw[aC (aQ (by simp only[len]; omega)),bJD];rfl
theorem yC{p:Ps}{t:Tok}(hl:t.2.2.1.length≤300000) (hv:∀a∈t.2.2.1,a.2.length≤900000) (hp:p.1.length≤300000) (ho:p.2.1.length≤300000):q88 fuelH (p,t)=some (jV p t):=by
 unfold q88 jV;dsimp only;rw[bF];refine bKF (aC7 hl t.2.1 _) ?_;dsimp only;rw[bF];refine bKF (aOC (by simp; omega) _ _) ?_
 by_cases h1:(t.2.1::t.2.2.1.map Prod.fst).all nmX=false
 ·rw[if_pos h1,if_pos h1]
 rw[if_neg h1,if_neg h1]
 by_cases h2:16<t.2.2.1.length
 ·rw[aD (aP (by simp only[len]; omega)),if_pos h2]
 rw[aC (aQ (by simp only[len]; omega)),if_neg h2,bF];generalize hal:t.2.2.1=l at *
 have h:=bT (s:=l) (fun (out:List At) (j:Nat)=>((j:Int),(t.2.1,(([]:Y_),(out,len p.2.1)))))
  (fun out r=>some (if(atM ((l.take (l.length-r.length)).map Prod.fst) out r).1≠0 then((atM ((l.take (l.length-r.length)).map Prod.fst) out r).1,p) else if dC p false≠0 then(dC p false,p)
   else(0,p.1++[(t.2.1,[],(atM ((l.take (l.length-r.length)).map Prod.fst) out r).2,(p.2.1.length:Int))],if t.1=1 then p.2.1++[t.2.1] else p.2.1,false))) (fun j out=>out.length≤j)
  (F:=fun v5 (v6:Int×Y_×Y_×(List (Y_×Y_))×Int) =>
     cnd (ilt v6.1 (len l))
      (jn (fun (v7:Y_×Y_×(List (Y_×Y_))×Int) =>
       v5 (w64 (aE v6.1 (1:Int)),v7))
      fun v8 =>
      grd (inb v6.1 (len l)) <|
      jn (fun (v9:Unit) =>
       bnd (q84 fuelH (aA l (toN v6.1) ([],[])).2) fun v10 =>
       cnd (ine v10.2 (0:Int))
        (some (v10.2,p))
        (grd (cL (aE (len v6.2.2.2.1) (len ([((aA l (toN v6.1) ([],[])).1,v10.1)]:List (Y_×Y_)))) 32)
         (v8 (v6.2.1,v6.2.2.1,bL v6.2.2.2.1 ([((aA l (toN v6.1) ([],[])).1,v10.1)]:List (Y_×Y_)),v6.2.2.2.2))))
      fun v11 =>
      grd (in2 v6.1 (len l)) <|
      aY (fun v12 (v13:Int) =>
       cnd (ilt v13 (len (aW (toN v6.1) l)))
        (grd (inb v13 (len (aW (toN v6.1) l)))
         (cnd (seq (aA (aW (toN v6.1) l) (toN v13) ([],[])).1 (aA l (toN v6.1) ([],[])).1)
          (some ((7:Int),p))
          (v12 (w64 (aE v13 (1:Int))))))
        (v11 ())) fuelH (0:Int))
      ((fun (v2:Y_×Y_×(List (Y_×Y_))×Int) =>
     bnd (q85 fuelH (p,false)) fun v3 =>
     cnd (ine v3.1 (0:Int))
      (some v3)
      (grd (cL (aE (len v3.2.1) (len ([v2]:List (Y_×Y_×(List (Y_×Y_))×Int)))) 64)
       (cnd (ieq t.1 (1:Int))
        (grd (cL (aE (len v3.2.2.1) (len ([t.2.1]:List Y_))) 16)
         (some ((0:Int),bL v3.2.1 ([v2]:List (Y_×Y_×(List (Y_×Y_))×Int)),bL v3.2.2.1 ([t.2.1]:List Y_),false)))
        (some ((0:Int),bL v3.2.1 ([v2]:List (Y_×Y_×(List (Y_×Y_))×Int)),v3.2.2.1,false))))) v6.2)) ?_ fuelH 0 [] (bU (by omega) _) (bKD _) (bKD _)
 ·refine bKF h ?_;rw[bJS,bJ9];rfl
 ·intro self out j hj hI hself;dsimp only
  by_cases hjl:j<l.length
  ·have hw:w64 (aE (j:Int) 1)=((j+1:Nat):Int):=aO hjl (by omega)
   have hva:=hv _ (bJE hjl)
   have hin:inb (j:Int) (len l)=true:=aS (by simp only[len]; omega)
   have htk:aW (toN (j:Int)) l=l.take j:=by simp[aW,toN]
   rw[aD (aP (by simp only[len]; omega)),bF,aF hin,bF,aF (dG (by simp only[len]; omega)),htk,aU hjl];refine bKF (H2 (by rw[bI6]; omega) _ _ _) ?_
   have hrl:l.length-(l.drop j).length=j:=by rw[bI7]; omega
   have hrl2:l.length-(l.drop (j+1)).length=j+1:=by rw[bI7]; omega
   rw[hrl,bHK hjl]
   have hat:atM ((l.take j).map Prod.fst) out (l[j]::l.drop (j+1))=if(l[j]).1∈(l.take j).map Prod.fst then(7,[]) else if(bM (l[j]).2).2≠0 then((bM (l[j]).2).2,[]) else atM ((l.take j).map Prod.fst++[(l[j]).1]) (out++[((l[j]).1,(bM (l[j]).2).1)]) (l.drop (j+1)):=rfl
   rw[hat]
   by_cases h3:(l[j]).1∈(l.take j).map Prod.fst
   ·rw[if_pos h3,if_pos h3];rfl
   rw[if_neg h3,if_neg h3,aFF (by omega),aB]
   by_cases h4:(bM (l[j]).2).2=0
   ·rw[aC (bW h4),if_neg (show ¬(bM (l[j]).2).2≠0 from fun k=>k h4),aF (cU (by simp only[len,aE,bI3,bJL]; omega)),hw]
    have hseen:(l.take j).map Prod.fst++[(l[j]).1]=(l.take (j+1)).map Prod.fst:=by
     rw[bHA hjl,bJP];rfl
    rw[hseen];refine bKF (hself (out++[((l[j]).1,(bM (l[j]).2).1)]) (j+1) (by omega) (by omega) (by simp; omega)) ?_;rw[hrl2]
   ·rw[aD (bX h4),if_pos h4];dsimp only;rw[if_pos h4]
  ·obtain rfl:j=l.length:=by omega
   rw[aC (aQ (by simp only[len]; omega)),bJD,bJL,Nat.sub_zero,aFG,aB]
   have hat:∀seen out,atM seen out []=(0,out):=fun _ _=>rfl
   rw[hat];dsimp only;rw[if_neg (show ¬(0:Int)≠0 by simp)]
   by_cases h5:dC p false=0
   ·rw[aC (bW h5),if_neg (fun k=>k h5),aF (cU (by simp only[len,aE,bI3,bJL]; omega))]
    by_cases h6:t.1=1
    ·rw[aD (cB h6),if_pos h6,aF (cU (by simp only[len,aE,bI3,bJL]; omega))];rfl
    ·rw[aC (bS h6),if_neg h6];rfl
   ·rw[aD (bX h5),if_pos h5]
def gC(p:Ps) (t:Tok) (first:Bool):Int×Ps:=if t.1=0 then zR p t.2.2.2 else if t.1=2 then JR p t.2.1 else if t.1=4 then(if t.2.2.2=[60,63]∧first=false then(4,p) else(0,p)) else jV p t
theorem aQ9{p:Ps}{t:Tok}(first:Bool) (hx:t.2.2.2.length≤300000) (hl:t.2.2.1.length≤300000) (hv:∀a∈t.2.2.1,a.2.length≤900000) (hp:p.1.length≤300000) (ho:p.2.1.length≤300000) (hj:p.2.2=true→p.1≠[]) (ht:∀n∈p.1,n.2.1.length≤4000000):q89 fuelH (p,t,first)=some (gC p t first):=by
 unfold q89 gC;dsimp only
 by_cases h0:t.1=0
 ·rw[aD (cB h0),if_pos h0,aOB hx hj hp ht];rfl
 rw[aC (bS h0),if_neg h0]
 by_cases h2:t.1=2
 ·rw[aD (cB h2),if_pos h2,aZ2 ho];rfl
 rw[aC (bS h2),if_neg h2]
 by_cases h4:t.1=4
 ·rw[aD (cB h4),if_pos h4]
  by_cases h5:t.2.2.2=[60,63]
  ·rw[aD (by rw[cF]; exact h5)]
   cases first with
   |true=>rw[if_neg (by simp)]; rfl
   |false=>rw[if_pos ⟨h5,rfl⟩]; rfl
  ·rw[aC (by rw[bO]; simpa using h5),if_neg (fun k=>h5 k.1)]
 ·rw[aC (bS h4),if_neg h4,yC hl hv hp ho];rfl
theorem aJB{t r:Ls}{a:Aq}(h:eQ t=some (a,r)):a.2.length≤t.length:=by
 unfold eQ at h
 split at h
 ·cases h
 split at h
 ·cases h
 rename_i b r2 h2
 split at h
 ·split at h
  ·cases h
  rename_i q r4 h4
  split at h
  ·split at h
   ·rename_i v r5 h5;injection h with h;injection h with h _;subst h
    have e1:=JL h5
    have e2:=dH r2
    have e3:=dH (t.drop (cD t).length)
    rw[h4,bI3] at e2;rw[h2,bI3,bI7] at e3;show v.length≤_;omega
   ·cases h
  ·cases h
 ·cases h
theorem H5:∀(n:Nat) (t:Ls) (l:List Aq){k:Int}{m:List Aq}{r:Ls},tM n t l=some (k,m,r)→∃u,u++r=t
 | 0,_,_,_,_,_,h=>by cases h
 |n+1,t,l,k,m,r,h=>by
  obtain⟨u0,h0⟩:=FJ t;unfold tM at h;generalize skp t=u at *
  match u with
  | []=>cases h
  |b::q =>
   dsimp only at h
   split at h
   ·injection h with h;injection h with h1 h;injection h with h2 h3;subst h3;exact⟨u0++[b],by rw[←h0]; simp⟩
   split at h
   ·injection h with h;injection h with h1 h;injection h with h2 h3;subst h3;exact⟨u0++(b::q.take 1),by rw[←h0,bIW,bI5,bH0]⟩
   split at h
   ·cases h
   cases ha:eQ (b::q) with
   |none=>rw[ha] at h; cases h
   |some p =>
    obtain⟨a,r2⟩:=p;rw[ha] at h;obtain⟨u1,h1⟩:=MY ha;obtain⟨u2,h2⟩:=H5 n r2 (l++[a]) h;exact⟨u0++(u1++u2),by rw[←h0,←h1,←h2]; simp⟩
theorem aOD{t r:Ls}(h:∃u,u++r=t):∃k,r=t.drop k:=by
 obtain⟨u,rfl⟩:=h;exact⟨u.length,by rw[List.drop_left]⟩
theorem NC{s r:Ls}{t:Tok}(h:jU s=some (t,r)):∃k,r=s.drop k:=by
 match s with
 | []=>cases h
 |b::u =>
  rw[gS] at h
  have note:∀head tail:Ls,jA (b::u) head tail=some (t,r)→∃k,r=(b::u).drop k:=fun head tail h=>by
   unfold jA at h
   split at h
   ·cases h
   ·injection h with h;injection h with _ h;exact⟨_,h.symm⟩
  split at h
  ·split at h
   ·exact note _ _ h
   split at h
   ·exact note _ _ h
   split at h
   ·unfold JN at h
    split at h
    ·cases h
    obtain⟨u1,h1⟩:=FJ (((b::u).drop 2).drop (cD ((b::u).drop 2)).length)
    split at h
    ·cases h
    ·rename_i c q hq
     split at h
     ·injection h with h;injection h with _ h;subst h;refine aOD ⟨(b::u).take 2++(((b::u).drop 2).take (cD ((b::u).drop 2)).length++(u1++[c])),?_⟩;rw[hq] at h1
      conv=>rhs; rw[←bH0 2 (b::u),←bH0 (cD ((b::u).drop 2)).length ((b::u).drop 2),←h1]
      simp
     ·cases h
   ·unfold zQ at h
    split at h
    ·cases h
    split at h
    ·cases h
    ·rename_i k l q hq;injection h with h;injection h with _ h;subst h;obtain⟨u1,h1⟩:=H5 _ _ _ hq;refine aOD ⟨(b::u).take 1++(((b::u).drop 1).take (cD ((b::u).drop 1)).length++u1),?_⟩;rw[bIW,bIW,h1,bH0,bH0]
  ·injection h with h;injection h with _ h;exact⟨_,h.symm⟩
theorem ND:∀(n:Nat) (t:Ls) (l:List Aq){k:Int}{m:List Aq}{r:Ls},tM n t l=some (k,m,r)→∀a∈m,a∈l∨a.2.length≤t.length
 | 0,_,_,_,_,_,h=>by cases h
 |n+1,t,l,k,m,r,h=>by
  have hk:=dH t
  unfold tM at h;generalize skp t=u at *
  match u with
  | []=>cases h
  |b::q =>
   dsimp only at h
   split at h
   ·injection h with h;injection h with h1 h;injection h with h2 h3;subst h2;exact fun a ha=>.inl ha
   split at h
   ·injection h with h;injection h with h1 h;injection h with h2 h3;subst h2;exact fun a ha=>.inl ha
   split at h
   ·cases h
   cases ha:eQ (b::q) with
   |none=>rw[ha] at h; cases h
   |some p =>
    obtain⟨a,r2⟩:=p;rw[ha] at h
    have h1:=kL ha
    have hval:a.2.length≤(b::q).length:=aJB ha
    intro x hx;rcases ND n r2 (l++[a]) h x hx with h2|h2
    ·rcases bJG.1 h2 with h3|h3
     ·exact .inl h3
     ·simp at h3;subst h3;exact .inr (by omega)
    ·exact .inr (by omega)
structure TokOk (n:Nat) (t:Tok):Prop where
 tx:t.2.2.2.length≤n
 al:t.2.2.1.length≤n
 av:∀a∈t.2.2.1,a.2.length≤n
theorem zS{s r:Ls}{t:Tok}(h:jU s=some (t,r)):TokOk s.length t∧(t.1=0→t.2.2.2.length+r.length=s.length):=by
 match s with
 | []=>cases h
 |b::u =>
  rw[gS] at h
  have note:∀head tail:Ls,head.length≤(b::u).length→jA (b::u) head tail=some (t,r)→TokOk (b::u).length t∧(t.1=0→t.2.2.2.length+r.length=(b::u).length):=fun head tail h1 h=>by
   unfold jA at h
   split at h
   ·cases h
   ·injection h with h;injection h with h _;subst h;exact⟨⟨h1,bKD _,fun a ha=>(by cases ha)⟩,fun k=>(by cases k)⟩
  split at h
  ·split at h
   ·rename_i hh
    have:=congrArg List.length hh
    rw[bI6] at this;exact note _ _ (by simp at this ⊢; omega) h
   split at h
   ·rename_i hh
    have:=congrArg List.length hh
    rw[bI6] at this;exact note _ _ (by simp at this ⊢; omega) h
   split at h
   ·unfold JN at h
    split at h
    ·cases h
    split at h
    ·cases h
    ·split at h
     ·injection h with h;injection h with h _;subst h;exact⟨⟨bKD _,bKD _,fun a ha=>(by cases ha)⟩,fun k=>(by cases k)⟩
     ·cases h
   ·unfold zQ at h
    split at h
    ·cases h
    split at h
    ·cases h
    ·rename_i k l q hq;injection h with h;injection h with h _;subst h
     have h1:=pR _ _ _ hq
     have h2:=ND _ _ _ hq
     rw[bI7,bI7] at h1;refine⟨⟨bKD _,?_,fun a ha=>?_⟩,fun e=>?_⟩
     ·have:=h1.2.1
      simp only[bJL] at this;show l.length≤_;omega
     ·rcases h2 a ha with h3|h3
      ·cases h3
      ·rw[bI7,bI7] at h3;omega
     ·rcases h1.2.2 with h3|h3<;>(have e:k=0:=e; omega)
  ·injection h with h;injection h with h h2;subst h;subst h2
   have:=gP (P:=not60) (b::u)
   refine⟨⟨this,bKD _,fun a ha=>(by cases ha)⟩,fun _=>?_⟩;rw[bI7];show((b::u).takeWhile not60).length+_=_;omega
structure PsOk (i:Nat) (p:Ps):Prop where
 jn:p.2.2=true→p.1≠[]
 nl:p.1.length≤i
 sl:p.2.1.length≤i
 tx:∀n∈p.1,n.2.1.length≤4*i
theorem H6{l:List Nd}{t:Ls}(h:l≠[]):∃n,l=l.dropLast++[n]∧hM l t=l.dropLast++[(n.1,n.2.1++t,n.2.2)]:=by
 obtain⟨n,q1,q2,_⟩:=kR h;exact⟨n,q2,by unfold hM; rw[q1]⟩
theorem aFH{s r:Ls}{t:Tok}{i:Nat}{p:Ps}(first:Bool) (hn:jU s=some (t,r)) (hp:PsOk i p) (h0:(gC p t first).1=0):PsOk (i+(s.length-r.length)) (gC p t first).2:=by
 have hl:=jB hn
 have hk:=zS hn
 have mono:PsOk (i+(s.length-r.length)) p:=⟨hp.jn,by have:=hp.nl; omega,by have:=hp.sl; omega,fun n h=>by have:=hp.tx n h; omega⟩
 unfold gC at *
 by_cases c0:t.1=0
 ·rw[if_pos c0] at *
  have htl:=hk.2 c0
  have hml:=pS t.2.2.2
  unfold zR at *
  split
  ·exact mono
  split
  ·exact mono
  split
  ·exact mono
  split
  ·rename_i _ _ _ hj;obtain⟨n,q1,q2⟩:=H6 (t:=(bM t.2.2.2).1) (hp.jn hj)
   have hnl:=hp.nl
   have hdl:p.1.length=p.1.dropLast.length+1:=by
    have h:=congrArg List.length q1
    rw[bIM,bI3,bJL] at h;exact h
   refine⟨fun _=>?_,?_,mono.sl,fun m hm=>?_⟩
   ·show hM _ _≠[];rw[q2];simp
   ·show(hM _ _).length≤_;rw[q2,bIM,bI3,bJL];omega
   ·have hm:m∈hM p.1 (bM t.2.2.2).1:=hm
    rw[q2] at hm;rcases bJG.1 hm with h|h
    ·exact mono.tx m (by rw[q1]; exact bIB _ h)
    ·simp at h;subst h
     have:=hp.tx n (by rw[q1]; simp)
     rw[bIM];omega
  ·refine⟨fun _=>by simp,?_,mono.sl,fun m hm=>?_⟩
   ·show(p.1++_).length≤_
    have:=hp.nl
    rw[bIM,bI3,bJL];omega
   ·rcases bJG.1 hm with h|h
    ·exact mono.tx m h
    ·simp at h;subst h;show(bM t.2.2.2).1.length≤_;omega
 rw[if_neg c0] at *
 by_cases c2:t.1=2
 ·rw[if_pos c2] at *;unfold JR at *
  split
  ·exact mono
  split
  ·refine⟨fun k=>(by cases k),mono.nl,?_,mono.tx⟩;show p.2.1.dropLast.length≤_
   have:=hp.sl
   rw[bH9];omega
  ·exact mono
 rw[if_neg c2] at *
 by_cases c4:t.1=4
 ·rw[if_pos c4] at *
  split<;>exact mono
 rw[if_neg c4] at *;unfold jV at *
 split
 ·exact mono
 split
 ·exact mono
 split
 ·exact mono
 split
 ·exact mono
 refine⟨fun k=>(by cases k),?_,?_,fun m hm=>?_⟩
 ·show(p.1++_).length≤_
  have:=hp.nl
  rw[bIM,bI3,bJL];omega
 ·dsimp only
  have:=hp.sl
  split
  ·rw[bIM,bI3,bJL];omega
  ·omega
 ·rcases bJG.1 hm with h|h
  ·exact mono.tx m h
  ·simp at h;subst h;simp
def WZ:Nat→Nat→Ps→Ls→List Nd×Option (Nat×Int)
 | 0,_,_,_=>([],none)
 |_+1,n,p,[]=>if p.1=[]∨p.2.1≠[] then([],some (n,4)) else(p.1,none)
 |f+1,n,p,b::u=>match jU (b::u) with
  |none=>([],some (n-(b::u).length,4))
  |some (t,r)=>if(gC p t (decide ((b::u).length=n))).1≠0 then([],some (n-(b::u).length,(gC p t (decide ((b::u).length=n))).1)) else WZ f n (gC p t (decide ((b::u).length=n))).2 r
theorem NE:∀(f g n:Nat) (p:Ps) (s:Ls),s.length<f→s.length<g→WZ f n p s=WZ g n p s
 | 0,_,_,_,_,h,_=>by omega
 |_+1,0,_,_,_,_,h=>by omega
 |f+1,g+1,n,p,[],_,_=>rfl
 |f+1,g+1,n,p,b::u,h1,h2=>by
  unfold WZ
  cases hn:jU (b::u) with
  |none=>rfl
  |some q =>
   obtain⟨t,r⟩:=q
   have:=jB hn
   dsimp only;rw[NE f g n _ r (by omega) (by omega)]
def JS(n:Nat) (p:Ps) (s:Ls):List Nd×Option (Nat×Int):=WZ (s.length+1) n p s
theorem JT(n:Nat) (p:Ps):JS n p []=if p.1=[]∨p.2.1≠[] then([],some (n,4)) else(p.1,none):=rfl
theorem BZ{n:Nat}{p:Ps}{s:Ls}(h0:s≠[]) (h:jU s=none):JS n p s=([],some (n-s.length,4)):=by
 match s,h0 with
 |b::u,_ =>
  show WZ (u.length+1+1) n p (b::u)=_;unfold WZ;rw[h]
theorem CA{n:Nat}{p:Ps}{s r:Ls}{t:Tok}(h:jU s=some (t,r)):JS n p s=if(gC p t (decide (s.length=n))).1≠0 then([],some (n-s.length,(gC p t (decide (s.length=n))).1)) else JS n (gC p t (decide (s.length=n))).2 r:=by
 match s with
 | []=>cases h
 |b::u =>
  have hl:=jB h
  show WZ (u.length+1+1) n p (b::u)=_;unfold WZ;rw[h];dsimp only;rw[NE (u.length+1) (r.length+1) n _ r (by rw[bI3] at hl; omega) (by omega)];rfl
def aRA(s:Ls):List Nd×Option (Nat×Int)→List Nd×List (Int×Int×Int)
 |(l,none)=>(l,[])
 |(_,some (i,e))=>([],atP s i e)
def p0:Ps:=([],[],false)
def nW(s:Ls):List Nd×List (Int×Int×Int):=if 262144<s.length then([],atP s 0 9) else aRA s (JS s.length p0 s)
theorem H7{s r:Ls}{i:Nat}(hi:i≤s.length) (h:∃k,r=(s.drop i).drop k) (hl:r.length≤s.length):r=s.drop (s.length-r.length):=by
 obtain⟨k,rfl⟩:=h;rw[bJR,bI7]
 by_cases e:i+k≤s.length
 ·rw[show s.length-(s.length-(i+k))=i+k by omega]
 ·rw[bHT (by omega),bHT (by omega)]
theorem aOE{s:Ls}(hs:s.length≤3999999):q90 fuelH s=some (nW s):=by
 unfold q90 nW
 have h00:lR fuelH (s,(0:Int),(9:Int))=some (atP s 0 9):=aFE hs (bKD _) 9
 by_cases h1:262144<s.length
 ·rw[aD (aP (by simp only[len]; omega)),if_pos h1,h00];rfl
 rw[aC (aQ (by simp only[len]; omega)),if_neg h1,bF]
 have hend:lR fuelH (s,len s,(4:Int))=some (atP s s.length 4):=aFE hs (bKC _) 4
 refine bKF (bT (s:=s) (fun (p:Ps) (i:Nat)=>((i:Int),p)) (fun p r=>some (aRA s (JS s.length p r))) (fun i p=>PsOk i p) ?_ fuelH 0 p0 (bU (by omega) _) (bKD _) ⟨fun k=>(by cases k),bKD _,bKD _,fun n hn=>(by cases hn)⟩) rfl;intro self p i hi hI hself;dsimp only
 by_cases hil:i<s.length
 ·have hd:bC (toN (i:Int)) s=s.drop i:=by simp[bC,toN]
  have hdl:(s.drop i).length=s.length-i:=bI7
  have hne:s.drop i≠[]:=by
   intro k;rw[k,bJL] at hdl;omega
  have hnx:=aQ8 (s:=s.drop i) (by omega) hne
  rw[aD (aP (by simp only[len]; omega)),aF (dG (by simp only[len]; omega)),hd]
  cases hn:jU (s.drop i) with
  |none =>
   rw[hn] at hnx;obtain⟨t,n,hnx⟩:=hnx;rw[hnx,aB,aD (by rfl),aFE hs (by omega),aB,BZ hne hn,hdl,show s.length-(s.length-i)=i by omega];rfl
  |some q =>
   obtain⟨t,r⟩:=q;rw[hn] at hnx
   have hnx:eM fuelH (s.drop i)=some (t,(((s.drop i).length-r.length:Nat):Int),true):=hnx
   have hl:=jB hn
   have hk:=zS hn
   have hfirst:ieq (i:Int) 0=decide ((s.drop i).length=s.length):=by
    by_cases e:i=0
    ·subst e; simp[ieq]
    ·rw[bS (by omega),decide_eq_false (by omega)]
   rw[hnx,aB,aC (by rfl)];dsimp only;rw[hfirst,aQ9 _ (by have:=hk.1.tx; omega) (by have:=hk.1.al; omega) (fun a ha=>by have:=hk.1.av a ha; omega) (by have:=hI.nl; omega) (by have:=hI.sl; omega) hI.jn (fun n hm=>by have:=hI.tx n hm; omega),aB,CA hn]
   by_cases e:(gC p t (decide ((s.drop i).length=s.length))).1=0
   ·rw[aC (bW e),if_neg (fun k=>k e)]
    have hw:w64 (aE (i:Int) (((s.drop i).length-r.length:Nat):Int))=((s.length-r.length:Nat):Int):=by
     simp only[aE];rw[bG (by omega)];omega
    rw[hw]
    have hok:=aFH (decide ((s.drop i).length=s.length)) hn hI e
    have hsuf:r=s.drop (s.length-r.length):=H7 hi (NC hn) (by omega)
    refine bKF (hself _ (s.length-r.length) (by omega) (by omega) ?_) ?_
    ·rw[show s.length-r.length=i+((s.drop i).length-r.length) by omega];exact hok
    ·rw[←hsuf]
   ·rw[aD (bX e),if_pos e,aFE hs (by omega),aB,hdl,show s.length-(s.length-i)=i by omega];rfl
 ·obtain rfl:i=s.length:=by omega
  rw[aC (aQ (by simp only[len]; omega)),bJD,JT]
  by_cases e1:p.1=[]
  ·rw[aD (by rw[e1]; rfl),if_pos (.inl e1),hend];rfl
  ·have hp1:0<p.1.length:=bIK.2 e1
   rw[aC (bS (by simp only[len]; omega))]
   by_cases e2:p.2.1=[]
   ·rw[aC (by rw[e2]; rfl),if_neg (fun k=>by rcases k with k|k; exact e1 k; exact k e2)];rfl
   ·have hp2:0<p.2.1.length:=bIK.2 e2
    rw[aD (aP (by simp only[len]; omega)),if_pos (.inr e2),hend];rfl
structure AtOk (l:List At):Prop where
 nm:∀a∈l,nmX a.1=true
 vl:∀a∈l,vld a.2=true
 nd:(l.map Prod.fst).Nodup
 few:l.length≤16
theorem aJC{p:Option Nd}{n:Nd}(h:txE p n=0):(∃q,p=some q∧¬(q.1=[]∧dep q=dep n))∧n.2.1≠[]∧n.2.2.1=[]∧vld n.2.1=true:=by
 unfold txE at h
 by_cases h1:txP p n=true
 ·rw[if_pos h1] at h; cases h
 rw[if_neg h1] at h
 by_cases h2:n.2.1=[]
 ·rw[if_pos h2] at h; cases h
 rw[if_neg h2] at h
 by_cases h3:0<n.2.2.1.length
 ·rw[if_pos h3] at h; cases h
 rw[if_neg h3] at h
 by_cases h4:vld n.2.1=false
 ·rw[if_pos h4] at h; cases h
 refine⟨?_,h2,bHB (by omega),by simpa using h4⟩
 cases p with
 |none=>exact absurd rfl h1
 |some q=>exact⟨q,rfl,fun k=>h1 (decide_eq_true k)⟩
theorem aZ3{p:Option Nd}{n:Nd}(h:ndE p n=0) (hn:n.1≠[]):elE n=0:=by
 have hd:=uN h
 unfold ndE at h;rw[if_neg (by rw[hd]; simp),if_pos hn] at h;exact h
theorem aC8{p:Option Nd}{n:Nd}(h:ndE p n=0) (hn:n.1=[]):txE p n=0:=by
 have hd:=uN h
 unfold ndE at h;rw[if_neg (by rw[hd]; simp),if_neg (by rw[hn]; simp)] at h;exact h
structure BK (p:Ps) (prev:Option Nd) (r:List Nd):Prop where
 ck:ckE prev r=0
 nm:∀x∈p.2.1,nmX x=true
 lo:∀m r',r=m::r'→dep m≤(p.2.1.length:Int)
 jn:p.2.2=true→∃q,prev=some q∧q.1=[]∧dep q=(p.2.1.length:Int)∧1≤dep q
 no:prev=none→p.1=[]∧p.2.1=[]
 ro:p.1.length+r.length≤8192
theorem XO{p:Option Nd}{n:Nd}{r:List Nd}(h:ckE p (n::r)=0):ndE p n=0∧ckE (some n) r=0:=by
 have h:(if ndE p n≠0 then ndE p n else ckE (some n) r)=0:=h
 by_cases e:ndE p n=0
 ·rw[if_neg (fun k=>k e)] at h;exact⟨e,h⟩
 ·rw[if_pos e] at h;exact absurd h e
theorem NF{R:Type}{l:List At}(hl:l.length≤400000) (name:Ls) (bad:Option R) (K:Option R) :
  aY (fun v12 (v13:Int) =>
       cnd (ilt v13 (len l))
        (grd (inb v13 (len l))
         (cnd (seq name (aA l (toN v13) ([],[])).1)
          bad
          (v12 (w64 (aE v13 (1:Int))))))
        K) fuelH (0:Int)=if name∈l.map Prod.fst then bad else K:=by
 have hs:∀a b:Ls,seq a b=seq b a:=fun a b=>by
  rw[bO,bO];exact decide_eq_decide.2 ⟨fun h=>h.symm,fun h=>h.symm⟩
 simp only[hs name];exact H2 hl name bad K
theorem aOF{n:Nd}(hs:smN n):aA5 fuelH n=some (elE n):=by
 unfold aA5 elE;rw[jT (by have:=hs.nm; omega),aB]
 by_cases h1:nmX n.1=true
 ·rw[h1,aC (by rfl),if_neg (by decide)]
  by_cases h2:n.2.1=[]
  ·rw[aC (by unfold sne; simpa using h2),if_neg (by simpa using h2)]
   by_cases h3:16<n.2.2.1.length
   ·rw[aD (aP (by simp only[len]; omega)),if_pos h3]
   rw[aC (aQ (by simp only[len]; omega)),if_neg h3,bF]
   have han:=hs.an
   generalize n.2.2.1=l at *
   have h:=bT (R:=Int) (s:=l) (fun (_:Unit) (j:Nat)=>(j:Int)) (fun _ r=>some (atE ((l.take (l.length-r.length)).map Prod.fst) r)) (fun _ _=>True)
    (F:=fun v3 (v4:Int) =>
     cnd (ilt v4 (len l))
      (jn (fun (v5:Unit) =>
       v3 (w64 (aE v4 (1:Int))))
      fun v6 =>
      grd (inb v4 (len l)) <|
      bnd (eN fuelH (aA l (toN v4) ([],[])).1) fun v7 =>
      cnd (bA v7)
       (some (5:Int))
       (jn (fun (v8:Unit) =>
        bnd (nT fuelH (aA l (toN v4) ([],[])).2) fun v9 =>
        cnd (bA v9)
         (some (10:Int))
         (v6 ()))
       fun v10 =>
       grd (in2 v4 (len l)) <|
       aY (fun v11 (v12:Int) =>
        cnd (ilt v12 (len (aW (toN v4) l)))
         (grd (inb v12 (len (aW (toN v4) l)))
          (cnd (seq (aA l (toN v4) ([],[])).1 (aA (aW (toN v4) l) (toN v12) ([],[])).1)
           (some (7:Int))
           (v11 (w64 (aE v12 (1:Int))))))
         (v10 ())) fuelH (0:Int)))
      (some (0:Int))) ?_ fuelH 0 () (bU (by omega) _) (bKD _) trivial
   ·refine bKF h ?_;rw[bJS,bJ9];rfl
   ·intro self a j hj _ hself
    by_cases hjl:j<l.length
    ·have hw:w64 (aE (j:Int) 1)=((j+1:Nat):Int):=aO hjl (by omega)
     have hsa:=han l[j] (bJE hjl)
     have htk:aW (toN (j:Int)) l=l.take j:=by simp[aW,toN]
     have hrl:l.length-(l.drop j).length=j:=by rw[bI7]; omega
     have hrl2:l.length-(l.drop (j+1)).length=j+1:=by rw[bI7]; omega
     have hat:atE ((l.take j).map Prod.fst) (l[j]::l.drop (j+1))=if nmX (l[j]).1=false then 5 else if(l[j]).1∈(l.take j).map Prod.fst then 7 else if vld (l[j]).2=false then 10 else atE ((l.take j).map Prod.fst++[(l[j]).1]) (l.drop (j+1)):=rfl
     rw[aD (aP (by simp only[len]; omega)),bF,aF (aS (by simp only[len]; omega)),aU hjl,jT (by omega),aB,htk,hrl,bHK hjl,hat]
     by_cases e1:nmX (l[j]).1=true
     ·rw[e1,aC (by rfl),bF,aF (dG (by simp only[len]; omega)),if_neg (by decide)];refine bKF (NF (by rw[bI6]; omega) _ _ _) ?_
      by_cases e2:(l[j]).1∈(l.take j).map Prod.fst
      ·rw[if_pos e2,if_pos e2]
      ·rw[if_neg e2,if_neg e2,iZ _ (by omega),aB]
       by_cases e3:vld (l[j]).2=true
       ·rw[e3,aC (by rfl),if_neg (by decide),hw];refine bKF (hself () (j+1) (by omega) (by omega) trivial) ?_;rw[hrl2,bHA hjl,bJP];rfl
       ·have e3:vld (l[j]).2=false:=by simpa using e3
        rw[e3,aD (by rfl),if_pos rfl]
     ·have e1:nmX (l[j]).1=false:=by simpa using e1
      rw[e1,aD (by rfl),if_pos rfl]
    ·obtain rfl:j=l.length:=by omega
     rw[aC (aQ (by simp only[len]; omega)),bJD];rfl
  ·rw[aD (by unfold sne; simpa using h2),if_pos h2]
 ·have h1:nmX n.1=false:=by simpa using h1
  rw[h1,aD (by rfl),if_pos rfl]
theorem aJD{l:List Nd}(hl:l.length≤4000000) (hs:∀n∈l,smN n):aHG fuelH l=some (tL l):=by
 unfold aHG tL
 by_cases h0:l.length=0
 ·rw[aD (cB (by simp only[len]; omega)),if_pos h0]
 rw[aC (bS (by simp only[len]; omega)),if_neg h0]
 by_cases h1:8192<l.length
 ·rw[aD (aP (by simp only[len]; omega)),if_pos h1]
 rw[aC (aQ (by simp only[len]; omega)),if_neg h1,bF]
 have hgoal:some (ckE none l)=some (ckE (prv l (l.length-l.length)) l):=by rw[bJ9]; rfl
 rw[hgoal];refine bT (R:=Int) (s:=l) (fun (_:Unit) (j:Nat)=>(j:Int)) (fun _ r=>some (ckE (prv l (l.length-r.length)) r)) (fun j _=>∀q,prv l j=some q→0≤dep q∧dep q≤15) ?_ fuelH 0 () (bU hl _) (bKD _) (fun q hq=>by simp[prv] at hq);intro self a j hj hI hself
 by_cases hjl:j<l.length
 ·have hw:w64 (aE (j:Int) 1)=((j+1:Nat):Int):=aO hjl (by omega)
  have hrl:l.length-(l.drop j).length=j:=by rw[bI7]; omega
  have hrl2:l.length-(l.drop (j+1)).length=j+1:=by rw[bI7]; omega
  have hsm:=hs _ (bJE hjl)
  have hgo:rH (prv l j) l[j]=0→self ((j+1:Nat):Int)=some (ckE (some l[j]) (l.drop (j+1))):=fun hd=>by
   refine bKF (hself () (j+1) (by omega) (by omega) (fun q hq=>?_)) ?_
   ·rw[gQ hjl] at hq;injection hq with hq;rw[←hq];exact FH hd
   ·rw[hrl2,gQ hjl]
  dsimp only;rw[hrl,bHK hjl,aD (aP (by simp only[len]; omega)),aF (aS (by simp only[len]; omega)),bF];simp only[kD hjl]
  have hck:ckE (prv l j) (l[j]::l.drop (j+1))=if ndE (prv l j) l[j]≠0 then ndE (prv l j) l[j] else ckE (some l[j]) (l.drop (j+1)):=rfl
  rw[hck,bF,hw]
  -- what stands behind the depth
  have hX:rH (prv l j) l[j]=0 →
    (cnd (ilt (15:Int) (l[j]).2.2.2) (some (9:Int)) (cnd (sne (l[j]).1 ([]:Y_)) (bnd (aA5 fuelH l[j]) fun v6=>cnd (ine v6 (0:Int)) (some v6) (self ((j+1:Nat):Int)))
          (jn (fun (v7:Bool) =>
           cnd v7
            (some (8:Int))
            (cnd (seq (l[j]).2.1 ([]:Y_))
             (some (4:Int))
             (cnd (ilt (0:Int) (len (l[j]).2.2.1))
              (some (4:Int))
              (bnd (nT fuelH (l[j]).2.1) fun v8 =>
              cnd (bA v8)
               (some (10:Int))
               (self ((j+1:Nat):Int))))))
          fun v9 =>
          cnd (ieq (j:Int) (0:Int))
           (v9 true)
           (grd (inb (w64 (aH (j:Int) (1:Int))) (len l))
            (cnd (seq (aA l (toN (w64 (aH (j:Int) (1:Int)))) zN).1 ([]:Y_))
             (grd (inb (w64 (aH (j:Int) (1:Int))) (len l))
              (v9 (ieq (aA l (toN (w64 (aH (j:Int) (1:Int)))) zN).2.2.2 (l[j]).2.2.2)))
             (v9 false)))))) =
    some (if ndE (prv l j) l[j]≠0 then ndE (prv l j) l[j] else ckE (some l[j]) (l.drop (j+1))):=fun hd=>by
   have h15:¬15<(l[j]).2.2.2:=by have:0≤(l[j]).2.2.2∧(l[j]).2.2.2≤15:=FH hd; omega
   rw[aC (aQ h15)];unfold ndE;rw[if_neg (show ¬rH (prv l j) l[j]≠0 from fun k=>k hd)]
   by_cases e2:(l[j]).1=[]
   ·rw[aC (by unfold sne; simpa using e2),if_neg (show ¬(l[j]).1≠[] from fun k=>k e2),bF]
    have fin:∀b:Bool,b=txP (prv l j) l[j]→(cnd b
            (some (8:Int))
            (cnd (seq (l[j]).2.1 ([]:Y_))
             (some (4:Int))
             (cnd (ilt (0:Int) (len (l[j]).2.2.1))
              (some (4:Int))
              (bnd (nT fuelH (l[j]).2.1) fun v8 =>
              cnd (bA v8)
               (some (10:Int))
               (self ((j+1:Nat):Int))))))=some (if txE (prv l j) l[j]≠0 then txE (prv l j) l[j] else ckE (some l[j]) (l.drop (j+1))):=fun b hb=>by
     unfold txE;rw[←hb]
     cases b with
     |true=>rfl
     |false =>
      rw[aC (by rfl),if_neg (show ¬(false=true) by decide)]
      by_cases e3:(l[j]).2.1=[]
      ·rw[aD (by rw[cF]; exact e3),if_pos e3];rfl
      rw[aC (by rw[bO]; simpa using e3),if_neg e3]
      by_cases e4:0<(l[j]).2.2.1.length
      ·rw[aD (aP (by simp only[len]; omega)),if_pos e4];rfl
      rw[aC (aQ (by simp only[len]; omega)),if_neg e4,iZ _ (by have:=hsm.tx; omega),aB]
      cases hv:vld (l[j]).2.1 with
      |true =>
       rw[aC (by rfl),if_neg (show ¬(true=false) by decide),if_neg (by simp)];exact hgo hd
      |false=>rfl
    by_cases h00:j=0
    ·subst h00;rw[aD (by rfl)];exact fin true rfl
    ·obtain⟨k,rfl⟩:∃k,j=k+1:=⟨j-1,by omega⟩
     have hb:w64 (aH ((k+1:Nat):Int) 1)=(k:Int):=fJ (by omega)
     have hg:inb (k:Int) (len l)=true:=aS (by simp only[len]; omega)
     rw[aC (bS (by omega)),hb,aF hg,aF hg,kD (show k<l.length by omega)]
     have hpv:=gQ (l:=l) (i:=k) (by omega)
     by_cases e:l[k].1=[]
     ·rw[aD (by rw[cF]; exact e)];refine fin _ ?_;rw[hpv];unfold txP;rw[bJQ,oS,decide_eq_true_eq];exact⟨fun h=>⟨e,h⟩,fun h=>h.2⟩
     ·rw[aC (by rw[bO]; simpa using e)];refine fin false ?_;rw[hpv];exact(decide_eq_false fun h=>e h.1).symm
   ·rw[aD (by unfold sne; simpa using e2),if_pos e2,aOF hsm,aB]
    by_cases e3:elE l[j]=0
    ·rw[aC (bW e3),if_neg (fun k=>k e3)];exact hgo hd
    ·rw[aD (bX e3),if_pos e3]
  have bad:∀e:Int,rH (prv l j) l[j]=e→e≠0→some e=some (if ndE (prv l j) l[j]≠0 then ndE (prv l j) l[j] else ckE (some l[j]) (l.drop (j+1))):=fun e he h0=>by
   have:ndE (prv l j) l[j]=e:=by
    unfold ndE;rw[if_pos (by rw[he]; exact h0),he]
   rw[this,if_pos h0]
  by_cases h00:j=0
  ·subst h00
   have hdE:rH (prv l 0) l[0]=if dep l[0]≠0 then 8 else 0:=rfl
   rw[aD (by rfl)]
   by_cases e:(l[0]).2.2.2=0
   ·rw[aC (bW e),aC (by rfl),aC (by rfl)];exact hX (by rw[hdE]; exact if_neg (fun k=>k e))
   ·rw[aD (bX e)];exact bad 8 (by rw[hdE]; exact if_pos e) (by decide)
  ·obtain⟨k,rfl⟩:∃k,j=k+1:=⟨j-1,by omega⟩
   have hb:w64 (aH ((k+1:Nat):Int) 1)=(k:Int):=fJ (by omega)
   have hg:inb (k:Int) (len l)=true:=aS (by simp only[len]; omega)
   have hpv:=gQ (l:=l) (i:=k) (by omega)
   have hq:=hI _ hpv
   have hdE:rH (prv l (k+1)) l[k+1]=if dep l[k+1]<1 then 8 else if(if l[k].1≠[] then dep l[k]+1 else dep l[k])<dep l[k+1] then 8 else if 15<dep l[k+1] then 9 else 0:=by rw[hpv]; rfl
   have hw2:w64 (aE (l[k]).2.2.2 1)=(l[k]).2.2.2+1:=by
    have:0≤(l[k]).2.2.2∧(l[k]).2.2.2≤15:=hq
    simp only[aE];rw[bG (by omega)]
   rw[aC (bS (by omega)),aD (aP (by omega))]
   by_cases e1:(l[k+1]).2.2.2<1
   ·rw[aD (aP e1)];exact bad 8 (by rw[hdE]; exact if_pos e1) (by decide)
   have e1':¬dep l[k+1]<1:=e1
   rw[if_neg e1'] at hdE;rw[aC (aQ e1),aD (aP (by omega)),hb,aF hg,aF hg,kD (show k<l.length by omega),hw2]
   -- behind 'most'
   rw[hb,kD (show k<l.length by omega)] at hX
   by_cases e3:l[k].1=[]
   ·rw[aC (by unfold sne; simpa using e3)];rw[if_neg (show ¬l[k].1≠[] from fun z=>z e3)] at hdE
    by_cases e2:(l[k]).2.2.2<(l[k+1]).2.2.2
    ·rw[aD (aP e2)];exact bad 8 (by rw[hdE]; exact if_pos e2) (by decide)
    ·rw[aC (aQ e2)];rw[if_neg (show ¬dep l[k]<dep l[k+1] from e2)] at hdE
     by_cases e15:15<(l[k+1]).2.2.2
     ·exact bKF (aD (aP e15)) (bad 9 (by rw[hdE]; exact if_pos e15) (by decide))
     ·exact hX (by rw[hdE]; exact if_neg e15)
   ·rw[aD (by unfold sne; simpa using e3)];rw[if_pos (show l[k].1≠[] from e3)] at hdE
    by_cases e2:(l[k]).2.2.2+1<(l[k+1]).2.2.2
    ·rw[aD (aP e2)];exact bad 8 (by rw[hdE]; exact if_pos e2) (by decide)
    ·rw[aC (aQ e2)];rw[if_neg (show ¬dep l[k]+1<dep l[k+1] from e2)] at hdE
     by_cases e15:15<(l[k+1]).2.2.2
     ·exact bKF (aD (aP e15)) (bad 9 (by rw[hdE]; exact if_pos e15) (by decide))
     ·exact hX (by rw[hdE]; exact if_neg e15)
 ·obtain rfl:j=l.length:=by omega
  rw[aC (aQ (by simp only[len]; omega)),bJD];rfl
theorem aFI{base:Int}{most:Nat}{d:Ls}(h:(mO base most d).2=0):(mO base most d).1≠[]:=by
 unfold mO at *
 split at h
 ·cases h
 ·rename_i h1;rw[if_neg h1]
  split at h
  ·cases h
  ·rename_i h2;rw[if_neg h2];exact aE6 (by simpa using h2)
theorem aRB{c:Ls}(h:(rG c).2=0):(rG c).1≠[]:=by
 rw[FE] at *
 split at h
 ·rename_i e; rw[if_pos e]; simp
 rename_i e1; rw[if_neg e1]
 split at h
 ·rename_i e; rw[if_pos e]; simp
 rename_i e2; rw[if_neg e2]
 split at h
 ·rename_i e; rw[if_pos e]; simp
 rename_i e3; rw[if_neg e3]
 split at h
 ·rename_i e; rw[if_pos e]; simp
 rename_i e4; rw[if_neg e4]
 split at h
 ·rename_i e; rw[if_pos e]; simp
 rename_i e5; rw[if_neg e5];unfold BX at *
 split at h
 ·rename_i e; rw[if_pos e]; exact aFI h
 rename_i e6; rw[if_neg e6]
 split at h
 ·rename_i e; rw[if_pos e]; exact aFI h
 ·cases h
theorem YA:∀(n:Nat) (l a:Ls),l.length≤n→(un a l).2=0→a.length+(if l=[] then 0 else 1)≤(un a l).1.length
 | 0,l,a,h,_=>by
  have:l=[]:=bHB (by omega)
  subst this;rw[WW,if_pos rfl];exact bKC _
 |n+1,[],a,_,_=>by rw[WW,if_pos rfl]; exact bKC _
 |n+1,b::l,a,h,h0=>by
  rw[bI3] at h;rw[FF] at *;rw[if_neg (bJF _ _)]
  split at h0
  ·cases h0
  rename_i h60;rw[if_neg h60]
  split at h0
  ·rename_i h38;rw[if_pos h38]
   split at h0
   ·rename_i he;exact absurd h0 he
   ·rename_i he;rw[if_neg he]
    have he:(kA l).2.2=0:=by simpa using he
    have ho:=WU he
    have hne:=aRB ho.2.2.2
    have hl:0<(kA l).1.length:=by rw[ho.2.2.1]; exact bIK.2 hne
    have:=YA n (l.drop ((l.takeWhile not59).length+1)) (a++(kA l).1) (by rw[bI7]; omega) h0
    rw[bIM] at this;omega
  ·rename_i h38;rw[if_neg h38]
   have:=YA n l (a++[b]) (by omega) h0
   rw[bIM,bI3,bJL] at this;omega
theorem aFJ{s:Ls}(h:(bM s).2=0) (h0:s≠[]):(bM s).1≠[]∧vld (bM s).1=true:=by
 unfold bM at *
 split at h
 ·rename_i e;exact absurd h e
 rename_i e;rw[if_neg e]
 split at h
 ·cases h
 rename_i e2;rw[if_neg e2]
 have e:(un [] (s.map flatB)).2=0:=by simpa using e
 have:=YA _ (s.map flatB) [] (bKC _) e
 have hne:s.map flatB≠[]:=fun k=>h0 (List.map_eq_nil_iff.1 k)
 rw[if_neg hne,bJL] at this;refine⟨fun k=>?_,by simpa using e2⟩
 have k:(un [] (s.map flatB)).1=[]:=k
 rw[k] at this;simp at this
theorem aOG{s:Ls}(h:(bM s).2=0):vld (bM s).1=true:=by
 by_cases h0:s=[]
 ·subst h0; rfl
 ·exact(aFJ h h0).2
theorem aOH{t r:Ls}{a:Aq}(h:eQ t=some (a,r)):wtA a+r.length≤t.length:=by
 unfold eQ at h
 split at h
 ·cases h
 split at h
 ·cases h
 rename_i b r2 h2
 split at h
 ·split at h
  ·cases h
  rename_i q r4 h4
  split at h
  ·split at h
   ·rename_i v r5 h5;injection h with h;injection h with h h';subst h;subst h'
    have e1:=JL h5
    have e2:=dH r2
    have e3:=dH (t.drop (cD t).length)
    have e4:=gR t
    rw[h4,bI3] at e2;rw[h2,bI3,bI7] at e3;unfold wtA;dsimp only;omega
   ·cases h
  ·cases h
 ·cases h
theorem uP{α:Type}(f:α→Nat):∀(a b:List α),bkL f (a++b)=bkL f a+bkL f b
 | [],b=>by simp[bkL]
 |x::a,b=>by
  have:=uP f a b
  show f x+bkL f (a++b)=f x+bkL f a+bkL f b;omega
theorem aFK:∀(n:Nat) (t:Ls) (l:List Aq){k:Int}{m:List Aq}{r:Ls},tM n t l=some (k,m,r)→bkL wtA m+r.length<bkL wtA l+t.length
 | 0,_,_,_,_,_,h=>by cases h
 |n+1,t,l,k,m,r,h=>by
  have hk:=dH t
  unfold tM at h;generalize skp t=u at *
  match u with
  | []=>cases h
  |b::q =>
   dsimp only at h;rw[bI3] at hk
   split at h
   ·injection h with h;injection h with h1 h;injection h with h2 h3;subst h2 h3;omega
   split at h
   ·injection h with h;injection h with h1 h;injection h with h2 h3;subst h2 h3;rw[bI7];omega
   split at h
   ·cases h
   cases ha:eQ (b::q) with
   |none=>rw[ha] at h; cases h
   |some p =>
    obtain⟨a,r2⟩:=p;rw[ha] at h
    have h1:=aOH ha
    have h2:=aFK n r2 (l++[a]) h
    rw[uP] at h2
    have h3:bkL wtA [a]=wtA a:=by show wtA a+0=_; omega
    rw[bI3] at h1;omega
theorem aC9{s r:Ls}{t:Tok}(h:jU s=some (t,r)) (c0:t.1≠0) (c2:t.1≠2) (c4:t.1≠4):t.1=1∨t.1=3:=by
 match s with
 | []=>cases h
 |b::u =>
  rw[gS] at h
  have note:∀head tail:Ls,jA (b::u) head tail=some (t,r)→t.1=4:=fun head tail h=>by
   unfold jA at h
   split at h
   ·cases h
   ·injection h with h;injection h with h _;rw[←h]
  split at h
  ·split at h
   ·exact absurd (note _ _ h) c4
   split at h
   ·exact absurd (note _ _ h) c4
   split at h
   ·unfold JN at h
    split at h
    ·cases h
    split at h
    ·cases h
    ·split at h
     ·injection h with h;injection h with h _;subst h;exact absurd rfl c2
     ·cases h
   ·unfold zQ at h
    split at h
    ·cases h
    split at h
    ·cases h
    ·rename_i k l q hq;injection h with h;injection h with h h';subst h;exact(pR _ _ _ hq).2.2
  ·injection h with h;injection h with h _;subst h;exact absurd rfl c0
theorem aOI{s r:Ls}{t:Tok}(h:jU s=some (t,r)):(t.1=1∨t.1=3→t.2.1.length+bkL wtA t.2.2.1+r.length≤s.length)∧(t.1=0→t.2.2.2≠[]):=by
 match s with
 | []=>cases h
 |b::u =>
  rw[gS] at h
  have note:∀head tail:Ls,jA (b::u) head tail=some (t,r)→t.1=4:=fun head tail h=>by
   unfold jA at h
   split at h
   ·cases h
   ·injection h with h;injection h with h _;rw[←h]
  have n4:t.1=4→(t.1=1∨t.1=3→t.2.1.length+bkL wtA t.2.2.1+r.length≤(b::u).length)∧(t.1=0→t.2.2.2≠[]):=fun e=>⟨fun k=>by omega,fun k=>by omega⟩
  split at h
  ·split at h
   ·exact n4 (note _ _ h)
   split at h
   ·exact n4 (note _ _ h)
   split at h
   ·unfold JN at h
    split at h
    ·cases h
    split at h
    ·cases h
    ·split at h
     ·injection h with h;injection h with h _;subst h;exact⟨fun k=>(by rcases k with k|k<;>cases k),fun k=>(by cases k)⟩
     ·cases h
   ·unfold zQ at h
    split at h
    ·cases h
    split at h
    ·cases h
    ·rename_i k l q hq;injection h with h;injection h with h h';subst h;subst h'
     have h1:=aFK _ _ _ hq
     have h2:=pR _ _ _ hq
     have h3:=gR ((b::u).drop 1)
     have h4:bkL wtA ([]:List Aq)=0:=rfl
     have h5:((b::u).drop 1).length=u.length:=rfl
     rw[bI7,h4,h5] at h1;rw[h5] at h3;refine⟨fun _=>?_,fun e=>?_⟩
     ·show(cD ((b::u).drop 1)).length+bkL wtA l+_≤_;rw[bI3];omega
     ·rcases h2.2.2 with h3|h3<;>(have e:k=0:=e; omega)
  ·rename_i hb;injection h with h;injection h with h _;subst h;refine⟨fun k=>(by rcases k with k|k<;>cases k),fun _=>?_⟩;show(b::u).takeWhile not60≠[];rw[bIL,if_pos (by simpa [not60] using hb)];simp
theorem NG:∀(l:List At) (seen:List Ls) (out:List At),(atM seen out l).1=0→(∀a∈l,nmX a.1=true) →
  ∃m,(atM seen out l).2=out++m∧m.length=l.length∧atE seen m=0∧bkL wtA m≤4*bkL wtA l
 | [],seen,out,_,_=>⟨[],by simp[atM],rfl,rfl,by simp[bkL]⟩
 |a::l,seen,out,h,hn=>by
  unfold atM at *
  split at h
  ·cases h
  rename_i h1
  split at h
  ·rename_i h2;exact absurd h h2
  rename_i h2;rw[if_neg h1,if_neg h2]
  have h2:(bM a.2).2=0:=by simpa using h2
  obtain⟨m,e1,e2,e3,e4⟩:=NG l _ _ h fun x hx=>hn x (bH7 _ hx)
  refine⟨(a.1,(bM a.2).1)::m,by rw[e1]; simp,by simp[e2],?_,?_⟩
  ·unfold atE;dsimp only;rw[if_neg (by rw[hn a bIQ]; decide),if_neg h1,if_neg (by rw[aOG h2]; decide)];exact e3
  ·have h3:=pS a.2
   have b1:bkL wtA ((a.1,(bM a.2).1)::m)=a.1.length+1+((bM a.2).1.length+1)+bkL wtA m:=rfl
   have b2:bkL wtA (a::l)=a.1.length+1+(a.2.length+1)+bkL wtA l:=rfl
   omega
theorem FK:∀(l:List Nd) (p:Option Nd) (n:Nd),ckE p l=0→ndE (match l.getLast? with|some q=>some q|none=>p) n=0→ckE p (l++[n])=0
 | [],p,n,_,h=>by
  show(if ndE p n≠0 then ndE p n else ckE (some n) [])=0
  have h:ndE p n=0:=h
  rw[if_neg (fun k=>k h)];rfl
 |m::l,p,n,h,hn=>by
  obtain⟨h1,h2⟩:=XO h;show(if ndE p m≠0 then ndE p m else ckE (some m) (l++[n]))=0;rw[if_neg (fun k=>k h1)];refine FK l (some m) n h2 ?_
  match l,hn with
  | [],hn=>exact hn
  |a::l,hn =>
   have e:(m::a::l).getLast?=(a::l).getLast?:=by simp[List.getLast?_cons]
   rw[e] at hn;obtain⟨q,hq,_⟩:=kR (bJF a l);rw[hq] at hn ⊢;exact hn
theorem aFL:∀(l:List Nd) (p:Option Nd) (n:Nd),ckE p (l++[n])=0→ckE p l=0∧ndE (match l.getLast? with|some q=>some q|none=>p) n=0
 | [],p,n,h=>⟨rfl,(XO h).1⟩
 |m::l,p,n,h=>by
  obtain⟨h1,h2⟩:=XO (r:=l++[n]) h;obtain⟨h3,h4⟩:=aFL l (some m) n h2;refine⟨?_,?_⟩
  ·show(if ndE p m≠0 then ndE p m else ckE (some m) l)=0;rw[if_neg (fun k=>k h1)];exact h3
  ·match l,h4 with
   | [],h4=>exact h4
   |a::l,h4 =>
    have e:(m::a::l).getLast?=(a::l).getLast?:=by simp[List.getLast?_cons]
    rw[e];obtain⟨q,hq,_⟩:=kR (bJF a l);rw[hq] at h4 ⊢;exact h4
structure Vp (i:Nat) (p:Ps):Prop where
 ck:ckE none p.1=0
 ln:p.1.length≤8192
 em:p.1=[]→p.2.1=[]∧p.2.2=false
 la:∀q,p.1.getLast?=some q→(p.2.1.length:Int)≤(if q.1≠[] then dep q+1 else dep q)∧((q.1=[]∧dep q=(p.2.1.length:Int))↔p.2.2=true)
 wt:bkL wtN p.1≤10*i
theorem JU{p:Ps}{text:Bool}(h:dC p text=0):¬(p.2.1=[]∧(text=true∨p.1≠[]))∧p.2.1.length≤15∧(p.1.length<8192∨(text=true∧p.2.2=true)):=by
 unfold dC at h
 split at h
 ·cases h
 rename_i h1
 split at h
 ·cases h
 rename_i h2
 split at h
 ·cases h
 rename_i h3;refine⟨h1,by omega,?_⟩
 by_cases e:p.1.length<8192
 ·exact .inl e
 ·refine .inr ?_
  by_cases e2:text=true∧p.2.2=true
  ·exact e2
  ·exact absurd ⟨by omega,e2⟩ h3
theorem H8{p:Ps} {i:Nat} (hp:Vp i p) (n:Nd) (hd:dep n=(p.2.1.length:Int)) (h15:p.2.1.length≤15) (h0:p.2.1=[]→p.1=[]):rH (match p.1.getLast? with|some q=>some q|none=>none) n=0:=by
 cases hl:p.1.getLast? with
 |none =>
  have he:p.1=[]:=List.getLast?_eq_none_iff.1 hl
  have:=(hp.em he).1
  rw[this] at hd;show(if dep n≠0 then(8:Int) else 0)=0;rw[if_neg (by rw[hd]; simp)]
 |some q =>
  have hne:p.1≠[]:=fun k=>by rw[k] at hl; cases hl
  have hs:p.2.1≠[]:=fun k=>hne (h0 k)
  have hpos:=bIK.2 hs
  have:=(hp.la q hl).1
  show(if dep n<1 then(8:Int) else if(if q.1≠[] then dep q+1 else dep q)<dep n then 8 else if 15<dep n then 9 else 0)=0;rw[if_neg (by omega),if_neg (by omega),if_neg (by omega)]
theorem aDA{p:Option Nd}{n:Nd}(h:rH p n=0) (h2:if n.1≠[] then elE n=0 else txE p n=0):ndE p n=0:=by
 unfold ndE;rw[if_neg (fun k=>k h)]
 by_cases e:n.1≠[]
 ·rw[if_pos e] at *; exact h2
 ·rw[if_neg e] at *; exact h2
theorem Vp.mono{i j:Nat}{p:Ps}(h:Vp i p) (hj:i≤j):Vp j p:=⟨h.ck,h.ln,h.em,h.la,by have:=h.wt; omega⟩
theorem JV{α:Type}(l:List α) (x:α):(l++[x]).getLast?=some x:=by simp
theorem aDB{s r:Ls}{t:Tok}{i:Nat}{p:Ps}(first:Bool) (hn:jU s=some (t,r)) (hp:Vp i p) (h0:(gC p t first).1=0):Vp (i+(s.length-r.length)) (gC p t first).2:=by
 have hl:=jB hn
 have hk:=zS hn
 have hw:=aOI hn
 have mono:Vp (i+(s.length-r.length)) p:=hp.mono (Nat.le_add_right _ _)
 unfold gC at *
 by_cases c0:t.1=0
 ·rw[if_pos c0] at *
  have htl:=hk.2 c0
  have hne:=hw.2 c0
  unfold zR at *
  split at h0
  ·rename_i e; rw[if_pos e]; exact mono
  rename_i e; rw[if_neg e]
  split at h0
  ·rename_i e2; exact absurd h0 e2
  rename_i e2; rw[if_neg e2]
  split at h0
  ·rename_i e3; exact absurd h0 e3
  rename_i e3; rw[if_neg e3]
  have e2:(bM t.2.2.2).2=0:=by simpa using e2
  have e3:dC p true=0:=by simpa using e3
  have hm:=aFJ e2 hne
  have hml:=pS t.2.2.2
  have hr:=JU e3
  have hst:p.2.1≠[]:=fun k=>hr.1 ⟨k,.inl rfl⟩
  split
  ·rename_i hj
   have hpn:p.1≠[]:=fun k=>by have:=(hp.em k).2; rw[hj] at this; cases this
   obtain⟨n,q1,q2,_⟩:=kR hpn
   have hjt:hM p.1 (bM t.2.2.2).1=p.1.dropLast++[(n.1,n.2.1++(bM t.2.2.2).1,n.2.2)]:=by unfold hM; rw[q1]
   have hla:=hp.la n q1
   have hck:=hp.ck
   rw[q2] at hck;obtain⟨k1,k2⟩:=aFL _ _ _ hck
   have hn1:=(hla.2.2 hj).1
   obtain⟨t1,t2,t3,t4⟩:=aJC (aC8 k2 hn1)
   have hdn:ndE (match p.1.dropLast.getLast? with|some q=>some q|none=>none) (n.1,n.2.1++(bM t.2.2.2).1,n.2.2)=0:=by
    have hd:=uN k2
    refine aDA hd ?_;rw[if_neg (show ¬n.1≠[] from fun k=>k hn1)];obtain⟨q,hq,hq2⟩:=t1;rw[hq];unfold txE
    have hx:txP (some q) (n.1,n.2.1++(bM t.2.2.2).1,n.2.2)=false:=decide_eq_false hq2
    rw[if_neg (by rw[hx]; decide),if_neg (fun k=>t2 (List.append_eq_nil_iff.1 k).1),if_neg (by show ¬0<n.2.2.1.length; rw[t3]; simp),if_neg (by show ¬vld (n.2.1++_)=false; rw[aQS t4,hm.2]; decide)]
   have hlen:p.1.length=p.1.dropLast.length+1:=by
    have h:=congrArg List.length q2
    rw[bIM,bI3,bJL] at h;exact h
   refine⟨?_,?_,fun k=>?_,fun q hq=>?_,?_⟩
   ·show ckE none (hM _ _)=0;rw[hjt];exact FK _ _ _ k1 hdn
   ·show(hM _ _).length≤_;rw[hjt,bIM,bI3,bJL]
    have:=hp.ln
    omega
   ·have k:hM p.1 (bM t.2.2.2).1=[]:=k
    rw[hjt] at k;simp at k
   ·have hq:(hM p.1 (bM t.2.2.2).1).getLast?=some q:=hq
    rw[hjt,JV] at hq;injection hq with hq;subst hq;exact hla
   ·show bkL wtN (hM _ _)≤_
    have hwt:=hp.wt
    rw[q2,uP] at hwt
    have b1:bkL wtN [n]=n.1.length+1+(n.2.1.length+1+(bkL wtA n.2.2.1+1+1))+0:=rfl
    have b2:bkL wtN [((n.1,n.2.1++(bM t.2.2.2).1,n.2.2):Nd)]=n.1.length+1+((n.2.1++(bM t.2.2.2).1).length+1+(bkL wtA n.2.2.1+1+1))+0:=rfl
    rw[bIM] at b2;rw[hjt,uP];omega
  ·rename_i hj
   have hj:p.2.2=false:=by simpa using hj
   have hln:p.1.length<8192:=hr.2.2.elim id fun k=>by rw[hj] at k; cases k.2
   have hpn:p.1≠[]:=fun k=>hst (hp.em k).1
   obtain⟨q,q1,q2,_⟩:=kR hpn
   have hd:=H8 hp (([],(bM t.2.2.2).1,[],(p.2.1.length:Int)):Nd) rfl hr.2.1 (fun k=>absurd k hst)
   refine⟨?_,?_,fun k=>?_,fun q' hq'=>?_,?_⟩
   ·show ckE none (p.1++[_])=0;refine FK _ _ _ hp.ck (aDA hd ?_);rw[if_neg (by simp)];rw[q1];unfold txE
    have hx:txP (some q) (([],(bM t.2.2.2).1,[],(p.2.1.length:Int)):Nd)=false:=decide_eq_false fun k=>by
     have:=(hp.la q q1).2.1 k
     rw[hj] at this;cases this
    rw[if_neg (by rw[hx]; decide),if_neg hm.1,if_neg (by simp),if_neg (by show ¬vld (bM t.2.2.2).1=false; rw[hm.2]; decide)]
   ·show(p.1++[_]).length≤_;rw[bIM,bI3,bJL];omega
   ·have k:p.1++[_]=[]:=k
    simp at k
   ·have hq':(p.1++[_]).getLast?=some q':=hq'
    rw[JV] at hq';injection hq' with hq';subst hq';exact⟨Int.le_refl _,⟨fun _=>rfl,fun _=>⟨rfl,rfl⟩⟩⟩
   ·show bkL wtN (p.1++[_])≤_
    have hwt:=hp.wt
    rw[uP]
    have b2:bkL wtN [(([],(bM t.2.2.2).1,[],(p.2.1.length:Int)):Nd)]=0+1+((bM t.2.2.2).1.length+1+(0+1+1))+0:=rfl
    omega
 rw[if_neg c0] at *
 by_cases c2:t.1=2
 ·rw[if_pos c2] at *;unfold JR at *
  split at h0
  ·cases h0
  rename_i e1; rw[if_neg e1]
  split at h0
  ·rename_i e2;rw[if_pos e2]
   have hst:p.2.1≠[]:=fun k=>by rw[k] at e2; cases e2
   have hpos:=bIK.2 hst
   refine⟨mono.ck,mono.ln,fun k=>absurd (hp.em k).1 hst,fun q hq=>?_,mono.wt⟩
   have hla:=hp.la q hq
   show(p.2.1.dropLast.length:Int)≤_∧((q.1=[]∧dep q=(p.2.1.dropLast.length:Int))↔false=true);rw[bH9];refine⟨by have:=hla.1; omega,⟨fun k=>?_,fun k=>(by cases k)⟩⟩
   have h1:=hla.1
   rw[if_neg (fun z=>z k.1)] at h1;omega
  ·cases h0
 rw[if_neg c2] at *
 by_cases c4:t.1=4
 ·rw[if_pos c4] at *
  split<;>exact mono
 rw[if_neg c4] at *;unfold jV at *
 split at h0
 ·cases h0
 rename_i e1; rw[if_neg e1]
 split at h0
 ·cases h0
 rename_i e2; rw[if_neg e2]
 split at h0
 ·rename_i e3; exact absurd h0 e3
 rename_i e3; rw[if_neg e3]
 split at h0
 ·rename_i e4; exact absurd h0 e4
 rename_i e4; rw[if_neg e4]
 have e1:(t.2.1::t.2.2.1.map Prod.fst).all nmX=true:=by simpa using e1
 rw[bJ1,bI4] at e1
 have e3:(atM [] [] t.2.2.1).1=0:=by simpa using e3
 have e4:dC p false=0:=by simpa using e4
 have hr:=JU e4
 have hln:p.1.length<8192:=hr.2.2.elim id fun k=>by cases k.1
 obtain⟨m,m1,m2,m3,m4⟩:=NG _ _ _ e3 (fun a ha=>bJC.1 e1.2 a.1 (List.mem_map_of_mem ha));rw[bJM] at m1
 have hnm:t.2.1≠[]:=fun k=>by have:=e1.1; rw[k] at this; cases this
 have hkind:t.1=1∨t.1=3:=aC9 hn c0 c2 c4
 have hwt1:=hw.1 hkind
 have hd:=H8 hp ((t.2.1,[],m,(p.2.1.length:Int)):Nd) rfl hr.2.1 (fun k=>by
  by_cases e:p.1=[]
  ·exact e
  ·exact absurd ⟨k,.inr e⟩ hr.1)
 refine⟨?_,?_,fun k=>?_,fun q' hq'=>?_,?_⟩
 ·show ckE none (p.1++[(t.2.1,[],(atM [] [] t.2.2.1).2,(p.2.1.length:Int))])=0;rw[m1];refine FK _ _ _ hp.ck (aDA hd ?_);rw[if_pos hnm];unfold elE;dsimp only;rw[if_neg (by rw[e1.1]; decide),if_neg (by simp),if_neg (by omega)];exact m3
 ·show(p.1++[_]).length≤_;rw[bIM,bI3,bJL];omega
 ·have k:p.1++[_]=[]:=k
  simp at k
 ·have hq':(p.1++[_]).getLast?=some q':=hq'
  rw[JV] at hq';injection hq' with hq';subst hq';dsimp only;rw[if_pos hnm];refine⟨?_,⟨fun k=>absurd k.1 hnm,fun k=>(by cases k)⟩⟩
  have hdd:dep ((t.2.1,[],(atM [] [] t.2.2.1).2,(p.2.1.length:Int)):Nd)=(p.2.1.length:Int):=rfl
  rw[hdd]
  split
  ·rw[bIM,bI3,bJL];omega
  ·omega
 ·show bkL wtN (p.1++[(t.2.1,[],(atM [] [] t.2.2.1).2,(p.2.1.length:Int))])≤_
  have hwt:=hp.wt
  rw[m1,uP]
  have b2:bkL wtN [((t.2.1,[],m,(p.2.1.length:Int)):Nd)]=t.2.1.length+1+(0+1+(bkL wtA m+1+1))+0:=rfl
  omega
theorem JW{n:Nat}{l:List Nd}:∀(k:Nat) (s:Ls) (p:Ps) (i:Nat),s.length≤k→i+s.length=n→Vp i p→JS n p s=(l,none)→tL l=0∧bkL wtN l≤10*n
 |k,[],p,i,_,hi,hV,h=>by
  rw[JT] at h
  split at h
  ·injection h with _ h; cases h
  rename_i e;injection h with h _;subst h
  have hne:p.1≠[]:=fun q=>e (.inl q)
  have hl:=bIK.2 hne
  refine⟨?_,by have:=hV.wt; rw[bJL] at hi; omega⟩;unfold tL;rw[if_neg (by omega),if_neg (by have:=hV.ln; omega)];exact hV.ck
 | 0,b::u,_,_,hk,_,_,_=>by simp at hk
 |k+1,b::u,p,i,hk,hi,hV,h=>by
  cases hn:jU (b::u) with
  |none =>
   rw[BZ (bJF _ _) hn] at h;injection h with _ h;cases h
  |some q =>
   obtain⟨t,r⟩:=q
   have hl:=jB hn
   rw[CA hn] at h
   split at h
   ·injection h with _ h; cases h
   rename_i e
   have e:(gC p t (decide ((b::u).length=n))).1=0:=by simpa using e
   exact JW k r _ (i+((b::u).length-r.length)) (by omega) (by omega) (aDB _ hn hV e) h
theorem NH(N:Nat) (x:UInt8):KN N x=some (wsB x):=by
 unfold KN wsB
 by_cases h1:x=9
 ·subst h1; rfl
 rw[aC (bS (fun k=>h1 (cH k)))]
 by_cases h2:x=10
 ·subst h2; rfl
 rw[aC (bS (fun k=>h2 (cH k)))]
 by_cases h3:x=13
 ·subst h3; rfl
 rw[aC (bS (fun k=>h3 (cH k)))]
 by_cases h4:x=32
 ·subst h4; rfl
 rw[bS (fun k=>h4 (cH k))];simp[h1,h2,h3,h4]
theorem H9(b:UInt8) (t:Ls):skp (b::t)=if wsB b=true then skp t else b::t:=by
 unfold skp;rw[bIL]
 split
 ·rfl
 ·rfl
theorem pT{s:Ls}(hs:s.length≤4000000):fF fuelH s=some (skp s):=by
 unfold fF;rw[bF];refine bKF (bT (s:=s) (F:=fun v2 (v3:Y_) =>
  cnd (sne v3 ([]:Y_))
   (grd (inb (0:Int) (len v3))
    (bnd (KN fuelH (aA v3 (toN (0:Int)) (0:UInt8))) fun v4 =>
    cnd v4
     (grd (in2 (1:Int) (len v3))
      (v2 (bC (toN (1:Int)) v3)))
     (some v3)))
   (some v3)) (fun (_:Unit) (j:Nat)=>s.drop j) (fun _ r=>some (skp r)) (fun _ _=>True) ?_ fuelH 0 () (bU hs _) (bKD _) trivial) rfl
 intro self a j hj _ hself
 by_cases hjl:j<s.length
 ·have hdl:bC (toN (1:Int)) (s[j]::s.drop (j+1))=s.drop (j+1):=rfl
  have hg:aA (s[j]::s.drop (j+1)) (toN (0:Int)) (0:UInt8)=s[j]:=rfl
  rw[bHK hjl,aD (by unfold sne; simpa using hjl),aF (aS (by simp only[len,bI3]; omega)),hg,NH,aB,H9]
  cases wsB s[j] with
  |true =>
   rw[aD (by rfl),if_pos rfl,aF (dG (by simp only[len,bI3]; omega)),hdl];exact hself () (j+1) (by omega) (by omega) trivial
  |false =>
   rw[aC (by rfl),if_neg (by decide)]
 ·obtain rfl:j=s.length:=by omega
  rw[bJD];rfl
theorem kM(N:Nat) (s sub:Ls):yO N (s,sub)=some (decide (s.take sub.length=sub)):=by
 unfold yO;dsimp only
 by_cases h:sub.length≤s.length
 ·have:aW (toN (len sub)) s=s.take sub.length:=by simp[aW,toN,len]
  rw[aD (eA (by simp only[len]; omega)),aF (dG (by simp only[len]; omega)),this,bO]
 ·rw[aC (fZ (by simp only[len]; omega)),decide_eq_false];intro k
  have:=congrArg List.length k
  rw[bI6] at this;omega
theorem aOJ(sub s:Ls):sub.isPrefixOf s=decide (s.take sub.length=sub):=by
 rw[bJQ,decide_eq_true_eq,List.isPrefixOf_iff_prefix,List.prefix_iff_eq_take];exact⟨fun h=>h.symm,fun h=>h.symm⟩
def lV(s sub:Ls) (k:Nat):Int:=if Lib.index (s.drop k) sub<0 then -1 else(k:Int)+Lib.index (s.drop k) sub
theorem tN{s sub:Ls}(hs:s.length≤3999999) (h0:sub≠[]) (h3:sub.length≤10){k:Nat}(hk:k≤s.length):cS fuelH (s,sub,(k:Int))=some (lV s sub k):=by
 have hp:=bIK.2 h0
 unfold cS lV;dsimp only;rw[bF];refine bKF (bT (s:=s) (F:=fun v2 (v3:Int) =>
  cnd (ile (w64 (aE v3 (len sub))) (len s))
   (grd (in3 v3 (w64 (aE v3 (len sub))) (len s))
    (cnd (seq (bC (toN v3) (aW (toN (w64 (aE v3 (len sub)))) s)) sub)
     (some v3)
     (v2 (w64 (aE v3 (1:Int))))))
   (some (-1:Int))) (fun (_:Unit) (j:Nat)=>(j:Int)) (fun _ r=>some (if Lib.index r sub<0 then -1 else((s.length-r.length:Nat):Int)+Lib.index r sub)) (fun _ _=>True) ?_ fuelH k () (bU (by omega) _) hk trivial) ?_
 ·intro self a j hj _ hself
  have hw:w64 (aE (j:Int) (len sub))=((j+sub.length:Nat):Int):=by
   simp only[aE,len];rw[bG (by omega)];omega
  have hrl:s.length-(s.drop j).length=j:=by rw[bI7]; omega
  rw[hw,hrl]
  by_cases h1:j+sub.length≤s.length
  ·have hjl:j<s.length:=by omega
   have hw1:w64 (aE (j:Int) 1)=((j+1:Nat):Int):=aO hjl (by omega)
   have hd:bC (toN (j:Int)) (aW (toN ((j+sub.length:Nat):Int)) s)=(s.drop j).take sub.length:=by
    have:(s.take (j+sub.length)).drop j=(s.drop j).take sub.length:=by rw[bJT]; congr 1; omega
    have hT:∀n:Nat,toN (n:Int)=n:=fun n=>by simp[toN]
    unfold bC aW;rw[hT,hT];exact this
   have hpp:=aOJ sub (s.drop j)
   rw[aD (eA (by simp only[len]; omega)),aF (JK (by simp only[len]; omega)),hd,bO,hw1];rw[bHK hjl] at hpp ⊢
   have hix:Lib.index (s[j]::s.drop (j+1)) sub=if sub.isPrefixOf (s[j]::s.drop (j+1)) then 0 else if Lib.index (s.drop (j+1)) sub == -1 then -1 else Lib.index (s.drop (j+1)) sub+1:=rfl
   rw[hix,hpp]
   by_cases e:(s[j]::s.drop (j+1)).take sub.length=sub
   ·rw[aD (decide_eq_true e),if_pos (decide_eq_true e)];simp
   ·rw[aC (decide_eq_false e),if_neg (show ¬decide ((s[j]::s.drop (j+1)).take sub.length=sub)=true by simpa using e)];refine bKF (hself () (j+1) (by omega) (by omega) trivial) ?_
    have hrl2:s.length-(s.drop (j+1)).length=j+1:=by rw[bI7]; omega
    have hge:=index_ge (s.drop (j+1)) sub
    rw[hrl2]
    by_cases h2:Lib.index (s.drop (j+1)) sub=-1
    ·rw[h2]; rfl
    ·have h2':(Lib.index (s.drop (j+1)) sub == -1)=false:=by simpa using h2
     rw[h2',if_neg (show ¬(false=true) by decide),if_neg (show ¬Lib.index (s.drop (j+1)) sub<0 by omega),if_neg (show ¬Lib.index (s.drop (j+1)) sub+1<0 by omega)];congr 1;omega
  ·have:Lib.index (s.drop j) sub=-1:=index_past (i:=0) h0 (fun j hj=>by omega) (by rw[bI7]; omega)
   rw[aC (fZ (by simp only[len]; omega)),this];rfl
 ·have hrl:s.length-(s.drop k).length=k:=by rw[bI7]; omega
  rw[hrl]
theorem JX(s:Ls) (c:UInt8) (k:Nat):lV s [c] k=if((s.drop k).takeWhile fun b=>b != c).length=(s.drop k).length then -1 else((k+((s.drop k).takeWhile fun b=>b != c).length:Nat):Int):=by
 unfold lV;rw[Lib.index_one,ixb]
 by_cases h:((s.drop k).takeWhile fun b=>b != c).length=(s.drop k).length
 ·rw[if_pos h,if_pos h]; rfl
 ·rw[if_neg h,if_neg h,if_neg (by omega)];omega
theorem aRC(b:UInt8):flatB b=if wsB b=true then 32 else b:=by
 unfold flatB wsB
 by_cases h1:b=9
 ·subst h1; rfl
 by_cases h2:b=10
 ·subst h2; rfl
 by_cases h3:b=13
 ·subst h3; rfl
 by_cases h4:b=32
 ·subst h4; rfl
 have e1:(b==9)=false:=by simpa using h1
 have e2:(b==10)=false:=by simpa using h2
 have e3:(b==13)=false:=by simpa using h3
 have e4:(b==32)=false:=by simpa using h4
 rw[e1,e2,e3,e4];rfl
theorem aDC{s:Ls}(hs:s.length≤3999999):aHA fuelH s=some (s.map flatB):=by
 unfold aHA;rw[aF (oK (by simp only[len]; omega)),bF];refine bKF (bT (s:=s) (F:=fun v2 (v3:Int×Y_) =>
  cnd (ilt v3.1 (len s))
   (grd (inb v3.1 (len v3.2))
    (bnd (KN fuelH (aA v3.2 (toN v3.1) (0:UInt8))) fun v4 =>
    cnd v4
     (grd (inb v3.1 (len v3.2))
      (v2 (w64 (aE v3.1 (1:Int)),nS v3.2 (toN v3.1) (32:UInt8))))
     (v2 (w64 (aE v3.1 (1:Int)),v3.2))))
   (some v3.2)) (fun (_:Unit) (j:Nat)=>((j:Int),(s.take j).map flatB++s.drop j)) (fun _ r=>some (s.map flatB)) (fun _ _=>True) ?_ fuelH 0 () (bU (by omega) _) (bKD _) trivial) rfl
 intro self a j hj _ hself;dsimp only
 by_cases hjl:j<s.length
 ·have hw1:w64 (aE (j:Int) 1)=((j+1:Nat):Int):=aO hjl (by omega)
  have hml:((s.take j).map flatB).length=j:=by rw[bJO,bI6]; omega
  have hll:((s.take j).map flatB++s.drop j).length=s.length:=by rw[bIM,hml,bI7]; omega
  have hin:inb (j:Int) (len ((s.take j).map flatB++s.drop j))=true:=aS (by simp only[len]; omega)
  have hg:aA ((s.take j).map flatB++s.drop j) (toN (j:Int)) (0:UInt8)=s[j]:=by
   rw[aU (show j<_ by omega),List.getElem_append_right (by omega)];simp only[hml,bJ9,List.getElem_drop,bJ7]
  have hnext:∀b:UInt8,b=flatB s[j]→((s.take j).map flatB++b::s.drop (j+1))=(s.take (j+1)).map flatB++s.drop (j+1):=fun b hb=>by
   rw[bHA hjl,bJP,hb];simp
  rw[aD (aP (by simp only[len]; omega)),aF hin,hg,NH,aB]
  have hfw:=aRC s[j]
  cases hb:wsB s[j] with
  |true =>
   rw[hb,if_pos rfl] at hfw
   have hset:nS ((s.take j).map flatB++s.drop j) (toN (j:Int)) (32:UInt8)=(s.take (j+1)).map flatB++s.drop (j+1):=by
    unfold nS;rw[show toN (j:Int)=j by simp[toN],bH2 _ _ (by omega),hml,bJ9,bHK hjl];exact hnext 32 hfw.symm
   rw[aD (by rfl),aF hin,hset,hw1];exact hself () (j+1) (by omega) (by omega) trivial
  |false =>
   rw[hb,if_neg (by decide)] at hfw;rw[aC (by rfl),hw1,bHK hjl,hnext _ hfw.symm];exact hself () (j+1) (by omega) (by omega) trivial
 ·obtain rfl:j=s.length:=by omega
  rw[aC (aQ (by simp only[len]; omega)),bJD,bJA,bJH]
theorem NI{s:Ls}(hs:s.length≤900000):KO fuelH s=some (bM s):=by
 have hu:=JO _ (s.map flatB) [] (bKC _)
 have hml:(s.map flatB).length=s.length:=bJO _
 rw[hml,bJL] at hu;unfold KO;rw[aDC (by omega),aB,aZY (by omega),aB,bF];unfold bM
 by_cases h:(un [] (s.map flatB)).2=0
 ·rw[aD (cB h),if_neg (by simpa using h),iZ _ (by omega),aB]
  cases hv:vld (un [] (s.map flatB)).1 with
  |true =>
   rw[aC (by rfl)];dsimp only;rw[aC (bW h),if_neg (by decide)]
  |false=>rfl
 ·rw[aC (bS h)];dsimp only;rw[aD (bX h),if_pos (by simpa using h)]
theorem aDD{s:Ls}{j:Nat}(hj:j<s.length):jH (s.take (j+1))=if s[j]=10 then(j:Int) else jH (s.take j):=by
 have hr:(s.take (j+1)).reverse=s[j]::(s.take j).reverse:=by
  rw[bHA hj,List.reverse_append];rfl
 have hl:(s.take (j+1)).length=j+1:=by rw[bI6]; omega
 have hl2:(s.take j).length=j:=by rw[bI6]; omega
 unfold jH;rw[hr,hl,bIL,hl2]
 by_cases e:s[j]=10
 ·rw[if_neg (by simp[e]),if_pos e];simp
 ·rw[if_pos (by simp[e]),if_neg e,bI3];omega
theorem zT{s:Ls}(hs:s.length≤3999999){i:Nat}(hi:i≤s.length) (e:Int):iH fuelH (s,(i:Int),e)=some (atP s i e):=by
 have hli:(s.take i).length=i:=by rw[bI6]; omega
 unfold iH atP;dsimp only;rw[bF];refine bKF (bT (s:=s.take i) (F:=fun v2 (v3:Int×Int×Int×Int) =>
  cnd (ilt v3.1 (i:Int))
   (grd (inb v3.1 (len s))
    (cnd (ieq (n8 (aA s (toN v3.1) (0:UInt8))) (n8 (10:UInt8)))
     (v2 (w64 (aE v3.1 (1:Int)),w64 (aE v3.2.1 (1:Int)),(1:Int),v3.2.2.2))
     (v2 (w64 (aE v3.1 (1:Int)),v3.2.1,w64 (aE v3.2.2.1 (1:Int)),v3.2.2.2))))
   (some ([v3.2]:List (Int×Int×Int)))) (fun (_:Unit) (j:Nat)=>((j:Int),1+(((s.take j).count 10:Nat):Int),(j:Int)-jH (s.take j),e)) (fun _ _=>some [(1+(((s.take i).count 10:Nat):Int),(i:Int)-jH (s.take i),e)]) (fun _ _=>True) ?_ fuelH 0 () (bU (by omega) _) (bKD _) trivial) rfl
 intro self a j hj _ hself;dsimp only
 by_cases hji:j<i
 ·have hjl:j<s.length:=by omega
  have hw1:w64 (aE (j:Int) 1)=((j+1:Nat):Int):=aO hjl (by omega)
  have hcl:=List.count_le_length (a:=(10:UInt8)) (l:=s.take j)
  have htl:(s.take j).length=j:=by rw[bI6]; omega
  have hln:=G7 (s.take j)
  have hn:=aDD hjl
  have hct:(s.take (j+1)).count 10=(s.take j).count 10+if s[j]=10 then 1 else 0:=by
   rw[bHA hjl,List.count_append,bID];congr 1
   by_cases e:s[j]=10
   ·rw[if_pos e,if_pos (by simp[e])]
   ·rw[if_neg e,if_neg (by simp[e])]
  have hs2:=hself () (j+1) (by omega) (by omega) trivial
  rw[hct,hn] at hs2;rw[aD (aP (by omega)),aF (aS (by simp only[len]; omega)),aU hjl,hw1]
  by_cases e10:s[j]=10
  ·rw[if_pos e10,if_pos e10] at hs2;rw[aD (cB (by rw[e10]))]
   have ew:w64 (aE (1+(((s.take j).count 10:Nat):Int)) 1)=1+(((s.take j).count 10+1:Nat):Int):=by
    simp only[aE];rw[bG (by omega)];omega
   have ej:((j+1:Nat):Int)-(j:Int)=1:=by omega
   rw[ej] at hs2;rw[ew];exact hs2
  ·rw[if_neg e10,if_neg e10,bJ7] at hs2;rw[aC (bS (fun q=>e10 (cH q)))]
   have ew:w64 (aE ((j:Int)-jH (s.take j)) 1)=((j+1:Nat):Int)-jH (s.take j):=by
    simp only[aE];rw[bG (by omega)];omega
   rw[ew];exact hs2
 ·have:j=i:=by omega
  subst this;rw[aC (aQ (by omega))]
theorem JY{c:UInt8}:∀s:Ls,(s.takeWhile fun b=>b != c).length=s.length↔c ∉ s
 | []=>by simp
 |b::s=>by
  have ih:=JY (c:=c) s
  rw[bIL]
  by_cases h:b=c
  ·rw[if_neg (by simp[h]),h];simp
  ·rw[if_pos (by simp[h]),bI3,bI3,bJX];constructor
   ·intro k;exact fun m=>m.elim (fun e=>h e.symm) (ih.1 (by omega))
   ·intro k
    have:=ih.2 (fun m=>k (.inr m))
    omega
theorem I0(s:Ls) (c:UInt8):0≤lV s [c] 0↔c∈s:=by
 rw[JX,bJS]
 by_cases h:(s.takeWhile fun b=>b != c).length=s.length
 ·rw[if_pos h];exact⟨fun k=>by omega,fun k=>absurd k ((JY s).1 h)⟩
 ·rw[if_neg h];exact⟨fun _=>bHM fun k=>h ((JY s).2 k),fun _=>by omega⟩
theorem I1{q:UInt8}(hq:q≠60):∀t:Ls,KR q t=if(t.takeWhile fun b=>b != q).length=t.length then none else if(60:UInt8)∈t.takeWhile (fun b=>b != q) then none else some (t.takeWhile (fun b=>b != q),t.drop ((t.takeWhile fun b=>b != q).length+1))
 | []=>rfl
 |b::t=>by
  have ih:=I1 hq t
  unfold KR at ih ⊢;rw[bIL,bIL]
  by_cases h1:b=q
  ·subst h1
   have e1:(b != b&&b != 60)=false:=by simp
   have e2:(b != b)=false:=by simp
   rw[e1,e2];simp
  ·have e2:(b != q)=true:=by simpa using h1
   by_cases h2:b=60
   ·subst h2
    have e1:((60:UInt8) != q&&(60:UInt8) != 60)=false:=by simp
    rw[e1,e2,if_neg (by decide),if_pos rfl];simp[h1]
   ·have e1:(b != q&&b != 60)=true:=by simp[h1,h2]
    rw[e1,e2,if_pos rfl,if_pos rfl,bI3,bI3,bIG,bI3]
    by_cases h3:(t.takeWhile fun b=>b != q).length=t.length
    ·rw[if_pos h3] at ih;rw[if_pos (by omega)]
     split at ih
     ·rfl
     ·rename_i c r e
      by_cases hc:c=q
      ·rw[if_pos hc] at ih; cases ih
      ·rw[if_neg hc]
    ·rw[if_neg h3] at ih;rw[if_neg (by omega)]
     by_cases h4:(60:UInt8)∈t.takeWhile fun b=>b != q
     ·rw[if_pos h4] at ih;rw[if_pos (bH7 _ h4)]
      split at ih
      ·rfl
      ·rename_i c r e
       by_cases hc:c=q
       ·rw[if_pos hc] at ih; cases ih
       ·rw[if_neg hc]
     ·rw[if_neg h4] at ih;rw[if_neg (fun m=>(bJX.1 m).elim (fun e=>h2 e.symm) h4)]
      split at ih
      ·cases ih
      ·rename_i c r e
       by_cases hc:c=q
       ·rw[if_pos hc] at ih ⊢;injection ih with ih;injection ih with i1 i2;rw[i1,i2,bIG]
       ·rw[if_neg hc] at ih; cases ih
def tO(t:Ls):Option (Aq×Ls):=if(skp t).length=t.length then none else eQ (skp t)
def aDE(t:Ls):Option (Aq×Ls)→(Aq×Ls×Bool)
 |some (a,r)=>(a,r,true)
 |none=>((([]:Y_),([]:Y_)),t,false)
theorem CB{t r:Ls}{a:Aq}(h:tO t=some (a,r)):r.length<t.length:=by
 unfold tO at h
 split at h
 ·cases h
 ·have:=kL h
  have:=dH t
  omega
theorem aS3{b:UInt8}{s:Ls}(h:s.take 1=[b]):s=b::s.drop 1:=by
 match s with
 | []=>cases h
 |c::s =>
  injection h with h;rw[h];rfl
theorem aDF{s:Ls}(hs:s.length≤3999998):aA4 fuelH s=some (aDE s (tO s)):=by
 have hk:=dH s
 unfold aA4 tO;rw[pT (by omega),aB,zP (by omega),aB];generalize skp s=t at *
 by_cases h0:t.length=s.length
 ·rw[aD (cB (by simp only[len]; omega)),if_pos h0];rfl
 rw[aC (bS (by simp only[len]; omega)),if_neg h0];unfold eQ
 by_cases h1:cD t=[]
 ·rw[aD (by rw[cF]; exact h1),if_pos h1];rfl
 have hnl:=gR t
 have hd:bC (toN (len (cD t))) t=t.drop (cD t).length:=by simp[bC,toN,len]
 have hdl:(t.drop (cD t).length).length=t.length-(cD t).length:=bI7
 have hk2:=dH (t.drop (cD t).length)
 rw[aC (by rw[bO]; simpa using h1),if_neg h1,aF (dG (by simp only[len]; omega)),hd,pT (by omega),aB,kM,aB];generalize hv2:skp (t.drop (cD t).length)=v2 at *
 match v2 with
 | []=>rfl
 |b::r2 =>
  dsimp only
  have ht1:(b::r2).take ([61]:Ls).length=[b]:=rfl
  rw[ht1]
  by_cases h2:b≠61
  ·rw[aD (by rw[decide_eq_false (by simpa using h2)]; rfl),if_neg h2];rfl
  have h2:b=61:=bHM h2
  have hd1:bC (toN (1:Int)) (b::r2)=r2:=rfl
  rw[bI3] at hk2
  have hk3:=dH r2
  rw[aC (by rw[decide_eq_true (by rw[h2])]; rfl),if_pos h2,aF (dG (by simp only[len,bI3]; omega)),hd1,pT (by omega),aB,bF];generalize skp r2=v4 at *
  match v4 with
  | []=>rfl
  |q::r4 =>
   rw[bI3] at hk3
   have hg:aA (q::r4) (toN (0:Int)) (0:UInt8)=q:=rfl
   have hin:inb 0 (len (q::r4))=true:=aS (by simp only[len,bI3]; omega)
   rw[aC (by rw[bO]; simp),aF hin,hg,aF hin];dsimp only
   -- behind the quote
   have rest:q=34∨q=39→(grd (in2 (1:Int) (len (q::r4))) <|
       bnd (cS fuelH (q::r4,aW (toN (1:Int)) (q::r4),(1:Int))) fun v6 =>
       cnd (ilt v6 (0:Int))
        (some ((([]:Y_),([]:Y_)),s,false))
        (grd (in2 v6 (len (q::r4)))
         (bnd (cS fuelH (aW (toN v6) (q::r4),([60]:Y_),(0:Int))) fun v7 =>
         cnd (ile (0:Int) v7)
          (some ((([]:Y_),([]:Y_)),s,false))
          (grd (in3 (1:Int) v6 (len (q::r4)))
           (grd (in2 (w64 (aE v6 (1:Int))) (len (q::r4)))
            (some ((cD t,bC (toN (1:Int)) (aW (toN v6) (q::r4))),bC (toN (w64 (aE v6 (1:Int)))) (q::r4),true))))))) =
     some (aDE s (match KR q r4 with
      |some (v,r5)=>some ((cD t,v),r5)
      |none=>none)):=fun hq=>by
    have hq60:q≠60:=by rcases hq with h|h<;>(rw[h]; decide)
    have htw:=gP (P:=fun b=>b != q) r4
    have ht2:aW (toN (1:Int)) (q::r4)=[q]:=rfl
    have hf1:cS fuelH (q::r4,[q],(1:Int))=some (lV (q::r4) [q] 1):=tN (by rw[bI3]; omega) (by simp) (by simp) (k:=1) (by rw[bI3]; omega)
    have hdd:(q::r4).drop 1=r4:=rfl
    rw[aF (dG (by simp only[len,bI3]; omega)),ht2,hf1,aB,JX,hdd,I1 hq60]
    by_cases h3:(r4.takeWhile fun b=>b != q).length=r4.length
    ·rw[if_pos h3,if_pos h3];rfl
    rw[if_neg h3,if_neg h3,aC (aQ (by omega)),aF (dG (by simp only[len,bI3]; omega))]
    have htk:aW (toN ((1+(r4.takeWhile fun b=>b != q).length:Nat):Int)) (q::r4)=q::r4.takeWhile fun b=>b != q:=by
     unfold aW;rw[show toN ((1+(r4.takeWhile fun b=>b != q).length:Nat):Int)=(r4.takeWhile fun b=>b != q).length+1 by simp only[toN,bI1]; omega,bIH,oM]
    have hf2:∀u:Ls,u.length≤3999999→cS fuelH (u,[60],(0:Int))=some (lV u [60] 0):=fun u hu=>tN hu (by simp) (by simp) (k:=0) (bKD _)
    rw[htk,hf2 _ (by rw[bI3]; omega),aB]
    have hm:=I0 (q::r4.takeWhile fun b=>b != q) 60
    by_cases h4:(60:UInt8)∈r4.takeWhile fun b=>b != q
    ·rw[aD (eA (hm.2 (bH7 _ h4))),if_pos h4];rfl
    ·have:¬0≤lV (q::r4.takeWhile fun b=>b != q) [60] 0:=fun k=>(bJX.1 (hm.1 k)).elim (fun e=>hq60 e.symm) h4
     have hw:w64 (aE ((1+(r4.takeWhile fun b=>b != q).length:Nat):Int) 1)=(((r4.takeWhile fun b=>b != q).length+2:Nat):Int):=by
      simp only[aE];rw[bG (by omega)];omega
     have hd2:bC (toN (((r4.takeWhile fun b=>b != q).length+2:Nat):Int)) (q::r4)=r4.drop ((r4.takeWhile fun b=>b != q).length+1):=by
      unfold bC;rw[show toN (((r4.takeWhile fun b=>b != q).length+2:Nat):Int)=((r4.takeWhile fun b=>b != q).length+1)+1 by simp only[toN,bI1],bIG]
     rw[aC (fZ this),if_neg h4,aF (JK (by simp only[len,bI3]; omega)),hw,aF (dG (by simp only[len,bI3]; omega)),hd2];rfl
   by_cases e1:q=34
   ·rw[aC (bW (by rw[e1])),if_pos (.inl e1)];exact rest (.inl e1)
   rw[aD (bX (fun k=>e1 (cH k)))]
   by_cases e2:q=39
   ·rw[aC (bW (by rw[e2])),if_pos (.inr e2)];exact rest (.inr e2)
   ·rw[aD (bX (fun k=>e2 (cH k))),if_neg (fun k=>k.elim e1 e2)];rfl
def tgE:Nat→Ls→List Aq→Ls×List Aq
 | 0,t,l=>(t,l)
 |n+1,t,l=>match tO t with
  |none=>(t,l)
  |some (a,r)=>tgE n r (l++[a])
theorem aFM:∀(n:Nat) (t:Ls) (l:List Aq),(tgE n t l).1.length≤t.length
 | 0,t,l=>bKC _
 |n+1,t,l=>by
  unfold tgE
  cases h:tO t with
  |none=>exact bKC _
  |some p =>
   obtain⟨a,r⟩:=p
   have:=CB h
   have:=aFM n r (l++[a])
   dsimp only;omega
theorem aFN{R:Type}(name:Ls) (K:Y_×Int×Int×Y_×List (Y_×Y_)→Option R):∀(fuel n:Nat) (t:Ls) (l:List Aq),t.length<fuel→t.length<n→t.length+l.length≤3999998 →
  aY (fun v9 (v10:Y_×Int×Int×Y_×List (Y_×Y_)) =>
     cnd (ieq v10.2.1 (3:Int))
      (bnd (aA4 fuelH v10.1) fun v11 =>
      cnd (bA v11.2.2)
       (K v10)
       (grd (cL (aE (len v10.2.2.2.2) (len ([v11.1]:List (Y_×Y_)))) 32)
        (v9 (v11.2.1,v10.2.1,v10.2.2.1,v10.2.2.2.1,bL v10.2.2.2.2 ([v11.1]:List (Y_×Y_))))))
      (K v10)) fuel (t,(3:Int),(0:Int),name,l)=K ((tgE n t l).1,3,0,name,(tgE n t l).2)
 | 0,_,_,_,h,_,_=>by omega
 |_+1,0,_,_,_,h,_=>by omega
 |fuel+1,n+1,t,l,h1,h2,h3=>by
  rw[eP];dsimp only;rw[aD (cB rfl),aDF (by omega),aB];unfold tgE
  cases h:tO t with
  |none=>rfl
  |some p =>
   obtain⟨a,r⟩:=p
   have hr:=CB h
   have hq:aDE t (some (a,r))=(a,r,true):=rfl
   rw[hq];dsimp only;rw[aC (by rfl),aF (cU (by simp only[len,aE,bI3,bJL]; omega))];exact aFN name K fuel n r (l++[a]) (by omega) (by omega) (by rw[bIM,bI3,bJL]; omega)
def tgF(p:Ls×List Aq):Option (Int×List Aq×Ls):=match skp p.1 with
 | []=>none
 |b::r=>if b=62 then some (1,p.2,r) else if b=47∧r.take 1=[62] then some (3,p.2,r.drop 1) else none
theorem aRD{b:UInt8}{r:Ls}(h:b=62∨b=47):eQ (b::r)=none:=by
 have hn:cD (b::r)=[]:=by
  rw[pQ];rcases h with h|h<;>(subst h; rfl)
 unfold eQ;rw[if_pos hn]
theorem aFO:∀(n:Nat) (t:Ls) (l:List Aq),t.length<n→G6 t l=tgF (tgE n t l)
 | 0,_,_,h=>by omega
 |n+1,t,l,h=>by
  rw[NA]
  have hu:tgE (n+1) t l=match tO t with
   |none=>(t,l)
   |some (a,r)=>tgE n r (l++[a]):=rfl
  rw[hu]
  have hk:=dH t
  cases ha:tO t with
  |none =>
   unfold tgF;dsimp only;unfold tO at ha;generalize skp t=u at *
   match u with
   | []=>rfl
   |b::r =>
    dsimp only
    by_cases h1:b=62
    ·rw[if_pos h1,if_pos h1]
    rw[if_neg h1,if_neg h1]
    by_cases h2:b=47∧r.take 1=[62]
    ·rw[if_pos h2,if_pos h2]
    rw[if_neg h2,if_neg h2]
    by_cases h3:(b::r).length=t.length
    ·rw[if_pos h3]
    ·rw[if_neg h3] at ha ⊢;rw[ha]
  |some p =>
   obtain⟨a,r2⟩:=p
   have hl:=CB ha
   unfold tO at ha
   by_cases h3:(skp t).length=t.length
   ·rw[if_pos h3] at ha; cases ha
   rw[if_neg h3] at ha;generalize skp t=u at *;dsimp only
   match u with
   | []=>cases ha
   |b::r =>
    dsimp only
    have h1:¬(b=62∨b=47):=fun k=>by rw[aRD k] at ha; cases ha
    rw[if_neg (fun k=>h1 (.inl k)),if_neg (fun k=>h1 (.inr k.1)),if_neg h3,ha];exact aFO n r2 (l++[a]) (by omega)
def jW(t:Tok):Int:=if t.1=0 then 6 else if t.1=1 then 3 else if t.1=2 then 5 else if t.1=3 then 4 else if t.2.2.2=[60,63] then 1 else 2
def KS(s:Ls):Option (Tok×Ls)→Int×Int×Ls×List Aq
 |none=>(0,0,[],[])
 |some (t,r)=>(jW t,((s.length-r.length:Nat):Int),t.2.1,t.2.2.1)
theorem aOK{n r:Nat}(h:r+1≤n) (hn:n≤4000000):w64 (aE (w64 (aH (n:Int) ((r+1:Nat):Int))) 1)=((n-r:Nat):Int):=by
 simp only[aE,aH];rw[bG (show -9223372036854775808≤(n:Int)-((r+1:Nat):Int)∧(n:Int)-((r+1:Nat):Int)≤9223372036854775807 by omega),bG (by omega)];omega
theorem FL{s:Ls}{x:Ls}{k:Int}{name:Ls}{l:List Aq}(hs:s.length≤3999990) (hx:x.length≤s.length) :
  (bnd (yO fuelH (x,([62]:Y_))) fun v5 =>
      cnd (bA v5)
       (some ((0:Int),(0:Int),([]:Y_),([]:List (Y_×Y_))))
       (some (k,w64 (aE (w64 (aH (len s) (len x))) (1:Int)),name,l)))=some (if x.take 1=[62] then(k,((s.length-(x.drop 1).length:Nat):Int),name,l) else(0,0,[],[])):=by
 rw[kM,aB]
 have h1:([62]:Ls).length=1:=rfl
 rw[h1]
 by_cases h:x.take 1=[62]
 ·have hx1:=aS3 h
  have hl:=congrArg List.length hx1
  rw[bI3] at hl
  have:=aOK (n:=s.length) (r:=(x.drop 1).length) (by omega) (by omega)
  rw[decide_eq_true h,aC (by rfl),if_pos h];simp only[len];rw[hl,this]
 ·rw[decide_eq_false h,aD (by rfl),if_neg h]
theorem aRE{u:Ls}(hs:(60::u).length≤3999990):uH fuelH (60::u)=some (KS (60::u) (if(60::u).take 2=[60,47] then JN (60::u) else zQ (60::u))):=by
 rw[bI3] at hs
 have hsl:(60::u).length=u.length+1:=rfl
 have hd:bC (toN (1:Int)) (60::u)=u:=rfl
 unfold uH;rw[aF (dG (by simp only[len,bI3]; omega)),bF,hd,kM,aB]
 have h1:([47]:Ls).length=1:=rfl
 rw[h1]
 have h2:(60::u).take 2=[60,47]↔u.take 1=[47]:=by
  show 60::u.take 1=[60,47]↔_;simp
 by_cases h:u.take 1=[47]
 ·have hu:=aS3 h
  have hul:=congrArg List.length hu
  rw[bI3] at hul
  have hdd:bC (toN (1:Int)) u=u.drop 1:=rfl
  have hds:(60::u).drop 2=u.drop 1:=rfl
  rw[decide_eq_true h,aD (by rfl),aF (dG (by simp only[len]; omega)),if_pos (h2.2 h),hdd];unfold JN;rw[hds];generalize u.drop 1=t at *;dsimp only;rw[zP (by omega),aB]
  have hnl:=gR t
  by_cases hn:cD t=[]
  ·rw[aD (by rw[cF]; exact hn),if_pos hn];rfl
  have hd2:bC (toN (len (cD t))) t=t.drop (cD t).length:=by simp[bC,toN,len]
  rw[aC (by rw[bO]; simpa using hn),if_neg hn,aF (dG (by simp only[len]; omega)),bF,hd2]
  have hdl:(t.drop (cD t).length).length=t.length-(cD t).length:=bI7
  generalize t.drop (cD t).length=w at *
  have hk:=dH w
  have hF:fuelH=fuelH-1+1:=by have:=aZ; omega
  conv=>lhs; arg 2; rw[hF]
  rw[eP];dsimp only;rw[aC (by rfl)];rw[pT (by omega),aB,bF,aC (by rfl)];dsimp only;refine bKF (FL (s:=60::u) (by omega) (by omega)) ?_;generalize skp w=x at *
  match x with
  | []=>rfl
  |b::r =>
   have hb:(b::r).take 1=[b]:=rfl
   rw[hb];dsimp only
   by_cases e:b=62
   ·rw[if_pos (by rw[e]),if_pos e];rfl
   ·rw[if_neg (by simpa using e),if_neg e];rfl
 ·have hds:(60::u).drop 1=u:=rfl
  rw[decide_eq_false h,aC (by rfl),if_neg (fun k=>h (h2.1 k))];unfold zQ;rw[hds];dsimp only;rw[zP (by omega),aB]
  have hnl:=gR u
  by_cases hn:cD u=[]
  ·rw[aD (by rw[cF]; exact hn),if_pos hn];rfl
  have hd2:bC (toN (len (cD u))) u=u.drop (cD u).length:=by simp[bC,toN,len]
  rw[aC (by rw[bO]; simpa using hn),if_neg hn,aF (dG (by simp only[len]; omega)),bF,hd2]
  have hdl:(u.drop (cD u).length).length=u.length-(cD u).length:=bI7
  generalize u.drop (cD u).length=w at *
  have htg:=aFM (w.length+1) w []
  refine bKF (aFN (cD u) _ fuelH (w.length+1) w [] (by have:=aZ; omega) (by omega) (by simp; omega)) ?_;rw[aFO (w.length+1) w [] (by omega)];generalize tgE (w.length+1) w []=p at *;obtain⟨t,l⟩:=p;dsimp only at htg ⊢
  have hk:=dH t
  rw[pT (by omega),aB,bF,aD (by rfl),kM,aB,h1];unfold tgF;dsimp only;generalize skp t=x at *
  match x with
  | [] =>
   rw[decide_eq_false (by decide),aC (by rfl)];dsimp only;exact FL (s:=60::u) (by omega) (by simp)
  |b::r =>
   have hb:(b::r).take 1=[b]:=rfl
   have hd3:bC (toN (1:Int)) (b::r)=r:=rfl
   rw[bI3] at hk;rw[hb];dsimp only
   by_cases e:b=47
   ·rw[decide_eq_true (by rw[e]),aD (by rfl),aF (dG (by simp only[len,bI3]; omega)),hd3,if_neg (by rw[e]; decide)];refine bKF (FL (s:=60::u) (by omega) (by rw[bI3]; omega)) ?_
    by_cases e2:r.take 1=[62]
    ·rw[if_pos e2,if_pos ⟨e,e2⟩];rfl
    ·rw[if_neg e2,if_neg (fun k=>e2 k.2)];rfl
   ·rw[decide_eq_false (by simpa using e),aC (by rfl)];refine bKF (FL (s:=60::u) (by omega) (by rw[bI3,bI3]; omega)) ?_;rw[hb]
    by_cases e2:b=62
    ·rw[if_pos (by rw[e2]),if_pos e2];rfl
    ·rw[if_neg (by simpa using e2),if_neg e2,if_neg (fun k=>e k.1)];rfl
theorem I2{s head tail:Ls}{k:Int}(hs:s.length≤3999990) (hk:head.length≤s.length) (h0:tail≠[]) (h3:tail.length≤3) (hkind:jW ((4,[],[],head):Tok)=k) :
  (bnd (cS fuelH (s,tail,((head.length:Nat):Int))) fun v2 =>
   cnd (ile (0:Int) v2)
    (some (k,w64 (aE v2 ((tail.length:Nat):Int)),([]:Y_),([]:List (Y_×Y_))))
    (some ((0:Int),(0:Int),([]:Y_),([]:List (Y_×Y_)))))=some (KS s (jA s head tail)):=by
 rw[tN (by omega) h0 (by omega) hk,aB];unfold lV jA
 have hge:=index_ge (s.drop head.length) tail
 by_cases h:Lib.index (s.drop head.length) tail<0
 ·rw[if_pos h,if_pos h];rfl
 ·have hle:Lib.index (s.drop head.length) tail+tail.length≤((s.drop head.length).length:Int):=by
   have hp:=bIK.2 h0
   apply bHM;intro hc
   have hn:Lib.index (s.drop head.length) tail=-1∨∃i:Nat,i≤(s.drop head.length).length∧Lib.index (s.drop head.length) tail=i∧Lib.occAt (s.drop head.length) tail i=true:=by
    rcases Classical.em (∃i:Nat,i≤(s.drop head.length).length∧Lib.occAt (s.drop head.length) tail i=true) with hx|hx
    ·right
     have:∀n i:Nat,i≤n→i≤(s.drop head.length).length→Lib.occAt (s.drop head.length) tail i=true→∃j:Nat,j≤(s.drop head.length).length∧Lib.index (s.drop head.length) tail=j∧Lib.occAt (s.drop head.length) tail j=true:=fun n=>by
      induction n with
      |zero =>
       intro i hi h1 h2;exact⟨i,h1,index_hit (fun j hj=>by omega) h1 h2,h2⟩
      |succ n ih =>
       intro i hi h1 h2;rcases Classical.em (∃j,j<i∧Lib.occAt (s.drop head.length) tail j=true) with⟨j,hj,hj2⟩|hno
       ·exact ih j (by omega) (by omega) hj2
       ·refine⟨i,h1,index_hit (fun j hj=>?_) h1 h2,h2⟩
        cases ho:Lib.occAt (s.drop head.length) tail j with
        |false=>rfl
        |true=>exact absurd ⟨j,hj,ho⟩ hno
     obtain⟨i,hi,hi2⟩:=hx;exact this i i (bKC _) hi hi2
    ·left;refine index_none fun j hj=>?_
     cases ho:Lib.occAt (s.drop head.length) tail j with
     |false=>rfl
     |true=>exact absurd ⟨j,hj,ho⟩ hx
   rcases hn with hn|⟨i,h1,h2,h4⟩
   ·omega
   ·rcases occAt_room h4 with h5|h5
    ·omega
    ·exact h0 h5
  rw[bI7] at hle;obtain⟨m,hm⟩:∃m:Nat,Lib.index (s.drop head.length) tail=(m:Int):=⟨(Lib.index (s.drop head.length) tail).toNat,by omega⟩;rw[hm] at hle ⊢
  have hneg:¬((m:Int)<0):=by omega
  rw[if_neg hneg,if_neg hneg,aD (eA (by omega))];unfold KS
  have hw:w64 (aE ((head.length:Int)+(m:Int)) ((tail.length:Nat):Int))=((s.length-(s.drop (head.length+m+tail.length)).length:Nat):Int):=by
   simp only[aE];rw[bI7,bG (by omega)];omega
  rw[hw,←hkind];rfl
theorem aOL{s:Ls}(hs:s.length≤3999990) (h0:s≠[]):pI fuelH s=some (KS s (jU s)):=by
 match s with
 | []=>exact absurd rfl h0
 |b::u =>
  have hsl:=hs
  rw[bI3] at hsl
  have hg:aA (b::u) (toN (0:Int)) (0:UInt8)=b:=rfl
  unfold pI;rw[aF (aS (by simp only[len,bI3]; omega)),hg,gS]
  by_cases e:b=60
  ·rw[aC (bW (by rw[e])),if_pos e,kM,aB]
   have l2:([60,63]:Ls).length=2:=rfl
   have l4:([60,33,45,45]:Ls).length=4:=rfl
   rw[l2]
   by_cases h1:(b::u).take 2=[60,63]
   ·have hl:=congrArg List.length h1
    rw[bI6] at hl;rw[decide_eq_true h1,aD (by rfl),if_pos h1];exact I2 (s:=b::u) (head:=[60,63]) (tail:=[63,62]) hs (by simp at hl ⊢; omega) (by simp) (by simp) rfl
   rw[decide_eq_false h1,aC (by rfl),if_neg h1,kM,aB,l4]
   by_cases h2:(b::u).take 4=[60,33,45,45]
   ·have hl:=congrArg List.length h2
    rw[bI6] at hl;rw[decide_eq_true h2,aD (by rfl),if_pos h2];exact I2 (s:=b::u) (head:=[60,33,45,45]) (tail:=[45,45,62]) hs (by simp at hl ⊢; omega) (by simp) (by simp) rfl
   rw[decide_eq_false h2,aC (by rfl),if_neg h2];subst e;rw[aRE hs,aB]
  ·have hf:cS fuelH (b::u,[60],(0:Int))=some (lV (b::u) [60] 0):=tN (by omega) (by simp) (by simp) (k:=0) (bKD _)
   have htw:=gP (P:=not60) (b::u)
   have hn:(fun c:UInt8=>c != 60)=not60:=rfl
   rw[aD (bX (fun k=>e (cH k))),if_neg e,hf,aB,JX,bJS,hn];unfold KS
   have hsz:(b::u).length-((b::u).drop ((b::u).takeWhile not60).length).length=((b::u).takeWhile not60).length:=by rw[bI7]; omega
   have hkd:jW ((0,[],[],(b::u).takeWhile not60):Tok)=6:=rfl
   dsimp only;rw[hsz,hkd]
   by_cases h1:((b::u).takeWhile not60).length=(b::u).length
   ·rw[if_pos h1,aD (by rfl),h1];rfl
   ·rw[if_neg h1,aC (aQ (by omega)),bJ4]
abbrev Rs:=List Nd×List Ls×Bool×Bool
def rst(p:Ps):Rs:=(p.1,p.2.1,decide (p.2.1=[]∧p.1≠[]),p.2.2)
theorem NJ(N:Nat){p:Ps}(hp:p.1.length≤8192) (el:Bool):DG N (rst p,el)=some (dC p (!el),rst p):=by
 obtain⟨nodes,stack,joined⟩:=p;dsimp only at hp;unfold DG dC
 have e1:(rst (nodes,stack,joined)).2.2.1=decide (stack=[]∧nodes≠[]):=rfl
 have e2:(rst (nodes,stack,joined)).2.1=stack:=rfl
 have e3:(rst (nodes,stack,joined)).1=nodes:=rfl
 have e4:(rst (nodes,stack,joined)).2.2.2=joined:=rfl
 dsimp only;rw[e1,e2,e3,e4,bF];generalize rst (nodes,stack,joined)=q
 have tail:(cnd false (some ((8:Int),q))
   (cnd (ilt (15:Int) (len stack))
    (some ((9:Int),q))
    (cnd (ieq (len nodes) (8192:Int))
     (cnd el
      (some ((9:Int),q))
      (cnd (bA joined)
       (some ((9:Int),q))
       (some ((0:Int),q))))
     (some ((0:Int),q)))))=some (if 15<stack.length then 9 else if 8192≤nodes.length∧¬((!el)=true∧joined=true) then 9 else 0,q):=by
  rw[aC (by rfl)]
  by_cases h1:15<stack.length
  ·rw[aD (aP (by simp only[len]; omega)),if_pos h1]
  rw[aC (aQ (by simp only[len]; omega)),if_neg h1]
  by_cases h2:8192≤nodes.length
  ·rw[aD (cB (by simp only[len]; omega))]
   cases el with
   |true=>rw[if_pos ⟨h2,by simp⟩]; rfl
   |false =>
    cases joined with
    |true=>rw[if_neg (by simp)]; rfl
    |false=>rw[if_pos ⟨h2,by simp⟩]; rfl
  ·rw[aC (bS (by simp only[len]; omega)),if_neg (fun k=>h2 k.1)]
 by_cases h0:stack=[]
 ·by_cases hn:nodes=[]
  ·rw[decide_eq_false (fun k=>k.2 hn),aC (by rfl)]
   cases el with
   |true =>
    rw[aC (by rfl),if_neg (fun k=>k.2.elim (fun z=>by cases z) (fun z=>z hn))];exact tail
   |false =>
    rw[aD (by rfl),if_pos ⟨h0,.inl rfl⟩,cB (show len stack=0 by rw[h0]; rfl)];rfl
  ·rw[decide_eq_true ⟨h0,hn⟩,aD (by rfl),if_pos ⟨h0,.inr hn⟩];rfl
 ·have hf:ieq (len stack) 0=false:=bS (by have:=bIK.2 h0; simp only[len]; omega)
  rw[decide_eq_false (fun k=>h0 k.1),aC (by rfl),if_neg (fun k=>h0 k.1),hf]
  cases el with
  |true=>rw[aC (by rfl)]; exact tail
  |false=>rw[aD (by rfl)]; exact tail
theorem aJE{p:Ps}(h:dC p true=0):p.2.1≠[]:=fun k=>by
 unfold dC at h;rw[if_pos ⟨k,.inl rfl⟩] at h;cases h
theorem aFP(s:Ls):skp s=[]↔JP s=true:=by
 induction s with
 |nil=>exact⟨fun _=>rfl,fun _=>rfl⟩
 |cons b s ih =>
  rw[H9];unfold JP at ih ⊢;rw[bJ1]
  cases h:wsB b with
  |true=>rw[if_pos rfl,ih,bJ0]
  |false=>rw[if_neg (by decide)]; simp
theorem aJF{p:Ps}{s:Ls}(hs:s.length≤300000) (hj:p.2.2=true→p.1≠[]) (hn:p.1.length≤8192) (ht:∀n∈p.1,n.2.1.length≤4000000):aHC fuelH (rst p,s)=some ((zR p s).1,rst (zR p s).2):=by
 have hml:=pS s
 have hf:cS fuelH (s,[10],(0:Int))=some (lV s [10] 0):=tN (by omega) (by simp) (by simp) (k:=0) (bKD _)
 have e1:(rst p).1=p.1:=rfl
 have e2:(rst p).2.1=p.2.1:=rfl
 have e4:(rst p).2.2.2=p.2.2:=rfl
 have hpl:=NJ fuelH hn false
 unfold aHC zR;dsimp only;rw[bF,pT (by omega),aB,hf,aB,e2]
 have rest:(bnd (KO fuelH s) fun v1 =>
  cnd (ine v1.2 (0:Int))
   (some (v1.2,rst p))
   (bnd (DG fuelH (rst p,false)) fun v2 =>
   cnd (ine v2.1 (0:Int))
    (some v2)
    (cnd v2.2.2.2.2
     (grd (inb (w64 (aH (len v2.2.1) (1:Int))) (len v2.2.1))
      (grd (dQ (aE (len (aA v2.2.1 (toN (w64 (aH (len v2.2.1) (1:Int)))) zN).2.1) (len v1.1)))
       (grd (inb (w64 (aH (len v2.2.1) (1:Int))) (len v2.2.1))
        (some ((0:Int),nS v2.2.1 (toN (w64 (aH (len v2.2.1) (1:Int)))) ((aA v2.2.1 (toN (w64 (aH (len v2.2.1) (1:Int)))) zN).1,bL (aA v2.2.1 (toN (w64 (aH (len v2.2.1) (1:Int)))) zN).2.1 v1.1,(aA v2.2.1 (toN (w64 (aH (len v2.2.1) (1:Int)))) zN).2.2),v2.2.2)))))
     (grd (cL (aE (len v2.2.1) (len ([(([]:Y_),v1.1,([]:List (Y_×Y_)),len v2.2.2.1)]:List (Y_×Y_×(List (Y_×Y_))×Int)))) 64)
      (some ((0:Int),bL v2.2.1 ([(([]:Y_),v1.1,([]:List (Y_×Y_)),len v2.2.2.1)]:List (Y_×Y_×(List (Y_×Y_))×Int)),v2.2.2.1,v2.2.2.2.1,true)))))) =
   some ((if(bM s).2≠0 then((bM s).2,p) else if dC p true≠0 then(dC p true,p)
 else if p.2.2=true then(0,hM p.1 (bM s).1,p.2.1,p.2.2) else(0,p.1++[([],(bM s).1,[],(p.2.1.length:Int))],p.2.1,true)).1,rst (if(bM s).2≠0 then((bM s).2,p) else if dC p true≠0 then(dC p true,p)
 else if p.2.2=true then(0,hM p.1 (bM s).1,p.2.1,p.2.2) else(0,p.1++[([],(bM s).1,[],(p.2.1.length:Int))],p.2.1,true)).2):=by
  have hpl2:DG fuelH (rst p,false)=some (dC p true,rst p):=hpl
  rw[NI (by omega),aB,hpl2,aB];dsimp only;rw[e1,e2,e4]
  by_cases h1:(bM s).2=0
  ·rw[aC (bW h1),if_neg (fun k=>k h1)]
   by_cases h2:dC p true=0
   ·have ho:=aJE h2
    have hc:∀(l:List Nd) (j:Bool),rst (l,p.2.1,j)=(l,p.2.1,false,j):=fun l j=>by
     unfold rst;rw[decide_eq_false (fun k=>ho k.1)]
    have hc0:(rst p).2.2.1=false:=decide_eq_false (fun k=>ho k.1)
    rw[aC (bW h2),if_neg (fun k=>k h2)]
    by_cases h3:p.2.2=true
    ·have hne:=hj h3
     obtain⟨n,q1,q2,q3,q4⟩:=kR hne
     have hp:0<p.1.length:=bIK.2 hne
     have hw:w64 (aH (len p.1) 1)=((p.1.length-1:Nat):Int):=nP hp (by omega)
     have hg:aA p.1 (toN ((p.1.length-1:Nat):Int)) zN=n:=by rw[kD q3,q4]
     have htn:=ht n (by rw[q2]; simp)
     rw[aD h3,if_pos h3,hw,hg,aF (aS (by simp only[len]; omega)),aF (oK (by simp only[len,aE]; omega)),aF (aS (by simp only[len]; omega))];unfold hM;rw[q1];dsimp only
     have:nS p.1 (toN ((p.1.length-1:Nat):Int)) (n.1,bL n.2.1 (bM s).1,n.2.2)=p.1.dropLast++[(n.1,n.2.1++(bM s).1,n.2.2)]:=by
      unfold nS;rw[show toN ((p.1.length-1:Nat):Int)=p.1.length-1 by simp[toN]];exact G9 hne _
     rw[this,hc];unfold rst;rw[decide_eq_false (fun k=>ho k.1)]
    ·rw[aC (by simpa using h3),if_neg h3,aF (cU (by simp only[len,aE,bI3,bJL]; omega)),hc0,hc];rfl
   ·rw[aD (bX h2),if_pos h2]
  ·rw[aD (bX h1),if_pos h1]
 have hnl:nlB s=true↔0≤lV s [10] 0:=by
  rw[I0];unfold nlB;rw[decide_eq_true_eq];exact⟨fun k=>bHM fun z=>k ((JY s).2 z),fun k z=>(JY s).1 z k⟩
 by_cases hb:JP s=true
 ·rw[aD (by rw[cF]; exact(aFP s).2 hb)]
  by_cases hn2:nlB s=true
  ·rw[aD (eA (hnl.1 hn2)),if_pos ⟨hb,.inl hn2⟩]
  ·rw[aC (fZ (fun k=>hn2 (hnl.2 k)))]
   by_cases ho:p.2.1=[]
   ·rw[aD (cB (by rw[ho]; rfl)),if_pos ⟨hb,.inr ho⟩]
   ·rw[aC (bS (by have:=bIK.2 ho; simp only[len]; omega)),if_neg (fun k=>by rcases k.2 with k|k; exact hn2 k; exact ho k)];exact rest
 ·rw[aC (by rw[bO]; simpa using fun k=>hb ((aFP s).1 k)),if_neg (fun k=>hb k.1)];exact rest
theorem aRF{p:Ps}{k z:Int}{name:Ls}{l:List At}(hi:p.2.1≠[]→p.1≠[]) (ho:p.2.1.length≤300000) (hnm:nmX name=true):aHD fuelH (rst p,k,z,name,l)=some ((JR p name).1,rst (JR p name).2):=by
 have e1:(rst p).1=p.1:=rfl
 have e2:(rst p).2.1=p.2.1:=rfl
 unfold aHD JR;dsimp only;rw[e1,e2,if_neg (by rw[hnm]; decide)]
 by_cases h2:p.2.1=[]
 ·have hw:ilt (w64 (aH (len p.2.1) 1)) 0=true:=by rw[h2]; rfl
  rw[aD hw,if_neg (by rw[h2]; simp)]
 ·obtain⟨n,q1,q2,q3,q4⟩:=kR h2
  have hp:0<p.2.1.length:=bIK.2 h2
  have hw:w64 (aH (len p.2.1) 1)=((p.2.1.length-1:Nat):Int):=nP hp (by omega)
  have hg:aA p.2.1 (toN ((p.2.1.length-1:Nat):Int)) []=n:=by rw[aU q3,q4]
  rw[hw,aC (aQ (by omega)),aF (aS (by simp only[len]; omega)),hg,q1]
  by_cases h3:n=name
  ·rw[aC (by unfold sne; simpa using h3),if_pos (by rw[h3]),aF (dG (by simp only[ofN,gE]; omega))]
   have hc:gG p.2.1 0 (toN ((p.2.1.length-1:Nat):Int))=p.2.1.dropLast:=by
    simp only[gG,toN,bI1,bJS];rw[List.dropLast_eq_take]
   have hdl:p.2.1.dropLast.length=p.2.1.length-1:=bH9
   have hcl:ieq ((p.2.1.length-1:Nat):Int) 0=decide (p.2.1.dropLast=[]∧p.1≠[]):=by
    by_cases e:p.2.1.dropLast=[]
    ·rw[decide_eq_true ⟨e,hi h2⟩];rw[e,bJL] at hdl;exact cB (by omega)
    ·rw[decide_eq_false (fun z=>e z.1)]
     have:=bIK.2 e
     exact bS (by omega)
   rw[hc,hcl];rfl
  ·rw[aD (by unfold sne; simpa using h3),if_neg (fun z=>h3 (by injection z))]
theorem I3{R:Type}{l:List At}(hl:l.length≤300000) (hv:∀a∈l,a.1.length≤4000000) (bad:Option R) (K:Option R) :
  aY (fun v14 (v15:Int) =>
  cnd (ilt v15 (len l))
   (grd (inb v15 (len l))
    (bnd (eN fuelH (aA l (toN v15) ([],[])).1) fun v16 =>
    cnd (bA v16)
     bad
     (v14 (w64 (aE v15 (1:Int))))))
   K) fuelH (0:Int)=if(l.map Prod.fst).all nmX=false then bad else K:=by
 refine bT (s:=l) (fun (_:Unit) (j:Nat)=>(j:Int)) (fun _ r=>if(r.map Prod.fst).all nmX=false then bad else K) (fun _ _=>True) ?_ fuelH 0 () (bU (by omega) _) (bKD _) trivial;intro self a j hj _ hself
 by_cases hjl:j<l.length
 ·have hw:w64 (aE (j:Int) 1)=((j+1:Nat):Int):=aO hjl (by omega)
  rw[aD (aP (by simp only[len]; omega)),aF (aS (by simp only[len]; omega)),aU hjl,jT (hv _ (bJE hjl)),aB,bHK hjl,bJY,bJ1,hw]
  cases h:nmX (l[j]).1 with
  |true =>
   rw[aC (by rfl),bJ0];exact hself () (j+1) (by omega) (by omega) trivial
  |false =>
   rw[aD (by rfl),bJV,if_pos rfl]
 ·obtain rfl:j=l.length:=by omega
  rw[aC (aQ (by simp only[len]; omega)),bJD];rfl
theorem NK{p:Ps}{t:Tok}{z:Int}(hnm:nmX t.2.1=true) (ht1:t.1=1∨t.1=3) (hl:t.2.2.1.length≤300000) (hv:∀a∈t.2.2.1,a.2.length≤900000) (hv1:∀a∈t.2.2.1,a.1.length≤4000000) (hp:p.1.length≤8192) (ho:p.2.1.length≤300000):aHE fuelH (rst p,jW t,z,t.2.1,t.2.2.1)=some ((jV p t).1,rst (jV p t).2):=by
 have e1:(rst p).1=p.1:=rfl
 have e2:(rst p).2.1=p.2.1:=rfl
 have hkt:jW t=if t.1=1 then 3 else 4:=by
  unfold jW;rcases ht1 with h|h<;>(rw[h]; rfl)
 unfold aHE jV;dsimp only;rw[bF,e2,hkt];refine bKF (I3 hl hv1 _ _) ?_
 have hall:(t.2.1::t.2.2.1.map Prod.fst).all nmX=(t.2.2.1.map Prod.fst).all nmX:=by rw[bJ1,hnm,bJ0]
 rw[hall]
 by_cases h1:(t.2.2.1.map Prod.fst).all nmX=false
 ·rw[if_pos h1,if_pos h1]
 rw[if_neg h1,if_neg h1];dsimp only
 by_cases h2:16<t.2.2.1.length
 ·rw[aD (aP (by simp only[len]; omega)),if_pos h2]
 rw[aC (aQ (by simp only[len]; omega)),if_neg h2,bF]
 have hpl:DG fuelH (rst p,true)=some (dC p false,rst p):=NJ fuelH hp true
 generalize hal:t.2.2.1=l at *
 let fin:Int×List At→Int×Ps:=fun m=>if m.1≠0 then(m.1,p) else if dC p false≠0 then(dC p false,p)
   else(0,p.1++[(t.2.1,[],m.2,(p.2.1.length:Int))],if t.1=1 then p.2.1++[t.2.1] else p.2.1,false)
 have h:=bT (s:=l) (fun (out:List At) (j:Nat)=>((j:Int),(t.2.1,(([]:Y_),(out,len p.2.1)))))
  (fun out r=>some ((fin (atM ((l.take (l.length-r.length)).map Prod.fst) out r)).1,rst (fin (atM ((l.take (l.length-r.length)).map Prod.fst) out r)).2)) (fun j out=>out.length≤j)
  (F:=fun v4 (v5:Int×Y_×Y_×(List (Y_×Y_))×Int) =>
    cnd (ilt v5.1 (len l))
     (jn (fun (v6:Y_×Y_×(List (Y_×Y_))×Int) =>
      v4 (w64 (aE v5.1 (1:Int)),v6))
     fun v7 =>
     grd (inb v5.1 (len l)) <|
     jn (fun (v8:Unit) =>
      bnd (KO fuelH (aA l (toN v5.1) ([],[])).2) fun v9 =>
      cnd (ine v9.2 (0:Int))
       (some (v9.2,rst p))
       (grd (cL (aE (len v5.2.2.2.1) (len ([((aA l (toN v5.1) ([],[])).1,v9.1)]:List (Y_×Y_)))) 32)
        (v7 (v5.2.1,v5.2.2.1,bL v5.2.2.2.1 ([((aA l (toN v5.1) ([],[])).1,v9.1)]:List (Y_×Y_)),v5.2.2.2.2))))
     fun v10 =>
     grd (in2 v5.1 (len l)) <|
     aY (fun v11 (v12:Int) =>
      cnd (ilt v12 (len (aW (toN v5.1) l)))
       (grd (inb v12 (len (aW (toN v5.1) l)))
        (cnd (seq (aA l (toN v5.1) ([],[])).1 (aA (aW (toN v5.1) l) (toN v12) ([],[])).1)
         (some ((7:Int),rst p))
         (v11 (w64 (aE v12 (1:Int))))))
       (v10 ())) fuelH (0:Int))
     ((fun (v1:Y_×Y_×(List (Y_×Y_))×Int) =>
    bnd (DG fuelH (rst p,true)) fun v2 =>
    cnd (ine v2.1 (0:Int))
     (some v2)
     (grd (cL (aE (len v2.2.1) (len ([v1]:List (Y_×Y_×(List (Y_×Y_))×Int)))) 64)
      (cnd (ieq (if t.1=1 then 3 else 4) (3:Int))
       (grd (cL (aE (len v2.2.2.1) (len ([t.2.1]:List Y_))) 16)
        (some ((0:Int),bL v2.2.1 ([v1]:List (Y_×Y_×(List (Y_×Y_))×Int)),bL v2.2.2.1 ([t.2.1]:List Y_),ieq (len (bL v2.2.2.1 ([t.2.1]:List Y_))) (0:Int),false)))
       (some ((0:Int),bL v2.2.1 ([v1]:List (Y_×Y_×(List (Y_×Y_))×Int)),v2.2.2.1,ieq (len v2.2.2.1) (0:Int),false))))) v5.2)) ?_ fuelH 0 [] (bU (by omega) _) (bKD _) (bKD _)
 ·refine bKF h ?_;rw[bJS,bJ9];rfl
 ·intro self out j hj hI hself;dsimp only
  by_cases hjl:j<l.length
  ·have hw:w64 (aE (j:Int) 1)=((j+1:Nat):Int):=aO hjl (by omega)
   have hva:=hv _ (bJE hjl)
   have hin:inb (j:Int) (len l)=true:=aS (by simp only[len]; omega)
   have htk:aW (toN (j:Int)) l=l.take j:=by simp[aW,toN]
   rw[aD (aP (by simp only[len]; omega)),bF,aF hin,bF,aF (dG (by simp only[len]; omega)),htk,aU hjl];refine bKF (NF (by rw[bI6]; omega) _ _ _) ?_
   have hrl:l.length-(l.drop j).length=j:=by rw[bI7]; omega
   have hrl2:l.length-(l.drop (j+1)).length=j+1:=by rw[bI7]; omega
   rw[hrl,bHK hjl]
   have hat:atM ((l.take j).map Prod.fst) out (l[j]::l.drop (j+1))=if(l[j]).1∈(l.take j).map Prod.fst then(7,[]) else if(bM (l[j]).2).2≠0 then((bM (l[j]).2).2,[]) else atM ((l.take j).map Prod.fst++[(l[j]).1]) (out++[((l[j]).1,(bM (l[j]).2).1)]) (l.drop (j+1)):=rfl
   rw[hat]
   by_cases h3:(l[j]).1∈(l.take j).map Prod.fst
   ·rw[if_pos h3,if_pos h3];rfl
   rw[if_neg h3,if_neg h3,NI (by omega),aB]
   by_cases h4:(bM (l[j]).2).2=0
   ·rw[aC (bW h4),if_neg (show ¬(bM (l[j]).2).2≠0 from fun k=>k h4),aF (cU (by simp only[len,aE,bI3,bJL]; omega)),hw]
    have hseen:(l.take j).map Prod.fst++[(l[j]).1]=(l.take (j+1)).map Prod.fst:=by
     rw[bHA hjl,bJP];rfl
    rw[hseen];refine bKF (hself (out++[((l[j]).1,(bM (l[j]).2).1)]) (j+1) (by omega) (by omega) (by simp; omega)) ?_;rw[hrl2]
   ·rw[aD (bX h4),if_pos h4]
    have hfin:fin ((bM (l[j]).2).2,[])=((bM (l[j]).2).2,p):=if_pos h4
    rw[hfin]
  ·obtain rfl:j=l.length:=by omega
   rw[aC (aQ (by simp only[len]; omega)),bJD,bJL,Nat.sub_zero,hpl,aB]
   have hat:∀seen out,atM seen out []=(0,out):=fun _ _=>rfl
   rw[hat]
   have hfin:fin (0,out)=if dC p false≠0 then(dC p false,p)
   else(0,p.1++[(t.2.1,[],out,(p.2.1.length:Int))],if t.1=1 then p.2.1++[t.2.1] else p.2.1,false):=if_neg (fun k=>k rfl)
   rw[hfin];dsimp only;rw[e1,e2]
   by_cases h5:dC p false=0
   ·rw[aC (bW h5),if_neg (show ¬dC p false≠0 from fun k=>k h5),aF (cU (by simp only[len,aE,bI3,bJL]; omega))]
    by_cases h6:t.1=1
    ·rw[if_pos h6,aD (by rfl),if_pos h6,aF (cU (by simp only[len,aE,bI3,bJL]; omega))];unfold rst
     have hc:ieq (len (bL p.2.1 [t.2.1])) 0=decide (p.2.1++[t.2.1]=[]∧p.1++[(t.2.1,([],(out,(p.2.1.length:Int))))]≠[]):=by
      rw[decide_eq_false (by simp)];exact bS (by simp only[len,bL,bIM,bI3,bJL]; omega)
     dsimp only;rw[hc];rfl
    ·rw[if_neg h6,aC (by rfl),if_neg h6];unfold rst
     have hc:ieq (len p.2.1) 0=decide (p.2.1=[]∧p.1++[(t.2.1,([],(out,(p.2.1.length:Int))))]≠[]):=by
      by_cases e:p.2.1=[]
      ·rw[decide_eq_true ⟨e,by simp⟩];exact cB (by rw[e]; rfl)
      ·rw[decide_eq_false (fun k=>e k.1)];exact bS (by have:=bIK.2 e; simp only[len]; omega)
     dsimp only;rw[hc];rfl
   ·rw[aD (bX h5),if_pos h5]
theorem aJG{t r:Ls}{a:Aq}(h:eQ t=some (a,r)):a.1.length≤t.length:=by
 have hn:=gR t
 unfold eQ at h
 split at h
 ·cases h
 split at h
 ·cases h
 split at h
 ·split at h
  ·cases h
  split at h
  ·split at h
   ·injection h with h;injection h with h _;subst h;exact hn
   ·cases h
  ·cases h
 ·cases h
theorem NL:∀(n:Nat) (t:Ls) (l:List Aq){k:Int}{m:List Aq}{r:Ls},tM n t l=some (k,m,r)→∀a∈m,a∈l∨a.1.length≤t.length
 | 0,_,_,_,_,_,h=>by cases h
 |n+1,t,l,k,m,r,h=>by
  have hk:=dH t
  unfold tM at h;generalize skp t=u at *
  match u with
  | []=>cases h
  |b::q =>
   dsimp only at h
   split at h
   ·injection h with h;injection h with h1 h;injection h with h2 h3;subst h2;exact fun a ha=>.inl ha
   split at h
   ·injection h with h;injection h with h1 h;injection h with h2 h3;subst h2;exact fun a ha=>.inl ha
   split at h
   ·cases h
   cases ha:eQ (b::q) with
   |none=>rw[ha] at h; cases h
   |some p =>
    obtain⟨a,r2⟩:=p;rw[ha] at h
    have h1:=kL ha
    have hval:a.1.length≤(b::q).length:=aJG ha
    intro x hx;rcases NL n r2 (l++[a]) h x hx with h2|h2
    ·rcases bJG.1 h2 with h3|h3
     ·exact .inl h3
     ·simp at h3;subst h3;exact .inr (by omega)
    ·exact .inr (by omega)
structure TokNm (s:Ls) (t:Tok) (r:Ls):Prop where
 nm:t.2.1.length≤s.length
 an:∀a∈t.2.2.1,a.1.length≤s.length
 tx:t.1=0→t.2.2.2=s.take (s.length-r.length)
 kd:t.1=0∨t.1=1∨t.1=2∨t.1=3∨t.1=4
theorem aOM{s r:Ls}{t:Tok}(h:jU s=some (t,r)):TokNm s t r:=by
 match s with
 | []=>cases h
 |b::u =>
  rw[gS] at h
  have note:∀head tail:Ls,jA (b::u) head tail=some (t,r)→TokNm (b::u) t r:=fun head tail h=>by
   unfold jA at h
   split at h
   ·cases h
   ·injection h with h;injection h with h _;subst h;exact⟨bKD _,fun a ha=>(by cases ha),fun k=>(by cases k),.inr (.inr (.inr (.inr rfl)))⟩
  split at h
  ·split at h
   ·exact note _ _ h
   split at h
   ·exact note _ _ h
   split at h
   ·unfold JN at h
    split at h
    ·cases h
    split at h
    ·cases h
    ·split at h
     ·injection h with h;injection h with h _;subst h
      have:=gR ((b::u).drop 2)
      rw[bI7] at this;exact⟨by show(cD _).length≤_; omega,fun a ha=>(by cases ha),fun k=>(by cases k),.inr (.inr (.inl rfl))⟩
     ·cases h
   ·unfold zQ at h
    split at h
    ·cases h
    split at h
    ·cases h
    ·rename_i k l q hq;injection h with h;injection h with h _;subst h
     have h1:=pR _ _ _ hq
     have h2:=NL _ _ _ hq
     have hn:=gR ((b::u).drop 1)
     rw[bI7] at hn;refine⟨by show(cD _).length≤_; omega,fun a ha=>?_,fun e=>?_,?_⟩
     ·rcases h2 a ha with h3|h3
      ·cases h3
      ·rw[bI7,bI7] at h3;omega
     ·rcases h1.2.2 with h3|h3<;>(have e:k=0:=e; omega)
     ·rcases h1.2.2 with h3|h3
      ·exact .inr (.inl h3)
      ·exact .inr (.inr (.inr (.inl h3)))
  ·injection h with h;injection h with h h2;subst h;subst h2
   have:=gP (P:=not60) (b::u)
   refine⟨bKD _,fun a ha=>(by cases ha),fun _=>?_,.inl rfl⟩
   have hsz:(b::u).length-((b::u).drop ((b::u).takeWhile not60).length).length=((b::u).takeWhile not60).length:=by rw[bI7]; omega
   rw[hsz];exact(oM not60 (b::u)).symm
theorem aFQ:∀(r:List At) (seen:List Ls) (out:List At),(atM seen out r).2.length≤out.length+r.length
 | [],_,_=>bKC _
 |a::r,seen,out=>by
  have ih:=aFQ r (seen++[a.1]) (out++[(a.1,(bM a.2).1)])
  rw[bIM,bI3,bJL] at ih;unfold atM;rw[bI3]
  split
  ·exact bKD _
  split
  ·exact bKD _
  omega
structure NdOk (p:Ps):Prop where
 nl:p.1.length≤8192
 al:∀n∈p.1,n.2.2.1.length≤16
 st:p.2.1≠[]→p.1≠[]
 jn:p.2.2=true→p.1≠[]
theorem aRG{p:Ps}{t:Tok}(first:Bool) (hp:NdOk p):NdOk (gC p t first).2:=by
 unfold gC
 split
 ·unfold zR
  split
  ·exact hp
  split
  ·exact hp
  split
  ·exact hp
  split
  ·rename_i _ _ _ hj;obtain⟨n,q1,q2⟩:=H6 (t:=(bM t.2.2.2).1) (hp.jn hj)
   have hdl:p.1.length=p.1.dropLast.length+1:=by
    have h:=congrArg List.length q1
    rw[bIM,bI3,bJL] at h;exact h
   have hnl:=hp.nl
   refine⟨?_,fun m hm=>?_,fun _=>?_,fun _=>?_⟩
   ·show(hM _ _).length≤_;rw[q2,bIM,bI3,bJL];omega
   ·have hm:m∈hM p.1 (bM t.2.2.2).1:=hm
    rw[q2] at hm;rcases bJG.1 hm with h|h
    ·exact hp.al m (by rw[q1]; exact bIB _ h)
    ·simp at h;subst h;exact hp.al n (by rw[q1]; simp)
   ·show hM _ _≠[];rw[q2];simp
   ·show hM _ _≠[];rw[q2];simp
  ·rename_i _ _ hroom hj
   have hroom:dC p true=0:=bHM hroom
   have hlt:p.1.length<8192:=by
    apply bHM;intro k;unfold dC at hroom
    split at hroom
    ·cases hroom
    split at hroom
    ·cases hroom
    rw[if_pos ⟨by omega,fun z=>hj z.2⟩] at hroom;cases hroom
   refine⟨?_,fun m hm=>?_,fun _=>by simp,fun _=>by simp⟩
   ·show(p.1++_).length≤_;rw[bIM,bI3,bJL];omega
   ·rcases bJG.1 hm with h|h
    ·exact hp.al m h
    ·simp at h;subst h;exact bKD _
 split
 ·unfold JR
  split
  ·exact hp
  split
  ·refine⟨hp.nl,hp.al,fun k=>hp.st fun z=>k ?_,fun k=>(by cases k)⟩;show p.2.1.dropLast=[];rw[z];rfl
  ·exact hp
 split
 ·split<;>exact hp
 unfold jV
 split
 ·exact hp
 split
 ·exact hp
 split
 ·exact hp
 split
 ·exact hp
 rename_i _ h16 _ hroom
 have hroom:dC p false=0:=bHM hroom
 have hlt:p.1.length<8192:=by
  apply bHM;intro k;unfold dC at hroom
  split at hroom
  ·cases hroom
  split at hroom
  ·cases hroom
  rw[if_pos ⟨by omega,fun z=>by cases z.1⟩] at hroom;cases hroom
 refine⟨?_,fun m hm=>?_,fun _=>by simp,fun k=>(by cases k)⟩
 ·show(p.1++_).length≤_;rw[bIM,bI3,bJL];omega
 ·rcases bJG.1 hm with h|h
  ·exact hp.al m h
  ·simp at h;subst h
   have:=aFQ t.2.2.1 [] []
   rw[bJL] at this;show(atM [] [] t.2.2.1).2.length≤16;omega
theorem bGR:NdOk p0:=⟨bKD _,fun n hn=>(by cases hn),fun k=>absurd rfl k,fun k=>(by cases k)⟩
theorem aDG{p:Ps}{s u:Ls}{i:Int}:C1 fuelH (rst p,s,i,KS u none)=some (4,rst p):=by
 unfold C1 KS;rfl
theorem aON{p:Ps}{s r:Ls}{t:Tok}{i:Nat}(hs:s.length≤300000) (hi:i<s.length) (hn:jU (s.drop i)=some (t,r)) (hnd:NdOk p) (hok:PsOk i p):C1 fuelH (rst p,s,(i:Int),KS (s.drop i) (some (t,r)))=some ((gC p t (decide (i=0))).1,rst (gC p t (decide (i=0))).2):=by
 have hdl:(s.drop i).length=s.length-i:=bI7
 have hk:=zS hn
 have hm:=aOM hn
 have hl:=jB hn
 have htx:=hm.tx
 have hnm:=hm.nm
 have han:=hm.an
 have htl:=hk.1.tx
 have hal:=hk.1.al
 have hav:=hk.1.av
 have hsl:=hok.sl
 have htokR:KS (s.drop i) (some (t,r))=(jW t,(((s.drop i).length-r.length:Nat):Int),t.2.1,t.2.2.1):=rfl
 rw[htokR];unfold C1 gC;dsimp only;rcases hm.kd with k|k|k|k|k
 ·
  have hkd:jW t=6:=by unfold jW; rw[if_pos k]
  have hw:w64 (aE (i:Int) (((s.drop i).length-r.length:Nat):Int))=((i+((s.drop i).length-r.length):Nat):Int):=by
   simp only[aE];rw[bG (by omega)];omega
  have hd:bC (toN (i:Int)) (aW (toN ((i+((s.drop i).length-r.length):Nat):Int)) s)=t.2.2.2:=by
   have hT:∀n:Nat,toN (n:Int)=n:=fun n=>by simp[toN]
   unfold bC aW;rw[hT,hT,htx k,bJT];congr 1;omega
  rw[hkd,hw,aC (by rfl),aC (by rfl),aD (by rfl),aF (JK (by simp only[len]; omega)),hd,if_pos k,aJF (by omega) hnd.jn hnd.nl (fun n hn2=>by have:=hok.tx n hn2; omega),aB]
 ·
  have hkd:jW t=3:=by unfold jW; rw[k]; rfl
  have hts:gC p t (decide (i=0))=jV p t:=by
   unfold gC;rw[if_neg (by rw[k]; decide),if_neg (by rw[k]; decide),if_neg (by rw[k]; decide)]
  rw[if_neg (show ¬t.1=0 by rw[k]; decide),if_neg (show ¬t.1=2 by rw[k]; decide),if_neg (show ¬t.1=4 by rw[k]; decide)]
  by_cases hN:nmX t.2.1=true
  ·have hst:=NK (p:=p) (t:=t) (z:=(((s.drop i).length-r.length:Nat):Int)) hN (.inl k) (by omega) (fun a ha=>by have:=hav a ha; omega) (fun a ha=>by have:=han a ha; omega) hnd.nl (by omega)
   rw[hkd] at hst ⊢;rw[aC (by rfl),aC (by rfl),aC (by rfl),bF,aD (by rfl)];dsimp only;rw[aD (by rfl),jT (by omega),aB,hN,aC (by rfl),aC (by rfl),hst,aB]
  ·have hN:nmX t.2.1=false:=by simpa using hN
   have hst:jV p t=(5,p):=by
    unfold jV;rw[if_pos (by rw[bJ1,hN]; rfl)]
   rw[hkd,aC (by rfl),aC (by rfl),aC (by rfl),bF,aD (by rfl)];dsimp only;rw[aD (by rfl),jT (by omega),aB,hN,aD (by rfl),hst]
 ·
  have hkd:jW t=5:=by unfold jW; rw[k]; rfl
  rw[if_neg (show ¬t.1=0 by rw[k]; decide),if_pos k]
  by_cases hN:nmX t.2.1=true
  ·have hst:=aRF (p:=p) (k:=5) (z:=(((s.drop i).length-r.length:Nat):Int)) (l:=t.2.2.1) hnd.st (by omega) hN
   rw[hkd,aC (by rfl),aC (by rfl),aC (by rfl),bF,aC (by rfl),aC (by rfl)];dsimp only;rw[aD (by rfl),jT (by omega),aB,hN,aC (by rfl),aD (by rfl),hst,aB]
  ·have hN:nmX t.2.1=false:=by simpa using hN
   have hst:JR p t.2.1=(5,p):=by
    unfold JR;rw[if_pos hN]
   rw[hkd,aC (by rfl),aC (by rfl),aC (by rfl),bF,aC (by rfl),aC (by rfl)];dsimp only;rw[aD (by rfl),jT (by omega),aB,hN,aD (by rfl),hst]
 ·
  have hkd:jW t=4:=by unfold jW; rw[k]; rfl
  rw[if_neg (show ¬t.1=0 by rw[k]; decide),if_neg (show ¬t.1=2 by rw[k]; decide),if_neg (show ¬t.1=4 by rw[k]; decide)]
  by_cases hN:nmX t.2.1=true
  ·have hst:=NK (p:=p) (t:=t) (z:=(((s.drop i).length-r.length:Nat):Int)) hN (.inr k) (by omega) (fun a ha=>by have:=hav a ha; omega) (fun a ha=>by have:=han a ha; omega) hnd.nl (by omega)
   rw[hkd] at hst ⊢;rw[aC (by rfl),aC (by rfl),aC (by rfl),bF,aC (by rfl),aD (by rfl)];dsimp only;rw[aD (by rfl),jT (by omega),aB,hN,aC (by rfl),aC (by rfl),hst,aB]
  ·have hN:nmX t.2.1=false:=by simpa using hN
   have hst:jV p t=(5,p):=by
    unfold jV;rw[if_pos (by rw[bJ1,hN]; rfl)]
   rw[hkd,aC (by rfl),aC (by rfl),aC (by rfl),bF,aC (by rfl),aD (by rfl)];dsimp only;rw[aD (by rfl),jT (by omega),aB,hN,aD (by rfl),hst]
 ·
  rw[if_neg (show ¬t.1=0 by rw[k]; decide),if_neg (show ¬t.1=2 by rw[k]; decide),if_pos k]
  by_cases hh:t.2.2.2=[60,63]
  ·have hkd:jW t=1:=by unfold jW; rw[k,hh]; rfl
   rw[hkd,aC (by rfl),aD (by rfl)]
   by_cases h0:i=0
   ·rw[aC (aQ (by omega)),if_neg (fun z=>by rw[decide_eq_true h0] at z; cases z.2)]
   ·rw[aD (aP (by omega)),if_pos ⟨hh,decide_eq_false h0⟩]
  ·have hkd:jW t=2:=by
    unfold jW;rw[if_neg (show ¬t.1=0 by rw[k]; decide),if_neg (show ¬t.1=1 by rw[k]; decide),if_neg (show ¬t.1=2 by rw[k]; decide),if_neg (show ¬t.1=3 by rw[k]; decide),if_neg hh]
   rw[hkd,if_neg (fun z=>hh z.1)];rfl
theorem aJH{s:Ls}(hs:s.length≤300000):aHF fuelH s=some (nW s):=by
 unfold aHF nW
 have h00:iH fuelH (s,(0:Int),(9:Int))=some (atP s 0 9):=zT (by omega) (bKD _) 9
 by_cases h1:262144<s.length
 ·rw[aD (aP (by simp only[len]; omega)),if_pos h1,h00];rfl
 rw[aC (aQ (by simp only[len]; omega)),if_neg h1,bF]
 have hend:iH fuelH (s,len s,(4:Int))=some (atP s s.length 4):=zT (by omega) (bKC _) 4
 refine bKF (bT (s:=s) (fun (p:Ps) (i:Nat)=>((i:Int),rst p)) (fun p r=>some (aRA s (JS s.length p r))) (fun i p=>PsOk i p∧NdOk p) ?_ fuelH 0 p0 (bU (by omega) _) (bKD _) ⟨⟨fun k=>(by cases k),bKD _,bKD _,fun n hn=>(by cases hn)⟩,bGR⟩) rfl;intro self p i hi hI hself;dsimp only
 by_cases hil:i<s.length
 ·have hd:bC (toN (i:Int)) s=s.drop i:=by simp[bC,toN]
  have hdl:(s.drop i).length=s.length-i:=bI7
  have hne:s.drop i≠[]:=by
   intro k;rw[k,bJL] at hdl;omega
  rw[aD (aP (by simp only[len]; omega)),aF (dG (by simp only[len]; omega)),hd,aOL (by omega) hne,aB]
  cases hn:jU (s.drop i) with
  |none =>
   rw[aDG,aB,aD (by rfl),zT (by omega) (by omega),aB,BZ hne hn,hdl,show s.length-(s.length-i)=i by omega];rfl
  |some q =>
   obtain⟨t,r⟩:=q
   have hl:=jB hn
   have hfirst:decide ((s.drop i).length=s.length)=decide (i=0):=by
    by_cases e:i=0
    ·rw[decide_eq_true e,decide_eq_true (by omega)]
    ·rw[decide_eq_false e,decide_eq_false (by omega)]
   have hsz:(KS (s.drop i) (some (t,r))).2.1=(((s.drop i).length-r.length:Nat):Int):=rfl
   rw[aON (by omega) hil hn hI.2 hI.1,aB,CA hn,hfirst,hsz];dsimp only
   by_cases e:(gC p t (decide (i=0))).1=0
   ·rw[aC (bW e),if_neg (fun k=>k e)]
    have hw:w64 (aE (i:Int) (((s.drop i).length-r.length:Nat):Int))=((s.length-r.length:Nat):Int):=by
     simp only[aE];rw[bG (by omega)];omega
    rw[hw]
    have hok:=aFH (decide (i=0)) hn hI.1 e
    have hsuf:r=s.drop (s.length-r.length):=H7 hi (NC hn) (by omega)
    refine bKF (hself _ (s.length-r.length) (by omega) (by omega) ⟨?_,aRG _ hI.2⟩) ?_
    ·rw[show s.length-r.length=i+((s.drop i).length-r.length) by omega];exact hok
    ·rw[←hsuf]
   ·rw[aD (bX e),if_pos e,zT (by omega) (by omega),aB,hdl,show s.length-(s.length-i)=i by omega];rfl
 ·obtain rfl:i=s.length:=by omega
  rw[aC (aQ (by simp only[len]; omega)),bJD,JT]
  have hc:(rst p).2.2.1=decide (p.2.1=[]∧p.1≠[]):=rfl
  rw[hc]
  by_cases e1:p.2.1=[]∧p.1≠[]
  ·rw[decide_eq_true e1,aC (by rfl),if_neg (fun k=>by rcases k with k|k; exact e1.2 k; exact k e1.1)];rfl
  ·have e2:p.1=[]∨p.2.1≠[]:=by
    by_cases e:p.1=[]
    ·exact .inl e
    ·exact .inr fun z=>e1 ⟨z,e⟩
   rw[decide_eq_false e1,aD (by rfl),if_pos e2,hend];rfl
theorem aOO{l:List (Int×Int×Int)}(hl:l.length≤4000000):aH4 fuelH (l,l)=some true:=by
 unfold aH4;rw[aC (bW rfl),bF];refine bT (s:=l) (fun (_:Unit) (j:Nat)=>(j:Int)) (fun _ _=>some true) (fun _ _=>True) ?_ fuelH 0 () (bU hl _) (bKD _) trivial;intro self a j hj _ hself;dsimp only
 by_cases hjl:j<l.length
 ·have hw:w64 (aE (j:Int) 1)=((j+1:Nat):Int):=aO hjl (by omega)
  have hin:inb (j:Int) (len l)=true:=aS (by simp only[len]; omega)
  have hb:∀x:Int×Int×Int,bA (cY (ieq x.1 x.1) (cY (ieq x.2.1 x.2.1) (ieq x.2.2 x.2.2)))=false:=fun x=>by
   rw[cB rfl,cB rfl,cB rfl];rfl
  rw[aD (aP (by simp only[len]; omega)),aF hin,aF hin,aC (hb _),hw];exact hself () (j+1) (by omega) (by omega) trivial
 ·obtain rfl:j=l.length:=by omega
  rw[aC (aQ (by simp only[len]; omega))]
theorem aOP(s:Ls):(nW s).2.length≤1:=by
 unfold nW
 split
 ·exact bKC _
 ·generalize JS s.length p0 s=q;obtain⟨l,e⟩:=q
  cases e with
  |none=>exact bKD _
  |some z=>exact bKC _
structure FewD (d:Doc):Prop where
 reg:d.2.2.2.2.2.1.length≤6
 ev:d.2.2.2.2.2.2.1.length≤5
 cm:d.2.2.2.2.2.2.2.length≤4
 wt:wtD d≤1048576
structure ThinD (d:Doc):Prop where
 reg:d.2.2.2.2.2.1.length≤1000000
 ev:d.2.2.2.2.2.2.1.length≤1000000
 tiny:∀x∈d.2.2.2.2.2.2.1,bGL x
 cm:d.2.2.2.2.2.2.2.length≤1000000
theorem aRH{d:Doc}(h:iB d=0) (hc:d.2.2.2.2.2.2.2.length≤1000000):ThinD d:=by
 have hd:=bGP h
 refine⟨by have:=hd.nreg; omega,by have:=hd.nev; omega,fun x hx=>?_,hc⟩;obtain⟨_,_,_,q4,q5⟩:=hd.ev x hx;exact⟨by omega,fun r hr=>by have:=(q5 r hr).1; omega⟩
theorem aJI{d:Doc}(h:ThinD d) (hc:d.2.2.2.2.2.2.2=[]):aBB fuelH (d,d)=some true :=
 aNM h.reg h.ev (fun x hx=>⟨by have:=(h.tiny x hx).1; omega,fun r hr=>by have:=(h.tiny x hx).2 r hr; omega⟩) hc
theorem aRI:pH fuelH ()=some true:=by kernel_rfl
def eB{α R:Type}(p:α→Bool) (f:Nat→α→R) (K:R):Nat→List α→R
 |_,[]=>K
 |i,a::l=>if p a then f i a else eB p f K (i+1) l
theorem dS{V R α:Type}{F:(V→Option R)→V→Option R}{l:List α}(st:Nat→V) (p:α→Bool) (f:Nat→α→Option R) (K:Option R){fuel:Nat}(hf:l.length<fuel)
  (hs:∀self i (h:i<l.length),F self (st i)=if p l[i] then f i l[i] else self (st (i+1))) (he:∀self,F self (st l.length)=K):aY F fuel (st 0)=eB p f K 0 l:=by
 have key:∀(n i fu:Nat),l.length-i=n→l.length-i<fu→i≤l.length→aY F fu (st i)=eB p f K i (l.drop i):=by
  intro n
  induction n with
  |zero =>
   intro i fu h1 h2 h3;obtain rfl:i=l.length:=by omega
   obtain⟨fu,rfl⟩:∃k,fu=k+1:=⟨fu-1,by omega⟩;rw[eP,he,bJD];rfl
  |succ n ih =>
   intro i fu h1 h2 h3
   have hi:i<l.length:=by omega
   obtain⟨fu,rfl⟩:∃k,fu=k+1:=⟨fu-1,by omega⟩;rw[eP,hs _ _ hi,bHK hi];unfold eB;rw[ih (i+1) fu (by omega) (by omega) (by omega)]
 have:=key _ 0 fuel rfl (by omega) (bKD _)
 rw[this,bJS]
theorem tP{α R:Type}(p:α→Bool) (b K:R):∀(i:Nat) (l:List α),eB p (fun _ _=>b) K i l=if l.any p then b else K
 |_,[]=>rfl
 |i,a::l=>by
  unfold eB;rw[tP p b K (i+1) l]
  by_cases h:p a=true<;>simp[h]
def kN(c:UInt8):Bool:=decide (48≤n8 c∧n8 c≤57)
def dgS(a:Nat) (c:UInt8):Nat:=a*10+(c.toNat-48)
def fA(a:Nat) (l:Y_):Nat:=l.foldl dgS a
theorem zV(a:Nat):fA a []=a:=by unfold fA; rw[List.foldl_nil]
theorem uQ(a:Nat) (c:UInt8) (r:Y_):fA a (c::r)=fA (a*10+(c.toNat-48)) r:=by unfold fA; rw[List.foldl_cons]; unfold dgS; rfl
theorem aOQ(a b n:Nat) (h:a*10≤b):a*10^(n+1)≤b*10^n:=by
 have e:a*10^(n+1)=(a*10)*10^n:=by rw[Nat.pow_succ,Nat.mul_comm (10^n) 10,Nat.mul_assoc]
 rw[e];exact bH8 _ h
theorem aFR(l:Y_):∀a:Nat,a*10^l.length≤fA a l:=by
 induction l with
 |nil=>intro a; rw[zV,bJL,Nat.pow_zero,Nat.mul_one]; exact bKC _
 |cons c l ih =>
  intro a
  have h:=ih (a*10+(c.toNat-48))
  have h2:=aOQ a (a*10+(c.toNat-48)) l.length (by omega)
  rw[bI3,uQ];exact bJ3 h2 h
theorem aFS(l:Y_):∀a b:Nat,a<b→(∀c∈l,kN c=true)→fA a l<b*10^l.length:=by
 induction l with
 |nil=>intro a b h _; rw[zV,bJL,Nat.pow_zero,Nat.mul_one]; exact h
 |cons c l ih =>
  intro a b h hd
  have hc:=of_decide_eq_true (hd c bIQ)
  unfold n8 at hc
  have h1:=ih (a*10+(c.toNat-48)) (b*10) (by omega) fun x hx=>hd x (bH7 _ hx)
  have e:b*10^(l.length+1)=(b*10)*10^l.length:=by rw[Nat.pow_succ,Nat.mul_comm (10^l.length) 10,Nat.mul_assoc]
  rw[bI3,e,uQ];exact h1
def aJJ(neg:Bool) (r:Y_) (hi:Int):Int×Int :=
 if r=[] then(0,4) else if r.headD 0=48∧(1<r.length∨neg=true) then(0,4) else if r.any (fun c=>!kN c) then(0,4) else
 if neg=true then(0,2) else if hi<(fA 0 r:Int) then(0,2) else((fA 0 r:Int),0)
def aJK(s:Y_) (hi:Int):Int×Int:=if s.head?=some 45 then aJJ true s.tail hi else aJJ false s hi
theorem aS4:∀(l:Y_) (a:Nat),a≤2^64-1→(∀c∈l,kN c=true)→parseUintM (2^64-1) a l=if 2^64-1<fA a l then .range else .ok (fA a l)
 | [],a,ha,_=>by
  unfold parseUintM;rw[zV,if_neg (by omega)]
 |c::l,a,ha,hd=>by
  have hc:=of_decide_eq_true (hd c bIQ)
  have hl:=fun x hx=>hd x (bH7 _ hx)
  unfold n8 at hc
  have hge:=aFR l (a*10+(c.toNat-48))
  have hp:1≤10^l.length:=Nat.one_le_pow _ _ (by omega)
  have hge2:a*10+(c.toNat-48)≤fA (a*10+(c.toNat-48)) l:=bJ3 (by have:=Nat.mul_le_mul_left (a*10+(c.toNat-48)) hp; omega) hge
  unfold parseUintM;rw[uQ,if_pos (by omega)]
  by_cases h1:1844674407370955162≤a
  ·rw[if_pos h1,if_pos (by omega)]
  rw[if_neg h1]
  by_cases h2:2^64-1<a*10+(c.toNat-48)
  ·rw[if_pos h2,if_pos (by omega)]
  rw[if_neg h2];exact aS4 l _ (by omega) hl
theorem aFT{l:Y_}(h:l.any (fun c=>!kN c)=false):∀c∈l,kN c=true:=fun c hc=>by
 have:=List.any_eq_false.1 h c hc
 simpa using this
theorem JZ{l:Y_}(h0:l≠[]) (h:∀c∈l,kN c=true) (h48:l.headD 0≠48):10^(l.length-1)≤fA 0 l∧1≤fA 0 l:=by
 obtain⟨c,r,rfl⟩:∃c r,l=c::r:=by cases l with|nil=>exact absurd rfl h0|cons c r=>exact⟨c,r,rfl⟩
 have hc:=of_decide_eq_true (h c bIQ)
 unfold n8 at hc
 have hne:c.toNat≠48:=fun k=>h48 (UInt8.toNat_inj.1 k)
 have:=aFR r (0*10+(c.toNat-48))
 have hp:1≤10^r.length:=Nat.one_le_pow _ _ (by omega)
 have h3:1*10^r.length≤(0*10+(c.toNat-48))*10^r.length:=bH8 _ (by omega)
 rw[uQ,bI3,bIU];omega
theorem aRJ{neg:Bool}{r:Y_}(h0:r≠[]) (h:∀c∈r,kN c=true) (h48:neg=true→r.headD 0≠48){hi:Int}(hh:hi≤4611686018427387904) :
  (cnd (DE (if neg=true then 45::r else r)).2 (some ((0:Int),(2:Int))) (cnd (ilt (DE (if neg=true then 45::r else r)).1 0) (some (0,2)) (cnd (ilt hi (DE (if neg=true then 45::r else r)).1) (some (0,2)) (some ((DE (if neg=true then 45::r else r)).1,0)))))
  = some (if neg=true then(0,2) else if hi<(fA 0 r:Int) then(0,2) else((fA 0 r:Int),0)):=by
 have hu:parseUintB 64 r=if 2^64-1<fA 0 r then .range else .ok (fA 0 r):=by
  unfold parseUintB;rw[if_neg h0];exact aS4 r 0 (by omega) h
 cases neg with
 |true =>
  have hp:DE (45::r)=match signedC (2^63) (parseUintB 64 r) with|NumEnd.ok v=>(v,false) | .range=>(Lib.intSat 64 (45::r),true)|_=>(0,true):=by
   unfold DE;rw[parseIntB_minus];rfl
  have h1:=(JZ h0 h (h48 rfl)).2
  simp only[if_true];rw[hp,hu]
  by_cases c1:2^64-1<fA 0 r
  ·rw[if_pos c1]; rfl
  ·rw[if_neg c1];simp only[signedC]
   by_cases c2:2^63<fA 0 r
   ·rw[if_pos c2]; rfl
   ·rw[if_neg c2];simp only;rw[aC rfl,aD (aP (by omega))]
 |false =>
  obtain⟨c,t,rfl⟩:∃c t,r=c::t:=by cases r with|nil=>exact absurd rfl h0|cons c t=>exact⟨c,t,rfl⟩
  have hc:=of_decide_eq_true (h c bIQ)
  unfold n8 at hc
  have hp:DE (c::t)=match signlessC (2^63) (parseUintB 64 (c::t)) with|NumEnd.ok v=>(v,false) | .range=>(Lib.intSat 64 (c::t),true)|_=>(0,true):=by
   unfold DE;rw[parseIntB_plain 64 c t (by omega) (by omega)];rfl
  simp only[bIR,if_false];rw[hp,hu]
  by_cases c1:2^64-1<fA 0 (c::t)
  ·rw[if_pos c1,if_pos (by omega)]; rfl
  ·rw[if_neg c1];simp only[signlessC]
   by_cases c2:2^63≤fA 0 (c::t)
   ·rw[if_pos c2,if_pos (by omega)]; rfl
   ·rw[if_neg c2];simp only;rw[aC rfl,aC (aQ (by omega))]
    by_cases c3:hi<(fA 0 (c::t):Int)
    ·rw[aD (aP c3),if_pos c3]
    ·rw[aC (aQ c3),if_neg c3]
theorem aRK(N:Nat) (s:Y_) (b:UInt8):aA0 N (s,[b])=some (if s.head?=some b then(s.tail,true) else(s,false)):=by
 unfold aA0 aLY q74
 cases s with
 |nil=>rfl
 |cons c s =>
  have h1:in2 (len [b]) (len (c::s))=true:=dG (by simp only[len,bI3,bJL]; omega)
  rw[aD (eA (by simp only[len,bI3,bJL]; omega)),aF h1]
  have e:aW (toN (len [b])) (c::s)=[c]:=rfl
  rw[e,aB]
  by_cases h:c=b
  ·subst h
   have:seq [c] [c]=true:=by rw[cF]
   rw[this,aC (by rfl),aF h1,aB,if_pos (by rfl)];rfl
  ·have:seq [c] [b]=false:=by rw[bO]; simpa using h
   rw[this,aD (by rfl),aB,if_neg (by simpa using h)]
theorem I4{s:Y_}(hs:s.length≤4000000){hi:Int}(hh:hi≤4611686018427387904):aA1 fuelH (s,0,hi)=some (aJK s hi):=by
 have key:∀(neg:Bool) (r:Y_),s=(if neg=true then 45::r else r)→r.length≤s.length→aA0 fuelH (s,[45])=some (r,neg)→aA1 fuelH (s,0,hi)=some (aJJ neg r hi):=by
  intro neg r hsr hrl hcut;unfold aA1 aJJ;dsimp only;rw[cC hcut];dsimp only;rw[bF]
  by_cases h0:r=[]
  ·subst h0;rw[aD (by rw[cF]),if_pos rfl]
  ·have hr0:1≤r.length:=by cases r with|nil=>exact absurd rfl h0|cons _ _=>simp
   have hget:aA r (toN (0:Int)) 0=r.headD 0:=by cases r with|nil=>exact absurd rfl h0|cons _ _=>rfl
   rw[aC (by rw[bO]; simpa using h0),if_neg h0,aF (aS (by simp only[len]; omega)),hget]
   have main:(¬(r.headD 0=48∧(1<r.length∨neg=true)))→(jn (fun (v2:Unit)=>bnd (dD fuelH (s,10,64)) fun v3=>cnd v3.2 (some ((0:Int),(2:Int))) (cnd (ilt v3.1 0) (some (0,2)) (cnd (ilt hi v3.1) (some (0,2)) (some (v3.1,0))))) fun v4 =>
     aY (fun v5 (v6:Int) =>
      cnd (ilt v6 (len r))
       (grd (inb v6 (len r))
        (cnd (ilt (n8 (aA r (toN v6) (0:UInt8))) (n8 (48:UInt8)))
         (some (0,4))
         (grd (inb v6 (len r))
          (cnd (ilt (n8 (57:UInt8)) (n8 (aA r (toN v6) (0:UInt8))))
           (some (0,4))
           (v5 (w64 (aE v6 1)))))))
       (v4 ())) fuelH 0)=some (if r.any (fun c=>!kN c) then(0,4) else if neg=true then(0,2) else if hi<(fA 0 r:Int) then(0,2) else((fA 0 r:Int),0)):=by
    intro hz;rw[bF];refine(dS (l:=r) (fun i=>(i:Int)) (fun c=>!kN c) (fun _ _=>some (0,4)) (bnd (dD fuelH (s,10,64)) fun v3=>cnd v3.2 (some ((0:Int),(2:Int))) (cnd (ilt v3.1 0) (some (0,2)) (cnd (ilt hi v3.1) (some (0,2)) (some (v3.1,0))))) (by have:=aZ; omega) (fun self i h=>?_) (fun self=>?_)).trans ?_
    ·have hin:inb (i:Int) (len r)=true:=aS (by simp only[len]; omega)
     dsimp only;rw[aD (aP (by simp only[len]; omega)),aF hin,aF hin,aU h,aO h (by omega)]
     have n48:n8 (48:UInt8)=48:=rfl
     have n57:n8 (57:UInt8)=57:=rfl
     rw[n48,n57]
     by_cases c1:n8 r[i]<48
     ·rw[aD (aP c1),if_pos (by simp only[kN,bIX,decide_eq_false_iff_not]; omega)]
     ·rw[aC (aQ c1)]
      by_cases c2:57<n8 r[i]
      ·rw[aD (aP c2),if_pos (by simp only[kN,bIX,decide_eq_false_iff_not]; omega)]
      ·rw[aC (aQ c2),if_neg (by simp only[kN,bIX,decide_eq_false_iff_not]; omega)]
    ·dsimp only;rw[aC (aQ (by simp only[len]; omega))]
    ·rw[tP]
     by_cases ha:r.any (fun c=>!kN c)=true
     ·rw[if_pos ha,if_pos ha]
     ·rw[if_neg ha,if_neg ha]
      have hd:=aFT (by simpa using ha)
      have hpi:dD fuelH (s,10,64)=some (DE s):=by
       show grd (ieq (10:Int) 10) (grd (ieq (64:Int) 64) (grd (decide (s.length≤281474976710656)) (some (DE s))))=_;rw[aF (cB rfl),aF (cB rfl),aF (decide_eq_true (by omega))]
      rw[cC hpi,hsr];exact aRJ h0 hd (fun hn k=>hz ⟨k,Or.inr hn⟩) hh
   by_cases hz:r.headD 0=48
   ·rw[aD (cB (by rw[hz]))]
    by_cases h1:1<r.length
    ·rw[aD (aP (by simp only[len]; omega)),if_pos ⟨hz,Or.inl h1⟩]
    ·rw[aC (aQ (by simp only[len]; omega))]
     cases neg with
     |true=>rw[aD rfl,if_pos ⟨hz,Or.inr rfl⟩]
     |false =>
      have hn:¬(r.headD 0=48∧(1<r.length∨(false:Bool)=true)):=fun k=>k.2.elim h1 (fun k=>by cases k)
      rw[aC rfl,if_neg hn];exact main hn
   ·have hn:¬(r.headD 0=48∧(1<r.length∨neg=true)):=fun k=>hz k.1
    rw[aC (bS (fun k=>hz (cH k))),if_neg hn];exact main hn
 have hc:=aRK fuelH s 45
 unfold aJK
 by_cases h:s.head?=some 45
 ·rw[if_pos h] at hc ⊢
  cases s with
  |nil=>cases h
  |cons c s =>
   have:c=45:=by simpa using h
   subst this;exact key true s rfl (by simp) hc
 ·rw[if_neg h] at hc ⊢;exact key false s rfl (bKC _) hc
theorem aRL(N:Nat) (c:UInt8):wP N c=some (kN c):=by
 unfold wP kN
 have n48:n8 (48:UInt8)=48:=rfl
 have n57:n8 (57:UInt8)=57:=rfl
 rw[n48,n57]
 by_cases h1:48≤n8 c
 ·rw[aD (eA h1)]
  by_cases h2:n8 c≤57
  ·rw[eA h2,decide_eq_true ⟨h1,h2⟩]
  ·rw[fZ h2,decide_eq_false (fun k=>h2 k.2)]
 ·rw[aC (fZ h1),decide_eq_false (fun k=>h1 k.1)]
theorem aOR{l:Y_}{i:Nat}(h:i<l.length) (a:Nat):fA a (l.take (i+1))=fA a (l.take i)*10+(l[i].toNat-48):=by
 rw[bHA h];unfold fA;rw[List.foldl_append,List.foldl_cons,List.foldl_nil];rfl
theorem aRM{c:UInt8}(h:kN c=true){v:Nat}(hv:v*10+9<18446744073709551616) :
  wr .u64 (aE (wr .u64 (jX 10 (v:Int))) (wr .u64 (n8 (b8 (aH (n8 c) (n8 (48:UInt8)))))))=((v*10+(c.toNat-48):Nat):Int):=by
 have hc:=of_decide_eq_true h
 unfold n8 at hc
 have e:n8 (b8 (aH (n8 c) (n8 (48:UInt8))))=((c.toNat-48:Nat):Int):=by
  have:=xE (P:=fun c=>!kN c||decide (n8 (b8 (aH (n8 c) (n8 (48:UInt8))))=((c.toNat-48:Nat):Int))) (by rfl) c
  rw[h] at this;exact of_decide_eq_true (by simpa using this)
 rw[e,wrU (n:=c.toNat-48) (by omega)]
 have e2:jX 10 (v:Int)=((v*10:Nat):Int):=by simp only[jX]; omega
 rw[e2,wrU (by omega)]
 have e3:aE ((v*10:Nat):Int) ((c.toNat-48:Nat):Int)=((v*10+(c.toNat-48):Nat):Int):=by simp only[aE]; omega
 rw[e3,wrU (by omega)]
theorem aFU{s:Y_}(hs:s.length≤4000000){hi:Int}(hh:hi≤4611686018427387904):SO fuelH (s,0,hi)=some (aJK s hi):=by
 have key:∀(neg:Bool) (r:Y_),s=(if neg=true then 45::r else r)→(neg=false→s.head?≠some 45)→r.length≤s.length→SO fuelH (s,0,hi)=some (aJJ neg r hi):=by
  intro neg r hsr hneg hrl;unfold SO aJJ;dsimp only
  have n45:n8 (45:UInt8)=45:=rfl
  have n48:n8 (48:UInt8)=48:=rfl
  have start:∀(k:Bool→Option (Int×Int)) ,jn k (fun k=>cnd (ilt 0 (len s)) (grd (inb 0 (len s)) (k (ieq (n8 (aA s (toN 0) (0:UInt8))) (n8 (45:UInt8))))) (k false))=k neg:=by
   intro k;rw[bF]
   cases hs0:s with
   |nil =>
    cases neg with
    |true=>rw[hsr] at hs0; simp at hs0
    |false=>rfl
   |cons c t =>
    rw[aD (aP (by simp only[len,bI3]; omega)),aF (aS (by simp only[len,bI3]; omega))]
    have e:aA (c::t) (toN 0) (0:UInt8)=c:=rfl
    rw[e]
    cases neg with
    |true =>
     rw[hsr] at hs0;simp only[if_true] at hs0;injection hs0 with e1 e2;subst e1;rfl
    |false =>
     have:=hneg rfl
     rw[hs0] at this;rw[bS (fun k2=>this (by rw[cH k2]; rfl))]
  rw[start]
  have cut:∀(k:Y_→Option (Int×Int)),jn k (fun k=>cnd neg (grd (in2 1 (len s)) (k (bC (toN 1) s))) (k s))=k r:=by
   intro k;rw[bF]
   cases neg with
   |true =>
    simp only[if_true] at hsr;rw[hsr,aD rfl,aF (dG (by simp only[len,bI3]; omega))];rfl
   |false =>
    simp only[bIR,if_false] at hsr;rw[hsr,aC rfl]
  rw[cut,bF]
  by_cases h0:r=[]
  ·subst h0;rw[aD (by rfl),if_pos rfl]
  ·have hr0:1≤r.length:=by cases r with|nil=>exact absurd rfl h0|cons _ _=>simp
   have hget:aA r (toN (0:Int)) 0=r.headD 0:=by cases r with|nil=>exact absurd rfl h0|cons _ _=>rfl
   rw[aC (bS (by simp only[len]; omega)),if_neg h0,aF (aS (by simp only[len]; omega)),hget]
   have hfu:=aZ
   let G2:Option (Int×Int):=some (if neg=true then(0,2) else if hi<(fA 0 r:Int) then(0,2) else((fA 0 r:Int),0))
   have digs:∀(K:Option (Int×Int)),aY (fun v13 (v14:Int) =>
     cnd (ilt v14 (len r))
      (grd (inb v14 (len r))
       (bnd (wP fuelH (aA r (toN v14) (0:UInt8))) fun v15 =>
       cnd (bA v15)
        (some ((0:Int),(4:Int)))
        (v13 (w64 (aE v14 1)))))
      K) fuelH 0=if r.any (fun c=>!kN c) then some (0,4) else K:=by
    intro K;rw[←tP (fun c=>!kN c) (some ((0:Int),(4:Int))) K 0 r];refine dS (l:=r) (fun i=>(i:Int)) (fun c=>!kN c) (fun _ _=>some (0,4)) K (by omega) (fun self i h=>?_) (fun self=>?_)
    ·have hin:inb (i:Int) (len r)=true:=aS (by simp only[len]; omega)
     try dsimp only
     rw[aD (aP (by simp only[len]; omega)),aF hin,aU h,aRL,aB,aO h (by omega)]
     cases hd:kN r[i] with
     |true=>rw[aC (by rfl),if_neg (by simp)]
     |false=>rw[aD (by rfl),if_pos (by simp)]
    ·rw[aC (aQ (by simp only[len]; omega))]
   have hneg1:¬(r.headD 0=48∧(1<r.length∨neg=true))→(∀c∈r,kN c=true)→neg=true→1≤fA 0 r:=fun hz hd hn=>(JZ h0 hd (fun k=>hz ⟨k,Or.inr hn⟩)).2
   have last:(∀c∈r,kN c=true)→¬(r.headD 0=48∧(1<r.length∨neg=true))→¬19<r.length →
     aY (fun v10 (v11:Int×Int) =>
       cnd (ilt v11.2 (len r))
        (grd (inb v11.2 (len r))
         (v10 (wr .u64 (aE (wr .u64 (jX 10 v11.1)) (wr .u64 (n8 (b8 (aH (n8 (aA r (toN v11.2) (0:UInt8))) (n8 (48:UInt8))))))),w64 (aE v11.2 1))))
        (jn (fun (v5:Unit) =>
        jn (fun (v6:Int) =>
         cnd (ilt v6 0)
          (some ((0:Int),(2:Int)))
          (cnd (ilt hi v6)
           (some (0,2))
           (some (v6,0))))
        fun v7 =>
        cnd neg
         (v7 (w64 (aH 0 (w64 v11.1))))
         (v7 (w64 v11.1)))
       fun v8 =>
       cnd (ilt 9223372036854775808 v11.1)
        (some (0,2))
        (cnd (bA neg)
         (cnd (ieq v11.1 9223372036854775808)
          (some (0,2))
          (v8 ()))
         (v8 ())))) fuelH (0,0)=G2:=by
    intro hd hz h19;refine iJ (n:=r.length) (fun (v:Nat) (i:Nat)=>((v:Int),(i:Int))) (fun i v=>v=fA 0 (r.take i)) _ (fun self v i hi2 hI=>?_) (fun self v hI=>?_) fuelH 0 0 (bKD _) (by omega) (by rw[bJU,zV])
    ·have hlt:fA 0 (r.take i)<10^18:=by
      have:=aFS (r.take i) 0 1 (by omega) fun c hc=>hd c (bIA hc)
      rw[bKB,bI6] at this;exact bIP this (bIF (by omega) (by omega))
     refine⟨v*10+(r[i].toNat-48),?_,by rw[hI,aOR hi2]⟩;dsimp only;rw[aD (aP (by simp only[len]; omega)),aF (aS (by simp only[len]; omega)),aU hi2,aRM (hd _ (bJE hi2)) (by omega),aO hi2 (by omega)]
    ·rw[bJA] at hI;subst hI
     have hlt:fA 0 r<10^19:=by
      have:=aFS r 0 1 (by omega) hd
      rw[bKB] at this;exact bIP this (bIF (by omega) (by omega))
     dsimp only;rw[aC (aQ (by simp only[len]; omega)),bF];show _=some (if neg=true then(0,2) else if hi<(fA 0 r:Int) then(0,2) else((fA 0 r:Int),0));generalize hv:fA 0 r=v at hlt
     by_cases c1:(9223372036854775808:Int)<(v:Int)
     ·rw[aD (aP c1)]
      cases neg with
      |true=>rfl
      |false=>rw[if_neg (by simp),if_pos (by omega)]
     rw[aC (aQ c1)]
     cases hn:neg with
     |true =>
      have h1:=hneg1 hz hd hn
      rw[hv] at h1;rw[aC (by rfl)];dsimp only;rw[bF,aD rfl];dsimp only
      have e:w64 (aH 0 (w64 (v:Int)))<0:=by
       by_cases c2:v=9223372036854775808
       ·subst c2; decide
       ·rw[bG (x:=(v:Int)) (by omega)];simp only[aH];rw[bG (by omega)];omega
      rw[aD (aP e)];rfl
     |false =>
      rw[aD (by rfl),if_neg (by simp)]
      by_cases c2:(v:Int)=9223372036854775808
      ·rw[aD (cB c2),if_pos (by omega)]
      ·rw[aC (bS c2)];dsimp only;rw[bF,aC rfl,bG (x:=(v:Int)) (by omega)];dsimp only;rw[aC (aQ (by omega))]
       by_cases c3:hi<(v:Int)
       ·rw[aD (aP c3),if_pos c3]
       ·rw[aC (aQ c3),if_neg c3]
   have main:(¬(r.headD 0=48∧(1<r.length∨neg=true)))→∀X:Option (Int×Int),(((∀c∈r,kN c=true)→X=cnd (ilt 19 (len r)) (some (0,2)) G2))→(if r.any (fun c=>!kN c) then some (0,4) else X)=some (if r.any (fun c=>!kN c) then(0,4) else if neg=true then(0,2) else if hi<(fA 0 r:Int) then(0,2) else((fA 0 r:Int),0)):=by
    intro hz X hX
    by_cases ha:r.any (fun c=>!kN c)=true
    ·rw[if_pos ha,if_pos ha]
    ·rw[if_neg ha,if_neg ha]
     have hd:=aFT (by simpa using ha)
     rw[hX hd]
     by_cases h19:19<r.length
     ·rw[aD (aP (by simp only[len]; omega))]
      cases hn:neg with
      |true=>rfl
      |false =>
       have h48:r.headD 0≠48:=fun k=>hz ⟨k,Or.inl (by omega)⟩
       have h1:=(JZ h0 hd h48).1
       have h2:10^19≤10^(r.length-1):=bIF (by omega) (by omega)
       rw[if_neg (by simp),if_pos (by omega)]
     ·rw[aC (aQ (by simp only[len]; omega))]
   by_cases hz:r.headD 0=48
   ·rw[aD (cB (by rw[hz]))]
    by_cases h1:1<r.length
    ·rw[aD (aP (by simp only[len]; omega)),if_pos ⟨hz,Or.inl h1⟩]
    ·rw[aC (aQ (by simp only[len]; omega))]
     cases hn:neg with
     |true=>rw[aD rfl,if_pos ⟨hz,Or.inr rfl⟩]
     |false =>
      have hn2:¬(r.headD 0=48∧(1<r.length∨neg=true)):=fun k=>k.2.elim h1 (fun k=>by rw[hn] at k; cases k)
      rw[aC rfl];rw[←hn,if_neg hn2,bF,digs];refine main hn2 _ fun hd=>?_
      dsimp only
      by_cases h19:19<r.length
      ·have e19:ilt 19 (len r)=true:=aP (by simp only[len]; omega)
       rw[e19,aD rfl,aD rfl]
      ·have e19:ilt 19 (len r)=false:=aQ (by simp only[len]; omega)
       rw[e19,aC rfl,aC rfl,bF];exact last hd hn2 h19
   ·have hn2:¬(r.headD 0=48∧(1<r.length∨neg=true)):=fun k=>hz k.1
    rw[aC (bS (fun k=>hz (cH k))),if_neg hn2,bF,digs];refine main hn2 _ fun hd=>?_
    dsimp only
    by_cases h19:19<r.length
    ·have e19:ilt 19 (len r)=true:=aP (by simp only[len]; omega)
     rw[e19,aD rfl,aD rfl]
    ·have e19:ilt 19 (len r)=false:=aQ (by simp only[len]; omega)
     rw[e19,aC rfl,aC rfl,bF];exact last hd hn2 h19
 unfold aJK
 by_cases h:s.head?=some 45
 ·rw[if_pos h]
  cases s with
  |nil=>cases h
  |cons c s =>
   have:c=45:=by simpa using h
   subst this;exact key true s rfl (fun k=>by cases k) (by simp)
 ·rw[if_neg h];exact key false s rfl (fun _=>h) (bKC _)
def KT(n:Nd):List At:=n.2.2.1
def gF(n:Nd) (name:Ln):Ln:=(fK name (KT n)).1
def tQ(n:Nd) (name:Ln):Bool:=(fK name (KT n)).2
theorem uR{R:Type}(name:Ln) (f:Ln→R) (K:R):∀(i:Nat) (l:List At),eB (fun a:At=>seq a.1 name) (fun _ a=>f a.2) K i l=if(fK name l).2 then f (fK name l).1 else K
 |_,[]=>rfl
 |i,a::l=>by
  unfold eB fK;rw[uR name f K (i+1) l]
  by_cases h:seq a.1 name=true
  ·rw[if_pos h];rw[cF] at h;rw[if_pos h];rfl
  ·have h2:¬a.1=name:=fun k=>h (by rw[cF]; exact k)
   rw[if_neg h,if_neg h2]
theorem KA(name:Ln):∀l:List At,(fK name l).2=false→(fK name l).1=[]
 | [],_=>rfl
 |a::l,h=>by
  unfold fK at h ⊢
  by_cases e:a.1=name
  ·rw[if_pos e] at h; cases h
  ·rw[if_neg e] at h ⊢; exact KA name l h
theorem uS{n:Nd}{name:Ln}(h:tQ n name=false):gF n name=[]:=KA name _ h
theorem NM(name:Ln):∀l:List At,(fK name l).2=true→(name,(fK name l).1)∈l
 | [],h=>by cases h
 |a::l,h=>by
  unfold fK at h ⊢
  by_cases e:a.1=name
  ·rw[if_pos e] at h ⊢; subst e; exact bIQ
  ·rw[if_neg e] at h ⊢; exact bH7 _ (NM name l h)
theorem NN(name:Ln):∀l:List At,(fK name l).2=true↔name∈l.map Prod.fst
 | []=>by simp[fK]
 |a::l=>by
  unfold fK
  by_cases e:a.1=name
  ·rw[if_pos e]; simp[e]
  ·rw[if_neg e,bJY,bJX,NN name l];exact⟨fun k=>Or.inr k,fun k=>k.resolve_left (fun q=>e q.symm)⟩
theorem pU{n:Nd}(hs:smN n) (name:Ln):(gF n name).length≤1090000:=by
 cases h:tQ n name with
 |false=>rw[uS h]; simp
 |true=>exact(hs.an _ (NM name _ h)).2
theorem fL{n:Nd}(hs:smN n) (e:Int) (name:Ln):q95 fuelH ((n,e),name)=some (gF n name,n,e):=by
 have hl:=hs.asz
 have hfu:=aZ
 unfold q95;dsimp only;rw[bF];refine(dS (l:=n.2.2.1) (fun i=>(i:Int)) (fun a:At=>seq a.1 name) (fun _ a=>some (a.2,n,e)) (some ([],n,e)) (by omega) (fun self i h=>?_) (fun self=>?_)).trans ?_
 ·have hin:inb (i:Int) (len n.2.2.1)=true:=aS (by simp only[len]; omega)
  rw[aD (aP (by simp only[len]; omega)),aF hin,aU h,aO h (by omega)];cases seq n.2.2.1[i].1 name<;>rfl
 ·rw[aC (aQ (by simp only[len]; omega))]
 ·rw[uR name (fun v=>some (v,n,e))]
  by_cases h:(fK name n.2.2.1).2=true
  ·rw[if_pos h]; rfl
  ·rw[if_neg h]
   have:gF n name=[]:=uS (by simpa [tQ,KT] using h)
   rw[this]
theorem I5{n:Nd}(hs:smN n) (name:Ln):lM fuelH ([n],0,name)=some (gF n name,tQ n name):=by
 have hl:=hs.asz
 have hfu:=aZ
 unfold lM;dsimp only;rw[aC (by rfl),aC (by rfl),bF,aF (by rfl)]
 have e0:aA [n] (toN (0:Int)) zN=n:=rfl
 rw[e0];refine(dS (l:=n.2.2.1) (fun i=>(i:Int)) (fun a:At=>seq a.1 name) (fun _ a=>some (a.2,true)) (some ([],false)) (by omega) (fun self i h=>?_) (fun self=>?_)).trans ?_
 ·have hin:inb (i:Int) (len n.2.2.1)=true:=aS (by simp only[len]; omega)
  rw[aD (aP (by simp only[len]; omega)),aF hin,aU h,aO h (by omega)];cases seq n.2.2.1[i].1 name<;>rfl
 ·rw[aC (aQ (by simp only[len]; omega))]
 ·rw[uR name (fun v=>some (v,true))]
  by_cases h:(fK name n.2.2.1).2=true
  ·rw[if_pos h]
   have:tQ n name=true:=h
   rw[this];rfl
  ·rw[if_neg h]
   have h:tQ n name=false:=by simpa [tQ,KT] using h
   rw[h,uS h]
theorem iK{n:Nd}(hs:smN n) (e:Int) (name:Ln):pK fuelH ((n,e),name)=some (gF n name,n,e):=by
 unfold pK;dsimp only;rw[I5 hs,aB]
def fB(a b:Int):Int:=if a=0 then b else a
theorem oN(N:Nat) (n:Nd) (a b:Int):q98 N ((n,a),b)=some (n,fB a b):=by
 unfold q98 fB;dsimp only
 by_cases h:a=0
 ·rw[aD (cB h),if_pos h]
 ·rw[aC (bS h),if_neg h]
theorem qV(N:Nat) (n:Nd) (a b:Int):wO N ((n,a),b)=some (n,fB a b):=oN N n a b
def pV(n:Nd) (name:Ln) (hi:Int):Int×Int:=aJK (gF n name) hi
theorem YB{n:Nd}(hs:smN n) (e:Int) (name:Ln){hi:Int}(hh:hi≤4611686018427387904):QK fuelH ((n,e),name,hi)=some ((pV n name hi).1,n,fB e (pV n name hi).2):=by
 have:=pU hs name
 unfold QK B9;dsimp only;rw[fL hs,aB];dsimp only;rw[I4 (by omega) hh,aB]
 try dsimp only
 rw[oN];rfl
theorem uT{n:Nd}(hs:smN n) (e:Int) (name:Ln){hi:Int}(hh:hi≤4611686018427387904):BL fuelH ((n,e),name,hi)=some ((pV n name hi).1,n,fB e (pV n name hi).2):=by
 have:=pU hs name
 unfold BL;dsimp only;rw[iK hs,aB];dsimp only;rw[aFU (by omega) hh,aB]
 try dsimp only
 rw[qV];rfl
theorem zW{n:Nd}(hs:smN n) (e:Int) (name:Ln):QN fuelH ((n,e),name)=some ((pV n name 32).1,n,fB e (pV n name 32).2):=by
 unfold QN;dsimp only;rw[YB hs e name (by omega),aB]
def aZ4(s:Ln):Int×Int:=if s.getLast?=some 102 then aJK s.dropLast 5184000 else(0,4)
def zX(n:Nd) (name:Ln):Int×Int:=aZ4 (gF n name)
theorem aRN{s:Ln}(hs:s.length≤4000000):aG6 fuelH (s,[102])=some (if s.getLast?=some 102 then(s.dropLast,true) else(s,false)):=by
 unfold aG6 aL0 aLZ;dsimp only;rcases List.eq_nil_or_concat s with rfl|⟨t,c,rfl⟩
 ·rfl
 ·rw[List.concat_eq_append] at hs ⊢;rw[bIM,bI3,bJL] at hs
  have hl:len (t++[c])=((t.length+1:Nat):Int):=by simp[len]
  have h1:len [(102:UInt8)]=1:=rfl
  have hw:w64 (aH (len (t++[c])) (len [(102:UInt8)]))=(t.length:Int):=by
   rw[hl,h1];simp only[aH];rw[bG (by omega)];omega
  have hd:bC (toN (t.length:Int)) (t++[c])=[c]:=by
   show(t++[c]).drop _=_
   have:toN (t.length:Int)=t.length:=by simp[toN]
   rw[this,List.drop_append_of_le_length (bKC _),bJD];rfl
  have ht:aW (toN (t.length:Int)) (t++[c])=t:=by
   show(t++[c]).take _=_
   have:toN (t.length:Int)=t.length:=by simp[toN]
   rw[this,List.take_append_of_le_length (bKC _),bJA]
  have hin:in2 (t.length:Int) (len (t++[c]))=true:=dG (by rw[hl]; omega)
  rw[aD (eA (by rw[hl,h1]; omega)),hw,aF hin,hd,aB,List.getLast?_concat,List.dropLast_concat]
  by_cases h:c=102
  ·subst h
   have:seq [(102:UInt8)] [102]=true:=by rw[cF]
   rw[this,aC (by rfl),aF hin,ht,aB,if_pos rfl]
  ·have:seq [c] [102]=false:=by rw[bO]; simpa using h
   rw[this,aD (by rfl),aB,if_neg (by simpa using h)]
theorem aFV{n:Nd}(hs:smN n) (e:Int) (name:Ln):aA2 fuelH ((n,e),name)=some ((zX n name).1,n,fB e (zX n name).2):=by
 have hl:=pU hs name
 unfold aA2 B9 zX aZ4;rw[fL hs,aB];dsimp only;rw[aRN (by omega),aB]
 by_cases h:(gF n name).getLast?=some 102
 ·rw[if_pos h,if_pos h,aC (by rfl)];dsimp only;rw[I4 (by rw[bH9]; omega) (by omega),aB]
  try dsimp only
  rw[oN];rfl
 ·rw[if_neg h,if_neg h,aD (by rfl)];dsimp only;rw[oN];rfl
theorem aFW{n:Nd}(hs:smN n) (e:Int) (name:Ln):aA7 fuelH ((n,e),name)=some ((zX n name).1,n,fB e (zX n name).2):=by
 have hl:=pU hs name
 unfold aA7 zX aZ4;rw[iK hs,aB];dsimp only;generalize gF n name=s at hl;rcases List.eq_nil_or_concat s with rfl|⟨t,c,rfl⟩
 ·rw[aD (by rfl),qV];rfl
 ·rw[List.concat_eq_append] at hl ⊢;rw[bIM,bI3,bJL] at hl
  have hln:len (t++[c])=((t.length+1:Nat):Int):=by simp[len]
  have hw:w64 (aH (len (t++[c])) 1)=(t.length:Int):=by
   rw[hln];simp only[aH];rw[bG (by omega)];omega
  have hin:inb (t.length:Int) (len (t++[c]))=true:=aS (by rw[hln]; omega)
  have hg:aA (t++[c]) (toN (t.length:Int)) (0:UInt8)=c:=by
   rw[aU (l:=t++[c]) (i:=t.length) (by simp)];simp
  have ht:aW (toN (t.length:Int)) (t++[c])=t:=by
   show(t++[c]).take _=_
   have:toN (t.length:Int)=t.length:=by simp[toN]
   rw[this,List.take_append_of_le_length (bKC _),bJA]
  rw[aC (by rw[bO]; simp),hw,aF hin,hg,List.getLast?_concat,List.dropLast_concat]
  by_cases h:c=102
  ·subst h;rw[aC (bW rfl),aF (dG (by rw[hln]; omega)),ht,aFU (by omega) (by omega),aB,if_pos rfl]
   try dsimp only
   rw[qV];rfl
  ·rw[aD (bX fun k=>h (cH k)),qV,if_neg (by simpa using h)];rfl
def KU(tab:List Ln) (s:Ln):Option Nat:=eB (fun x:Ln=>seq x s) (fun i _=>some i) none 0 tab
theorem KB{R:Type} (f:Nat→R) (K:R) (s:Ln):∀(k:Nat) (tab:List Ln),eB (fun x:Ln=>seq x s) (fun i _=>f i) K k tab=match(eB (fun x:Ln=>seq x s) (fun i _=>some i) none k tab:Option Nat) with|some i=>f i|none=>K
 |_,[]=>rfl
 |k,x::tab=>by
  unfold eB;rw[KB f K s (k+1) tab]
  by_cases h:seq x s=true
  ·rw[if_pos h,if_pos h]
  ·rw[if_neg h,if_neg h]
def chT(tab:List Ln) (n:Nd) (name:Ln):Int×Int:=if tQ n name=false then(0,0) else match KU tab (gF n name) with|some i=>((i:Int),0)|none=>(0,4)
theorem aDH{n:Nd}(hs:smN n) (e:Int){name:Ln}{tab:List Ln}(ht:tab.length≤100) (hh:tQ n name=true):IK fuelH ((n,e),name,tab)=some ((chT tab n name).1,n,fB e (chT tab n name).2):=by
 have hfu:=aZ
 unfold IK chT;rw[if_neg (by rw[hh]; simp)];dsimp only;rw[fL hs,aB,bF,oN,aB];dsimp only;refine(dS (l:=tab) (fun i=>(i:Int)) (fun x:Ln=>seq x (gF n name)) (fun i _=>some ((i:Int),n,e)) (some (0,n,fB e 4)) (by omega) (fun self i h=>?_) (fun self=>?_)).trans ?_
 ·have hin:inb (i:Int) (len tab)=true:=aS (by simp only[len]; omega)
  rw[aD (aP (by simp only[len]; omega)),aF hin,aU h,aO h (by omega)];cases seq tab[i] (gF n name)<;>rfl
 ·rw[aC (aQ (by simp only[len]; omega))]
 ·rw[KB (fun i=>some ((i:Int),n,e))]
  have:(eB (fun x:Ln=>seq x (gF n name)) (fun i _=>some i) none 0 tab:Option Nat)=KU tab (gF n name):=rfl
  rw[this]
  cases KU tab (gF n name) with
  |none=>rfl
  |some i=>unfold fB; by_cases h:e=0<;>simp[h]
theorem NO{tab:List Ln} (ht:tab.length≤4000000) (s:Ln):C2 fuelH (tab,s)=some (match KU tab s with|some i=>(i:Int)|none=>-1):=by
 have hfu:=aZ
 unfold C2;dsimp only;rw[bF];refine(dS (l:=tab) (fun i=>(i:Int)) (fun x:Ln=>seq x s) (fun i _=>some (i:Int)) (some (-1)) (by omega) (fun self i h=>?_) (fun self=>?_)).trans ?_
 ·have hin:inb (i:Int) (len tab)=true:=aS (by simp only[len]; omega)
  rw[aD (aP (by simp only[len]; omega)),aF hin,aU h,aO h (by omega)];cases seq tab[i] s<;>rfl
 ·rw[aC (aQ (by simp only[len]; omega))]
 ·rw[KB (fun i=>some (i:Int))]
  have:(eB (fun x:Ln=>seq x s) (fun i _=>some i) none 0 tab:Option Nat)=KU tab s:=rfl
  rw[this];cases KU tab s<;>rfl
theorem YC{n:Nd}(hs:smN n) (e:Int){name:Ln}{tab:List Ln}(ht:tab.length≤100):IN fuelH ((n,e),name,tab)=some ((chT tab n name).1,n,fB e (chT tab n name).2):=by
 have hz:fB e 0=e:=by unfold fB; by_cases h:e=0<;>simp[h]
 unfold IN chT;dsimp only;rw[I5 hs,aB];dsimp only
 cases hh:tQ n name with
 |false =>
  rw[aD (by rfl),if_pos rfl,hz]
 |true =>
  rw[aC (by rfl),if_neg (by simp),NO (by omega),aB]
  cases KU tab (gF n name) with
  |none =>
   rw[aD (by rfl),qV];rfl
  |some i =>
   dsimp only;rw[aC (aQ (Int.not_lt.2 (Int.natCast_nonneg i))),hz]
def flT(n:Nd) (name:Ln):Bool×Int:=(ieq (chT [[48],[49]] n name).1 1,(chT [[48],[49]] n name).2)
theorem YD{n:Nd}(hs:smN n) (e:Int) (name:Ln):SN fuelH ((n,e),name)=some ((flT n name).1,n,fB e (flT n name).2):=by
 unfold SN flT;dsimp only;rw[YC hs e (by simp),aB]
theorem aFX(e:Int):fB e 0=e:=by unfold fB; by_cases h:e=0<;>simp[h]
def NP(n:Nd):Prop:=((KT n).map Prod.fst).Nodup
def flE(name:Ln):Int→List At→Int
 |e,[]=>e
 |e,a::r=>flE name (if a.1=name∧a.2≠[48]∧a.2≠[49] then fB e 4 else e) r
theorem aFY(name:Ln):∀(l:List At) (e:Int),name ∉ l.map Prod.fst→flE name e l=e
 | [],_,_=>rfl
 |a::l,e,h=>by
  simp only[bJY,bJX,not_or] at h;unfold flE;rw[if_neg (fun k=>h.1 k.1.symm)];exact aFY name l e h.2
theorem aOS(name:Ln):∀(l:List At) (e:Int),(l.map Prod.fst).Nodup→flE name e l=fB e (if(fK name l).2=true∧(fK name l).1≠[48]∧(fK name l).1≠[49] then 4 else 0)
 | [],e,_=>by simp[flE,fK,aFX]
 |a::l,e,h=>by
  rw[bJY,List.nodup_cons] at h;unfold flE fK
  by_cases ha:a.1=name
  ·subst ha;rw[aFY _ _ _ h.1,if_pos rfl]
   by_cases c:a.2≠[48]∧a.2≠[49]
   ·rw[if_pos ⟨rfl,c⟩,if_pos ⟨rfl,c⟩]
   ·rw[if_neg (fun k=>c k.2),if_neg (fun k=>c k.2),aFX]
  ·rw[if_neg (fun k=>ha k.1),if_neg ha];exact aOS name l e h.2
theorem bGS(s:Ln):KU [[48],[49]] s=if s=[48] then some 0 else if s=[49] then some 1 else none:=by
 unfold KU eB eB eB
 by_cases h:s=[48]
 ·subst h; rfl
 ·rw[if_neg h]
  have h1:seq [48] s=false:=by rw[bO]; simpa using fun k=>h k.symm
  rw[if_neg (by rw[h1]; simp)]
  by_cases h2:s=[49]
  ·subst h2; rfl
  ·rw[if_neg h2]
   have h3:seq [49] s=false:=by rw[bO]; simpa using fun k=>h2 k.symm
   rw[if_neg (by rw[h3]; simp)]
theorem aDI{n:Nd}(hs:smN n) (hu:NP n) (e:Int) (name:Ln):q99 fuelH ((n,e),name)=some ((flT n name).1,n,fB e (flT n name).2):=by
 have hl:=hs.asz
 have hfu:=aZ
 unfold q99;dsimp only;rw[bF]
 have h:=bT (R:=Bool×Nd×Int) (s:=n.2.2.1) (F:=fun v3 (v4:Int×Nd×Int) =>
   cnd (ilt v4.1 (len n.2.2.1))
    (grd (inb v4.1 (len n.2.2.1))
     (cnd (seq (aA n.2.2.1 (toN v4.1) ([],[])).1 name)
      (cnd (sne (aA n.2.2.1 (toN v4.1) ([],[])).2 ([48]:Y_))
       (cnd (sne (aA n.2.2.1 (toN v4.1) ([],[])).2 ([49]:Y_))
        (bnd (q98 fuelH (v4.2,(4:Int))) fun v5 =>
        v3 (w64 (aE v4.1 (1:Int)),v5))
        (v3 (w64 (aE v4.1 (1:Int)),v4.2)))
       (v3 (w64 (aE v4.1 (1:Int)),v4.2)))
      (v3 (w64 (aE v4.1 (1:Int)),v4.2))))
    (bnd (q95 fuelH (v4.2,name)) fun v1 =>
     some (seq v1.1 ([49]:Y_),v1.2)))
  (fun (e:Int) (j:Nat)=>((j:Int),n,e)) (fun e r=>some (seq (gF n name) [49],n,flE name e r)) (fun _ _=>True) ?_ fuelH 0 e (by omega) (bKD _) trivial
 ·refine bKF h ?_;rw[bJS,aOS name n.2.2.1 e hu];unfold flT chT;rw[bGS]
  have hv:(fK name n.2.2.1).1=gF n name:=rfl
  have hh:(fK name n.2.2.1).2=tQ n name:=rfl
  rw[hv,hh]
  cases c:tQ n name with
  |false =>
   have:=uS c
   rw[this,if_neg (by simp),if_pos rfl];rfl
  |true =>
   rw[if_neg (show ¬(true=false) by simp)]
   by_cases c0:gF n name=[48]
   ·rw[if_pos c0,if_neg (fun k=>k.2.1 c0),c0]; rfl
   ·rw[if_neg c0]
    by_cases c1:gF n name=[49]
    ·rw[if_pos c1,if_neg (fun k=>k.2.2 c1),c1]; rfl
    ·rw[if_neg c1,if_pos ⟨rfl,c0,c1⟩]
     have:seq (gF n name) [49]=false:=by rw[bO]; simpa using c1
     rw[this]; rfl
 ·intro self a j hj _ hself
  by_cases hjl:j<n.2.2.1.length
  ·have hin:inb (j:Int) (len n.2.2.1)=true:=aS (by simp only[len]; omega)
   have hw:w64 (aE (j:Int) 1)=((j+1:Nat):Int):=aO hjl (by omega)
   dsimp only;rw[aD (aP (by simp only[len]; omega)),aF hin,aU hjl,hw,bHK hjl];unfold flE
   have nx:=fun e'=>hself e' (j+1) (by omega) (by omega) trivial
   by_cases c:n.2.2.1[j].1=name
   ·rw[aD (by rw[cF]; exact c)]
    by_cases c0:n.2.2.1[j].2=[48]
    ·rw[aC (by simpa [sne] using c0),if_neg (fun k=>k.2.1 c0)];exact nx a
    ·rw[aD (by simpa [sne] using c0)]
     by_cases c1:n.2.2.1[j].2=[49]
     ·rw[aC (by simpa [sne] using c1),if_neg (fun k=>k.2.2 c1)];exact nx a
     ·rw[aD (by simpa [sne] using c1),if_pos ⟨c,c0,c1⟩,oN,aB];exact nx _
   ·rw[aC (by rw[bO]; simpa using c),if_neg (fun k=>c k.1)];exact nx a
  ·obtain rfl:j=n.2.2.1.length:=by omega
   dsimp only;rw[aC (aQ (by simp only[len]; omega)),fL hs,aB,bJD];rfl
def aJL(n:Nd):UInt8×Int:=(b8 (chT gl1 n [99,111,108,111,114]).1,(chT gl1 n [99,111,108,111,114]).2)
theorem aRO{n:Nd}(hs:smN n) (e:Int):aG7 fuelH (n,e)=some ((aJL n).1,n,fB e (aJL n).2):=by
 have hl:=hs.asz
 have hfu:=aZ
 unfold aG7;dsimp only;rw[bF];refine(dS (l:=n.2.2.1) (fun i=>(i:Int)) (fun a:At=>seq a.1 [99,111,108,111,114]) (fun _ _=>bnd (IK fuelH ((n,e),[99,111,108,111,114],gl1)) fun v4=>some (b8 v4.1,v4.2)) (some ((0:UInt8),n,e)) (by omega) (fun self i h=>?_) (fun self=>?_)).trans ?_
 ·have hin:inb (i:Int) (len n.2.2.1)=true:=aS (by simp only[len]; omega)
  rw[aD (aP (by simp only[len]; omega)),aF hin,aU h,aO h (by omega)];cases seq n.2.2.1[i].1 [99,111,108,111,114]<;>rfl
 ·rw[aC (aQ (by simp only[len]; omega))]
 ·rw[uR [99,111,108,111,114] (fun _=>bnd (IK fuelH ((n,e),[99,111,108,111,114],gl1)) fun v4=>some (b8 v4.1,v4.2))]
  have hh:(fK [99,111,108,111,114] n.2.2.1).2=tQ n [99,111,108,111,114]:=rfl
  rw[hh];unfold aJL
  cases c:tQ n [99,111,108,111,114] with
  |true =>
   rw[if_pos rfl,aDH hs e (by decide) c,aB]
  |false =>
   unfold chT;rw[if_neg (by simp),c,if_pos rfl,aFX];rfl
def aJM(s:Ln):UInt8×Int:=eB (fun r:UInt8=>seq (xH r) s) (fun _ r=>(r,0)) (0,4) 0 [1,2,3,4,5,6,7]
def KV(s:Ln):UInt8×Int:=eB (fun k:Ln=>seq k s) (fun i _=>(b8 (w64 (aE (i:Int) 1)),0)) (0,4) 0 [[68,73,65,76,79,71,85,69],[83,79,85,78,68],[84,73,84,76,69],[77,85,83,73,67]]
theorem uU{α R:Type}(p:α→Bool) (f:Nat→α→R) (K:R):∀(i:Nat) (l:List α),eB p (fun i a=>some (f i a)) (some K) i l=some (eB p f K i l)
 |_,[]=>rfl
 |i,a::l=>by
  unfold eB;rw[uU p f K (i+1) l]
  by_cases h:p a=true
  ·rw[if_pos h,if_pos h]
  ·rw[if_neg h,if_neg h]
theorem aOT(s:Ln):q97 fuelH s=some (aJM s):=by
 have hfu:=aZ
 unfold q97;rw[bF]
 have hr:q96 fuelH ()=some [1,2,3,4,5,6,7]:=rfl
 rw[cC hr];unfold aJM;rw[←uU (fun r:UInt8=>seq (xH r) s) (fun _ r=>((r,0):UInt8×Int)) (0,4) 0];refine dS (l:=([1,2,3,4,5,6,7]:Y_)) (fun i=>(i:Int)) (fun r=>seq (xH r) s) (fun _ r=>some (r,0)) (some (0,4)) (by simp only[bI3,bJL]; omega) (fun self i h=>?_) (fun self=>?_)
 ·have hin:inb (i:Int) (len ([1,2,3,4,5,6,7]:Y_))=true:=aS (by simp only[len]; omega)
  rw[aD (aP (by simp only[len]; omega)),aF hin,aU h,aI9,aB,aO h (by simp only[bI3,bJL] at h ⊢; omega)];cases seq (xH ([1,2,3,4,5,6,7]:Y_)[i]) s<;>rfl
 ·rw[aC (aQ (by simp only[len]; omega))]
theorem aOU(s:Ln):aHI fuelH s=some (aJM s):=by
 have hfu:=aZ
 unfold aHI;rw[bF]
 have hr:aL1 fuelH ()=some [1,2,3,4,5,6,7]:=rfl
 rw[cC hr];unfold aJM;rw[←uU (fun r:UInt8=>seq (xH r) s) (fun _ r=>((r,0):UInt8×Int)) (0,4) 0];refine dS (l:=([1,2,3,4,5,6,7]:Y_)) (fun i=>(i:Int)) (fun r=>seq (xH r) s) (fun _ r=>some (r,0)) (some (0,4)) (by simp only[bI3,bJL]; omega) (fun self i h=>?_) (fun self=>?_)
 ·have hin:inb (i:Int) (len ([1,2,3,4,5,6,7]:Y_))=true:=aS (by simp only[len]; omega)
  rw[aD (aP (by simp only[len]; omega)),aF hin,aU h,aJA,aB,aO h (by simp only[bI3,bJL] at h ⊢; omega)];cases seq (xH ([1,2,3,4,5,6,7]:Y_)[i]) s<;>rfl
 ·rw[aC (aQ (by simp only[len]; omega))]
theorem I6(s:Ln):aA3 fuelH s=some (KV s):=by
 have hfu:=aZ
 unfold aA3;rw[bF]
 have hr:q26 fuelH ()=some [[68,73,65,76,79,71,85,69],[83,79,85,78,68],[84,73,84,76,69],[77,85,83,73,67]]:=rfl
 rw[cC hr];unfold KV;rw[←uU (fun k:Ln=>seq k s) (fun i _=>((b8 (w64 (aE (i:Int) 1)),0):UInt8×Int)) (0,4) 0];refine dS (l:=([[68,73,65,76,79,71,85,69],[83,79,85,78,68],[84,73,84,76,69],[77,85,83,73,67]]:List Ln)) (fun i=>(i:Int)) (fun k=>seq k s) (fun i _=>some (b8 (w64 (aE (i:Int) 1)),0)) (some (0,4)) (by simp only[bI3,bJL]; omega) (fun self i h=>?_) (fun self=>?_)
 ·have hin:inb (i:Int) (len ([[68,73,65,76,79,71,85,69],[83,79,85,78,68],[84,73,84,76,69],[77,85,83,73,67]]:List Ln))=true:=aS (by simp only[len]; omega)
  rw[aD (aP (by simp only[len]; omega)),aF hin,aU h,aO h (by simp only[bI3,bJL] at h ⊢; omega)];cases seq ([[68,73,65,76,79,71,85,69],[83,79,85,78,68],[84,73,84,76,69],[77,85,83,73,67]]:List Ln)[i] s<;>rfl
 ·rw[aC (aQ (by simp only[len]; omega))]
theorem aJN(s:Ln):aHL fuelH s=some (KV s):=(rfl:aHL fuelH s=aA3 fuelH s).trans (I6 s)
def iC(n:Ln):List Ln:=if n=[116,116] then [[114,97,116,101],[108,97,115,116]] else if n=[114,101,103,105,111,110] then [[110,97,109,101],[116,111,112],[104,101,105,103,104,116],[108,101,102,116],[119,105,100,116,104],[97,108,105,103,110],[97,110,99,104,111,114]] else if n=[112] then [[105,100],[105,110],[111,117,116],[107,105,110,100]] else []
def tR(n:Ln):List Ln:=if n=[116,116] then [[116,105,116,108,101],[108,97,110,103],[100,114,111,112]] else if n=[114,101,103,105,111,110] then [] else if n=[112] then [[114,101,103,105,111,110],[115,112,101,97,107,101,114]] else if n=[114,117,110] then [[99,111,108,111,114],[105,116,97,108,105,99],[117,110,100,101,114,108,105,110,101],[114,117,98,121]] else []
def rI(n:Ln):List Ln:=if n=[116,116] then [[116,105,116,108,101],[108,97,110,103],[114,97,116,101],[100,114,111,112],[108,97,115,116]] else if n=[114,101,103,105,111,110] then [[110,97,109,101],[116,111,112],[104,101,105,103,104,116],[108,101,102,116],[119,105,100,116,104],[97,108,105,103,110],[97,110,99,104,111,114]] else if n=[112] then [[105,100],[105,110],[111,117,116],[114,101,103,105,111,110],[107,105,110,100],[115,112,101,97,107,101,114]] else if n=[114,117,110] then [[99,111,108,111,114],[105,116,97,108,105,99],[117,110,100,101,114,108,105,110,101],[114,117,98,121]] else []
theorem aZ5{P:Ln→Prop}(h1:P [116,116]) (h2:P [114,101,103,105,111,110]) (h3:P [112]) (h4:P [114,117,110]) (h5:∀n,n≠[116,116]→n≠[114,101,103,105,111,110]→n≠[112]→n≠[114,117,110]→P n) (n:Ln):P n:=by
 by_cases c1:n=[116,116]
 ·rw[c1]; exact h1
 by_cases c2:n=[114,101,103,105,111,110]
 ·rw[c2]; exact h2
 by_cases c3:n=[112]
 ·rw[c3]; exact h3
 by_cases c4:n=[114,117,110]
 ·rw[c4]; exact h4
 exact h5 n c1 c2 c3 c4
theorem KW(N:Nat) (n:Ln):q92 N n=some (iC n,tR n):=by
 refine aZ5 (P:=fun n=>q92 N n=some (iC n,tR n)) rfl rfl rfl rfl (fun n c1 c2 c3 c4=>?_) n;unfold q92 iC tR;rw[aC (by rw[bO]; simpa using c1),aC (by rw[bO]; simpa using c2),aC (by rw[bO]; simpa using c3),aC (by rw[bO]; simpa using c4),if_neg c1,if_neg c2,if_neg c3,if_neg c1,if_neg c2,if_neg c3,if_neg c4]
theorem aOV(N:Nat) (n:Ln):aA6 N n=some (rI n,iC n):=by
 refine aZ5 (P:=fun n=>aA6 N n=some (rI n,iC n)) rfl rfl rfl rfl (fun n c1 c2 c3 c4=>?_) n;unfold aA6 iC rI;rw[aC (by rw[bO]; simpa using c1),aC (by rw[bO]; simpa using c2),aC (by rw[bO]; simpa using c3),aC (by rw[bO]; simpa using c4),if_neg c1,if_neg c2,if_neg c3,if_neg c1,if_neg c2,if_neg c3,if_neg c4]
theorem YE(n:Ln):(∀w,w∈rI n↔w∈iC n∨w∈tR n)∧(iC n).Nodup∧(iC n).length≤7∧(tR n).length≤4∧(rI n).length≤7:=by
 refine aZ5 (P:=fun n=>(∀w,w∈rI n↔w∈iC n∨w∈tR n)∧(iC n).Nodup∧(iC n).length≤7∧(tR n).length≤4∧(rI n).length≤7) ?_ ?_ ?_ ?_ (fun n c1 c2 c3 c4=>?_) n
 ·refine⟨fun w=>?_,by decide,by decide,by decide,by decide⟩
  have e1:rI [116,116]=[[116,105,116,108,101],[108,97,110,103],[114,97,116,101],[100,114,111,112],[108,97,115,116]]:=rfl
  have e2:iC [116,116]=[[114,97,116,101],[108,97,115,116]]:=rfl
  have e3:tR [116,116]=[[116,105,116,108,101],[108,97,110,103],[100,114,111,112]]:=rfl
  rw[e1,e2,e3];simp only[bJX,List.not_mem_nil,or_false];constructor
  ·rintro(h|h|h|h|h)
   ·exact Or.inr (Or.inl h)
   ·exact Or.inr (Or.inr (Or.inl h))
   ·exact Or.inl (Or.inl h)
   ·exact Or.inr (Or.inr (Or.inr h))
   ·exact Or.inl (Or.inr h)
  ·rintro((h|h)|h|h|h)
   ·exact Or.inr (Or.inr (Or.inl h))
   ·exact Or.inr (Or.inr (Or.inr (Or.inr h)))
   ·exact Or.inl h
   ·exact Or.inr (Or.inl h)
   ·exact Or.inr (Or.inr (Or.inr (Or.inl h)))
 ·refine⟨fun w=>?_,by decide,by decide,by decide,by decide⟩
  have e3:tR [114,101,103,105,111,110]=[]:=rfl
  have e1:rI [114,101,103,105,111,110]=iC [114,101,103,105,111,110]:=rfl
  rw[e1,e3];simp
 ·refine⟨fun w=>?_,by decide,by decide,by decide,by decide⟩
  have e1:rI [112]=[[105,100],[105,110],[111,117,116],[114,101,103,105,111,110],[107,105,110,100],[115,112,101,97,107,101,114]]:=rfl
  have e2:iC [112]=[[105,100],[105,110],[111,117,116],[107,105,110,100]]:=rfl
  have e3:tR [112]=[[114,101,103,105,111,110],[115,112,101,97,107,101,114]]:=rfl
  rw[e1,e2,e3];simp only[bJX,List.not_mem_nil,or_false];constructor
  ·rintro(h|h|h|h|h|h)
   ·exact Or.inl (Or.inl h)
   ·exact Or.inl (Or.inr (Or.inl h))
   ·exact Or.inl (Or.inr (Or.inr (Or.inl h)))
   ·exact Or.inr (Or.inl h)
   ·exact Or.inl (Or.inr (Or.inr (Or.inr h)))
   ·exact Or.inr (Or.inr h)
  ·rintro((h|h|h|h)|h|h)
   ·exact Or.inl h
   ·exact Or.inr (Or.inl h)
   ·exact Or.inr (Or.inr (Or.inl h))
   ·exact Or.inr (Or.inr (Or.inr (Or.inr (Or.inl h))))
   ·exact Or.inr (Or.inr (Or.inr (Or.inl h)))
   ·exact Or.inr (Or.inr (Or.inr (Or.inr (Or.inr h))))
 ·refine⟨fun w=>?_,by decide,by decide,by decide,by decide⟩
  have e1:rI [114,117,110]=tR [114,117,110]:=rfl
  have e2:iC [114,117,110]=[]:=rfl
  rw[e1,e2];simp
 ·unfold iC tR rI;simp only[if_neg c1,if_neg c2,if_neg c3,if_neg c4];simp
def KX(n:Nd):Bool:=(KT n).all (fun a=>(rI n.1).contains a.1)&&(iC n.1).all (fun w=>((KT n).map Prod.fst).contains w)
theorem I7{l:List Ln}(hl:l.length≤1000) (s:Ln):q93 fuelH (l,s)=some (l.contains s):=by
 have hfu:=aZ
 unfold q93;dsimp only;rw[bF];refine(dS (l:=l) (fun i=>(i:Int)) (fun x:Ln=>seq x s) (fun _ _=>some true) (some false) (by omega) (fun self i h=>?_) (fun self=>?_)).trans ?_
 ·have hin:inb (i:Int) (len l)=true:=aS (by simp only[len]; omega)
  rw[aD (aP (by simp only[len]; omega)),aF hin,aU h,aO h (by omega)];cases seq l[i] s<;>rfl
 ·rw[aC (aQ (by simp only[len]; omega))]
 ·rw[tP]
  have:l.any (fun x=>seq x s)=l.contains s:=by
   rw[bJQ,List.any_eq_true,bH4];exact⟨fun ⟨x,hx,h⟩=>by rw[cF] at h; exact h ▸ hx,fun h=>⟨s,h,by rw[cF]⟩⟩
  rw[this];cases l.contains s<;>rfl
theorem aOW{l:List Ln}(hl:l.length≤4000000) (s:Ln):kP fuelH (l,s)=some (l.contains s):=by
 unfold kP;rw[NO hl,aB]
 have key:∀(k:Nat) (l:List Ln),(match(eB (fun x:Ln=>seq x s) (fun i _=>some i) none k l:Option Nat) with|some i=>ile 0 (i:Int)|none=>ile 0 (-1))=l.contains s:=by
  intro k l
  induction l generalizing k with
  |nil=>rfl
  |cons x l ih =>
   unfold eB
   by_cases h:seq x s=true
   ·rw[if_pos h];rw[cF] at h;subst h;rw[List.contains_cons];simp;exact eA (Int.natCast_nonneg k)
   ·rw[if_neg h,ih,List.contains_cons]
    have:¬x=s:=fun q=>h (by rw[cF]; exact q)
    have h2:(s==x)=false:=by simpa using fun q=>this q.symm
    rw[h2,bJZ]
 have:=key 0 l
 unfold KU;rw[←this];cases (eB (fun x:Ln=>seq x s) (fun i _=>some i) none 0 l:Option Nat)<;>rfl
theorem nft:¬(false=true):=by simp
def zY(A l:List Ln):Nat:=(l.filter (fun w=>A.contains w)).length
theorem aJO(w:Ln) (A l:List Ln) (h:w ∉ A):zY (w::A) l=l.count w+zY A l:=by
 unfold zY
 induction l with
 |nil=>rfl
 |cons x l ih =>
  rw[List.filter_cons,List.filter_cons,bJN]
  by_cases e:x=w
  ·subst e
   have h1:(x::A).contains x=true:=by simp
   have h2:A.contains x=false:=by simpa using h
   have h3:(x==x)=true:=by simp
   rw[h1,h2,h3,if_pos rfl,if_neg nft,if_pos rfl,bI3,ih];omega
  ·have h1:(w::A).contains x=A.contains x:=by
    rw[List.contains_cons]
    have:(x==w)=false:=by simpa using e
    rw[this,bJZ]
   have h3:(x==w)=false:=by simpa using e
   rw[h1,h3,if_neg nft,bJ7]
   cases A.contains x with
   |true=>rw[if_pos rfl,if_pos rfl,bI3,bI3,ih]; omega
   |false=>rw[if_neg nft,if_neg nft,ih]
theorem aZ6{l:List Ln}(h:l.Nodup) (w:Ln):l.count w≤1:=by
 induction l with
 |nil=>simp
 |cons x l ih =>
  rw[List.nodup_cons] at h;rw[bJN]
  by_cases e:x=w
  ·subst e;rw[if_pos (by simp),List.count_eq_zero_of_not_mem h.1];omega
  ·have:=ih h.2
   rw[if_neg (by simpa using e)];omega
theorem aOX{A l:List Ln}(hA:A.Nodup) (hl:l.Nodup):zY A l≤A.length∧(zY A l=A.length↔∀w∈A,w∈l):=by
 induction A with
 |nil =>
  have:zY [] l=0:=by unfold zY; simp
  rw[this];simp
 |cons w A ih =>
  rw[List.nodup_cons] at hA;obtain⟨h1,h2⟩:=ih hA.2;rw[aJO w A l hA.1,bI3]
  have hc:=aZ6 hl w
  refine⟨by omega,fun h=>?_,fun h=>?_⟩
  ·have e1:l.count w=1:=by omega
   have e2:zY A l=A.length:=by omega
   intro v hv;rcases bJX.1 hv with rfl|hv
   ·exact bIT.1 (by omega)
   ·exact h2.1 e2 v hv
  ·have e1:0<l.count w:=bIT.2 (h w bIQ)
   have e2:=h2.2 fun v hv=>h v (bH7 _ hv)
   omega
def YF(A M:List Ln):Nat→List At→Option Nat
 |c,[]=>some c
 |c,a::r=>if A.contains a.1 then YF A M (c+1) r else if M.contains a.1 then YF A M c r else none
theorem YG(A M:List Ln):∀(l:List At) (c:Nat),YF A M c l=if l.all (fun a=>A.contains a.1||M.contains a.1) then some (c+zY A (l.map Prod.fst)) else none
 | [],c=>by simp[YF,zY]
 |a::l,c=>by
  unfold YF
  have e:zY A ((a::l).map Prod.fst)=(if A.contains a.1 then 1 else 0)+zY A (l.map Prod.fst):=by
   unfold zY;rw[bJY,List.filter_cons]
   cases A.contains a.1 with
   |true=>rw[if_pos rfl,if_pos rfl,bI3]; omega
   |false=>rw[if_neg nft,if_neg nft]; omega
  rw[e,bJ1,YG A M l (c+1),YG A M l c]
  cases A.contains a.1 with
  |true =>
   rw[if_pos rfl,if_pos rfl,Bool.true_or,bJ0]
   by_cases h:(l.all fun a=>A.contains a.1||M.contains a.1)=true
   ·rw[if_pos h,if_pos h]; congr 1; omega
   ·rw[if_neg h,if_neg h]
  |false =>
   rw[if_neg nft,if_neg nft,bJZ]
   cases M.contains a.1 with
   |true=>rw[if_pos rfl,bJ0,bJ4]
   |false=>rw[if_neg nft,bJV,if_neg nft]
theorem aOY{n:Nd} (hu:NP n):KX n=(match YF (iC n.1) (tR n.1) 0 n.2.2.1 with|some c=>decide (c=(iC n.1).length)|none=>false):=by
 obtain⟨t1,t2,_⟩:=YE n.1;rw[YG]
 have e1:(n.2.2.1.all fun a=>(iC n.1).contains a.1||(tR n.1).contains a.1)=((KT n).all fun a=>(rI n.1).contains a.1):=by
  show _=n.2.2.1.all _;congr 1;funext a;rw[bJQ,Bool.or_eq_true,bH4,bH4,bH4];exact(t1 a.1).symm
 rw[e1];unfold KX
 cases (KT n).all fun a=>(rI n.1).contains a.1 with
 |false=>rw[bJV,if_neg nft]
 |true =>
  rw[bJ0,if_pos rfl,bJ4]
  have h:=(aOX (l:=n.2.2.1.map Prod.fst) t2 hu).2
  show _=decide (zY (iC n.1) (n.2.2.1.map Prod.fst)=(iC n.1).length);rw[bJQ,bJC,decide_eq_true_eq,h];exact⟨fun k w hw=>by have:=k w hw; rwa [bH4] at this,fun k w hw=>by rw[bH4]; exact k w hw⟩
theorem KY{n:Nd}(hs:smN n) (hu:NP n):q94 fuelH n=some (KX n):=by
 have hl:=hs.asz
 have hfu:=aZ
 obtain⟨_,_,t3,t4,_⟩:=YE n.1;unfold q94;rw[KW,aB,bF]
 have h:=bT (R:=Bool) (s:=n.2.2.1) (F:=fun v3 (v4:(List Ln)×(List Ln)×Int×Int) =>
   cnd (ilt v4.2.2.2 (len n.2.2.1))
    (grd (inb v4.2.2.2 (len n.2.2.1))
     (bnd (q93 fuelH (v4.1,(aA n.2.2.1 (toN v4.2.2.2) ([],[])).1)) fun v5 =>
     cnd v5
      (v3 (v4.1,v4.2.1,w64 (aE v4.2.2.1 (1:Int)),w64 (aE v4.2.2.2 (1:Int))))
      (bnd (q93 fuelH (v4.2.1,(aA n.2.2.1 (toN v4.2.2.2) ([],[])).1)) fun v6 =>
      cnd (bA v6)
       (some false)
       (v3 (v4.1,v4.2.1,v4.2.2.1,w64 (aE v4.2.2.2 (1:Int)))))))
    (some (ieq v4.2.2.1 (len v4.1))))
  (fun (c:Nat) (j:Nat)=>(iC n.1,tR n.1,(c:Int),(j:Int))) (fun c r=>some (match YF (iC n.1) (tR n.1) c r with|some c=>decide (c=(iC n.1).length)|none=>false)) (fun j c=>c≤j) ?_ fuelH 0 0 (by omega) (bKD _) (bKC _)
 ·refine bKF h ?_;rw[aOY hu,bJS]
 ·intro self c j hj hc hself
  by_cases hjl:j<n.2.2.1.length
  ·have hin:inb (j:Int) (len n.2.2.1)=true:=aS (by simp only[len]; omega)
   have hw:w64 (aE (j:Int) 1)=((j+1:Nat):Int):=aO hjl (by omega)
   have hwc:w64 (aE (c:Int) 1)=((c+1:Nat):Int):=aO (n:=n.2.2.1.length) (by omega) (by omega)
   dsimp only;rw[aD (aP (by simp only[len]; omega)),aF hin,aU hjl,hw,hwc,bHK hjl,I7 (by omega),aB,I7 (by omega),aB];unfold YF
   cases (iC n.1).contains n.2.2.1[j].1 with
   |true =>
    rw[aD rfl,if_pos rfl];exact hself (c+1) (j+1) (by omega) (by omega) (by omega)
   |false =>
    rw[aC rfl,if_neg nft]
    cases (tR n.1).contains n.2.2.1[j].1 with
    |true =>
     rw[aC (by rfl),if_pos rfl];exact hself c (j+1) (by omega) (by omega) (by omega)
    |false =>
     rw[aD (by rfl),if_neg nft]
  ·obtain rfl:j=n.2.2.1.length:=by omega
   dsimp only;rw[aC (aQ (by simp only[len]; omega)),bJD];unfold YF;dsimp only;congr 1;rw[bJQ,decide_eq_true_eq];constructor
   ·intro h
    by_cases e:(c:Int)=len (iC n.1)
    ·simp only[len] at e; omega
    ·rw[bS e] at h; cases h
   ·intro h;exact cB (by simp only[len]; omega)
theorem aJP(A:List Ln) (hA:A.length≤1000) (c:List Ln) (hc:c.length≤4000000):aY (fun v4 (v5:(List Ln)×Int) =>
   cnd (ilt v5.2 (len A))
    (grd (inb v5.2 (len A))
     (bnd (kP fuelH (v5.1,aA A (toN v5.2) [])) fun v6 =>
     cnd (bA v6)
      (some false)
      (v4 (v5.1,w64 (aE v5.2 (1:Int))))))
    (some true)) fuelH (c,0)=some (A.all fun w=>c.contains w):=by
 have hfu:=aZ
 refine(dS (l:=A) (fun i=>(c,(i:Int))) (fun w:Ln=>!c.contains w) (fun _ _=>some false) (some true) (by omega) (fun self i h=>?_) (fun self=>?_)).trans ?_
 ·have hin:inb (i:Int) (len A)=true:=aS (by simp only[len]; omega)
  dsimp only;rw[aD (aP (by simp only[len]; omega)),aF hin,aU h,aO h (by omega),aOW hc,aB];cases c.contains A[i]<;>rfl
 ·dsimp only;rw[aC (aQ (by simp only[len]; omega))]
 ·rw[tP]
  have e:(A.all fun w=>c.contains w)=!(A.any fun w=>!c.contains w):=by
   induction A with
   |nil=>rfl
   |cons w A ih=>rw[bJ1,List.any_cons,ih (by simp only[bI3] at hA; omega)]; cases c.contains w<;>rfl
  rw[e];cases (A.any fun w=>!c.contains w)<;>rfl
theorem aRP{n:Nd}(hs:smN n):pJ fuelH n=some (KX n):=by
 have hl:=hs.asz
 have hfu:=aZ
 obtain⟨_,_,t3,t4,t5⟩:=YE n.1;unfold pJ;rw[aOV,aB,bF]
 have h:=bT (R:=Bool) (s:=n.2.2.1) (F:=fun v8 (v9:(List Ln)×(List Ln)×Int) =>
   cnd (ilt v9.2.2 (len n.2.2.1))
    (grd (inb v9.2.2 (len n.2.2.1))
     (bnd (kP fuelH (v9.1,(aA n.2.2.1 (toN v9.2.2) ([],[])).1)) fun v10 =>
     cnd (bA v10)
      (some false)
      (grd (cL (aE (len v9.2.1) (len ([(aA n.2.2.1 (toN v9.2.2) ([],[])).1]:List Ln))) 16)
       (v8 (v9.1,bL v9.2.1 ([(aA n.2.2.1 (toN v9.2.2) ([],[])).1]:List Ln),w64 (aE v9.2.2 (1:Int)))))))
    (aY (fun v4 (v5:(List Ln)×Int) =>
     cnd (ilt v5.2 (len (iC n.1)))
      (grd (inb v5.2 (len (iC n.1)))
       (bnd (kP fuelH (v5.1,aA (iC n.1) (toN v5.2) [])) fun v6 =>
       cnd (bA v6)
        (some false)
        (v4 (v5.1,w64 (aE v5.2 (1:Int))))))
      (some true)) fuelH (v9.2.1,0)))
  (fun (c:List Ln) (j:Nat)=>(rI n.1,c,(j:Int))) (fun c r=>some (r.all (fun a=>(rI n.1).contains a.1)&&(iC n.1).all (fun w=>(c++r.map Prod.fst).contains w))) (fun j c=>c.length≤j) ?_ fuelH 0 [] (by omega) (bKD _) (bKC _)
 ·refine h.trans ?_;rw[bJS,bJM];rfl
 ·intro self c j hj hc hself
  by_cases hjl:j<n.2.2.1.length
  ·have hin:inb (j:Int) (len n.2.2.1)=true:=aS (by simp only[len]; omega)
   have hw:w64 (aE (j:Int) 1)=((j+1:Nat):Int):=aO hjl (by omega)
   dsimp only;rw[aD (aP (by simp only[len]; omega)),aF hin,aU hjl,hw,bHK hjl,aOW (by omega),aB,bJ1,bJY]
   cases (rI n.1).contains n.2.2.1[j].1 with
   |false=>rw[aD (by rfl),bJV,bJV]
   |true =>
    rw[aC (by rfl),bJ0,aF (cU (by simp only[aE,len,bI3,bJL]; omega))];refine(hself (c++[n.2.2.1[j].1]) (j+1) (by omega) (by omega) (by rw[bIM]; simp only[bI3,bJL]; omega)).trans ?_;rw[bIW];rfl
  ·obtain rfl:j=n.2.2.1.length:=by omega
   dsimp only;rw[aC (aQ (by simp only[len]; omega)),bJD,List.all_nil,bJ0,List.map_nil,bJH];exact aJP _ (by omega) c (by omega)
theorem CC{α β:Type}(p:α×β):(p.1,p.2)=p:=rfl
theorem CD{α:Type}(xs:List α) (d:α):bJ xs (aI xs d)=xs:=by
 unfold bJ aI
 cases xs with
 |nil=>rfl
 |cons x xs =>
  have h:(x::xs).length-1<(x::xs).length:=by simp
  rw[bHG,bHN h,Option.getD_some];exact List.set_getElem_self _
theorem CE{α:Type}{xs:List α}(h:xs≠[]) (hl:xs.length≤4000000):inb (w64 (aH (len xs) 1)) (len xs)=true∧ieq (w64 (aH (len xs) 1)) (aH (len xs) 1)=true∧ieq (ofN (toN (w64 (aH (len xs) 1)))) (aH (len xs) 1)=true∧toN (w64 (aH (len xs) 1))=xs.length-1:=by
 have h1:1≤xs.length:=by cases xs with|nil=>exact absurd rfl h|cons _ _=>simp
 have e:w64 (aH (len xs) 1)=((xs.length-1:Nat):Int):=by
  simp only[aH,len];rw[bG (by omega)];omega
 have e2:aH (len xs) 1=((xs.length-1:Nat):Int):=by simp only[aH,len]; omega
 rw[e,e2];refine⟨aS (by simp only[len]; omega),cB rfl,cB ?_,by simp[toN]⟩;simp[toN,ofN]
theorem I8{α:Type}{xs:List α}(h:xs≠[]) (d:α):aA xs (xs.length-1) d=aI xs d:=by
 unfold aA aI;rfl
theorem I9{α:Type}(xs:List α) (x:α):nS xs (xs.length-1) x=bJ xs x:=rfl
def evY:Ev:=(0,(0,0),[],0,[],[])
def dP(d:Doc):List Row:=(aI d.2.2.2.2.2.2.1 evY).2.2.2.2.2
def jD(d:Doc):Row:=aI (dP d) []
def runZ:Run:=([],(0,false,false),[])
def CF(d:Doc) (rows:List Row):Doc:=(d.1,d.2.1,d.2.2.1,d.2.2.2.1,d.2.2.2.2.1,d.2.2.2.2.2.1,bJ d.2.2.2.2.2.2.1 ((aI d.2.2.2.2.2.2.1 evY).1,(aI d.2.2.2.2.2.2.1 evY).2.1,(aI d.2.2.2.2.2.2.1 evY).2.2.1,(aI d.2.2.2.2.2.2.1 evY).2.2.2.1,(aI d.2.2.2.2.2.2.1 evY).2.2.2.2.1,rows),d.2.2.2.2.2.2.2)
def aFZ:Int:=1099511627776
def KC(d:Doc) (n:Nd):Int×Doc :=
 (fB (fB (aJM (gF n [114,97,116,101])).2 (flT n [100,114,111,112]).2) (pV n [108,97,115,116] aFZ).2,(gF n [116,105,116,108,101],gF n [108,97,110,103],(aJM (gF n [114,97,116,101])).1,(flT n [100,114,111,112]).1,(pV n [108,97,115,116] aFZ).1,d.2.2.2.2.2.1,d.2.2.2.2.2.2.1,d.2.2.2.2.2.2.2))
def bGT(n:Nd):Reg:=(gF n [110,97,109,101],(pV n [116,111,112] 32).1,(pV n [104,101,105,103,104,116] 32).1,(pV n [108,101,102,116] 32).1,(pV n [119,105,100,116,104] 32).1,b8 (w64 (aE (chT gl0 n [97,108,105,103,110]).1 1)),ieq (chT [[84,79,80],[66,79,84,84,79,77]] n [97,110,99,104,111,114]).1 1)
def NQ(d:Doc) (n:Nd):Int×Doc :=
 (fB (fB (fB (fB (fB (pV n [116,111,112] 32).2 (pV n [104,101,105,103,104,116] 32).2) (pV n [108,101,102,116] 32).2) (pV n [119,105,100,116,104] 32).2) (chT gl0 n [97,108,105,103,110]).2) (chT [[84,79,80],[66,79,84,84,79,77]] n [97,110,99,104,111,114]).2,
  (d.1,d.2.1,d.2.2.1,d.2.2.2.1,d.2.2.2.2.1,d.2.2.2.2.2.1++[bGT n],d.2.2.2.2.2.2.1,d.2.2.2.2.2.2.2))
def evT(n:Nd):Ev:=((pV n [105,100] aFZ).1,((zX n [105,110]).1,(zX n [111,117,116]).1),gF n [114,101,103,105,111,110],(KV (gF n [107,105,110,100])).1,gF n [115,112,101,97,107,101,114],[])
def CX(d:Doc) (n:Nd):Int×Doc :=
 (fB (fB (fB (pV n [105,100] aFZ).2 (zX n [105,110]).2) (zX n [111,117,116]).2) (KV (gF n [107,105,110,100])).2,
  (d.1,d.2.1,d.2.2.1,d.2.2.2.1,d.2.2.2.2.1,d.2.2.2.2.2.1,d.2.2.2.2.2.2.1++[evT n],d.2.2.2.2.2.2.2))
def aDJ(n:Nd):Run:=([],((aJL n).1,(flT n [105,116,97,108,105,99]).1,(flT n [117,110,100,101,114,108,105,110,101]).1),gF n [114,117,98,121])
def aS5(d:Doc) (n:Nd):Int×Doc :=
 (fB (fB (aJL n).2 (flT n [105,116,97,108,105,99]).2) (flT n [117,110,100,101,114,108,105,110,101]).2,CF d (bJ (dP d) (jD d++[aDJ n])))
def aS6(d:Doc) (n:Nd):Int×Doc:=(0,CF d (bJ (dP d) (bJ (jD d) (n.2.1,(aI (jD d) runZ).2))))
def eT(d:Doc) (n:Nd):Int×Doc :=
 if n.1=[116,116] then KC d n else if n.1=[114,101,103,105,111,110] then NQ d n else if n.1=[112] then CX d n else if n.1=[114,111,119] then(0,CF d (dP d++[[]])) else if n.1=[114,117,110] then aS5 d n else aS6 d n
structure HasR (d:Doc) (n:Nd):Prop where
 rg:d.2.2.2.2.2.1.length≤1000000
 ev:d.2.2.2.2.2.2.1.length≤1000000
 row:n.1≠[116,116]→n.1≠[114,101,103,105,111,110]→n.1≠[112]→d.2.2.2.2.2.2.1≠[]∧(dP d).length≤1000000
 run:n.1≠[116,116]→n.1≠[114,101,103,105,111,110]→n.1≠[112]→n.1≠[114,111,119]→dP d≠[]∧(jD d).length≤1000000
 tx:n.1≠[116,116]→n.1≠[114,101,103,105,111,110]→n.1≠[112]→n.1≠[114,111,119]→n.1≠[114,117,110]→jD d≠[]
theorem tS{α:Type}(xs:List α) (y v:α):bJ (xs++[y]) v=xs++[v]:=by
 unfold bJ;rw[bIM,bI3,bJL,bIU,bH2 _ _ (bKC _),bJ9];rfl
theorem aOZ{n:Nd}(ha:KX n=true){w:Ln}(hw:(iC n.1).contains w=true):tQ n w=true:=by
 unfold KX at ha;rw[bI4,bJC,bJC] at ha;rw[bH4] at hw
 have:=ha.2 w hw
 rw[bH4] at this;exact(NN w _).2 this
theorem aRQ(s:Ln):(KV s).2=0∨(KV s).2=4:=by
 unfold KV
 have:∀(l:List Ln) (k:Nat),(eB (fun k:Ln=>seq k s) (fun i _=>(b8 (w64 (aE (i:Int) 1)),(0:Int))) ((0:UInt8),(4:Int)) k l).2=0∨(eB (fun k:Ln=>seq k s) (fun i _=>(b8 (w64 (aE (i:Int) 1)),(0:Int))) ((0:UInt8),(4:Int)) k l).2=4:=by
  intro l
  induction l with
  |nil=>intro k; exact Or.inr rfl
  |cons x l ih =>
   intro k;unfold eB
   by_cases h:seq x s=true
   ·rw[if_pos h]; exact Or.inl rfl
   ·rw[if_neg h]; exact ih (k+1)
 exact this _ 0
theorem sq{a b:Ln}(h:a=b):seq a b=true:=by rw[cF]; exact h
theorem sqf{a b:Ln}(h:¬a=b):seq a b=false:=by rw[bO]; simpa using h
theorem aZ7{d:Doc}{n:Nd}(hs:smN n) (hu:NP n) (ha:KX n=true) (hr:HasR d n):nK fuelH (d,n)=some (eT d n):=by
 have hMax:(1099511627776:Int)≤4611686018427387904:=by omega
 unfold nK eT;dsimp only;simp only[CD,CC];rw[bF]
 by_cases c1:n.1=[116,116]
 ·rw[aD (sq c1),if_pos c1,fL hs,aB];dsimp only;rw[fL hs,aB];dsimp only;rw[fL hs,aB];dsimp only;rw[aOT,aB];rw[oN,aB,aDI hs hu,aB];dsimp only;rw[YB hs _ _ hMax,aB];rfl
 rw[aC (sqf c1),if_neg c1]
 by_cases c2:n.1=[114,101,103,105,111,110]
 ·have h1:tQ n [97,108,105,103,110]=true:=aOZ ha (by rw[c2]; rfl)
  have h2:tQ n [97,110,99,104,111,114]=true:=aOZ ha (by rw[c2]; rfl)
  rw[aD (sq c2),if_pos c2,fL hs,aB];dsimp only;rw[zW hs,aB];dsimp only;rw[zW hs,aB];dsimp only;rw[zW hs,aB];dsimp only;rw[zW hs,aB];dsimp only;rw[aDH hs _ (by decide) h1,aB];dsimp only;rw[aDH hs _ (by simp) h2,aB];dsimp only;rw[aF (cU (by have:=hr.rg; simp only[aE,len,bI3,bJL]; omega))];rfl
 rw[aC (sqf c2),if_neg c2]
 by_cases c3:n.1=[112]
 ·rw[aD (sq c3),if_pos c3,YB hs _ _ hMax,aB];dsimp only;rw[aFV hs,aB];dsimp only;rw[aFV hs,aB];dsimp only;rw[fL hs,aB];dsimp only;rw[fL hs,aB];dsimp only;rw[I6,aB,bF]
  have key:∀e:Int,e=fB (fB (fB (fB 0 (pV n [105,100] 1099511627776).2) (zX n [105,110]).2) (zX n [111,117,116]).2) (KV (gF n [107,105,110,100])).2 →
    (bnd (q95 fuelH ((n,e),[115,112,101,97,107,101,114])) fun v23 =>
     grd (cL (aE (len d.2.2.2.2.2.2.1) (len ([zE]:List Ev))) 88)
     (some (v23.2.2,d.1,d.2.1,d.2.2.1,d.2.2.2.1,d.2.2.2.2.1,d.2.2.2.2.2.1,bJ (bL d.2.2.2.2.2.2.1 ([zE]:List Ev)) ((pV n [105,100] 1099511627776).1,((zX n [105,110]).1,(zX n [111,117,116]).1),gF n [114,101,103,105,111,110],(KV (gF n [107,105,110,100])).1,v23.1,([]:List Row)),d.2.2.2.2.2.2.2)))=some (CX d n):=by
   intro e he;rw[fL hs,aB,aF (cU (by have:=hr.ev; simp only[aE,len,bI3,bJL]; omega))]
   have:∀x:Ev,bL d.2.2.2.2.2.2.1 [x]=d.2.2.2.2.2.2.1++[x]:=fun _=>rfl
   rw[this,tS,he];rfl
  rcases aRQ (gF n [107,105,110,100]) with h|h
  ·rw[aC (bW h)];exact key _ (by rw[h,aFX])
  ·rw[aD (bX (by rw[h]; decide)),oN,aB];exact key _ (by rw[h])
 rw[aC (sqf c3),if_neg c3];obtain⟨r1,r2⟩:=hr.row c1 c2 c3;obtain⟨g1,g2,g3,g4⟩:=CE r1 (by have:=hr.ev; omega)
 have hz:zE=evY:=rfl
 rw[hz]
 by_cases c4:n.1=[114,111,119]
 ·rw[aD (sq c4),if_pos c4,aF g1,aF g2,aF g3]
  have hl:(aI d.2.2.2.2.2.2.1 evY).2.2.2.2.2.length≤1000000:=r2
  rw[aF (cU (by simp only[aE,len,bI3,bJL]; omega)),aF g1,aF g2,aF g3]
  have:∀(l:List Row) (x:Row),bL l [x]=l++[x]:=fun _ _=>rfl
  rw[this,tS];rfl
 rw[aC (sqf c4),if_neg c4];obtain⟨s1,s2⟩:=hr.run c1 c2 c3 c4
 have s1:(aI d.2.2.2.2.2.2.1 evY).2.2.2.2.2≠[]:=s1
 have hl:(aI d.2.2.2.2.2.2.1 evY).2.2.2.2.2.length≤1000000:=r2
 obtain⟨k1,k2,k3,k4⟩:=CE s1 (by omega)
 have hl2:(aI (aI d.2.2.2.2.2.2.1 evY).2.2.2.2.2 []).length≤1000000:=s2
 by_cases c5:n.1=[114,117,110]
 ·rw[aD (sq c5),if_pos c5,fL hs,aB];dsimp only;rw[aRO hs,aB];dsimp only;rw[aDI hs hu,aB];dsimp only;rw[aDI hs hu,aB];dsimp only;rw[aF g1,aF g2,aF g3,aF g1,aF g2,aF g3,aF k1,aF k2,aF k3,aF (cU (by simp only[aE,len,bI3,bJL]; omega)),aF k3];rfl
 rw[aC (sqf c5),if_neg c5]
 have t1:aI (aI d.2.2.2.2.2.2.1 evY).2.2.2.2.2 []≠[]:=hr.tx c1 c2 c3 c4 c5
 obtain⟨m1,m2,m3,m4⟩:=CE t1 (by omega);rw[aF g1,aF g2,aF g3,aF g1,aF g2,aF g3,aF k1,aF k2,aF k3,aF k3,aF m1,m4,I9,I8 t1];rfl
def DK(n:Nd) (parent:Ln) (reg:Bool):Bool :=
 if parent=[] then decide (n.1=[116,116]) else if parent=[116,116] then(if n.1=[112] then true else if n.1=[114,101,103,105,111,110] then reg else false) else
 if parent=[112] then decide (n.1=[114,111,119]) else if parent=[114,111,119] then decide (n.1=[114,117,110]) else if parent=[114,117,110] then decide (n.1=[]) else false
def noE(d:Doc):Bool:=decide (d.2.2.2.2.2.2.1.length=0)
def tT(op:List Ln) (n:Nd):Ln:=if 0<dep n then op.getD ((dep n).toNat-1) [] else []
def okN(op:List Ln) (d:Doc) (n:Nd):Bool:=DK n (tT op n) (noE d)&&KX n
def lW:Doc:=([],[],0,false,0,[],[],[])
def aRR(d:Doc):Doc×Int×Int:=if iB d≠0 then(lW,0,iB d) else(d,0,0)
def goS:Nat→List Ln→Doc→List Nd→Doc×Int×Int
 |_,_,d,[]=>aRR d
 |i,op,d,n::r=>if okN op d n=false then(lW,(i:Int),4) else if(eT d n).1≠0 then(lW,(i:Int),(eT d n).1) else goS (i+1) (op.take (dep n).toNat++[n.1]) (eT d n).2 r
def lX(l:List Nd):Doc×Int×Int:=if tL l≠0 then(lW,0,tL l) else goS 0 [] lW l
def fM(d:Doc):List Ev:=d.2.2.2.2.2.2.1
def Sh(op:List Ln) (d:Doc):Prop :=
 (op=[]∧fM d=[])∨(op=[[116,116]]∧fM d=[])∨(op=[[116,116],[114,101,103,105,111,110]]∧fM d=[])∨(op=[[116,116],[112]]∧fM d≠[])∨(op=[[116,116],[112],[114,111,119]]∧fM d≠[]∧dP d≠[]) ∨
 (op=[[116,116],[112],[114,111,119],[114,117,110]]∧fM d≠[]∧dP d≠[]∧jD d≠[]∧(aI (jD d) runZ).1=[])∨(op=[[116,116],[112],[114,111,119],[114,117,110],[]]∧fM d≠[]∧dP d≠[]∧jD d≠[])
structure Inv (l:List Nd) (i:Nat) (op:List Ln) (d:Doc):Prop where
 sh:Sh op d
 zero:i=0→op=[]
 one:1≤i→(op.length:Int)=dep (l.getD (i-1) ndz)+1
 path:∀k,k<op.length→∃j,j<i∧dep (l.getD j ndz)=(k:Int)∧(l.getD j ndz).1=op.getD k []∧∀m,j<m→m<i→(k:Int)<dep (l.getD m ndz)
 rg:d.2.2.2.2.2.1.length≤i
 ev:(fM d).length≤i
 rw:(dP d).length≤i
 rn:(jD d).length≤i
 ti:d.1.length≤1090000
 small:∀x∈fM d,∀r∈x.2.2.2.2.2,(∀u∈r,u.1.length≤1090000∧u.2.2.length≤1090000)∧tot r≤bkL wtN (l.take i)
 cm:d.2.2.2.2.2.2.2=[]
theorem aZ8(l:List Nd):Inv l 0 [] lW :=
 ⟨Or.inl ⟨rfl,rfl⟩,fun _=>rfl,fun h=>absurd h (by omega),fun k h=>by simp at h,bKC _,bKC _,bKC _,bKC _,bKD _,(fun x hx=>by cases hx),rfl⟩
inductive Nx (i:Nat) (op:List Ln) (d:Doc) (n:Nd):Prop
 |tt (h0:i=0) (hk:dep n=0) (ho:op=[]) (hn:n.1=[116,116]) (he:fM d=[])
 |p (hk:dep n=1) (ho:op.take 1=[[116,116]]) (hn:n.1=[112])
 |rg (hk:dep n=1) (ho:op.take 1=[[116,116]]) (hn:n.1=[114,101,103,105,111,110]) (he:fM d=[])
 |row (hk:dep n=2) (ho:op.take 2=[[116,116],[112]]) (hn:n.1=[114,111,119]) (he:fM d≠[])
 |run (hk:dep n=3) (ho:op.take 3=[[116,116],[112],[114,111,119]]) (hn:n.1=[114,117,110]) (he:fM d≠[]) (hr:dP d≠[])
 |tx (hk:dep n=4) (ho:op=[[116,116],[112],[114,111,119],[114,117,110]]) (hn:n.1=[]) (he:fM d≠[]) (hr:dP d≠[]) (hu:jD d≠[]) (ht:(aI (jD d) runZ).1=[])
theorem aRS{n:Nd}{q:Ln}{b:Bool}(h:DK n q b=true) (h1:q≠[]) (h2:q≠[116,116]) (h3:q≠[112]) (h4:q≠[114,111,119]) (h5:q≠[114,117,110]):False:=by
 unfold DK at h;rw[if_neg h1,if_neg h2,if_neg h3,if_neg h4,if_neg h5] at h;cases h
theorem FM{l:List Nd}(hd:Deep l){i:Nat}(hi:i<l.length){op:List Ln}{d:Doc}(hI:Inv l i op d):(i=0∧dep l[i]=0)∨(1≤i∧1≤dep l[i]∧dep l[i]≤(op.length:Int)∧(dep l[i]=(op.length:Int)→(l.getD (i-1) ndz).1≠[])):=by
 by_cases h0:i=0
 ·subst h0; exact Or.inl ⟨rfl,hd.root hi⟩
 ·have h1:=hI.one (by omega)
  have h2:=hd.low (i-1) (by omega)
  have e:l.getD (i-1) ndz=l[i-1]:=gD (by omega)
  have e2:l[i-1+1]'(by omega)=l[i]:=by congr 1; omega
  rw[e2] at h2;rw[e] at h1 ⊢;exact Or.inr ⟨by omega,h2.1,by omega,fun k=>h2.2.2 (by omega)⟩
theorem aO0{l:List Nd}(hc:tL l=0){i:Nat}(hi:i<l.length){op:List Ln}{d:Doc}(hI:Inv l i op d) (hf:DK l[i] (tT op l[i]) (noE d)=true):Nx i op d l[i]:=by
 have hck:=(xI hc).2.2
 have hd:=FI hck
 have hnoE:noE d=true→fM d=[]:=fun h=>bHR.1 (of_decide_eq_true h)
 rcases FM hd hi hI with⟨h0,hk⟩|⟨h1,k1,k2,k3⟩
 ·have ho:=hI.zero h0
  have hp:tT op l[i]=[]:=by unfold tT; rw[if_neg (by omega)]
  rw[hp] at hf
  have he:fM d=[]:=by
   have:=hI.ev
   exact bHR.1 (by omega)
  exact Nx.tt h0 hk ho (of_decide_eq_true hf) he
 ·have hp:tT op l[i]=op.getD ((dep l[i]).toNat-1) []:=by unfold tT; rw[if_pos (by omega)]
  rw[hp] at hf
  have at1:op.take 1=[[116,116]]→dep l[i]=1→Nx i op d l[i]:=by
   intro ho hk
   have:op.getD ((dep l[i]).toNat-1) []=[116,116]:=by
    rw[hk]
    cases op with
    |nil=>cases ho
    |cons a t=>injection ho with e _
   rw[this] at hf
   have hf:(if l[i].1=[112] then true else if l[i].1=[114,101,103,105,111,110] then noE d else false)=true:=hf
   by_cases c1:l[i].1=[112]
   ·exact Nx.p hk ho c1
   rw[if_neg c1] at hf
   by_cases c2:l[i].1=[114,101,103,105,111,110]
   ·rw[if_pos c2] at hf;exact Nx.rg hk ho c2 (hnoE hf)
   ·rw[if_neg c2] at hf; cases hf
  have at2:op.take 2=[[116,116],[112]]→dep l[i]=2→fM d≠[]→Nx i op d l[i]:=by
   intro ho hk he
   have:op.getD ((dep l[i]).toNat-1) []=[112]:=by
    rw[hk]
    match op,ho with
    |a::b::t,ho=>injection ho with _ e; injection e with e _
   rw[this] at hf;exact Nx.row hk ho (of_decide_eq_true (show decide (l[i].1=[114,111,119])=true from hf)) he
  have at3:op.take 3=[[116,116],[112],[114,111,119]]→dep l[i]=3→fM d≠[]→dP d≠[]→Nx i op d l[i]:=by
   intro ho hk he hr
   have:op.getD ((dep l[i]).toNat-1) []=[114,111,119]:=by
    rw[hk]
    match op,ho with
    |a::b::c::t,ho=>injection ho with _ e; injection e with _ e; injection e with e _
   rw[this] at hf;exact Nx.run hk ho (of_decide_eq_true (show decide (l[i].1=[114,117,110])=true from hf)) he hr
  rcases hI.sh with⟨ho,he⟩|⟨ho,he⟩|⟨ho,he⟩|⟨ho,he⟩|⟨ho,he,hr⟩|⟨ho,he,hr,hu,ht⟩|⟨ho,he,hr,hu⟩
  ·rw[ho] at k2; simp at k2; omega
  ·have hk:dep l[i]=1:=by rw[ho] at k2; simp at k2; omega
   exact at1 (by rw[ho]; rfl) hk
  ·have hl:dep l[i]=1∨dep l[i]=2:=by rw[ho] at k2; simp at k2; omega
   rcases hl with hk|hk
   ·exact at1 (by rw[ho]; rfl) hk
   ·exfalso;rw[ho,hk] at hf;exact aRS (q:=[114,101,103,105,111,110]) hf (by decide) (by decide) (by decide) (by decide) (by decide)
  ·have hl:dep l[i]=1∨dep l[i]=2:=by rw[ho] at k2; simp at k2; omega
   rcases hl with hk|hk
   ·exact at1 (by rw[ho]; rfl) hk
   ·exact at2 (by rw[ho]; rfl) hk he
  ·have hl:dep l[i]=1∨dep l[i]=2∨dep l[i]=3:=by rw[ho] at k2; simp at k2; omega
   rcases hl with hk|hk|hk
   ·exact at1 (by rw[ho]; rfl) hk
   ·exact at2 (by rw[ho]; rfl) hk he
   ·exact at3 (by rw[ho]; rfl) hk he hr
  ·have hl:dep l[i]=1∨dep l[i]=2∨dep l[i]=3∨dep l[i]=4:=by rw[ho] at k2; simp at k2; omega
   rcases hl with hk|hk|hk|hk
   ·exact at1 (by rw[ho]; rfl) hk
   ·exact at2 (by rw[ho]; rfl) hk he
   ·exact at3 (by rw[ho]; rfl) hk he hr
   ·rw[ho,hk] at hf;exact Nx.tx hk ho (of_decide_eq_true (show decide (l[i].1=[])=true from hf)) he hr hu ht
  ·
   have hlast:(l.getD (i-1) ndz).1=[]:=by
    obtain⟨j,j1,j2,j3,j4⟩:=hI.path 4 (by rw[ho]; simp)
    have h1':=hI.one h1
    rw[ho] at h1' j3;simp only[bI3,bJL] at h1'
    have:j=i-1:=by
     by_cases e:j=i-1
     ·exact e
     ·have:=j4 (i-1) (by omega) (by omega)
      omega
    rw[this] at j3;exact j3
   have hl:dep l[i]=1∨dep l[i]=2∨dep l[i]=3∨dep l[i]=4∨dep l[i]=5:=by rw[ho] at k2; simp at k2; omega
   rcases hl with hk|hk|hk|hk|hk
   ·exact at1 (by rw[ho]; rfl) hk
   ·exact at2 (by rw[ho]; rfl) hk he
   ·exact at3 (by rw[ho]; rfl) hk he hr
   ·exfalso;rw[ho,hk] at hf
    have hn:l[i].1=[]:=of_decide_eq_true (show decide (l[i].1=[])=true from hf)
    have htx:=aC8 (hck i hi) hn
    have e:l.getD (i-1) ndz=l[i-1]:=gD (by omega)
    have h1':=hI.one h1
    rw[ho,e] at h1';simp only[bI3,bJL] at h1';rw[e] at hlast
    have hpv:prv l i=some l[i-1]:=by
     have:=gQ (l:=l) (i:=i-1) (by omega)
     have e3:i-1+1=i:=by omega
     rwa [e3] at this
    rw[hpv] at htx;unfold txE txP at htx;rw[if_pos (decide_eq_true ⟨hlast,by omega⟩)] at htx;cases htx
   ·exfalso;exact k3 (by rw[ho]; simp only[bI3,bJL]; omega) hlast
theorem aF0{p:Option Nd}{n:Nd}(h:ndE p n=0):NP n:=by
 unfold NP KT
 by_cases hn:n.1=[]
 ·have:=aC8 h hn
  unfold txE at this
  split at this
  ·cases this
  split at this
  ·cases this
  split at this
  ·cases this
  ·rename_i _ _ h0
   have:n.2.2.1=[]:=bHR.1 (by omega)
   rw[this];exact List.nodup_nil
 ·have he:=aZ3 h hn
  unfold elE at he
  split at he
  ·cases he
  split at he
  ·cases he
  split at he
  ·cases he
  have key:∀(r:List At) (seen:List Ln),seen.Nodup→atE seen r=0→(seen++r.map Prod.fst).Nodup:=by
   intro r
   induction r with
   |nil=>intro seen hs _; simpa using hs
   |cons a r ih =>
    intro seen hs h;unfold atE at h
    split at h
    ·cases h
    split at h
    ·cases h
    split at h
    ·cases h
    rename_i _ hm _
    have:=ih (seen++[a.1]) (by
     rw[List.nodup_append];refine⟨hs,by simp,?_⟩;intro x hx y hy;rw[bIS] at hy;subst hy;intro e;exact hm (e ▸ hx)) h
    rw[bIW] at this;exact this
  exact key _ [] List.nodup_nil he
theorem aF1{l:List Nd}{i:Nat}(hi:i≤1000000){op:List Ln}{d:Doc}{n:Nd}(hI:Inv l i op d) (hx:Nx i op d n):HasR d n:=by
 have h1:=hI.rg
 have h2:=hI.ev
 have h3:=hI.rw
 have h4:=hI.rn
 have h2':d.2.2.2.2.2.2.1.length≤i:=h2
 cases hx with
 |tt h0 hk ho hn he=>exact⟨by omega,by omega,fun k=>absurd hn k,fun k=>absurd hn k,fun k=>absurd hn k⟩
 |p hk ho hn=>exact⟨by omega,by omega,fun _ _ k=>absurd hn k,fun _ _ k=>absurd hn k,fun _ _ k=>absurd hn k⟩
 |rg hk ho hn he=>exact⟨by omega,by omega,fun _ k=>absurd hn k,fun _ k=>absurd hn k,fun _ k=>absurd hn k⟩
 |row hk ho hn he=>exact⟨by omega,by omega,fun _ _ _=>⟨he,by omega⟩,fun _ _ _ k=>absurd hn k,fun _ _ _ k=>absurd hn k⟩
 |run hk ho hn he hr=>exact⟨by omega,by omega,fun _ _ _=>⟨he,by omega⟩,fun _ _ _ _=>⟨hr,by omega⟩,fun _ _ _ _ k=>absurd hn k⟩
 |tx hk ho hn he hr hu ht=>exact⟨by omega,by omega,fun _ _ _=>⟨he,by omega⟩,fun _ _ _ _=>⟨hr,by omega⟩,fun _ _ _ _ _=>hu⟩
theorem zZ{α:Type}{xs:List α}(h:xs≠[]) (d:α):aI xs d∈xs:=by
 have h1:xs.length-1<xs.length:=by cases xs with|nil=>exact absurd rfl h|cons _ _=>simp
 unfold aI;rw[bHG,bHN h1,Option.getD_some];exact bJE h1
theorem FN{α:Type}{xs:List α}{v x:α}(h:x∈bJ xs v):x∈xs∨x=v:=List.mem_or_eq_of_mem_set h
theorem qW{α:Type}(xs:List α) (v:α):(bJ xs v).length=xs.length:=by unfold bJ; rw[List.length_set]
theorem YH{α:Type}{xs:List α}(h:xs≠[]) (v:α):bJ xs v≠[]:=fun k=>h (bHR.1 (by rw[←qW xs v,k]; rfl))
theorem aDK{α:Type}(xs:List α) (v:α):xs++[v]≠[]:=by simp
theorem KD{α:Type}(xs:List α) (v d:α):aI (xs++[v]) d=v:=by
 unfold aI;rw[bIM,bI3,bJL,bIU,bHG,bHH (bKC _),bJ9];rfl
theorem CG{d:Doc}(h:fM d≠[]) (rows:List Row):dP (CF d rows)=rows:=by
 unfold dP CF;dsimp only
 have h:d.2.2.2.2.2.2.1≠[]:=h
 rw[Go.W.mS _ _ _ h]
theorem KE{d:Doc}(h:fM d≠[]) (rows:List Row):fM (CF d rows)≠[]:=YH h _
theorem aRT{row:Row}(h:row≠[]) (t:Ln) (s:Sty×Ln):tot (bJ row (t,s))≤tot row+t.length:=by
 obtain⟨r,u,rfl⟩:∃r u,row=r++[u]:=by
  rcases List.eq_nil_or_concat row with k|⟨r,u,k⟩
  ·exact absurd k h
  ·exact⟨r,u,by rw[k,List.concat_eq_append]⟩
 rw[tS,FD,FD];simp only[tot];omega
theorem aO1{l:List Nd}{i:Nat}(hi:i<l.length):bkL wtN (l.take (i+1))=bkL wtN (l.take i)+wtN l[i]:=by
 rw[bHA hi];generalize l.take i=a
 induction a with
 |nil=>simp[bkL]
 |cons x a ih=>simp only[bI5,bkL,ih]; omega
def smR(W:Nat) (r:Row):Prop:=(∀u∈r,u.1.length≤1090000∧u.2.2.length≤1090000)∧tot r≤W
theorem CH{W:Nat}{d:Doc}(he:fM d≠[]){rows:List Row}(h1:∀x∈fM d,∀r∈x.2.2.2.2.2,smR W r) (h2:∀r∈rows,smR W r):∀x∈fM (CF d rows),∀r∈x.2.2.2.2.2,smR W r:=by
 intro x hx r hr
 have hx:x∈bJ (fM d) _:=hx
 rcases FN hx with hx|hx
 ·exact h1 x hx r hr
 ·subst hx; exact h2 r hr
theorem AA{W:Nat}{d:Doc}(he:fM d≠[]) (h1:∀x∈fM d,∀r∈x.2.2.2.2.2,smR W r):∀r∈dP d,smR W r:=fun r hr=>h1 _ (zZ he evY) r hr
theorem KF{l:List Nd}(hs:∀n∈l,smN n){i:Nat}(hi:i<l.length){op:List Ln}{d:Doc}(hI:Inv l i op d) (hx:Nx i op d l[i]):Inv l (i+1) (op.take (dep l[i]).toNat++[l[i].1]) (eT d l[i]).2:=by
 have hn:=hs _ (bJE hi)
 have hW:=aO1 hi
 have hwt:l[i].2.1.length+1≤wtN l[i]:=by unfold wtN; omega
 have gi:l.getD i ndz=l[i]:=gD hi
 have h1:=hI.rg
 have h2:=hI.ev
 have h3:=hI.rw
 have h4:=hI.rn
 have hsm:∀x∈fM d,∀r∈x.2.2.2.2.2,smR (bkL wtN (l.take (i+1))) r:=fun x hx r hr=>⟨(hI.small x hx r hr).1,by have:=(hI.small x hx r hr).2; omega⟩
 have path:∀k:Nat,dep l[i]=(k:Int)→k≤op.length→(∀q,q<(op.take k++[l[i].1]).length→∃j,j<i+1∧dep (l.getD j ndz)=(q:Int)∧(l.getD j ndz).1=(op.take k++[l[i].1]).getD q []∧∀m,j<m→m<i+1→(q:Int)<dep (l.getD m ndz))∧((op.take k++[l[i].1]).length:Int)=dep (l.getD i ndz)+1:=by
  intro k hk hko
  have hlt:(op.take k).length=k:=by rw[bI6]; omega
  refine⟨fun q hq=>?_,by rw[gi,hk,bIM,hlt]; simp⟩;rw[bIM,hlt] at hq;simp only[bI3,bJL] at hq
  by_cases e:q=k
  ·subst e;refine⟨i,by omega,by rw[gi,hk],?_,fun m h1 h2=>by omega⟩;rw[gi,bHG,bHH (by omega),hlt,bJ9];rfl
  ·obtain⟨j,j1,j2,j3,j4⟩:=hI.path q (by omega);refine⟨j,by omega,j2,?_,fun m m1 m2=>?_⟩
   ·rw[j3,bHG,bHG,bHJ (by omega),List.getElem?_take_of_lt (by omega)]
   ·by_cases e2:m=i
    ·subst e2; rw[gi,hk]; omega
    ·exact j4 m m1 (by omega)
 have tl:∀k:Nat,∀z:List Ln,z.length=k→op.take k=z→k≤op.length:=by
  intro k z hz ho
  have:=congrArg List.length ho
  rw[bI6,hz] at this;omega
 cases hx with
 |tt h0 hk ho hn1 he =>
  have e:(dep l[i]).toNat=0:=by rw[hk]; rfl
  rw[e];obtain⟨p1,p2⟩:=path 0 (by rw[hk]; rfl) (bKD _)
  have ea:(eT d l[i]).2=(KC d l[i]).2:=by unfold eT; rw[if_pos hn1]
  have ee:fM (KC d l[i]).2=[]:=he
  have er:dP (KC d l[i]).2=dP d:=rfl
  rw[ea];refine⟨Or.inr (Or.inl ⟨by rw[hn1]; simp,ee⟩),fun k=>by omega,fun _=>by rw[bIU]; exact p2,p1,?_,?_,?_,?_,?_,?_,hI.cm⟩
  ·exact bI2 h1
  ·rw[ee]; exact bKD _
  ·rw[er]; omega
  ·exact bI2 h4
  ·exact pU hn _
  ·intro x hx; rw[ee] at hx; cases hx
 |p hk ho hn1 =>
  have e:(dep l[i]).toNat=1:=by rw[hk]; rfl
  rw[e];obtain⟨p1,p2⟩:=path 1 (by rw[hk]; rfl) (tl 1 _ rfl ho)
  have ea:(eT d l[i]).2=(CX d l[i]).2:=by unfold eT; rw[if_neg (by rw[hn1]; decide),if_neg (by rw[hn1]; decide),if_pos hn1]
  have ee:fM (CX d l[i]).2=fM d++[evT l[i]]:=rfl
  have er:dP (CX d l[i]).2=[]:=by
   show(aI (fM d++[evT l[i]]) evY).2.2.2.2.2=[];rw[KD]; rfl
  rw[ea];refine⟨Or.inr (Or.inr (Or.inr (Or.inl ⟨by rw[ho,hn1]; rfl,by rw[ee]; exact aDK _ _⟩))),fun k=>by omega,fun _=>by rw[bIU]; exact p2,p1,?_,?_,?_,?_,?_,?_,hI.cm⟩
  ·exact bI2 h1
  ·rw[ee,bIM]; simp only[bI3,bJL]; omega
  ·rw[er]; exact bKD _
  ·unfold jD; rw[er]; exact bKD _
  ·exact hI.ti
  ·intro x hx r hr;rw[ee,bJG,bIS] at hx;rcases hx with hx|rfl
   ·exact hsm x hx r hr
   ·cases hr
 |rg hk ho hn1 he =>
  have e:(dep l[i]).toNat=1:=by rw[hk]; rfl
  rw[e];obtain⟨p1,p2⟩:=path 1 (by rw[hk]; rfl) (tl 1 _ rfl ho)
  have ea:(eT d l[i]).2=(NQ d l[i]).2:=by unfold eT; rw[if_neg (by rw[hn1]; decide),if_pos hn1]
  have ee:fM (NQ d l[i]).2=[]:=he
  rw[ea];refine⟨Or.inr (Or.inr (Or.inl ⟨by rw[ho,hn1]; rfl,ee⟩)),fun k=>by omega,fun _=>by rw[bIU]; exact p2,p1,?_,?_,?_,?_,?_,?_,hI.cm⟩
  ·show(d.2.2.2.2.2.1++[bGT l[i]]).length≤i+1;rw[bIM]; simp only[bI3,bJL]; omega
  ·rw[ee]; exact bKD _
  ·exact bI2 h3
  ·exact bI2 h4
  ·exact hI.ti
  ·intro x hx; rw[ee] at hx; cases hx
 |row hk ho hn1 he =>
  have e:(dep l[i]).toNat=2:=by rw[hk]; rfl
  rw[e];obtain⟨p1,p2⟩:=path 2 (by rw[hk]; rfl) (tl 2 _ rfl ho)
  have ea:(eT d l[i]).2=CF d (dP d++[[]]):=by unfold eT; rw[if_neg (by rw[hn1]; decide),if_neg (by rw[hn1]; decide),if_neg (by rw[hn1]; decide),if_pos hn1]
  have er:=CG he (dP d++[[]])
  rw[ea];refine⟨Or.inr (Or.inr (Or.inr (Or.inr (Or.inl ⟨by rw[ho,hn1]; rfl,KE he _,by rw[er]; exact aDK _ _⟩)))),fun k=>by omega,fun _=>by rw[bIU]; exact p2,p1,?_,?_,?_,?_,?_,?_,hI.cm⟩
  ·exact bI2 h1
  ·show(bJ (fM d) _).length≤_; rw[qW]; omega
  ·rw[er,bIM]; simp only[bI3,bJL]; omega
  ·unfold jD; rw[er,KD]; exact bKD _
  ·exact hI.ti
  ·refine CH he hsm fun r hr=>?_
   rw[bJG,bIS] at hr;rcases hr with hr|rfl
   ·exact AA he hsm r hr
   ·exact⟨(fun u hu=>by cases hu),bKD _⟩
 |run hk ho hn1 he hr =>
  have e:(dep l[i]).toNat=3:=by rw[hk]; rfl
  rw[e];obtain⟨p1,p2⟩:=path 3 (by rw[hk]; rfl) (tl 3 _ rfl ho)
  have ea:(eT d l[i]).2=CF d (bJ (dP d) (jD d++[aDJ l[i]])):=by unfold eT; rw[if_neg (by rw[hn1]; decide),if_neg (by rw[hn1]; decide),if_neg (by rw[hn1]; decide),if_neg (by rw[hn1]; decide),if_pos hn1]; rfl
  have er:=CG he (bJ (dP d) (jD d++[aDJ l[i]]))
  have el:jD (CF d (bJ (dP d) (jD d++[aDJ l[i]])))=jD d++[aDJ l[i]]:=by
   show aI (dP _) []=_;rw[er,Go.W.mS _ _ _ hr]
  rw[ea];refine⟨Or.inr (Or.inr (Or.inr (Or.inr (Or.inr (Or.inl ⟨by rw[ho,hn1]; rfl,KE he _,by rw[er]; exact YH hr _,by rw[el]; exact aDK _ _,by rw[el,KD]; rfl⟩))))),fun k=>by omega,fun _=>by rw[bIU]; exact p2,p1,?_,?_,?_,?_,?_,?_,hI.cm⟩
  ·exact bI2 h1
  ·show(bJ (fM d) _).length≤_; rw[qW]; omega
  ·rw[er,qW]; omega
  ·rw[el,bIM]; simp only[bI3,bJL]; omega
  ·exact hI.ti
  ·refine CH he hsm fun r hr2=>?_
   rcases FN hr2 with hr2|hr2
   ·exact AA he hsm r hr2
   ·subst hr2
    have ho':smR (bkL wtN (l.take (i+1))) (jD d):=AA he hsm _ (zZ hr [])
    refine⟨fun u hu=>?_,?_⟩
    ·rw[bJG,bIS] at hu;rcases hu with hu|rfl
     ·exact ho'.1 u hu
     ·exact⟨bKD _,pU hn _⟩
    ·rw[FD]
     have:tot [aDJ l[i]]=0:=rfl
     rw[this];exact ho'.2
 |tx hk ho hn1 he hr hu ht =>
  have e:(dep l[i]).toNat=4:=by rw[hk]; rfl
  rw[e];obtain⟨p1,p2⟩:=path 4 (by rw[hk]; rfl) (by rw[ho]; simp)
  have ea:(eT d l[i]).2=CF d (bJ (dP d) (bJ (jD d) (l[i].2.1,(aI (jD d) runZ).2))):=by unfold eT; rw[if_neg (by rw[hn1]; decide),if_neg (by rw[hn1]; decide),if_neg (by rw[hn1]; decide),if_neg (by rw[hn1]; decide),if_neg (by rw[hn1]; decide)]; rfl
  have er:=CG he (bJ (dP d) (bJ (jD d) (l[i].2.1,(aI (jD d) runZ).2)))
  have el:jD (CF d (bJ (dP d) (bJ (jD d) (l[i].2.1,(aI (jD d) runZ).2))))=bJ (jD d) (l[i].2.1,(aI (jD d) runZ).2):=by
   show aI (dP _) []=_;rw[er,Go.W.mS _ _ _ hr]
  rw[ea];refine⟨Or.inr (Or.inr (Or.inr (Or.inr (Or.inr (Or.inr ⟨by rw[ho,hn1]; rfl,KE he _,by rw[er]; exact YH hr _,by rw[el]; exact YH hu _⟩))))),fun k=>by omega,fun _=>by rw[bIU]; exact p2,p1,?_,?_,?_,?_,?_,?_,hI.cm⟩
  ·exact bI2 h1
  ·show(bJ (fM d) _).length≤_; rw[qW]; omega
  ·rw[er,qW]; omega
  ·rw[el,qW]; omega
  ·exact hI.ti
  ·refine CH he hsm fun r hr2=>?_
   rcases FN hr2 with hr2|hr2
   ·exact AA he hsm r hr2
   ·subst hr2
    have hmem:jD d∈dP d:=zZ hr []
    have ho':=hI.small _ (zZ he evY) _ hmem
    refine⟨fun u hu2=>?_,?_⟩
    ·rcases FN hu2 with hu2|rfl
     ·exact ho'.1 u hu2
     ·exact⟨hn.tx,(ho'.1 _ (zZ hu runZ)).2⟩
    ·have:=aRT hu l[i].2.1 (aI (jD d) runZ).2
     have h5:=ho'.2
     omega
theorem NR{l:List Nd}{i:Nat}{op:List Ln}{d:Doc}(hI:Inv l i op d) (hi:i≤4000000) (hb:bkL wtN (l.take i)≤4000000):WR d:=by
 have h1:=hI.rg
 have h2:=hI.ti
 refine⟨by omega,by omega,fun x hx r hr=>?_,fun c hc=>by rw[hI.cm] at hc; cases hc⟩
 have h:=hI.small x hx r hr
 exact⟨fun u hu=>by have:=h.1 u hu; omega,by have:=h.2; omega⟩
theorem aO2(N:Nat) (n:Nd) (q:Ln) (b:Bool):q91 N (n,q,b)=some (DK n q b):=by
 unfold q91 DK;dsimp only
 by_cases h1:q=[]
 ·rw[aD (sq h1),if_pos h1]
  by_cases h:n.1=[116,116]
  ·rw[sq h,decide_eq_true h]
  ·rw[sqf h,decide_eq_false h]
 rw[aC (sqf h1),if_neg h1]
 by_cases h2:q=[116,116]
 ·rw[aD (sq h2),if_pos h2]
  by_cases c1:n.1=[112]
  ·rw[aD (sq c1),if_pos c1]
  ·rw[aC (sqf c1),if_neg c1]
   by_cases c2:n.1=[114,101,103,105,111,110]
   ·rw[aD (sq c2),if_pos c2]
   ·rw[aC (sqf c2),if_neg c2]
 rw[aC (sqf h2),if_neg h2]
 by_cases h3:q=[112]
 ·rw[aD (sq h3),if_pos h3]
  by_cases h:n.1=[114,111,119]
  ·rw[sq h,decide_eq_true h]
  ·rw[sqf h,decide_eq_false h]
 rw[aC (sqf h3),if_neg h3]
 by_cases h4:q=[114,111,119]
 ·rw[aD (sq h4),if_pos h4]
  by_cases h:n.1=[114,117,110]
  ·rw[sq h,decide_eq_true h]
  ·rw[sqf h,decide_eq_false h]
 rw[aC (sqf h4),if_neg h4]
 by_cases h5:q=[114,117,110]
 ·rw[aD (sq h5),if_pos h5]
  by_cases h:n.1=[]
  ·rw[sq h,decide_eq_true h]
  ·rw[sqf h,decide_eq_false h]
 rw[aC (sqf h5),if_neg h5]
theorem aRU(a b:Int):ieq a b=decide (a=b):=by
 by_cases h:a=b
 ·rw[cB h,decide_eq_true h]
 ·rw[bS h,decide_eq_false h]
theorem aZ9(d:Doc):ieq (len d.2.2.2.2.2.2.1) 0=noE d:=by
 rw[aRU];unfold noE;rw[bJQ,decide_eq_true_eq,decide_eq_true_eq];simp only[len];omega
theorem aDL{l:List Nd}(hs:∀n∈l,smN n) (hb:bkL wtN l≤4000000):aG8 fuelH l=some (lX l):=by
 have hfu:=aZ
 have hl:l.length≤4000000:=bJ3 (aCT (f:=wtN) (fun n=>by unfold wtN; omega) l) hb
 unfold aG8 lX;rw[cC (aN5 hl hs)]
 by_cases hc:tL l=0
 ·have hck:=(xI hc).2.2
  have h8:=(xI hc).2.1
  have hd:=FI hck
  rw[aC (bW hc),if_neg (by simpa using hc)];simp only[CD,CC];rw[bF]
  have h:=bT (R:=Doc×Int×Int) (s:=l) (F:=fun v4 (v5:(List Ln)×Int×Doc) =>
   cnd (ilt v5.2.1 (len l))
    (grd (inb v5.2.1 (len l))
     (grd (in2 (aA l (toN v5.2.1) zN).2.2.2 (ofN (gE v5.1)))
      (jn (fun (v6:Ln) =>
       bnd (q91 fuelH (aA l (toN v5.2.1) zN,v6,ieq (len v5.2.2.2.2.2.2.2.2.1) (0:Int))) fun v7 =>
       cnd (bA v7)
        (some ((([]:Ln),([]:Ln),(0:UInt8),false,(0:Int),([]:List Reg),([]:List Ev),([]:List Cmt)),v5.2.1,(4:Int)))
        (bnd (q94 fuelH (aA l (toN v5.2.1) zN)) fun v8 =>
        cnd (bA v8)
         (some ((([]:Ln),([]:Ln),(0:UInt8),false,(0:Int),([]:List Reg),([]:List Ev),([]:List Cmt)),v5.2.1,(4:Int)))
         (bnd (nK fuelH (v5.2.2,aA l (toN v5.2.1) zN)) fun v9 =>
         cnd (ine v9.1 (0:Int))
          (some ((([]:Ln),([]:Ln),(0:UInt8),false,(0:Int),([]:List Reg),([]:List Ev),([]:List Cmt)),v5.2.1,v9.1))
          (grd (cL (aE (ofN (toN (aA l (toN v5.2.1) zN).2.2.2)) (len ([(aA l (toN v5.2.1) zN).1]:List Ln))) 16)
           (v4 (bL (aW (toN (aA l (toN v5.2.1) zN).2.2.2) v5.1) ([(aA l (toN v5.2.1) zN).1]:List Ln),w64 (aE v5.2.1 (1:Int)),v9.2))))))
      fun v10 =>
      cnd (ilt (0:Int) (aA l (toN v5.2.1) zN).2.2.2)
       (grd (inb (w64 (aH (aA l (toN v5.2.1) zN).2.2.2 (1:Int))) (ofN (toN (aA l (toN v5.2.1) zN).2.2.2)))
        (v10 (aA v5.1 (nR 0 (toN (w64 (aH (aA l (toN v5.2.1) zN).2.2.2 (1:Int))))) [])))
       (v10 ([]:Ln)))))
    (bnd (q48 fuelH v5.2.2) fun v2 =>
     cnd (ine v2 (0:Int))
      (some ((([]:Ln),([]:Ln),(0:UInt8),false,(0:Int),([]:List Reg),([]:List Ev),([]:List Cmt)),(0:Int),v2))
      (some (v5.2.2,(0:Int),(0:Int)))))
   (fun (a:List Ln×Doc) (j:Nat)=>(a.1,(j:Int),a.2)) (fun a r=>some (goS (l.length-r.length) a.1 a.2 r)) (fun j a=>Inv l j a.1 a.2) ?_ fuelH 0 ([],lW) (by omega) (bKD _) (aZ8 l)
  ·refine bKF h ?_;rw[bJS,bJ9]
  ·intro self a j hj hI hself
   by_cases hjl:j<l.length
   ·have hin:inb (j:Int) (len l)=true:=aS (by simp only[len]; omega)
    have hw:w64 (aE (j:Int) 1)=((j+1:Nat):Int):=aO hjl (by omega)
    have hn:=hs _ (bJE hjl)
    have hu:=aF0 (hck j hjl)
    have hdep:=FM hd hjl hI
    have hdle:0≤dep l[j]∧dep l[j]≤(a.1.length:Int)∧dep l[j]≤15:=by
     have:=hd.high j hjl
     rcases hdep with⟨_,k⟩|⟨_,k1,k2,_⟩
     ·omega
     ·omega
    dsimp only;rw[aD (aP (by simp only[len]; omega)),aF hin,kD hjl,hw]
    have hdd:l[j].2.2.2=dep l[j]:=rfl
    rw[hdd]
    have hon:ofN (gE a.1)=(a.1.length:Int):=rfl
    rw[hon,aF (dG (by omega)),bHK hjl]
    have e1:l.length-(l[j]::l.drop (j+1)).length=j:=by rw[bI3,bI7]; omega
    rw[e1];unfold goS
    have hofN:ofN (toN (dep l[j]))=dep l[j]:=by simp[ofN,toN]; omega
    have par:∀k:Ln→Option (Doc×Int×Int),jn k (fun k=>cnd (ilt 0 (dep l[j])) (grd (inb (w64 (aH (dep l[j]) 1)) (ofN (toN (dep l[j])))) (k (aA a.1 (nR 0 (toN (w64 (aH (dep l[j]) 1)))) []))) (k []))=k (tT a.1 l[j]):=by
     intro k;rw[bF];unfold tT
     by_cases h0:0<dep l[j]
     ·have hw2:w64 (aH (dep l[j]) 1)=dep l[j] - 1:=by simp only[aH]; rw[bG (by omega)]
      rw[aD (aP h0),if_pos h0,hw2,hofN,aF (aS (by omega))];congr 1
      have e2:nR 0 (toN (dep l[j] - 1))=(dep l[j]).toNat-1:=by
       have:toN (dep l[j] - 1)=(dep l[j]).toNat-1:=by simp only[toN]; omega
       rw[this];show 0+_=_;omega
      rw[e2];rfl
     ·rw[aC (aQ h0),if_neg h0]
    rw[par];rw[aZ9,aO2,aB];unfold okN
    cases hf:DK l[j] (tT a.1 l[j]) (noE a.2) with
    |false=>rw[aD (by rfl),bJV,if_pos rfl]; rfl
    |true =>
     have hx:=aO0 hc hjl hI hf
     rw[aC (by rfl),KY hn hu,aB,bJ0]
     cases ha:KX l[j] with
     |false=>rw[aD (by rfl),if_pos rfl]; rfl
     |true =>
      rw[aC (by rfl),if_neg (by simp),aZ7 hn hu ha (aF1 (by omega) hI hx),aB]
      by_cases he:(eT a.2 l[j]).1=0
      ·have htk:toN (dep l[j])=(dep l[j]).toNat:=rfl
       rw[aC (bW he),if_neg (by simpa using he),hofN,aF (cU (by simp only[aE,len,bI3,bJL]; omega)),htk];refine(hself (a.1.take (dep l[j]).toNat++[l[j].1],(eT a.2 l[j]).2) (j+1) (by omega) (by omega) (KF hs hjl hI hx)).trans ?_
       have e3:l.length-(l.drop (j+1)).length=j+1:=by rw[bI7]; omega
       rw[e3]
      ·rw[aD (bX he),if_pos (by simpa using he)];rfl
   ·obtain rfl:j=l.length:=by omega
    have hsm:=NR hI hl (by rw[bJA]; exact hb)
    dsimp only;rw[aC (aQ (by simp only[len]; omega)),bJD,cC (JF hsm)];unfold goS aRR
    by_cases h:iB a.2=0
    ·rw[aC (bW h),if_neg (by simpa using h)]
    ·rw[aD (bX h),if_pos h];rfl
 ·rw[aD (bX hc),if_pos hc];rfl
theorem NS{R:Type}{l:List Nd}(hl:l.length≤4000000){K:Int}(C:Int→Option R){j:Nat}(hK:dep (l.getD j ndz)=K):∀(n m fuel:Nat),j+n=m→m<l.length→n<fuel→(∀q,j<q→q≤m→K<dep (l.getD q ndz)) →
  aY (fun v3 (v4:Int) =>
    grd (inb v4 (len l)) <|
    cnd (ine (aA l (toN v4) zN).2.2.2 K)
     (v3 (w64 (aH v4 (1:Int))))
     (C v4)) fuel (m:Int)=C (j:Int)
 | 0,m,fuel+1,h1,h2,_,_=>by
  obtain rfl:j=m:=by omega
  rw[eP,aF (aS (by simp only[len]; omega)),kD h2];rw[gD h2] at hK
  have:l[j].2.2.2=K:=hK
  rw[this,aC (bW rfl)]
 |n+1,m,fuel+1,h1,h2,h3,h4=>by
  have h5:=h4 m (by omega) (bKC _)
  rw[gD h2] at h5
  have h5:K<l[m].2.2.2:=h5
  have hw:w64 (aH (m:Int) 1)=((m-1:Nat):Int):=by simp only[aH]; rw[bG (by omega)]; omega
  rw[eP,aF (aS (by simp only[len]; omega)),kD h2,aD (bX (by omega)),hw];exact NS hl C hK n (m-1) fuel (by omega) (by omega) (by omega) fun q q1 q2=>h4 q q1 (by omega)
theorem aF2{l:List Nd}{i:Nat}{op:List Ln}{d:Doc}(hI:Inv l i op d) (h1:1≤i) (ho:1≤op.length):(l.getD (i-1) ndz).1=op.getD (op.length-1) []:=by
 obtain⟨j,j1,j2,j3,j4⟩:=hI.path (op.length-1) (by omega)
 have h1':=hI.one h1
 have:j=i-1:=by
  by_cases e:j=i-1
  ·exact e
  ·have:=j4 (i-1) (by omega) (by omega)
   omega
 rw[this] at j3;exact j3
def J0:List Ln:=[[116,116],[112],[114,111,119],[114,117,110],[]]
theorem aRV{l:List Nd}(hd:Deep l){i:Nat}(hi:i<l.length){op:List Ln}{d:Doc}(hI:Inv l i op d):dep l[i]≤4:=by
 rcases FM hd hi hI with⟨h0,hk⟩|⟨h1,k1,k2,k3⟩
 ·omega
 ·rcases hI.sh with⟨ho,_⟩|⟨ho,_⟩|⟨ho,_⟩|⟨ho,_⟩|⟨ho,_⟩|⟨ho,_⟩|⟨ho,_⟩
  all_goals first
   |(rw[ho] at k2; simp only[bI3,bJL] at k2; omega)
   |skip
  have hlast:=aF2 hI h1 (by rw[ho]; simp)
  rw[ho] at hlast k2 k3;simp only[bI3,bJL] at k2 k3
  by_cases e:dep l[i]=5
  ·exact absurd hlast (k3 (by omega))
  ·omega
theorem aDM{l:List Nd}(hc:tL l=0){i:Nat}(hi:i<l.length){op:List Ln}{d:Doc}(hI:Inv l i op d):aHH fuelH (l,(i:Int))=some (DK l[i] (tT op l[i]) (noE d)):=by
 have hfu:=aZ
 have h8:=(xI hc).2.1
 have hd:=FI (xI hc).2.2
 have h4:=aRV hd hi hI
 have hdd:l[i].2.2.2=dep l[i]:=rfl
 have nz:noE d=true↔fM d=[]:=⟨fun h=>bHR.1 (of_decide_eq_true h),fun h=>decide_eq_true (bHR.2 h)⟩
 have nzf:fM d≠[]→noE d=false:=fun h=>by
  cases e:noE d with
  |false=>rfl
  |true=>exact absurd (nz.1 e) h
 unfold aHH;dsimp only;rw[aF (aS (by simp only[len]; omega)),kD hi,hdd,bF,aC (aQ (by omega))];rcases FM hd hi hI with⟨h0,hk⟩|⟨h1,k1,k2,k3⟩
 ·subst h0
  have hp:tT op l[0]=[]:=by unfold tT; rw[if_neg (by omega)]
  rw[hp,hk,aF (by rfl)]
  have e0:aA ([[116,116],[112],[114,111,119],[114,117,110],[]]:List Ln) (toN (0:Int)) []=[116,116]:=rfl
  rw[e0]
  by_cases h:l[0].1=[116,116]
  ·rw[aC (by rw[h]; rfl),aD (by rfl),aD (by rw[h]; rfl)];show _=some (decide (l[0].1=[116,116]));rw[decide_eq_true h]
  ·rw[aD (by simpa [sne] using fun k=>h k.symm),aC (by rfl),aD (by rfl)];show _=some (decide (l[0].1=[116,116]));rw[decide_eq_false h]
 ·have hp:tT op l[i]=op.getD ((dep l[i]).toNat-1) []:=by unfold tT; rw[if_pos (by omega)]
  rw[hp]
  have hop:1≤op.length:=by omega
  have hone:=hI.one h1
  by_cases hk1:dep l[i]=1
  ·have hq:op.getD ((dep l[i]).toNat-1) []=[116,116]:=by
    rw[hk1];rcases hI.sh with⟨ho,_⟩|⟨ho,_⟩|⟨ho,_⟩|⟨ho,_⟩|⟨ho,_⟩|⟨ho,_⟩|⟨ho,_⟩<;>rw[ho] at hop ⊢<;>first|rfl|(simp at hop)
   rw[hq,hk1,aF (by rfl)]
   have e0:aA ([[116,116],[112],[114,111,119],[114,117,110],[]]:List Ln) (toN (1:Int)) []=[112]:=rfl
   rw[e0];show _=some (if l[i].1=[112] then true else if l[i].1=[114,101,103,105,111,110] then noE d else false)
   by_cases c1:l[i].1=[112]
   ·rw[if_pos c1,aC (by rw[c1]; rfl),aD (by rfl),aD (by rw[c1]; rfl)]
   ·rw[if_neg c1,aD (by simpa [sne] using fun k=>c1 k.symm),aD (by rfl)]
    by_cases c2:l[i].1=[114,101,103,105,111,110]
    ·rw[if_pos c2,aC (by rw[c2]; rfl),aD (by rfl),aC (by rw[c2]; rfl)]
     have hlast:=aF2 hI h1 hop
     have gl:aA l (toN (w64 (aH (i:Int) 1))) zN=l.getD (i-1) ndz:=by
      have hw:w64 (aH (i:Int) 1)=((i-1:Nat):Int):=by simp only[aH]; rw[bG (by omega)]; omega
      rw[hw,kD (by omega),gD (by omega)]
     have hin:inb (w64 (aH (i:Int) 1)) (len l)=true:=by
      have hw:w64 (aH (i:Int) 1)=((i-1:Nat):Int):=by simp only[aH]; rw[bG (by omega)]; omega
      rw[hw];exact aS (by simp only[len]; omega)
     have not1:op.length≠1→¬(i:Int)=1:=by
      intro hne h
      have:i=1:=by omega
      subst this
      have e:l.getD (1-1) ndz=l[0]:=gD (by omega)
      rw[e,hd.root (by omega)] at hone;omega
     rcases hI.sh with⟨ho,he⟩|⟨ho,he⟩|⟨ho,he⟩|⟨ho,he⟩|⟨ho,he,_⟩|⟨ho,he,_⟩|⟨ho,he,_⟩
     ·rw[ho] at hop; simp at hop
     ·
      have:i=1:=by
       by_cases e:i=1
       ·exact e
       ·have h2:=hd.low (i-2) (by omega)
        have e2:l.getD (i-1) ndz=l[i-2+1]'(by omega):=by rw[gD (by omega)]; congr 1; omega
        rw[e2,ho] at hone;simp only[bI3,bJL] at hone;omega
      rw[aD (cB (by omega)),nz.2 he]
     ·rw[aC (bS (not1 (by rw[ho]; simp))),aF hin,gl,hlast,ho,nz.2 he];rfl
     ·rw[aC (bS (not1 (by rw[ho]; simp))),aF hin,gl,hlast,ho,nzf he];rfl
     ·rw[aC (bS (not1 (by rw[ho]; simp))),aF hin,gl,hlast,ho,nzf he];rfl
     ·rw[aC (bS (not1 (by rw[ho]; simp))),aF hin,gl,hlast,ho,nzf he];rfl
     ·rw[aC (bS (not1 (by rw[ho]; simp))),aF hin,gl,hlast,ho,nzf he];rfl
    ·rw[if_neg c2,aD (by rw[sqf c2]; rfl)]
  ·
   obtain⟨k,hk,hk2,hk4⟩:∃k:Nat,dep l[i]=(k:Int)∧2≤k∧k≤4:=⟨(dep l[i]).toNat,by omega,by omega,by omega⟩
   have htn:(dep l[i]).toNat=k:=by omega
   have hin:inb (dep l[i]) (len ([[116,116],[112],[114,111,119],[114,117,110],[]]:List Ln))=true:=aS (by simp only[len,bI3,bJL]; omega)
   have hget:aA ([[116,116],[112],[114,111,119],[114,117,110],[]]:List Ln) (toN (dep l[i])) []=J0.getD k []:=by
    have:toN (dep l[i])=k:=htn
    rw[this];rfl
   obtain⟨j,j1,j2,j3,j4⟩:=hI.path (k-1) (by omega)
   have hw:w64 (aH (dep l[i]) 1)=((k-1:Nat):Int):=by simp only[aH]; rw[bG (by omega)]; omega
   have hwi:w64 (aH (i:Int) 1)=((i-1:Nat):Int):=by simp only[aH]; rw[bG (by omega)]; omega
   have main:(some (seq (l.getD j ndz).1 (J0.getD (k-1) [])):Option Bool)=some (decide (op.getD (k-1) []=J0.getD (k-1) [])):=by
    rw[j3]
    by_cases h:op.getD (k-1) []=J0.getD (k-1) []
    ·rw[sq h,decide_eq_true h]
    ·rw[sqf h,decide_eq_false h]
   have fin:DK l[i] (op.getD (k-1) []) (noE d)=(decide (l[i].1=J0.getD k [])&&decide (op.getD (k-1) []=J0.getD (k-1) [])):=by
    have hkl:k≤op.length:=by omega
    have h234:k=2∨k=3∨k=4:=by omega
    rcases h234 with rfl|rfl|rfl<;>rcases hI.sh with⟨ho,_⟩|⟨ho,_⟩|⟨ho,_⟩|⟨ho,_⟩|⟨ho,_⟩|⟨ho,_⟩|⟨ho,_⟩<;>rw[ho] at hkl ⊢<;>first
     |(exfalso; simp only[bI3,bJL] at hkl; omega)
     |(show _=(decide _&&true); rw[Bool.and_true]; rfl)
     |(show _=(decide _&&false); rw[Bool.and_false]; rfl)
   have hval:(jn (fun (v1:Int) =>
     grd (inb v1 (len l)) <|
     grd (inb (w64 (aH (dep l[i]) (1:Int))) (len ([[116,116],[112],[114,111,119],[114,117,110],[]]:List Ln))) <|
     some (seq (aA l (toN v1) zN).1 (aA ([[116,116],[112],[114,111,119],[114,117,110],[]]:List Ln) (toN (w64 (aH (dep l[i]) (1:Int)))) [])))
    fun v2 =>
    aY (fun v3 (v4:Int) =>
     grd (inb v4 (len l)) <|
     cnd (ine (aA l (toN v4) zN).2.2.2 (w64 (aH (dep l[i]) (1:Int))))
      (v3 (w64 (aH v4 (1:Int))))
      (v2 v4)) fuelH (w64 (aH (i:Int) (1:Int))))=some (decide (op.getD (k-1) []=J0.getD (k-1) [])):=by
    rw[bF,hw,hwi,NS (by omega) _ j2 (i-1-j) (i-1) fuelH (by omega) (by omega) (by omega) fun q q1 q2=>j4 q q1 (by omega)];rw[aF (aS (by simp only[len]; omega)),aF (aS (by simp only[len,bI3,bJL]; omega)),kD (by omega),←main,gD (by omega)]
    have:toN ((k-1:Nat):Int)=k-1:=by simp[toN]
    rw[this];rfl
   rw[htn,fin,aF hin,hget]
   by_cases c:l[i].1=J0.getD k []
   ·rw[aC (by simpa [sne] using c.symm),decide_eq_true c,bJ0,aC (aQ (by omega))];exact hval
   ·rw[aD (by simpa [sne] using fun q=>c q.symm),decide_eq_false c,bJV,aC (bS hk1),aD (by rfl)]
theorem bAA(N:Nat):aL2 N ()=some ([]::gl0):=rfl
theorem bAB(N:Nat):aL4 N ()=some gl1:=rfl
theorem aRW{d:Doc}{n:Nd}(hs:smN n):aHJ fuelH ((n,0),d)=some ((n,(KC d n).1),(KC d n).2):=by
 have hMax:(1099511627776:Int)≤4611686018427387904:=by omega
 unfold aHJ;dsimp only;simp only[CD,CC];rw[iK hs,aB];dsimp only;rw[iK hs,aB];dsimp only;rw[iK hs,aB];dsimp only;rw[aOU,aB,qV,aB,YD hs,aB];dsimp only;rw[uT hs _ _ hMax,aB];rfl
theorem aJQ{d:Doc}{n:Nd}(hs:smN n) (hr:d.2.2.2.2.2.1.length≤1000000):aHK fuelH ((n,0),d)=some ((n,(NQ d n).1),(NQ d n).2):=by
 unfold aHK;dsimp only;simp only[CD,CC];rw[iK hs,aB];dsimp only;rw[uT hs _ _ (by omega),aB];dsimp only;rw[uT hs _ _ (by omega),aB];dsimp only;rw[uT hs _ _ (by omega),aB];dsimp only;rw[uT hs _ _ (by omega),aB];dsimp only;rw[bAA,aB,aF (by rfl)]
 have e:gG ([]::gl0) (toN (1:Int)) (KH (gE ([]::gl0)) (toN (1:Int)))=gl0:=rfl
 rw[e,YC hs _ (by decide),aB];dsimp only;rw[YC hs _ (by simp),aB];dsimp only;rw[aF (cU (by simp only[aE,len,bI3,bJL]; omega))];rfl
theorem aO3{d:Doc}{n:Nd}(hs:smN n) (hr:d.2.2.2.2.2.2.1.length≤1000000):aHM fuelH ((n,0),d)=some ((n,(CX d n).1),(CX d n).2):=by
 have hMax:(1099511627776:Int)≤4611686018427387904:=by omega
 unfold aHM;dsimp only;simp only[CD,CC];rw[uT hs _ _ hMax,aB];dsimp only;rw[aFW hs,aB];dsimp only;rw[aFW hs,aB];dsimp only;rw[iK hs,aB];dsimp only;rw[iK hs,aB];dsimp only;rw[aJN,aB,qV,aB,iK hs,aB];dsimp only;rw[aF (cU (by simp only[aE,len,bI3,bJL]; omega))]
 have:∀x:Ev,bL d.2.2.2.2.2.2.1 [x]=d.2.2.2.2.2.2.1++[x]:=fun _=>rfl
 rw[this,tS];rfl
theorem aO4{α:Type}{xs:List α}(h:xs≠[]):ieq (ofN (KH (gE xs) 1)) (aH (len xs) 1)=true:=by
 have h1:1≤xs.length:=by cases xs with|nil=>exact absurd rfl h|cons _ _=>simp
 refine cB ?_;show((xs.length-1:Nat):Int)=(xs.length:Int)-1;omega
theorem aRX{n:Nd}(hs:smN n){rows:List Row}(h:rows≠[]) (hl:(aI rows []).length≤1000000):aHN fuelH ((n,0),rows)=some ((n,fB (fB (aJL n).2 (flT n [105,116,97,108,105,99]).2) (flT n [117,110,100,101,114,108,105,110,101]).2),bJ rows (aI rows []++[aDJ n])):=by
 unfold aHN;rw[bAB,aB];dsimp only;rw[YC hs _ (by decide),aB];dsimp only;rw[YD hs,aB];dsimp only;rw[YD hs,aB];dsimp only;rw[iK hs,aB];dsimp only;rw[aF (aO4 h),aF (cU (by simp only[aE,len,bI3,bJL]; omega)),aF (aO4 h)];rfl
theorem aJR{l:List Nd}(hs:∀n∈l,smN n) (hb:bkL wtN l≤4000000):aHX fuelH l=some (lX l):=by
 have hfu:=aZ
 have hl:l.length≤4000000:=bJ3 (aCT (f:=wtN) (fun n=>by unfold wtN; omega) l) hb
 unfold aHX lX;rw[cC (aJD hl hs)]
 by_cases hc:tL l=0
 ·have hck:=(xI hc).2.2
  have h8:=(xI hc).2.1
  have hd:=FI hck
  rw[aC (bW hc),if_neg (by simpa using hc)];simp only[CD,CC];rw[bF];refine bKF (bT (R:=Doc×Int×Int) (s:=l)
   (fun (a:List Ln×Doc) (j:Nat)=>((j:Int),a.2)) (fun a r=>some (goS (l.length-r.length) a.1 a.2 r)) (fun j a=>Inv l j a.1 a.2) ?_ fuelH 0 ([],lW) (by omega) (bKD _) (aZ8 l)) ?_
  ·intro self a j hj hI hself
   by_cases hjl:j<l.length
   ·have hin:inb (j:Int) (len l)=true:=aS (by simp only[len]; omega)
    have hw:w64 (aE (j:Int) 1)=((j+1:Nat):Int):=aO hjl (by omega)
    have hn:=hs _ (bJE hjl)
    have hu:=aF0 (hck j hjl)
    dsimp only;rw[aD (aP (by simp only[len]; omega)),aF hin,kD hjl,hw,aDM hc hjl hI,aB,bHK hjl]
    have e1:l.length-(l[j]::l.drop (j+1)).length=j:=by rw[bI3,bI7]; omega
    rw[e1];unfold goS okN
    cases hf:DK l[j] (tT a.1 l[j]) (noE a.2) with
    |false=>rw[aD (by rfl),bJV,if_pos rfl]; rfl
    |true =>
     have hx:=aO0 hc hjl hI hf
     have hR:=aF1 (by omega) hI hx
     rw[aC (by rfl),aRP hn,aB,bJ0]
     cases ha:KX l[j] with
     |false=>rw[aD (by rfl),if_pos rfl]; rfl
     |true =>
      rw[aC (by rfl),if_neg (by simp)]
      have fin:(cnd (ine (eT a.2 l[j]).1 0) (some ((([]:Ln),([]:Ln),(0:UInt8),false,(0:Int),([]:List Reg),([]:List Ev),([]:List Cmt)),(j:Int),(eT a.2 l[j]).1)) (self (((j+1:Nat):Int),(eT a.2 l[j]).2)))=some (if(eT a.2 l[j]).1≠0 then(lW,(j:Int),(eT a.2 l[j]).1) else goS (j+1) (a.1.take (dep l[j]).toNat++[l[j].1]) (eT a.2 l[j]).2 (l.drop (j+1))):=by
       by_cases he:(eT a.2 l[j]).1=0
       ·rw[aC (bW he),if_neg (by simpa using he)];refine(hself (a.1.take (dep l[j]).toNat++[l[j].1],(eT a.2 l[j]).2) (j+1) (by omega) (by omega) (KF hs hjl hI hx)).trans ?_
        have e3:l.length-(l.drop (j+1)).length=j+1:=by rw[bI7]; omega
        rw[e3]
       ·rw[aD (bX he),if_pos (by simpa using he)];rfl
      rw[bF]
      by_cases c1:l[j].1=[116,116]
      ·have ea:eT a.2 l[j]=KC a.2 l[j]:=by unfold eT; rw[if_pos c1]
       rw[ea] at fin;rw[aD (sq c1),aRW hn,aB];rw[ea];exact fin
      rw[aC (sqf c1)]
      by_cases c2:l[j].1=[114,101,103,105,111,110]
      ·have ea:eT a.2 l[j]=NQ a.2 l[j]:=by unfold eT; rw[if_neg c1,if_pos c2]
       rw[ea] at fin;rw[aD (sq c2),aJQ hn hR.rg,aB];rw[ea];exact fin
      rw[aC (sqf c2)]
      by_cases c3:l[j].1=[112]
      ·have ea:eT a.2 l[j]=CX a.2 l[j]:=by unfold eT; rw[if_neg c1,if_neg c2,if_pos c3]
       rw[ea] at fin;rw[aD (sq c3),aO3 hn hR.ev,aB];rw[ea];exact fin
      rw[aC (sqf c3)];obtain⟨r1,r2⟩:=hR.row c1 c2 c3;obtain⟨g1,g2,g3,g4⟩:=CE r1 (by have:=hR.ev; omega)
      have hz:zE=evY:=rfl
      rw[hz]
      have hl1:(aI a.2.2.2.2.2.2.2.1 evY).2.2.2.2.2.length≤1000000:=r2
      by_cases c4:l[j].1=[114,111,119]
      ·have ea:eT a.2 l[j]=(0,CF a.2 (dP a.2++[[]])):=by unfold eT; rw[if_neg c1,if_neg c2,if_neg c3,if_pos c4]
       rw[ea] at fin;rw[aD (sq c4),aF g1,aF g2,aF g3,aF (cU (by simp only[aE,len,bI3,bJL]; omega)),aF g3]
       have:∀(l:List Row) (x:Row),bL l [x]=l++[x]:=fun _ _=>rfl
       rw[this,tS];rw[ea];exact fin
      rw[aC (sqf c4)];obtain⟨s1,s2⟩:=hR.run c1 c2 c3 c4
      have s1:(aI a.2.2.2.2.2.2.2.1 evY).2.2.2.2.2≠[]:=s1
      obtain⟨k1,k2,k3,k4⟩:=CE s1 (by omega)
      have hl2:(aI (aI a.2.2.2.2.2.2.2.1 evY).2.2.2.2.2 []).length≤1000000:=s2
      rw[aF g1,aF g2,aF g3,aF g3,aF k1,aF k2]
      by_cases c5:l[j].1=[114,117,110]
      ·have ea:eT a.2 l[j]=aS5 a.2 l[j]:=by unfold eT; rw[if_neg c1,if_neg c2,if_neg c3,if_neg c4,if_pos c5]
       rw[ea] at fin;rw[aD (sq c5),aF k3,aRX hn s1 hl2,aB];rw[ea];exact fin
      have ea:eT a.2 l[j]=aS6 a.2 l[j]:=by unfold eT; rw[if_neg c1,if_neg c2,if_neg c3,if_neg c4,if_neg c5]
      have t1:aI (aI a.2.2.2.2.2.2.2.1 evY).2.2.2.2.2 []≠[]:=hR.tx c1 c2 c3 c4 c5
      obtain⟨m1,m2,m3,m4⟩:=CE t1 (by omega)
      have htx:(aI (aI (aI a.2.2.2.2.2.2.2.1 evY).2.2.2.2.2 []) runZ).1=[]:=by
       cases hx with
       |tt _ _ _ hn1 _=>exact absurd hn1 c1
       |p _ _ hn1=>exact absurd hn1 c3
       |rg _ _ hn1 _=>exact absurd hn1 c2
       |row _ _ hn1 _=>exact absurd hn1 c4
       |run _ _ hn1 _ _=>exact absurd hn1 c5
       |tx _ _ _ _ _ _ ht=>exact ht
      rw[ea] at fin
      have hru:(zU:Run)=runZ:=rfl
      have htl:=hn.tx
      rw[aC (sqf c5),aF k3,aF k3,aF m1,m4,I8 t1,hru,htx,aF (oK (by simp only[aE,len,bJL]; omega)),aF m1,I9,ea];exact fin
   ·obtain rfl:j=l.length:=by omega
    have hsm:=NR hI hl (by rw[bJA]; exact hb)
    dsimp only;rw[aC (aQ (by simp only[len]; omega)),bJD,cC (aI2 hsm)];unfold goS aRR
    by_cases h:iB a.2=0
    ·rw[aC (bW h),if_neg (by simpa using h)]
    ·rw[aD (bX h),if_pos h];rfl
  ·rw[bJS,bJ9]
 ·rw[aD (bX hc),if_pos hc];rfl
theorem aO5{l:List Nd}(hs:∀n∈l,smN n) (hc:tL l=0):∀(k i:Nat) (op:List Ln) (d:Doc),i+k=l.length→Inv l i op d→ThinD (goS i op d (l.drop i)).1∧(goS i op d (l.drop i)).1.2.2.2.2.2.2.2=[]:=by
 have hno:ThinD lW∧lW.2.2.2.2.2.2.2=[]:=⟨⟨by simp[lW],by simp[lW],(fun x hx=>by cases hx),by simp[lW]⟩,rfl⟩
 intro k
 induction k with
 |zero =>
  intro i op d h hI
  have hi:i=l.length:=by omega
  rw[hi,bJD];unfold goS aRR
  by_cases h:iB d=0
  ·rw[if_neg (by simpa using h)];exact⟨aRH h (by rw[hI.cm]; simp),hI.cm⟩
  ·rw[if_pos h]; exact hno
 |succ k ih =>
  intro i op d h hI
  have hi:i<l.length:=by omega
  rw[bHK hi];unfold goS okN
  by_cases hf:DK l[i] (tT op l[i]) (noE d)=true
  ·have hx:=aO0 hc hi hI hf
   split
   ·exact hno
   split
   ·exact hno
   exact ih (i+1) _ _ (by omega) (KF hs hi hI hx)
  ·have hf:DK l[i] (tT op l[i]) (noE d)=false:=by simpa using hf
   rw[hf,bJV,if_pos rfl];exact hno
theorem aDN{l:List Nd}(hs:∀n∈l,smN n):ThinD (lX l).1∧(lX l).1.2.2.2.2.2.2.2=[]:=by
 unfold lX
 by_cases hc:tL l=0
 ·rw[if_neg (by simpa using hc)]
  have:=aO5 hs hc l.length 0 [] lW (by omega) (aZ8 l)
  rwa [bJS] at this
 ·rw[if_pos hc];exact⟨⟨by simp[lW],by simp[lW],(fun x hx=>by cases hx),by simp[lW]⟩,rfl⟩
theorem aO6(s:Y_):mU fuelH s=some (s.take 900):=by
 unfold mU;obtain⟨e1,e2⟩:=aM5 s 900
 have e1:aW (toN (mA (len s) (900:Int))) s=_:=e1
 rw[aF (show in2 (mA (len s) (900:Int)) (len s)=true from e2),e1]
theorem xJ{s:Ls}(hs:s.length≤262144):((nW s).2=[]∧tL (nW s).1=0∧bkL wtN (nW s).1≤10*s.length)∨(nW s).2.length=1:=by
 have hpp:nW s=aRA s (JS s.length p0 s):=by
  unfold nW;rw[if_neg (by omega)]
 cases hq:JS s.length p0 s with
 |mk l d =>
  rw[hpp,hq]
  cases d with
  |some y =>
   obtain⟨i,e⟩:=y;exact Or.inr rfl
  |none =>
   have hV:=JW (n:=s.length) _ s p0 0 (bKC _) (by omega) ⟨rfl,bKD _,fun _=>⟨rfl,rfl⟩,fun q hq=>(by cases hq),bKD _⟩ hq
   exact Or.inl ⟨rfl,hV.1,hV.2⟩
def YI(s:Ls):Doc×List (Int×Int×Int) :=
 if(nW s).2≠[] then(lW,(nW s).2) else if(lX (nW s).1).2.2≠0 then(lW,[(1,1,(lX (nW s).1).2.2)]) else((lX (nW s).1).1,[])
theorem aF3{α:Type}(l:List α):ilt 0 (len l)=decide (l≠[]):=by
 cases l with
 |nil=>rfl
 |cons x l=>rw[aP (by simp only[len,bI3]; omega),decide_eq_true (by simp)]
theorem aJS{s:Ls}(hs:s.length≤100000):aG9 fuelH s=some (YI s):=by
 unfold aG9 YI;rw[aOE (by omega),aB,aF3];rcases xJ (s:=s) (by omega) with⟨h,hc,hb⟩|h
 ·rw[h,aC (by rfl),if_neg (by simp),aDL (aN0 (by omega)) (by omega),aB]
  by_cases e:(lX (nW s).1).2.2=0
  ·rw[aC (bW e),if_neg (by simpa using e)]
  ·rw[aD (bX e),if_pos e];rfl
 ·have hne:(nW s).2≠[]:=fun k=>by rw[k] at h; cases h
  rw[aD (decide_eq_true hne),if_pos hne];rfl
theorem aDO{s:Ls}(hs:s.length≤100000):aHY fuelH s=some (YI s):=by
 unfold aHY YI;rw[aJH (by omega),aB,aF3];rcases xJ (s:=s) (by omega) with⟨h,hc,hb⟩|h
 ·rw[h,aC (by rfl),if_neg (by simp),aJR (aN0 (by omega)) (by omega),aB]
  by_cases e:(lX (nW s).1).2.2=0
  ·rw[aC (bW e),if_neg (by simpa using e)]
  ·rw[aD (bX e),if_pos e];rfl
 ·have hne:(nW s).2≠[]:=fun k=>by rw[k] at h; cases h
  rw[aD (decide_eq_true hne),if_pos hne];rfl
theorem aJT{s:Ls}(hs:s.length≤100000):ThinD (YI s).1∧(YI s).1.2.2.2.2.2.2.2=[]:=by
 have hno:ThinD lW∧lW.2.2.2.2.2.2.2=[]:=⟨⟨by simp[lW],by simp[lW],(fun x hx=>by cases hx),by simp[lW]⟩,rfl⟩
 unfold YI
 split
 ·exact hno
 rename_i h
 have h:(nW s).2=[]:=by simpa using h
 split
 ·exact hno
 rcases xJ (s:=s) (by omega) with⟨_,hc,hb⟩|k
 ·exact aDN (aN0 (by omega))
 ·rw[h] at k; cases k
theorem aJU{s:Ls}(hs:s.length≤100000):(YI s).2.length≤1:=by
 unfold YI
 split
 ·exact aOP s
 split
 ·exact bKC _
 ·exact bKD _
theorem KG(x:Ls):fI fuelH x=some true:=by
 have h:(x.take 900).length≤900:=by rw[bI6]; omega
 unfold fI;rw[aRI,aB,aC (by rfl),aO6,aB];generalize x.take 900=s at *
 have ht:=aJT (s:=s) (by omega)
 have hd:=aJU (s:=s) (by omega)
 rw[aJS (by omega),aB,aDO (by omega),aB,aJI ht.1 ht.2,aB,aD rfl,aOO (by omega)];rfl
end
end Go.Mo
end
