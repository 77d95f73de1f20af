/-
  Texts put together, in build order: TG TH TI TJ TK TL TM TN TO TP TQ TR TS TU TV TW TY TZ TAa TAb TAc TAd.
-/
import Derived.Test.YtpblmlldkpkomaaGreatDoorZlB
set_option linter.all false

section
set_option linter.all false
namespace Go.Mo
open Go Go.W Go.Lib
set_option maxRecDepth 100000
noncomputable section
def PT(n:Nd):List At:=n.2.2.1
def eY(n:Nd) (name:Ln):Ln:=(bU name (PT n)).1
def yP(n:Nd) (name:Ln):Bool:=(bU name (PT n)).2
theorem yQ{R:Type}(name:Ln) (f:Ln→R) (K:R):∀(i:Nat) (l:List At),fR (fun a:At=>seq a.1 name) (fun _ a=>f a.2) K i l=if(bU name l).2 then f (bU name l).1 else K
 |_,[]=>rfl
 |i,a::l=>by
  unfold fR bU;rw[yQ name f K (i+1) l]
  by_cases h:seq a.1 name=true
  ·rw[if_pos h];rw[dA] at h;rw[if_pos h];rfl
  ·have h2:¬a.1=name:=fun k=>h (by rw[dA]; exact k)
   rw[if_neg h,if_neg h2]
theorem FK(name:Ln):∀l:List At,(bU name l).2=false→(bU name l).1=[]
 | [],_=>rfl
 |a::l,h=>by
  unfold bU at h ⊢
  by_cases e:a.1=name
  ·rw[if_pos e] at h; cases h
  ·rw[if_neg e] at h ⊢; exact FK name l h
theorem yR{n:Nd}{name:Ln}(h:yP n name=false):eY n name=[]:=FK name _ h
theorem JD(name:Ln):∀l:List At,(bU name l).2=true→(name,(bU name l).1)∈l
 | [],h=>by cases h
 |a::l,h=>by
  unfold bU at h ⊢
  by_cases e:a.1=name
  ·rw[if_pos e] at h ⊢; subst e; exact aZ4
  ·rw[if_neg e] at h ⊢; exact aZL _ (JD name l h)
theorem yS(name:Ln):∀l:List At,(bU name l).2=true↔name∈l.map Prod.fst
 | []=>by simp[bU]
 |a::l=>by
  unfold bU
  by_cases e:a.1=name
  ·rw[if_pos e]; simp[e]
  ·rw[if_neg e,bBC,bBB,yS name l];exact⟨fun k=>Or.inr k,fun k=>k.resolve_left (fun q=>e q.symm)⟩
theorem wF{n:Nd}(hs:smN n) (name:Ln):(eY n name).length≤1090000:=by
 cases h:yP n name with
 |false=>rw[yR h]; simp
 |true=>exact(hs.an _ (JD name _ h)).2
theorem fB{n:Nd}(hs:smN n) (e:Int) (name:Ln):q95 fuelH ((n,e),name)=some (eY n name,n,e):=by
 have hl:=hs.asz
 have hfu:=bF
 unfold q95;dsimp only;rw[bT];refine(jN (l:=n.2.2.1) (fun i=>(i:Int)) (fun a:At=>seq a.1 name) (fun _ a=>some (a.2,n,e)) (some ([],n,e)) (by omega) (fun self i h=>?_) (fun self=>?_)).trans ?_
 ·have hin:inb (i:Int) (len n.2.2.1)=true:=aX (by simp only[len]; omega)
  rw[aD (aV (by simp only[len]; omega)),aF hin,bB h,aQ h (by omega)];cases seq n.2.2.1[i].1 name<;>rfl
 ·rw[aC (aW (by simp only[len]; omega))]
 ·rw[yQ name (fun v=>some (v,n,e))]
  by_cases h:(bU name n.2.2.1).2=true
  ·rw[if_pos h]; rfl
  ·rw[if_neg h]
   have:eY n name=[]:=yR (by simpa [yP,PT] using h)
   rw[this]
def iK(a b:Int):Int:=if a=0 then b else a
theorem pE(N:Nat) (n:Nd) (a b:Int):q98 N ((n,a),b)=some (n,iK a b):=by
 unfold q98 iK;dsimp only
 by_cases h:a=0
 ·rw[aD (dL h),if_pos h]
 ·rw[aC (cZ h),if_neg h]
def iL(n:Nd) (name:Ln) (hi:Int):Int×Int:=aDJ (eY n name) hi
theorem PU{n:Nd}(hs:smN n) (e:Int) (name:Ln){hi:Int}(hh:hi≤4611686018427387904):MH fuelH ((n,e),name,hi)=some ((iL n name hi).1,n,iK e (iL n name hi).2):=by
 have:=wF hs name
 unfold MH SP;dsimp only;rw[fB hs,aB];dsimp only;rw[VY (by omega) hh,aB]
 try dsimp only
 rw[pE];rfl
theorem wG{n:Nd}(hs:smN n) (e:Int) (name:Ln):MK fuelH ((n,e),name)=some ((iL n name 32).1,n,iK e (iL n name 32).2):=by
 unfold MK;dsimp only;rw[PU hs e name (by omega),aB]
def aLH(s:Ln):Int×Int:=if s.getLast?=some 102 then aDJ s.dropLast 5184000 else(0,4)
def uI(n:Nd) (name:Ln):Int×Int:=aLH (eY n name)
theorem aLI{s:Ln}(hs:s.length≤4000000):aB5 fuelH (s,[102])=some (if s.getLast?=some 102 then(s.dropLast,true) else(s,false)):=by
 unfold aB5 aFW aFV;dsimp only;rcases List.eq_nil_or_concat s with rfl|⟨t,c,rfl⟩
 ·rfl
 ·rw[List.concat_eq_append] at hs ⊢;rw[aZ0,bAH,bAZ] at hs
  have hl:len (t++[c])=((t.length+1:Nat):Int):=by simp[len]
  have h1:len [(102:UInt8)]=1:=rfl
  have hw:w64 (aI (len (t++[c])) (len [(102:UInt8)]))=(t.length:Int):=by
   rw[hl,h1];simp only[aI];rw[bS (by omega)];omega
  have hd:cJ (toN (t.length:Int)) (t++[c])=[c]:=by
   show(t++[c]).drop _=_
   have:toN (t.length:Int)=t.length:=by simp[toN]
   rw[this,List.drop_append_of_le_length (bBQ _),bAR];rfl
  have ht:bH (toN (t.length:Int)) (t++[c])=t:=by
   show(t++[c]).take _=_
   have:toN (t.length:Int)=t.length:=by simp[toN]
   rw[this,List.take_append_of_le_length (bBQ _),bAO]
  have hin:in2 (t.length:Int) (len (t++[c]))=true:=jG (by rw[hl]; omega)
  rw[aD (gP (by rw[hl,h1]; omega)),hw,aF hin,hd,aB,List.getLast?_concat,List.dropLast_concat]
  by_cases h:c=102
  ·subst h
   have:seq [(102:UInt8)] [102]=true:=by rw[dA]
   rw[this,aC (by rfl),aF hin,ht,aB,if_pos rfl]
  ·have:seq [c] [102]=false:=by rw[cC]; simpa using h
   rw[this,aD (by rfl),aB,if_neg (by simpa using h)]
theorem aAS{n:Nd}(hs:smN n) (e:Int) (name:Ln):M2 fuelH ((n,e),name)=some ((uI n name).1,n,iK e (uI n name).2):=by
 have hl:=wF hs name
 unfold M2 SP uI aLH;rw[fB hs,aB];dsimp only;rw[aLI (by omega),aB]
 by_cases h:(eY n name).getLast?=some 102
 ·rw[if_pos h,if_pos h,aC (by rfl)];dsimp only;rw[VY (by rw[aZN]; omega) (by omega),aB]
  try dsimp only
  rw[pE];rfl
 ·rw[if_neg h,if_neg h,aD (by rfl)];dsimp only;rw[pE];rfl
def aDK(tab:List Ln) (s:Ln):Option Nat:=fR (fun x:Ln=>seq x s) (fun i _=>some i) none 0 tab
theorem VZ{R:Type} (f:Nat→R) (K:R) (s:Ln):∀(k:Nat) (tab:List Ln),fR (fun x:Ln=>seq x s) (fun i _=>f i) K k tab=match(fR (fun x:Ln=>seq x s) (fun i _=>some i) none k tab:Option Nat) with|some i=>f i|none=>K
 |_,[]=>rfl
 |k,x::tab=>by
  unfold fR;rw[VZ f K s (k+1) tab]
  by_cases h:seq x s=true
  ·rw[if_pos h,if_pos h]
  ·rw[if_neg h,if_neg h]
def chT(tab:List Ln) (n:Nd) (name:Ln):Int×Int:=if yP n name=false then(0,0) else match aDK tab (eY n name) with|some i=>((i:Int),0)|none=>(0,4)
theorem Q5{n:Nd}(hs:smN n) (e:Int){name:Ln}{tab:List Ln}(ht:tab.length≤100) (hh:yP n name=true):EA fuelH ((n,e),name,tab)=some ((chT tab n name).1,n,iK e (chT tab n name).2):=by
 have hfu:=bF
 unfold EA chT;rw[if_neg (by rw[hh]; simp)];dsimp only;rw[fB hs,aB,bT,pE,aB];dsimp only;refine(jN (l:=tab) (fun i=>(i:Int)) (fun x:Ln=>seq x (eY n name)) (fun i _=>some ((i:Int),n,e)) (some (0,n,iK e 4)) (by omega) (fun self i h=>?_) (fun self=>?_)).trans ?_
 ·have hin:inb (i:Int) (len tab)=true:=aX (by simp only[len]; omega)
  rw[aD (aV (by simp only[len]; omega)),aF hin,bB h,aQ h (by omega)];cases seq tab[i] (eY n name)<;>rfl
 ·rw[aC (aW (by simp only[len]; omega))]
 ·rw[VZ (fun i=>some ((i:Int),n,e))]
  have:(fR (fun x:Ln=>seq x (eY n name)) (fun i _=>some i) none 0 tab:Option Nat)=aDK tab (eY n name):=rfl
  rw[this]
  cases aDK tab (eY n name) with
  |none=>rfl
  |some i=>unfold iK; by_cases h:e=0<;>simp[h]
def flT(n:Nd) (name:Ln):Bool×Int:=(ieq (chT [[48],[49]] n name).1 1,(chT [[48],[49]] n name).2)
theorem aAT(e:Int):iK e 0=e:=by unfold iK; by_cases h:e=0<;>simp[h]
def JE(n:Nd):Prop:=((PT n).map Prod.fst).Nodup
def flE(name:Ln):Int→List At→Int
 |e,[]=>e
 |e,a::r=>flE name (if a.1=name∧a.2≠[48]∧a.2≠[49] then iK e 4 else e) r
theorem aAU(name:Ln):∀(l:List At) (e:Int),name ∉ l.map Prod.fst→flE name e l=e
 | [],_,_=>rfl
 |a::l,e,h=>by
  simp only[bBC,bBB,not_or] at h;unfold flE;rw[if_neg (fun k=>h.1 k.1.symm)];exact aAU name l e h.2
theorem aH6(name:Ln):∀(l:List At) (e:Int),(l.map Prod.fst).Nodup→flE name e l=iK e (if(bU name l).2=true∧(bU name l).1≠[48]∧(bU name l).1≠[49] then 4 else 0)
 | [],e,_=>by simp[flE,bU,aAT]
 |a::l,e,h=>by
  rw[bBC,List.nodup_cons] at h;unfold flE bU
  by_cases ha:a.1=name
  ·subst ha;rw[aAU _ _ _ h.1,if_pos rfl]
   by_cases c:a.2≠[48]∧a.2≠[49]
   ·rw[if_pos ⟨rfl,c⟩,if_pos ⟨rfl,c⟩]
   ·rw[if_neg (fun k=>c k.2),if_neg (fun k=>c k.2),aAT]
  ·rw[if_neg (fun k=>ha k.1),if_neg ha];exact aH6 name l e h.2
theorem aXT(s:Ln):aDK [[48],[49]] s=if s=[48] then some 0 else if s=[49] then some 1 else none:=by
 unfold aDK fR fR fR
 by_cases h:s=[48]
 ·subst h; rfl
 ·rw[if_neg h]
  have h1:seq [48] s=false:=by rw[cC]; simpa using fun k=>h k.symm
  rw[if_neg (by rw[h1]; simp)]
  by_cases h2:s=[49]
  ·subst h2; rfl
  ·rw[if_neg h2]
   have h3:seq [49] s=false:=by rw[cC]; simpa using fun k=>h2 k.symm
   rw[if_neg (by rw[h3]; simp)]
theorem Q6{n:Nd}(hs:smN n) (hu:JE n) (e:Int) (name:Ln):q99 fuelH ((n,e),name)=some ((flT n name).1,n,iK e (flT n name).2):=by
 have hl:=hs.asz
 have hfu:=bF
 unfold q99;dsimp only;rw[bT]
 have h:=cW (R:=Bool×Nd×Int) (s:=n.2.2.1) (F:=fun v3 (v4:Int×Nd×Int) =>
   cnd (ilt v4.1 (len n.2.2.1))
    (grd (inb v4.1 (len n.2.2.1))
     (cnd (seq (aA n.2.2.1 (toN v4.1) ([],[])).1 name)
      (cnd (sne (aA n.2.2.1 (toN v4.1) ([],[])).2 ([48]:Y_))
       (cnd (sne (aA n.2.2.1 (toN v4.1) ([],[])).2 ([49]:Y_))
        (bnd (q98 fuelH (v4.2,(4:Int))) fun v5 =>
        v3 (w64 (aE v4.1 (1:Int)),v5))
        (v3 (w64 (aE v4.1 (1:Int)),v4.2)))
       (v3 (w64 (aE v4.1 (1:Int)),v4.2)))
      (v3 (w64 (aE v4.1 (1:Int)),v4.2))))
    (bnd (q95 fuelH (v4.2,name)) fun v1 =>
     some (seq v1.1 ([49]:Y_),v1.2)))
  (fun (e:Int) (j:Nat)=>((j:Int),n,e)) (fun e r=>some (seq (eY n name) [49],n,flE name e r)) (fun _ _=>True) ?_ fuelH 0 e (by omega) (bBR _) trivial
 ·refine bBT h ?_;rw[bA6,aH6 name n.2.2.1 e hu];unfold flT chT;rw[aXT]
  have hv:(bU name n.2.2.1).1=eY n name:=rfl
  have hh:(bU name n.2.2.1).2=yP n name:=rfl
  rw[hv,hh]
  cases c:yP n name with
  |false =>
   have:=yR c
   rw[this,if_neg (by simp),if_pos rfl];rfl
  |true =>
   rw[if_neg (show ¬(true=false) by simp)]
   by_cases c0:eY n name=[48]
   ·rw[if_pos c0,if_neg (fun k=>k.2.1 c0),c0]; rfl
   ·rw[if_neg c0]
    by_cases c1:eY n name=[49]
    ·rw[if_pos c1,if_neg (fun k=>k.2.2 c1),c1]; rfl
    ·rw[if_neg c1,if_pos ⟨rfl,c0,c1⟩]
     have:seq (eY n name) [49]=false:=by rw[cC]; simpa using c1
     rw[this]; rfl
 ·intro self a j hj _ hself
  by_cases hjl:j<n.2.2.1.length
  ·have hin:inb (j:Int) (len n.2.2.1)=true:=aX (by simp only[len]; omega)
   have hw:w64 (aE (j:Int) 1)=((j+1:Nat):Int):=aQ hjl (by omega)
   dsimp only;rw[aD (aV (by simp only[len]; omega)),aF hin,bB hjl,hw,aYY hjl];unfold flE
   have nx:=fun e'=>hself e' (j+1) (by omega) (by omega) trivial
   by_cases c:n.2.2.1[j].1=name
   ·rw[aD (by rw[dA]; exact c)]
    by_cases c0:n.2.2.1[j].2=[48]
    ·rw[aC (by simpa [sne] using c0),if_neg (fun k=>k.2.1 c0)];exact nx a
    ·rw[aD (by simpa [sne] using c0)]
     by_cases c1:n.2.2.1[j].2=[49]
     ·rw[aC (by simpa [sne] using c1),if_neg (fun k=>k.2.2 c1)];exact nx a
     ·rw[aD (by simpa [sne] using c1),if_pos ⟨c,c0,c1⟩,pE,aB];exact nx _
   ·rw[aC (by rw[cC]; simpa using c),if_neg (fun k=>c k.1)];exact nx a
  ·obtain rfl:j=n.2.2.1.length:=by omega
   dsimp only;rw[aC (aW (by simp only[len]; omega)),fB hs,aB,bAR];rfl
def Q7(n:Nd):UInt8×Int:=(b8 (chT gl1 n [99,111,108,111,114]).1,(chT gl1 n [99,111,108,111,114]).2)
theorem aLJ{n:Nd}(hs:smN n) (e:Int):aB7 fuelH (n,e)=some ((Q7 n).1,n,iK e (Q7 n).2):=by
 have hl:=hs.asz
 have hfu:=bF
 unfold aB7;dsimp only;rw[bT];refine(jN (l:=n.2.2.1) (fun i=>(i:Int)) (fun a:At=>seq a.1 [99,111,108,111,114]) (fun _ _=>bnd (EA fuelH ((n,e),[99,111,108,111,114],gl1)) fun v4=>some (b8 v4.1,v4.2)) (some ((0:UInt8),n,e)) (by omega) (fun self i h=>?_) (fun self=>?_)).trans ?_
 ·have hin:inb (i:Int) (len n.2.2.1)=true:=aX (by simp only[len]; omega)
  rw[aD (aV (by simp only[len]; omega)),aF hin,bB h,aQ h (by omega)];cases seq n.2.2.1[i].1 [99,111,108,111,114]<;>rfl
 ·rw[aC (aW (by simp only[len]; omega))]
 ·rw[yQ [99,111,108,111,114] (fun _=>bnd (EA fuelH ((n,e),[99,111,108,111,114],gl1)) fun v4=>some (b8 v4.1,v4.2))]
  have hh:(bU [99,111,108,111,114] n.2.2.1).2=yP n [99,111,108,111,114]:=rfl
  rw[hh];unfold Q7
  cases c:yP n [99,111,108,111,114] with
  |true =>
   rw[if_pos rfl,Q5 hs e (by decide) c,aB]
  |false =>
   unfold chT;rw[if_neg (by simp),c,if_pos rfl,aAT];rfl
def Q8(s:Ln):UInt8×Int:=fR (fun r:UInt8=>seq (oI r) s) (fun _ r=>(r,0)) (0,4) 0 [1,2,3,4,5,6,7]
def AH(s:Ln):UInt8×Int:=fR (fun k:Ln=>seq k s) (fun i _=>(b8 (w64 (aE (i:Int) 1)),0)) (0,4) 0 [[68,73,65,76,79,71,85,69],[83,79,85,78,68],[84,73,84,76,69],[77,85,83,73,67]]
theorem yT{α R:Type}(p:α→Bool) (f:Nat→α→R) (K:R):∀(i:Nat) (l:List α),fR p (fun i a=>some (f i a)) (some K) i l=some (fR p f K i l)
 |_,[]=>rfl
 |i,a::l=>by
  unfold fR;rw[yT p f K (i+1) l]
  by_cases h:p a=true
  ·rw[if_pos h,if_pos h]
  ·rw[if_neg h,if_neg h]
theorem aH7(s:Ln):q97 fuelH s=some (Q8 s):=by
 have hfu:=bF
 unfold q97;rw[bT]
 have hr:q96 fuelH ()=some [1,2,3,4,5,6,7]:=rfl
 rw[bN hr];unfold Q8;rw[←yT (fun r:UInt8=>seq (oI r) s) (fun _ r=>((r,0):UInt8×Int)) (0,4) 0];refine jN (l:=([1,2,3,4,5,6,7]:Y_)) (fun i=>(i:Int)) (fun r=>seq (oI r) s) (fun _ r=>some (r,0)) (some (0,4)) (by simp only[bAH,bAZ]; omega) (fun self i h=>?_) (fun self=>?_)
 ·have hin:inb (i:Int) (len ([1,2,3,4,5,6,7]:Y_))=true:=aX (by simp only[len]; omega)
  rw[aD (aV (by simp only[len]; omega)),aF hin,bB h,IR,aB,aQ h (by simp only[bAH,bAZ] at h ⊢; omega)];cases seq (oI ([1,2,3,4,5,6,7]:Y_)[i]) s<;>rfl
 ·rw[aC (aW (by simp only[len]; omega))]
theorem aH8(s:Ln):aB6 fuelH s=some (AH s):=by
 have hfu:=bF
 unfold aB6;rw[bT]
 have hr:q26 fuelH ()=some [[68,73,65,76,79,71,85,69],[83,79,85,78,68],[84,73,84,76,69],[77,85,83,73,67]]:=rfl
 rw[bN hr];unfold AH;rw[←yT (fun k:Ln=>seq k s) (fun i _=>((b8 (w64 (aE (i:Int) 1)),0):UInt8×Int)) (0,4) 0];refine jN (l:=([[68,73,65,76,79,71,85,69],[83,79,85,78,68],[84,73,84,76,69],[77,85,83,73,67]]:List Ln)) (fun i=>(i:Int)) (fun k=>seq k s) (fun i _=>some (b8 (w64 (aE (i:Int) 1)),0)) (some (0,4)) (by simp only[bAH,bAZ]; omega) (fun self i h=>?_) (fun self=>?_)
 ·have hin:inb (i:Int) (len ([[68,73,65,76,79,71,85,69],[83,79,85,78,68],[84,73,84,76,69],[77,85,83,73,67]]:List Ln))=true:=aX (by simp only[len]; omega)
  rw[aD (aV (by simp only[len]; omega)),aF hin,bB h,aQ h (by simp only[bAH,bAZ] at h ⊢; omega)];cases seq ([[68,73,65,76,79,71,85,69],[83,79,85,78,68],[84,73,84,76,69],[77,85,83,73,67]]:List Ln)[i] s<;>rfl
 ·rw[aC (aW (by simp only[len]; omega))]
def jO(n:Ln):List Ln:=if n=[116,116] then [[114,97,116,101],[108,97,115,116]] else if n=[114,101,103,105,111,110] then [[110,97,109,101],[116,111,112],[104,101,105,103,104,116],[108,101,102,116],[119,105,100,116,104],[97,108,105,103,110],[97,110,99,104,111,114]] else if n=[112] then [[105,100],[105,110],[111,117,116],[107,105,110,100]] else []
def rN(n:Ln):List Ln:=if n=[116,116] then [[116,105,116,108,101],[108,97,110,103],[100,114,111,112]] else if n=[114,101,103,105,111,110] then [] else if n=[112] then [[114,101,103,105,111,110],[115,112,101,97,107,101,114]] else if n=[114,117,110] then [[99,111,108,111,114],[105,116,97,108,105,99],[117,110,100,101,114,108,105,110,101],[114,117,98,121]] else []
def yU(n:Ln):List Ln:=if n=[116,116] then [[116,105,116,108,101],[108,97,110,103],[114,97,116,101],[100,114,111,112],[108,97,115,116]] else if n=[114,101,103,105,111,110] then [[110,97,109,101],[116,111,112],[104,101,105,103,104,116],[108,101,102,116],[119,105,100,116,104],[97,108,105,103,110],[97,110,99,104,111,114]] else if n=[112] then [[105,100],[105,110],[111,117,116],[114,101,103,105,111,110],[107,105,110,100],[115,112,101,97,107,101,114]] else if n=[114,117,110] then [[99,111,108,111,114],[105,116,97,108,105,99],[117,110,100,101,114,108,105,110,101],[114,117,98,121]] else []
theorem aXU{P:Ln→Prop}(h1:P [116,116]) (h2:P [114,101,103,105,111,110]) (h3:P [112]) (h4:P [114,117,110]) (h5:∀n,n≠[116,116]→n≠[114,101,103,105,111,110]→n≠[112]→n≠[114,117,110]→P n) (n:Ln):P n:=by
 by_cases c1:n=[116,116]
 ·rw[c1]; exact h1
 by_cases c2:n=[114,101,103,105,111,110]
 ·rw[c2]; exact h2
 by_cases c3:n=[112]
 ·rw[c3]; exact h3
 by_cases c4:n=[114,117,110]
 ·rw[c4]; exact h4
 exact h5 n c1 c2 c3 c4
theorem GE(N:Nat) (n:Ln):q92 N n=some (jO n,rN n):=by
 refine aXU (P:=fun n=>q92 N n=some (jO n,rN n)) rfl rfl rfl rfl (fun n c1 c2 c3 c4=>?_) n;unfold q92 jO rN;rw[aC (by rw[cC]; simpa using c1),aC (by rw[cC]; simpa using c2),aC (by rw[cC]; simpa using c3),aC (by rw[cC]; simpa using c4),if_neg c1,if_neg c2,if_neg c3,if_neg c1,if_neg c2,if_neg c3,if_neg c4]
theorem aAV(n:Ln):(∀w,w∈yU n↔w∈jO n∨w∈rN n)∧(jO n).Nodup∧(jO n).length≤7∧(rN n).length≤4∧(yU n).length≤7:=by
 refine aXU (P:=fun n=>(∀w,w∈yU n↔w∈jO n∨w∈rN n)∧(jO n).Nodup∧(jO n).length≤7∧(rN n).length≤4∧(yU n).length≤7) ?_ ?_ ?_ ?_ (fun n c1 c2 c3 c4=>?_) n
 ·refine⟨fun w=>?_,by decide,by decide,by decide,by decide⟩
  have e1:yU [116,116]=[[116,105,116,108,101],[108,97,110,103],[114,97,116,101],[100,114,111,112],[108,97,115,116]]:=rfl
  have e2:jO [116,116]=[[114,97,116,101],[108,97,115,116]]:=rfl
  have e3:rN [116,116]=[[116,105,116,108,101],[108,97,110,103],[100,114,111,112]]:=rfl
  rw[e1,e2,e3];simp only[bBB,List.not_mem_nil,or_false];constructor
  ·rintro(h|h|h|h|h)
   ·exact Or.inr (Or.inl h)
   ·exact Or.inr (Or.inr (Or.inl h))
   ·exact Or.inl (Or.inl h)
   ·exact Or.inr (Or.inr (Or.inr h))
   ·exact Or.inl (Or.inr h)
  ·rintro((h|h)|h|h|h)
   ·exact Or.inr (Or.inr (Or.inl h))
   ·exact Or.inr (Or.inr (Or.inr (Or.inr h)))
   ·exact Or.inl h
   ·exact Or.inr (Or.inl h)
   ·exact Or.inr (Or.inr (Or.inr (Or.inl h)))
 ·refine⟨fun w=>?_,by decide,by decide,by decide,by decide⟩
  have e3:rN [114,101,103,105,111,110]=[]:=rfl
  have e1:yU [114,101,103,105,111,110]=jO [114,101,103,105,111,110]:=rfl
  rw[e1,e3];simp
 ·refine⟨fun w=>?_,by decide,by decide,by decide,by decide⟩
  have e1:yU [112]=[[105,100],[105,110],[111,117,116],[114,101,103,105,111,110],[107,105,110,100],[115,112,101,97,107,101,114]]:=rfl
  have e2:jO [112]=[[105,100],[105,110],[111,117,116],[107,105,110,100]]:=rfl
  have e3:rN [112]=[[114,101,103,105,111,110],[115,112,101,97,107,101,114]]:=rfl
  rw[e1,e2,e3];simp only[bBB,List.not_mem_nil,or_false];constructor
  ·rintro(h|h|h|h|h|h)
   ·exact Or.inl (Or.inl h)
   ·exact Or.inl (Or.inr (Or.inl h))
   ·exact Or.inl (Or.inr (Or.inr (Or.inl h)))
   ·exact Or.inr (Or.inl h)
   ·exact Or.inl (Or.inr (Or.inr (Or.inr h)))
   ·exact Or.inr (Or.inr h)
  ·rintro((h|h|h|h)|h|h)
   ·exact Or.inl h
   ·exact Or.inr (Or.inl h)
   ·exact Or.inr (Or.inr (Or.inl h))
   ·exact Or.inr (Or.inr (Or.inr (Or.inr (Or.inl h))))
   ·exact Or.inr (Or.inr (Or.inr (Or.inl h)))
   ·exact Or.inr (Or.inr (Or.inr (Or.inr (Or.inr h))))
 ·refine⟨fun w=>?_,by decide,by decide,by decide,by decide⟩
  have e1:yU [114,117,110]=rN [114,117,110]:=rfl
  have e2:jO [114,117,110]=[]:=rfl
  rw[e1,e2];simp
 ·unfold jO rN yU;simp only[if_neg c1,if_neg c2,if_neg c3,if_neg c4];simp
def FL(n:Nd):Bool:=(PT n).all (fun a=>(yU n.1).contains a.1)&&(jO n.1).all (fun w=>((PT n).map Prod.fst).contains w)
theorem WA{l:List Ln}(hl:l.length≤1000) (s:Ln):q93 fuelH (l,s)=some (l.contains s):=by
 have hfu:=bF
 unfold q93;dsimp only;rw[bT];refine(jN (l:=l) (fun i=>(i:Int)) (fun x:Ln=>seq x s) (fun _ _=>some true) (some false) (by omega) (fun self i h=>?_) (fun self=>?_)).trans ?_
 ·have hin:inb (i:Int) (len l)=true:=aX (by simp only[len]; omega)
  rw[aD (aV (by simp only[len]; omega)),aF hin,bB h,aQ h (by omega)];cases seq l[i] s<;>rfl
 ·rw[aC (aW (by simp only[len]; omega))]
 ·rw[FI]
  have:l.any (fun x=>seq x s)=l.contains s:=by
   rw[bA4,List.any_eq_true,aZI];exact⟨fun ⟨x,hx,h⟩=>by rw[dA] at h; exact h ▸ hx,fun h=>⟨s,h,by rw[dA]⟩⟩
  rw[this];cases l.contains s<;>rfl
theorem nft:¬(false=true):=by simp
def wH(A l:List Ln):Nat:=(l.filter (fun w=>A.contains w)).length
theorem aDL(w:Ln) (A l:List Ln) (h:w ∉ A):wH (w::A) l=l.count w+wH A l:=by
 unfold wH
 induction l with
 |nil=>rfl
 |cons x l ih =>
  rw[List.filter_cons,List.filter_cons,bA1]
  by_cases e:x=w
  ·subst e
   have h1:(x::A).contains x=true:=by simp
   have h2:A.contains x=false:=by simpa using h
   have h3:(x==x)=true:=by simp
   rw[h1,h2,h3,if_pos rfl,if_neg nft,if_pos rfl,bAH,ih];omega
  ·have h1:(w::A).contains x=A.contains x:=by
    rw[List.contains_cons]
    have:(x==w)=false:=by simpa using e
    rw[this,bBD]
   have h3:(x==w)=false:=by simpa using e
   rw[h1,h3,if_neg nft,bBL]
   cases A.contains x with
   |true=>rw[if_pos rfl,if_pos rfl,bAH,bAH,ih]; omega
   |false=>rw[if_neg nft,if_neg nft,ih]
theorem aQW{l:List Ln}(h:l.Nodup) (w:Ln):l.count w≤1:=by
 induction l with
 |nil=>simp
 |cons x l ih =>
  rw[List.nodup_cons] at h;rw[bA1]
  by_cases e:x=w
  ·subst e;rw[if_pos (by simp),List.count_eq_zero_of_not_mem h.1];omega
  ·have:=ih h.2
   rw[if_neg (by simpa using e)];omega
theorem aH9{A l:List Ln}(hA:A.Nodup) (hl:l.Nodup):wH A l≤A.length∧(wH A l=A.length↔∀w∈A,w∈l):=by
 induction A with
 |nil =>
  have:wH [] l=0:=by unfold wH; simp
  rw[this];simp
 |cons w A ih =>
  rw[List.nodup_cons] at hA;obtain⟨h1,h2⟩:=ih hA.2;rw[aDL w A l hA.1,bAH]
  have hc:=aQW hl w
  refine⟨by omega,fun h=>?_,fun h=>?_⟩
  ·have e1:l.count w=1:=by omega
   have e2:wH A l=A.length:=by omega
   intro v hv;rcases bBB.1 hv with rfl|hv
   ·exact aZ7.1 (by omega)
   ·exact h2.1 e2 v hv
  ·have e1:0<l.count w:=aZ7.2 (h w aZ4)
   have e2:=h2.2 fun v hv=>h v (aZL _ hv)
   omega
def PV(A M:List Ln):Nat→List At→Option Nat
 |c,[]=>some c
 |c,a::r=>if A.contains a.1 then PV A M (c+1) r else if M.contains a.1 then PV A M c r else none
theorem PW(A M:List Ln):∀(l:List At) (c:Nat),PV A M c l=if l.all (fun a=>A.contains a.1||M.contains a.1) then some (c+wH A (l.map Prod.fst)) else none
 | [],c=>by simp[PV,wH]
 |a::l,c=>by
  unfold PV
  have e:wH A ((a::l).map Prod.fst)=(if A.contains a.1 then 1 else 0)+wH A (l.map Prod.fst):=by
   unfold wH;rw[bBC,List.filter_cons]
   cases A.contains a.1 with
   |true=>rw[if_pos rfl,if_pos rfl,bAH]; omega
   |false=>rw[if_neg nft,if_neg nft]; omega
  rw[e,bBF,PW A M l (c+1),PW A M l c]
  cases A.contains a.1 with
  |true =>
   rw[if_pos rfl,if_pos rfl,Bool.true_or,bBE]
   by_cases h:(l.all fun a=>A.contains a.1||M.contains a.1)=true
   ·rw[if_pos h,if_pos h]; congr 1; omega
   ·rw[if_neg h,if_neg h]
  |false =>
   rw[if_neg nft,if_neg nft,bBD]
   cases M.contains a.1 with
   |true=>rw[if_pos rfl,bBE,bBI]
   |false=>rw[if_neg nft,bA9,if_neg nft]
theorem aIA{n:Nd} (hu:JE n):FL n=(match PV (jO n.1) (rN n.1) 0 n.2.2.1 with|some c=>decide (c=(jO n.1).length)|none=>false):=by
 obtain⟨t1,t2,_⟩:=aAV n.1;rw[PW]
 have e1:(n.2.2.1.all fun a=>(jO n.1).contains a.1||(rN n.1).contains a.1)=((PT n).all fun a=>(yU n.1).contains a.1):=by
  show _=n.2.2.1.all _;congr 1;funext a;rw[bA4,Bool.or_eq_true,aZI,aZI,aZI];exact(t1 a.1).symm
 rw[e1];unfold FL
 cases (PT n).all fun a=>(yU n.1).contains a.1 with
 |false=>rw[bA9,if_neg nft]
 |true =>
  rw[bBE,if_pos rfl,bBI]
  have h:=(aH9 (l:=n.2.2.1.map Prod.fst) t2 hu).2
  show _=decide (wH (jO n.1) (n.2.2.1.map Prod.fst)=(jO n.1).length);rw[bA4,bAQ,decide_eq_true_eq,h];exact⟨fun k w hw=>by have:=k w hw; rwa [aZI] at this,fun k w hw=>by rw[aZI]; exact k w hw⟩
theorem GF{n:Nd}(hs:smN n) (hu:JE n):q94 fuelH n=some (FL n):=by
 have hl:=hs.asz
 have hfu:=bF
 obtain⟨_,_,t3,t4,_⟩:=aAV n.1;unfold q94;rw[GE,aB,bT]
 have h:=cW (R:=Bool) (s:=n.2.2.1) (F:=fun v3 (v4:(List Ln)×(List Ln)×Int×Int) =>
   cnd (ilt v4.2.2.2 (len n.2.2.1))
    (grd (inb v4.2.2.2 (len n.2.2.1))
     (bnd (q93 fuelH (v4.1,(aA n.2.2.1 (toN v4.2.2.2) ([],[])).1)) fun v5 =>
     cnd v5
      (v3 (v4.1,v4.2.1,w64 (aE v4.2.2.1 (1:Int)),w64 (aE v4.2.2.2 (1:Int))))
      (bnd (q93 fuelH (v4.2.1,(aA n.2.2.1 (toN v4.2.2.2) ([],[])).1)) fun v6 =>
      cnd (bO v6)
       (some false)
       (v3 (v4.1,v4.2.1,v4.2.2.1,w64 (aE v4.2.2.2 (1:Int)))))))
    (some (ieq v4.2.2.1 (len v4.1))))
  (fun (c:Nat) (j:Nat)=>(jO n.1,rN n.1,(c:Int),(j:Int))) (fun c r=>some (match PV (jO n.1) (rN n.1) c r with|some c=>decide (c=(jO n.1).length)|none=>false)) (fun j c=>c≤j) ?_ fuelH 0 0 (by omega) (bBR _) (bBQ _)
 ·refine bBT h ?_;rw[aIA hu,bA6]
 ·intro self c j hj hc hself
  by_cases hjl:j<n.2.2.1.length
  ·have hin:inb (j:Int) (len n.2.2.1)=true:=aX (by simp only[len]; omega)
   have hw:w64 (aE (j:Int) 1)=((j+1:Nat):Int):=aQ hjl (by omega)
   have hwc:w64 (aE (c:Int) 1)=((c+1:Nat):Int):=aQ (n:=n.2.2.1.length) (by omega) (by omega)
   dsimp only;rw[aD (aV (by simp only[len]; omega)),aF hin,bB hjl,hw,hwc,aYY hjl,WA (by omega),aB,WA (by omega),aB];unfold PV
   cases (jO n.1).contains n.2.2.1[j].1 with
   |true =>
    rw[aD rfl,if_pos rfl];exact hself (c+1) (j+1) (by omega) (by omega) (by omega)
   |false =>
    rw[aC rfl,if_neg nft]
    cases (rN n.1).contains n.2.2.1[j].1 with
    |true =>
     rw[aC (by rfl),if_pos rfl];exact hself c (j+1) (by omega) (by omega) (by omega)
    |false =>
     rw[aD (by rfl),if_neg nft]
  ·obtain rfl:j=n.2.2.1.length:=by omega
   dsimp only;rw[aC (aW (by simp only[len]; omega)),bAR];unfold PV;dsimp only;congr 1;rw[bA4,decide_eq_true_eq];constructor
   ·intro h
    by_cases e:(c:Int)=len (jO n.1)
    ·simp only[len] at e; omega
    ·rw[cZ e] at h; cases h
   ·intro h;exact dL (by simp only[len]; omega)
theorem aIB{α β:Type}(p:α×β):(p.1,p.2)=p:=rfl
theorem aIC{α:Type}(xs:List α) (d:α):bP xs (aP xs d)=xs:=by
 unfold bP aP
 cases xs with
 |nil=>rfl
 |cons x xs =>
  have h:(x::xs).length-1<(x::xs).length:=by simp
  rw[aYU,aY1 h,Option.getD_some];exact List.set_getElem_self _
theorem Q9{α:Type}{xs:List α}(h:xs≠[]) (hl:xs.length≤4000000):inb (w64 (aI (len xs) 1)) (len xs)=true∧ieq (w64 (aI (len xs) 1)) (aI (len xs) 1)=true∧ieq (ofN (toN (w64 (aI (len xs) 1)))) (aI (len xs) 1)=true∧toN (w64 (aI (len xs) 1))=xs.length-1:=by
 have h1:1≤xs.length:=by cases xs with|nil=>exact absurd rfl h|cons _ _=>simp
 have e:w64 (aI (len xs) 1)=((xs.length-1:Nat):Int):=by
  simp only[aI,len];rw[bS (by omega)];omega
 have e2:aI (len xs) 1=((xs.length-1:Nat):Int):=by simp only[aI,len]; omega
 rw[e,e2];refine⟨aX (by simp only[len]; omega),dL rfl,dL ?_,by simp[toN]⟩;simp[toN,ofN]
theorem aID{α:Type}{xs:List α}(h:xs≠[]) (d:α):aA xs (xs.length-1) d=aP xs d:=by
 unfold aA aP;rfl
theorem aIE{α:Type}(xs:List α) (x:α):pT xs (xs.length-1) x=bP xs x:=rfl
def evY:Ev:=(0,(0,0),[],0,[],[])
def dM(d:Doc):List Row:=(aP d.2.2.2.2.2.2.1 evY).2.2.2.2.2
def hY(d:Doc):Row:=aP (dM d) []
def PX:Run:=([],(0,false,false),[])
def uJ(d:Doc) (rows:List Row):Doc:=(d.1,d.2.1,d.2.2.1,d.2.2.2.1,d.2.2.2.2.1,d.2.2.2.2.2.1,bP d.2.2.2.2.2.2.1 ((aP d.2.2.2.2.2.2.1 evY).1,(aP d.2.2.2.2.2.2.1 evY).2.1,(aP d.2.2.2.2.2.2.1 evY).2.2.1,(aP d.2.2.2.2.2.2.1 evY).2.2.2.1,(aP d.2.2.2.2.2.2.1 evY).2.2.2.2.1,rows),d.2.2.2.2.2.2.2)
def zP:Int:=1099511627776
def JF(d:Doc) (n:Nd):Int×Doc :=
 (iK (iK (Q8 (eY n [114,97,116,101])).2 (flT n [100,114,111,112]).2) (iL n [108,97,115,116] zP).2,(eY n [116,105,116,108,101],eY n [108,97,110,103],(Q8 (eY n [114,97,116,101])).1,(flT n [100,114,111,112]).1,(iL n [108,97,115,116] zP).1,d.2.2.2.2.2.1,d.2.2.2.2.2.2.1,d.2.2.2.2.2.2.2))
def aQX(n:Nd):Reg:=(eY n [110,97,109,101],(iL n [116,111,112] 32).1,(iL n [104,101,105,103,104,116] 32).1,(iL n [108,101,102,116] 32).1,(iL n [119,105,100,116,104] 32).1,b8 (w64 (aE (chT gl0 n [97,108,105,103,110]).1 1)),ieq (chT [[84,79,80],[66,79,84,84,79,77]] n [97,110,99,104,111,114]).1 1)
def WC(d:Doc) (n:Nd):Int×Doc :=
 (iK (iK (iK (iK (iK (iL n [116,111,112] 32).2 (iL n [104,101,105,103,104,116] 32).2) (iL n [108,101,102,116] 32).2) (iL n [119,105,100,116,104] 32).2) (chT gl0 n [97,108,105,103,110]).2) (chT [[84,79,80],[66,79,84,84,79,77]] n [97,110,99,104,111,114]).2,
  (d.1,d.2.1,d.2.2.1,d.2.2.2.1,d.2.2.2.2.1,d.2.2.2.2.2.1++[aQX n],d.2.2.2.2.2.2.1,d.2.2.2.2.2.2.2))
def evT(n:Nd):Ev:=((iL n [105,100] zP).1,((uI n [105,110]).1,(uI n [111,117,116]).1),eY n [114,101,103,105,111,110],(AH (eY n [107,105,110,100])).1,eY n [115,112,101,97,107,101,114],[])
def FM(d:Doc) (n:Nd):Int×Doc :=
 (iK (iK (iK (iL n [105,100] zP).2 (uI n [105,110]).2) (uI n [111,117,116]).2) (AH (eY n [107,105,110,100])).2,
  (d.1,d.2.1,d.2.2.1,d.2.2.2.1,d.2.2.2.2.1,d.2.2.2.2.2.1,d.2.2.2.2.2.2.1++[evT n],d.2.2.2.2.2.2.2))
def R0(n:Nd):Run:=([],((Q7 n).1,(flT n [105,116,97,108,105,99]).1,(flT n [117,110,100,101,114,108,105,110,101]).1),eY n [114,117,98,121])
def aIF(d:Doc) (n:Nd):Int×Doc :=
 (iK (iK (Q7 n).2 (flT n [105,116,97,108,105,99]).2) (flT n [117,110,100,101,114,108,105,110,101]).2,uJ d (bP (dM d) (hY d++[R0 n])))
def aIG(d:Doc) (n:Nd):Int×Doc:=(0,uJ d (bP (dM d) (bP (hY d) (n.2.1,(aP (hY d) PX).2))))
def fS(d:Doc) (n:Nd):Int×Doc :=
 if n.1=[116,116] then JF d n else if n.1=[114,101,103,105,111,110] then WC d n else if n.1=[112] then FM d n else if n.1=[114,111,119] then(0,uJ d (dM d++[[]])) else if n.1=[114,117,110] then aIF d n else aIG d n
structure HasR (d:Doc) (n:Nd):Prop where
 rg:d.2.2.2.2.2.1.length≤1000000
 ev:d.2.2.2.2.2.2.1.length≤1000000
 row:n.1≠[116,116]→n.1≠[114,101,103,105,111,110]→n.1≠[112]→d.2.2.2.2.2.2.1≠[]∧(dM d).length≤1000000
 run:n.1≠[116,116]→n.1≠[114,101,103,105,111,110]→n.1≠[112]→n.1≠[114,111,119]→dM d≠[]∧(hY d).length≤1000000
 tx:n.1≠[116,116]→n.1≠[114,101,103,105,111,110]→n.1≠[112]→n.1≠[114,111,119]→n.1≠[114,117,110]→hY d≠[]
theorem mK{α:Type}(xs:List α) (y v:α):bP (xs++[y]) v=xs++[v]:=by
 unfold bP;rw[aZ0,bAH,bAZ,aZ8,aZG _ _ (bBQ _),bBN];rfl
theorem aIH{n:Nd}(ha:FL n=true){w:Ln}(hw:(jO n.1).contains w=true):yP n w=true:=by
 unfold FL at ha;rw[bAI,bAQ,bAQ] at ha;rw[aZI] at hw
 have:=ha.2 w hw
 rw[aZI] at this;exact(yS w _).2 this
theorem aLK(s:Ln):(AH s).2=0∨(AH s).2=4:=by
 unfold AH
 have:∀(l:List Ln) (k:Nat),(fR (fun k:Ln=>seq k s) (fun i _=>(b8 (w64 (aE (i:Int) 1)),(0:Int))) ((0:UInt8),(4:Int)) k l).2=0∨(fR (fun k:Ln=>seq k s) (fun i _=>(b8 (w64 (aE (i:Int) 1)),(0:Int))) ((0:UInt8),(4:Int)) k l).2=4:=by
  intro l
  induction l with
  |nil=>intro k; exact Or.inr rfl
  |cons x l ih =>
   intro k;unfold fR
   by_cases h:seq x s=true
   ·rw[if_pos h]; exact Or.inl rfl
   ·rw[if_neg h]; exact ih (k+1)
 exact this _ 0
theorem sq{a b:Ln}(h:a=b):seq a b=true:=by rw[dA]; exact h
theorem sqf{a b:Ln}(h:¬a=b):seq a b=false:=by rw[cC]; simpa using h
theorem aQY{d:Doc}{n:Nd}(hs:smN n) (hu:JE n) (ha:FL n=true) (hr:HasR d n):mD fuelH (d,n)=some (fS d n):=by
 have hMax:(1099511627776:Int)≤4611686018427387904:=by omega
 unfold mD fS;dsimp only;simp only[aIC,aIB];rw[bT]
 by_cases c1:n.1=[116,116]
 ·rw[aD (sq c1),if_pos c1,fB hs,aB];dsimp only;rw[fB hs,aB];dsimp only;rw[fB hs,aB];dsimp only;rw[aH7,aB];rw[pE,aB,Q6 hs hu,aB];dsimp only;rw[PU hs _ _ hMax,aB];rfl
 rw[aC (sqf c1),if_neg c1]
 by_cases c2:n.1=[114,101,103,105,111,110]
 ·have h1:yP n [97,108,105,103,110]=true:=aIH ha (by rw[c2]; rfl)
  have h2:yP n [97,110,99,104,111,114]=true:=aIH ha (by rw[c2]; rfl)
  rw[aD (sq c2),if_pos c2,fB hs,aB];dsimp only;rw[wG hs,aB];dsimp only;rw[wG hs,aB];dsimp only;rw[wG hs,aB];dsimp only;rw[wG hs,aB];dsimp only;rw[Q5 hs _ (by decide) h1,aB];dsimp only;rw[Q5 hs _ (by simp) h2,aB];dsimp only;rw[aF (cV (by have:=hr.rg; simp only[aE,len,bAH,bAZ]; omega))];rfl
 rw[aC (sqf c2),if_neg c2]
 by_cases c3:n.1=[112]
 ·rw[aD (sq c3),if_pos c3,PU hs _ _ hMax,aB];dsimp only;rw[aAS hs,aB];dsimp only;rw[aAS hs,aB];dsimp only;rw[fB hs,aB];dsimp only;rw[fB hs,aB];dsimp only;rw[aH8,aB,bT]
  have key:∀e:Int,e=iK (iK (iK (iK 0 (iL n [105,100] 1099511627776).2) (uI n [105,110]).2) (uI n [111,117,116]).2) (AH (eY n [107,105,110,100])).2 →
    (bnd (q95 fuelH ((n,e),[115,112,101,97,107,101,114])) fun v23 =>
     grd (cH (aE (len d.2.2.2.2.2.2.1) (len ([zE]:List Ev))) 88)
     (some (v23.2.2,d.1,d.2.1,d.2.2.1,d.2.2.2.1,d.2.2.2.2.1,d.2.2.2.2.2.1,bP (aU d.2.2.2.2.2.2.1 ([zE]:List Ev)) ((iL n [105,100] 1099511627776).1,((uI n [105,110]).1,(uI n [111,117,116]).1),eY n [114,101,103,105,111,110],(AH (eY n [107,105,110,100])).1,v23.1,([]:List Row)),d.2.2.2.2.2.2.2)))=some (FM d n):=by
   intro e he;rw[fB hs,aB,aF (cV (by have:=hr.ev; simp only[aE,len,bAH,bAZ]; omega))]
   have:∀x:Ev,aU d.2.2.2.2.2.2.1 [x]=d.2.2.2.2.2.2.1++[x]:=fun _=>rfl
   rw[this,mK,he];rfl
  rcases aLK (eY n [107,105,110,100]) with h|h
  ·rw[aC (cN h)];exact key _ (by rw[h,aAT])
  ·rw[aD (cA (by rw[h]; decide)),pE,aB];exact key _ (by rw[h])
 rw[aC (sqf c3),if_neg c3];obtain⟨r1,r2⟩:=hr.row c1 c2 c3;obtain⟨g1,g2,g3,g4⟩:=Q9 r1 (by have:=hr.ev; omega)
 have hz:zE=evY:=rfl
 rw[hz]
 by_cases c4:n.1=[114,111,119]
 ·rw[aD (sq c4),if_pos c4,aF g1,aF g2,aF g3]
  have hl:(aP d.2.2.2.2.2.2.1 evY).2.2.2.2.2.length≤1000000:=r2
  rw[aF (cV (by simp only[aE,len,bAH,bAZ]; omega)),aF g1,aF g2,aF g3]
  have:∀(l:List Row) (x:Row),aU l [x]=l++[x]:=fun _ _=>rfl
  rw[this,mK];rfl
 rw[aC (sqf c4),if_neg c4];obtain⟨s1,s2⟩:=hr.run c1 c2 c3 c4
 have s1:(aP d.2.2.2.2.2.2.1 evY).2.2.2.2.2≠[]:=s1
 have hl:(aP d.2.2.2.2.2.2.1 evY).2.2.2.2.2.length≤1000000:=r2
 obtain⟨k1,k2,k3,k4⟩:=Q9 s1 (by omega)
 have hl2:(aP (aP d.2.2.2.2.2.2.1 evY).2.2.2.2.2 []).length≤1000000:=s2
 by_cases c5:n.1=[114,117,110]
 ·rw[aD (sq c5),if_pos c5,fB hs,aB];dsimp only;rw[aLJ hs,aB];dsimp only;rw[Q6 hs hu,aB];dsimp only;rw[Q6 hs hu,aB];dsimp only;rw[aF g1,aF g2,aF g3,aF g1,aF g2,aF g3,aF k1,aF k2,aF k3,aF (cV (by simp only[aE,len,bAH,bAZ]; omega)),aF k3];rfl
 rw[aC (sqf c5),if_neg c5]
 have t1:aP (aP d.2.2.2.2.2.2.1 evY).2.2.2.2.2 []≠[]:=hr.tx c1 c2 c3 c4 c5
 obtain⟨m1,m2,m3,m4⟩:=Q9 t1 (by omega);rw[aF g1,aF g2,aF g3,aF g1,aF g2,aF g3,aF k1,aF k2,aF k3,aF k3,aF m1,m4,aIE,aID t1];rfl
def WD(n:Nd) (parent:Ln) (reg:Bool):Bool :=
 if parent=[] then decide (n.1=[116,116]) else if parent=[116,116] then(if n.1=[112] then true else if n.1=[114,101,103,105,111,110] then reg else false) else
 if parent=[112] then decide (n.1=[114,111,119]) else if parent=[114,111,119] then decide (n.1=[114,117,110]) else if parent=[114,117,110] then decide (n.1=[]) else false
def noE(d:Doc):Bool:=decide (d.2.2.2.2.2.2.1.length=0)
def wI(op:List Ln) (n:Nd):Ln:=if 0<dep n then op.getD ((dep n).toNat-1) [] else []
def okN(op:List Ln) (d:Doc) (n:Nd):Bool:=WD n (wI op n) (noE d)&&FL n
def uK:Doc:=([],[],0,false,0,[],[],[])
def aQZ(d:Doc):Doc×Int×Int:=if cB d≠0 then(uK,0,cB d) else(d,0,0)
def goS:Nat→List Ln→Doc→List Nd→Doc×Int×Int
 |_,_,d,[]=>aQZ d
 |i,op,d,n::r=>if okN op d n=false then(uK,(i:Int),4) else if(fS d n).1≠0 then(uK,(i:Int),(fS d n).1) else goS (i+1) (op.take (dep n).toNat++[n.1]) (fS d n).2 r
def PY(l:List Nd):Doc×Int×Int:=if oK l≠0 then(uK,0,oK l) else goS 0 [] uK l
def fT(d:Doc):List Ev:=d.2.2.2.2.2.2.1
def Sh(op:List Ln) (d:Doc):Prop :=
 (op=[]∧fT d=[])∨(op=[[116,116]]∧fT d=[])∨(op=[[116,116],[114,101,103,105,111,110]]∧fT d=[])∨(op=[[116,116],[112]]∧fT d≠[])∨(op=[[116,116],[112],[114,111,119]]∧fT d≠[]∧dM d≠[]) ∨
 (op=[[116,116],[112],[114,111,119],[114,117,110]]∧fT d≠[]∧dM d≠[]∧hY d≠[]∧(aP (hY d) PX).1=[])∨(op=[[116,116],[112],[114,111,119],[114,117,110],[]]∧fT d≠[]∧dM d≠[]∧hY d≠[])
structure Inv (l:List Nd) (i:Nat) (op:List Ln) (d:Doc):Prop where
 sh:Sh op d
 zero:i=0→op=[]
 one:1≤i→(op.length:Int)=dep (l.getD (i-1) ndz)+1
 path:∀k,k<op.length→∃j,j<i∧dep (l.getD j ndz)=(k:Int)∧(l.getD j ndz).1=op.getD k []∧∀m,j<m→m<i→(k:Int)<dep (l.getD m ndz)
 rg:d.2.2.2.2.2.1.length≤i
 ev:(fT d).length≤i
 rw:(dM d).length≤i
 rn:(hY d).length≤i
 ti:d.1.length≤1090000
 small:∀x∈fT d,∀r∈x.2.2.2.2.2,(∀u∈r,u.1.length≤1090000∧u.2.2.length≤1090000)∧tot r≤bkL wtN (l.take i)
 cm:d.2.2.2.2.2.2.2=[]
theorem aYM(l:List Nd):Inv l 0 [] uK :=
 ⟨Or.inl ⟨rfl,rfl⟩,fun _=>rfl,fun h=>absurd h (by omega),fun k h=>by simp at h,bBQ _,bBQ _,bBQ _,bBQ _,bBR _,(fun x hx=>by cases hx),rfl⟩
inductive Nx (i:Nat) (op:List Ln) (d:Doc) (n:Nd):Prop
 |tt (h0:i=0) (hk:dep n=0) (ho:op=[]) (hn:n.1=[116,116]) (he:fT d=[])
 |p (hk:dep n=1) (ho:op.take 1=[[116,116]]) (hn:n.1=[112])
 |rg (hk:dep n=1) (ho:op.take 1=[[116,116]]) (hn:n.1=[114,101,103,105,111,110]) (he:fT d=[])
 |row (hk:dep n=2) (ho:op.take 2=[[116,116],[112]]) (hn:n.1=[114,111,119]) (he:fT d≠[])
 |run (hk:dep n=3) (ho:op.take 3=[[116,116],[112],[114,111,119]]) (hn:n.1=[114,117,110]) (he:fT d≠[]) (hr:dM d≠[])
 |tx (hk:dep n=4) (ho:op=[[116,116],[112],[114,111,119],[114,117,110]]) (hn:n.1=[]) (he:fT d≠[]) (hr:dM d≠[]) (hu:hY d≠[]) (ht:(aP (hY d) PX).1=[])
theorem aLL{n:Nd}{q:Ln}{b:Bool}(h:WD n q b=true) (h1:q≠[]) (h2:q≠[116,116]) (h3:q≠[112]) (h4:q≠[114,111,119]) (h5:q≠[114,117,110]):False:=by
 unfold WD at h;rw[if_neg h1,if_neg h2,if_neg h3,if_neg h4,if_neg h5] at h;cases h
theorem aAW{l:List Nd}(hd:Deep l){i:Nat}(hi:i<l.length){op:List Ln}{d:Doc}(hI:Inv l i op d):(i=0∧dep l[i]=0)∨(1≤i∧1≤dep l[i]∧dep l[i]≤(op.length:Int)∧(dep l[i]=(op.length:Int)→(l.getD (i-1) ndz).1≠[])):=by
 by_cases h0:i=0
 ·subst h0; exact Or.inl ⟨rfl,hd.root hi⟩
 ·have h1:=hI.one (by omega)
  have h2:=hd.low (i-1) (by omega)
  have e:l.getD (i-1) ndz=l[i-1]:=gD (by omega)
  have e2:l[i-1+1]'(by omega)=l[i]:=by congr 1; omega
  rw[e2] at h2;rw[e] at h1 ⊢;exact Or.inr ⟨by omega,h2.1,by omega,fun k=>h2.2.2 (by omega)⟩
theorem aXV{l:List Nd}(hc:oK l=0){i:Nat}(hi:i<l.length){op:List Ln}{d:Doc}(hI:Inv l i op d) (hf:WD l[i] (wI op l[i]) (noE d)=true):Nx i op d l[i]:=by
 have hck:=(EW hc).2.2
 have hd:=BI hck
 have hnoE:noE d=true→fT d=[]:=fun h=>aY5.1 (of_decide_eq_true h)
 rcases aAW hd hi hI with⟨h0,hk⟩|⟨h1,k1,k2,k3⟩
 ·have ho:=hI.zero h0
  have hp:wI op l[i]=[]:=by unfold wI; rw[if_neg (by omega)]
  rw[hp] at hf
  have he:fT d=[]:=by
   have:=hI.ev
   exact aY5.1 (by omega)
  exact Nx.tt h0 hk ho (of_decide_eq_true hf) he
 ·have hp:wI op l[i]=op.getD ((dep l[i]).toNat-1) []:=by unfold wI; rw[if_pos (by omega)]
  rw[hp] at hf
  have at1:op.take 1=[[116,116]]→dep l[i]=1→Nx i op d l[i]:=by
   intro ho hk
   have:op.getD ((dep l[i]).toNat-1) []=[116,116]:=by
    rw[hk]
    cases op with
    |nil=>cases ho
    |cons a t=>injection ho with e _
   rw[this] at hf
   have hf:(if l[i].1=[112] then true else if l[i].1=[114,101,103,105,111,110] then noE d else false)=true:=hf
   by_cases c1:l[i].1=[112]
   ·exact Nx.p hk ho c1
   rw[if_neg c1] at hf
   by_cases c2:l[i].1=[114,101,103,105,111,110]
   ·rw[if_pos c2] at hf;exact Nx.rg hk ho c2 (hnoE hf)
   ·rw[if_neg c2] at hf; cases hf
  have at2:op.take 2=[[116,116],[112]]→dep l[i]=2→fT d≠[]→Nx i op d l[i]:=by
   intro ho hk he
   have:op.getD ((dep l[i]).toNat-1) []=[112]:=by
    rw[hk]
    match op,ho with
    |a::b::t,ho=>injection ho with _ e; injection e with e _
   rw[this] at hf;exact Nx.row hk ho (of_decide_eq_true (show decide (l[i].1=[114,111,119])=true from hf)) he
  have at3:op.take 3=[[116,116],[112],[114,111,119]]→dep l[i]=3→fT d≠[]→dM d≠[]→Nx i op d l[i]:=by
   intro ho hk he hr
   have:op.getD ((dep l[i]).toNat-1) []=[114,111,119]:=by
    rw[hk]
    match op,ho with
    |a::b::c::t,ho=>injection ho with _ e; injection e with _ e; injection e with e _
   rw[this] at hf;exact Nx.run hk ho (of_decide_eq_true (show decide (l[i].1=[114,117,110])=true from hf)) he hr
  rcases hI.sh with⟨ho,he⟩|⟨ho,he⟩|⟨ho,he⟩|⟨ho,he⟩|⟨ho,he,hr⟩|⟨ho,he,hr,hu,ht⟩|⟨ho,he,hr,hu⟩
  ·rw[ho] at k2; simp at k2; omega
  ·have hk:dep l[i]=1:=by rw[ho] at k2; simp at k2; omega
   exact at1 (by rw[ho]; rfl) hk
  ·have hl:dep l[i]=1∨dep l[i]=2:=by rw[ho] at k2; simp at k2; omega
   rcases hl with hk|hk
   ·exact at1 (by rw[ho]; rfl) hk
   ·exfalso;rw[ho,hk] at hf;exact aLL (q:=[114,101,103,105,111,110]) hf (by decide) (by decide) (by decide) (by decide) (by decide)
  ·have hl:dep l[i]=1∨dep l[i]=2:=by rw[ho] at k2; simp at k2; omega
   rcases hl with hk|hk
   ·exact at1 (by rw[ho]; rfl) hk
   ·exact at2 (by rw[ho]; rfl) hk he
  ·have hl:dep l[i]=1∨dep l[i]=2∨dep l[i]=3:=by rw[ho] at k2; simp at k2; omega
   rcases hl with hk|hk|hk
   ·exact at1 (by rw[ho]; rfl) hk
   ·exact at2 (by rw[ho]; rfl) hk he
   ·exact at3 (by rw[ho]; rfl) hk he hr
  ·have hl:dep l[i]=1∨dep l[i]=2∨dep l[i]=3∨dep l[i]=4:=by rw[ho] at k2; simp at k2; omega
   rcases hl with hk|hk|hk|hk
   ·exact at1 (by rw[ho]; rfl) hk
   ·exact at2 (by rw[ho]; rfl) hk he
   ·exact at3 (by rw[ho]; rfl) hk he hr
   ·rw[ho,hk] at hf;exact Nx.tx hk ho (of_decide_eq_true (show decide (l[i].1=[])=true from hf)) he hr hu ht
  ·
   have hlast:(l.getD (i-1) ndz).1=[]:=by
    obtain⟨j,j1,j2,j3,j4⟩:=hI.path 4 (by rw[ho]; simp)
    have h1':=hI.one h1
    rw[ho] at h1' j3;simp only[bAH,bAZ] at h1'
    have:j=i-1:=by
     by_cases e:j=i-1
     ·exact e
     ·have:=j4 (i-1) (by omega) (by omega)
      omega
    rw[this] at j3;exact j3
   have hl:dep l[i]=1∨dep l[i]=2∨dep l[i]=3∨dep l[i]=4∨dep l[i]=5:=by rw[ho] at k2; simp at k2; omega
   rcases hl with hk|hk|hk|hk|hk
   ·exact at1 (by rw[ho]; rfl) hk
   ·exact at2 (by rw[ho]; rfl) hk he
   ·exact at3 (by rw[ho]; rfl) hk he hr
   ·exfalso;rw[ho,hk] at hf
    have hn:l[i].1=[]:=of_decide_eq_true (show decide (l[i].1=[])=true from hf)
    have htx:=FF (hck i hi) hn
    have e:l.getD (i-1) ndz=l[i-1]:=gD (by omega)
    have h1':=hI.one h1
    rw[ho,e] at h1';simp only[bAH,bAZ] at h1';rw[e] at hlast
    have hpv:prv l i=some l[i-1]:=by
     have:=mJ (l:=l) (i:=i-1) (by omega)
     have e3:i-1+1=i:=by omega
     rwa [e3] at this
    rw[hpv] at htx;unfold txE txP at htx;rw[if_pos (decide_eq_true ⟨hlast,by omega⟩)] at htx;cases htx
   ·exfalso;exact k3 (by rw[ho]; simp only[bAH,bAZ]; omega) hlast
theorem aLM{p:Option Nd}{n:Nd}(h:ndE p n=0):JE n:=by
 unfold JE PT
 by_cases hn:n.1=[]
 ·have:=FF h hn
  unfold txE at this
  split at this
  ·cases this
  split at this
  ·cases this
  split at this
  ·cases this
  ·rename_i _ _ h0
   have:n.2.2.1=[]:=aY5.1 (by omega)
   rw[this];exact List.nodup_nil
 ·have he:=FE h hn
  unfold elE at he
  split at he
  ·cases he
  split at he
  ·cases he
  split at he
  ·cases he
  have key:∀(r:List At) (seen:List Ln),seen.Nodup→atE seen r=0→(seen++r.map Prod.fst).Nodup:=by
   intro r
   induction r with
   |nil=>intro seen hs _; simpa using hs
   |cons a r ih =>
    intro seen hs h;unfold atE at h
    split at h
    ·cases h
    split at h
    ·cases h
    split at h
    ·cases h
    rename_i _ hm _
    have:=ih (seen++[a.1]) (by
     rw[List.nodup_append];refine⟨hs,by simp,?_⟩;intro x hx y hy;rw[aZ6] at hy;subst hy;intro e;exact hm (e ▸ hx)) h
    rw[bAA] at this;exact this
  exact key _ [] List.nodup_nil he
theorem aLN{l:List Nd}{i:Nat}(hi:i≤1000000){op:List Ln}{d:Doc}{n:Nd}(hI:Inv l i op d) (hx:Nx i op d n):HasR d n:=by
 have h1:=hI.rg
 have h2:=hI.ev
 have h3:=hI.rw
 have h4:=hI.rn
 have h2':d.2.2.2.2.2.2.1.length≤i:=h2
 cases hx with
 |tt h0 hk ho hn he=>exact⟨by omega,by omega,fun k=>absurd hn k,fun k=>absurd hn k,fun k=>absurd hn k⟩
 |p hk ho hn=>exact⟨by omega,by omega,fun _ _ k=>absurd hn k,fun _ _ k=>absurd hn k,fun _ _ k=>absurd hn k⟩
 |rg hk ho hn he=>exact⟨by omega,by omega,fun _ k=>absurd hn k,fun _ k=>absurd hn k,fun _ k=>absurd hn k⟩
 |row hk ho hn he=>exact⟨by omega,by omega,fun _ _ _=>⟨he,by omega⟩,fun _ _ _ k=>absurd hn k,fun _ _ _ k=>absurd hn k⟩
 |run hk ho hn he hr=>exact⟨by omega,by omega,fun _ _ _=>⟨he,by omega⟩,fun _ _ _ _=>⟨hr,by omega⟩,fun _ _ _ _ k=>absurd hn k⟩
 |tx hk ho hn he hr hu ht=>exact⟨by omega,by omega,fun _ _ _=>⟨he,by omega⟩,fun _ _ _ _=>⟨hr,by omega⟩,fun _ _ _ _ _=>hu⟩
theorem wJ{α:Type}{xs:List α}(h:xs≠[]) (d:α):aP xs d∈xs:=by
 have h1:xs.length-1<xs.length:=by cases xs with|nil=>exact absurd rfl h|cons _ _=>simp
 unfold aP;rw[aYU,aY1 h1,Option.getD_some];exact bAS h1
theorem BO{α:Type}{xs:List α}{v x:α}(h:x∈bP xs v):x∈xs∨x=v:=List.mem_or_eq_of_mem_set h
theorem pF{α:Type}(xs:List α) (v:α):(bP xs v).length=xs.length:=by unfold bP; rw[List.length_set]
theorem PZ{α:Type}{xs:List α}(h:xs≠[]) (v:α):bP xs v≠[]:=fun k=>h (aY5.1 (by rw[←pF xs v,k]; rfl))
theorem R1{α:Type}(xs:List α) (v:α):xs++[v]≠[]:=by simp
theorem kK{α:Type}(xs:List α) (v d:α):aP (xs++[v]) d=v:=by
 unfold aP;rw[aZ0,bAH,bAZ,aZ8,aYU,aYV (bBQ _),bBN];rfl
theorem yV{d:Doc}(h:fT d≠[]) (rows:List Row):dM (uJ d rows)=rows:=by
 unfold dM uJ;dsimp only
 have h:d.2.2.2.2.2.2.1≠[]:=h
 rw[Go.W.lL _ _ _ h]
theorem FN{d:Doc}(h:fT d≠[]) (rows:List Row):fT (uJ d rows)≠[]:=PZ h _
theorem aLO{row:Row}(h:row≠[]) (t:Ln) (s:Sty×Ln):tot (bP row (t,s))≤tot row+t.length:=by
 obtain⟨r,u,rfl⟩:∃r u,row=r++[u]:=by
  rcases List.eq_nil_or_concat row with k|⟨r,u,k⟩
  ·exact absurd k h
  ·exact⟨r,u,by rw[k,List.concat_eq_append]⟩
 rw[mK,BD,BD];simp only[tot];omega
theorem aII{l:List Nd}{i:Nat}(hi:i<l.length):bkL wtN (l.take (i+1))=bkL wtN (l.take i)+wtN l[i]:=by
 rw[aYO hi];generalize l.take i=a
 induction a with
 |nil=>simp[bkL]
 |cons x a ih=>simp only[bAJ,bkL,ih]; omega
def smR(W:Nat) (r:Row):Prop:=(∀u∈r,u.1.length≤1090000∧u.2.2.length≤1090000)∧tot r≤W
theorem yW{W:Nat}{d:Doc}(he:fT d≠[]){rows:List Row}(h1:∀x∈fT d,∀r∈x.2.2.2.2.2,smR W r) (h2:∀r∈rows,smR W r):∀x∈fT (uJ d rows),∀r∈x.2.2.2.2.2,smR W r:=by
 intro x hx r hr
 have hx:x∈bP (fT d) _:=hx
 rcases BO hx with hx|hx
 ·exact h1 x hx r hr
 ·subst hx; exact h2 r hr
theorem wK{W:Nat}{d:Doc}(he:fT d≠[]) (h1:∀x∈fT d,∀r∈x.2.2.2.2.2,smR W r):∀r∈dM d,smR W r:=fun r hr=>h1 _ (wJ he evY) r hr
theorem aIJ{l:List Nd}(hs:∀n∈l,smN n){i:Nat}(hi:i<l.length){op:List Ln}{d:Doc}(hI:Inv l i op d) (hx:Nx i op d l[i]):Inv l (i+1) (op.take (dep l[i]).toNat++[l[i].1]) (fS d l[i]).2:=by
 have hn:=hs _ (bAS hi)
 have hW:=aII hi
 have hwt:l[i].2.1.length+1≤wtN l[i]:=by unfold wtN; omega
 have gi:l.getD i ndz=l[i]:=gD hi
 have h1:=hI.rg
 have h2:=hI.ev
 have h3:=hI.rw
 have h4:=hI.rn
 have hsm:∀x∈fT d,∀r∈x.2.2.2.2.2,smR (bkL wtN (l.take (i+1))) r:=fun x hx r hr=>⟨(hI.small x hx r hr).1,by have:=(hI.small x hx r hr).2; omega⟩
 have path:∀k:Nat,dep l[i]=(k:Int)→k≤op.length→(∀q,q<(op.take k++[l[i].1]).length→∃j,j<i+1∧dep (l.getD j ndz)=(q:Int)∧(l.getD j ndz).1=(op.take k++[l[i].1]).getD q []∧∀m,j<m→m<i+1→(q:Int)<dep (l.getD m ndz))∧((op.take k++[l[i].1]).length:Int)=dep (l.getD i ndz)+1:=by
  intro k hk hko
  have hlt:(op.take k).length=k:=by rw[bAK]; omega
  refine⟨fun q hq=>?_,by rw[gi,hk,aZ0,hlt]; simp⟩;rw[aZ0,hlt] at hq;simp only[bAH,bAZ] at hq
  by_cases e:q=k
  ·subst e;refine⟨i,by omega,by rw[gi,hk],?_,fun m h1 h2=>by omega⟩;rw[gi,aYU,aYV (by omega),hlt,bBN];rfl
  ·obtain⟨j,j1,j2,j3,j4⟩:=hI.path q (by omega);refine⟨j,by omega,j2,?_,fun m m1 m2=>?_⟩
   ·rw[j3,aYU,aYU,aYX (by omega),List.getElem?_take_of_lt (by omega)]
   ·by_cases e2:m=i
    ·subst e2; rw[gi,hk]; omega
    ·exact j4 m m1 (by omega)
 have tl:∀k:Nat,∀z:List Ln,z.length=k→op.take k=z→k≤op.length:=by
  intro k z hz ho
  have:=congrArg List.length ho
  rw[bAK,hz] at this;omega
 cases hx with
 |tt h0 hk ho hn1 he =>
  have e:(dep l[i]).toNat=0:=by rw[hk]; rfl
  rw[e];obtain⟨p1,p2⟩:=path 0 (by rw[hk]; rfl) (bBR _)
  have ea:(fS d l[i]).2=(JF d l[i]).2:=by unfold fS; rw[if_pos hn1]
  have ee:fT (JF d l[i]).2=[]:=he
  have er:dM (JF d l[i]).2=dM d:=rfl
  rw[ea];refine⟨Or.inr (Or.inl ⟨by rw[hn1]; simp,ee⟩),fun k=>by omega,fun _=>by rw[aZ8]; exact p2,p1,?_,?_,?_,?_,?_,?_,hI.cm⟩
  ·exact bAG h1
  ·rw[ee]; exact bBR _
  ·rw[er]; omega
  ·exact bAG h4
  ·exact wF hn _
  ·intro x hx; rw[ee] at hx; cases hx
 |p hk ho hn1 =>
  have e:(dep l[i]).toNat=1:=by rw[hk]; rfl
  rw[e];obtain⟨p1,p2⟩:=path 1 (by rw[hk]; rfl) (tl 1 _ rfl ho)
  have ea:(fS d l[i]).2=(FM d l[i]).2:=by unfold fS; rw[if_neg (by rw[hn1]; decide),if_neg (by rw[hn1]; decide),if_pos hn1]
  have ee:fT (FM d l[i]).2=fT d++[evT l[i]]:=rfl
  have er:dM (FM d l[i]).2=[]:=by
   show(aP (fT d++[evT l[i]]) evY).2.2.2.2.2=[];rw[kK]; rfl
  rw[ea];refine⟨Or.inr (Or.inr (Or.inr (Or.inl ⟨by rw[ho,hn1]; rfl,by rw[ee]; exact R1 _ _⟩))),fun k=>by omega,fun _=>by rw[aZ8]; exact p2,p1,?_,?_,?_,?_,?_,?_,hI.cm⟩
  ·exact bAG h1
  ·rw[ee,aZ0]; simp only[bAH,bAZ]; omega
  ·rw[er]; exact bBR _
  ·unfold hY; rw[er]; exact bBR _
  ·exact hI.ti
  ·intro x hx r hr;rw[ee,bAU,aZ6] at hx;rcases hx with hx|rfl
   ·exact hsm x hx r hr
   ·cases hr
 |rg hk ho hn1 he =>
  have e:(dep l[i]).toNat=1:=by rw[hk]; rfl
  rw[e];obtain⟨p1,p2⟩:=path 1 (by rw[hk]; rfl) (tl 1 _ rfl ho)
  have ea:(fS d l[i]).2=(WC d l[i]).2:=by unfold fS; rw[if_neg (by rw[hn1]; decide),if_pos hn1]
  have ee:fT (WC d l[i]).2=[]:=he
  rw[ea];refine⟨Or.inr (Or.inr (Or.inl ⟨by rw[ho,hn1]; rfl,ee⟩)),fun k=>by omega,fun _=>by rw[aZ8]; exact p2,p1,?_,?_,?_,?_,?_,?_,hI.cm⟩
  ·show(d.2.2.2.2.2.1++[aQX l[i]]).length≤i+1;rw[aZ0]; simp only[bAH,bAZ]; omega
  ·rw[ee]; exact bBR _
  ·exact bAG h3
  ·exact bAG h4
  ·exact hI.ti
  ·intro x hx; rw[ee] at hx; cases hx
 |row hk ho hn1 he =>
  have e:(dep l[i]).toNat=2:=by rw[hk]; rfl
  rw[e];obtain⟨p1,p2⟩:=path 2 (by rw[hk]; rfl) (tl 2 _ rfl ho)
  have ea:(fS d l[i]).2=uJ d (dM d++[[]]):=by unfold fS; rw[if_neg (by rw[hn1]; decide),if_neg (by rw[hn1]; decide),if_neg (by rw[hn1]; decide),if_pos hn1]
  have er:=yV he (dM d++[[]])
  rw[ea];refine⟨Or.inr (Or.inr (Or.inr (Or.inr (Or.inl ⟨by rw[ho,hn1]; rfl,FN he _,by rw[er]; exact R1 _ _⟩)))),fun k=>by omega,fun _=>by rw[aZ8]; exact p2,p1,?_,?_,?_,?_,?_,?_,hI.cm⟩
  ·exact bAG h1
  ·show(bP (fT d) _).length≤_; rw[pF]; omega
  ·rw[er,aZ0]; simp only[bAH,bAZ]; omega
  ·unfold hY; rw[er,kK]; exact bBR _
  ·exact hI.ti
  ·refine yW he hsm fun r hr=>?_
   rw[bAU,aZ6] at hr;rcases hr with hr|rfl
   ·exact wK he hsm r hr
   ·exact⟨(fun u hu=>by cases hu),bBR _⟩
 |run hk ho hn1 he hr =>
  have e:(dep l[i]).toNat=3:=by rw[hk]; rfl
  rw[e];obtain⟨p1,p2⟩:=path 3 (by rw[hk]; rfl) (tl 3 _ rfl ho)
  have ea:(fS d l[i]).2=uJ d (bP (dM d) (hY d++[R0 l[i]])):=by unfold fS; rw[if_neg (by rw[hn1]; decide),if_neg (by rw[hn1]; decide),if_neg (by rw[hn1]; decide),if_neg (by rw[hn1]; decide),if_pos hn1]; rfl
  have er:=yV he (bP (dM d) (hY d++[R0 l[i]]))
  have el:hY (uJ d (bP (dM d) (hY d++[R0 l[i]])))=hY d++[R0 l[i]]:=by
   show aP (dM _) []=_;rw[er,Go.W.lL _ _ _ hr]
  rw[ea];refine⟨Or.inr (Or.inr (Or.inr (Or.inr (Or.inr (Or.inl ⟨by rw[ho,hn1]; rfl,FN he _,by rw[er]; exact PZ hr _,by rw[el]; exact R1 _ _,by rw[el,kK]; rfl⟩))))),fun k=>by omega,fun _=>by rw[aZ8]; exact p2,p1,?_,?_,?_,?_,?_,?_,hI.cm⟩
  ·exact bAG h1
  ·show(bP (fT d) _).length≤_; rw[pF]; omega
  ·rw[er,pF]; omega
  ·rw[el,aZ0]; simp only[bAH,bAZ]; omega
  ·exact hI.ti
  ·refine yW he hsm fun r hr2=>?_
   rcases BO hr2 with hr2|hr2
   ·exact wK he hsm r hr2
   ·subst hr2
    have ho':smR (bkL wtN (l.take (i+1))) (hY d):=wK he hsm _ (wJ hr [])
    refine⟨fun u hu=>?_,?_⟩
    ·rw[bAU,aZ6] at hu;rcases hu with hu|rfl
     ·exact ho'.1 u hu
     ·exact⟨bBR _,wF hn _⟩
    ·rw[BD]
     have:tot [R0 l[i]]=0:=rfl
     rw[this];exact ho'.2
 |tx hk ho hn1 he hr hu ht =>
  have e:(dep l[i]).toNat=4:=by rw[hk]; rfl
  rw[e];obtain⟨p1,p2⟩:=path 4 (by rw[hk]; rfl) (by rw[ho]; simp)
  have ea:(fS d l[i]).2=uJ d (bP (dM d) (bP (hY d) (l[i].2.1,(aP (hY d) PX).2))):=by unfold fS; rw[if_neg (by rw[hn1]; decide),if_neg (by rw[hn1]; decide),if_neg (by rw[hn1]; decide),if_neg (by rw[hn1]; decide),if_neg (by rw[hn1]; decide)]; rfl
  have er:=yV he (bP (dM d) (bP (hY d) (l[i].2.1,(aP (hY d) PX).2)))
  have el:hY (uJ d (bP (dM d) (bP (hY d) (l[i].2.1,(aP (hY d) PX).2))))=bP (hY d) (l[i].2.1,(aP (hY d) PX).2):=by
   show aP (dM _) []=_;rw[er,Go.W.lL _ _ _ hr]
  rw[ea];refine⟨Or.inr (Or.inr (Or.inr (Or.inr (Or.inr (Or.inr ⟨by rw[ho,hn1]; rfl,FN he _,by rw[er]; exact PZ hr _,by rw[el]; exact PZ hu _⟩))))),fun k=>by omega,fun _=>by rw[aZ8]; exact p2,p1,?_,?_,?_,?_,?_,?_,hI.cm⟩
  ·exact bAG h1
  ·show(bP (fT d) _).length≤_; rw[pF]; omega
  ·rw[er,pF]; omega
  ·rw[el,pF]; omega
  ·exact hI.ti
  ·refine yW he hsm fun r hr2=>?_
   rcases BO hr2 with hr2|hr2
   ·exact wK he hsm r hr2
   ·subst hr2
    have hmem:hY d∈dM d:=wJ hr []
    have ho':=hI.small _ (wJ he evY) _ hmem
    refine⟨fun u hu2=>?_,?_⟩
    ·rcases BO hu2 with hu2|rfl
     ·exact ho'.1 u hu2
     ·exact⟨hn.tx,(ho'.1 _ (wJ hu PX)).2⟩
    ·have:=aLO hu l[i].2.1 (aP (hY d) PX).2
     have h5:=ho'.2
     omega
theorem aDM{l:List Nd}{i:Nat}{op:List Ln}{d:Doc}(hI:Inv l i op d) (hi:i≤4000000) (hb:bkL wtN (l.take i)≤4000000):rH d:=by
 have h1:=hI.rg
 have h2:=hI.ti
 refine⟨by omega,by omega,fun x hx r hr=>?_,fun c hc=>by rw[hI.cm] at hc; cases hc⟩
 have h:=hI.small x hx r hr
 exact⟨fun u hu=>by have:=h.1 u hu; omega,by have:=h.2; omega⟩
theorem aIK(N:Nat) (n:Nd) (q:Ln) (b:Bool):q91 N (n,q,b)=some (WD n q b):=by
 unfold q91 WD;dsimp only
 by_cases h1:q=[]
 ·rw[aD (sq h1),if_pos h1]
  by_cases h:n.1=[116,116]
  ·rw[sq h,decide_eq_true h]
  ·rw[sqf h,decide_eq_false h]
 rw[aC (sqf h1),if_neg h1]
 by_cases h2:q=[116,116]
 ·rw[aD (sq h2),if_pos h2]
  by_cases c1:n.1=[112]
  ·rw[aD (sq c1),if_pos c1]
  ·rw[aC (sqf c1),if_neg c1]
   by_cases c2:n.1=[114,101,103,105,111,110]
   ·rw[aD (sq c2),if_pos c2]
   ·rw[aC (sqf c2),if_neg c2]
 rw[aC (sqf h2),if_neg h2]
 by_cases h3:q=[112]
 ·rw[aD (sq h3),if_pos h3]
  by_cases h:n.1=[114,111,119]
  ·rw[sq h,decide_eq_true h]
  ·rw[sqf h,decide_eq_false h]
 rw[aC (sqf h3),if_neg h3]
 by_cases h4:q=[114,111,119]
 ·rw[aD (sq h4),if_pos h4]
  by_cases h:n.1=[114,117,110]
  ·rw[sq h,decide_eq_true h]
  ·rw[sqf h,decide_eq_false h]
 rw[aC (sqf h4),if_neg h4]
 by_cases h5:q=[114,117,110]
 ·rw[aD (sq h5),if_pos h5]
  by_cases h:n.1=[]
  ·rw[sq h,decide_eq_true h]
  ·rw[sqf h,decide_eq_false h]
 rw[aC (sqf h5),if_neg h5]
theorem aLP(a b:Int):ieq a b=decide (a=b):=by
 by_cases h:a=b
 ·rw[dL h,decide_eq_true h]
 ·rw[cZ h,decide_eq_false h]
theorem aQ0(d:Doc):ieq (len d.2.2.2.2.2.2.1) 0=noE d:=by
 rw[aLP];unfold noE;rw[bA4,decide_eq_true_eq,decide_eq_true_eq];simp only[len];omega
theorem R2{l:List Nd}(hs:∀n∈l,smN n) (hb:bkL wtN l≤4000000):aB8 fuelH l=some (PY l):=by
 have hfu:=bF
 have hl:l.length≤4000000:=bBH (OQ (f:=wtN) (fun n=>by unfold wtN; omega) l) hb
 unfold aB8 PY;rw[bN (VJ hl hs)]
 by_cases hc:oK l=0
 ·have hck:=(EW hc).2.2
  have h8:=(EW hc).2.1
  have hd:=BI hck
  rw[aC (cN hc),if_neg (by simpa using hc)];simp only[aIC,aIB];rw[bT]
  have h:=cW (R:=Doc×Int×Int) (s:=l) (F:=fun v4 (v5:(List Ln)×Int×Doc) =>
   cnd (ilt v5.2.1 (len l))
    (grd (inb v5.2.1 (len l))
     (grd (in2 (aA l (toN v5.2.1) zN).2.2.2 (ofN (kM v5.1)))
      (jn (fun (v6:Ln) =>
       bnd (q91 fuelH (aA l (toN v5.2.1) zN,v6,ieq (len v5.2.2.2.2.2.2.2.2.1) (0:Int))) fun v7 =>
       cnd (bO v7)
        (some ((([]:Ln),([]:Ln),(0:UInt8),false,(0:Int),([]:List Reg),([]:List Ev),([]:List Cmt)),v5.2.1,(4:Int)))
        (bnd (q94 fuelH (aA l (toN v5.2.1) zN)) fun v8 =>
        cnd (bO v8)
         (some ((([]:Ln),([]:Ln),(0:UInt8),false,(0:Int),([]:List Reg),([]:List Ev),([]:List Cmt)),v5.2.1,(4:Int)))
         (bnd (mD fuelH (v5.2.2,aA l (toN v5.2.1) zN)) fun v9 =>
         cnd (ine v9.1 (0:Int))
          (some ((([]:Ln),([]:Ln),(0:UInt8),false,(0:Int),([]:List Reg),([]:List Ev),([]:List Cmt)),v5.2.1,v9.1))
          (grd (cH (aE (ofN (toN (aA l (toN v5.2.1) zN).2.2.2)) (len ([(aA l (toN v5.2.1) zN).1]:List Ln))) 16)
           (v4 (aU (bH (toN (aA l (toN v5.2.1) zN).2.2.2) v5.1) ([(aA l (toN v5.2.1) zN).1]:List Ln),w64 (aE v5.2.1 (1:Int)),v9.2))))))
      fun v10 =>
      cnd (ilt (0:Int) (aA l (toN v5.2.1) zN).2.2.2)
       (grd (inb (w64 (aI (aA l (toN v5.2.1) zN).2.2.2 (1:Int))) (ofN (toN (aA l (toN v5.2.1) zN).2.2.2)))
        (v10 (aA v5.1 (nI 0 (toN (w64 (aI (aA l (toN v5.2.1) zN).2.2.2 (1:Int))))) [])))
       (v10 ([]:Ln)))))
    (bnd (q48 fuelH v5.2.2) fun v2 =>
     cnd (ine v2 (0:Int))
      (some ((([]:Ln),([]:Ln),(0:UInt8),false,(0:Int),([]:List Reg),([]:List Ev),([]:List Cmt)),(0:Int),v2))
      (some (v5.2.2,(0:Int),(0:Int)))))
   (fun (a:List Ln×Doc) (j:Nat)=>(a.1,(j:Int),a.2)) (fun a r=>some (goS (l.length-r.length) a.1 a.2 r)) (fun j a=>Inv l j a.1 a.2) ?_ fuelH 0 ([],uK) (by omega) (bBR _) (aYM l)
  ·refine bBT h ?_;rw[bA6,bBN]
  ·intro self a j hj hI hself
   by_cases hjl:j<l.length
   ·have hin:inb (j:Int) (len l)=true:=aX (by simp only[len]; omega)
    have hw:w64 (aE (j:Int) 1)=((j+1:Nat):Int):=aQ hjl (by omega)
    have hn:=hs _ (bAS hjl)
    have hu:=aLM (hck j hjl)
    have hdep:=aAW hd hjl hI
    have hdle:0≤dep l[j]∧dep l[j]≤(a.1.length:Int)∧dep l[j]≤15:=by
     have:=hd.high j hjl
     rcases hdep with⟨_,k⟩|⟨_,k1,k2,_⟩
     ·omega
     ·omega
    dsimp only;rw[aD (aV (by simp only[len]; omega)),aF hin,pN hjl,hw]
    have hdd:l[j].2.2.2=dep l[j]:=rfl
    rw[hdd]
    have hon:ofN (kM a.1)=(a.1.length:Int):=rfl
    rw[hon,aF (jG (by omega)),aYY hjl]
    have e1:l.length-(l[j]::l.drop (j+1)).length=j:=by rw[bAH,bAL]; omega
    rw[e1];unfold goS
    have hofN:ofN (toN (dep l[j]))=dep l[j]:=by simp[ofN,toN]; omega
    have par:∀k:Ln→Option (Doc×Int×Int),jn k (fun k=>cnd (ilt 0 (dep l[j])) (grd (inb (w64 (aI (dep l[j]) 1)) (ofN (toN (dep l[j])))) (k (aA a.1 (nI 0 (toN (w64 (aI (dep l[j]) 1)))) []))) (k []))=k (wI a.1 l[j]):=by
     intro k;rw[bT];unfold wI
     by_cases h0:0<dep l[j]
     ·have hw2:w64 (aI (dep l[j]) 1)=dep l[j] - 1:=by simp only[aI]; rw[bS (by omega)]
      rw[aD (aV h0),if_pos h0,hw2,hofN,aF (aX (by omega))];congr 1
      have e2:nI 0 (toN (dep l[j] - 1))=(dep l[j]).toNat-1:=by
       have:toN (dep l[j] - 1)=(dep l[j]).toNat-1:=by simp only[toN]; omega
       rw[this];show 0+_=_;omega
      rw[e2];rfl
     ·rw[aC (aW h0),if_neg h0]
    rw[par];rw[aQ0,aIK,aB];unfold okN
    cases hf:WD l[j] (wI a.1 l[j]) (noE a.2) with
    |false=>rw[aD (by rfl),bA9,if_pos rfl]; rfl
    |true =>
     have hx:=aXV hc hjl hI hf
     rw[aC (by rfl),GF hn hu,aB,bBE]
     cases ha:FL l[j] with
     |false=>rw[aD (by rfl),if_pos rfl]; rfl
     |true =>
      rw[aC (by rfl),if_neg (by simp),aQY hn hu ha (aLN (by omega) hI hx),aB]
      by_cases he:(fS a.2 l[j]).1=0
      ·have htk:toN (dep l[j])=(dep l[j]).toNat:=rfl
       rw[aC (cN he),if_neg (by simpa using he),hofN,aF (cV (by simp only[aE,len,bAH,bAZ]; omega)),htk];refine(hself (a.1.take (dep l[j]).toNat++[l[j].1],(fS a.2 l[j]).2) (j+1) (by omega) (by omega) (aIJ hs hjl hI hx)).trans ?_
       have e3:l.length-(l.drop (j+1)).length=j+1:=by rw[bAL]; omega
       rw[e3]
      ·rw[aD (cA he),if_pos (by simpa using he)];rfl
   ·obtain rfl:j=l.length:=by omega
    have hsm:=aDM hI hl (by rw[bAO]; exact hb)
    dsimp only;rw[aC (aW (by simp only[len]; omega)),bAR,bN (iY hsm)];unfold goS aQZ
    by_cases h:cB a.2=0
    ·rw[aC (cN h),if_neg (by simpa using h)]
    ·rw[aD (cA h),if_pos h];rfl
 ·rw[aD (cA hc),if_pos hc];rfl
theorem JG(a:Nat) (l:Y_) (c:UInt8):jC a (l++[c])=jC a l*10+(c.toNat-48):=by
 unfold jC;rw[List.foldl_append,List.foldl_cons,List.foldl_nil];rfl
theorem wL{k:Nat}(h:k<10):(UInt8.ofNat (48+k)).toNat=48+k:=by
 rw[UInt8.toNat_ofNat'];exact Nat.mod_eq_of_lt (by omega)
theorem WF{k:Nat}(h:k<10):sT (UInt8.ofNat (48+k))=true:=by
 unfold sT n8;rw[wL h];exact decide_eq_true ⟨by omega,by omega⟩
theorem R3(n u:Nat):fO (n+1) u []=if 10≤u then fO n (u / 10) []++[UInt8.ofNat (48+u%10)] else [UInt8.ofNat (48+u)]:=by
 show aR (Nat.ble 10 u) (fO n (u / 10) [UInt8.ofNat (48+u%10)]) [UInt8.ofNat (48+u)]=_
 by_cases h:10≤u
 ·rw[if_pos h,Nat.ble_eq_true_of_le h,yF n (u / 10) [UInt8.ofNat (48+u%10)]];rfl
 ·have:Nat.ble 10 u=false:=by
   cases e:Nat.ble 10 u with
   |false=>rfl
   |true=>exact absurd (aZB e) h
  rw[if_neg h,this];rfl
theorem yX:∀(n u:Nat),0<n→u<10^n→jC 0 (fO n u [])=u∧(∀c∈fO n u [],sT c=true)∧fO n u []≠[]∧(1≤u→(fO n u []).headD 0≠48):=by
 intro n
 induction n with
 |zero=>intro u h; omega
 |succ n ih =>
  intro u _ hu;rw[R3]
  by_cases h:10≤u
  ·rw[if_pos h]
   have hn:0<n:=by
    cases n with
    |zero=>simp at hu; omega
    |succ n=>omega
   obtain⟨i1,i2,i3,i4⟩:=ih (u / 10) hn (by rw[Nat.pow_succ] at hu; omega)
   have hm:u%10<10:=Nat.mod_lt _ (by omega)
   refine⟨?_,?_,by simp,fun _=>?_⟩
   ·rw[JG,i1,wL hm]; omega
   ·intro c hc;rw[bAU,aZ6] at hc;rcases hc with hc|rfl
    ·exact i2 c hc
    ·exact WF hm
   ·have:=i4 (by omega)
    cases e:fO n (u / 10) [] with
    |nil=>exact absurd e i3
    |cons c t=>rw[e] at this; exact this
  ·rw[if_neg h]
   have hlt:u<10:=by omega
   refine⟨?_,?_,by simp,fun h1=>?_⟩
   ·have:=JG 0 [] (UInt8.ofNat (48+u))
    rw[bA0,FJ,wL hlt] at this;omega
   ·intro c hc;rw[aZ6] at hc;rw[hc];exact WF hlt
   ·show UInt8.ofNat (48+u)≠48;intro k
    have:=congrArg UInt8.toNat k
    rw[wL hlt] at this
    have e48:(48:UInt8).toNat=48:=rfl
    omega
theorem FO{n:Int}(h0:0≤n):eE n=fO 20 n.toNat []:=by
 obtain⟨k,rfl⟩:∃k:Nat,n=(k:Int):=⟨n.toNat,by omega⟩;rfl
theorem sG{n:Int}(h0:0≤n) (h1:n≤9223372036854775807):eE n≠[]:=by
 rw[FO h0];exact(yX 20 n.toNat (by omega) (by omega)).2.2.1
theorem mL{n hi:Int}(h0:0≤n) (h1:n≤9223372036854775807) (h2:n≤hi):aDJ (eE n) hi=(n,0):=by
 rw[FO h0];obtain⟨e1,e2,e3,e4⟩:=yX 20 n.toNat (by omega) (by omega)
 have hz:n.toNat=0→fO 20 n.toNat []=[48]:=fun h=>by rw[h]; rfl
 generalize fO 20 n.toNat []=s at *
 have hh:s.head?≠some 45:=by
  intro k
  cases s with
  |nil=>cases k
  |cons c t =>
   have:c=45:=by simpa using k
   have hd:=e2 c aZ4
   rw[this] at hd;exact absurd hd (by decide)
 unfold aDJ aH4;rw[if_neg hh,if_neg e3]
 have h48:¬(s.headD 0=48∧(1<s.length∨(false:Bool)=true)):=by
  intro k
  have hl:1<s.length:=k.2.resolve_right (by simp)
  by_cases hn:n.toNat=0
  ·rw[hz hn] at hl; simp at hl
  ·exact e4 (by omega) k.1
 have hany:s.any (fun c=>!sT c)=false:=by
  rw[List.any_eq_false];intro c hc;rw[e2 c hc];simp
 rw[if_neg h48,hany,if_neg nft,if_neg nft,e1,if_neg (by omega)]
 have:((n.toNat:Nat):Int)=n:=by omega
 rw[this]
theorem WI{n:Int}(h0:0≤n) (h2:n≤5184000):aLH (eE n++[102])=(n,0):=by
 unfold aLH;rw[List.getLast?_concat,if_pos rfl,List.dropLast_concat];exact mL h0 (by omega) h2
theorem JH(name:Ln):∀l:List At,name ∉ l.map Prod.fst→bU name l=([],false)
 | [],_=>rfl
 |a::l,h=>by
  simp only[bBC,bBB,not_or] at h;unfold bU;rw[if_neg (fun k=>h.1 k.symm)];exact JH name l h.2
theorem pG:∀(l:List At) (x:Ln),x∈(fQ l).map Prod.fst→x∈l.map Prod.fst
 | [],x,h=>h
 |a::l,x,h=>by
  have e:fQ (a::l)=kV a++fQ l:=rfl
  rw[e,bA3,bAU] at h;rw[bBC,bBB];rcases h with h|h
  ·unfold kV at h
   split at h
   ·cases h
   ·exact Or.inl (by simpa using h)
  ·exact Or.inr (pG l x h)
theorem FP(name:Ln):∀l:List At,(l.map Prod.fst).Nodup→bU name (fQ l)=if(bU name l).1=[] then([],false) else((bU name l).1,true)
 | [],_=>rfl
 |a::l,h=>by
  rw[bBC,List.nodup_cons] at h
  have ih:=FP name l h.2
  have e:fQ (a::l)=kV a++fQ l:=rfl
  rw[e];unfold kV
  by_cases h1:a.2=[]
  ·rw[if_pos h1,bA0]
   by_cases h2:a.1=name
   ·have:name ∉ (fQ l).map Prod.fst:=fun k=>h.1 (h2 ▸ pG l name k)
    have e2:bU name (a::l)=(a.2,true):=by unfold bU; rw[if_pos h2]
    rw[JH name _ this,e2,h1,if_pos rfl]
   ·have e2:bU name (a::l)=bU name l:=by
     show(if a.1=name then _ else _)=_;rw[if_neg h2]
    rw[e2];exact ih
  ·rw[if_neg h1]
   by_cases h2:a.1=name
   ·have e2:bU name (a::l)=(a.2,true):=by unfold bU; rw[if_pos h2]
    rw[e2,if_neg h1];show(if a.1=name then _ else _)=_;rw[if_pos h2]
   ·have e2:bU name (a::l)=bU name l:=by
     show(if a.1=name then _ else _)=_;rw[if_neg h2]
    rw[e2,←ih];show(if a.1=name then _ else bU name (fQ l))=_;rw[if_neg h2]
theorem FQ:∀l:List At,(l.map Prod.fst).Nodup→((fQ l).map Prod.fst).Nodup
 | [],h=>h
 |a::l,h=>by
  rw[bBC,List.nodup_cons] at h
  have ih:=FQ l h.2
  have e:fQ (a::l)=kV a++fQ l:=rfl
  rw[e];unfold kV
  split
  ·exact ih
  ·show(a.1::(fQ l).map Prod.fst).Nodup;rw[List.nodup_cons];exact⟨fun k=>h.1 (pG l _ k),ih⟩
theorem uL{k:Int}{n:Ln}{l:List At}(h:(l.map Prod.fst).Nodup) (name:Ln):eY (elQ k n l) name=(bU name l).1∧yP (elQ k n l) name=decide ((bU name l).1≠[]):=by
 have:=FP name l h
 constructor
 ·show(bU name (fQ l)).1=_;rw[this]
  by_cases e:(bU name l).1=[]
  ·rw[if_pos e,e]
  ·rw[if_neg e]
 ·show(bU name (fQ l)).2=_;rw[this]
  by_cases e:(bU name l).1=[]
  ·rw[if_pos e,decide_eq_false (by simpa using e)]
  ·rw[if_neg e,decide_eq_true e]
theorem QA{k:Int}{n:Ln}{l:List At}(h:(l.map Prod.fst).Nodup) (h1:∀x∈l.map Prod.fst,x∈yU n) (h2:∀w∈jO n,(bU w l).1≠[]):FL (elQ k n l)=true:=by
 unfold FL;rw[bAI,bAQ,bAQ];refine⟨fun a ha=>?_,fun w hw=>?_⟩
 ·rw[aZI];exact h1 _ (pG l _ (List.mem_map_of_mem ha))
 ·rw[aZI];refine(yS w _).1 ?_
  have:=(uL (k:=k) (n:=n) h w).2
  rw[decide_eq_true (h2 w hw)] at this;exact this
theorem aDN{r:UInt8}(h:1≤n8 r∧n8 r≤7):Q8 (oI r)=(r,0)∧oI r≠[]:=by
 have:=of_decide_eq_true (eT (P:=fun r=>decide (1≤n8 r∧n8 r≤7→Q8 (oI r)=(r,0)∧oI r≠[])) (by rfl) r)
 exact this h
theorem aDO{k:UInt8}(h:1≤n8 k∧n8 k≤4):AH (sP k)=(k,0)∧sP k≠[]:=by
 have:=of_decide_eq_true (eT (P:=fun r=>decide (1≤n8 r∧n8 r≤4→AH (sP r)=(r,0)∧sP r≠[])) (by rfl) k)
 exact this h
def chV(tab:List Ln) (v:Ln):Int×Int:=if v=[] then(0,0) else match aDK tab v with|some i=>((i:Int),0)|none=>(0,4)
theorem JI{k:Int}{n:Ln}{l:List At}(h:(l.map Prod.fst).Nodup) (tab:List Ln) (name:Ln):chT tab (elQ k n l) name=chV tab (bU name l).1:=by
 unfold chT chV;rw[(uL h name).1,(uL h name).2]
 by_cases e:(bU name l).1=[]
 ·rw[if_pos (by simpa using e),if_pos e]
 ·rw[if_neg (by simpa using e),if_neg e]<;>rfl
theorem R4{c:UInt8}(h:n8 c≤6):b8 (chV gl1 (EU c)).1=c∧(chV gl1 (EU c)).2=0:=by
 have:=of_decide_eq_true (eT (P:=fun c=>decide (n8 c≤6→b8 (chV gl1 (EU c)).1=c∧(chV gl1 (EU c)).2=0)) (by rfl) c)
 exact this h
theorem R5{a:UInt8}(h:1≤n8 a∧n8 a≤3):b8 (w64 (aE (chV gl0 (sQ a)).1 1))=a∧(chV gl0 (sQ a)).2=0∧sQ a≠[]:=by
 have:=of_decide_eq_true (eT (P:=fun a=>decide (1≤n8 a∧n8 a≤3→b8 (w64 (aE (chV gl0 (sQ a)).1 1))=a∧(chV gl0 (sQ a)).2=0∧sQ a≠[])) (by rfl) a)
 exact this h
theorem WJ(b:Bool):ieq (chV [[84,79,80],[66,79,84,84,79,77]] (if b then [66,79,84,84,79,77] else [84,79,80])).1 1=b∧(chV [[84,79,80],[66,79,84,84,79,77]] (if b then [66,79,84,84,79,77] else [84,79,80])).2=0∧(if b then [66,79,84,84,79,77] else [84,79,80]:Ln)≠[]:=by
 cases b
 ·exact⟨by rfl,by rfl,by decide⟩
 ·exact⟨by rfl,by rfl,by decide⟩
theorem yY(b:Bool):ieq (chV [[48],[49]] (PG b)).1 1=b∧(chV [[48],[49]] (PG b)).2=0:=by cases b<;>exact⟨by rfl,by rfl⟩
abbrev Hd5:=Ln×Ln×UInt8×Bool×Int
def mkD(h:Hd5) (rs:List Reg) (evs:List Ev):Doc:=(h.1,h.2.1,h.2.2.1,h.2.2.2.1,h.2.2.2.2,rs,evs,[])
def dE(h:Hd5) (rs:List Reg) (es:List Ev) (e:Ev) (rows:List Row):Doc:=mkD h rs (es++[(e.1,e.2.1,e.2.2.1,e.2.2.2.1,e.2.2.2.2.1,rows)])
theorem FR(h:Hd5) (rs:List Reg) (es:List Ev) (e:Ev) (rows:List Row):dM (dE h rs es e rows)=rows:=by
 show(aP (es++[_]) evY).2.2.2.2.2=rows;rw[kK]
theorem QB(h:Hd5) (rs:List Reg) (es:List Ev) (e:Ev) (rows rows':List Row):uJ (dE h rs es e rows) rows'=dE h rs es e rows':=by
 unfold uJ dE mkD;dsimp only;rw[kK,mK]
theorem sH{i:Nat}{op:List Ln}{d d':Doc}{n:Nd}{r:List Nd}(h1:okN op d n=true) (h2:fS d n=(0,d')):goS i op d (n::r)=goS (i+1) (op.take (dep n).toNat++[n.1]) d' r:=by
 have e:goS i op d (n::r)=if okN op d n=false then(uK,(i:Int),4) else if(fS d n).1≠0 then(uK,(i:Int),(fS d n).1) else goS (i+1) (op.take (dep n).toNat++[n.1]) (fS d n).2 r:=rfl
 rw[e,h1,if_neg (by simp),h2,if_neg (by simp)]
theorem wM{α:Type}{P:List Ln→Prop}{Q:α→Prop}{g:α→List Nd}{D:List α→Doc}(hs:∀x i op acc r,Q x→P op→∃i' op',P op'∧goS i op (D acc) (g x++r)=goS i' op' (D (acc++[x])) r) :
  ∀(l:List α) (acc:List α) (i:Nat) (op:List Ln) (r:List Nd),(∀x∈l,Q x)→P op→∃i' op',P op'∧goS i op (D acc) (l.flatMap g++r)=goS i' op' (D (acc++l)) r
 | [],acc,i,op,r,_,hp=>⟨i,op,hp,by simp⟩
 |x::l,acc,i,op,r,hq,hp=>by
  obtain⟨i1,op1,p1,e1⟩:=hs x i op acc (l.flatMap g++r) (hq x aZ4) hp;obtain⟨i2,op2,p2,e2⟩:=wM hs l (acc++[x]) i1 op1 r (fun y hy=>hq y (aZL _ hy)) p1;refine⟨i2,op2,p2,?_⟩;rw[List.flatMap_cons,bAA,e1,e2,bAA];rfl
theorem WK{op:List Ln}{d:Doc}{n:Nd}(h1:WD n (wI op n) (noE d)=true) (h2:FL n=true):okN op d n=true:=by unfold okN; rw[h1,h2]; rfl
theorem sI{op z:List Ln}{k:Nat}(h:op.take (k+1)=z) (hz:z.length=k+1):op.getD k []=z.getD k []:=by
 rw[←h,aYU,aYU,List.getElem?_take_of_lt (by omega)]
theorem JJ(u:Run):((kS u).map Prod.fst).Nodup:=(by decide:([[99,111,108,111,114],[105,116,97,108,105,99],[117,110,100,101,114,108,105,110,101],[114,117,98,121]]:List Ln).Nodup)
theorem aQ1(h:Hd5) (rs:List Reg) (es:List Ev) (e:Ev) (rows:List Row) (u:Run) (i:Nat) (op:List Ln) (acc:List Run) (r:List Nd) (hu:n8 u.2.1.1≤6) (hp:op.take 3=[[116,116],[112],[114,111,119]]) :
  ∃i' op',op'.take 3=[[116,116],[112],[114,111,119]]∧goS i op (dE h rs es e (rows++[acc])) (runN u++r)=goS i' op' (dE h rs es e (rows++[acc++[u]])) r:=by
 have hn:=JJ u
 have e1:runN u++r=elQ 3 [114,117,110] (kS u)::(([],u.1,[],4):Nd)::r:=rfl
 have a1:okN op (dE h rs es e (rows++[acc])) (elQ 3 [114,117,110] (kS u))=true:=by
  refine WK ?_ (QA hn (fun x hx=>hx) (fun w hw=>by cases hw))
  have:wI op (elQ 3 [114,117,110] (kS u))=[114,111,119]:=(sI (k:=2) hp rfl)
  rw[this];rfl
 have v:∀w,eY (elQ 3 [114,117,110] (kS u)) w=(bU w (kS u)).1:=fun w=>(uL hn w).1
 have hc:=R4 hu
 have hi:=yY u.2.1.2.1
 have hud:=yY u.2.1.2.2
 have fc:Q7 (elQ 3 [114,117,110] (kS u))=(u.2.1.1,0):=by
  unfold Q7;rw[JI hn];exact Prod.ext hc.1 hc.2
 have fi:flT (elQ 3 [114,117,110] (kS u)) [105,116,97,108,105,99]=(u.2.1.2.1,0):=by
  unfold flT;rw[JI hn];exact Prod.ext hi.1 hi.2
 have fu:flT (elQ 3 [114,117,110] (kS u)) [117,110,100,101,114,108,105,110,101]=(u.2.1.2.2,0):=by
  unfold flT;rw[JI hn];exact Prod.ext hud.1 hud.2
 have a2:fS (dE h rs es e (rows++[acc])) (elQ 3 [114,117,110] (kS u))=(0,dE h rs es e (rows++[acc++[([],u.2.1,u.2.2)]])):=by
  have:fS (dE h rs es e (rows++[acc])) (elQ 3 [114,117,110] (kS u))=aIF (dE h rs es e (rows++[acc])) (elQ 3 [114,117,110] (kS u)):=rfl
  rw[this];unfold aIF R0;rw[fc,fi,fu,v,QB];unfold hY;rw[FR,kK,mK];rfl
 rw[e1,sH a1 a2]
 have ho:op.take (dep (elQ 3 [114,117,110] (kS u))).toNat++[(elQ 3 [114,117,110] (kS u)).1]=[[116,116],[112],[114,111,119],[114,117,110]]:=by
  show op.take 3++[[114,117,110]]=_;rw[hp]; rfl
 rw[ho]
 have b2:fS (dE h rs es e (rows++[acc++[([],u.2.1,u.2.2)]])) (([],u.1,[],4):Nd)=(0,dE h rs es e (rows++[acc++[u]])):=by
  have:fS (dE h rs es e (rows++[acc++[([],u.2.1,u.2.2)]])) (([],u.1,[],4):Nd)=aIG (dE h rs es e (rows++[acc++[([],u.2.1,u.2.2)]])) (([],u.1,[],4):Nd):=rfl
  rw[this];unfold aIG hY;rw[QB,FR,kK,kK,mK,mK]
 exact⟨i+1+1,_,by rfl,sH (by rfl) b2⟩
theorem aQ2(h:Hd5) (rs:List Reg) (es:List Ev) (e:Ev) (row:Row) (i:Nat) (op:List Ln) (acc:List Row) (r:List Nd) (hu:∀u∈row,n8 u.2.1.1≤6) (hp:op.take 2=[[116,116],[112]]) :
  ∃i' op',op'.take 2=[[116,116],[112]]∧goS i op (dE h rs es e acc) (rowN row++r)=goS i' op' (dE h rs es e (acc++[row])) r:=by
 have e1:rowN row++r=elQ 2 [114,111,119] []::(row.flatMap runN++r):=rfl
 have a1:okN op (dE h rs es e acc) (elQ 2 [114,111,119] [])=true:=by
  refine WK ?_ (by rfl)
  have:wI op (elQ 2 [114,111,119] [])=[112]:=(sI (k:=1) hp rfl)
  rw[this];rfl
 have a2:fS (dE h rs es e acc) (elQ 2 [114,111,119] [])=(0,dE h rs es e (acc++[[]])):=by
  have:fS (dE h rs es e acc) (elQ 2 [114,111,119] [])=(0,uJ (dE h rs es e acc) (dM (dE h rs es e acc)++[[]])):=rfl
  rw[this,QB,FR]
 rw[e1,sH a1 a2]
 have ho:op.take (dep (elQ 2 [114,111,119] [])).toNat++[(elQ 2 [114,111,119] []).1]=[[116,116],[112],[114,111,119]]:=by
  show op.take 2++[[114,111,119]]=_;rw[hp]; rfl
 rw[ho];obtain⟨i',op',p',e'⟩:=wM (P:=fun op=>op.take 3=[[116,116],[112],[114,111,119]]) (Q:=fun u:Run=>n8 u.2.1.1≤6) (g:=runN) (D:=fun us=>dE h rs es e (acc++[us])) (fun u i op us r hq hp=>aQ1 h rs es e acc u i op us r hq hp) row [] (i+1) [[116,116],[112],[114,111,119]] r hu rfl;refine⟨i',op',?_,e'⟩
 have:=congrArg (List.take 2) p'
 rw[List.take_take] at this;exact this
theorem aLQ{x:Ev}{rs:List Reg}(h:oB x rs=0):1≤n8 x.2.2.2.1∧n8 x.2.2.2.1≤4:=by
 unfold oB at h
 split at h
 ·cases h
 split at h
 ·cases h
 split at h
 ·cases h
 split at h
 ·cases h
 split at h
 ·cases h
 ·rename_i hk;exact Decidable.of_not_not hk
structure EvQ (e:Ev):Prop where
 id:1≤e.1∧e.1≤1099511627776
 sp:0≤e.2.1.1∧e.2.1.1≤5184000∧0≤e.2.1.2∧e.2.1.2≤5184000
 kd:1≤n8 e.2.2.2.1∧n8 e.2.2.2.1≤4
 co:∀l∈e.2.2.2.2.2,∀u∈l,n8 u.2.1.1≤6
theorem WL(e:Ev):((evA e).map Prod.fst).Nodup:=(by decide:([[105,100],[105,110],[111,117,116],[114,101,103,105,111,110],[107,105,110,100],[115,112,101,97,107,101,114]]:List Ln).Nodup)
theorem aXW(h:Hd5) (rs:List Reg) (e:Ev) (i:Nat) (op:List Ln) (acc:List Ev) (r:List Nd) (he:EvQ e) (hp:op.take 1=[[116,116]]) :
  ∃i' op',op'.take 1=[[116,116]]∧goS i op (mkD h rs acc) (evN e++r)=goS i' op' (mkD h rs (acc++[e])) r:=by
 have hn:=WL e
 obtain⟨i1,i2⟩:=he.id;obtain⟨s1,s2,s3,s4⟩:=he.sp
 have hk:=aDO he.kd
 have e1:evN e++r=elQ 1 [112] (evA e)::(e.2.2.2.2.2.flatMap rowN++r):=rfl
 have v:∀w,eY (elQ 1 [112] (evA e)) w=(bU w (evA e)).1:=fun w=>(uL hn w).1
 have a1:okN op (mkD h rs acc) (elQ 1 [112] (evA e))=true:=by
  refine WK ?_ (QA hn (fun x hx=>hx) (fun w hw=>?_))
  ·have:wI op (elQ 1 [112] (evA e))=[116,116]:=(sI (k:=0) hp rfl)
   rw[this];rfl
  ·have hw:w∈[[105,100],[105,110],[111,117,116],[107,105,110,100]]:=hw
   simp only[bBB,List.not_mem_nil,or_false] at hw;rcases hw with rfl|rfl|rfl|rfl
   ·exact sG (by omega) (by omega)
   ·show eE e.2.1.1++[102]≠[]; simp
   ·show eE e.2.1.2++[102]≠[]; simp
   ·exact hk.2
 have n1:iL (elQ 1 [112] (evA e)) [105,100] zP=(e.1,0):=by
  unfold iL; rw[v]; exact mL (by omega) (by omega) (by unfold zP; omega)
 have n2:uI (elQ 1 [112] (evA e)) [105,110]=(e.2.1.1,0):=by
  unfold uI; rw[v]; exact WI s1 s2
 have n3:uI (elQ 1 [112] (evA e)) [111,117,116]=(e.2.1.2,0):=by
  unfold uI; rw[v]; exact WI s3 s4
 have n4:AH (eY (elQ 1 [112] (evA e)) [107,105,110,100])=(e.2.2.2.1,0):=by rw[v]; exact hk.1
 have a2:fS (mkD h rs acc) (elQ 1 [112] (evA e))=(0,dE h rs acc e []):=by
  have:fS (mkD h rs acc) (elQ 1 [112] (evA e))=FM (mkD h rs acc) (elQ 1 [112] (evA e)):=rfl
  rw[this];unfold FM evT;rw[n1,n2,n3,n4,v,v];rfl
 rw[e1,sH a1 a2]
 have ho:op.take (dep (elQ 1 [112] (evA e))).toNat++[(elQ 1 [112] (evA e)).1]=[[116,116],[112]]:=by
  show op.take 1++[[112]]=_;rw[hp]; rfl
 rw[ho];obtain⟨i',op',p',e'⟩:=wM (P:=fun op=>op.take 2=[[116,116],[112]]) (Q:=fun l:Row=>∀u∈l,n8 u.2.1.1≤6) (g:=rowN) (D:=fun rows=>dE h rs acc e rows) (fun l i op rows r hq hp=>aQ2 h rs acc e l i op rows r hq hp) e.2.2.2.2.2 [] (i+1) [[116,116],[112]] r he.co rfl;refine⟨i',op',?_,e'⟩
 have:=congrArg (List.take 1) p'
 rw[List.take_take] at this;exact this
theorem JK(g:Reg):((kT g).map Prod.fst).Nodup:=(by decide:([[110,97,109,101],[116,111,112],[104,101,105,103,104,116],[108,101,102,116],[119,105,100,116,104],[97,108,105,103,110],[97,110,99,104,111,114]]:List Ln).Nodup)
theorem aQ3(h:Hd5) (g:Reg) (i:Nat) (op:List Ln) (acc:List Reg) (r:List Nd) (hg:eF g=0) (hp:op.take 1=[[116,116]]) :
  ∃i' op',op'.take 1=[[116,116]]∧goS i op (mkD h acc []) (pC g++r)=goS i' op' (mkD h (acc++[g]) []) r:=by
 have hn:=JK g
 obtain⟨q1,q2,q3,q4,q5,q6,q7⟩:=oJ hg
 have e1:pC g++r=elQ 1 [114,101,103,105,111,110] (kT g)::r:=rfl
 have v:∀w,eY (elQ 1 [114,101,103,105,111,110] (kT g)) w=(bU w (kT g)).1:=fun w=>(uL hn w).1
 have hal:=R5 (a:=g.2.2.2.2.2.1) ⟨q6,q7⟩
 have han:=WJ g.2.2.2.2.2.2
 have hnm:g.1≠[]:=fun k=>by rw[k] at q1; cases q1
 have a1:okN op (mkD h acc []) (elQ 1 [114,101,103,105,111,110] (kT g))=true:=by
  refine WK ?_ (QA hn (fun x hx=>hx) (fun w hw=>?_))
  ·have:wI op (elQ 1 [114,101,103,105,111,110] (kT g))=[116,116]:=(sI (k:=0) hp rfl)
   rw[this];rfl
  ·have hw:w∈[[110,97,109,101],[116,111,112],[104,101,105,103,104,116],[108,101,102,116],[119,105,100,116,104],[97,108,105,103,110],[97,110,99,104,111,114]]:=hw
   simp only[bBB,List.not_mem_nil,or_false] at hw;rcases hw with rfl|rfl|rfl|rfl|rfl|rfl|rfl
   ·exact hnm
   ·exact sG (by omega) (by omega)
   ·exact sG (by omega) (by omega)
   ·exact sG (by omega) (by omega)
   ·exact sG (by omega) (by omega)
   ·exact hal.2.2
   ·exact han.2.2
 have n1:iL (elQ 1 [114,101,103,105,111,110] (kT g)) [116,111,112] 32=(g.2.1,0):=by unfold iL; rw[v]; exact mL (by omega) (by omega) (by omega)
 have n2:iL (elQ 1 [114,101,103,105,111,110] (kT g)) [104,101,105,103,104,116] 32=(g.2.2.1,0):=by unfold iL; rw[v]; exact mL (by omega) (by omega) (by omega)
 have n3:iL (elQ 1 [114,101,103,105,111,110] (kT g)) [108,101,102,116] 32=(g.2.2.2.1,0):=by unfold iL; rw[v]; exact mL (by omega) (by omega) (by omega)
 have n4:iL (elQ 1 [114,101,103,105,111,110] (kT g)) [119,105,100,116,104] 32=(g.2.2.2.2.1,0):=by unfold iL; rw[v]; exact mL (by omega) (by omega) (by omega)
 have c1:chT gl0 (elQ 1 [114,101,103,105,111,110] (kT g)) [97,108,105,103,110]=chV gl0 (sQ g.2.2.2.2.2.1):=JI hn gl0 [97,108,105,103,110]
 have c2:chT [[84,79,80],[66,79,84,84,79,77]] (elQ 1 [114,101,103,105,111,110] (kT g)) [97,110,99,104,111,114]=chV [[84,79,80],[66,79,84,84,79,77]] (if g.2.2.2.2.2.2 then [66,79,84,84,79,77] else [84,79,80]):=JI hn _ [97,110,99,104,111,114]
 have a2:fS (mkD h acc []) (elQ 1 [114,101,103,105,111,110] (kT g))=(0,mkD h (acc++[g]) []):=by
  have:fS (mkD h acc []) (elQ 1 [114,101,103,105,111,110] (kT g))=WC (mkD h acc []) (elQ 1 [114,101,103,105,111,110] (kT g)):=rfl
  rw[this];unfold WC aQX;rw[n1,n2,n3,n4,c1,c2,hal.1,hal.2.1,han.1,han.2.1,v];rfl
 rw[e1,sH a1 a2];refine⟨i+1,_,?_,rfl⟩;show(op.take 1++[[114,101,103,105,111,110]]).take 1=_;rw[hp]; rfl
theorem uM{d:Doc}(h:iX d=0):vld d.1=true∧d.1.length≤400∧(d.2.1=[]∨nm d.2.1=true)∧tvB d.2.2.1=true:=by
 unfold iX at h
 split at h
 ·cases h
 rename_i c1
 split at h
 ·cases h
 rename_i c2
 split at h
 ·cases h
 rename_i c3
 split at h
 ·cases h
 rename_i c4;refine⟨by simpa using c1,by omega,?_,?_⟩
 ·by_cases e:d.2.1=[]
  ·exact Or.inl e
  ·refine Or.inr ?_
   cases hn:nm d.2.1 with
   |true=>rfl
   |false=>exact absurd ⟨e,hn⟩ c3
 ·cases ht:tvB d.2.2.1 with
  |true=>rfl
  |false=>exact absurd (Or.inl ht) c4
theorem aQ4:((List.range 256).all fun n=>decide (tvB (UInt8.ofNat n)=true→1≤n8 (UInt8.ofNat n)∧n8 (UInt8.ofNat n)≤7))=true:=by kernel_rfl
theorem aXX{r:UInt8}(h:tvB r=true):1≤n8 r∧n8 r≤7 :=
 of_decide_eq_true (eT (P:=fun r=>decide (tvB r=true→1≤n8 r∧n8 r≤7)) aQ4 r) h
theorem WN(d:Doc):((dU d).map Prod.fst).Nodup:=(by decide:([[116,105,116,108,101],[108,97,110,103],[114,97,116,101],[100,114,111,112],[108,97,115,116]]:List Ln).Nodup)
def hdO(d:Doc):Hd5:=(d.1,d.2.1,d.2.2.1,d.2.2.2.1,d.2.2.2.2.1)
theorem aLR{d:Doc}(h:cB d=0) (r:List Nd):goS 0 [] uK (elQ 0 [116,116] (dU d)::r)=goS 1 [[116,116]] (mkD (hdO d) [] []) r:=by
 have hn:=WN d
 obtain⟨_,_,_,h4⟩:=uM (jM h).1;obtain⟨l1,l2⟩:=vZ h
 have hr:=aDN (aXX h4)
 have hf:=yY d.2.2.2.1
 have v:∀w,eY (elQ 0 [116,116] (dU d)) w=(bU w (dU d)).1:=fun w=>(uL hn w).1
 have a1:okN [] uK (elQ 0 [116,116] (dU d))=true:=by
  refine WK (by rfl) (QA hn (fun x hx=>hx) (fun w hw=>?_))
  have hw:w∈([[114,97,116,101],[108,97,115,116]]:List Ln):=hw
  simp only[bBB,List.not_mem_nil,or_false] at hw;rcases hw with rfl|rfl
  ·exact hr.2
  ·exact sG l1 (by omega)
 have n1:iL (elQ 0 [116,116] (dU d)) [108,97,115,116] zP=(d.2.2.2.2.1,0):=by
  unfold iL; rw[v]; exact mL l1 (by omega) (by unfold zP; omega)
 have n2:Q8 (eY (elQ 0 [116,116] (dU d)) [114,97,116,101])=(d.2.2.1,0):=by rw[v]; exact hr.1
 have n3:flT (elQ 0 [116,116] (dU d)) [100,114,111,112]=(d.2.2.2.1,0):=by
  unfold flT;rw[JI hn];exact Prod.ext hf.1 hf.2
 have a2:fS uK (elQ 0 [116,116] (dU d))=(0,mkD (hdO d) [] []):=by
  have:fS uK (elQ 0 [116,116] (dU d))=JF uK (elQ 0 [116,116] (dU d)):=rfl
  rw[this];unfold JF;rw[n1,n2,n3,v,v];rfl
 exact sH a1 a2
theorem aAX{d:Doc}(h:cB d=0):cB (yN d)=0:=by
 unfold cB at h
 split at h
 ·rename_i hc; exact absurd h hc
 rename_i c1
 split at h
 ·rename_i hc; exact absurd h hc
 rename_i c2
 split at h
 ·cases h
 rename_i c3
 split at h
 ·rename_i hc; exact absurd h hc
 rename_i c4
 have e1:iX (yN d)=iX d:=rfl
 have e2:uG (yN d)=uG d:=rfl
 have e3:sD (yN d)=0:=by
  unfold sD;rw[if_neg (by simp[yN])];rfl
 unfold cB;rw[e1,e2,e3,if_neg c1,if_neg (show ¬jR (yN d).2.2.2.2.2.1≠0 from c2),if_neg (show ¬400<(yN d).2.2.2.2.2.2.1.length from c3),if_neg c4]
theorem aQ5{d:Doc}(h:cB d=0):∀e∈d.2.2.2.2.2.2.1,EvQ e:=fun e he=>by
 obtain⟨q1,q2,q3,q4,q5⟩:=(EV h).ev e he
 have hk:=aLQ (PI (jM h).2.2 e he)
 exact⟨⟨q1,q2⟩,⟨q3.1,by omega,by omega,q3.2.2⟩,hk,fun l hl u hu=>(q5 l hl).2 u hu⟩
theorem aXY{d:Doc}(h:cB d=0) (hk:oK (dV d)=0):PY (dV d)=(yN d,0,0):=by
 unfold PY;rw[if_neg (by simpa using hk)]
 have e0:dV d=elQ 0 [116,116] (dU d)::(d.2.2.2.2.2.1.flatMap pC++(d.2.2.2.2.2.2.1.flatMap evN++[])):=by
  unfold dV;rw[bAV,bAA];rfl
 rw[e0,aLR h];obtain⟨i1,op1,p1,e1⟩:=wM (P:=fun op=>op.take 1=[[116,116]]) (Q:=fun g:Reg=>eF g=0) (g:=pC) (D:=fun rs=>mkD (hdO d) rs []) (fun g i op acc r hq hp=>aQ3 (hdO d) g i op acc r hq hp) d.2.2.2.2.2.1 [] 1 [[116,116]] (d.2.2.2.2.2.2.1.flatMap evN++[]) (EV h).reg rfl;obtain⟨i2,op2,p2,e2⟩:=wM (P:=fun op=>op.take 1=[[116,116]]) (Q:=EvQ) (g:=evN) (D:=fun es=>mkD (hdO d) d.2.2.2.2.2.1 es) (fun e i op acc r hq hp=>aXW (hdO d) d.2.2.2.2.2.1 e i op acc r hq hp) d.2.2.2.2.2.2.1 [] i1 op1 [] (aQ5 h) p1
 have e1:goS 1 [[116,116]] (mkD (hdO d) [] []) (d.2.2.2.2.2.1.flatMap pC++(d.2.2.2.2.2.2.1.flatMap evN++[]))=goS i1 op1 (mkD (hdO d) d.2.2.2.2.2.1 []) (d.2.2.2.2.2.2.1.flatMap evN++[]):=e1
 have e2:goS i1 op1 (mkD (hdO d) d.2.2.2.2.2.1 []) (d.2.2.2.2.2.2.1.flatMap evN++[])=goS i2 op2 (mkD (hdO d) d.2.2.2.2.2.1 d.2.2.2.2.2.2.1) []:=e2
 rw[e1,e2]
 have:mkD (hdO d) d.2.2.2.2.2.1 d.2.2.2.2.2.2.1=yN d:=rfl
 rw[this];unfold goS aQZ;rw[if_neg (by simpa using aAX h)]
theorem aLS:((List.range 256).all fun n=>decide (32≤n8 (UInt8.ofNat n)∧n8 (UInt8.ofNat n)≤126→dR (n8 (UInt8.ofNat n))=true∧ofR [n8 (UInt8.ofNat n)]=[UInt8.ofNat n]))=true:=by kernel_rfl
theorem lG:∀s:Ln,(∀c∈s,32≤n8 c∧n8 c≤126)→vld s=true
 | [],_=>rfl
 |c::s,h=>by
  have ih:=lG s fun x hx=>h x (aZL _ hx)
  obtain⟨h1,h2⟩:=of_decide_eq_true (eT (P:=fun c=>decide (32≤n8 c∧n8 c≤126→dR (n8 c)=true∧ofR [n8 c]=[c])) aLS c) (h c aZ4)
  have:=Z9 [n8 c] s (by rw[bBF,h1]; rfl)
  rw[h2] at this;exact this.trans ih
theorem QC{s:Ln}(h:nm s=true):vld s=true:=by
 refine lG s fun c hc=>?_
 unfold nm at h;rw[bAI,bAQ] at h
 have:=of_decide_eq_true (h.2 c hc)
 omega
theorem kL{n:Int}(h0:0≤n) (h1:n≤9223372036854775807):∀c∈eE n,32≤n8 c∧n8 c≤126:=fun c hc=>by
 rw[FO h0] at hc
 have:=of_decide_eq_true ((yX 20 n.toNat (by omega) (by omega)).2.1 c hc)
 omega
theorem aIL(c:UInt8):vld (sP c)=true:=of_decide_eq_true (eT (P:=fun c=>decide (vld (sP c)=true)) (by kernel_rfl) c)
theorem aIM(c:UInt8):vld (oI c)=true:=of_decide_eq_true (eT (P:=fun c=>decide (vld (oI c)=true)) (by kernel_rfl) c)
theorem aIN(c:UInt8):vld (sQ c)=true:=of_decide_eq_true (eT (P:=fun c=>decide (vld (sQ c)=true)) (by kernel_rfl) c)
theorem aIO(c:UInt8) (h:n8 c≤6):vld (EU c)=true:=of_decide_eq_true (eT (P:=fun c=>decide (n8 c≤6→vld (EU c)=true)) (by kernel_rfl) c) h
theorem aaFS(b:Bool):vld (PG b)=true:=by cases b<;>rfl
theorem WP:∀(l:List At) (seen:List Ln),(∀a∈l,nmX a.1=true∧vld a.2=true∧a.1 ∉ seen)→(l.map Prod.fst).Nodup→atE seen l=0
 | [],_,_,_=>rfl
 |a::l,seen,h,hn=>by
  obtain⟨h1,h2,h3⟩:=h a aZ4;rw[bBC,List.nodup_cons] at hn;unfold atE;rw[h1,h2,if_neg (by simp),if_neg h3,if_neg (by simp)];refine WP l (seen++[a.1]) (fun b hb=>?_) hn.2;obtain⟨q1,q2,q3⟩:=h b (aZL _ hb);refine⟨q1,q2,fun k=>?_⟩;rw[bAU,aZ6] at k;rcases k with k|k
  ·exact q3 k
  ·exact hn.1 (k ▸ List.mem_map_of_mem hb)
theorem FT:∀(l:List At) (a:At),a∈fQ l→a∈l
 | [],a,h=>h
 |b::l,a,h=>by
  have e:fQ (b::l)=kV b++fQ l:=rfl
  rw[e,bAU] at h;rcases h with h|h
  ·unfold kV at h
   split at h
   ·cases h
   ·rw[aZ6] at h; rw[h]; exact aZ4
  ·exact aZL _ (FT l a h)
theorem wN{k:Int}{n:Ln}{l:List At}(hn:nmX n=true) (hl:l.length≤16) (hd:(l.map Prod.fst).Nodup) (h:∀a∈l,nmX a.1=true∧vld a.2=true):elE (elQ k n l)=0:=by
 have h1:¬nmX (elQ k n l).1=false:=by
  show ¬nmX n=false;rw[hn]; simp
 have h2:¬(elQ k n l).2.1≠[]:=by show ¬([]:Ln)≠[]; simp
 have h3:¬16<(elQ k n l).2.2.1.length:=by
  show ¬16<(fQ l).length
  have:=VG l
  omega
 unfold elE;rw[if_neg h1,if_neg h2,if_neg h3];exact WP _ _ (fun a ha=>⟨(h a (FT l a ha)).1,(h a (FT l a ha)).2,by simp⟩) (FQ l hd)
def nG(q:Nd):Int:=if q.1≠[] then dep q+1 else dep q
theorem R6{q n:Nd}(h1:1≤dep n) (h2:dep n≤nG q) (h3:dep n≤15):sR (some q) n=0:=by
 have e:sR (some q) n=if dep n<1 then 8 else if nG q<dep n then 8 else if 15<dep n then 9 else 0:=rfl
 rw[e,if_neg (by omega),if_neg (by omega),if_neg (by omega)]
theorem aAY{q n:Nd}(h1:1≤dep n) (h2:dep n≤nG q) (h3:dep n≤15) (hn:n.1≠[]) (he:elE n=0):ndE (some q) n=0:=by
 unfold ndE;rw[if_neg (by rw[R6 h1 h2 h3]; simp),if_pos hn,he]
theorem aXZ{q n:Nd}(h1:1≤dep n) (h2:dep n≤nG q) (h3:dep n≤15) (hq:q.1≠[]) (hn:n.1=[]) (ht:n.2.1≠[]) (ha:n.2.2.1=[]) (hv:vld n.2.1=true):ndE (some q) n=0:=by
 unfold ndE;rw[if_neg (by rw[R6 h1 h2 h3]; simp),if_neg (by simpa using hn)]
 have hp:txP (some q) n=false:=by
  show decide (q.1=[]∧dep q=dep n)=false;exact decide_eq_false fun k=>hq k.1
 unfold txE;rw[hp,if_neg nft,if_neg ht,ha,if_neg (by simp),hv,if_neg (by simp)]
theorem jT{p:Option Nd}{n:Nd}{r:List Nd}(h:ndE p n=0):ckE p (n::r)=ckE (some n) r:=by
 have e:ckE p (n::r)=if ndE p n≠0 then ndE p n else ckE (some n) r:=rfl
 rw[e,h,if_neg (by simp)]
theorem wO{α:Type}{Q:α→Prop}{g:α→List Nd}{c:Int}(hs:∀x q r,Q x→c≤nG q→∃q',c≤nG q'∧ckE (some q) (g x++r)=ckE (some q') r) :
  ∀(l:List α) (q:Nd) (r:List Nd),(∀x∈l,Q x)→c≤nG q→∃q',c≤nG q'∧ckE (some q) (l.flatMap g++r)=ckE (some q') r
 | [],q,r,_,hc=>⟨q,hc,rfl⟩
 |x::l,q,r,hq,hc=>by
  obtain⟨q1,c1,e1⟩:=hs x q (l.flatMap g++r) (hq x aZ4) hc;obtain⟨q2,c2,e2⟩:=wO hs l q1 r (fun y hy=>hq y (aZL _ hy)) c1;refine⟨q2,c2,?_⟩;rw[List.flatMap_cons,bAA,e1,e2]
def aIP(u:Run):Prop:=vld u.1=true∧u.1≠[]∧n8 u.2.1.1≤6∧vld u.2.2=true
theorem aQ6(u:Run) (q:Nd) (r:List Nd) (h:aIP u) (hc:3≤nG q):∃q',3≤nG q'∧ckE (some q) (runN u++r)=ckE (some q') r:=by
 obtain⟨h1,h2,h3,h4⟩:=h
 have he:elE (elQ 3 [114,117,110] (kS u))=0:=by
  refine wN (by rfl) (by simp[kS]) (JJ u) fun a ha=>?_
  simp only[kS,bBB,List.not_mem_nil,or_false] at ha;rcases ha with rfl|rfl|rfl|rfl
  ·exact⟨by rfl,aIO _ h3⟩
  ·exact⟨by rfl,aaFS _⟩
  ·exact⟨by rfl,aaFS _⟩
  ·exact⟨by rfl,h4⟩
 have e1:runN u++r=elQ 3 [114,117,110] (kS u)::(([],u.1,[],4):Nd)::r:=rfl
 have d3:dep (elQ 3 [114,117,110] (kS u))=3:=rfl
 have d4:dep (([],u.1,[],4):Nd)=4:=rfl
 have c4:nG (elQ 3 [114,117,110] (kS u))=4:=rfl
 refine⟨([],u.1,[],4),by show(3:Int)≤4; omega,?_⟩;rw[e1,jT (aAY (by omega) (by omega) (by omega) (by show [114,117,110]≠[]; simp) he),jT (aXZ (by omega) (by omega) (by omega) (by show [114,117,110]≠[]; simp) rfl h2 rfl h1)]
theorem aQ7(l:Row) (q:Nd) (r:List Nd) (h:∀u∈l,aIP u) (hc:2≤nG q):∃q',2≤nG q'∧ckE (some q) (rowN l++r)=ckE (some q') r:=by
 have he:elE (elQ 2 [114,111,119] [])=0:=wN (by rfl) (by simp) (by simp) fun a ha=>by cases ha
 have e1:rowN l++r=elQ 2 [114,111,119] []::(l.flatMap runN++r):=rfl
 have d2:dep (elQ 2 [114,111,119] [])=2:=rfl
 have c3:nG (elQ 2 [114,111,119] [])=3:=rfl
 obtain⟨q',c',e'⟩:=wO (Q:=aIP) (g:=runN) (c:=3) aQ6 l (elQ 2 [114,111,119] []) r h (by omega);refine⟨q',by omega,?_⟩;rw[e1,jT (aAY (by omega) (by omega) (by omega) (by show [114,111,119]≠[]; simp) he),e']
structure EvV (e:Ev):Prop where
 id:1≤e.1∧e.1≤1099511627776
 sp:0≤e.2.1.1∧e.2.1.1≤5184000∧0≤e.2.1.2∧e.2.1.2≤5184000
 rg:vld e.2.2.1=true
 sk:vld e.2.2.2.2.1=true
 co:∀l∈e.2.2.2.2.2,∀u∈l,aIP u
theorem aM3{s:Ln}(h:∀c∈s,32≤n8 c∧n8 c≤126):vld (s++[102])=true:=lG _ fun c hc=>by
 rw[bAU,aZ6] at hc;rcases hc with hc|rfl
 ·exact h c hc
 ·decide
theorem aX0(e:Ev) (q:Nd) (r:List Nd) (h:EvV e) (hc:1≤nG q):∃q',1≤nG q'∧ckE (some q) (evN e++r)=ckE (some q') r:=by
 obtain⟨i1,i2⟩:=h.id;obtain⟨s1,s2,s3,s4⟩:=h.sp
 have he:elE (elQ 1 [112] (evA e))=0:=by
  refine wN (by rfl) (by simp[evA]) (WL e) fun a ha=>?_
  simp only[evA,bBB,List.not_mem_nil,or_false] at ha;rcases ha with rfl|rfl|rfl|rfl|rfl|rfl
  ·exact⟨by rfl,lG _ (kL (by omega) (by omega))⟩
  ·exact⟨by rfl,aM3 (kL (by omega) (by omega))⟩
  ·exact⟨by rfl,aM3 (kL (by omega) (by omega))⟩
  ·exact⟨by rfl,h.rg⟩
  ·exact⟨by rfl,aIL _⟩
  ·exact⟨by rfl,h.sk⟩
 have e1:evN e++r=elQ 1 [112] (evA e)::(e.2.2.2.2.2.flatMap rowN++r):=rfl
 have d1:dep (elQ 1 [112] (evA e))=1:=rfl
 have c2:nG (elQ 1 [112] (evA e))=2:=rfl
 obtain⟨q',c',e'⟩:=wO (Q:=fun l:Row=>∀u∈l,aIP u) (g:=rowN) (c:=2) aQ7 e.2.2.2.2.2 (elQ 1 [112] (evA e)) r h.co (by omega);refine⟨q',by omega,?_⟩;rw[e1,jT (aAY (by omega) (by omega) (by omega) (by show [112]≠[]; simp) he),e']
theorem aQ8(g:Reg) (q:Nd) (r:List Nd) (h:eF g=0) (hc:1≤nG q):∃q',1≤nG q'∧ckE (some q) (pC g++r)=ckE (some q') r:=by
 obtain⟨q1,q2,q3,q4,q5,q6,q7⟩:=oJ h
 have he:elE (elQ 1 [114,101,103,105,111,110] (kT g))=0:=by
  refine wN (by rfl) (by simp[kT]) (JK g) fun a ha=>?_
  simp only[kT,bBB,List.not_mem_nil,or_false] at ha;rcases ha with rfl|rfl|rfl|rfl|rfl|rfl|rfl
  ·exact⟨by rfl,QC q1⟩
  ·exact⟨by rfl,lG _ (kL (by omega) (by omega))⟩
  ·exact⟨by rfl,lG _ (kL (by omega) (by omega))⟩
  ·exact⟨by rfl,lG _ (kL (by omega) (by omega))⟩
  ·exact⟨by rfl,lG _ (kL (by omega) (by omega))⟩
  ·exact⟨by rfl,aIN _⟩
  ·refine⟨by rfl,?_⟩;show vld (if g.2.2.2.2.2.2 then [66,79,84,84,79,77] else [84,79,80])=true;cases g.2.2.2.2.2.2<;>rfl
 have e1:pC g++r=elQ 1 [114,101,103,105,111,110] (kT g)::r:=rfl
 have d1:dep (elQ 1 [114,101,103,105,111,110] (kT g))=1:=rfl
 have c2:nG (elQ 1 [114,101,103,105,111,110] (kT g))=2:=rfl
 refine⟨elQ 1 [114,101,103,105,111,110] (kT g),by omega,?_⟩;rw[e1,jT (aAY (by omega) (by omega) (by omega) (by show [114,101,103,105,111,110]≠[]; simp) he)]
theorem aIQ{x:Ev}{rs:List Reg}(hr:∀g∈rs,eF g=0) (h:oB x rs=0):vld x.2.2.1=true∧vld x.2.2.2.2.1=true:=by
 unfold oB at h
 split at h
 ·cases h
 split at h
 ·cases h
 split at h
 ·cases h
 split at h
 ·cases h
 rename_i r hf
 split at h
 ·cases h
 split at h
 ·cases h
 rename_i hk;constructor
 ·by_cases e:x.2.2.1=[]
  ·rw[e]; rfl
  ·unfold IA at hf;rw[if_neg e] at hf
   have h1:=List.find?_some hf
   have h2:=List.mem_of_find?_eq_some hf
   have h3:r.1=x.2.2.1:=by simpa using h1
   rw[←h3];exact QC (oJ (hr r h2)).1
 ·by_cases e:x.2.2.2.2.1=[]
  ·rw[e]; rfl
  ·refine QC ?_
   cases hn:nm x.2.2.2.2.1 with
   |true=>rfl
   |false=>exact absurd ⟨e,hn⟩ hk
theorem aQ9{d:Doc}(h:cB d=0):∀e∈d.2.2.2.2.2.2.1,EvV e:=fun e he=>by
 obtain⟨h1,h2,h3⟩:=jM h
 have hc:=PI h3 e he
 obtain⟨q1,q2,q3,q4,q5,q6,_⟩:=aGX hc;obtain⟨n1,n2⟩:=aIQ (EV h).reg hc;exact⟨⟨q1,q2⟩,⟨q3.1,by omega,by omega,q3.2.2⟩,n1,n2,fun l hl u hu=>(yA (VI (q6 l hl))).2 u hu⟩
theorem aAZ{d:Doc}(h:cB d=0) (h8:(dV d).length≤8192):oK (dV d)=0:=by
 obtain⟨h1,h2,h3,h4⟩:=uM (jM h).1;obtain⟨l1,l2⟩:=vZ h
 have he:elE (elQ 0 [116,116] (dU d))=0:=by
  refine wN (by rfl) (by simp[dU]) (WN d) fun a ha=>?_
  simp only[dU,bBB,List.not_mem_nil,or_false] at ha;rcases ha with rfl|rfl|rfl|rfl|rfl
  ·exact⟨by rfl,h1⟩
  ·refine⟨by rfl,?_⟩;rcases h3 with e|e
   ·show vld d.2.1=true;rw[e]; rfl
   ·exact QC e
  ·exact⟨by rfl,aIM _⟩
  ·exact⟨by rfl,aaFS _⟩
  ·exact⟨by rfl,lG _ (kL (by omega) (by omega))⟩
 have e0:dV d=elQ 0 [116,116] (dU d)::(d.2.2.2.2.2.1.flatMap pC++(d.2.2.2.2.2.2.1.flatMap evN++[])):=by
  unfold dV;rw[bAV,bAA];rfl
 have hlen:(dV d).length≠0:=by rw[e0]; simp
 have hroot:ndE none (elQ 0 [116,116] (dU d))=0:=by
  have hd:sR none (elQ 0 [116,116] (dU d))=0:=rfl
  unfold ndE;rw[hd,if_neg (by simp),if_pos (by show [116,116]≠[]; simp),he]
 unfold oK;rw[if_neg hlen,if_neg (by omega),e0,jT hroot];obtain⟨q1,c1,e1⟩:=wO (Q:=fun g:Reg=>eF g=0) (g:=pC) (c:=1) aQ8 d.2.2.2.2.2.1 (elQ 0 [116,116] (dU d)) (d.2.2.2.2.2.2.1.flatMap evN++[]) (EV h).reg (by show(1:Int)≤1; omega);obtain⟨q2,c2,e2⟩:=wO (Q:=EvV) (g:=evN) (c:=1) aX0 d.2.2.2.2.2.2.1 q1 [] (aQ9 h) c1;rw[e1,e2];rfl
def upN(k:Nat) (n:Nd):Nd:=(n.1,n.2.1,n.2.2.1,n.2.2.2+(k:Int))
structure BKb (b:List Ls) (p:Ps) (prev:Option Nd) (r:List Nd):Prop where
 ck:ckE prev r=0
 nm:∀x∈p.2.1,nmX x=true
 lo:∀m r',r=m::r'→dep m≤(p.2.1.length:Int)
 jn:p.2.2=true→∃q,prev=some q∧q.1=[]∧dep q=(p.2.1.length:Int)∧1≤dep q
 ro:p.1.length+r.length≤8192
 dp:∀m∈r,dep m+(b.length:Int)≤15
theorem QD{α:Type}{b:List α}(hb:b≠[]) (s:List α):b++s≠[]:=fun k=>hb (List.append_eq_nil_iff.1 k).1
theorem WQ{n:Nat}{tail:Ls}{b:List Ls}(hb:b≠[]):∀(r:List Nd) (p:Ps) (prev:Option Nd),BKb b p prev r→gO n (p.1,b++p.2.1,p.2.2) (prT p.2.1 r++tail)=gO n (p.1++r.map (upN b.length),b,false) tail∨(r=[]∧p.2.1=[]∧p.2.2=false)
 | [],p,prev,hB=>by
  obtain⟨nodes,st,j⟩:=p
  have h:=FH (n:=n) (nodes:=nodes) (X:=tail) b st j hB.nm
  left;refine bBT h ?_;rw[List.map_nil,bAV]
  have hj:(if st=[] then j else false)=false:=by
   by_cases e:st=[]
   ·rw[if_pos e]
    cases hj:j with
    |false=>rfl
    |true =>
     obtain⟨q,_,_,h3,h4⟩:=hB.jn hj;rw[e] at h3;simp at h3;omega
   ·rw[if_neg e]
  rw[hj]
 |m::r,p,prev,hB=>by
  left;obtain⟨nodes,st,j⟩:=p;obtain⟨k1,k2⟩:=lE hB.ck
  have hlo:dep m≤(st.length:Int):=hB.lo m r rfl
  have hdm:=PJ (pD k1)
  have hro:nodes.length+(m::r).length≤8192:=hB.ro
  rw[bAH] at hro
  have hdp:dep m+(b.length:Int)≤15:=hB.dp m aZ4
  have hdp':∀x∈r,dep x+(b.length:Int)≤15:=fun x hx=>hB.dp x (aZL _ hx)
  have hnm:∀x∈st,nmX x=true:=hB.nm
  have hcl:=FH (n:=n) (nodes:=nodes) (X:=((if m.1=[] then esc m.2.1++prT (st.take (dep m).toNat) r
   else 60::(m.1++(atT m.2.2.1++(if kid m r=true then 62::prT (st.take (dep m).toNat++[m.1]) r else 47::62::prT (st.take (dep m).toNat) r))))++tail)) (b++st.take (dep m).toNat) (st.drop (dep m).toNat) j (fun x hx=>hnm x (aZQ hx))
  rw[bAA,aZE] at hcl
  have hpr:prT st (m::r)++tail=cls (st.drop (dep m).toNat)++((if m.1=[] then esc m.2.1++prT (st.take (dep m).toNat) r
   else 60::(m.1++(atT m.2.2.1++(if kid m r=true then 62::prT (st.take (dep m).toNat++[m.1]) r else 47::62::prT (st.take (dep m).toNat) r))))++tail):=by
   rw[←bAA];rfl
  show gO n (nodes,b++st,j) (prT st (m::r)++tail)=gO n (nodes++(upN b.length m::r.map (upN b.length)),b,false) tail;rw[hpr,hcl]
  have hs2l:(st.take (dep m).toNat).length=(dep m).toNat:=by rw[bAK]; omega
  have hs2n:∀x∈st.take (dep m).toNat,nmX x=true:=fun x hx=>hnm x (aZO hx)
  have hdrop:st.drop (dep m).toNat=[]↔dep m=(st.length:Int):=by
   rw[List.drop_eq_nil_iff];omega
  generalize hj2:(if st.drop (dep m).toNat=[] then j else false)=j2;generalize st.take (dep m).toNat=s2 at *
  have hfin:nodes++(upN b.length m::r.map (upN b.length))=(nodes++[upN b.length m])++r.map (upN b.length):=by simp
  rw[hfin]
  have hbl:((b++s2).length:Int)=dep m+(b.length:Int):=by rw[aZ0]; omega
  have fin:∀(p2:Ps) (prev2:Option Nd),BKb b p2 prev2 r→gO n (p2.1,b++p2.2.1,p2.2.2) (prT p2.2.1 r++tail)=gO n (p2.1++r.map (upN b.length),b,false) tail:=by
   intro p2 prev2 h2;rcases WQ hb r p2 prev2 h2 with h|⟨e1,e2,e3⟩
   ·exact h
   ·obtain⟨n2,st2,j2'⟩:=p2
    have e2:st2=[]:=e2
    have e3:j2'=false:=e3
    subst e1 e2 e3;rw[List.map_nil,bAV,bAV];rfl
  by_cases he:m.1=[]
  ·obtain⟨⟨q,hq,hnot⟩,ht1,ht2,ht3⟩:=yL (FF k1 he)
   have hds:=oN (by rw[←hq]; exact k1)
   have hj3:j2=false:=by
    cases hjj:j2 with
    |false=>rfl
    |true =>
     rw[hjj] at hj2
     by_cases hdr:st.drop (dep m).toNat=[]
     ·rw[if_pos hdr] at hj2;obtain⟨q',e1,e2,e3,_⟩:=hB.jn hj2;rw[hq] at e1;injection e1 with e1;subst e1
      have hdl:=hdrop.1 hdr
      exact absurd ⟨e2,by have e3:dep q=(st.length:Int):=e3; omega⟩ hnot
     ·rw[if_neg hdr] at hj2;cases hj2
   have hs2:s2≠[]:=fun k=>by rw[k] at hs2l; simp at hs2l; omega
   rw[hj3,if_pos he];obtain⟨t,ht⟩:=aQT (tail:=tail) k2 he (st:=s2) (by omega) hds.1
   have hcat:esc m.2.1++prT s2 r++tail=esc m.2.1++60::t:=by rw[bAA,ht]
   have hroom:jA (nodes,b++s2,false) true=0:=by
    unfold jA;dsimp only;rw[if_neg (fun k=>QD hb s2 k.1),if_neg (by omega),if_neg (by omega)]
   rw[hcat,mX (Q2 ht1) (fun f=>aDC (p:=(nodes,b++s2,false)) f ht3 (QD hb s2) rfl hroom),←ht]
   have hnode:(([]:Ls),m.2.1,([]:List At),((b++s2).length:Int))=upN b.length m:=by
    rw[hbl];obtain⟨a,b',c,d⟩:=m
    have e1:a=[]:=he
    have e2:c=[]:=ht2
    rw[e1,e2];rfl
   show gO n (nodes++[(([]:Ls),m.2.1,([]:List At),((b++s2).length:Int))],b++s2,true) (prT s2 r++tail)=_;rw[hnode];refine fin (nodes++[upN b.length m],s2,true) (some m) ⟨k2,hs2n,fun m' r' hr=>?_,fun _=>⟨m,rfl,he,by show dep m=(s2.length:Int); omega,hds.1⟩,?_,hdp'⟩
   ·subst hr
    have:=(oN (lE k2).1).2.2.1 he
    show dep m'≤(s2.length:Int);omega
   ·show(nodes++[upN b.length m]).length+r.length≤_;rw[aZ0,bAH,bAZ];omega
  ·have hel:=FE k1 he
   obtain⟨hn1,hn2,_,_⟩:=yK hel
   have hat:=aAN hel
   rw[if_neg he]
   have hroom:jA (nodes,b++s2,j2) false=0:=by
    unfold jA;dsimp only;rw[if_neg (fun k=>QD hb s2 k.1),if_neg (by omega),if_neg (by omega)]
   have hnode:((m.1,([]:Ls),m.2.2.1,((b++s2).length:Int)):Nd)=upN b.length m:=by
    rw[hbl];obtain⟨a,b',c,d⟩:=m
    have e1:b'=[]:=hn2
    rw[e1];rfl
   by_cases hk:kid m r=true
   ·rw[if_pos hk]
    have hcat:60::(m.1++(atT m.2.2.1++62::prT (s2++[m.1]) r))++tail=60::(m.1++(atT m.2.2.1++([62]++(prT (s2++[m.1]) r++tail)))):=by simp
    rw[hcat,mX (rM (.inl ⟨rfl,rfl⟩) hn1 hat.nm) (fun f=>uH (p:=(nodes,b++s2,j2)) f (.inl rfl) hn1 hat hroom)];show gO n (nodes++[(m.1,([]:Ls),m.2.2.1,((b++s2).length:Int))],if(1:Int)=1 then b++s2++[m.1] else b++s2,false) _=_;rw[hnode,if_pos rfl,bAA];refine fin (nodes++[upN b.length m],s2++[m.1],false) (some m) ⟨k2,fun x hx=>?_,fun m' r' hr=>?_,fun k=>(by cases k),?_,hdp'⟩
    ·rcases bAU.1 hx with h|h
     ·exact hs2n x h
     ·simp at h;rw[h];exact hn1
    ·subst hr
     have:=(oN (lE k2).1).2.2.2
     show dep m'≤((s2++[m.1]).length:Int);rw[aZ0,bAH,bAZ];omega
    ·show(nodes++[upN b.length m]).length+r.length≤_;rw[aZ0,bAH,bAZ];omega
   ·rw[if_neg hk]
    have hcat:60::(m.1++(atT m.2.2.1++47::62::prT s2 r))++tail=60::(m.1++(atT m.2.2.1++([47,62]++(prT s2 r++tail)))):=by simp
    rw[hcat,mX (rM (.inr ⟨rfl,rfl⟩) hn1 hat.nm) (fun f=>uH (p:=(nodes,b++s2,j2)) f (.inr rfl) hn1 hat hroom)];show gO n (nodes++[(m.1,([]:Ls),m.2.2.1,((b++s2).length:Int))],if(3:Int)=1 then b++s2++[m.1] else b++s2,false) _=_;rw[hnode,if_neg (by decide)];refine fin (nodes++[upN b.length m],s2,false) (some m) ⟨k2,hs2n,fun m' r' hr=>?_,fun k=>(by cases k),?_,hdp'⟩
    ·subst hr
     have:¬dep m<dep m':=fun q=>hk (decide_eq_true q)
     show dep m'≤(s2.length:Int);omega
    ·show(nodes++[upN b.length m]).length+r.length≤_;rw[aZ0,bAH,bAZ];omega
def wsT:Ls:=[10,9,10]
theorem aA0{n:Nat}(p:Ps) (t:Ls):gO n p (wsT++60::t)=gO n p (60::t):=by
 have hn:kJ (wsT++60::t)=some ((0,[],[],wsT),60::t):=by
  have e:wsT++60::t=10::([9,10]++60::t):=rfl
  have ht:(wsT++60::t).takeWhile hM=wsT:=BL (by decide) (by rfl)
  rw[e,gE,if_neg (by decide),←e,ht];rfl
 refine mX hn fun f=>?_
 unfold hP;rw[if_pos rfl];unfold FB;rw[if_pos ⟨by rfl,Or.inl (by rfl)⟩]
theorem aIR{n:Nat}{nodes:List Nd}(h:nodes≠[]):gO n (nodes,[[116,116]],false) [60,47,116,116,62,10]=(nodes,none):=by
 have e:([60,47,116,116,62,10]:Ls)=60::47::([116,116]++62::[10]):=rfl
 rw[e,mX (JA (name:=[116,116]) (rest:=[10]) (by rfl)) (fun f=>VT (p:=(nodes,[[116,116]],false)) f (by rfl) (by rfl))]
 have hn:kJ ([10]:Ls)=some ((0,[],[],[10]),[]):=by rfl
 refine(mX hn (q:=(nodes,[],false)) fun f=>?_).trans ?_
 ·unfold hP;rw[if_pos rfl];unfold FB;rw[if_pos ⟨by rfl,Or.inl (by rfl)⟩];rfl
 ·rw[VQ,if_neg (fun k=>k.elim h (fun k=>k rfl))]
def dnN(n:Nd):Nd:=(n.1,n.2.1,n.2.2.1,n.2.2.2-1)
theorem aX1(x:List Nd):(x.map dnN).map (upN 1)=x:=by
 rw[List.map_map];refine(List.map_congr_left fun n _=>?_).trans (List.map_id x);obtain⟨a,b,c,d⟩:=n;show((a,b,c,d-1+1):Nd)=(a,b,c,d);rw[Int.sub_add_cancel]
structure Seg (x:List Nd):Prop where
 hd:∃h t,x=h::t∧dep h=1∧h.1≠[]∧∀m∈t,2≤dep m
theorem aIS{q n:Nd}(h:ndE (some q) n=0) (h2:2≤dep n):ndE (some (dnN q)) (dnN n)=0:=by
 have hd:dep (dnN n)=dep n-1:=rfl
 have hq:dep (dnN q)=dep q-1:=rfl
 have hn1:(dnN n).1=n.1:=rfl
 have hq1:(dnN q).1=q.1:=rfl
 obtain⟨d1,d2,d3,d4⟩:=oN h
 have hde:sR (some (dnN q)) (dnN n)=0:=by
  refine R6 (by omega) ?_ (by omega);unfold nG;rw[hq1]
  by_cases e:q.1=[]
  ·rw[if_neg (by simpa using e)]
   have:=d3 e
   omega
  ·rw[if_pos e];omega
 unfold ndE;rw[if_neg (by rw[hde]; simp),hn1]
 by_cases e:n.1=[]
 ·rw[if_neg (by simpa using e)]
  have ht:=FF h e
  obtain⟨⟨q',e1,e2⟩,t2,t3,t4⟩:=yL ht;injection e1 with e1;subst e1
  have hp:txP (some (dnN q)) (dnN n)=false:=by
   show decide ((dnN q).1=[]∧dep (dnN q)=dep (dnN n))=false;exact decide_eq_false fun k=>e2 ⟨k.1,by have:=k.2; omega⟩
  unfold txE
  have a2:(dnN n).2.1=n.2.1:=rfl
  have a3:(dnN n).2.2.1=n.2.2.1:=rfl
  rw[hp,if_neg nft,a2,a3,if_neg t2,t3,if_neg (by simp),t4,if_neg (by simp)]
 ·rw[if_pos e];exact(show elE (dnN n)=elE n from rfl).trans (FE h e)
theorem WR:∀(r:List Nd) (q:Nd),ckE (some q) r=0→(∀m∈r,2≤dep m)→ckE (some (dnN q)) (r.map dnN)=0
 | [],_,_,_=>rfl
 |m::r,q,h,h2=>by
  obtain⟨k1,k2⟩:=lE h;rw[bBC,jT (aIS k1 (h2 m aZ4))];exact WR r m k2 fun x hx=>h2 x (aZL _ hx)
theorem aIT{x:List Nd}{q:Nd}(hx:Seg x) (h:ckE (some q) x=0):ckE none (x.map dnN)=0:=by
 obtain⟨a,t,rfl,d1,n1,d2⟩:=hx.hd;obtain⟨k1,k2⟩:=lE h
 have hroot:ndE none (dnN a)=0:=by
  have hde:sR none (dnN a)=0:=by
   show(if dep (dnN a)≠0 then(8:Int) else 0)=0
   have:dep (dnN a)=dep a-1:=rfl
   rw[if_neg (by omega)]
  unfold ndE;rw[if_neg (by rw[hde]; simp),if_pos (show(dnN a).1≠[] from n1)];exact(show elE (dnN a)=elE a from rfl).trans (FE k1 n1)
 rw[bBC,jT hroot];exact WR t a k2 d2
theorem QE:∀(r:List Nd) (q:Nd),ckE (some q) r=0→∀m∈r,dep m≤15
 | [],_,_,m,hm=>by cases hm
 |a::r,q,h,m,hm=>by
  obtain⟨k1,k2⟩:=lE h;rcases bBB.1 hm with rfl|hm
  ·exact(oN k1).2.1
  ·exact QE r a k2 m hm
theorem aIU{n:Nat}{tail:Ls}{x nodes:List Nd}{q:Nd}(hx:Seg x) (h:ckE (some q) x=0) (hro:nodes.length+x.length≤8192):gO n (nodes,[[116,116]],false) (prT [] (x.map dnN)++tail)=gO n (nodes++x,[[116,116]],false) tail:=by
 have h15:=QE x q h
 have hb:BKb [[116,116]] (nodes,[],false) none (x.map dnN):=by
  refine⟨aIT hx h,(fun y hy=>by cases hy),fun m r' hr=>?_,(fun k=>by cases k),by rw[bA2]; exact hro,fun m hm=>?_⟩
  ·obtain⟨a,t,rfl,d1,n1,d2⟩:=hx.hd;rw[bBC] at hr;injection hr with hr _;subst hr;show dep a-1≤0;omega
  ·obtain⟨y,hy,rfl⟩:=List.mem_map.1 hm
   have:=h15 y hy
   show dep y-1+1≤15;omega
 have hne:x.map dnN≠[]:=by
  obtain⟨a,t,rfl,_⟩:=hx.hd;simp
 rcases WQ (n:=n) (tail:=tail) (b:=[[116,116]]) (by simp) (x.map dnN) (nodes,[],false) none hb with e|⟨e,_⟩
 ·have e:gO n (nodes,[[116,116]],false) (prT [] (x.map dnN)++tail)=gO n (nodes++(x.map dnN).map (upN 1),[[116,116]],false) tail:=e
  rw[aX1] at e;exact e
 ·exact absurd e hne
def oO(l:List (List Nd)):Ls:=l.flatMap fun x=>prT [] (x.map dnN)++wsT
theorem aRA{x:List Nd}(hx:Seg x):∃t,prT [] (x.map dnN)=60::t:=by
 obtain⟨a,t,rfl,d1,n1,d2⟩:=hx.hd;rw[bBC];unfold prT;rw[List.drop_nil,wC,if_neg (show ¬(dnN a).1=[] from n1)];exact⟨_,rfl⟩
theorem FU:∀(a b:List Nd) (q:Nd),ckE (some q) (a++b)=0→ckE (some q) a=0∧∃q',ckE (some q') b=0
 | [],b,q,h=>⟨rfl,q,h⟩
 |m::a,b,q,h=>by
  obtain⟨k1,k2⟩:=lE h;obtain⟨h1,h2⟩:=FU a b m k2;exact⟨by rw[jT k1]; exact h1,h2⟩
theorem JL{n:Nat}:∀(l:List (List Nd)) (nodes:List Nd) (q:Nd),(∀x∈l,Seg x)→ckE (some q) l.flatten=0→nodes≠[]→nodes.length+l.flatten.length≤8192→gO n (nodes,[[116,116]],false) (wsT++(oO l++[60,47,116,116,62,10]))=(nodes++l.flatten,none)
 | [],nodes,q,_,_,hne,_=>by
  have e:wsT++(oO []++([60,47,116,116,62,10]:Ls))=wsT++60::[47,116,116,62,10]:=rfl
  rw[e,aA0]
  have:=aIR (n:=n) hne
  rw[List.flatten_nil,bAV];exact this
 |x::l,nodes,q,hs,hc,hne,hro=>by
  rw[List.flatten_cons] at hc hro ⊢;obtain⟨c1,q',c2⟩:=FU x l.flatten q hc
  have hx:=hs x aZ4
  rw[aZ0] at hro;obtain⟨t,ht⟩:=aRA hx
  have e:wsT++(oO (x::l)++([60,47,116,116,62,10]:Ls))=wsT++(prT [] (x.map dnN)++(wsT++(oO l++[60,47,116,116,62,10]))):=by
   unfold oO;rw[List.flatMap_cons,bAA,bAA]
  rw[e]
  have e2:wsT++(prT [] (x.map dnN)++(wsT++(oO l++([60,47,116,116,62,10]:Ls))))=wsT++60::(t++(wsT++(oO l++[60,47,116,116,62,10]))):=by rw[ht]; rfl
  rw[e2,aA0]
  have e3:60::(t++(wsT++(oO l++([60,47,116,116,62,10]:Ls))))=prT [] (x.map dnN)++(wsT++(oO l++[60,47,116,116,62,10])):=by rw[ht]; rfl
  rw[e3,aIU hx c1 (by omega),JL l (nodes++x) q' (fun y hy=>hs y (aZL _ hy)) c2 (by simp[hne]) (by rw[aZ0]; omega),bAA]
def aIV(l:List At):Ls:=60::([116,116]++(atT l++[62]))
theorem R7{n:Nat}{root:Nd}{l:List (List Nd)}(h0:dep root=0) (hn:root.1=[116,116]) (he:elE root=0) (hs:∀x∈l,Seg x) (hc:ckE (some root) l.flatten=0) (hro:1+l.flatten.length≤8192):gO n p0 (aIV root.2.2.1++(wsT++(oO l++[60,47,116,116,62,10])))=(root::l.flatten,none):=by
 obtain⟨_,hn2,_,_⟩:=yK he
 have hat:=aAN he
 have e:aIV root.2.2.1++(wsT++(oO l++([60,47,116,116,62,10]:Ls)))=60::([116,116]++(atT root.2.2.1++([62]++(wsT++(oO l++[60,47,116,116,62,10]))))):=by
  unfold aIV;simp
 have hroom:jA p0 false=0:=by rfl
 rw[e,mX (rM (.inl ⟨rfl,rfl⟩) (by rfl) hat.nm) (fun f=>uH (p:=p0) f (.inl rfl) (by rfl) hat hroom)]
 have hnode:(([116,116],([]:Ls),root.2.2.1,(([]:List Ls).length:Int)):Nd)=root:=by
  obtain⟨a,b,c,d⟩:=root
  have e1:a=[116,116]:=hn
  have e2:b=[]:=hn2
  have e3:d=0:=h0
  rw[e1,e2,e3];rfl
 show gO n ([]++[([116,116],([]:Ls),root.2.2.1,(([]:List Ls).length:Int))],if(1:Int)=1 then []++[[116,116]] else [],false) _=_;rw[hnode,if_pos rfl];exact JL l [root] root hs hc (by simp) (by simpa using hro)
def GG(k:Int) (n:Nd):Nd:=(n.1,n.2.1,n.2.2.1,n.2.2.2-k)
theorem aA1{k:Int}(hk:0≤k∧k≤15){h:Nd}{t r:List Nd}(hl:(h::(t++r)).length≤4000000) (hd:0≤dep h∧dep h≤15) (ht:∀m∈t,k<dep m∧dep m≤15) (hr:∀m r',r=m::r'→dep m≤k):gB fuelH (h::(t++r),k)=some ((h::t).map (GG k)):=by
 have hfu:=bF
 have hw:∀n:Nd,0≤dep n∧dep n≤15→((n.1,n.2.1,n.2.2.1,w64 (aI n.2.2.2 k)):Nd)=GG k n:=fun n hn=>by
  unfold GG
  have:w64 (aI n.2.2.2 k)=n.2.2.2-k:=by
   have h1:dep n=n.2.2.2:=rfl
   simp only[aI];rw[bS (by omega)]
  rw[this]
 unfold gB;dsimp only;rw[bT];generalize hL:h::(t++r)=L at *
 have hlen:L.length=t.length+r.length+1:=by rw[←hL,bAH,aZ0]
 have key:∀(n j fu:Nat) (a:List Nd),t.length-j=n→j≤t.length→L.length-j<fu→a.length≤j+1→a=(h::t.take j).map (GG k) →
   bD (fun v2 (v3:(List Nd)×Int) =>
    cnd (ilt v3.2 (len L))
     (grd (inb v3.2 (len L))
      (cnd (ilt (0:Int) v3.2)
       (cnd (ile (aA L (toN v3.2) zN).2.2.2 k)
        (some v3.1)
        (grd (cH (aE (len v3.1) (len ([((aA L (toN v3.2) zN).1,(aA L (toN v3.2) zN).2.1,(aA L (toN v3.2) zN).2.2.1,w64 (aI (aA L (toN v3.2) zN).2.2.2 k))]:List Nd))) 64)
         (v2 (aU v3.1 ([((aA L (toN v3.2) zN).1,(aA L (toN v3.2) zN).2.1,(aA L (toN v3.2) zN).2.2.1,w64 (aI (aA L (toN v3.2) zN).2.2.2 k))]:List Nd),w64 (aE v3.2 (1:Int))))))
       (grd (cH (aE (len v3.1) (len ([((aA L (toN v3.2) zN).1,(aA L (toN v3.2) zN).2.1,(aA L (toN v3.2) zN).2.2.1,w64 (aI (aA L (toN v3.2) zN).2.2.2 k))]:List Nd))) 64)
        (v2 (aU v3.1 ([((aA L (toN v3.2) zN).1,(aA L (toN v3.2) zN).2.1,(aA L (toN v3.2) zN).2.2.1,w64 (aI (aA L (toN v3.2) zN).2.2.2 k))]:List Nd),w64 (aE v3.2 (1:Int)))))))
     (some v3.1)) fu (a,((j+1:Nat):Int))=some ((h::t).map (GG k)):=by
  intro n
  induction n with
  |zero =>
   intro j fu a h1 h2 h3 h4 ha
   have hj:j=t.length:=by omega
   obtain⟨fu,rfl⟩:∃q,fu=q+1:=⟨fu-1,by omega⟩;rw[dQ];dsimp only
   have hfin:a=(h::t).map (GG k):=by rw[ha,hj,bAO]
   by_cases hlt:j+1<L.length
   ·have hget:L[j+1]=r[0]'(by omega):=by
     have:L[j+1]=(h::(t++r))[j+1]'(by rw[hL]; exact hlt):=by congr 1; exact hL.symm
     rw[this,List.getElem_cons_succ,List.getElem_append_right (by omega)];congr 1;omega
    have hdr:L[j+1].2.2.2≤k:=by
     show dep L[j+1]≤k;rw[hget]
     cases r with
     |nil=>simp at hlen; omega
     |cons m r'=>exact hr m r' rfl
    rw[aD (aV (by simp only[len]; omega)),aF (aX (by simp only[len]; omega)),pN hlt,aD (aV (by omega)),aD (gP hdr),hfin]
   ·rw[aC (aW (by simp only[len]; omega)),hfin]
  |succ n ih =>
   intro j fu a h1 h2 h3 h4 ha
   have hjt:j<t.length:=by omega
   have hlt:j+1<L.length:=by omega
   obtain⟨fu,rfl⟩:∃q,fu=q+1:=⟨fu-1,by omega⟩
   have hget:L[j+1]=t[j]:=by
    have:L[j+1]=(h::(t++r))[j+1]'(by rw[hL]; exact hlt):=by congr 1; exact hL.symm
    rw[this,List.getElem_cons_succ,List.getElem_append_left hjt]
   have hdt:=ht t[j] (bAS hjt)
   have hdt2:¬t[j].2.2.2≤k:=by have:dep t[j]=t[j].2.2.2:=rfl; omega
   rw[dQ];dsimp only;rw[aD (aV (by simp only[len]; omega)),aF (aX (by simp only[len]; omega)),pN hlt,hget,aD (aV (by omega)),aC (jF hdt2),hw _ (by omega),aF (cV (by simp only[aE,len,bAH,bAZ]; omega)),aQ hlt (by omega)];refine ih (j+1) fu _ (by omega) (by omega) (by omega) ?_ ?_
   ·show(a++[GG k t[j]]).length≤_;rw[aZ0,bAH,bAZ];omega
   ·show a++[GG k t[j]]=_;rw[ha,aYO hjt,bBC,bBC,bA3];rfl
 obtain⟨fu,hfu2⟩:∃q,fuelH=q+1:=⟨fuelH-1,by omega⟩
 have hg0:aA L (toN (0:Int)) zN=h:=by rw[←hL]; rfl
 rw[hfu2,dQ];dsimp only;rw[aD (aV (by simp only[len]; omega)),aF (aX (by simp only[len]; omega)),hg0,aC (by rfl),hw _ hd,aF (cV (by simp only[aE,len,bAH,bAZ]; omega))];exact key t.length 0 fu [GG k h] (by omega) (bBR _) (by omega) (by simp) (by simp)
abbrev StL:=List Nd×Ls×List Nd×Int
def lF(l:List Nd) (K:Ls→Option Bool) (v8:StL→Option Bool) (v9:StL):Option Bool :=
 cnd (ilt v9.2.2.2 (len l))
  (grd (inb v9.2.2.2 (len v9.2.2.1))
   (cnd (ilt (1:Int) (aA v9.2.2.1 (toN v9.2.2.2) zN).2.2.2)
    (v8 (v9.1,v9.2.1,v9.2.2.1,w64 (aE v9.2.2.2 (1:Int))))
    (grd (in2 v9.2.2.2 (len v9.1))
     (bnd (gB fuelH (cJ (toN v9.2.2.2) v9.1,(aA v9.2.2.1 (toN v9.2.2.2) zN).2.2.2)) fun v10 =>
     bnd (q65 fuelH v10) fun v11 =>
     cnd (ine v11.2 (0:Int))
      (some (ieq v11.2 (9:Int)))
      (cnd (ieq v9.2.2.2 (0:Int))
       (grd (in2 (1:Int) (len v9.1))
        (bnd (q65 fuelH (bH (toN (1:Int)) v9.1)) fun v12 =>
        grd (in2 (w64 (aI (len v12.1) (2:Int))) (len v12.1)) <|
        grd (cL (aE (len (bH (toN (w64 (aI (len v12.1) (2:Int)))) v12.1)) (len ([62]:Y_)))) <|
        grd (cL (aE (len (aU (bH (toN (w64 (aI (len v12.1) (2:Int)))) v12.1) ([62]:Y_))) (len ([10,9,10]:Y_)))) <|
        grd (cL (aE (len v9.2.1) (len (aU (aU (bH (toN (w64 (aI (len v12.1) (2:Int)))) v12.1) ([62]:Y_)) ([10,9,10]:Y_))))) <|
        v8 (v9.1,aU v9.2.1 (aU (aU (bH (toN (w64 (aI (len v12.1) (2:Int)))) v12.1) ([62]:Y_)) ([10,9,10]:Y_)),v9.2.2.1,w64 (aE v9.2.2.2 (1:Int)))))
       (grd (cL (aE (len v11.1) (len ([10,9,10]:Y_))))
        (grd (cL (aE (len v9.2.1) (len (aU v11.1 ([10,9,10]:Y_)))))
         (v8 (v9.1,aU v9.2.1 (aU v11.1 ([10,9,10]:Y_)),v9.2.2.1,w64 (aE v9.2.2.2 (1:Int)))))))))))
  (K v9.2.1)
theorem aM4:∀x:List Nd,bkL wtN (x.map dnN)=bkL wtN x
 | []=>rfl
 |n::x=>by
  have:=aM4 x
  simp only[bBC,bkL,this];rfl
theorem aX2{x:List Nd}(h:∀n∈x,smN n):∀n∈x.map dnN,smN n:=fun n hn=>by
 obtain⟨m,hm,rfl⟩:=List.mem_map.1 hn
 have:=h m hm
 exact⟨this.nm,this.tx,this.asz,this.an⟩
theorem aIW{pre rest:List Nd}{h:Nd}{l:List Nd}(hl:l=pre++h::rest) (hb:l.length≤4000000):pre.length<l.length∧aA l (toN (pre.length:Int)) zN=h:=by
 have h1:pre.length<l.length:=by rw[hl,aZ0,bAH]; omega
 refine⟨h1,?_⟩;rw[pN h1];subst hl;simp
theorem JM{l:List Nd}(hb:l.length≤4000000) (K:Ls→Option Bool) (a:Ls) (fu:Nat):∀(t pre rest:List Nd),l=pre++(t++rest)→(∀m∈t,2≤dep m)→bD (lF l K) (fu+t.length) (l,a,l,(pre.length:Int))=bD (lF l K) fu (l,a,l,((pre++t).length:Int))
 | [],pre,rest,hl,_=>by rw[bAV]; rfl
 |m::t,pre,rest,hl,ht=>by
  obtain⟨h1,h2⟩:=aIW (pre:=pre) (h:=m) (rest:=t++rest) hl hb
  have hm:=ht m aZ4
  have hm2:(1:Int)<m.2.2.2:=by have:dep m=m.2.2.2:=rfl; omega
  rw[bAH,←bBA,dQ];unfold lF;dsimp only;rw[aD (aV (by simp only[len]; omega)),aF (aX (by simp only[len]; omega)),h2,aD (aV hm2),aQ h1 (by omega)]
  have ih:=JM hb K a fu t (pre++[m]) rest (by rw[hl,bAA]; rfl) fun x hx=>ht x (aZL _ hx)
  rw[aZ0,bAH,bAZ] at ih
  have e:pre++m::t=pre++[m]++t:=by rw[bAA]; rfl
  rw[e];exact ih
theorem aDP{x:List Nd}{q:Nd}(hx:Seg x) (hc:ckE (some q) x=0) (hs:∀n∈x,smN n) (hb:bkL wtN x≤1090000) (h8:x.length≤8192):q65 fuelH (x.map dnN)=some (if 262144<(prT [] (x.map dnN)).length then([],9) else(prT [] (x.map dnN),0)):=by
 have hne:(x.map dnN).length≠0:=by
  obtain⟨a,t,rfl,_⟩:=hx.hd;simp
 have hk:oK (x.map dnN)=0:=by
  unfold oK;rw[if_neg hne,if_neg (by rw[bA2]; omega)];exact aIT hx hc
 rw[FG (aX2 hs) (by rw[aM4]; omega)];unfold FD;rw[if_neg (by simpa using hk)]
theorem JN{l:List Nd}(h8:l.length≤8192) (hs:∀n∈l,smN n) (hb:bkL wtN l≤1090000) (K:Ls→Option Bool):∀(segs:List (List Nd)) (pre:List Nd) (q:Nd) (a:Ls) (fu:Nat),l=pre++segs.flatten→pre≠[]→(∀x∈segs,Seg x)→ckE (some q) segs.flatten=0→segs.flatten.length<fu→a.length+segs.length*262147≤3900000 →
  bD (lF l K) fu (l,a,l,(pre.length:Int))=some true∨(bD (lF l K) fu (l,a,l,(pre.length:Int))=K (a++oO segs)∧(a++oO segs).length≤a.length+segs.length*262147)
 | [],pre,q,a,fu,hl,hp,hsg,hc,hfu,ha=>by
  right;obtain⟨fu,rfl⟩:∃k,fu=k+1:=⟨fu-1,by omega⟩
  have e:oO []=[]:=rfl
  rw[dQ,e,bAV];refine⟨?_,by omega⟩;unfold lF;dsimp only;rw[List.flatten_nil,bAV] at hl;rw[aC (aW (by rw[hl]; simp only[len]; omega))]
 |x::segs,pre,q,a,fu,hl,hp,hsg,hc,hfu,ha=>by
  rw[List.flatten_cons] at hl hc hfu;rw[aZ0] at hfu;rw[bAH] at ha;obtain⟨c1,q',c2⟩:=FU x segs.flatten q hc
  have hx:=hsg x aZ4
  have hsx:∀n∈x,smN n:=fun n hn=>hs n (by rw[hl]; simp[hn])
  have hbx:bkL wtN x≤1090000:=by
   rw[hl,nF,nF] at hb;omega
  have hlx:x.length≤8192:=by
   rw[hl,aZ0,aZ0] at h8;omega
  have hpr:=aDP hx c1 hsx hbx hlx
  have h15:=QE x q c1
  obtain⟨h,t,e,d1,n1,d2⟩:=hx.hd
  have hl2:l=pre++h::(t++segs.flatten):=by rw[hl,e]; rfl
  obtain⟨i1,i2⟩:=aIW hl2 (by omega)
  have hp1:1≤pre.length:=by cases pre with|nil=>exact absurd rfl hp|cons _ _=>simp
  have hdr:cJ (toN (pre.length:Int)) l=h::(t++segs.flatten):=by
   have:toN (pre.length:Int)=pre.length:=by simp[toN]
   rw[this];show l.drop pre.length=_;rw[hl2,List.drop_append_of_le_length (bBQ _),bAR];rfl
  have hhd:h.2.2.2=1:=d1
  have hris:gB fuelH (h::(t++segs.flatten),(1:Int))=some (x.map dnN):=by
   rw[aA1 (k:=1) (by omega) (by have:=h8; rw[hl2,aZ0] at this; omega) (by omega) (fun m hm=>⟨by have:=d2 m hm; omega,h15 m (by rw[e]; exact aZL _ hm)⟩) (fun m r' hr=>?_),e]
   ·rfl
   ·cases segs with
    |nil=>cases hr
    |cons y segs =>
     obtain⟨h',t',e',d1',_⟩:=(hsg y (aZL _ aZ4)).hd;rw[List.flatten_cons,e'] at hr;injection hr with hr _;rw[←hr];omega
  have hfu2:∃f,fu=(f+t.length)+1:=⟨fu-1-t.length,by rw[e,bAH] at hfu; omega⟩
  obtain⟨f,rfl⟩:=hfu2
  have step:bD (lF l K) (f+t.length+1) (l,a,l,(pre.length:Int))=some true∨(bD (lF l K) (f+t.length+1) (l,a,l,(pre.length:Int))=bD (lF l K) (f+t.length) (l,a++(prT [] (x.map dnN)++wsT),l,((pre++[h]).length:Int))∧(prT [] (x.map dnN)).length≤262144):=by
   rw[dQ];unfold lF;dsimp only;rw[aD (aV (by simp only[len]; omega)),aF (aX (by simp only[len]; omega)),i2,aC (aW (by rw[hhd]; omega)),aF (jG (by simp only[len]; omega)),hdr,hhd,hris,aB,hpr,aB]
   by_cases hbig:262144<(prT [] (x.map dnN)).length
   ·left;rw[if_pos hbig,aD (by rfl)];rfl
   ·right;refine⟨?_,by omega⟩;rw[if_neg hbig,aC (by rfl),aC (cZ (by omega)),aF (dS (by simp only[aE,len,bAH,bAZ]; omega)),aF (dS (by simp only[aE,len,aU,aZ0,bAH,bAZ]; omega)),aQ i1 (by omega),aZ0];rfl
  rcases step with hst|⟨hst,hsm⟩
  ·exact Or.inl hst
  ·rw[hst,JM (by omega) K _ f t (pre++[h]) segs.flatten (by rw[hl2,bAA]; rfl) d2]
   have e3:pre++[h]++t=pre++x:=by rw[e,bAA]; rfl
   rw[e3]
   have hwl:wsT.length=3:=rfl
   have e4:oO (x::segs)=prT [] (x.map dnN)++wsT++oO segs:=by unfold oO; rw[List.flatMap_cons]
   rcases JN h8 hs hb K segs (pre++x) q' (a++(prT [] (x.map dnN)++wsT)) f (by rw[hl,bAA]) (by simp[hp]) (fun y hy=>hsg y (aZL _ hy)) c2 (by rw[e,bAH] at hfu; omega) (by rw[aZ0,aZ0]; omega) with k|⟨k1,k2⟩
   ·exact Or.inl k
   ·right;rw[k1,e4]
    have e5:a++(prT [] (x.map dnN)++wsT)++oO segs=a++(prT [] (x.map dnN)++wsT++oO segs):=by rw[bAA]
    rw[e5] at k2 ⊢;refine⟨rfl,?_⟩
    have hA:(a++(prT [] (x.map dnN)++wsT)).length=a.length+((prT [] (x.map dnN)).length+3):=by rw[aZ0,aZ0]; rfl
    rw[bAH];omega
def zQ(d:Doc):List (List Nd):=d.2.2.2.2.2.1.map pC++d.2.2.2.2.2.2.1.map evN
theorem aDQ(d:Doc):dV d=elQ 0 [116,116] (dU d)::(zQ d).flatten:=by
 unfold dV zQ;rw[List.flatten_append,bAA,←List.flatMap_def,←List.flatMap_def];rfl
theorem aLT(g:Reg):Seg (pC g):=⟨_,[],rfl,rfl,by show [114,101,103,105,111,110]≠[]; simp,fun m hm=>by cases hm⟩
theorem aRB(e:Ev):Seg (evN e):=by
 refine⟨_,e.2.2.2.2.2.flatMap rowN,rfl,rfl,by show [112]≠[]; simp,fun m hm=>?_⟩;obtain⟨r,_,hm⟩:=List.mem_flatMap.1 hm
 have hm:m∈elQ 2 [114,111,119] []::r.flatMap runN:=hm
 rcases bBB.1 hm with rfl|hm
 ·show(2:Int)≤2; omega
 ·obtain⟨u,_,hm⟩:=List.mem_flatMap.1 hm;simp only[runN,bBB,List.not_mem_nil,or_false] at hm;rcases hm with rfl|rfl
  ·show(2:Int)≤3; omega
  ·show(2:Int)≤4; omega
theorem aLU(d:Doc):∀x∈zQ d,Seg x:=fun x hx=>by
 rcases bAU.1 hx with h|h
 ·obtain⟨g,_,rfl⟩:=List.mem_map.1 h;exact aLT g
 ·obtain⟨e,_,rfl⟩:=List.mem_map.1 h;exact aRB e
def lK(d:Doc) (v3:Ls):Option Bool :=
 grd (cL (aE (len v3) (len ([60,47,116,116,62,10]:Ls)))) <|
 bnd (NB fuelH (aU v3 ([60,47,116,116,62,10]:Ls))) fun v4 =>
 cnd (ilt (262144:Int) (len (aU v3 ([60,47,116,116,62,10]:Ls))))
  (some true)
  (cnd (ieq (len v4.2) (0:Int))
   (bnd (M3 fuelH d) fun v5 =>
   bnd (SR fuelH (v4.1,v5)) fun v6 =>
   some v6)
   (some false))
theorem R8{d:Doc}(h:cB d=0):wtN (elQ 0 [116,116] (dU d))≤600:=by
 obtain⟨h1,h2,h3,h4⟩:=uM (jM h).1;obtain⟨l1,l2⟩:=vZ h
 have hb:=JC 0 [116,116] (dU d)
 have i1:=gC l1
 have i2:=VX d.2.2.1
 have i3:=wE d.2.2.2.1
 have i4:d.2.1.length≤16:=by
  rcases h3 with e|e
  ·rw[e]; simp
  ·unfold nm at e;rw[bAI,bAI] at e;exact(of_decide_eq_true e.1.1).2
 have e:bkL wtN [elQ 0 [116,116] (dU d)]=wtN (elQ 0 [116,116] (dU d))+0:=rfl
 rw[e] at hb;simp only[bkL,dU,wtA,bAH,bAZ] at hb ⊢;omega
theorem R9{l:List Nd}{root:Nd}{r:List Nd}(hl:l=root::r) (K:Ls→Option Bool){g:Ls}(hr1:q65 fuelH [root]=some (g++[47,62],0)) (hgl:g.length≤5000) (hris:gB fuelH (l,(0:Int))=some l){e:Ls×Int}(hpl:q65 fuelH l=some e) (he:e.2=0∨e.2=9) (h0:root.2.2.2=0) (h8:l.length≤8192) (fu:Nat) :
  bD (lF l K) (fu+1) (l,[],l,(0:Int))=some true∨bD (lF l K) (fu+1) (l,[],l,(0:Int))=bD (lF l K) fu (l,g++[62]++wsT,l,(1:Int)):=by
 have hg:aA l (toN (0:Int)) zN=root:=by rw[hl]; rfl
 have hdr:cJ (toN (0:Int)) l=l:=rfl
 have hlt:bH (toN (1:Int)) l=[root]:=by rw[hl]; rfl
 have hl1:1≤l.length:=by rw[hl,bAH]; omega
 rw[dQ];unfold lF;dsimp only;rw[aD (aV (by simp only[len]; omega)),aF (aX (by simp only[len]; omega)),hg,h0,aC (aW (by omega)),aF (jG (by simp only[len]; omega)),hdr,hris,aB,hpl,aB];rcases he with he|he
 ·right
  have hwi:w64 (aI (len (g++[47,62])) 2)=(g.length:Int):=by
   have:len (g++[47,62])=((g.length+2:Nat):Int):=by simp[len]
   rw[this];simp only[aI];rw[bS (by omega)];omega
  have htk:bH (toN (g.length:Int)) (g++[47,62])=g:=by
   have:toN (g.length:Int)=g.length:=by simp[toN]
   rw[this];show(g++[47,62]).take g.length=g;rw[List.take_append_of_le_length (bBQ _),bAO]
  have hw1:w64 (aE (0:Int) 1)=1:=by simp only[aE]; rw[bS (by omega)]; omega
  rw[aC (cN he),aD (dL rfl),aF (jG (by simp only[len]; omega)),hlt,hr1,aB];dsimp only;rw[hwi,aF (jG (by simp only[len,aZ0]; omega)),htk,aF (dS (by simp only[aE,len,bAH,bAZ]; omega)),aF (dS (by simp only[aE,len,aU,aZ0,bAH,bAZ]; omega)),aF (dS (by simp only[aE,len,aU,aZ0,bAH,bAZ]; omega)),hw1];rfl
 ·left;rw[aD (cA (by rw[he]; decide)),he];rfl
theorem aLV{n:Nd}(h:n.1≠[]):prT [] [n]=60::(n.1++(atT n.2.2.1++[47,62])):=by
 unfold prT;rw[List.drop_nil,wC,if_neg h,List.take_nil];rfl
theorem aLW{d:Doc}(hc:cB d=0) (hs:rH d) (hcm:d.2.2.2.2.2.2.2.length≤1000000) (h8:(dV d).length≤8192) (hb:bkL wtN (dV d)≤1090000){a:Ls}(ha:a.length≤3900000) (hp:∀n,gO n p0 (a++[60,47,116,116,62,10])=(dV d,none)):lK d a=some true:=by
 have hel:([60,47,116,116,62,10]:Ls).length=6:=rfl
 unfold lK;rw[aF (dS (by simp only[aE,len,bAH,bAZ]; omega))]
 have e:aU a ([60,47,116,116,62,10]:Ls)=a++[60,47,116,116,62,10]:=rfl
 rw[e]
 have hl:(a++([60,47,116,116,62,10]:Ls)).length≤3900006:=by rw[aZ0,hel]; omega
 have hpp:=hp (a++([60,47,116,116,62,10]:Ls)).length
 generalize a++([60,47,116,116,62,10]:Ls)=s at *
 by_cases hbig:262144<s.length
 ·have hd:NB fuelH s=some (uK,atP s 0 9):=by
   unfold NB
   have hq:aDB s=([],atP s 0 9):=by unfold aDB; rw[if_pos hbig]
   rw[VR (by omega),aB,hq,aD (by rfl)];rfl
  rw[hd,aB,aD (aV (by simp only[len]; omega))]
 ·have hk:=aAZ hc h8
  have hq:aDB s=(dV d,[]):=by
   unfold aDB;rw[if_neg hbig,hpp];rfl
  have hd:NB fuelH s=some (yN d,[]):=by
   unfold NB;rw[VR (by omega),aB,hq,aC (by rfl),R2 (aM0 hb) (by omega),aB,aXY hc hk,aC (by rfl)]
  have hcc:=aAX hc
  have hred:aLD d=yN d:=by unfold aLD; rw[if_neg (by simpa using hc)]
  rw[hd,aB,aC (aW (by simp only[len]; omega)),aD (by rfl),aDH hs hcm,aB,hred];dsimp only;rw[aDI (aAP hcc (by simp[yN])) rfl,aB]
theorem S1{l:List Nd}{root:Nd}{sg:List (List Nd)}{K:Ls→Option Bool}{e:Ls×Int}(hseg:l=root::sg.flatten) (h88:l.length≤8192) (hsm:∀n∈l,smN n) (hbk:bkL wtN l≤1090000)
  (hpr1:q65 fuelH [root]=some ((60::([116,116]++atT root.2.2.1))++[47,62],0)) (hgl:(60::([116,116]++atT root.2.2.1):Ls).length≤5000) (hris:gB fuelH (l,(0:Int))=some l)
  (hpl:q65 fuelH l=some e) (he9:e.2=0∨e.2=9) (hroot0:root.2.2.2=0) (hroot2:root.1=[116,116]) (hrootE:elE root=0) (hsegs:∀x∈sg,Seg x) (hckS:ckE (some root) sg.flatten=0) (hnseg:sg.length≤11)
  (hlk:∀a:Ls,a.length≤3900000→(∀n,gO n p0 (a++[60,47,116,116,62,10])=(l,none))→K a=some true) (fu:Nat) (hfu:l.length≤fu):bD (lF l K) (fu+1) (l,[],l,(0:Int))=some true:=by
 have hlenS:sg.flatten.length+1=l.length:=by rw[hseg,bAH]
 have hroot1:dep root=0:=hroot0
 have htt:aIV root.2.2.1=(60::([116,116]++atT root.2.2.1))++[62]:=by unfold aIV; simp
 rcases R9 hseg K hpr1 hgl hris hpl he9 hroot0 h88 fu with k|k
 ·exact k
 ·rw[k]
  have hwl:wsT.length=3:=rfl
  rcases JN h88 hsm hbk K sg [root] root (60::([116,116]++atT root.2.2.1)++[62]++wsT) fu hseg (by simp) hsegs hckS (by omega) (by rw[aZ0,aZ0,hwl]; simp only[bAH,bAZ] at hgl ⊢; omega) with k2|⟨k2,k3⟩
  ·exact k2
  ·refine bBT k2 (hlk _ (by rw[aZ0 (bs:=wsT),aZ0 (bs:=[62]),hwl] at k3; simp only[bAH,bAZ] at k3 hgl ⊢; omega) fun n=>?_)
   have:=R7 (n:=n) hroot1 hroot2 hrootE hsegs hckS (by omega)
   rw[htt,←hseg] at this;rw[←this];congr 1;simp
theorem aDR{d:Doc}(hs:rH d) (hf:FewD d) (hc:cB d=0) (h88:(dV d).length≤8192):bD (lF (dV d) (lK d)) fuelH (dV d,[],dV d,(0:Int))=some true:=by
 have hfu:=bF
 have hbk:=aLC (EV hc) hf
 have hsm:=aM0 hbk
 have hk:=aAZ hc h88
 have hck:=EW hk
 have hD:=BI hck.2.2
 have hseg:=aDQ d
 have hpl:q65 fuelH (dV d)=some (if 262144<(prT [] (dV d)).length then([],9) else(prT [] (dV d),0)):=by
  rw[FG hsm (by omega)];unfold FD;rw[if_neg (show ¬oK (dV d)≠0 by simpa using hk)]
 have hrootE:elE (elQ 0 [116,116] (dU d))=0:=by
  have h0:0<(dV d).length:=hck.1
  have:=FE (hck.2.2 0 h0) (by simp only[hseg]; show [116,116]≠[]; simp)
  simp only[hseg] at this;exact this
 have hckS:ckE (some (elQ 0 [116,116] (dU d))) (zQ d).flatten=0:=by
  unfold oK at hk;rw[if_neg (by omega),if_neg (by omega),hseg] at hk;exact(lE hk).2
 have hlenS:(zQ d).flatten.length+1=(dV d).length:=by rw[hseg,bAH]
 have hnseg:(zQ d).length≤11:=by
  unfold zQ;rw[aZ0,bA2,bA2]
  have:=hf.reg
  have:=hf.ev
  omega
 have hrw:=R8 hc
 have hkr:oK [elQ 0 [116,116] (dU d)]=0:=by
  have hr0:ndE none (elQ 0 [116,116] (dU d))=0:=by
   have hd0:sR none (elQ 0 [116,116] (dU d))=0:=rfl
   unfold ndE;rw[hd0,if_neg (by simp),if_pos (by show [116,116]≠[]; simp),hrootE]
  unfold oK;rw[if_neg (by simp),if_neg (by simp),jT hr0];rfl
 have hprT:prT [] [elQ 0 [116,116] (dU d)]=60::([116,116]++(atT (elQ 0 [116,116] (dU d)).2.2.1++[47,62])):=aLV (by show [116,116]≠[]; simp)
 have hplen:=BN [elQ 0 [116,116] (dU d)] []
 have hc0:(cls []).length=0:=rfl
 have hb1:bkL wtN [elQ 0 [116,116] (dU d)]=wtN (elQ 0 [116,116] (dU d))+0:=rfl
 have hpr1:q65 fuelH [elQ 0 [116,116] (dU d)]=some (60::([116,116]++(atT (elQ 0 [116,116] (dU d)).2.2.1++[47,62])),0):=by
  rw[FG (fun n hn=>hsm n (by rw[hseg]; rw[aZ6] at hn; rw[hn]; exact aZ4)) (by omega)];unfold FD;rw[if_neg (by simpa using hkr),if_neg (by omega),hprT]
 have hris:gB fuelH (dV d,(0:Int))=some (dV d):=by
  have h15:=hD.high
  have:=aA1 (k:=0) (h:=elQ 0 [116,116] (dU d)) (t:=(zQ d).flatten) (r:=[]) (by omega) (by rw[bAV,bAH]; omega) (by show(0:Int)≤0∧(0:Int)≤15; omega) (fun m hm=>by
   obtain⟨j,hj,e⟩:=List.mem_iff_getElem.1 hm
   have hj2:j+1<(dV d).length:=by omega
   have e2:(dV d)[j+1]=m:=by simp only[hseg,List.getElem_cons_succ]; exact e
   have h1:=hD.low j hj2
   have h2:=hD.high (j+1) hj2
   rw[e2] at h1 h2;omega) (fun m r' hr=>by cases hr)
  rw[bAV,←hseg] at this;rw[this]
  have:∀l:List Nd,l.map (GG 0)=l:=fun l=>by
   refine(List.map_congr_left fun n _=>?_).trans (List.map_id l);obtain⟨a,b,c,e⟩:=n;show((a,b,c,e-0):Nd)=(a,b,c,e);rw[Int.sub_zero]
  rw[this]
 have htag:(60::([116,116]++(atT (elQ 0 [116,116] (dU d)).2.2.1++[47,62])):Ls)=(60::([116,116]++atT (elQ 0 [116,116] (dU d)).2.2.1))++[47,62]:=by simp
 have hgl:(60::([116,116]++atT (elQ 0 [116,116] (dU d)).2.2.1):Ls).length≤5000:=by
  have:=congrArg List.length hprT
  rw[htag,aZ0] at this;simp only[bAH,bAZ] at this ⊢;omega
 rw[htag] at hpr1
 have hcm:d.2.2.2.2.2.2.2.length≤1000000:=by have:=hf.cm; omega
 have he9:(if 262144<(prT [] (dV d)).length then(([]:Ls),(9:Int)) else(prT [] (dV d),0)).2=0∨(if 262144<(prT [] (dV d)).length then(([]:Ls),(9:Int)) else(prT [] (dV d),0)).2=9:=by
  by_cases hq:262144<(prT [] (dV d)).length
  ·rw[if_pos hq]; exact Or.inr rfl
  ·rw[if_neg hq]; exact Or.inl rfl
 obtain⟨fu,hfu2⟩:∃q,fuelH=q+1:=⟨fuelH-1,by omega⟩
 have:=S1 hseg h88 hsm hbk hpr1 hgl hris hpl he9 rfl rfl hrootE (aLU d) hckS hnseg (K:=lK d) (fun a ha hp=>aLW hc hs hcm h88 hbk ha hp) fu (by omega)
 rw[←hfu2] at this;exact this
theorem WT{x d:Doc}{l:List Nd}(h1:lB fuelH x=some d) (h2:q55 fuelH d=some (l,0)):dK fuelH x=bD (lF l (lK d)) fuelH (l,[],l,(0:Int)):=by
 unfold dK;rw[aAQ,aB,aC (by rfl),h1,aB,h2,aB,aC (by rfl),bT];rfl
theorem JO{x d:Doc}{l:List Nd}{e:Int}(h1:lB fuelH x=some d) (h2:q55 fuelH d=some (l,e)) (he:e≠0):dK fuelH x=some true:=by
 unfold dK;rw[aAQ,aB,aC (by rfl),h1,aB,h2,aB,aD (cA he)]
theorem QF{x:Doc}(hb:wtD x≤1048576):dK fuelH x=some true:=by
 have hf:=aK8 hb
 have hs:=Q4 hf.wt
 have h1:lB fuelH x=some (yM x):=aQU x
 have h2:=aH1 hs
 by_cases hc:cB (yM x)=0
 ·by_cases h8:8192<(dV (yM x)).length
  ·have hn:PS (yM x)=([],9):=by
    unfold PS aHF;rw[if_neg (show ¬cB (yM x)≠0 by simpa using hc),if_pos h8]
   rw[hn] at h2;exact JO h1 h2 (by decide)
  ·have hn:PS (yM x)=(dV (yM x),0):=by
    unfold PS aHF;rw[if_neg (show ¬cB (yM x)≠0 by simpa using hc),if_neg h8]
   rw[hn] at h2;exact(WT h1 h2).trans (aDR hs hf hc (by omega))
 ·have hn:PS (yM x)=([],cB (yM x)):=by
   unfold PS;rw[if_pos hc]
  rw[hn] at h2;exact JO h1 h2 hc
end
end Go.Mo
end
