/-
  Texts put together, in build order: XB XC XD XE XF TA TB TC XG XH XI XJ XK XL XM XN XP XQ XR XS XU XV XT XW XX XY XZ XZa XZb TD.
-/
import Derived.Test.YtpblmlldkpkomaaGreatDoorZcA
import Derived.Test.YtpblmlldkpkomaaGreatDoorYcC
import Derived.KernelRfl
import Derived.Lib.ValidLaws
import Derived.Lib.TrimUEq
import Derived.Lib.MapLaws
import Derived.Lib.IndexMore
set_option linter.all false

section
set_option linter.all false
section
namespace Go.Mo
open Go Go.W
theorem aF{α:Type}{b:Bool}{k:Option α}(h:b=true):grd b k=k:=by subst h; rfl
theorem aD{α:Type}{b:Bool}{x y:Option α}(h:b=true):cnd b x y=x:=by subst h; rfl
theorem aC{α:Type}{b:Bool}{x y:Option α}(h:b=false):cnd b x y=y:=by subst h; rfl
theorem bM{α β:Type}{x:Option α}{a:α}{k:α→Option β}(h:x=some a):bnd x k=k a:=by subst h; rfl
theorem bT{F α:Type}{k:F}{t:F→Option α}:jn k t=t k:=rfl
theorem gN{V R:Type}{F:(V→Option R)→V→Option R}{n:Nat}{v:V}:bI F (n+1) v=F (bI F n) v:=rfl
theorem bU{x:Int}(h:-9223372036854775808≤x∧x≤9223372036854775807):w64 x=x:=by
 show IntKind.wrap .i64 x=x;unfold IntKind.wrap;simp only[IntKind.bits,IntKind.signed,aZ7,decide_eq_true_eq,show(2:Int)^64=18446744073709551616 from rfl,show(2:Int)^(64-1)=9223372036854775808 from rfl]
 split<;>omega
theorem aV{a b:Int}(h:a<b):ilt a b=true:=decide_eq_true h
theorem aX{a b:Int}(h:¬a<b):ilt a b=false:=decide_eq_false h
theorem gT{a b:Int}(h:a≤b):ile a b=true:=decide_eq_true h
theorem kA{a b:Int}(h:¬a≤b):ile a b=false:=decide_eq_false h
theorem dJ{a b:Int}(h:a=b):ieq a b=true:=by subst h; simp[ieq]
theorem dA{a b:Int}(h:a≠b):ieq a b=false:=by simp[ieq,h]
theorem cA{a b:Int}(h:a≠b):ine a b=true:=by simp[ine,h]
theorem cL{a b:Int}(h:a=b):ine a b=false:=by simp[ine,h]
theorem aY{i n:Int}(h:0≤i∧i<n):inb i n=true:=decide_eq_true h
theorem mP{i n:Int}(h:0≤i∧i≤n):in2 i n=true:=decide_eq_true h
theorem dD{n:Int}{b:Nat}(h:n*b≤140737488355328):cJ n b=true:=decide_eq_true h
theorem fG{a b:UInt8}(h:n8 a=n8 b):a=b:=by
 unfold n8 at h;apply UInt8.toNat_inj.1;omega
end Go.Mo
end
section
namespace Go.Mo
open Go Go.W
set_option maxRecDepth 100000
theorem eN{P:UInt8→Bool}(h:((List.range 256).all fun n=>P (UInt8.ofNat n))=true) (x:UInt8):P x=true:=by
 have h1:x.toNat<256:=x.toNat_lt
 have:=aZJ.1 h x.toNat (List.mem_range.2 h1)
 simpa using this
noncomputable def mQ:Nat:=Classical.choose (⟨7995000,rfl⟩:∃n:Nat,n=7995000)
noncomputable def fuelH:Nat:=mQ+5000
theorem bG:fuelH=8000000:=by
 have h:mQ=7995000:=Classical.choose_spec (⟨7995000,rfl⟩:∃n:Nat,n=7995000)
 unfold fuelH;rw[h]
def gY:List Int:=[161,162,163,164,165,166,167,169,171,174,176,183,187,189,191,192,193,194,195,196,197,198,199,200,201,202,203,204,205,206,207,209,210,211,212,213,214,216,217,218,219,220,223,224,225,226,227,228,229,230,231,232,233,234,235,236,237,238,239,241,242,243,244,245,246,248,249,250,251,252,338,339,8212,8216,8217,8220,8221,8226,8230,8482,9834]
def gG:List Int:=(List.range 95).map fun n=>((n+32:Nat):Int)
def yX:List Int→Int→Int→Option Int
 | [],_,_=>some (-1)
 |c::l,i,r=>cnd (ieq c r) (some i) (yX l (aE i 1) r)
def rep:Y_:=[32,33,34,35,36,37,38,39,40,41,42,43,44,45,46,47,48,49,50,51,52,53,54,55,56,57,58,59,60,61,62,63,64,65,66,67,68,69,70,71,72,73,74,75,76,77,78,79,80,81,82,83,84,85,86,87,88,89,90,91,92,93,94,95,96,97,98,99,100,101,102,103,104,105,106,107,108,109,110,111,112,113,114,115,116,117,118,119,120,121,122,123,124,125,126,194,161,194,162,194,163,194,164,194,165,194,166,194,167,194,169,194,171,194,174,194,176,194,183,194,187,194,189,194,191,195,128,195,129,195,130,195,131,195,132,195,133,195,134,195,135,195,136,195,137,195,138,195,139,195,140,195,141,195,142,195,143,195,145,195,146,195,147,195,148,195,149,195,150,195,152,195,153,195,154,195,155,195,156,195,159,195,160,195,161,195,162,195,163,195,164,195,165,195,166,195,167,195,168,195,169,195,170,195,171,195,172,195,173,195,174,195,175,195,177,195,178,195,179,195,180,195,181,195,182,195,184,195,185,195,186,195,187,195,188,197,146,197,147,226,128,148,226,128,152,226,128,153,226,128,156,226,128,157,226,128,162,226,128,166,226,132,162,226,153,170]
theorem aBQ(N:Nat) (r:Int):q11 (N+300) (rep,r)=yX (gG++gY) 0 r:=by kernel_rfl
theorem SH(r:Int):q11 fuelH (rep,r)=yX (gG++gY) 0 r:=aBQ (mQ+4700) r
theorem L0(N:Nat) (r:Int):aEX N r=cnd (ile 32 r) (cnd (ile r 126) (some (w64 (wr .i32 (aJ r 32)))) (q11 N (rep,r))) (q11 N (rep,r)):=by kernel_rfl
theorem aBR(r:Int):aEX fuelH r=cnd (ile 32 r) (cnd (ile r 126) (some (w64 (wr .i32 (aJ r 32)))) (q11 fuelH (rep,r))) (q11 fuelH (rep,r)):=L0 fuelH r
theorem aBS(N:Nat) (r:Int):q12 N r=cnd (ile 32 r) (cnd (ile r 126) (some (w64 (wr .i32 (aJ r 32)))) (bnd (q11 N (rep,r)) fun v=>some v)) (bnd (q11 N (rep,r)) fun v=>some v):=by kernel_rfl
theorem SI(r:Int):q12 fuelH r=cnd (ile 32 r) (cnd (ile r 126) (some (w64 (wr .i32 (aJ r 32)))) (bnd (q11 fuelH (rep,r)) fun v=>some v)) (bnd (q11 fuelH (rep,r)) fun v=>some v):=aBS fuelH r
theorem DN:∀(l:List Int) (i r:Int),0≤i→∃k,yX l i r=some k∧(k<0↔l.contains r=false)
 | [],i,r,_=>⟨-1,rfl,by simp⟩
 |c::l,i,r,h=>by
  by_cases hc:c=r
  ·exact⟨i,by simp only[yX]; rw[aD (dJ hc)],by subst hc; simp; omega⟩
  ·obtain⟨k,h1,h2⟩:=DN l (aE i 1) r (by show 0≤i+1; omega);refine⟨k,by simp only[yX]; rw[aC (dA hc)]; exact h1,?_⟩;rw[h2];simp only[List.contains_cons,Bool.or_eq_false_iff];exact⟨fun h=>⟨by simpa using fun e=>hc e.symm,h⟩,fun h=>h.2⟩
def dO(r:Int):Bool:=(decide (32≤r)&&decide (r≤126))||gY.contains r
theorem S8{x:Int}(h:0≤x∧x<1000):wr .i32 x=x:=by
 show IntKind.wrap .i32 x=x;unfold IntKind.wrap;simp only[IntKind.bits,IntKind.signed,aZ7,decide_eq_true_eq,show(2:Int)^32=4294967296 from rfl,show(2:Int)^(32-1)=2147483648 from rfl]
 split<;>omega
theorem L1(r:Int):gG.contains r=(decide (32≤r)&&decide (r≤126)):=by
 rw[aZX];simp only[gG,aYB,List.mem_map,List.mem_range,aZB,decide_eq_true_eq];constructor
 ·rintro⟨n,hn,rfl⟩; omega
 ·intro h; exact⟨(r-32).toNat,by omega,by omega⟩
theorem L2(r:Int):∃i,q12 fuelH r=some i∧aEX fuelH r=some i∧(i<0↔dO r=false):=by
 rw[SI,aBR,SH];obtain⟨k,h1,h2⟩:=DN (gG++gY) 0 r (Int.le_refl _)
 have hin:(gG++gY).contains r=dO r:=by
  unfold dO;rw[←L1];simp[List.contains_eq_mem,aZN]
 rw[hin] at h2
 by_cases ha:32≤r
 ·rw[aD (gT ha),aD (gT ha)]
  by_cases hb:r≤126
  ·rw[aD (gT hb),aD (gT hb)];refine⟨_,rfl,rfl,?_⟩
   have:w64 (wr .i32 (aJ r 32))=r-32:=by
    simp only[aJ];rw[S8 (by omega),bU (by omega)]
   rw[this];simp[dO,ha,hb]
  ·rw[aC (kA hb),aC (kA hb)];exact⟨k,by rw[bM h1],h1,h2⟩
 ·rw[aC (kA ha),aC (kA ha)];exact⟨k,by rw[bM h1],h1,h2⟩
theorem aBT(r:Int):∃i,q12 fuelH r=some i∧(i<0↔dO r=false):=by
 rw[SI,SH];obtain⟨k,h1,h2⟩:=DN (gG++gY) 0 r (Int.le_refl _)
 have hin:(gG++gY).contains r=dO r:=by
  unfold dO;rw[←L1];simp[List.contains_eq_mem,aZN]
 rw[hin] at h2
 by_cases ha:32≤r
 ·rw[aD (gT ha)]
  by_cases hb:r≤126
  ·rw[aD (gT hb)];refine⟨_,rfl,?_⟩
   have:w64 (wr .i32 (aJ r 32))=r-32:=by
    simp only[aJ];rw[S8 (by omega),bU (by omega)]
   rw[this];simp[dO,ha,hb]
  ·rw[aC (kA hb)];exact⟨k,by rw[bM h1],h2⟩
 ·rw[aC (kA ha)];exact⟨k,by rw[bM h1],h2⟩
end Go.Mo
end
section
namespace Go.Mo
open Go Go.W Go.Lib
set_option maxRecDepth 100000
theorem kU(l:Y_):1≤(decodeL l).2:=by
 unfold decodeL Utf8.decode;simp only
 repeat' split
 all_goals first|exact bAJ _|(show 1≤_; omega)
theorem S9(s:Y_) (p:Nat):wF s p=((decodeL (s.drop p)).1:Int):=by
 have:=decodeL_drop (bst s) p
 have e:(bst s).data.toList=s:=rfl
 rw[e] at this;unfold wF;rw[this]
theorem NQ(s:Y_) (p:Nat):wG s p=(decodeL (s.drop p)).2:=by
 have:=decodeL_drop (bst s) p
 have e:(bst s).data.toList=s:=rfl
 rw[e] at this;unfold wG;rw[this]
def rok:Nat→Y_→Bool
 | 0,_=>true
 |n+1,l=>if l=[] then true else if dO ((decodeL l).1:Int)=true then rok n (l.drop (decodeL l).2) else false
def vld(l:Y_):Bool:=rok l.length l
theorem rQ:∀n,rok n []=true
 | 0=>rfl
 |n+1=>by simp[rok]
theorem SJ:∀(n m:Nat) (l:Y_),l.length≤n→l.length≤m→rok n l=rok m l
 | 0,m,l,h,_=>by
  have:l=[]:=aXI (by omega)
  subst this;rw[rQ,rQ]
 |n+1,0,l,_,h=>by
  have:l=[]:=aXI (by omega)
  subst this;rw[rQ,rQ]
 |n+1,m+1,l,h1,h2=>by
  by_cases hl:l=[]
  ·subst hl; rw[rQ,rQ]
  ·have hp:=kU l
   have hlen:0<l.length:=aYR.2 hl
   simp only[rok,hl,if_false]
   split
   ·exact SJ n m _ (by simp; omega) (by simp; omega)
   ·rfl
theorem vG(l:Y_) (hl:l≠[]):vld l=if dO ((decodeL l).1:Int)=true then vld (l.drop (decodeL l).2) else false:=by
 have hp:=kU l
 have hlen:0<l.length:=aYR.2 hl
 unfold vld;obtain⟨n,hn⟩:∃n,l.length=n+1:=⟨l.length-1,by omega⟩;rw[hn];simp only[rok,hl,if_false]
 split
 ·exact SJ _ _ _ (by simp; omega) (bAJ _)
 ·rfl
theorem GS:∀(n:Nat) (l:Y_),l.length≤n→vld l=true→validD l=true
 |n,l,h,hv=>by
  by_cases hl:l=[]
  ·subst hl; rfl
  ·have hlen:0<l.length:=aYR.2 hl
   have hp:=kU l
   rw[vG l hl] at hv
   split at hv
   ·rename_i hr;rw[validD_step l hl,if_neg ?_]
    ·cases n with
     |zero=>omega
     |succ n=>exact GS n _ (by simp; omega) hv
    ·rintro⟨e,_⟩;rw[e] at hr;exact absurd hr (by decide)
   ·cases hv
theorem DO{s:Y_}(hs:s.length≤100000000) (Ix:Int→Option Int) (hI:∀r:Int,∃i,Ix r=some i∧(i<0↔dO r=false)):∀(fuel p:Nat),s.length-p<fuel→p≤s.length →
  bI (fun v2 (v3:Y_×Int) =>
  cnd (nlt (toN v3.2) (kF v3.1))
   (bnd (Ix (wF v3.1 (toN v3.2))) fun v4 =>
   cnd (ilt v4 (0:Int))
    (some false)
    (v2 (v3.1,ofN (nC (toN v3.2) (wG v3.1 (toN v3.2))))))
   (some true)) fuel (s,ofN p)=some (vld (s.drop p))
 | 0,p,h,_=>by omega
 |fuel+1,p,h,hp=>by
  rw[gN]
  have et:toN (ofN p)=p:=by simp[toN,ofN]
  simp only[et]
  by_cases hl:p<s.length
  ·have hne:s.drop p≠[]:=by intro e; have:=congrArg List.length e; simp at this; omega
   have hw:=kU (s.drop p)
   have hle:=decodeL_le (s.drop p) hne
   rw[aZE] at hle;rw[aD (show nlt p (kF s)=true from decide_eq_true hl)];obtain⟨i,h1,h2⟩:=hI (wF s p);rw[bM h1];rw[vG _ hne,←S9]
   by_cases hi:i<0
   ·rw[aD (aV hi),if_neg (by rw[h2.1 hi]; decide)]
   ·rw[aC (aX hi)]
    have hin:dO (wF s p)=true:=by
     cases hq:dO (wF s p) with
     |true=>rfl
     |false=>exact absurd (h2.2 hq) hi
    rw[if_pos hin,NQ,aZY];show bI _ fuel (s,ofN (p+(decodeL (s.drop p)).2))=_;exact DO hs Ix hI fuel _ (by omega) (by omega)
  ·rw[aC (show nlt p (kF s)=false from decide_eq_false hl)]
   have:s.drop p=[]:=by simp; omega
   rw[this];rfl
theorem kB(s:Y_) (hs:s.length≤4000000):q13 fuelH s=some (vld s):=by
 unfold q13
 have hv:utf8_ValidString fuelH s=some (validD s):=by
  show grd (eB (len s)) (some (validD s))=_;exact aF (decide_eq_true (by simp only[len]; omega))
 rw[bM hv];simp only[bT]
 cases hd:validD s with
 |false =>
  rw[aD (show bO false=true from rfl)]
  cases hq:vld s with
  |false=>rfl
  |true=>rw[GS _ s (bAJ _) hq] at hd; cases hd
 |true =>
  rw[aC (show bO true=false from rfl)]
  have:=DO (s:=s) (by omega) (q12 fuelH) (fun r=>by obtain⟨i,h2,h3⟩:=aBT r; exact⟨i,h2,h3⟩) fuelH 0 (by have:=bG; omega) (bAK _)
  simpa using this
theorem jK{α:Type}{p:Prop} [Decidable p] {x y:Option α}:cnd (decide p) x y=if p then x else y:=by
 by_cases h:p
 ·rw[aD (decide_eq_true h),if_pos h]
 ·rw[aC (decide_eq_false h),if_neg h]
theorem dH{α:Type}{a b:Int}{x y:Option α}:cnd (ilt a b) x y=if a<b then x else y:=jK
theorem AP{α:Type}{a b:Int}{x y:Option α}:cnd (ile a b) x y=if a≤b then x else y:=jK
theorem AQ{α:Type}{a b:Int}{x y:Option α}:cnd (ieq a b) x y=if a=b then x else y:=by
 by_cases h:a=b
 ·rw[aD (dJ h),if_pos h]
 ·rw[aC (dA h),if_neg h]
theorem vH{α:Type}{a b:Int}{x y:Option α}:cnd (ine a b) x y=if a≠b then x else y:=by
 by_cases h:a=b
 ·rw[aC (cL h),if_neg (by simp[h])]
 ·rw[aD (cA h),if_pos h]
def okc(c:Int):Bool:=decide ((65≤c∧c≤90)∨(48≤c∧c≤57)∨c=95∨c=45)
theorem aI2(c:Int) (X:Option Bool) :
  (cnd (ilt c (n8 (65:UInt8)))
          (cnd (ilt c (n8 (48:UInt8)))
           (cnd (ine c (n8 (95:UInt8)))
            (cnd (ine c (n8 (45:UInt8)))
             (some false)
             X)
            X)
           (cnd (ilt (n8 (57:UInt8)) c)
            (cnd (ine c (n8 (95:UInt8)))
             (cnd (ine c (n8 (45:UInt8)))
              (some false)
              X)
             X)
            X))
          (cnd (ilt (n8 (90:UInt8)) c)
           (cnd (ilt c (n8 (48:UInt8)))
            (cnd (ine c (n8 (95:UInt8)))
             (cnd (ine c (n8 (45:UInt8)))
              (some false)
              X)
             X)
            (cnd (ilt (n8 (57:UInt8)) c)
             (cnd (ine c (n8 (95:UInt8)))
              (cnd (ine c (n8 (45:UInt8)))
               (some false)
               X)
              X)
             X))
           X))=cnd (okc c) X (some false):=by
 have e1:n8 (65:UInt8)=65:=rfl
 have e2:n8 (48:UInt8)=48:=rfl
 have e3:n8 (95:UInt8)=95:=rfl
 have e4:n8 (45:UInt8)=45:=rfl
 have e5:n8 (57:UInt8)=57:=rfl
 have e6:n8 (90:UInt8)=90:=rfl
 rw[e1,e2,e3,e4,e5,e6];simp only[dH,vH,okc,jK]
 repeat' split
 all_goals first|rfl|(exfalso; omega)
def upc(c:Int):Bool:=decide (65≤c∧c≤90)
def nm(s:Y_):Bool:=decide (1≤s.length∧s.length≤16)&&upc (n8 (s.getD 0 0))&&s.all fun c=>okc (n8 c)
theorem aFE{s:Y_}{i:Nat}(h:i<s.length) (P:UInt8→Bool):(s.drop i).all P=(P s[i]&&(s.drop (i+1)).all P):=by
 rw[aXR h,aZ8]
theorem T0{s:Y_}(hs:s.length≤16):∀(fuel i:Nat),s.length-i<fuel→i≤s.length →
  bI (fun v2 (v3:Int) =>
        cnd (ilt v3 (len s))
         (grd (inb v3 (len s)) (cnd (okc (n8 (aA s (toN v3) (0:UInt8)))) (v2 (w64 (aE v3 (1:Int)))) (some false)))
         (some true)) fuel (i:Int)=some ((s.drop i).all fun c=>okc (n8 c))
 | 0,i,h,_=>by omega
 |fuel+1,i,h,hi=>by
  rw[gN]
  by_cases hl:i<s.length
  ·have g:aA s (toN (i:Int)) 0=s[i]:=by simp[aA,toN,hl]
   rw[aD (aV (by simp only[len]; omega)),aF (aY (by simp only[len]; omega)),g,aFE hl]
   have hw:w64 (aE (i:Int) 1)=((i+1:Nat):Int):=by
    simp only[aE]; rw[bU (by omega)]; omega
   rw[hw,T0 hs fuel (i+1) (by omega) (by omega)];cases okc (n8 s[i])<;>rfl
  ·rw[aC (aX (by simp only[len]; omega))]
   have:s.drop i=[]:=by simp; omega
   rw[this];rfl
theorem oR(s:Y_):q14 fuelH s=some (nm s):=by
 unfold q14;simp only[bT,aI2]
 by_cases h1:s.length<1
 ·rw[aD (aV (by simp only[len]; omega))];simp[nm]; omega
 ·rw[aC (aX (by simp only[len]; omega))]
  by_cases h2:16<s.length
  ·rw[aD (aV (by simp only[len]; omega))];simp[nm]; omega
  ·rw[aC (aX (by simp only[len]; omega)),aF (aY (by simp only[len]; omega))]
   have e0:aA s (toN 0) 0=s.getD 0 0:=rfl
   have e1:n8 (65:UInt8)=65:=rfl
   have e2:n8 (90:UInt8)=90:=rfl
   rw[e0,e1,e2,dH]
   have hd:decide (1≤s.length∧s.length≤16)=true:=decide_eq_true (by omega)
   split
   ·rename_i h3
    have:upc (n8 (s.getD 0 0))=false:=decide_eq_false (by omega)
    simp only[nm,this,Bool.and_false,aZ2]
   ·rw[aF (aY (by simp only[len]; omega)),dH]
    split
    ·rename_i h4
     have:upc (n8 (s.getD 0 0))=false:=decide_eq_false (by omega)
     simp only[nm,this,Bool.and_false,aZ2]
    ·have hu:upc (n8 (s.getD 0 0))=true:=decide_eq_true (by omega)
     have:=T0 (s:=s) (by omega) fuelH 0 (by have:=bG; omega) (bAK _)
     simp only[nm,hu,hd,aZ7]
     simpa using this
abbrev Lbl:=Int×Int×Int×Int×Bool
abbrev Hdr:=UInt8×Y_×Y_×Int×Int×Lbl×Lbl×Int×Int
theorem qO{α:Type}{p:Prop} [Decidable p] {x y:Option α}:cnd (bO (decide p)) x y=if p then y else x:=by
 by_cases hp:p<;>simp[hp,bO,cnd]
theorem aB{α β:Type}{a:α}{k:α→Option β}:bnd (some a) k=k a:=rfl
def SK:Nat→Y_→List Int
 | 0,_=>[]
 |n+1,l=>if l=[] then [] else((decodeL l).1:Int)::SK n (l.drop (decodeL l).2)
def rns(l:Y_):List Int:=SK l.length l
def ofR(l:List Int):Y_:=l.flatMap enc
theorem nR:∀n,SK n []=[]
 | 0=>rfl
 |n+1=>by simp[SK]
theorem GT:∀(n m:Nat) (l:Y_),l.length≤n→l.length≤m→SK n l=SK m l
 | 0,m,l,h,_=>by
  have:l=[]:=aXI (by omega)
  subst this;rw[nR,nR]
 |n+1,0,l,_,h=>by
  have:l=[]:=aXI (by omega)
  subst this;rw[nR,nR]
 |n+1,m+1,l,h1,h2=>by
  by_cases hl:l=[]
  ·subst hl; rw[nR,nR]
  ·have hp:=kU l
   have hlen:0<l.length:=aYR.2 hl
   simp only[SK,hl,if_false];rw[GT n m _ (by simp; omega) (by simp; omega)]
theorem DP(l:Y_) (hl:l≠[]):rns l=((decodeL l).1:Int)::rns (l.drop (decodeL l).2):=by
 have hp:=kU l
 have hlen:0<l.length:=aYR.2 hl
 unfold rns;obtain⟨n,hn⟩:∃n,l.length=n+1:=⟨l.length-1,by omega⟩;rw[hn];simp only[SK,hl,if_false];rw[GT n _ _ (by simp; omega) (bAJ _)]
theorem aI3{r:Int}(h:dO r=true):r∈gG++gY:=by
 unfold dO at h;rw[←L1,Bool.or_eq_true] at h;rw[aZN];rcases h with h|h
 ·exact .inl (aYB.1 h)
 ·exact .inr (aYB.1 h)
theorem vI{P:Int→Bool}(h:((gG++gY).all P)=true){r:Int}(hr:dO r=true):P r=true :=
 aZJ.1 h r (aI3 hr)
theorem aI4{r:Int}(hr:dO r=true):enc r=encodeRune r :=
 of_decide_eq_true (vI (P:=fun r=>decide (enc r=encodeRune r)) (by kernel_rfl) hr)
theorem aI5(l:Y_) (hl:l≠[]) (hr:dO ((decodeL l).1:Int)=true):enc ((decodeL l).1:Int)=l.take (decodeL l).2:=by
 rw[aI4 hr];refine encode_decode l hl ?_;rintro⟨e,_⟩;rw[e] at hr;exact absurd hr (by decide)
theorem NR:∀(n:Nat) (l:Y_),l.length≤n→vld l=true→(rns l).all dO=true∧ofR (rns l)=l
 |n,l,h,hv=>by
  by_cases hl:l=[]
  ·subst hl; exact⟨rfl,rfl⟩
  ·have hlen:0<l.length:=aYR.2 hl
   have hp:=kU l
   rw[vG l hl] at hv
   split at hv
   ·rename_i hr
    cases n with
    |zero=>omega
    |succ n =>
     obtain⟨h1,h2⟩:=NR n _ (by simp; omega) hv;rw[DP l hl];refine⟨by rw[aZ8,hr,h1]; rfl,?_⟩;unfold ofR at h2 ⊢;rw[List.flatMap_cons,h2,aI5 l hl hr,aX7]
   ·cases hv
theorem aO8{l:Y_}(h:vld l=true):(rns l).all dO=true:=(NR _ l (bAJ _) h).1
theorem aI6{l:Y_}(h:vld l=true):ofR (rns l)=l:=(NR _ l (bAJ _) h).2
theorem NS:∀(n:Nat) (l:Y_),l.length≤n→(rns l).length≤l.length
 |n,l,h=>by
  by_cases hl:l=[]
  ·subst hl; exact bAJ _
  ·have hlen:0<l.length:=aYR.2 hl
   have hp:=kU l
   rw[DP l hl]
   cases n with
   |zero=>omega
   |succ n =>
    have:=NS n (l.drop (decodeL l).2) (by simp; omega)
    simp at this ⊢;omega
def SL{σ R:Type}(g:Int→σ→(σ→Option R)→Option R) (e:σ→Option R):List Int→σ→Option R
 | [],a=>e a
 |r::l,a=>g r a fun a'=>SL g e l a'
theorem SM{V R σ:Type}{F:(V→Option R)→V→Option R}{s:Y_}(st:σ→Nat→V) (g:Int→σ→(σ→Option R)→Option R) (e:σ→Option R)
  (hstep:∀self a p,p<s.length→F self (st a p)=g (wF s p) a fun a'=>self (st a' (p+wG s p)))
  (hend:∀self a p,s.length≤p→F self (st a p)=e a):∀(fuel p:Nat) (a:σ),s.length-p<fuel→bI F fuel (st a p)=SL g e (rns (s.drop p)) a
 | 0,p,a,h=>by omega
 |fuel+1,p,a,h=>by
  rw[gN]
  by_cases hp:p<s.length
  ·have hne:s.drop p≠[]:=by intro e; have:=congrArg List.length e; simp at this; omega
   have hw:=kU (s.drop p)
   rw[hstep _ _ _ hp,DP _ hne,←S9,SL,aZY,←NQ];congr 1;funext a';rw[NQ]
   have:=SM st g e hstep hend fuel (p+(decodeL (s.drop p)).2) a' (by omega)
   exact this
  ·rw[hend _ _ _ (by omega)]
   have:s.drop p=[]:=by simp; omega
   rw[this];rfl
def SN{α σ R:Type}(g:Nat→α→σ→(σ→Option R)→Option R) (e:σ→Option R):Nat→List α→σ→Option R
 |_,[],a=>e a
 |i,x::l,a=>g i x a fun a'=>SN g e (i+1) l a'
theorem SO{V R σ α:Type}{F:(V→Option R)→V→Option R}{l:List α}(st:σ→Nat→V) (g:Nat→α→σ→(σ→Option R)→Option R) (e:σ→Option R)
  (hstep:∀self a i (h:i<l.length),F self (st a i)=g i l[i] a fun a'=>self (st a' (i+1)))
  (hend:∀self a,F self (st a l.length)=e a):∀(fuel i:Nat) (a:σ),i≤l.length→l.length-i<fuel→bI F fuel (st a i)=SN g e i (l.drop i) a
 | 0,i,a,_,h=>by omega
 |fuel+1,i,a,hi,h=>by
  rw[gN]
  by_cases hl:i<l.length
  ·rw[hstep _ _ _ hl,aXR hl,SN];congr 1;funext a';exact SO st g e hstep hend fuel (i+1) a' (by omega) (by omega)
  ·obtain rfl:i=l.length:=by omega
   rw[hend,aZK];rfl
theorem aR{i n:Nat}(h:i<n) (hn:n≤9223372036854775807):w64 (aE (i:Int) 1)=((i+1:Nat):Int):=by
 simp only[aE]; rw[bU (by omega)]; omega
theorem bA{α:Type}{l:List α}{i:Nat}{d:α}(h:i<l.length):aA l (toN (i:Int)) d=l[i]:=by simp[aA,toN,h]
theorem aWD{a b:Nat}(h:a<b):nlt a b=true:=decide_eq_true h
theorem aWE{a b:Nat}(h:¬a<b):nlt a b=false:=decide_eq_false h
theorem T7(n:Nat):toN (ofN n)=n:=by simp[toN,ofN]
def ixE(r:Int):Option Int:=cnd (ile 32 r) (cnd (ile r 126) (some (w64 (wr .i32 (aJ r 32)))) (yX (gG++gY) 0 r)) (yX (gG++gY) 0 r)
def ix(r:Int):Int:=(ixE r).getD 0
def aXA:List Int:=[33,99,76,36,89,124,83,67,34,82,111,46,34,50,63,65,65,65,65,65,65,65,67,69,69,69,69,73,73,73,73,78,79,79,79,79,79,79,85,85,85,85,115,97,97,97,97,97,97,97,99,101,101,101,101,105,105,105,105,110,111,111,111,111,111,111,117,117,117,117,79,111,45,39,39,34,34,46,46,84,35]
def bas(r:Int):Int:=if r<127 then r else aXA.getD ((ix r).toNat-95) 0
def aXB:List (UInt8×Y_×List Int):=[(193,[195,128,195,136,195,140,195,146,195,153],[192,200,204,210,217]),(194,[195,129,195,137,195,141,195,147,195,154],[193,201,205,211,218]),(195,[195,130,195,138,195,142,195,148,195,155],[194,202,206,212,219]),(196,[195,131,195,145,195,149],[195,209,213]),(197,[],[]),(198,[],[]),(199,[],[]),(200,[195,132,195,139,195,143,195,150,195,156],[196,203,207,214,220]),(201,[],[]),(202,[195,133],[197]),(203,[195,135],[199])]
def sgs:List (Int×UInt8):=[(161,161),(162,162),(163,163),(164,164),(165,165),(166,166),(167,167),(169,168),(8216,169),(8220,170),(171,171),(174,172),(8212,173),(8226,174),(8230,175),(176,176),(8482,180),(183,183),(8217,185),(8221,186),(187,187),(189,189),(191,191),(9834,213),(198,225),(216,233),(338,234),(230,241),(248,249),(339,250),(223,251)]
end Go.Mo
end
section
end
section
namespace Go.Mo
open Go Go.W Go.Lib
set_option maxRecDepth 100000
noncomputable section
theorem gZ{n:Int}(h:n≤9223372036854775807):eB n=true:=decide_eq_true h
theorem aI7{r:Int}(hr:dO r=true):(enc r).length≤4 :=
 of_decide_eq_true (vI (P:=fun r=>decide ((enc r).length≤4)) (by kernel_rfl) hr)
theorem cB(x y:Y_):seq x y=decide (x=y):=by
 unfold seq
 by_cases h:x=y
 ·subst h; simp
 ·rw[decide_eq_false h]
  simpa using h
def low(r:Int):Int:=if(65≤r∧r≤90)∨(192≤r∧r<223) then r+32 else if r=338 then 339 else r
def aXC(a:UInt8):List Int:=match aXB.find? fun x=>x.1==a with
 |some x=>x.2.2
 |none=>[]
def acG:List Int→UInt8→Option (Int×Int)
 | [],_=>some (0,0)
 |r::l,b=>cnd (ieq (bas r) (n8 b)) (some (r,(2:Int))) (cnd (ieq (bas (low r)) (n8 b)) (some (low r,(2:Int))) (acG l b))
def sgF(a:UInt8):Option (Int×UInt8):=sgs.find? fun x=>n8 x.2==n8 a
end
end Go.Mo
end
section
namespace Go.Mo
open Go Go.W Go.Lib
set_option maxRecDepth 100000
abbrev Sty:=UInt8×Bool×Bool
abbrev Run:=Y_×Sty×Y_
abbrev Row:=List Run
theorem vJ{α:Type}{b:Bool}{x y:Option α}:cnd b x y=if b=true then x else y:=by cases b<;>rfl
theorem mY{b:Bool}:(bO b=true)=(b=false):=by cases b<;>simp[bO]
theorem cX{a b:Y_}:(seq a b=true)=(a=b):=by rw[cB]; simp
theorem qP{a b:Int}:(ieq a b=true)=(a=b):=by simp[ieq]
theorem aO9{a b:Int}:(ilt a b=true)=(a<b):=by simp[ilt]
theorem DQ{a b:Bool}:(pF a b=true)=(a=b):=by simp[pF]
theorem rR{a b:Bool}:(dQ a b=true)=(a=true∧b=true):=by simp[dQ]
theorem aFF{a b:UInt8}:(n8 a=n8 b)=(a=b):=propext ⟨fG,fun h=>by rw[h]⟩
theorem qQ{i:Nat}(h:0<i) (hn:i≤9223372036854775807):w64 (aJ (i:Int) 1)=((i-1:Nat):Int):=by
 simp only[aJ]; rw[bU (by omega)]; omega
theorem nS{i:Nat}(hn:i<9223372036854775807):w64 (aJ ((i+1:Nat):Int) 1)=(i:Int):=by
 rw[qQ (Nat.succ_pos i) (by omega)]; rfl
theorem L3{a b:Sty}:(a=b)=(a.1=b.1∧a.2.1=b.2.1∧a.2.2=b.2.2):=by
 obtain⟨a1,a2,a3⟩:=a; obtain⟨b1,b2,b3⟩:=b; simp
def tS(a b:Run):Prop:=a.2.1=b.2.1∧a.2.2=[]∧b.2.2=[]
instance (a b:Run):Decidable (tS a b):=by unfold tS; infer_instance
def lY(p:Option Run) (x:Run):Int :=
 if vld x.1=false then 10 else if x.1=[] then 4 else if ¬n8 x.2.1.1≤6 then 12 else if vld x.2.2=false then 10 else match p with
  |none=>0
  |some p=>if tS p x then 8 else 0
def aBU:Option Run→List Run→Int
 |_,[]=>0
 |p,x::r=>if lY p x≠0 then lY p x else aBU (some x) r
def mZ(l:Row):Int:=if 16<l.length then 9 else aBU none l
def L4(l:Row):Prop:=∀x∈l,x.1.length≤4000000∧x.2.2.length≤4000000
def before{α:Type}(l:List α):Nat→Option α
 | 0=>none
 |i+1=>l[i]?
theorem GU(l:Row):∀(r:List Run) (i:Nat),l.drop i=r→i≤l.length→SN (fun i (x:Run) (_:Unit) self=>if lY (before l i) x≠0 then some (lY (before l i) x) else self ()) (fun _=>some (0:Int)) i r ()=some (aBU (before l i) r)
 | [],i,_,_=>rfl
 |x::r,i,h,hi=>by
  have hx:l[i]?=some x:=by rw[←List.head?_drop,h]; rfl
  have hr:l.drop (i+1)=r:=by rw[←aZY,h]; rfl
  have hl:i<l.length:=(aXP.1 hx).1
  simp only[SN,aBU];rw[GU l r (i+1) hr (by omega)]
  have e:before l (i+1)=some x:=hx
  rw[e]
  by_cases hc:lY (before l i) x≠0
  ·rw[if_pos hc,if_pos hc]
  ·rw[if_neg hc,if_neg hc]
theorem DS(N:Nat) (a b:Run):q29 N (a,b)=some (decide (tS a b)):=by
 unfold q29;simp only[vJ,rR,qP,DQ,aFF,cB,decide_eq_true_eq]
 by_cases h1:a.2.1.1=b.2.1.1∧a.2.1.2.1=b.2.1.2.1∧a.2.1.2.2=b.2.1.2.2
 ·rw[if_pos h1]
  have:a.2.1=b.2.1:=by rw[L3]; exact h1
  by_cases h2:a.2.2=[]
  ·rw[if_pos h2]; simp[tS,this,h2]
  ·rw[if_neg h2]; simp[tS,h2]
 ·rw[if_neg h1]
  have:¬a.2.1=b.2.1:=by rw[L3]; exact h1
  simp[tS,this]
theorem SP{l:Row}(hl:L4 l):q30 fuelH l=some (mZ l):=by
 unfold q30
 by_cases h:16<l.length
 ·rw[aD (aV (by simp only[len]; omega))]; simp[mZ,h]
 ·rw[aC (aX (by simp only[len]; omega)),bT];refine bAM (SO (l:=l) (fun (_:Unit) (p:Nat)=>(p:Int)) (fun i (x:Run) (_:Unit) self=>if lY (before l i) x≠0 then some (lY (before l i) x) else self ()) (fun _=>some (0:Int)) (fun self a i hi=>?_) (fun self a=>?_) fuelH 0 () (bAK _) (by have:=bG; omega)) ?_
  ·rw[aD (aV (by simp only[len]; omega)),aF (aY (by simp only[len]; omega)),bA hi];obtain⟨b1,b2⟩:=hl l[i] (aZL hi);rw[bM (kB _ b1),bM (show q28 fuelH l[i].2.1=some (ile (n8 l[i].2.1.1) 6) from rfl),bM (kB _ b2)];simp only[vJ,mY,cX,ile,decide_eq_false_iff_not];rw[aR hi (by omega)]
   cases i with
   |zero =>
    have e0:before l 0=none:=rfl
    rw[e0,if_neg (show ¬ilt (0:Int) ((0:Nat):Int)=true by decide)];simp only[lY]
    repeat' split
    all_goals first|rfl|(exfalso; omega)|simp_all
   |succ i =>
    have e0:before l (i+1)=some l[i]:=by simp only[before]; exact aXU (by omega)
    rw[e0,if_pos (show ilt (0:Int) ((i+1:Nat):Int)=true from aV (by omega)),nS (by omega),aF (aY (by simp only[len]; omega)),bA (show i<l.length by omega),bM (DS _ _ _)];simp only[lY,decide_eq_true_eq]
    repeat' split
    all_goals first|rfl|(exfalso; omega)|simp_all
  ·rw[aC (aX (by simp only[len]; omega))]
  ·rw[aZZ,GU l l 0 rfl (bAK _)];simp[mZ,h,before]
def itI{α σ R:Type}(f:Nat→α→σ→Option R ⊕ σ) (e:σ→Option R):Nat→List α→σ→Option R
 |_,[],a=>e a
 |i,x::l,a=>match f i x a with
  | .inl r=>r
  | .inr a'=>itI f e (i+1) l a'
def Rnd{V R σ:Type}(X:Option R) (self:V→Option R) (next:σ→V) (I:σ→Prop):Option R ⊕ σ→Prop
 | .inl r=>X=r
 | .inr a=>X=self (next a)∧I a
theorem tT{V R σ α:Type}{F:(V→Option R)→V→Option R}{l:List α}(st:σ→Nat→V) (f:Nat→α→σ→Option R ⊕ σ) (e:σ→Option R) (I:Nat→σ→Prop)
  (hstep:∀self a i (h:i<l.length),I i a→Rnd (F self (st a i)) self (fun a=>st a (i+1)) (I (i+1)) (f i l[i] a))
  (hend:∀self a,I l.length a→F self (st a l.length)=e a):∀(fuel i:Nat) (a:σ),i≤l.length→l.length-i<fuel→I i a→bI F fuel (st a i)=itI f e i (l.drop i) a
 | 0,i,a,_,h,_=>by omega
 |fuel+1,i,a,hi,h,hI=>by
  rw[gN]
  by_cases hl:i<l.length
  ·rw[aXR hl,itI]
   have hs:=hstep (bI F fuel) a i hl hI
   cases hf:f i l[i] a with
   |inl r=>rw[hf] at hs; exact hs
   |inr a' =>
    rw[hf] at hs;rw[hs.1];exact tT st f e I hstep hend fuel (i+1) a' (by omega) (by omega) hs.2
  ·obtain rfl:i=l.length:=by omega
   rw[hend _ _ hI,aZK];rfl
def tot:Row→Nat
 | []=>0
 |x::r=>x.1.length+tot r
theorem AR(a b:Row):tot (a++b)=tot a+tot b:=by
 induction a with
 |nil=>simp[tot]
 |cons x a ih=>simp only[aZC,tot,ih]; omega
theorem aI8{l:Row}{p:Run}(h:l.getLast?=some p):l=l.dropLast++[p]:=by
 cases l with
 |nil=>cases h
 |cons x l =>
  rw[List.getLast?_eq_some_getLast (List.cons_ne_nil x l)] at h;injection h with h;rw[←h];exact(List.dropLast_concat_getLast (List.cons_ne_nil x l)).symm
theorem lA{out:Row}{p:Run}(h:out.getLast?=some p) (y:Run):pG out (out.length-1) y=out.dropLast++[y]:=by
 have e:=aI8 h
 have hl:out.length-1=out.dropLast.length:=by simp
 rw[hl]
 conv=>lhs; rw[e]
 unfold pG;rw[aX9 _ _ (by simp)];simp
end Go.Mo
end
section
namespace Go.Mo
open Go Go.W Go.Lib
set_option maxRecDepth 100000
noncomputable section
theorem T8:∀(l:List Run) (p:Option Run),aBU p l=0→∀x∈l,vld x.1=true∧x.1≠[]∧n8 x.2.1.1≤6∧vld x.2.2=true
 | [],_,_,x,hx=>by cases hx
 |y::l,p,h,x,hx=>by
  simp only[aBU] at h
  split at h
  ·rename_i hc; exact absurd h hc
  ·rename_i hc;rcases aZ4.1 hx with rfl|hx
   ·have hc:lY p x=0:=by simpa using hc
    unfold lY at hc
    split at hc
    ·cases hc
    ·split at hc
     ·cases hc
     ·split at hc
      ·cases hc
      ·split at hc
       ·cases hc
       ·rename_i h1 h2 h3 h4;exact⟨by simpa using h1,h2,by omega,by simpa using h4⟩
   ·exact T8 l _ h x hx
theorem xS{l:Row}(h:mZ l=0):l.length≤16∧∀x∈l,vld x.1=true∧x.1≠[]∧n8 x.2.1.1≤6∧vld x.2.2=true:=by
 unfold mZ at h
 split at h
 ·cases h
 ·exact⟨by omega,T8 l _ h⟩
def aBV:Row→Nat
 | []=>0
 |x::r=>3+x.1.length+aBV r
theorem aI9(l:Row):aBV l=3*l.length+tot l:=by
 induction l with
 |nil=>rfl
 |cons x l ih=>simp only[aBV,tot,aZA,ih]; omega
def aPA(l:List Row):Prop:=∀r∈l,L4 r
def g1(a:UInt8):Option Int:=if 32≤n8 a∧n8 a<127 then some (n8 a) else(sgF a).map (·.1)
def g2(a b:UInt8):Int×Int:=(acG (aXC a) b).getD (0,0)
theorem aPB{a b:Run}:(a=b)=(a.1=b.1∧a.2.1=b.2.1∧a.2.2=b.2.2):=by
 obtain⟨a1,a2,a3⟩:=a; obtain⟨b1,b2,b3⟩:=b; simp
theorem GV{α:Type}:∀(l m:List α) [DecidableEq α],l.length=m.length→∀i,itI (fun i (x:α) (_:Unit)=>if some x=m[i]? then(.inr ():Option Bool ⊕ Unit) else .inl (some false)) (fun _=>some true) i (l.drop i) ()=some (decide (l.drop i=m.drop i)):=by
 intro l m _ hl i;generalize hr:l.drop i=r
 induction r generalizing i with
 |nil =>
  have h1:l.length≤i:=by have:=congrArg List.length hr; simp at this; omega
  have:m.drop i=[]:=by rw[List.drop_eq_nil_iff]; omega
  rw[this]; simp[itI]
 |cons x r ih =>
  have hx:l[i]?=some x:=by rw[←List.head?_drop,hr]; rfl
  have hi:=(aXP.1 hx).1
  have hr':l.drop (i+1)=r:=by rw[←aZY,hr]; rfl
  have hm:m.drop i=m[i]::m.drop (i+1):=aXR (by omega)
  rw[hm];simp only[itI]
  by_cases h:some x=m[i]?
  ·rw[if_pos h];simp only;rw[ih (i+1) hr'];rw[aXU (by omega)] at h;injection h with h;exact congrArg some (decide_eq_decide.2 ⟨fun e=>by rw[h,e],fun e=>by injection e⟩)
  ·rw[if_neg h];rw[aXU (by omega)] at h
   have:x≠m[i]:=fun e=>h (by rw[e])
   exact congrArg some (decide_eq_false fun e=>this (by injection e)).symm
theorem aPC(a b:Row) (hl:a.length≤4000000):aA9 fuelH (a,b)=some (decide (a=b)):=by
 unfold aA9
 by_cases h:a.length=b.length
 ·rw[aC (cL (by simp only[len]; omega)),bT];refine bAM (tT (l:=a) (fun (_:Unit) (p:Nat)=>(p:Int)) (fun i (x:Run) (_:Unit)=>if some x=b[i]? then .inr () else .inl (some false)) (fun _=>some true) (fun _ _=>True) (fun self _ i hi _=>?_) (fun self _ _=>?_) fuelH 0 () (bAK _) (by have:=bG; omega) trivial) ?_
  ·have hb:i<b.length:=by omega
   have e:cnd (ilt (i:Int) (len a)) (grd (inb (i:Int) (len a)) (grd (inb (i:Int) (len b)) (cnd (bO (dQ (seq (aA a (toN (i:Int)) zU).1 (aA b (toN (i:Int)) zU).1) (dQ (dQ (ieq (n8 (aA a (toN (i:Int)) zU).2.1.1) (n8 (aA b (toN (i:Int)) zU).2.1.1)) (dQ (pF (aA a (toN (i:Int)) zU).2.1.2.1 (aA b (toN (i:Int)) zU).2.1.2.1) (pF (aA a (toN (i:Int)) zU).2.1.2.2 (aA b (toN (i:Int)) zU).2.1.2.2))) (seq (aA a (toN (i:Int)) zU).2.2 (aA b (toN (i:Int)) zU).2.2)))) (some false) (self (w64 (aE (i:Int) 1)))))) (some true)=if a[i]=b[i] then self ((i+1:Nat):Int) else some false:=by
    rw[aD (aV (by simp only[len]; omega)),aF (aY (by simp only[len]; omega)),aF (aY (by simp only[len]; omega)),bA hi,bA hb,aR hi (by omega),vJ];simp only[mY,Bool.eq_false_iff,ne_eq,rR,cX,qP,DQ,aFF,←L3,←aPB]
    by_cases hc:a[i]=b[i]
    ·rw[if_neg (by simpa using hc),if_pos hc]
    ·rw[if_pos hc,if_neg hc]
   rw[aXU hb]
   by_cases hc:a[i]=b[i]
   ·rw[if_pos (by rw[hc])];exact⟨e.trans (if_pos hc),trivial⟩
   ·rw[if_neg (fun h=>hc (by injection h))];exact e.trans (if_neg hc)
  ·simp only;rw[aC (aX (by simp only[len]; omega))]
  ·exact GV a b h 0
 ·rw[aD (cA (by simp only[len]; omega))]
  have:a≠b:=fun e=>h (by rw[e])
  simp[this]
theorem aFG(a b:Row) (hl:a.length≤4000000):RU fuelH (a,b)=some (decide (a=b)):=by
 unfold RU;rw[aPC a b hl,aB]
theorem aBW(a b:List Row) (hl:a.length≤4000000) (h:∀r∈a,r.length≤4000000):aBA fuelH (a,b)=some (decide (a=b)):=by
 unfold aBA aEV
 by_cases hab:a.length=b.length
 ·rw[aC (cL (by simp only[len]; omega)),bT]
  have:∀X:Option Bool,(bnd X fun v0=>some v0)=X:=fun X=>by cases X<;>rfl
  rw[this];refine bAM (tT (l:=a) (fun (_:Unit) (p:Nat)=>(p:Int)) (fun i (x:Row) (_:Unit)=>if some x=b[i]? then .inr () else .inl (some false)) (fun _=>some true) (fun _ _=>True) (fun self _ i hi _=>?_) (fun self _ _=>?_) fuelH 0 () (bAK _) (by have:=bG; omega) trivial) ?_
  ·have hb:i<b.length:=by omega
   have e:cnd (ilt (i:Int) (len a)) (grd (inb (i:Int) (len a)) (grd (inb (i:Int) (len b)) (bnd (RU fuelH (aA a (toN (i:Int)) [],aA b (toN (i:Int)) [])) fun v4=>cnd (bO v4) (some false) (self (w64 (aE (i:Int) 1)))))) (some true)=if a[i]=b[i] then self ((i+1:Nat):Int) else some false:=by
    rw[aD (aV (by simp only[len]; omega)),aF (aY (by simp only[len]; omega)),aF (aY (by simp only[len]; omega)),bA hi,bA hb,aR hi (by omega),aFG _ _ (h _ (aZL hi)),aB,qO]
   rw[aXU hb]
   by_cases hc:a[i]=b[i]
   ·rw[if_pos (by rw[hc])];exact⟨e.trans (if_pos hc),trivial⟩
   ·rw[if_neg (fun h=>hc (by injection h))];exact e.trans (if_neg hc)
  ·simp only;rw[aC (aX (by simp only[len]; omega))]
  ·exact GV a b hab 0
 ·rw[aD (cA (by simp only[len]; omega))]
  have:a≠b:=fun e=>hab (by rw[e])
  simp[this,aB]
theorem gU{V R σ:Type}{F:(V→Option R)→V→Option R}{n:Nat}(st:σ→Nat→V) (I:Nat→σ→Prop) (r:Option R)
  (hstep:∀self a i,i<n→I i a→∃a',F self (st a i)=self (st a' (i+1))∧I (i+1) a') (hend:∀self a,I n a→F self (st a n)=r):∀(fuel i:Nat) (a:σ),i≤n→n-i<fuel→I i a→bI F fuel (st a i)=r
 | 0,i,a,_,h,_=>by omega
 |fuel+1,i,a,hi,h,hI=>by
  rw[gN]
  by_cases hl:i<n
  ·obtain⟨a',h1,h2⟩:=hstep (bI F fuel) a i hl hI;rw[h1];exact gU st I r hstep hend fuel (i+1) a' (by omega) (by omega) h2
  ·obtain rfl:i=n:=by omega
   exact hend _ _ hI
theorem tU{α:Type}{f:α→Nat}{l:List α}{x:α}(h:x∈l):f x≤bkL f l:=by
 induction l with
 |nil=>cases h
 |cons y l ih =>
  simp only[bkL];rcases aZ4.1 h with rfl|h
  ·omega
  ·have:=ih h; omega
theorem NT{α:Type}{f:α→Nat}(hf:∀x,1≤f x) (l:List α):l.length≤bkL f l:=by
 induction l with
 |nil=>exact bAJ _
 |cons y l ih=>have:=hf y; simp only[bkL,aZA]; omega
theorem AS{α:Type}{f:α→Nat}:∀(n:Nat) (l:List α),bkL f (l.take n)≤bkL f l
 | 0,_=>bAK _
 |n+1,[]=>bAJ _
 |n+1,x::l=>by have:=AS (f:=f) n l; simp only[aYO,bkL]; omega
def wtU(x:Run):Nat:=x.1.length+1+(1+(1+1)+(x.2.2.length+1))
def wtR(r:Row):Nat:=bkL wtU r+1
theorem aJA(r:Row):aBV r≤bkL wtU r:=by
 induction r with
 |nil=>exact bAJ _
 |cons x r ih=>simp only[aBV,bkL,wtU]; omega
theorem aFH{l:List Row}{B:Nat}(h:bkL wtR l≤B) (hB:B≤4000000):aPA l:=fun r hr x hx=>by
 have h1:bkL wtU r+1≤bkL wtR l:=tU (f:=wtR) hr
 have h2:x.1.length+1+(1+(1+1)+(x.2.2.length+1))≤bkL wtU r:=tU (f:=wtU) hx
 omega
theorem L5{l:List Row}(h:l.length≤4000000):aBF fuelH l=some l:=by
 have h1:grd (cJ (aE (len ([]:List Row)) (len l)) 24) (some (bC ([]:List Row) l))=some l:=by
  rw[aF (dD (by simp only[aE,len,aZS]; omega))]; rfl
 unfold aBF
 cases l with
 |nil =>
  rw[aC (by rfl)];exact uA rfl h1
 |cons r l =>
  rw[aD (cA (by simp only[len,aZA]; omega))];exact h1
theorem DT{α:Type}(l:List α) (n:Nat):bL (toN (gO (len l) (n:Int))) l=l.take n∧in2 (gO (len l) (n:Int)) (len l)=true:=by
 have e:toN (gO (len l) (n:Int))=min l.length n:=by simp only[toN,gO,len]; omega
 refine⟨?_,mP (by simp only[gO,len]; omega)⟩;rw[e];unfold bL
 by_cases h:l.length≤n
 ·rw[Nat.min_eq_left h,aZH,aXZ h]
 ·rw[Nat.min_eq_right (by omega)]
theorem aFI(l:Row):tot l≤aBV l:=by rw[aI9]; omega
abbrev Reg:=Y_×Int×Int×Int×Int×UInt8×Bool
abbrev NU:=Int×Int×Int
theorem aJB(N:Nat) (a b c:Int):q20 N (a,b,c)=some (decide (b≤a∧a≤c)):=by
 unfold q20;rw[AP]
 by_cases h:b≤a
 ·simp[h,ile]
 ·simp[h]
def eA(r:Reg):Int :=
 if nm r.1=false then 5 else
 if ¬(0≤r.2.1∧r.2.1≤14) then 2 else
 if ¬(1≤r.2.2.1∧r.2.2.1≤15-r.2.1) then 2 else
 if ¬(0≤r.2.2.2.1∧r.2.2.2.1≤31) then 2 else
 if ¬(1≤r.2.2.2.2.1∧r.2.2.2.2.1≤32-r.2.2.2.1) then 2 else
 if ¬(1≤n8 r.2.2.2.2.2.1∧n8 r.2.2.2.2.2.1≤3) then 3 else 0
theorem aWF{p:Prop} [Decidable p]:(decide p=false)=¬p:=by by_cases h:p<;>simp[h]
theorem vK(r:Reg):q21 fuelH r=some (eA r):=by
 unfold q21 eA;rw[oR,aB];simp only[aJB,aB,vJ,mY,aWF,aO9]
 have e1:n8 (1:UInt8)=1:=rfl
 have e3:n8 (3:UInt8)=3:=rfl
 rw[e1,e3]
 by_cases h0:nm r.1=false
 ·rw[if_pos h0,if_pos h0]
 rw[if_neg h0,if_neg h0]
 by_cases h1:0≤r.2.1∧r.2.1≤14
 ·rw[if_neg (not_not_intro h1),if_neg (not_not_intro h1)]
  have w1:w64 (aJ 15 r.2.1)=15-r.2.1:=by unfold aJ; rw[bU (by omega)]
  rw[w1]
  by_cases h2:1≤r.2.2.1∧r.2.2.1≤15-r.2.1
  ·rw[if_neg (not_not_intro h2),if_neg (not_not_intro h2)]
   by_cases h3:0≤r.2.2.2.1∧r.2.2.2.1≤31
   ·rw[if_neg (not_not_intro h3),if_neg (not_not_intro h3)]
    have w2:w64 (aJ 32 r.2.2.2.1)=32-r.2.2.2.1:=by unfold aJ; rw[bU (by omega)]
    rw[w2]
    by_cases h4:1≤r.2.2.2.2.1∧r.2.2.2.2.1≤32-r.2.2.2.1
    ·rw[if_neg (not_not_intro h4),if_neg (not_not_intro h4)]
     by_cases h5:n8 r.2.2.2.2.2.1<1
     ·rw[if_pos h5,if_pos (by omega)]
     ·rw[if_neg h5]
      by_cases h6:3<n8 r.2.2.2.2.2.1
      ·rw[if_pos h6,if_pos (by omega)]
      ·rw[if_neg h6,if_neg (by omega)]
    ·rw[if_pos h4,if_pos h4]
   ·rw[if_pos h3,if_pos h3]
  ·rw[if_pos h2,if_pos h2]
 ·rw[if_pos h1,if_pos h1]
def mR:Option Reg→List Reg→Int
 |_,[]=>0
 |p,r::l=>if eA r≠0 then eA r else match p with
  |none=>mR (some r) l
  |some q=>if r.1=q.1 then 7 else if slt r.1 q.1=true then 8 else mR (some r) l
def jL(l:List Reg):Int:=if 16<l.length then 9 else mR none l
def NV(p:Option Reg) (r:Reg):Option Int ⊕ Unit:=if eA r≠0 then .inl (some (eA r)) else match p with
  |none=>.inr ()
  |some q=>if r.1=q.1 then .inl (some 7) else if slt r.1 q.1=true then .inl (some 8) else .inr ()
theorem SQ(l:List Reg):∀(r:List Reg) (i:Nat),l.drop i=r→i≤l.length→itI (fun i x (_:Unit)=>NV (before l i) x) (fun _=>some (0:Int)) i r ()=some (mR (before l i) r)
 | [],i,_,_=>rfl
 |x::r,i,h,hi=>by
  have hx:l[i]?=some x:=by rw[←List.head?_drop,h]; rfl
  have hr:l.drop (i+1)=r:=by rw[←aZY,h]; rfl
  have hl:i<l.length:=(aXP.1 hx).1
  simp only[itI,mR,NV]
  have e:before l (i+1)=some x:=hx
  have ih:=SQ l r (i+1) hr (by omega)
  rw[e] at ih
  by_cases hc:eA x≠0
  ·rw[if_pos hc,if_pos hc]
  ·rw[if_neg hc,if_neg hc]
   cases before l i with
   |none=>exact ih
   |some q =>
    simp only
    by_cases h7:x.1=q.1
    ·rw[if_pos h7,if_pos h7]
    ·rw[if_neg h7,if_neg h7]
     by_cases h8:slt x.1 q.1=true
     ·rw[if_pos h8,if_pos h8]
     ·rw[if_neg h8,if_neg h8];exact ih
theorem SR(l:List Reg):q22 fuelH l=some (jL l):=by
 unfold q22
 by_cases h:16<l.length
 ·rw[aD (aV (by simp only[len]; omega))]; simp[jL,h]
 ·rw[aC (aX (by simp only[len]; omega)),bT];refine bAM (tT (l:=l) (fun (_:Unit) (p:Nat)=>(p:Int)) (fun i x (_:Unit)=>NV (before l i) x) (fun _=>some (0:Int)) (fun _ _=>True) (fun self a i hi _=>?_) (fun self a _=>?_) fuelH 0 () (bAK _) (by have:=bG; omega) trivial) ?_
  ·rw[aD (aV (by simp only[len]; omega)),aF (aY (by simp only[len]; omega)),bA hi,bM (vK _)];unfold NV
   by_cases hc:eA l[i]≠0
   ·rw[if_pos hc,aD (cA hc)]; rfl
   ·rw[if_neg hc,aC (cL (by simpa using hc)),bT,aR hi (by omega)]
    cases i with
    |zero =>
     rw[aC (by rfl),aC (by rfl)];exact⟨rfl,trivial⟩
    |succ i =>
     have e0:before l (i+1)=some l[i]:=by simp only[before]; exact aXU (by omega)
     have hin:inb ((i:Nat):Int) (len l)=true:=aY (by simp only[len]; omega)
     have hp:ilt (0:Int) ((i+1:Nat):Int)=true:=aV (by omega)
     rw[e0,aD hp,nS (by omega),aF hin,bA (show i<l.length by omega),aD hp,aF hin];simp only
     by_cases h7:l[i+1].1=l[i].1
     ·rw[if_pos h7,aD (by rw[cX]; exact h7)]; rfl
     ·rw[if_neg h7,aC (by rw[←aZI,cX]; exact h7)]
      by_cases h8:slt l[i+1].1 l[i].1=true
      ·rw[if_pos h8,aD h8]; rfl
      ·rw[if_neg h8,aC (by simpa using h8)];exact⟨rfl,trivial⟩
  ·rw[aC (aX (by simp only[len]; omega))]
  ·rw[aZZ,SQ l l 0 rfl (bAK _)];simp[jL,h,before]
def zR:Reg:=([],11,4,0,32,2,true)
def noR:Reg:=([],0,0,0,0,0,false)
def GW(l:List Reg) (n:Y_):Option Reg:=if n=[] then some zR else l.find? fun r=>decide (r.1=n)
def aFJ(l:List Reg) (n:Y_):Reg×Bool:=match GW l n with
 |some r=>(r,true)
 |none=>(noR,false)
theorem SS(n:Y_):∀(l:List Reg) (i:Nat),itI (fun _ (x:Reg) (_:Unit)=>if x.1=n then(.inl (some (x,true)):Option (Reg×Bool) ⊕ Unit) else .inr ()) (fun _=>some (noR,false)) i l ()=some (match l.find? fun r=>decide (r.1=n) with|some r=>(r,true)|none=>(noR,false))
 | [],_=>rfl
 |x::l,i=>by
  simp only[itI,List.find?_cons]
  by_cases h:x.1=n
  ·rw[if_pos h,decide_eq_true h]
  ·rw[if_neg h,decide_eq_false h];exact SS n l (i+1)
theorem ST(l:List Reg) (hl:l.length≤4000000) (n:Y_):q24 fuelH (l,n)=some (aFJ l n):=by
 unfold q24 aFJ GW;simp only
 by_cases h:n=[]
 ·rw[aD (by rw[cX]; exact h),if_pos h]; rfl
 ·rw[aC (by rw[←aZI,cX]; exact h),if_neg h,bT];refine bAM (tT (l:=l) (fun (_:Unit) (p:Nat)=>(p:Int)) (fun _ (x:Reg) (_:Unit)=>if x.1=n then .inl (some (x,true)) else .inr ()) (fun _=>some (noR,false)) (fun _ _=>True) (fun self a i hi _=>?_) (fun self a _=>?_) fuelH 0 () (bAK _) (by have:=bG; omega) trivial) (SS n l 0)
  ·have hin:inb (i:Int) (len l)=true:=aY (by simp only[len]; omega)
   rw[aD (aV (by simp only[len]; omega)),aF hin,bA hi]
   by_cases hc:l[i].1=n
   ·rw[if_pos hc,aD (by rw[cX]; exact hc)]; rfl
   ·rw[if_neg hc,aC (by rw[←aZI,cX]; exact hc),aR hi (by omega)];exact⟨rfl,trivial⟩
  ·rw[aC (aX (by simp only[len]; omega))];rfl
def jM(r:Reg):Prop:=r=zR∨eA r=0
instance (r:Reg):Decidable (jM r):=by unfold jM; infer_instance
theorem aPD{a b:Reg}:(a=b)=(a.1=b.1∧a.2.1=b.2.1∧a.2.2.1=b.2.2.1∧a.2.2.2.1=b.2.2.2.1∧a.2.2.2.2.1=b.2.2.2.2.1∧a.2.2.2.2.2.1=b.2.2.2.2.2.1∧a.2.2.2.2.2.2=b.2.2.2.2.2.2):=by
 obtain⟨a1,a2,a3,a4,a5,a6,a7⟩:=a; obtain⟨b1,b2,b3,b4,b5,b6,b7⟩:=b; simp
theorem SU(x:Reg):(dQ (seq x.1 zR.1) (dQ (ieq x.2.1 zR.2.1) (dQ (ieq x.2.2.1 zR.2.2.1) (dQ (ieq x.2.2.2.1 zR.2.2.2.1) (dQ (ieq x.2.2.2.2.1 zR.2.2.2.2.1) (dQ (ieq (n8 x.2.2.2.2.2.1) (n8 zR.2.2.2.2.2.1)) (pF x.2.2.2.2.2.2 zR.2.2.2.2.2.2))))))=true)=(x=zR):=by
 simp only[rR,cX,qP,DQ,aFF];exact aPD.symm
theorem xT(r:Reg):q38 fuelH r=some (decide (jM r)):=by
 unfold q38;rw[bM (show q23 fuelH ()=some zR from rfl),vK,aB]
 by_cases h:r=zR
 ·rw[aD ((SU r).mpr h),@decide_eq_true (jM r) _ (.inl h)]
 ·rw[aC (by rw[←aZI]; exact fun k=>h ((SU r).mp k))];congr 1
  by_cases h2:eA r=0
  ·rw[dJ h2,@decide_eq_true (jM r) _ (.inr h2)]
  ·rw[dA h2,@decide_eq_false (jM r) _ (fun k=>k.elim h h2)]
theorem GX{r:Reg}(h:jM r):0≤r.2.1∧1≤r.2.2.1∧r.2.1+r.2.2.1≤15∧0≤r.2.2.2.1∧1≤r.2.2.2.2.1∧r.2.2.2.1+r.2.2.2.2.1≤32∧1≤n8 r.2.2.2.2.2.1∧n8 r.2.2.2.2.2.1≤3:=by
 rcases h with rfl|h
 ·decide
 ·unfold eA at h
  split at h
  ·cases h
  split at h
  ·cases h
  split at h
  ·cases h
  split at h
  ·cases h
  split at h
  ·cases h
  split at h
  ·cases h
  omega
def aFK(r:Reg) (n:Int):Int:=if n8 r.2.2.2.2.2.1=3 then r.2.2.2.1+(r.2.2.2.2.1-n) else if n8 r.2.2.2.2.2.1=2 then r.2.2.2.1+(r.2.2.2.2.1-n).tdiv 2 else r.2.2.2.1
def DU(r:Reg) (k:Nat):Int:=if r.2.2.2.2.2.2=true then r.2.1+(r.2.2.1-(k:Int)) else r.2.1
def T9(r:Reg) (k:Nat) (i:Nat) (n:Int) (out:List NU):Option (List NU×Int) ⊕ List NU :=
 if n<0 then .inl (some ([],2)) else if r.2.2.2.2.1<n then .inl (some ([],11)) else .inr (out++[(DU r k+(i:Int),aFK r n,n)])
def NW(r:Reg) (k:Nat):Nat→List Int→List NU→List NU×Int
 |_,[],out=>(out,0)
 |i,n::l,out=>if n<0 then([],2) else if r.2.2.2.2.1<n then([],11) else NW r k (i+1) l (out++[(DU r k+(i:Int),aFK r n,n)])
def NX(r:Reg) (l:List Int):List NU×Int:=if ¬jM r then([],1) else if r.2.2.1<(l.length:Int) then([],9) else NW r l.length 0 l []
theorem GY(r:Reg) (k:Nat):∀(l:List Int) (i:Nat) (out:List NU),itI (T9 r k) (fun a=>some (a,(0:Int))) i l out=some (NW r k i l out)
 | [],i,out=>rfl
 |n::l,i,out=>by
  simp only[itI,NW,T9]
  by_cases h1:n<0
  ·rw[if_pos h1,if_pos h1]
  ·rw[if_neg h1,if_neg h1]
   by_cases h2:r.2.2.2.2.1<n
   ·rw[if_pos h2,if_pos h2]
   ·rw[if_neg h2,if_neg h2];exact GY r k l (i+1) _
theorem aPE{α β:Type}(K:α→Option β) (b:Bool) (x y:α):jn K (fun v=>cnd b (v x) (v y))=K (if b=true then x else y):=by
 rw[bT]; cases b<;>rfl
theorem aJC{x:Int}(h:0≤x):0≤x.tdiv 2∧x.tdiv 2≤x:=by
 rw[Int.tdiv_eq_ediv_of_nonneg h]; omega
theorem aPF{r:Reg}(hu:jM r){k i:Nat}{n:Int}(hk:(k:Int)≤r.2.2.1) (hi:i<k) (h0:0≤n) (hn:n≤r.2.2.2.2.1) :
  w64 (aE (DU r k) (i:Int))=DU r k+(i:Int)∧w64 (aJ r.2.2.2.2.1 n)=r.2.2.2.2.1-n∧w64 (aE r.2.2.2.1 (r.2.2.2.2.1-n))=r.2.2.2.1+(r.2.2.2.2.1-n)∧w64 (Y0 (r.2.2.2.2.1-n) 2)=(r.2.2.2.2.1-n).tdiv 2∧w64 (aE r.2.2.2.1 ((r.2.2.2.2.1-n).tdiv 2))=r.2.2.2.1+(r.2.2.2.2.1-n).tdiv 2:=by
 have hb:=GX hu
 have hd:=aJC (x:=r.2.2.2.2.1-n) (by omega)
 refine⟨?_,?_,?_,?_,?_⟩
 ·unfold aE DU;rw[bU]
  split<;>omega
 ·unfold aJ; rw[bU (by omega)]
 ·unfold aE; rw[bU (by omega)]
 ·unfold Y0; rw[bU (by omega)]
 ·unfold aE; rw[bU (by omega)]
theorem NY(r:Reg) (l:List Int):q39 fuelH (r,l)=some (NX r l):=by
 unfold q39 NX;simp only;rw[xT,aB,qO]
 by_cases hu:jM r
 ·rw[if_pos hu,if_neg (not_not_intro hu)]
  have hb:=GX hu
  by_cases hk:r.2.2.1<(l.length:Int)
  ·rw[aD (aV (show r.2.2.1<len l from hk)),if_pos hk]
  ·rw[aC (aX (show ¬r.2.2.1<len l from hk)),if_neg hk,aPE]
   have et:(if r.2.2.2.2.2.2=true then w64 (aE r.2.1 (w64 (aJ r.2.2.1 (len l)))) else r.2.1)=DU r l.length:=by
    unfold DU
    have e1:w64 (aJ r.2.2.1 (len l))=r.2.2.1-(l.length:Int):=by unfold aJ len; rw[bU (by omega)]
    rw[e1];unfold aE;rw[bU (by omega)]
   rw[et,bT];refine bAM (tT (l:=l) (fun (a:List NU) (p:Nat)=>(a,(p:Int))) (T9 r l.length) (fun a=>some (a,(0:Int))) (fun i a=>a.length≤i) (fun self a i hi ha=>?_) (fun self a _=>?_) fuelH 0 [] (bAK _) (by have:=bG; omega) (bAJ _)) (GY r l.length l 0 [])
   ·have hin:inb (i:Int) (len l)=true:=aY (by simp only[len]; omega)
    simp only;rw[aD (aV (by simp only[len]; omega)),aF hin,bA hi,aR hi (by omega)];unfold T9
    by_cases h1:l[i]<0
    ·rw[if_pos h1,aD (aV h1)]; rfl
    ·rw[if_neg h1,aC (aX h1)]
     by_cases h2:r.2.2.2.2.1<l[i]
     ·rw[if_pos h2,aD (aV h2)]; rfl
     ·rw[if_neg h2,aC (aX h2)];obtain⟨q1,q2,q3,q4,q5⟩:=aPF hu (k:=l.length) (i:=i) (n:=l[i]) (by omega) hi (by omega) (by omega)
      have hroom:∀s:NU,cJ (aE (len a) (len [s])) 24=true:=fun s=>dD (by simp only[aE,len,List.length_singleton]; omega)
      rw[q1,q2,q3,q4,q5];rw[aF (hroom _),aF (hroom _),aF (hroom _)];refine⟨?_,by simp only[aYT,List.length_singleton]; omega⟩;unfold aFK
      have e3:n8 (3:UInt8)=3:=rfl
      have e2:n8 (2:UInt8)=2:=rfl
      rw[AQ,AQ,e3,e2]
      by_cases c3:n8 r.2.2.2.2.2.1=3
      ·rw[if_pos c3,if_pos c3]; rfl
      ·rw[if_neg c3,if_neg c3]
       by_cases c2:n8 r.2.2.2.2.2.1=2
       ·rw[if_pos c2,if_pos c2]; rfl
       ·rw[if_neg c2,if_neg c2]; rfl
   ·simp only;rw[aC (aX (by simp only[len]; omega))]
 ·rw[if_neg hu,if_pos hu]
abbrev Ev:=Int×(Int×Int)×Y_×UInt8×Y_×List Row
theorem L6{s:Y_}(hs:s.length≤4000000):q33 fuelH s=some ((rns s).length:Int):=by
 unfold q33;rw[bT]
 have hf:∀(l:List Int) (n:Nat),n+l.length≤100000000→SL (fun (_:Int) (a:Int) self=>self (w64 (aE a 1))) (fun a=>some a) l (n:Int)=some ((n+l.length:Nat):Int):=by
  intro l
  induction l with
  |nil=>intro n _; rfl
  |cons r l ih =>
   intro n hn;simp only[aZA] at hn;simp only[SL];rw[aR (show n<n+1 by omega) (by omega),ih (n+1) (by omega)];simp only[aZA];congr 2;omega
 refine(SM (s:=s) (fun (a:Int) (p:Nat)=>(a,s,ofN p)) (fun _ a self=>self (w64 (aE a 1))) (fun a=>some a) (fun self a p hp=>?_) (fun self a p hp=>?_) fuelH 0 (0:Int) (by have:=bG; omega)).trans ?_
 ·simp only[T7];rw[aD (aWD (show p<kF s from hp))];rfl
 ·simp only[T7];rw[aC (aWE (show ¬p<kF s by unfold kF; omega))]
 ·have:=NS _ s (bAJ _)
  have h:=hf (rns s) 0 (by omega)
  rw[aZZ]
  simpa using h
theorem aPG{s:Y_}(hs:s.length≤4000000) (hv:vld s=true):q34 fuelH s=some ((rns s).length:Int):=by
 unfold q34;rw[kB _ hs,aB,hv,aC (by rfl),L6 hs];rfl
def kC:Row→Nat
 | []=>0
 |x::l=>(rns x.1).length+kC l
def dB(l:Row):Y_:=l.flatMap (·.1)
def okR(l:Row):Prop:=l.length≤16∧(∀x∈l,vld x.1=true∧x.1.length≤4000000)∧tot l≤4000000
def NZ(l:Row):Prop:=L4 l∧tot l≤4000000
def aFL(l:List Row):Prop:=∀r∈l,NZ r
theorem aFM{l:Row}(hs:NZ l) (h:mZ l=0):okR l:=by
 obtain⟨h1,h2⟩:=xS h;exact⟨h1,fun x hx=>⟨(h2 x hx).1,(hs.1 x hx).1⟩,hs.2⟩
theorem OA:∀(l:Row),(∀x∈l,x.1.length≤4000000)→kC l≤4000000*l.length
 | [],_=>bAJ _
 |x::l,h=>by
  have h1:=NS _ x.1 (bAJ _)
  have h2:=h x aYX
  have h3:=OA l fun y hy=>h y (aYE _ hy)
  simp only[kC,aZA];omega
theorem xU:∀(l:Row) (i:Nat) (h:i<l.length),kC (l.take (i+1))=kC (l.take i)+(rns l[i].1).length
 |x::l,0,_=>by simp[kC]
 |x::l,i+1,h=>by
  have:=xU l i (by simpa using h)
  simp only[aYO,kC,this,List.getElem_cons_succ];omega
theorem OB(l:Row) (i:Nat):kC (l.take i)≤kC l:=by
 induction l generalizing i with
 |nil=>simp[kC]
 |cons x l ih=>cases i with
  |zero=>simp[kC]
  |succ i=>simp only[aYO,kC]; have:=ih i; omega
theorem aFN{l:Row}(h:okR l) (L:Y_→Option Int) (hL:∀s:Y_,s.length≤4000000→vld s=true→L s=some ((rns s).length:Int)) :
  bI (fun (v2:Int×Int→Option Int) (v3:Int×Int) =>
  cnd (ilt v3.2 (len l))
   (grd (inb v3.2 (len l))
    (bnd (L (aA l (toN v3.2) zU).1) fun v4 =>
    cnd (ilt v4 (0:Int))
     (some (-1:Int))
     (v2 (w64 (aE v3.1 v4),w64 (aE v3.2 (1:Int))))))
   (some v3.1)) fuelH ((0:Int),(0:Int))=some (kC l:Int):=by
 have hb:=OA l fun x hx=>(h.2.1 x hx).2
 have hl:=h.1
 refine gU (n:=l.length) (fun (a:Nat) (i:Nat)=>((a:Int),(i:Int))) (fun i a=>a=kC (l.take i)) _ (fun self a i hi hI=>?_) (fun self a hI=>?_) fuelH 0 0 (bAK _) (by have:=bG; omega) rfl
 ·refine⟨a+(rns l[i].1).length,?_,?_⟩
  ·have ht:=xU l i hi
   have ht2:=OB l (i+1)
   simp only;rw[aD (aV (by simp only[len]; omega)),aF (aY (by simp only[len]; omega)),bA hi,hL _ (h.2.1 _ (aZL hi)).2 (h.2.1 _ (aZL hi)).1,aB,aC (aX (by omega)),aR hi (by omega)]
   have e:w64 (aE (a:Int) ((rns l[i].1).length:Int))=((a+(rns l[i].1).length:Nat):Int):=by
    unfold aE; rw[bU (by omega)]; omega
   rw[e]
  ·rw[xU l i hi,hI]
 ·simp only;rw[aC (aX (by simp only[len]; omega)),hI,aZH]
theorem GZ{l:Row}(h:okR l):q35 fuelH l=some (kC l:Int):=by
 unfold q35;rw[bT];exact aFN h (q34 fuelH) fun s=>aPG
theorem SW(l:Row) (i:Nat) (h:i<l.length):dB (l.take (i+1))=dB (l.take i)++l[i].1:=by
 unfold dB;rw[aXH h,List.flatMap_append];simp
theorem DV:∀(l:Row),(dB l).length=tot l
 | []=>rfl
 |x::l=>by
  have h3:=DV l
  unfold dB at h3 ⊢;simp only[List.flatMap_cons,aYT,tot,h3]
theorem aFO(l:Row) (i:Nat):tot (l.take i)≤tot l:=by
 have h:=AR (l.take i) (l.drop i)
 rw[aX7] at h;omega
theorem HA{l:Row}(h:okR l) (i:Nat):(dB (l.take i)).length≤4000000:=by
 rw[DV]
 have:=aFO l i
 have:=h.2.2
 omega
theorem aBX{N:Nat}{a b:Y_}(h:a.length+b.length≤100000000):q31 N (((),a),b)=some ((b.length:Int),false,(),a++b):=by
 unfold q31;show(grd (cJ (aE (len a) (len b)) 1) (some (len b,false,(),bC a b)))=_;rw[aF (dD (by simp only[aE,len]; omega))];rfl
theorem SX{l:Row}(h:okR l):q32 fuelH l=some (dB l):=by
 unfold q32;rw[bT]
 have hl:=h.1
 refine gU (n:=l.length) (fun (a:Y_) (i:Nat)=>((i:Int),(),a)) (fun i a=>a=dB (l.take i)) _ (fun self a i hi hI=>?_) (fun self a hI=>?_) fuelH 0 [] (bAK _) (by have:=bG; omega) rfl
 ·refine⟨a++l[i].1,?_,?_⟩
  ·have h1:=HA h i
   have h2:=(h.2.1 _ (aZL hi)).2
   simp only;rw[aD (aV (by simp only[len]; omega)),aF (aY (by simp only[len]; omega)),bA hi,aBX (by rw[hI]; omega),aB,aR hi (by omega)]
  ·rw[SW l i hi,hI]
 ·simp only;rw[aC (aX (by simp only[len]; omega)),hI,aZH]
def sp2:Y_→Bool
 | []=>false
 | [_]=>false
 |a::b::t=>([32,32]:Y_).isPrefixOf (a::b::t)||sp2 (b::t)
theorem HE:∀t:Y_,decide (0≤index t [32,32])=sp2 t
 | []=>rfl
 | [a]=>by
  have e:index [a] [32,32]=if([32,32]:Y_).isPrefixOf [a]=true then 0 else if(index [] [32,32] == -1)=true then -1 else index [] [32,32]+1:=rfl
  have hp:([32,32]:Y_).isPrefixOf [a]=false:=by cases h:((32:UInt8)==a)<;>simp[List.isPrefixOf,h]
  rw[e,hp];rfl
 |a::b::t=>by
  have ih:=HE (b::t)
  have hg:=index_ge (b::t) [32,32]
  have e:index (a::b::t) [32,32]=if([32,32]:Y_).isPrefixOf (a::b::t)=true then 0 else if(index (b::t) [32,32] == -1)=true then -1 else index (b::t) [32,32]+1:=rfl
  have e2:sp2 (a::b::t)=(([32,32]:Y_).isPrefixOf (a::b::t)||sp2 (b::t)):=rfl
  rw[e,e2,←ih];generalize index (b::t) [32,32]=m at hg ⊢
  cases ([32,32]:Y_).isPrefixOf (a::b::t) with
  |true=>rfl
  |false =>
   rw[if_neg (by decide),aZ6]
   by_cases h1:m=-1
   ·subst h1; rfl
   ·rw[if_neg (by simpa using h1),decide_eq_true (by omega),decide_eq_true (by omega)]
theorem OC(t:Y_):contains t [32,32]=sp2 t:=HE t
def aLS(t:Y_):Bool:=if t=[] then false else if n8 (aA t (toN (0:Int)) 0)=n8 (32:UInt8) then false else if n8 (aA t (toN (w64 (aJ (len t) 1))) 0)=n8 (32:UInt8) then false else !sp2 t
def qR(l:Row):Int:=if mZ l≠0 then mZ l else if aLS (dB l)=false then 4 else if 32<kC l then 11 else 0
theorem OD{l:Row}(hs:NZ l):q36 fuelH l=some (qR l):=by
 unfold q36 qR;rw[bM (SP hs.1)]
 by_cases hk:mZ l≠0
 ·rw[aD (cA hk),if_pos hk]
 ·rw[aC (cL (by simpa using hk)),if_neg hk]
  have hr:=aFM hs (by simpa using hk)
  have hp:=HA hr l.length
  rw[aZH] at hp;rw[bM (SX hr)];generalize dB l=t at hp ⊢;unfold aLS
  by_cases h0:t=[]
  ·rw[aD (by rw[cX]; exact h0),if_pos h0,if_pos rfl]
  ·have hl:0<t.length:=aYR.2 h0
   have e1:w64 (aJ (len t) 1)=((t.length-1:Nat):Int):=qQ hl (by omega)
   have hin:inb (w64 (aJ (len t) 1)) (len t)=true:=by rw[e1]; exact aY (by simp only[len]; omega)
   rw[aC (by rw[←aZI,cX]; exact h0),if_neg h0,aF (aY (by simp only[len]; omega)),AQ]
   by_cases h1:n8 (aA t (toN (0:Int)) 0)=n8 (32:UInt8)
   ·rw[if_pos h1,if_pos h1,if_pos rfl]
   ·rw[if_neg h1,if_neg h1,aF hin,AQ]
    by_cases h2:n8 (aA t (toN (w64 (aJ (len t) 1))) 0)=n8 (32:UInt8)
    ·rw[if_pos h2,if_pos h2,if_pos rfl]
    ·rw[if_neg h2,if_neg h2]
     have hc:strings_Contains fuelH (t,[32,32])=some (sp2 t):=by
      show grd (decide (t.length<4294967281)) (some (contains t [32,32]))=_;rw[aF (decide_eq_true (by omega)),OC]
     rw[bM hc]
     by_cases h3:sp2 t=true
     ·rw[aD h3,h3,if_pos (by decide)]
     ·rw[aC (by simpa using h3),Bool.eq_false_iff.2 h3,if_neg (by simp),bM (GZ hr),dH]
      by_cases h4:32<kC l
      ·rw[if_pos (by omega),if_pos h4]
      ·rw[if_neg (by omega),if_neg h4]
theorem aFP(N:Nat) (s:Int×Int):q25 N s=some (decide (0≤s.1∧s.1<s.2∧s.2≤5184000)):=by
 unfold q25;rw[AP,dH]
 by_cases h1:0≤s.1
 ·rw[if_pos h1]
  by_cases h2:s.1<s.2
  ·rw[if_pos h2]; simp[h1,h2,ile]
  ·rw[if_neg h2]; simp[h2]
 ·rw[if_neg h1]; simp[h1]
def aFQ(k:UInt8):Bool:=match q27 fuelH k with
 |some s=>decide (seq s []=decide (¬(1≤n8 k∧n8 k≤4)))
 |none=>false
theorem aFR(k:UInt8):∃s,q27 fuelH k=some s∧seq s []=decide (¬(1≤n8 k∧n8 k≤4)):=by
 have h:aFQ k=true:=eN (P:=aFQ) (by kernel_rfl) k
 unfold aFQ at h
 split at h
 ·rename_i s hs;exact⟨s,hs,of_decide_eq_true h⟩
 ·cases h
theorem aWG{β:Type}(K:Bool→Option β) (s:Y_) (X:Option Bool) (hX:X=some (nm s)):jn K (fun v=>cnd (sne s ([]:Y_)) (bnd X fun w=>v (bO w)) (v false))=K (decide (s≠[]∧nm s=false)):=by
 rw[bT,hX,aB]
 by_cases h:s=[]
 ·subst h; rfl
 ·rw[aD (by simp[sne,h])];congr 1;cases hn:nm s<;>simp[bO,h]
def HF:List Row→Int→Int
 | [],k=>k
 |l::r,k=>if qR l≠0 then qR l else HF r k
def DW(l:List Row):List Int:=l.map fun r=>(kC r:Int)
def nT(x:Ev) (rs:List Reg):Int :=
 if x.1<1 then 2 else if 1099511627776<x.1 then 2 else
 if ¬(0≤x.2.1.1∧x.2.1.1<x.2.1.2∧x.2.1.2≤5184000) then 2 else
 match GW rs x.2.2.1 with
 |none=>6
 |some r =>
  if ¬(1≤n8 x.2.2.2.1∧n8 x.2.2.2.1≤4) then 3 else
  if x.2.2.2.2.1≠[]∧nm x.2.2.2.2.1=false then 5 else
  if x.2.2.2.2.2.length=0 then 9 else if 4<x.2.2.2.2.2.length then 9 else
  HF x.2.2.2.2.2 (NX r (DW x.2.2.2.2.2)).2
theorem U0{l:Row}(hs:NZ l) (h:qR l=0):okR l:=by
 unfold qR at h
 split at h
 ·rename_i hc; exact absurd h hc
 ·rename_i hc; exact aFM hs (by simpa using hc)
theorem sP{x:Ev}(h:∀l∈x.2.2.2.2.2,okR l) (hl:x.2.2.2.2.2.length≤1000000):q37 fuelH x=some (DW x.2.2.2.2.2):=by
 unfold q37;rw[bT];generalize x.2.2.2.2.2=l at h hl ⊢;refine gU (n:=l.length) (fun (a:List Int) (i:Nat)=>(a,(i:Int))) (fun i a=>a=DW (l.take i)) _ (fun self a i hi hI=>?_) (fun self a hI=>?_) fuelH 0 [] (bAK _) (by have:=bG; omega) rfl
 ·refine⟨a++[(kC l[i]:Int)],?_,?_⟩
  ·have ha:a.length≤i:=by rw[hI]; unfold DW; rw[aZV,aZD]; omega
   simp only;rw[aD (aV (by simp only[len]; omega)),aF (aY (by simp only[len]; omega)),bA hi,GZ (h _ (aZL hi)),aB,aF (dD (by simp only[aE,len,List.length_singleton]; omega)),aR hi (by omega)];rfl
  ·rw[hI]; unfold DW; rw[aXH hi,aZW]; rfl
 ·simp only;rw[aC (aX (by simp only[len]; omega)),hI,aZH]
theorem SY(K:Option Int) (k:Int):∀(l:List Row) (i:Nat),((∀r∈l,qR r=0)→K=some k)→itI (fun _ (r:Row) (_:Unit)=>if qR r≠0 then(.inl (some (qR r)):Option Int ⊕ Unit) else .inr ()) (fun _=>K) i l ()=some (HF l k)
 | [],i,h=>h fun r hr=>by cases hr
 |r::l,i,h=>by
  simp only[itI,HF]
  by_cases hc:qR r≠0
  ·rw[if_pos hc,if_pos hc]
  ·rw[if_neg hc,if_neg hc];refine SY K k l (i+1) fun hl=>h fun q hq=>?_
   rcases aZ4.1 hq with rfl|hq
   ·simpa using hc
   ·exact hl q hq
theorem DX{x:Ev}{rs:List Reg}(hs:aFL x.2.2.2.2.2) (hr:rs.length≤4000000):q40 fuelH (x,rs)=some (nT x rs):=by
 unfold q40 nT;simp only;rw[ST _ hr,aB,dH]
 by_cases c1:x.1<1
 ·rw[if_pos c1,if_pos c1]
 rw[if_neg c1,if_neg c1,dH]
 by_cases c2:1099511627776<x.1
 ·rw[if_pos c2,if_pos c2]
 rw[if_neg c2,if_neg c2,aFP,aB,qO]
 by_cases c3:0≤x.2.1.1∧x.2.1.1<x.2.1.2∧x.2.1.2≤5184000
 ·rw[if_pos c3,if_neg (not_not_intro c3)];unfold aFJ
  cases hf:GW rs x.2.2.1 with
  |none=>rfl
  |some r =>
   simp only;rw[aC (by rfl)];obtain⟨s,k1,k2⟩:=aFR x.2.2.2.1;rw[bM k1,k2,jK]
   by_cases c4:1≤n8 x.2.2.2.1∧n8 x.2.2.2.1≤4
   ·rw[if_neg (not_not_intro c4),if_neg (not_not_intro c4),aWG _ _ _ (oR _),jK]
    by_cases c5:x.2.2.2.2.1≠[]∧nm x.2.2.2.2.1=false
    ·rw[if_pos c5,if_pos c5]
    rw[if_neg c5,if_neg c5]
    by_cases c6:x.2.2.2.2.2.length=0
    ·rw[aD (dJ (by simp only[len]; omega)),if_pos c6]
    rw[aC (dA (by simp only[len]; omega)),if_neg c6]
    by_cases c7:4<x.2.2.2.2.2.length
    ·rw[aD (aV (by simp only[len]; omega)),if_pos c7]
    rw[aC (aX (by simp only[len]; omega)),if_neg c7,bT]
    have hlen:=@sP x
    generalize x.2.2.2.2.2=l at hs c6 c7 hlen ⊢;refine bAM (tT (l:=l) (fun (_:Unit) (p:Nat)=>(p:Int)) (fun _ (r:Row) (_:Unit)=>if qR r≠0 then .inl (some (qR r)) else .inr ()) (fun _=>bnd (q37 fuelH x) fun v5=>bnd (q39 fuelH (r,v5)) fun v6=>some v6.2) (fun _ _=>True) (fun self a i hi _=>?_) (fun self a _=>?_) fuelH 0 () (bAK _) (by have:=bG; omega) trivial) (SY _ _ l 0 fun hl=>?_)
    ·rw[aD (aV (by simp only[len]; omega)),aF (aY (by simp only[len]; omega)),bA hi,bM (OD (hs _ (aZL hi))),aR hi (by omega)]
     by_cases hc:qR l[i]≠0
     ·rw[if_pos hc,aD (cA hc)]; rfl
     ·rw[if_neg hc,aC (cL (by simpa using hc))];exact⟨rfl,trivial⟩
    ·rw[aC (aX (by simp only[len]; omega))]
    ·rw[bM (hlen (fun q hq=>U0 (hs q hq) (hl q hq)) (by omega)),bM (NY _ _)]
   ·rw[if_pos c4,if_pos c4]
 ·rw[if_neg c3,if_pos c3]
abbrev Cmt:=Int×Int×Int×Int×Y_×Y_×Bool×Bool
abbrev Doc:=Y_×Y_×UInt8×Bool×Int×List Reg×List Ev×List Cmt
def tvB(r:UInt8):Bool:=(q16 fuelH r).getD false
def cdB(r:UInt8):Bool:=(q17 fuelH r).getD false
theorem aWH(r:UInt8):q16 fuelH r=some (tvB r)∧q17 fuelH r=some (cdB r) :=
 of_decide_eq_true (eN (P:=fun r=>decide (q16 fuelH r=some (tvB r)∧q17 fuelH r=some (cdB r))) (by kernel_rfl) r)
def iS(r:UInt8) (drop:Bool):Prop:=tvB r=false∨(drop=true∧cdB r=false)
instance (r:UInt8) (drop:Bool):Decidable (iS r drop):=by unfold iS; infer_instance
def iT(d:Doc):Int :=
 if vld d.1=false then 10 else if 400<d.1.length then 9 else if d.2.1≠[]∧nm d.2.1=false then 5 else
 if iS d.2.2.1 d.2.2.2.1 then 13 else if d.2.2.2.2.1<0 then 2 else if 1099511627776<d.2.2.2.2.1 then 2 else 0
theorem aFS(r:UInt8) (b:Bool):q18 fuelH (r,b)=some (if iS r b then 13 else 0):=by
 unfold q18;obtain⟨h1,h2⟩:=aWH r;simp only;rw[h1,aB]
 by_cases c1:tvB r=false
 ·rw[aD (by rw[c1]; rfl),if_pos (show iS r b from .inl c1)]
 ·rw[aC (by rw[←aZI,mY]; exact c1)]
  cases b with
  |false =>
   rw[aC rfl,if_neg];rintro(h|h)
   ·exact c1 h
   ·cases h.1
  |true =>
   rw[aD rfl,h2,aB]
   by_cases c2:cdB r=false
   ·rw[aD (by rw[c2]; rfl),if_pos (show iS r true from .inr ⟨rfl,c2⟩)]
   ·rw[aC (by rw[←aZI,mY]; exact c2),if_neg];rintro(h|h)
    ·exact c1 h
    ·exact c2 h.2
theorem aBY{d:Doc}(hd:d.1.length≤4000000):q19 fuelH d=some (iT d):=by
 unfold q19 iT;rw[bT,kB _ hd,aB]
 by_cases c1:vld d.1=false
 ·rw[aD (by rw[c1]; rfl),if_pos c1]
 rw[aC (by rw[←aZI,mY]; exact c1),if_neg c1]
 by_cases c2:400<d.1.length
 ·rw[aD (aV (by simp only[len]; omega)),if_pos c2]
 rw[aC (aX (by simp only[len]; omega)),if_neg c2,oR,aB,aFS,aB]
 have hrest:cnd (ine (if iS d.2.2.1 d.2.2.2.1 then(13:Int) else 0) 0) (some (if iS d.2.2.1 d.2.2.2.1 then(13:Int) else 0)) (cnd (ilt d.2.2.2.2.1 0) (some (2:Int)) (cnd (ilt 1099511627776 d.2.2.2.2.1) (some 2) (some 0)))=some (if iS d.2.2.1 d.2.2.2.1 then 13 else if d.2.2.2.2.1<0 then 2 else if 1099511627776<d.2.2.2.2.1 then 2 else 0):=by
  by_cases c4:iS d.2.2.1 d.2.2.2.1
  ·rw[if_pos c4,if_pos c4]; rfl
  ·rw[if_neg c4,if_neg c4,aC (by rfl),dH,dH]
   by_cases c5:d.2.2.2.2.1<0
   ·rw[if_pos c5,if_pos c5]
   rw[if_neg c5,if_neg c5]
   by_cases c6:1099511627776<d.2.2.2.2.1
   ·rw[if_pos c6,if_pos c6]
   ·rw[if_neg c6,if_neg c6]
 rw[hrest];generalize (if iS d.2.2.1 d.2.2.2.1 then(13:Int) else if d.2.2.2.2.1<0 then 2 else if 1099511627776<d.2.2.2.2.1 then 2 else 0)=R
 by_cases c3:d.2.1=[]
 ·rw[aC (by simp[sne,c3]),if_neg fun h=>h.1 c3]
 ·rw[aD (by simp[sne,c3])]
  by_cases c4:nm d.2.1=false
  ·rw[aD (by rw[c4]; rfl),if_pos ⟨c3,c4⟩]
  ·rw[aC (by rw[←aZI,mY]; exact c4),if_neg fun h=>c4 h.2]
def nU:Nat→List Ev→List (Int×Int)
 |_,[]=>[]
 |i,x::l=>(x.1,(i:Int))::nU (i+1) l
def sQ:Nat→List Ev→Int→Int
 |_,[],_=>-1
 |i,x::l,k=>if x.1=k then(i:Int) else sQ (i+1) l k
def nV(l:List Ev) (k:Int):Prop:=∃x∈l,x.1=k
instance (l:List Ev) (k:Int):Decidable (nV l k):=by unfold nV; infer_instance
theorem SZ:∀(a b:List Ev) (i:Nat),nU i (a++b)=nU i a++nU (i+a.length) b
 | [],b,i=>by simp[nU]
 |x::a,b,i=>by
  simp only[aZC,nU,SZ a b (i+1),aZA];congr 3; omega
theorem lC:∀(l:List Ev) (i:Nat) (k:Int),jB ieq (nU i l) k=decide (nV l k)
 | [],i,k=>by simp[nU,jB,nV]
 |x::l,i,k=>by
  simp only[nU,jB,lC l (i+1) k]
  by_cases h:k=x.1
  ·rw[dJ h,decide_eq_true (show nV (x::l) k from⟨x,aYX,h.symm⟩)]; rfl
  ·rw[dA h];show(false||_)=_;rw[aZ6];exact decide_eq_decide.2 ⟨fun ⟨y,h1,h2⟩=>⟨y,aYE _ h1,h2⟩,fun ⟨y,h1,h2⟩=>by
    rcases aZ4.1 h1 with rfl|h1
    ·exact absurd h2.symm h
    ·exact⟨y,h1,h2⟩⟩
theorem pS{k v:Int}:∀(m:List (Int×Int)),jB ieq m k=false→pH ieq m k v=m++[(k,v)]
 | [],_=>rfl
 |x::m,h=>by
  simp only[jB,bor,Bool.or_eq_false_iff] at h;simp only[pH,h.1,pS m h.2];rfl
theorem HH:∀(l:List Ev) (i:Nat) (k:Int),nV l k→nD ieq 0 (nU i l) k=sQ i l k
 | [],i,k,h=>by obtain⟨x,h,_⟩:=h; cases h
 |x::l,i,k,h=>by
  simp only[nU,nD,sQ]
  by_cases hc:x.1=k
  ·rw[dJ hc.symm,if_pos hc]; rfl
  ·rw[dA (fun e=>hc e.symm),if_neg hc];obtain⟨y,h1,h2⟩:=h;rcases aZ4.1 h1 with rfl|h1
   ·exact absurd h2 hc
   ·exact HH l (i+1) k ⟨y,h1,h2⟩
theorem HI:∀(l:List Ev) (i:Nat) (k:Int),nV l k→∃j,∃h:j<l.length,sQ i l k=((i+j:Nat):Int)∧l[j].1=k∧¬nV (l.take j) k
 | [],i,k,h=>by obtain⟨x,h,_⟩:=h; cases h
 |x::l,i,k,h=>by
  simp only[sQ]
  by_cases hc:x.1=k
  ·exact⟨0,by simp,by rw[if_pos hc]; rfl,hc,fun ⟨y,h1,_⟩=>by cases h1⟩
  ·obtain⟨y,h1,h2⟩:=h;rcases aZ4.1 h1 with rfl|h1
   ·exact absurd h2 hc
   ·obtain⟨j,hj,e1,e2,e3⟩:=HI l (i+1) k ⟨y,h1,h2⟩;refine⟨j+1,by simpa using hj,?_,by simpa using e2,?_⟩
    ·rw[if_neg hc,e1]; congr 1; omega
    ·rintro⟨z,h3,h4⟩;rw[aYO] at h3;rcases aZ4.1 h3 with rfl|h3
     ·exact hc h4
     ·exact e3 ⟨z,h3,h4⟩
def nW(a b:Ev):Prop:=a.2.1.1<b.2.1.1∨(a.2.1.1=b.2.1.1∧a.1<b.1)
instance (a b:Ev):Decidable (nW a b):=by unfold nW; infer_instance
theorem aFT(N:Nat) (a b:Int):q42 N (a,b)=some (if a<b then -1 else if b<a then 1 else 0):=by
 unfold q42
 have h:∀x:Int,q41 N x=some false:=fun x=>by
  show some (ine x x)=_;rw[cL rfl]
 simp only;rw[h,h,aB,aB,aC rfl,aC rfl,dH,dH]
 by_cases h1:a<b
 ·rw[if_pos h1,if_pos h1]
 ·rw[if_neg h1,if_neg h1]
  by_cases h2:b<a
  ·rw[if_pos h2,if_pos h2]
  ·rw[if_neg h2,if_neg h2]
theorem aWI(a b:Int):q43 fuelH [a,b]=some (if a≠0 then a else b):=by
 have h:q43 fuelH [a,b]=cnd (ine a 0) (some a) (cnd (ine b 0) (some b) (some 0)):=by kernel_rfl
 rw[h,vH,vH]
 by_cases h1:a≠0
 ·rw[if_pos h1,if_pos h1]
 ·rw[if_neg h1,if_neg h1]
  by_cases h2:b≠0
  ·rw[if_pos h2]
  ·rw[if_neg h2]; congr 1; omega
theorem L7(a b:Ev):q44 fuelH (a,b)=some (decide (nW a b)):=by
 unfold q44;simp only;rw[aFT,aB,aFT,aB,aWI,aB];congr 1
 by_cases h1:a.2.1.1<b.2.1.1
 ·rw[if_pos h1,if_pos (by decide),@decide_eq_true (nW a b) _ (.inl h1)]; rfl
 ·rw[if_neg h1]
  by_cases h2:b.2.1.1<a.2.1.1
  ·rw[if_pos h2,if_pos (by decide),@decide_eq_false (nW a b) _ (by unfold nW; omega)]; rfl
  ·rw[if_neg h2,if_neg (by decide)]
   by_cases h3:a.1<b.1
   ·rw[if_pos h3,@decide_eq_true (nW a b) _ (by unfold nW; omega)]; rfl
   ·rw[if_neg h3,@decide_eq_false (nW a b) _ (by unfold nW; omega)]
    split<;>rfl
def FL{α:Type}(R:List α→α→Int):List α→List α→Int
 |_,[]=>0
 |pre,x::l=>if R pre x≠0 then R pre x else FL R (pre++[x]) l
theorem HJ{α:Type}{R:List α→α→Int}:∀(l pre:List α),FL R pre l=0→∀j (h:j<l.length),R (pre++l.take j) l[j]=0
 | [],_,_,j,h=>by simp at h
 |x::l,pre,h0,j,h=>by
  simp only[FL] at h0
  split at h0
  ·rename_i hc; exact absurd h0 hc
  ·rename_i hc
   cases j with
   |zero=>simpa using hc
   |succ j =>
    have:=HJ l (pre++[x]) h0 j (by simpa using h)
    simpa using this
theorem DY{V σ α ρ:Type}{F:(V→Option ρ)→V→Option ρ}{l:List α}(st:σ→Nat→V) (g:List α→σ) (R:List α→α→Int) (w:Int→ρ) (K:Option ρ)
  (hstep:∀self i (h:i<l.length),F self (st (g (l.take i)) i)=if R (l.take i) l[i]≠0 then some (w (R (l.take i) l[i])) else self (st (g (l.take (i+1))) (i+1)))
  (hend:(∀j (h:j<l.length),R (l.take j) l[j]=0)→∀self,F self (st (g l) l.length)=K) :
  ∀(fuel i:Nat),i≤l.length→l.length-i<fuel→(∀j (h:j<l.length),j<i→R (l.take j) l[j]=0) →
  bI F fuel (st (g (l.take i)) i)=if FL R (l.take i) (l.drop i)≠0 then some (w (FL R (l.take i) (l.drop i))) else K
 | 0,i,_,h,_=>by omega
 |fuel+1,i,hi,h,hp=>by
  rw[gN]
  by_cases hl:i<l.length
  ·rw[hstep _ i hl,aXR hl,FL]
   by_cases hc:R (l.take i) l[i]≠0
   ·rw[if_pos hc,if_pos hc,if_pos hc]
   ·rw[if_neg hc,if_neg hc]
    have ih:=DY st g R w K hstep hend fuel (i+1) (by omega) (by omega) (fun j hj hji=>by
     by_cases e:j=i
     ·subst e; simpa using hc
     ·exact hp j hj (by omega))
    rw[ih,aXH hl]
  ·obtain rfl:i=l.length:=by omega
   rw[aZH,hend (fun j hj=>hp j hj hj),aZK];rfl
def DZ:List Row→Nat
 | []=>0
 |r::l=>kC r+DZ l
def TT(x:Ev):Int:=((x.2.2.2.2.2.length-1+DZ x.2.2.2.2.2:Nat):Int)
theorem HK:∀(l:List Row) (i:Nat) (h:i<l.length),DZ (l.take (i+1))=DZ (l.take i)+kC l[i]
 |x::l,0,_=>by simp[DZ]
 |x::l,i+1,h=>by
  have:=HK l i (by simpa using h)
  simp only[aYO,DZ,this,List.getElem_cons_succ];omega
theorem TU{l:Row}(h:okR l):kC l≤64000000:=by
 have h1:=OA l fun x hx=>(h.2.1 x hx).2
 have h2:=h.1
 omega
theorem U1:∀(l:List Row),(∀r∈l,okR r)→DZ l≤64000000*l.length
 | [],_=>bAJ _
 |r::l,h=>by
  have h1:=TU (h r aYX)
  have h2:=U1 l fun q hq=>h q (aYE _ hq)
  simp only[DZ,aZA];omega
theorem OE(l:List Row) (h:∀r∈l,okR r) (i:Nat):DZ (l.take i)≤64000000*l.length:=by
 have h1:=U1 (l.take i) fun r hr=>h r (aYH hr)
 have:(l.take i).length≤l.length:=by rw[aZD]; omega
 omega
theorem OF{x:Ev}(h:∀l∈x.2.2.2.2.2,okR l) (hl:x.2.2.2.2.2.length≤1000):q45 fuelH x=some (TT x):=by
 unfold q45 TT;rw[bT,bM (sP h (by omega))];generalize x.2.2.2.2.2=l at h hl ⊢
 have hll:(DW l).length=l.length:=by unfold DW; rw[aZV]
 have e0:PL (w64 (aJ (len l) 1)) 0=((l.length-1:Nat):Int):=by
  simp only[aJ,PL,len];rw[bU (by omega)];omega
 rw[e0];refine gU (n:=l.length) (fun (a:Nat) (i:Nat)=>((a:Int),(i:Int))) (fun i a=>a=l.length-1+DZ (l.take i)) _ (fun self a i hi hI=>?_) (fun self a hI=>?_) fuelH 0 (l.length-1) (bAK _) (by have:=bG; omega) (by simp[DZ])
 ·refine⟨a+kC l[i],?_,?_⟩
  ·have ht:=OE l h i
   have hb:=TU (h _ (aZL hi))
   have hin:inb (i:Int) (len (DW l))=true:=aY (by simp only[len,hll]; omega)
   have hg:aA (DW l) (toN (i:Int)) (0:Int)=(kC l[i]:Int):=by
    rw[bA (by omega)];simp[DW]
   simp only;rw[aD (aV (by simp only[len,hll]; omega)),aF hin,hg,aC (aX (by omega)),aR hi (by omega)]
   have e:w64 (aE (a:Int) (kC l[i]:Int))=((a+kC l[i]:Nat):Int):=by
    unfold aE; rw[bU (by omega)]; omega
   rw[e]
  ·rw[HK l i hi,hI]; omega
 ·simp only;rw[aC (aX (by simp only[len,hll]; omega)),hI,aZH]
theorem EA:∀(l:List Row) (k:Int),HF l k=0→(∀r∈l,qR r=0)∧k=0
 | [],k,h=>⟨fun r hr=>(by cases hr),h⟩
 |r::l,k,h=>by
  simp only[HF] at h
  split at h
  ·rename_i hc; exact absurd h hc
  ·rename_i hc;obtain⟨h1,h2⟩:=EA l k h;refine⟨fun q hq=>?_,h2⟩;rcases aZ4.1 hq with rfl|hq
   ·simpa using hc
   ·exact h1 q hq
theorem aFU{x:Ev}{rs:List Reg}(h:nT x rs=0):1≤x.1∧x.1≤1099511627776∧(0≤x.2.1.1∧x.2.1.1<x.2.1.2∧x.2.1.2≤5184000)∧0<x.2.2.2.2.2.length∧x.2.2.2.2.2.length≤4∧(∀r∈x.2.2.2.2.2,qR r=0)∧∃r,GW rs x.2.2.1=some r∧(NX r (DW x.2.2.2.2.2)).2=0:=by
 unfold nT at h
 split at h
 ·cases h
 split at h
 ·cases h
 split at h
 ·cases h
 rename_i c1 c2 c3
 split at h
 ·cases h
 rename_i r hr
 split at h
 ·cases h
 split at h
 ·cases h
 split at h
 ·cases h
 split at h
 ·cases h
 rename_i c6 c7;obtain⟨h1,h2⟩:=EA _ _ h;exact⟨by omega,by omega,by omega,by omega,by omega,h1,r,hr,h2⟩
def aJD(p:Option Ev) (x:Ev):Bool:=match p with
 |some q=>decide (nW q x)
 |none=>true
def HM(rs:List Reg) (last:Int) (pre:List Ev) (x:Ev):Int :=
 if nT x rs≠0 then nT x rs else if last<x.1 then 2 else if aJD pre.getLast? x=false then 8 else if nV pre x.1 then 7 else 0
def tV(d:Doc):Int:=FL (HM d.2.2.2.2.2.1 d.2.2.2.2.1) [] d.2.2.2.2.2.2.1
theorem TV{rs:List Reg}{last:Int}{pre:List Ev}{x:Ev}(h:HM rs last pre x=0):nT x rs=0∧x.1≤last∧aJD pre.getLast? x=true∧¬nV pre x.1:=by
 unfold HM at h
 split at h
 ·rename_i hc; exact absurd h hc
 rename_i c1
 split at h
 ·cases h
 rename_i c2
 split at h
 ·cases h
 rename_i c3
 split at h
 ·cases h
 rename_i c4;exact⟨by simpa using c1,by omega,by simpa using c3,c4⟩
theorem HU{α:Type}{l:List α}{i:Nat}(h:i<l.length):(l.take (i+1)).getLast?=some l[i]:=by
 rw[aXH h,List.getLast?_concat]
theorem aXD{α:Type}{K:Unit→Option α}{X:Option α}(h:K ()=X) (T:(Unit→Option α)→Option α):jn K T=T fun _=>X:=by
 rw[bT,show K=fun _=>X from funext fun _=>h]
def aPH(p:Option Cmt) (c:Cmt):Bool:=match p with
 |some q=>decide (q.1<c.1)
 |none=>true
def evZ:Ev:=(0,(0,0),[],0,[],[])
def aBZ(l:List Ev) (k:Int):Ev:=aA l (toN (sQ 0 l k)) evZ
def aFV(d:Doc) (c:Cmt):Int :=
 if c.2.1<1 then 2 else if d.2.2.2.2.1<c.2.1 then 2 else
 if c.2.2.2.2.2.2.2=true then(if c.2.2.1≠0 then 2 else if c.2.2.2.1≠0 then 2 else 0) else
 if ¬nV d.2.2.2.2.2.2.1 c.2.1 then 6 else if c.2.2.1<0 then 2 else if c.2.2.2.1≤c.2.2.1 then 2 else
 if TT (aBZ d.2.2.2.2.2.2.1 c.2.1)<c.2.2.2.1 then 2 else 0
def aWJ(c:Cmt):Int:=if nm c.2.2.2.2.1=false then 5 else if vld c.2.2.2.2.2.1=false then 10 else if c.2.2.2.2.2.1=[] then 4 else if 400<c.2.2.2.2.2.1.length then 9 else 0
def U2(d:Doc) (c:Cmt):Int:=if aFV d c≠0 then aFV d c else aWJ c
def EB(d:Doc) (pre:List Cmt) (c:Cmt):Int :=
 if c.1<1 then 2 else if d.2.2.2.2.1<c.1 then 2 else if aPH pre.getLast? c=false then 8 else if nV d.2.2.2.2.2.2.1 c.1 then 7 else U2 d c
def rS(d:Doc):Int:=if 64<d.2.2.2.2.2.2.2.length then 9 else FL (EB d) [] d.2.2.2.2.2.2.2
def U3(d:Doc):Prop:=(∀x∈d.2.2.2.2.2.2.1,(∀r∈x.2.2.2.2.2,okR r)∧x.2.2.2.2.2.length≤4)∧d.2.2.2.2.2.2.1.length≤400∧∀c∈d.2.2.2.2.2.2.2,c.2.2.2.2.2.1.length≤4000000
theorem aB0{d:Doc}(hg:U3 d){k:Int}(h:nV d.2.2.2.2.2.2.1 k):inb (sQ 0 d.2.2.2.2.2.2.1 k) (len d.2.2.2.2.2.2.1)=true∧0≤sQ 0 d.2.2.2.2.2.2.1 k∧q45 fuelH (aBZ d.2.2.2.2.2.2.1 k)=some (TT (aBZ d.2.2.2.2.2.2.1 k)):=by
 obtain⟨j,hj,e1,e2,e3⟩:=HI _ 0 k h
 have he:aBZ d.2.2.2.2.2.2.1 k=d.2.2.2.2.2.2.1[j]:=by
  unfold aBZ;rw[e1,bAB,bA hj]
 obtain⟨h1,h2⟩:=hg.1 _ (aZL hj);rw[he];refine⟨by rw[e1]; exact aY (by simp only[len]; omega),by omega,OF h1 (by omega)⟩
theorem TW{d:Doc}(hg:U3 d) (c:Cmt):q46 fuelH (d,c,nU 0 d.2.2.2.2.2.2.1)=some (aFV d c,nU 0 d.2.2.2.2.2.2.1):=by
 unfold q46 aFV;simp only;rw[dH]
 by_cases c1:c.2.1<1
 ·rw[if_pos c1,if_pos c1]
 rw[if_neg c1,if_neg c1,dH]
 by_cases c2:d.2.2.2.2.1<c.2.1
 ·rw[if_pos c2,if_pos c2]
 rw[if_neg c2,if_neg c2]
 by_cases c3:c.2.2.2.2.2.2.2=true
 ·rw[aD c3,if_pos c3,vH,vH]
  by_cases c4:c.2.2.1≠0
  ·rw[if_pos c4,if_pos c4]
  rw[if_neg c4,if_neg c4]
  by_cases c5:c.2.2.2.1≠0
  ·rw[if_pos c5,if_pos c5]
  ·rw[if_neg c5,if_neg c5]
 ·rw[aC (by simpa using c3),if_neg c3,lC,qO]
  by_cases c4:nV d.2.2.2.2.2.2.1 c.2.1
  ·rw[if_pos c4,if_neg (not_not_intro c4),dH]
   by_cases c5:c.2.2.1<0
   ·rw[if_pos c5,if_pos c5]
   rw[if_neg c5,if_neg c5,AP]
   by_cases c6:c.2.2.2.1≤c.2.2.1
   ·rw[if_pos c6,if_pos c6]
   obtain⟨q1,q2,q3⟩:=aB0 hg c4
   have hm:nD ieq (0:Int) (nU 0 d.2.2.2.2.2.2.1) c.2.1=sQ 0 d.2.2.2.2.2.2.1 c.2.1:=HH _ _ _ c4
   rw[if_neg c6,if_neg c6,hm,aF q1];refine bAM (bM (show q45 fuelH (aA d.2.2.2.2.2.2.1 (toN (sQ 0 d.2.2.2.2.2.2.1 c.2.1)) evZ)=_ from q3)) ?_;rw[dH]
   by_cases c7:TT (aBZ d.2.2.2.2.2.2.1 c.2.1)<c.2.2.2.1
   ·rw[if_pos c7,if_pos c7]
   ·rw[if_neg c7,if_neg c7]
  ·rw[if_neg c4,if_pos c4]
theorem TX{d:Doc}(hg:U3 d):q47 fuelH (d,nU 0 d.2.2.2.2.2.2.1)=some (rS d,nU 0 d.2.2.2.2.2.2.1):=by
 unfold q47 rS;simp only
 by_cases h:64<d.2.2.2.2.2.2.2.length
 ·rw[aD (aV (by simp only[len]; omega)),if_pos h]
 rw[aC (aX (by simp only[len]; omega)),if_neg h,bT]
 have hanc:=fun c=>TW hg c
 have hvl:=hg.2.2
 generalize hm:nU 0 d.2.2.2.2.2.2.1=m at hanc ⊢
 have hmh:∀k,jB ieq m k=decide (nV d.2.2.2.2.2.2.1 k):=fun k=>by rw[←hm]; exact lC _ _ _
 generalize hl:d.2.2.2.2.2.2.2=l at h hvl ⊢;refine bAM (DY (l:=l) (fun (_:Unit) (p:Nat)=>((p:Int),m)) (fun _=>()) (EB d) (fun e=>(e,m)) (some (0,m)) (fun self i hi=>?_) (fun _ self=>?_) fuelH 0 (bAK _) (by have:=bG; omega) (fun j _ hj=>by omega)) ?_
 ·have hin:inb (i:Int) (len l)=true:=aY (by simp only[len]; omega)
  have hv:=hvl _ (aZL hi)
  simp only;rw[aD (aV (by simp only[len]; omega)),aF hin,bA hi];refine bAM (aXD (X:=if U2 d l[i]≠0 then some (U2 d l[i],m) else self (((i+1:Nat):Int),m)) ?_ _) ?_
  ·skip
   rw[hanc,aB];unfold U2
   by_cases c1:aFV d l[i]≠0
   ·rw[if_pos c1,if_pos c1,aD (cA c1)]
   ·rw[if_neg c1,aC (cL (by simpa using c1)),oR,aB];unfold aWJ
    by_cases c2:nm l[i].2.2.2.2.1=false
    ·rw[aD (by rw[c2]; rfl),if_pos c2,if_pos (by decide)]
    rw[aC (by rw[←aZI,mY]; exact c2),if_neg c2,kB _ hv,aB]
    by_cases c3:vld l[i].2.2.2.2.2.1=false
    ·rw[aD (by rw[c3]; rfl),if_pos c3,if_pos (by decide)]
    rw[aC (by rw[←aZI,mY]; exact c3),if_neg c3]
    by_cases c4:l[i].2.2.2.2.2.1=[]
    ·rw[aD (by rw[cX]; exact c4),if_pos c4,if_pos (by decide)]
    rw[aC (by rw[←aZI,cX]; exact c4),if_neg c4]
    by_cases c5:400<l[i].2.2.2.2.2.1.length
    ·rw[aD (aV (by simp only[len]; omega)),if_pos c5,if_pos (by decide)]
    ·rw[aC (aX (by simp only[len]; omega)),if_neg c5,if_neg (by decide),aR hi (by omega)]
  ·simp only;rw[dH,dH];unfold EB
   by_cases c1:l[i].1<1
   ·rw[if_pos c1,if_pos c1,if_pos (by decide)]
   rw[if_neg c1,if_neg c1]
   by_cases c2:d.2.2.2.2.1<l[i].1
   ·rw[if_pos c2,if_pos c2,if_pos (by decide)]
   rw[if_neg c2,if_neg c2,hmh]
   cases i with
   |zero =>
    rw[aC (by rfl)]
    have e0:aPH (l.take 0).getLast? l[0]=true:=rfl
    rw[e0,if_neg (show ¬true=false by decide),jK]
    by_cases c3:nV d.2.2.2.2.2.2.1 l[0].1
    ·rw[if_pos c3,if_pos c3,if_pos (by decide)]
    ·rw[if_neg c3,if_neg c3]
   |succ i =>
    rw[aD (aV (by omega)),nS (by omega),aF (aY (by simp only[len]; omega)),bA (show i<l.length by omega),AP,jK]
    have e0:aPH (l.take (i+1)).getLast? l[i+1]=decide (l[i].1<l[i+1].1):=by rw[HU (show i<l.length by omega)]; rfl
    rw[e0]
    by_cases c4:l[i+1].1≤l[i].1
    ·rw[if_pos c4,decide_eq_false (by omega),if_pos rfl,if_pos (by decide)]
    rw[if_neg c4,decide_eq_true (by omega),if_neg (show ¬true=false by decide)]
    by_cases c3:nV d.2.2.2.2.2.2.1 l[i+1].1
    ·rw[if_pos c3,if_pos c3,if_pos (by decide)]
    ·rw[if_neg c3,if_neg c3]
 ·simp only;rw[aC (aX (by simp only[len]; omega))]
 ·rw[aZ1,aZZ]
  by_cases hc:FL (EB d) [] l≠0
  ·rw[if_pos hc]
  ·rw[if_neg hc]
   have hc:FL (EB d) [] l=0:=by simpa using hc
   rw[hc]
def cH(d:Doc):Int :=
 if iT d≠0 then iT d else if jL d.2.2.2.2.2.1≠0 then jL d.2.2.2.2.2.1 else
 if 400<d.2.2.2.2.2.2.1.length then 9 else if tV d≠0 then tV d else rS d
def tW(d:Doc):Prop:=d.1.length≤4000000∧d.2.2.2.2.2.1.length≤4000000∧(∀x∈d.2.2.2.2.2.2.1,aFL x.2.2.2.2.2)∧∀c∈d.2.2.2.2.2.2.2,c.2.2.2.2.2.1.length≤4000000
theorem aJE{d:Doc}(hs:tW d) (hn:d.2.2.2.2.2.2.1.length≤400) (h:∀j (h:j<d.2.2.2.2.2.2.1.length),HM d.2.2.2.2.2.1 d.2.2.2.2.1 (d.2.2.2.2.2.2.1.take j) d.2.2.2.2.2.2.1[j]=0):U3 d:=by
 refine⟨fun x hx=>?_,hn,hs.2.2.2⟩;obtain⟨j,hj,rfl⟩:=List.mem_iff_getElem.1 hx;obtain⟨h1,_⟩:=TV (h j hj);obtain⟨_,_,_,_,h4,h5,_⟩:=aFU h1;exact⟨fun r hr=>U0 (hs.2.2.1 _ hx r hr) (h5 r hr),h4⟩
theorem aB1{l:List Ev}{i:Nat}(hi:i<l.length) (hn:¬nV (l.take i) l[i].1):pH ieq (nU 0 (l.take i)) l[i].1 (i:Int)=nU 0 (l.take (i+1)):=by
 rw[pS _ (by rw[lC,decide_eq_false hn]),aXH hi,SZ]
 have:(l.take i).length=i:=by rw[aZD]; omega
 rw[this,bAB];rfl
theorem dP{d:Doc}(hs:tW d):q48 fuelH d=some (cH d):=by
 unfold q48 cH;rw[bM (aBY hs.1)]
 by_cases c1:iT d≠0
 ·rw[aD (cA c1),if_pos c1]
 rw[aC (cL (by simpa using c1)),if_neg c1,bM (SR _)]
 by_cases c2:jL d.2.2.2.2.2.1≠0
 ·rw[aD (cA c2),if_pos c2]
 rw[aC (cL (by simpa using c2)),if_neg c2]
 by_cases c3:400<d.2.2.2.2.2.2.1.length
 ·rw[aD (aV (by simp only[len]; omega)),if_pos c3]
 rw[aC (aX (by simp only[len]; omega)),if_neg c3,bT]
 have hgood:=@aJE d hs (by omega)
 have hcm:=@TX d
 unfold tV
 have hev:=hs.2.2.1
 generalize hl:d.2.2.2.2.2.2.1=l at c3 hgood hcm hev ⊢;refine bAM (DY (l:=l) (fun (a:List (Int×Int)) (p:Nat)=>((p:Int),a)) (fun pre=>nU 0 pre) (HM d.2.2.2.2.2.1 d.2.2.2.2.1) (fun e=>e) (some (rS d)) (fun self i hi=>?_) (fun hz self=>?_) fuelH 0 (bAK _) (by have:=bG; omega) (fun j _ hj=>by omega)) ?_
 ·have hin:inb (i:Int) (len l)=true:=aY (by simp only[len]; omega)
  have hx:=hev _ (aZL hi)
  simp only;rw[aD (aV (by simp only[len]; omega)),aF hin,bA hi,bM (DX hx hs.2.1),dH,aR hi (by omega)];unfold HM
  by_cases e1:nT l[i] d.2.2.2.2.2.1≠0
  ·rw[if_pos e1,if_pos e1,aD (cA e1)]
  rw[if_neg e1,aC (cL (by simpa using e1))]
  by_cases e2:d.2.2.2.2.1<l[i].1
  ·rw[if_pos e2,if_pos e2,if_pos (by decide)]
  rw[if_neg e2,if_neg e2]
  have hput:=fun h=>aB1 hi h
  cases i with
  |zero =>
   rw[aC (by rfl),lC,jK]
   have e0:aJD (l.take 0).getLast? l[0]=true:=rfl
   rw[e0,if_neg (show ¬true=false by decide)]
   by_cases e3:nV (l.take 0) l[0].1
   ·rw[if_pos e3,if_pos e3,if_pos (by decide)]
   ·rw[if_neg e3,if_neg e3,hput e3,if_neg (by decide)]
  |succ i =>
   rw[aD (aV (by omega)),nS (by omega),aF (aY (by simp only[len]; omega)),bA (show i<l.length by omega),bM (L7 _ _),lC,jK,qO]
   have e0:aJD (l.take (i+1)).getLast? l[i+1]=decide (nW l[i] l[i+1]):=by rw[HU (show i<l.length by omega)]; rfl
   rw[e0]
   by_cases e4:nW l[i] l[i+1]
   ·rw[if_pos e4,decide_eq_true e4,if_neg (show ¬true=false by decide)]
    by_cases e3:nV (l.take (i+1)) l[i+1].1
    ·rw[if_pos e3,if_pos e3,if_pos (by decide)]
    ·rw[if_neg e3,if_neg e3,hput e3,if_neg (by decide)]
   ·rw[if_neg e4,decide_eq_false e4,if_pos rfl,if_pos (by decide)]
 ·simp only;rw[aC (aX (by simp only[len]; omega)),bM (hcm (hgood hz))]
 ·rw[aZ1,aZZ]
  split<;>rfl
theorem aB2{l:List Reg}(hl:l.length≤1000000):aA8 fuelH (l,l)=some true:=by
 unfold aA8;simp only;rw[aC (cL rfl),bT];refine gU (n:=l.length) (fun (_:Unit) (i:Nat)=>(i:Int)) (fun _ _=>True) _ (fun self a i hi _=>⟨(),?_,trivial⟩) (fun self a _=>?_) fuelH 0 () (bAK _) (by have:=bG; omega) trivial
 ·have hin:inb (i:Int) (len l)=true:=aY (by simp only[len]; omega)
  rw[aD (aV (by simp only[len]; omega)),aF hin,aF hin,bA hi,aR hi (by omega),aC];rw[←aZI,mY,Bool.eq_false_iff];intro h;refine h ?_;simp only[rR,cX,qP,DQ];simp
 ·rw[aC (aX (by simp only[len]; omega))]
theorem aJF{x:Ev}(h1:x.2.2.2.2.2.length≤4000000) (h2:∀r∈x.2.2.2.2.2,r.length≤4000000):J1 fuelH (x,x)=some true:=by
 unfold J1;simp only;rw[aD (dJ rfl),aD (by simp[rR,qP]),aD (by rw[cX]),aD (dJ rfl),aD (by rw[cX]),aBW _ _ h1 h2,aB];simp
theorem aFW{l:List Ev}(hl:l.length≤1000000) (h:∀x∈l,x.2.2.2.2.2.length≤4000000∧∀r∈x.2.2.2.2.2,r.length≤4000000):aBB fuelH (l,l)=some true:=by
 unfold aBB;simp only;rw[aC (cL rfl),bT];refine gU (n:=l.length) (fun (_:Unit) (i:Nat)=>(i:Int)) (fun _ _=>True) _ (fun self a i hi _=>⟨(),?_,trivial⟩) (fun self a _=>?_) fuelH 0 () (bAK _) (by have:=bG; omega) trivial
 ·have hin:inb (i:Int) (len l)=true:=aY (by simp only[len]; omega)
  obtain⟨h1,h2⟩:=h _ (aZL hi);rw[aD (aV (by simp only[len]; omega)),aF hin,aF hin,bA hi,aR hi (by omega),bM (aJF h1 h2),aC (by rfl)]
 ·rw[aC (aX (by simp only[len]; omega))]
theorem aFX{d:Doc}(h1:d.2.2.2.2.2.1.length≤1000000) (h2:d.2.2.2.2.2.2.1.length≤1000000) (h3:∀x∈d.2.2.2.2.2.2.1,x.2.2.2.2.2.length≤4000000∧∀r∈x.2.2.2.2.2,r.length≤4000000) (h4:d.2.2.2.2.2.2.2=[]):RV fuelH (d,d)=some true:=by
 unfold RV
 have hh:aA7 fuelH d=some (d.1,d.2.1,d.2.2.1,d.2.2.2.1,d.2.2.2.2.1):=rfl
 simp only;rw[hh,aB,aB,aD (by simp[rR,qP,cX,DQ]),aB2 h1,aB,aD rfl,aFW h2 h3,aB,aD rfl,h4]
 have:aEW fuelH ([],[])=some true:=by kernel_rfl
 rw[this];rfl
def wtG(r:Reg):Nat:=r.1.length+1+(1+(1+(1+(1+(1+1)))))
def wtX(x:Ev):Nat:=1+(1+1+(x.2.2.1.length+1+(1+(x.2.2.2.2.1.length+1+(bkL wtR x.2.2.2.2.2+1)))))
def wtC(c:Cmt):Nat:=1+(1+(1+(1+(c.2.2.2.2.1.length+1+(c.2.2.2.2.2.1.length+1+(1+1))))))
def wtD(d:Doc):Nat:=d.1.length+1+(d.2.1.length+1+(1+(1+(1+(bkL wtG d.2.2.2.2.2.1+1+(bkL wtX d.2.2.2.2.2.2.1+1+(bkL wtC d.2.2.2.2.2.2.2+1)))))))
def aPI(t:Y_) (r:Int):Bool:=ieq ((decodeL (enc r++t)).1:Int) r&&decide ((decodeL (enc r++t)).2=(enc r).length)
theorem aJG(t:Y_):((gG++gY).all (aPI t))=true:=by kernel_rfl
theorem aJH{r:Int}(hr:dO r=true) (t:Y_):((decodeL (enc r++t)).1:Int)=r∧(decodeL (enc r++t)).2=(enc r).length:=by
 have h:aPI t r=true:=vI (aJG t) hr
 unfold aPI at h;rw[aZB,qP,decide_eq_true_eq] at h;exact h
theorem aJI{r:Int}(hr:dO r=true):enc r≠[]:=by
 have h:=vI (P:=fun r=>!(enc r).isEmpty) (by kernel_rfl) hr
 intro e;simp[e] at h
theorem U4:∀(l:List Int) (t:Y_),l.all dO=true→vld (ofR l++t)=vld t
 | [],t,_=>rfl
 |r::l,t,h=>by
  rw[aZ8,aZB] at h
  have e:ofR (r::l)++t=enc r++(ofR l++t):=by unfold ofR; rw[List.flatMap_cons,aY3]
  obtain⟨d1,d2⟩:=aJH h.1 (ofR l++t);rw[e,vG _ (by simp[aJI h.1]),d1,d2,List.drop_left,if_pos h.1,U4 l t h.2]
theorem lD{d:Doc}(h:cH d=0):iT d=0∧d.2.2.2.2.2.2.1.length≤400∧tV d=0:=by
 unfold cH at h
 split at h
 ·rename_i hc; exact absurd h hc
 rename_i c1
 split at h
 ·rename_i hc; exact absurd h hc
 split at h
 ·cases h
 rename_i hn
 split at h
 ·rename_i hc; exact absurd h hc
 rename_i hc;exact⟨by simpa using c1,by omega,by simpa using hc⟩
end
end Go.Mo
end
section
end
section
namespace Go.Mo
open Go Go.W Go.Lib
set_option maxRecDepth 100000
noncomputable section
def aLT(l:Lbl):Prop:=(0≤l.1∧l.1≤23)∧(0≤l.2.1∧l.2.1≤59)∧(0≤l.2.2.1∧l.2.2.1≤59)∧(0≤l.2.2.2.1∧l.2.2.2.1≤59)
structure HdrOk (h:Hdr):Prop where
 rate:h.1=3∨h.1=5
 lang:h.2.1=[]∨nm h.2.1=true
 ttl:vld h.2.2.1=true
 ttlL:h.2.2.1.length≤400
 blocks:0≤h.2.2.2.1∧h.2.2.2.1≤99999
 groups:0≤h.2.2.2.2.1∧h.2.2.2.2.1≤99999
 start:aLT h.2.2.2.2.2.1
 first:aLT h.2.2.2.2.2.2.1
 rows:0≤h.2.2.2.2.2.2.2.1∧h.2.2.2.2.2.2.2.1≤99
 cols:0≤h.2.2.2.2.2.2.2.2∧h.2.2.2.2.2.2.2.2≤99
 d1:h.2.2.2.2.2.1.2.2.2.2=false
 d2:h.2.2.2.2.2.2.1.2.2.2.2=false
def hz:Hdr:=((0:UInt8),([]:Y_),([]:Y_),(0:Int),(0:Int),((0:Int),(0:Int),(0:Int),(0:Int),false),((0:Int),(0:Int),(0:Int),(0:Int),false),(0:Int),(0:Int))
def aLU(x:Ev):Prop:=x.2.2.2.2.2.length≤1000000∧∀r∈x.2.2.2.2.2,r.length≤1000000
theorem aB3{l:Row}(h:l.length≤4000000):aBG fuelH l=some l:=by
 have h1:grd (cJ (aE (len ([]:Row)) (len l)) 40) (some (bC ([]:Row) l))=some l:=by
  rw[aF (dD (by simp only[aE,len,aZS]; omega))]; rfl
 unfold aBG
 cases l with
 |nil =>
  rw[aC (by rfl)];exact uA rfl h1
 |cons r l =>
  rw[aD (cA (by simp only[len,aZA]; omega))];exact h1
theorem TY{l:List Row}(hl:l.length≤1000000) (h:∀r∈l,r.length≤1000000):aBH fuelH l=some l:=by
 unfold aBH;rw[L5 (by omega),aB,bT];refine gU (n:=l.length) (fun (a:List Row) (i:Nat)=>((i:Int),a)) (fun _ a=>a=l) _ (fun self a i hi hI=>?_) (fun self a hI=>?_) fuelH 0 l (bAK _) (by have:=bG; omega) rfl
 ·subst hI
  have hin:inb (i:Int) (len a)=true:=aY (by simp only[len]; omega)
  have hr:=h _ (aZL hi)
  refine⟨a,?_,rfl⟩
  have ht:toN (i:Int)=i:=by simp[toN]
  simp only;rw[aD (aV (by simp only[len]; omega)),aF hin,bA hi,aB3 (by omega),aB,aF hin,aR hi (by omega),ht];unfold pG;rw[List.set_getElem_self]
 ·simp only;rw[aC (aX (by simp only[len]; omega)),hI]
theorem TZ{x:Ev}(h:aLU x):aBI fuelH x=some x:=by
 unfold aBI;rw[TY h.1 h.2];rfl
end
end Go.Mo
end
end

section
set_option linter.all false
namespace Go.Mo
open Go Go.W Go.Lib
set_option maxRecDepth 100000
noncomputable section
theorem cU{V R σ α:Type}{F:(V→Option R)→V→Option R}{s:List α}(st:σ→Nat→V) (spec:σ→List α→Option R) (I:Nat→σ→Prop)
  (hstep:∀self a i,i≤s.length→I i a→(∀a' j,i<j→j≤s.length→I j a'→self (st a' j)=spec a' (s.drop j))→F self (st a i)=spec a (s.drop i)) :
  ∀(fuel i:Nat) (a:σ),s.length-i<fuel→i≤s.length→I i a→bI F fuel (st a i)=spec a (s.drop i)
 | 0,i,a,h,_,_=>by omega
 |fuel+1,i,a,h,hi,hI=>by
  rw[gN];exact hstep _ a i hi hI fun a' j hj hj2 hI2=>cU st spec I hstep fuel j a' (by omega) hj2 hI2
theorem cV{α:Type}{s:List α}(h:s.length≤4000000) (i:Nat):s.length-i<fuelH:=by have:=bG; omega
def nX(x:UInt8):Bool:=(decide (97≤x.toNat)&&decide (x.toNat≤122))||(decide (65≤x.toNat)&&decide (x.toNat≤90))
def aJJ(x:UInt8):Bool:=decide (48≤x.toNat)&&decide (x.toNat≤57)
def nA(x:UInt8):Bool:=nX x||aJJ x||x==45
def wsB(x:UInt8):Bool:=x==9||x==10||x==13||x==32
theorem UA:((List.range 256).all fun n=>decide (q57 0 (UInt8.ofNat n)=some (nX (UInt8.ofNat n))∧aMW 0 (UInt8.ofNat n)=some (nX (UInt8.ofNat n))∧q58 0 (UInt8.ofNat n)=some (nA (UInt8.ofNat n))∧aIW 0 (UInt8.ofNat n)=some (aJJ (UInt8.ofNat n))∧q76 0 (UInt8.ofNat n)=some (wsB (UInt8.ofNat n))))=true:=by kernel_rfl
theorem OG(x:UInt8):q57 0 x=some (nX x)∧aMW 0 x=some (nX x)∧q58 0 x=some (nA x)∧aIW 0 x=some (aJJ x)∧q76 0 x=some (wsB x) :=
 of_decide_eq_true (eN (P:=fun x=>decide (q57 0 x=some (nX x)∧aMW 0 x=some (nX x)∧q58 0 x=some (nA x)∧aIW 0 x=some (aJJ x)∧q76 0 x=some (wsB x))) UA x)
theorem HV(N:Nat) (x:UInt8):q57 N x=some (nX x):=(OG x).1
theorem U5(N:Nat) (x:UInt8):q58 N x=some (nA x):=(OG x).2.2.1
theorem aFY(N:Nat) (x:UInt8):q76 N x=some (wsB x):=(OG x).2.2.2.2
theorem vL{s:Y_}(hs:s.length≤600000000) (c:UInt8) (r:Y_) (hr:r≠[c]) (hr2:r.length≤6):q62 fuelH (s,[c],r)=some (s.flatMap (nP c r)):=by
 have h1:q62 fuelH (s,[c],r)=grd (decide (s.length<4294967281)) (grd (decide (1≤([c]:Y_).length)) (grd (decide (s.length+Lib.count s [c]*r.length≤140737488355328)) (some (Lib.replace s [c] r (-1))))):=by
  unfold q62 strings_Replace fX;generalize hX:grd _ _=X;cases X<;>rfl
 have hc:=Lib.count_le s [c]
 have hm:Lib.count s [c]*r.length≤(s.length+1)*6:=Nat.mul_le_mul hc hr2
 rw[h1,aF (decide_eq_true (by omega)),aF (by rfl),aF (decide_eq_true (by omega)),NP c r s hr]
theorem aXE(N:Nat) (x:Y_):q63 (N+10) x=bnd (q62 (N+10) (x,[38],[38,97,109,112,59])) fun a=>bnd (q62 (N+10) (a,[60],[38,108,116,59])) fun b=>bnd (q62 (N+10) (b,[62],[38,103,116,59])) fun c=>bnd (q62 (N+10) (c,[34],[38,113,117,111,116,59])) fun d=>bnd (q62 (N+10) (d,[39],[38,97,112,111,115,59])) fun e=>some e:=by kernel_rfl
theorem vM(c:UInt8){r:Y_}{k:Nat}(hr:r.length≤k) (hk:1≤k) (b:UInt8):(nP c r b).length≤k:=by
 unfold nP
 split
 ·exact hr
 ·exact hk
theorem aFZ{s:Y_}(hs:s.length≤1100000):q63 fuelH s=some (esc s):=by
 have h0:=aXE (mQ+4990) s
 have l1:=nQ (vM 38 (r:=[38,97,109,112,59]) (k:=5) (by decide) (by decide)) s
 have l2:=nQ (vM 60 (r:=[38,108,116,59]) (k:=4) (by decide) (by decide)) (s.flatMap (nP 38 [38,97,109,112,59]))
 have l3:=nQ (vM 62 (r:=[38,103,116,59]) (k:=4) (by decide) (by decide)) ((s.flatMap (nP 38 [38,97,109,112,59])).flatMap (nP 60 [38,108,116,59]))
 have l4:=nQ (vM 34 (r:=[38,113,117,111,116,59]) (k:=6) (by decide) (by decide)) (((s.flatMap (nP 38 [38,97,109,112,59])).flatMap (nP 60 [38,108,116,59])).flatMap (nP 62 [38,103,116,59]))
 show q63 (mQ+4990+10) s=_;rw[h0];show(bnd (q62 fuelH _) _)=_;rw[vL (by omega) 38 _ (by decide) (by decide),aB];show(bnd (q62 fuelH _) _)=_;rw[vL (by omega) 60 _ (by decide) (by decide),aB];show(bnd (q62 fuelH _) _)=_;rw[vL (by omega) 62 _ (by decide) (by decide),aB];show(bnd (q62 fuelH _) _)=_;rw[vL (by omega) 34 _ (by decide) (by decide),aB];show(bnd (q62 fuelH _) _)=_;rw[vL (by omega) 39 _ (by decide) (by decide),aB,aFD]
theorem UB(b:UInt8) (l:Y_):esc (b::l)=FK b++esc l:=by unfold esc; rw[List.flatMap_cons]
theorem aPJ{R:Type}{F:(Int→Option R)→Int→Option R}{s:Y_}(P:UInt8→Bool) (K:Int→Option R)
  (hin:∀self i (h:i<s.length),F self (i:Int)=if P s[i]=true then self ((i+1:Nat):Int) else K i) (hend:∀self,F self (s.length:Int)=K s.length) :
  ∀(fuel i:Nat),s.length-i<fuel→i≤s.length→bI F fuel (i:Int)=K ((i+((s.drop i).takeWhile P).length:Nat):Int)
 | 0,i,h,_=>by omega
 |fuel+1,i,h,hi=>by
  rw[gN]
  by_cases hl:i<s.length
  ·rw[hin _ i hl,aXR hl,aYS]
   by_cases hp:P s[i]=true
   ·rw[if_pos hp,if_pos hp,aPJ P K hin hend fuel (i+1) (by omega) (by omega),aZA];congr 2;omega
   ·rw[if_neg hp,if_neg hp];rfl
  ·obtain rfl:i=s.length:=by omega
   rw[hend,aZK];rfl
def gH(x:UInt8):Int:=if 48≤x.toNat∧x.toNat≤57 then(x.toNat:Int)-48 else if 97≤x.toNat∧x.toNat≤102 then(x.toNat:Int)-87 else if 65≤x.toNat∧x.toNat≤70 then(x.toNat:Int)-55 else -1
def dgV(base:Int) (x:UInt8):Int:=if base≤gH x then -1 else gH x
theorem L8:((List.range 256).all fun n=>decide (q80 0 (UInt8.ofNat n,10)=some (dgV 10 (UInt8.ofNat n))∧q80 0 (UInt8.ofNat n,16)=some (dgV 16 (UInt8.ofNat n))∧AO 0 (UInt8.ofNat n)=some (gH (UInt8.ofNat n))∧(-1≤gH (UInt8.ofNat n)∧gH (UInt8.ofNat n)<16)))=true:=by kernel_rfl
theorem digits(x:UInt8):q80 0 (x,10)=some (dgV 10 x)∧q80 0 (x,16)=some (dgV 16 x)∧AO 0 x=some (gH x)∧(-1≤gH x∧gH x<16) :=
 of_decide_eq_true (eN (P:=fun x=>decide (q80 0 (x,10)=some (dgV 10 x)∧q80 0 (x,16)=some (dgV 16 x)∧AO 0 x=some (gH x)∧(-1≤gH x∧gH x<16))) L8 x)
theorem aF0{base:Int}(hb:base=10∨base=16) (N:Nat) (x:UInt8):q80 N (x,base)=some (dgV base x):=by
 rcases hb with rfl|rfl
 ·exact(digits x).1
 ·exact(digits x).2.1
def dOk(base:Int) (x:UInt8):Bool:=decide (0≤gH x)&&decide (gH x<base)
def zS(base:Int) (n:Int) (d:Y_):Int:=d.foldl (fun n x=>n*base+gH x) n
theorem U6{base:Int}(hb:0≤base):∀(d:Y_) (n:Int),0≤n→d.all (dOk base)=true→0≤zS base n d∧zS base n d<(n+1)*base^d.length
 | [],n,hn,_=>by simp[zS]; omega
 |x::d,n,hn,h=>by
  rw[aZ8,aZB] at h
  have h1:0≤gH x∧gH x<base:=by have:=h.1; unfold dOk at this; simpa using this
  have h0:0≤n*base:=Int.mul_nonneg hn hb
  have ih:=U6 hb d (n*base+gH x) (by omega) h.2
  refine⟨ih.1,Int.lt_of_lt_of_le ih.2 ?_⟩;rw[aZA,Int.pow_succ,Int.mul_comm (base^d.length) base,←Int.mul_assoc];refine Int.mul_le_mul_of_nonneg_right ?_ (Int.pow_nonneg hb);rw[Int.add_mul];omega
def qS(base:Int) (most:Nat) (d:Y_):Y_×Int :=
 if d=[]∨most<d.length∨d.all (dOk base)=false then([],4) else if dO (zS base 0 d)=false then([],10) else(enc (zS base 0 d),0)
def zT(c:Y_):Y_×Int :=
 if c=[97,109,112] then([38],0) else if c=[108,116] then([60],0) else if c=[103,116] then([62],0) else if c=[113,117,111,116] then([34],0) else if c=[97,112,111,115] then([39],0)
 else if c.take 2=[35,120] then qS 16 5 (c.drop 2) else if c.take 1=[35] then qS 10 6 (c.drop 1) else([],4)
def bE(b:UInt8):Bool:=b != 59
theorem L9{base:Int}{most:Nat}{d:Y_}(hb:(base=10∧most=6)∨(base=16∧most=5)) (hl:d.length≤most) (ha:d.all (dOk base)=true):0≤zS base 0 d∧zS base 0 d<1048576:=by
 have h0:0≤base:=by rcases hb with⟨rfl,_⟩|⟨rfl,_⟩<;>decide
 have h:=U6 h0 d 0 (Int.le_refl _) ha
 refine⟨h.1,Int.lt_of_lt_of_le h.2 ?_⟩;rw[Int.zero_add,Int.one_mul];rcases hb with⟨rfl,rfl⟩|⟨rfl,rfl⟩
 ·have:(10:Int)^d.length≤10^6:=by
   have:=Nat.pow_le_pow_right (n:=10) (by decide) hl
   exact_mod_cast this
  omega
 ·have:(16:Int)^d.length≤16^5:=by
   have:=Nat.pow_le_pow_right (n:=16) (by decide) hl
   exact_mod_cast this
  omega
theorem aJK{x:Int}(h:0≤x∧x<2147483648):wr .i32 x=x:=by
 show IntKind.wrap .i32 x=x;unfold IntKind.wrap;simp only[IntKind.bits,IntKind.signed,aZ7,decide_eq_true_eq,show(2:Int)^32=4294967296 from rfl,show(2:Int)^(32-1)=2147483648 from rfl]
 split<;>omega
def aJL(N:Nat) (x:Y_):Option (Y_×Int×Int) :=
  jn (fun (v1:Int×Int×Int) =>
   jn (fun (v2:Int×Int) =>
    cnd (ieq v2.1 v1.1)
     (some (([]:Y_),(0:Int),(4:Int)))
     (cnd (ilt v1.2.2 (w64 (aJ v2.1 v1.1)))
      (some (([]:Y_),(0:Int),(4:Int)))
      (cnd (ieq v2.1 (len x))
       (some (([]:Y_),(0:Int),(4:Int)))
       (grd (inb v2.1 (len x))
        (cnd (ine (n8 (aA x (toN v2.1) (0:UInt8))) (n8 (59:UInt8)))
         (some (([]:Y_),(0:Int),(4:Int)))
         (bnd (q12 N (wr .i32 v2.2)) fun v3 =>
         cnd (ilt v3 (0:Int))
          (some (([]:Y_),(0:Int),(10:Int)))
          (some (enc (wr .i32 v2.2),w64 (aE v2.1 (1:Int)),(0:Int)))))))))
   fun v4 =>
   bI (fun v5 (v6:Int×Int) =>
    cnd (ilt v6.1 (len x))
     (grd (inb v6.1 (len x))
      (bnd (q80 N (aA x (toN v6.1) (0:UInt8),v1.2.1)) fun v7 =>
      cnd (ile (0:Int) v7)
       (grd (inb v6.1 (len x))
        (bnd (q80 N (aA x (toN v6.1) (0:UInt8),v1.2.1)) fun v8 =>
        v5 (w64 (aE v6.1 (1:Int)),gO (w64 (aE (w64 (nB v6.2 v1.2.1)) v8)) (16777216:Int))))
       (v4 v6)))
     (v4 v6)) N (v1.1,(0:Int)))
  fun v9 =>
  bnd (q75 N (x,([38,35,120]:Y_))) fun v10 =>
  cnd v10
   (v9 ((3:Int),(16:Int),(5:Int)))
   (bnd (q75 N (x,([38,35]:Y_))) fun v11 =>
   cnd (bO v11)
    (some (([]:Y_),(0:Int),(4:Int)))
    (v9 ((2:Int),(10:Int),(6:Int))))
theorem aF1(N:Nat) (x:Y_):q81 (N+10) x=jn (fun (_:Unit)=>aJL (N+10) x) fun v12=>bnd (q75 (N+10) (x,([38,97,109,112,59]:Y_))) fun v=>cnd v (some (([38]:Y_),(5:Int),(0:Int))) (bnd (q75 (N+10) (x,([38,108,116,59]:Y_))) fun v=>cnd v (some (([60]:Y_),(4:Int),(0:Int))) (bnd (q75 (N+10) (x,([38,103,116,59]:Y_))) fun v=>cnd v (some (([62]:Y_),(4:Int),(0:Int))) (bnd (q75 (N+10) (x,([38,113,117,111,116,59]:Y_))) fun v=>cnd v (some (([34]:Y_),(6:Int),(0:Int))) (bnd (q75 (N+10) (x,([38,97,112,111,115,59]:Y_))) fun v=>cnd v (some (([39]:Y_),(6:Int),(0:Int))) (v12 ()))))):=by kernel_rfl
def kv(v:Int):Option (Y_×Int):=cnd (ilt v (0:Int)) (some (([]:Y_),(4:Int))) (bnd (aEX fuelH (wr .i32 v)) fun v2=>cnd (ilt v2 (0:Int)) (some (([]:Y_),(10:Int))) (bnd (aMX fuelH ([wr .i32 v]:List Int)) fun v3=>some (v3,(0:Int))))
def v8(x:Y_) (b:Bool):Option (Y_×Int):=cnd b (grd (in2 (2:Int) (len x)) (bnd (RW fuelH (cQ (toN (2:Int)) x,(16:Int),(5:Int))) kv))
 (cnd (ilt (0:Int) (len x)) (grd (inb (0:Int) (len x)) (cnd (ieq (n8 (aA x (toN (0:Int)) (0:UInt8))) (n8 (35:UInt8))) (grd (in2 (1:Int) (len x)) (bnd (RW fuelH (cQ (toN (1:Int)) x,(10:Int),(6:Int))) kv)) (kv (-1:Int)))) (kv (-1:Int)))
def FM(c:Y_):Y_×Int:=if c.take 2=[35,120] then qS 16 5 (c.drop 2) else if c.take 1=[35] then qS 10 6 (c.drop 1) else([],4)
theorem U7(c:Y_):zT c=if c=[97,109,112] then([38],0) else if c=[108,116] then([60],0) else if c=[103,116] then([62],0) else if c=[113,117,111,116] then([34],0) else if c=[97,112,111,115] then([39],0) else FM c:=rfl
theorem HW(N:Nat) (s p:Y_):q75 N (s,p)=some (decide (s.take p.length=p)):=by
 unfold q75 q74
 by_cases h:p.length≤s.length
 ·rw[aD (gT (by simp only[len]; omega)),aF (mP (by simp only[len]; omega)),aB,cB];simp only[bL,toN,len,aY8]<;>exact congrArg some (decide_eq_decide.2 Iff.rfl)
 ·rw[aC (kA (by simp only[len]; omega)),aB]
  have:¬(s.take p.length=p):=fun e=>by
   have:=congrArg List.length e
   rw[aZD] at this;omega
  rw[decide_eq_false this]
theorem qT{c t:Y_}(h:c.all bE=true):(c++59::t).takeWhile bE=c:=by
 rw[aXK (by simpa using h),aYS];simp[bE]
theorem aPK{c:Y_}(h:c.all bE=true):c.takeWhile bE=c:=by
 have:=aXK (p:=bE) (l₁:=c) (l₂:=[]) (by simpa using h)
 simpa using this
theorem qU:∀r:Y_,(r.all bE=true)∨∃c t,r=c++59::t∧c.all bE=true
 | []=>.inl rfl
 |b::r=>by
  by_cases hb:b=59
  ·exact .inr ⟨[],r,by rw[hb]; rfl,rfl⟩
  have h1:bE b=true:=by simpa [bE] using hb
  rcases qU r with h|⟨c,t,e,h⟩
  ·exact .inl (by rw[aZ8,h1,h]; rfl)
  ·exact .inr ⟨b::c,t,by rw[e]; rfl,by rw[aZ8,h1,h]; rfl⟩
theorem HX{base:Int}(hb:1≤base):∀(d:Y_) (n:Int),0≤n→d.all (dOk base)=true→n≤zS base n d∧(zS base n d≤16777216→d.foldl (fun n x=>min (n*base+gH x) 16777216) n=zS base n d)
 | [],n,_,_=>⟨Int.le_refl _,fun _=>rfl⟩
 |x::d,n,hn,h=>by
  rw[aZ8,aZB] at h
  have h1:0≤gH x∧gH x<base:=by have:=h.1; unfold dOk at this; simpa using this
  have h0:n*1≤n*base:=Int.mul_le_mul_of_nonneg_left hb hn
  have ih:=HX hb d (n*base+gH x) (by omega) h.2
  refine⟨Int.le_trans (by omega) ih.1,fun hle=>?_⟩
  have hle:zS base (n*base+gH x) d≤16777216:=hle
  rw[List.foldl_cons]
  have hm:min (n*base+gH x) 16777216=n*base+gH x:=by have:=ih.1; omega
  rw[hm];exact ih.2 hle
def mH(r:Y_):Y_×Int×Int :=
 let c:=r.takeWhile bE
 if c.length=r.length then([],0,4) else if(zT c).2=0 then((zT c).1,((c.length+2:Nat):Int),0) else([],0,(zT c).2)
theorem aJM{r:Y_}(h:r.all bE=true):mH r=([],0,4):=by
 unfold mH;simp only[aPK h,if_true]
theorem UC{c t:Y_}(h:c.all bE=true):mH (c++59::t)=if(zT c).2=0 then((zT c).1,((c.length+2:Nat):Int),0) else([],0,(zT c).2):=by
 unfold mH;simp only[qT h];rw[if_neg (by simp)]
def k2N(N:Nat) (s:Y_) (at':Int) (most:Int) (v2:Int×Int):Option (Y_×Int×Int) :=
    cnd (ieq v2.1 at')
     (some (([]:Y_),(0:Int),(4:Int)))
     (cnd (ilt most (w64 (aJ v2.1 at')))
      (some (([]:Y_),(0:Int),(4:Int)))
      (cnd (ieq v2.1 (len s))
       (some (([]:Y_),(0:Int),(4:Int)))
       (grd (inb v2.1 (len s))
        (cnd (ine (n8 (aA s (toN v2.1) (0:UInt8))) (n8 (59:UInt8)))
         (some (([]:Y_),(0:Int),(4:Int)))
         (bnd (q12 N (wr .i32 v2.2)) fun v3 =>
         cnd (ilt v3 (0:Int))
          (some (([]:Y_),(0:Int),(10:Int)))
          (some (enc (wr .i32 v2.2),w64 (aE v2.1 (1:Int)),(0:Int))))))))
def k2(s:Y_) (at':Int) (most:Int) (v2:Int×Int):Option (Y_×Int×Int):=k2N fuelH s at' most v2
theorem aPL{base:Int}(x:UInt8):(0≤dgV base x↔dOk base x=true)∧(dOk base x=true→dgV base x=gH x):=by
 unfold dgV dOk
 by_cases h:base≤gH x
 ·rw[if_pos h];refine⟨⟨fun k=>by omega,fun k=>?_⟩,fun k=>?_⟩
  ·simp at k; omega
  ·simp at k; omega
 ·rw[if_neg h];refine⟨⟨fun k=>by simp; omega,fun k=>?_⟩,fun _=>rfl⟩;simp at k; omega
theorem UD{s:Y_}(hs:s.length≤4000000){base:Int}(hb:base=10∨base=16){K:Int×Int→Option (Y_×Int×Int)}:∀(fuel i:Nat) (n:Int),s.length-i<fuel→i≤s.length→0≤n→n≤16777216 →
  bI (fun v5 (v6:Int×Int) =>
    cnd (ilt v6.1 (len s))
     (grd (inb v6.1 (len s))
      (bnd (q80 fuelH (aA s (toN v6.1) (0:UInt8),base)) fun v7 =>
      cnd (ile (0:Int) v7)
       (grd (inb v6.1 (len s))
        (bnd (q80 fuelH (aA s (toN v6.1) (0:UInt8),base)) fun v8 =>
        v5 (w64 (aE v6.1 (1:Int)),gO (w64 (aE (w64 (nB v6.2 base)) v8)) (16777216:Int))))
       (K v6)))
     (K v6)) fuel ((i:Int),n)=K (((i+((s.drop i).takeWhile (dOk base)).length:Nat):Int),((s.drop i).takeWhile (dOk base)).foldl (fun n x=>min (n*base+gH x) 16777216) n)
 | 0,i,n,h,_,_,_=>by omega
 |fuel+1,i,n,h,hi,h0,h1=>by
  rw[gN]
  by_cases hl:i<s.length
  ·have g:aA s (toN (i:Int)) (0:UInt8)=s[i]:=bA hl
   have hw:w64 (aE (i:Int) 1)=((i+1:Nat):Int):=aR hl (by omega)
   have hx:=(digits s[i]).2.2.2
   have hdv:=aPL (base:=base) s[i]
   show cnd (ilt (i:Int) (len s)) _ _=_;rw[aD (aV (by simp only[len]; omega)),aF (aY (by simp only[len]; omega)),g,aF0 hb,aB,aF (aY (by simp only[len]; omega)),aB,hw,aXR hl,aYS]
   by_cases hd:dOk base s[i]=true
   ·have h2:=hdv.2 hd
    have h3:0≤gH s[i]∧gH s[i]<base:=by unfold dOk at hd; simpa using hd
    have hb16:1≤base∧base≤16:=by rcases hb with rfl|rfl<;>decide
    have m0:0≤n*base:=Int.mul_nonneg h0 (by omega)
    have m1:n*base≤n*16:=Int.mul_le_mul_of_nonneg_left hb16.2 h0
    rw[aD (gT (hdv.1.2 hd)),if_pos hd,h2]
    have e1:gO (w64 (aE (w64 (nB n base)) (gH s[i]))) 16777216=min (n*base+gH s[i]) 16777216:=by
     simp only[nB,aE,gO];rw[bU (x:=n*base) (by omega),bU (by omega)]
    rw[e1]
    have ih:=UD hs hb (K:=K) fuel (i+1) (min (n*base+gH s[i]) 16777216) (by omega) (by omega) (by omega) (by omega)
    rw[ih,aZA,List.foldl_cons];congr 3;omega
   ·rw[aC (kA (fun k=>hd (hdv.1.1 k))),if_neg hd];rfl
  ·obtain rfl:i=s.length:=by omega
   show cnd (ilt (s.length:Int) (len s)) _ _=_;rw[aC (aX (by simp only[len]; omega)),aZK];rfl
theorem aF2{P:UInt8→Bool}:∀l:Y_,(l.takeWhile P).all P=true
 | []=>rfl
 |b::l=>by
  rw[aYS]
  split
  ·rename_i h;rw[aZ8,h,aF2 l];rfl
  ·rfl
theorem U8{P:UInt8→Bool}:∀l:Y_,l.drop (l.takeWhile P).length=[]∨∃b t,l.drop (l.takeWhile P).length=b::t∧P b=false
 | []=>.inl rfl
 |b::l=>by
  rw[aYS]
  by_cases h:P b=true
  ·rw[if_pos h]
   simpa using U8 l
  ·rw[if_neg h];exact .inr ⟨b,l,rfl,by simpa using h⟩
theorem OH(P:UInt8→Bool):∀l:Y_,l.takeWhile P++l.drop (l.takeWhile P).length=l
 | []=>rfl
 |b::l=>by
  rw[aYS]
  split
  ·rw[aZA,aYN,aZC,OH P l]
  ·rfl
theorem xV{base:Int}{x:UInt8}(h:dOk base x=true):bE x=true:=by
 unfold bE;simp only[bne_iff_ne,ne_eq];intro e;subst e;unfold dOk at h;simp[gH] at h
theorem M0{s:Y_}{a m:Nat}{n:Int}{most:Nat}(hl:s.length≤4000000) (ham:a+m≤s.length) (h:m=0∨most<m∨a+m=s.length∨∃b t,s.drop (a+m)=b::t∧b≠59):k2 s (a:Int) (most:Int) (((a+m:Nat):Int),n)=some ([],0,4):=by
 unfold k2 k2N;simp only
 by_cases h0:m=0
 ·rw[aD (dJ (by omega))]
 rw[aC (dA (by omega))]
 have e1:w64 (aJ ((a+m:Nat):Int) (a:Int))=(m:Int):=by
  simp only[aJ];rw[bU (by omega)];omega
 rw[e1]
 by_cases h1:most<m
 ·rw[aD (aV (by omega))]
 rw[aC (aX (by omega))]
 by_cases h2:a+m=s.length
 ·rw[aD (dJ (by simp only[len]; omega))]
 rw[aC (dA (by simp only[len]; omega)),aF (aY (by simp only[len]; omega))];rcases h with h|h|h|⟨b,t,h3,h4⟩
 ·exact absurd h h0
 ·exact absurd h h1
 ·exact absurd h h2
 ·have hlt:a+m<s.length:=by omega
  have hb:s[a+m]=b:=by
   rw[aXR hlt] at h3;injection h3
  rw[bA hlt,hb,aD (cA (fun k=>h4 (fG k)))]
theorem aWK{s:Y_}{a m:Nat}{n:Int}{most:Nat}{t:Y_}(hl:s.length≤4000000) (h0:m≠0) (h1:¬most<m) (h3:s.drop (a+m)=59::t) (hn:0≤n∧n<1048576):k2 s (a:Int) (most:Int) (((a+m:Nat):Int),n)=some (if dO n=false then([],0,10) else(enc n,((a+m+1:Nat):Int),0)):=by
 have hlt:a+m<s.length:=by
  rcases Nat.lt_or_ge (a+m) s.length with h|h
  ·exact h
  ·rw[List.drop_eq_nil_of_le h] at h3;cases h3
 have hb:s[a+m]=59:=by
  rw[aXR hlt] at h3;injection h3
 unfold k2 k2N;simp only
 have e1:w64 (aJ ((a+m:Nat):Int) (a:Int))=(m:Int):=by
  simp only[aJ];rw[bU (by omega)];omega
 obtain⟨i,q1,_,q3⟩:=L2 n;rw[aC (dA (by omega)),e1,aC (aX (by omega)),aC (dA (by simp only[len]; omega)),aF (aY (by simp only[len]; omega)),bA hlt,hb,aC (by rfl),aJK (by omega),q1,aB,aR (n:=s.length) hlt (by omega)]
 by_cases h2:dO n=false
 ·rw[if_pos h2,aD (aV (q3.2 h2))]
 ·rw[if_neg h2,aC (aX (fun k=>h2 (q3.1 k)))]
theorem aF3{s:Y_}(hs:s.length≤4000000){base:Int}{most a:Nat}(hb:(base=10∧most=6)∨(base=16∧most=5)) (ha:a≤s.length) :
  k2 s (a:Int) (most:Int) (((a+((s.drop a).takeWhile (dOk base)).length:Nat):Int),((s.drop a).takeWhile (dOk base)).foldl (fun n x=>min (n*base+gH x) 16777216) 0) =
   some (if(s.drop a).all bE=true then([],0,4) else if(qS base most ((s.drop a).takeWhile bE)).2=0 then((qS base most ((s.drop a).takeWhile bE)).1,((a+((s.drop a).takeWhile bE).length+1:Nat):Int),0) else([],0,(qS base most ((s.drop a).takeWhile bE)).2)):=by
 generalize hd:s.drop a=d
 have hw:=aF2 (P:=dOk base) d
 have hm:=List.takeWhile_prefix (dOk base) (l:=d)
 have hdl:d.length=s.length-a:=by rw[←hd,aZE]
 have hml:(d.takeWhile (dOk base)).length≤d.length:=hm.length_le
 have hdr:s.drop (a+(d.takeWhile (dOk base)).length)=d.drop (d.takeWhile (dOk base)).length:=by rw[←hd,aZY]
 have hcat:d=d.takeWhile (dOk base)++d.drop (d.takeWhile (dOk base)).length:=(OH _ d).symm
 have hbase:1≤base:=by rcases hb with⟨h,_⟩|⟨h,_⟩<;>omega
 rcases U8 (P:=dOk base) d with h|⟨b,t,h,hbad⟩
 ·rw[M0 hs (by omega) (.inr (.inr (.inl (by have:=congrArg List.length h; simp at this; omega))))]
  have:d.all bE=true:=by
   rw[hcat,h,aZO];rw[aZJ] at hw ⊢;exact fun x hx=>xV (hw x hx)
  rw[if_pos this]
 ·by_cases hb59:b=59
  ·subst hb59
   have hno:¬(d.all bE=true):=fun k=>by
    rw[hcat,h,List.all_append,aZ8] at k;simp[bE] at k
   have htw:d.takeWhile bE=d.takeWhile (dOk base):=by
    conv=>lhs; rw[hcat,h]
    refine qT ?_;rw[aZJ] at hw ⊢;exact fun x hx=>xV (hw x hx)
   rw[if_neg hno,htw];generalize hq:d.takeWhile (dOk base)=q at *;unfold qS
   by_cases he:q=[]∨most<q.length∨q.all (dOk base)=false
   ·rw[if_pos he,if_neg (by decide)];refine M0 hs (by omega) ?_;rcases he with he|he|he
    ·exact .inl (by rw[he]; rfl)
    ·exact .inr (.inl he)
    ·rw[he] at hw; cases hw
   ·rw[if_neg he];simp only[not_or] at he
    have hsm:=L9 hb (by omega) hw
    have hcl:=(HX hbase q 0 (Int.le_refl _) hw).2 (by omega)
    rw[hcl,aWK hs (fun k=>he.1 (aXI k)) he.2.1 (hdr.trans h) hsm]
    by_cases hr:dO (zS base 0 q)=false
    ·rw[if_pos hr,if_pos hr];rfl
    ·rw[if_neg hr,if_neg hr];rfl
  ·have hcat2:d=d.takeWhile (dOk base)++b::t:=by rw[←h]; exact hcat
   rw[M0 hs (by omega) (.inr (.inr (.inr ⟨b,t,hdr.trans h,hb59⟩)))]
   by_cases hall:d.all bE=true
   ·rw[if_pos hall]
   ·rw[if_neg hall]
    have hbq:∃u,d.takeWhile bE=d.takeWhile (dOk base)++b::u:=by
     refine⟨t.takeWhile bE,?_⟩
     conv=>lhs; rw[hcat2]
     rw[aXK (by rw[aZJ] at hw; exact fun x hx=>xV (hw x hx)),aYS,if_pos (by simpa [bE] using hb59)]
    obtain⟨u,hu⟩:=hbq
    have:(d.takeWhile bE).all (dOk base)=false:=by
     rw[hu,List.all_append,aZ8,hbad];simp
    have e:qS base most (d.takeWhile bE)=([],4):=by
     unfold qS;rw[if_pos (.inr (.inr this))]
    rw[e,if_neg (by decide)]
theorem vN{c t p:Y_}(hp:p.all bE=true):(c++59::t).take p.length=p↔c.take p.length=p:=by
 by_cases h:p.length≤c.length
 ·rw[List.take_append_of_le_length h]
 ·refine⟨fun e=>?_,fun e=>?_⟩
  ·have hl:c.length<p.length:=by omega
   have h1:p[c.length]?=some 59:=by
    rw[←e,aYU,if_pos hl];simp
   have h2:=aYD h1
   rw[aZJ] at hp
   have:=hp 59 h2
   simp[bE] at this
  ·have:=congrArg List.length e
   rw[aZD] at this;omega
theorem nY{c t p:Y_}(hc:c.all bE=true) (hp:p.all bE=true):(c++59::t).take (p++[59]).length=p++[59]↔c=p:=by
 refine⟨fun e=>?_,fun e=>?_⟩
 ·have h1:c++59::t=p++59::(c++59::t).drop (p++[59]).length:=by
   conv=>lhs; rw[←aX7 (p++[59]).length (c++59::t),e]
   simp
  have h2:=qT (t:=t) hc
  rw[h1,qT hp] at h2;exact h2.symm
 ·subst e;rw[show c++59::t=(c++[59])++t by simp,List.take_left]
theorem qV{r p:Y_}(hr:r.all bE=true):¬(r.take (p++[59]).length=p++[59]):=fun e=>by
 have h1:(59:UInt8)∈r:=by
  have:(59:UInt8)∈r.take (p++[59]).length:=by rw[e]; simp
  exact aYH this
 rw[aZJ] at hr
 have:=hr 59 h1
 simp[bE] at this
def xAN(N:Nat) (s:Y_) (v1:Int×Int×Int):Option (Y_×Int×Int) :=
   bI (fun v5 (v6:Int×Int) =>
    cnd (ilt v6.1 (len s))
     (grd (inb v6.1 (len s))
      (bnd (q80 N (aA s (toN v6.1) (0:UInt8),v1.2.1)) fun v7 =>
      cnd (ile (0:Int) v7)
       (grd (inb v6.1 (len s))
        (bnd (q80 N (aA s (toN v6.1) (0:UInt8),v1.2.1)) fun v8 =>
        v5 (w64 (aE v6.1 (1:Int)),gO (w64 (aE (w64 (nB v6.2 v1.2.1)) v8)) (16777216:Int))))
       (k2N N s v1.1 v1.2.2 v6)))
     (k2N N s v1.1 v1.2.2 v6)) N (v1.1,(0:Int))
def xA(s:Y_) (v1:Int×Int×Int):Option (Y_×Int×Int):=xAN fuelH s v1
theorem aB4(N:Nat) (s:Y_):aJL N s=bnd (q75 N (s,([38,35,120]:Y_))) fun v10=>cnd v10 (xAN N s ((3:Int),(16:Int),(5:Int))) (bnd (q75 N (s,([38,35]:Y_))) fun v11=>cnd (bO v11) (some (([]:Y_),(0:Int),(4:Int))) (xAN N s ((2:Int),(10:Int),(6:Int)))):=rfl
theorem aF4(s:Y_):aJL fuelH s=bnd (q75 fuelH (s,([38,35,120]:Y_))) fun v10=>cnd v10 (xA s ((3:Int),(16:Int),(5:Int))) (bnd (q75 fuelH (s,([38,35]:Y_))) fun v11=>cnd (bO v11) (some (([]:Y_),(0:Int),(4:Int))) (xA s ((2:Int),(10:Int),(6:Int)))):=aB4 fuelH s
theorem aLV{s:Y_}(hs:s.length≤4000000){base:Int}{most a:Nat}(hb:(base=10∧most=6)∨(base=16∧most=5)) (ha:a≤s.length) :
  xA s ((a:Int),base,(most:Int))=some (if(s.drop a).all bE=true then([],0,4) else if(qS base most ((s.drop a).takeWhile bE)).2=0 then((qS base most ((s.drop a).takeWhile bE)).1,((a+((s.drop a).takeWhile bE).length+1:Nat):Int),0) else([],0,(qS base most ((s.drop a).takeWhile bE)).2)):=by
 rw[←aF3 hs hb ha];exact UD hs (by rcases hb with⟨h,_⟩|⟨h,_⟩<;>simp[h]) fuelH a 0 (cV hs a) ha (by decide) (by decide)
theorem aJN{r:Y_}(hr:r.length≤3999999):aJL fuelH (38::r)=some (if r.all bE=true then([],0,4) else if(FM (r.takeWhile bE)).2=0 then((FM (r.takeWhile bE)).1,(((r.takeWhile bE).length+2:Nat):Int),0) else([],0,(FM (r.takeWhile bE)).2)):=by
 have hs:(38::r).length≤4000000:=by simp; omega
 have e1:((38::r).take ([38,35,120]:Y_).length=[38,35,120])↔r.take ([35,120]:Y_).length=[35,120]:=by simp
 have e2:((38::r).take ([38,35]:Y_).length=[38,35])↔r.take ([35]:Y_).length=[35]:=by simp
 rw[aF4,HW,aB]
 by_cases h1:r.take ([35,120]:Y_).length=[35,120]
 ·have hl:2≤r.length:=by have:=congrArg List.length h1; simp at this; omega
  rw[aD (decide_eq_true (e1.2 h1))]
  have hx:=aLV (a:=3) hs (.inr ⟨rfl,rfl⟩) (by simp; omega)
  refine bAM hx ?_
  have hd:(38::r).drop 3=r.drop 2:=rfl
  rw[hd];rcases qU r with h|⟨c,t,rfl,h⟩
  ·rw[if_pos h,if_pos];rw[aZJ] at h ⊢;exact fun x hx=>h x (aYJ hx)
  ·have h2:=(vN (by rfl)).1 h1
   have hc2:2≤c.length:=by have:=congrArg List.length h2; simp at this; omega
   have hd2:(c++59::t).drop 2=c.drop 2++59::t:=List.drop_append_of_le_length hc2
   have hca:(c.drop 2).all bE=true:=by
    rw[aZJ] at h ⊢;exact fun x hx=>h x (aYJ hx)
   have hn:FM c=qS 16 5 (c.drop 2):=if_pos h2
   have no:∀(p q:Y_),¬((p++59::q).all bE=true):=fun p q k=>by
    rw[List.all_append,aZ8] at k;simp[bE] at k
   rw[hd2,qT hca,qT h,if_neg (no _ _),if_neg (no _ _),hn,aZE]
   have:3+(c.length-2)+1=c.length+2:=by omega
   rw[this]
 ·rw[aC (decide_eq_false (fun k=>h1 (e1.1 k))),HW,aB]
  by_cases h3:r.take ([35]:Y_).length=[35]
  ·have hl:1≤r.length:=by have:=congrArg List.length h3; simp at this; omega
   rw[decide_eq_true (e2.2 h3),aC (by rfl)]
   have hx:=aLV (a:=2) hs (.inl ⟨rfl,rfl⟩) (by simp; omega)
   refine bAM hx ?_
   have hd:(38::r).drop 2=r.drop 1:=rfl
   rw[hd];rcases qU r with h|⟨c,t,rfl,h⟩
   ·rw[if_pos h,if_pos];rw[aZJ] at h ⊢;exact fun x hx=>h x (aYJ hx)
   ·have h2:=(vN (by rfl)).1 h3
    have h4:¬(c.take 2=[35,120]):=fun k=>h1 ((vN (p:=[35,120]) (by rfl)).2 k)
    have hc2:1≤c.length:=by have:=congrArg List.length h2; simp at this; omega
    have hd2:(c++59::t).drop 1=c.drop 1++59::t:=List.drop_append_of_le_length hc2
    have hca:(c.drop 1).all bE=true:=by
     rw[aZJ] at h ⊢;exact fun x hx=>h x (aYJ hx)
    have hn:FM c=qS 10 6 (c.drop 1):=by unfold FM; rw[if_neg h4]; exact if_pos h2
    have no:∀(p q:Y_),¬((p++59::q).all bE=true):=fun p q k=>by
     rw[List.all_append,aZ8] at k;simp[bE] at k
    rw[hd2,qT hca,qT h,if_neg (no _ _),if_neg (no _ _),hn,aZE]
    have:2+(c.length-1)+1=c.length+2:=by omega
    rw[this]
  ·rw[decide_eq_false (fun k=>h3 (e2.1 k)),aD (by rfl)];rcases qU r with h|⟨c,t,rfl,h⟩
   ·rw[if_pos h]
   ·have h4:¬(c.take 2=[35,120]):=fun k=>h1 ((vN (p:=[35,120]) (by rfl)).2 k)
    have h5:¬(c.take 1=[35]):=fun k=>h3 ((vN (p:=[35]) (by rfl)).2 k)
    have hn:FM c=([],4):=by unfold FM; rw[if_neg h4,if_neg h5]
    rw[qT h,hn]
    split<;>rfl
theorem aJO{r:Y_}(hr:r.length≤3999999):q81 fuelH (38::r)=some (mH r):=by
 have h:=aF1 (mQ+4990) (38::r)
 have hx:=aJN hr
 show q81 (mQ+4990+10) (38::r)=_;rw[h,bT];simp only[HW,aB]
 have step:∀(p:Y_) (X Y:Option (Y_×Int×Int)),cnd (decide ((38::r).take (38::(p++[59])).length=38::(p++[59]))) X Y=if r.take (p++[59]).length=p++[59] then X else Y:=fun p X Y=>by
  rw[jK]
  by_cases e:r.take (p++[59]).length=p++[59]
  ·rw[if_pos e,if_pos (by rw[aZA,aYO,e])]
  ·rw[if_neg e,if_neg (fun k=>e (by rw[aZA,aYO] at k; injection k))]
 have s1:=step [97,109,112]
 have s2:=step [108,116]
 have s3:=step [103,116]
 have s4:=step [113,117,111,116]
 have s5:=step [97,112,111,115]
 refine bAM (s1 _ _) ?_;rcases qU r with h|⟨c,t,rfl,hc⟩
 ·rw[if_neg (qV h)];refine bAM (s2 _ _) ?_;rw[if_neg (qV h)];refine bAM (s3 _ _) ?_;rw[if_neg (qV h)];refine bAM (s4 _ _) ?_;rw[if_neg (qV h)];refine bAM (s5 _ _) ?_;rw[if_neg (qV h),aJM h];refine bAM hx ?_;rw[if_pos h]
 ·rw[UC hc,U7];simp only[nY hc (show([97,109,112]:Y_).all bE=true from rfl)]
  by_cases c1:c=[97,109,112]
  ·subst c1; rfl
  rw[if_neg c1,if_neg c1];refine bAM (s2 _ _) ?_;simp only[nY hc (show([108,116]:Y_).all bE=true from rfl)]
  by_cases c2:c=[108,116]
  ·subst c2; rfl
  rw[if_neg c2,if_neg c2];refine bAM (s3 _ _) ?_;simp only[nY hc (show([103,116]:Y_).all bE=true from rfl)]
  by_cases c3:c=[103,116]
  ·subst c3; rfl
  rw[if_neg c3,if_neg c3];refine bAM (s4 _ _) ?_;simp only[nY hc (show([113,117,111,116]:Y_).all bE=true from rfl)]
  by_cases c4:c=[113,117,111,116]
  ·subst c4; rfl
  rw[if_neg c4,if_neg c4];refine bAM (s5 _ _) ?_;simp only[nY hc (show([97,112,111,115]:Y_).all bE=true from rfl)]
  by_cases c5:c=[97,112,111,115]
  ·subst c5; rfl
  rw[if_neg c5,if_neg c5];refine bAM hx ?_
  have no:¬((c++59::t).all bE=true):=fun k=>by
   rw[List.all_append,aZ8] at k;simp[bE] at k
  rw[if_neg no,qT hc]
theorem UE(base:Int) (most:Nat) (d:Y_):(qS base most d).1.length≤4:=by
 unfold qS
 split
 ·simp
 ·split
  ·simp
  ·rename_i h;exact aI7 (by simpa using h)
theorem UF(c:Y_):(zT c).1.length≤4:=by
 rw[U7]
 repeat' split
 any_goals simp
 unfold FM
 repeat' split
 ·exact UE _ _ _
 ·exact UE _ _ _
 ·simp
theorem kK{P:UInt8→Bool}(l:Y_):(l.takeWhile P).length≤l.length:=(List.takeWhile_prefix P).length_le
theorem U9{l:Y_}(h:(mH l).2.2=0):(l.takeWhile bE).length<l.length∧(mH l).2.1=(((l.takeWhile bE).length+2:Nat):Int)∧(mH l).1=(zT (l.takeWhile bE)).1∧(zT (l.takeWhile bE)).2=0:=by
 have:=kK (P:=bE) l
 unfold mH at *;simp only at *
 by_cases h1:(l.takeWhile bE).length=l.length
 ·rw[if_pos h1] at h;cases h
 ·rw[if_neg h1] at h ⊢
  by_cases h2:(zT (l.takeWhile bE)).2=0
  ·rw[if_pos h2] at h ⊢;exact⟨by omega,rfl,rfl,h2⟩
  ·rw[if_neg h2] at h;exact absurd h h2
def unE:Nat→Y_→Y_→Y_×Int
 | 0,a,_=>(a,0)
 |_+1,a,[]=>(a,0)
 |n+1,a,b::l=>if b=60 then([],4) else if b=38 then(if(mH l).2.2≠0 then([],(mH l).2.2) else unE n (a++(mH l).1) (l.drop ((l.takeWhile bE).length+1))) else unE n (a++[b]) l
theorem EC:∀(n m:Nat) (a l:Y_),l.length≤n→l.length≤m→unE n a l=unE m a l
 | 0,m,a,l,h,_=>by
  have:l=[]:=aXI (by omega)
  subst this;cases m<;>rfl
 |n+1,0,a,l,_,h=>by
  have:l=[]:=aXI (by omega)
  subst this;rfl
 |n+1,m+1,a,[],_,_=>rfl
 |n+1,m+1,a,b::l,h1,h2=>by
  have e1:=fun a=>EC n m a l (by simp at h1; omega) (by simp at h2; omega)
  have e2:=fun a=>EC n m a (l.drop ((l.takeWhile bE).length+1)) (by simp at h1 ⊢; omega) (by simp at h2 ⊢; omega)
  simp only[unE,e1,e2]
def un(a l:Y_):Y_×Int:=unE l.length a l
theorem M1(a:Y_):un a []=(a,0):=rfl
theorem AT(a:Y_) (b:UInt8) (l:Y_):un a (b::l)=if b=60 then([],4) else if b=38 then(if(mH l).2.2≠0 then([],(mH l).2.2) else un (a++(mH l).1) (l.drop ((l.takeWhile bE).length+1))) else un (a++[b]) l:=by
 have e2:=fun a=>EC l.length (l.drop ((l.takeWhile bE).length+1)).length a (l.drop ((l.takeWhile bE).length+1)) (by simp) (bAJ _)
 show unE (l.length+1) a (b::l)=_;simp only[unE,e2];rfl
theorem mS(a t:Y_) (h:a.length+t.length≤100000000):q31 fuelH (((),a),t)=some (len t,false,(),a++t):=by
 unfold q31 bJ bZ;rw[aB,aF (dD (by simp only[len,aE]; omega))];rfl
theorem aF5(a:Y_) (b:UInt8) (h:a.length≤100000000):q82 fuelH (((),a),b)=some (false,(),a++[b]):=by
 unfold q82 bJ bZ;rw[aB,aF (dD (by simp only[len,aE,aZA,aZS]; omega))];rfl
theorem aWL{s:Y_}(hs:s.length≤3900000):q83 fuelH s=some (un [] s):=by
 unfold q83;rw[bT]
 have h:=cU (s:=s) (fun (a:Y_) (i:Nat)=>((i:Int),((),a))) (fun a l=>some (un a l)) (fun i a=>a.length≤4*i)
  (F:=fun v2 (v3:Int×Unit×Y_) =>
  cnd (ilt v3.1 (len s))
   (grd (inb v3.1 (len s))
    (cnd (ieq (n8 (aA s (toN v3.1) (0:UInt8))) (n8 (60:UInt8)))
     (some (([]:Y_),(4:Int)))
     (cnd (ieq (n8 (aA s (toN v3.1) (0:UInt8))) (n8 (38:UInt8)))
      (grd (in2 v3.1 (len s))
       (bnd (q81 fuelH (cQ (toN v3.1) s)) fun v4 =>
       cnd (ine v4.2.2 (0:Int))
        (some (([]:Y_),v4.2.2))
        (bnd (q31 fuelH (((),v3.2.2),v4.1)) fun v5 =>
        v2 (w64 (aE v3.1 v4.2.1),(),v5.2.2.2))))
      (grd (inb v3.1 (len s))
       (bnd (q82 fuelH (((),v3.2.2),aA s (toN v3.1) (0:UInt8))) fun v6 =>
       v2 (w64 (aE v3.1 (1:Int)),(),v6.2.2))))))
   (some (v3.2.2,(0:Int)))) ?_ fuelH 0 [] (cV (by omega) 0) (bAK _) (by simp)
 ·exact h
 ·intro self a i hi hI hself
  by_cases hl:i<s.length
  ·have g:aA s (toN (i:Int)) (0:UInt8)=s[i]:=bA hl
   have hw:w64 (aE (i:Int) 1)=((i+1:Nat):Int):=aR hl (by omega)
   have hld:cQ (toN (i:Int)) s=s.drop i:=by simp[cQ,toN]
   rw[aXR hl,AT];show cnd (ilt (i:Int) (len s)) _ _=_;rw[aD (aV (by simp only[len]; omega)),aF (aY (by simp only[len]; omega)),g,hld]
   by_cases h60:s[i]=60
   ·rw[if_pos h60,aD (dJ (by rw[h60]))]
   rw[if_neg h60,aC (dA (fun k=>h60 (fG k)))]
   by_cases h38:s[i]=38
   ·rw[if_pos h38,aD (dJ (by rw[h38])),aF (mP (by simp only[len]; omega)),aXR hl,h38,aJO (by simp; omega),aB]
    by_cases he:(mH (s.drop (i+1))).2.2=0
    ·have ho:=U9 he
     have hle:(mH (s.drop (i+1))).1.length≤4:=by rw[ho.2.2.1]; exact UF _
     have hdl:(s.drop (i+1)).length=s.length-(i+1):=aZE
     rw[aC (cL he),if_neg (by simpa using he),mS _ _ (by show a.length+_≤_; omega),aB,ho.2.1]
     have e1:w64 (aE (i:Int) ((((s.drop (i+1)).takeWhile bE).length+2:Nat):Int))=((i+(((s.drop (i+1)).takeWhile bE).length+2):Nat):Int):=by
      simp only[aE];rw[bU (by omega)];omega
     rw[e1,aZY]
     have hz:=hself (a++(mH (s.drop (i+1))).1) (i+(((s.drop (i+1)).takeWhile bE).length+2)) (by omega) (by omega) (by rw[aYT]; omega)
     refine bAM hz ?_;congr 3;omega
    ·rw[aD (cA he),if_pos (by simpa using he)]
   ·rw[if_neg h38,aC (dA (fun k=>h38 (fG k))),aF (aY (by simp only[len]; omega)),aF5 _ _ (by show a.length≤_; omega),aB,hw];exact hself (a++[s[i]]) (i+1) (by omega) (by omega) (by simp; omega)
  ·obtain rfl:i=s.length:=by omega
   show cnd (ilt (s.length:Int) (len s)) _ _=_;rw[aC (aX (by simp only[len]; omega)),aZK];rfl
theorem aF6{R:Type}{s:Y_}(hs:s.length≤4000000) (P:UInt8→Bool) (g:UInt8→Option Bool) (hg:∀x,g x=some (P x)) (K:Int→Option R){i:Nat}(hi:i≤s.length) :
  bI (fun (v9:Int→Option R) (v10:Int)=>cnd (ilt v10 (len s)) (grd (inb v10 (len s)) (bnd (g (aA s (toN v10) (0:UInt8))) fun v5=>cnd v5 (v9 (w64 (aE v10 (1:Int)))) (K v10))) (K v10)) fuelH (i:Int)=K ((i+((s.drop i).takeWhile P).length:Nat):Int):=by
 refine aPJ P K (fun self k hk=>?_) (fun self=>?_) fuelH i (cV hs i) hi
 ·show cnd (ilt (k:Int) (len s)) _ _=_;rw[aD (aV (by simp only[len]; omega)),aF (aY (by simp only[len]; omega)),bA hk,hg,aB,aR hk (by omega),vJ]
 ·show cnd (ilt (s.length:Int) (len s)) _ _=_;rw[aC (aX (by simp only[len]; omega))]
theorem aLW{l h n:Int}(k:0≤l∧l≤h∧h≤n):in3 l h n=true:=decide_eq_true k
theorem AU(P:UInt8→Bool):∀l:Y_,l.take (l.takeWhile P).length=l.takeWhile P
 | []=>rfl
 |b::l=>by
  rw[aYS]
  split
  ·rw[aZA,aYO,AU P l]
  ·rfl
def nmX(s:Y_):Bool:=decide (1≤s.length)&&decide (s.length≤32)&&nX (s.getD 0 0)&&s.all nA
theorem aJP{x:UInt8}(h:nX x=true):nA x=true:=by unfold nA; rw[h]; rfl
def dI:Y_→Y_
 | []=>[]
 |b::l=>if nX b=true then b::l.takeWhile nA else []
theorem xW(b:UInt8) (l:Y_):dI (b::l)=if nX b=true then b::l.takeWhile nA else []:=rfl
theorem HY{s:Y_}(hs:s.length≤4000000):∀(fuel i:Nat),s.length-i<fuel→i≤s.length →
  bI (fun v3 (v4:Int)=>cnd (ilt v4 (len s)) (grd (inb v4 (len s)) (bnd (q58 fuelH (aA s (toN v4) (0:UInt8))) fun v5=>cnd (bO v5) (some false) (v3 (w64 (aE v4 (1:Int)))))) (some true)) fuel (i:Int)=some ((s.drop i).all nA)
 | 0,i,h,_=>by omega
 |fuel+1,i,h,hi=>by
  rw[gN]
  by_cases hl:i<s.length
  ·rw[aD (aV (by simp only[len]; omega)),aF (aY (by simp only[len]; omega)),bA hl,U5,aB,aR hl (by omega),HY hs fuel (i+1) (by omega) (by omega),aXR hl,aZ8];cases nA s[i]<;>rfl
  ·obtain rfl:i=s.length:=by omega
   rw[aC (aX (by simp only[len]; omega)),aZK];rfl
theorem AV(s:Y_):dV fuelH s=some (nmX s):=by
 unfold dV nmX
 by_cases h0:1≤s.length
 ·rw[aC (aX (by simp only[len]; omega)),decide_eq_true h0]
  by_cases h1:s.length≤32
  ·have hg:aA s (toN (0:Int)) (0:UInt8)=s.getD 0 0:=rfl
   rw[aC (aX (by simp only[len]; omega)),decide_eq_true h1,aF (aY (by simp only[len]; omega)),HV,aB,hg]
   by_cases h2:nX (s.getD 0 0)=true
   ·rw[h2,aC (by rfl),bT];exact HY (by omega) fuelH 0 (cV (by omega) 0) (bAK _)
   ·have h2:nX (s.getD 0 0)=false:=by simpa using h2
    rw[h2,aD (by rfl)];rfl
  ·rw[aD (aV (by simp only[len]; omega)),decide_eq_false h1];rfl
 ·rw[aD (aV (by simp only[len]; omega)),decide_eq_false h0];rfl
theorem M2:∀(s a:Y_),un a (esc s)=(a++s,0)
 | [],a=>by rw[show esc []=[] from rfl,M1,aZO]
 |b::s,a=>by
  rw[UB]
  have named:∀(c:Y_) (y:UInt8),c.all bE=true→zT c=([y],0)→un a ((38::(c++[59]))++esc s)=(a++[y]++s,0):=fun c y h1 h2=>by
   have hx:mH (c++59::esc s)=([y],((c.length+2:Nat):Int),0):=by rw[UC h1,h2]; rfl
   have e:(38::(c++[59]))++esc s=38::(c++59::esc s):=by simp
   rw[e,AT,if_neg (by decide),if_pos rfl,hx,if_neg (by simp),qT h1]
   have:(c++59::esc s).drop (c.length+1)=esc s:=by
    rw[show c++59::esc s=(c++[59])++esc s by simp];exact List.drop_left' (by simp)
   rw[this];exact M2 s _
  have done:∀y,(a++[y]++s,(0:Int))=(a++y::s,0):=fun y=>by simp
  rw[←done b];unfold FK
  by_cases h1:b=38
  ·subst h1; exact named [97,109,112] 38 (by rfl) (by rfl)
  by_cases h2:b=60
  ·subst h2; exact named [108,116] 60 (by rfl) (by rfl)
  by_cases h3:b=62
  ·subst h3; exact named [103,116] 62 (by rfl) (by rfl)
  by_cases h4:b=34
  ·subst h4; exact named [113,117,111,116] 34 (by rfl) (by rfl)
  by_cases h5:b=39
  ·subst h5; exact named [97,112,111,115] 39 (by rfl) (by rfl)
  rw[if_neg h1,if_neg h2,if_neg h3,if_neg h4,if_neg h5];show un a (b::esc s)=_;rw[AT,if_neg h2,if_neg h1];exact M2 s _
theorem OI(s:Y_):(esc s).length≤6*s.length:=nQ (fun b=>(SG b).2) s
abbrev Ln:=Y_
abbrev At:=Y_×Y_
abbrev Nd:=Y_×Y_×List At×Int
def ndz:Nd:=zN
def dep(n:Nd):Int:=n.2.2.2
def i64(x:Int):Prop:=-9223372036854775808≤x∧x≤9223372036854775807
theorem vO{l:List Nd}{i:Nat}(h:i<l.length):aA l (toN (i:Int)) zN=l[i]:=bA h
def wtA(a:At):Nat:=a.1.length+1+(a.2.length+1)
def wtN(n:Nd):Nat:=n.1.length+1+(n.2.1.length+1+(bkL wtA n.2.2.1+1+1))
structure smN (n:Nd):Prop where
 nm:n.1.length≤1090000
 tx:n.2.1.length≤1090000
 asz:n.2.2.1.length≤1090000
 an:∀a∈n.2.2.1,a.1.length≤1090000∧a.2.length≤1090000
theorem aLX{l:List Nd}(h:bkL wtN l≤1090000):∀n∈l,smN n:=fun n hn=>by
 have h1:n.1.length+1+(n.2.1.length+1+(bkL wtA n.2.2.1+1+1))≤bkL wtN l:=tU (f:=wtN) hn
 have h2:=NT (f:=wtA) (fun a=>by unfold wtA; omega) n.2.2.1
 refine⟨by omega,by omega,by omega,fun a ha=>?_⟩
 have h3:a.1.length+1+(a.2.length+1)≤bkL wtA n.2.2.1:=tU (f:=wtA) ha
 omega
def bS(name:Ln):List At→Ln×Bool
 | []=>([],false)
 |a::r=>if a.1=name then(a.2,true) else bS name r
theorem nZ{V R α β:Type}{F:(V→Option R)→V→Option R}{l:List α}(st:List β→Nat→V) (g:α→List β) (K:List β→Option R) (a0:List β){fuel:Nat}(hf:l.length<fuel)
  (hstep:∀self a i (h:i<l.length),(a++g l[i]).length≤(a0++l.flatMap g).length→F self (st a i)=self (st (a++g l[i]) (i+1)))
  (hend:∀self a,F self (st a l.length)=K a):bI F fuel (st a0 0)=K (a0++l.flatMap g):=by
 refine gU (n:=l.length) st (fun i a=>a=a0++(l.take i).flatMap g) _ (fun self a i h hI=>?_) (fun self a hI=>?_) fuel 0 a0 (bAK _) (by omega) (by simp)
 ·have e:a++g l[i]=a0++(l.take (i+1)).flatMap g:=by
   rw[hI,aXH h,List.flatMap_append];simp
  refine⟨_,hstep self a i h ?_,e⟩;rw[e]
  have:l=l.take (i+1)++l.drop (i+1):=(aX7 _ _).symm
  conv=>rhs; rw[this,List.flatMap_append,←aY3,aYT]
  omega
 ·rw[hend,hI,aZH]
theorem ED{n:Int}(h0:0≤n) (h1:n≤9223372036854775807):q52 fuelH n=some (dZ n):=by
 have e:q52 fuelH n=bnd (bnd (cS fuelH (n,10)) fun v0=>some v0) fun v0=>some v0:=rfl
 have e2:cS fuelH (n,10)=some (dZ n):=by
  show cY fuelH (n,10)=_;unfold cY;rw[aF (by rfl),aF (gT (by omega)),aF (gT (by omega))]
 rw[e,e2];rfl
theorem xX:∀(n u:Nat) (l:Y_),fK n u l=fK n u []++l
 | 0,_,_=>rfl
 |n+1,u,l=>by
  unfold fK aQ
  split
  ·rw[xX n _ (_::l),xX n _ [_]];simp
  ·rfl
def kO(a:At):List At:=if a.2=[] then [] else [a]
def fM(l:List At):List At:=l.flatMap kO
def OJ(b:Bool):Y_:=if b then [49] else []
theorem OK(N:Nat) (n:Y_) (b:Bool):q50 N (n,b)=some (n,OJ b):=by cases b<;>rfl
theorem lE{n:Y_}{k:Int}(h0:0≤k) (h1:k≤9223372036854775807):q53 fuelH (n,k)=some (n,dZ k):=by
 unfold q53;rw[bM (ED h0 h1)]
def elQ(depth:Int) (name:Y_) (l:List At):Nd:=(name,[],fM l,depth)
theorem UG(l:List At):(fM l).length≤l.length:=by
 unfold fM
 induction l with
 |nil=>simp
 |cons a l ih =>
  rw[List.flatMap_cons,aYT,aZA]
  have:(kO a).length≤1:=by unfold kO; split<;>simp
  omega
theorem lZ{t:List Nd}{depth:Int}{name:Y_}{l:List At}(ht:t.length≤1000000) (hl:l.length≤1000):q54 fuelH (t,depth,name,l)=some (t++[elQ depth name l]):=by
 unfold q54;rw[bT]
 have hk:=UG l
 refine bAM (nZ (l:=l) (fun a i=>((i:Int),name,([]:Y_),a,depth)) kO (fun a=>some (t++[(name,[],a,depth)])) [] (by have:=bG; omega) (fun self a i hi hle=>?_) (fun self a=>?_)) ?_
 ·have h2:(a++kO l[i]).length≤1000:=bAA hle (by simpa [fM] using bAA hk hl)
  rw[aYT] at h2;simp only;rw[aD (aV (by simp only[len]; omega)),aF (aY (by simp only[len]; omega)),bA hi];unfold kO at h2 ⊢
  by_cases hv:l[i].2=[]
  ·rw[aC (by rw[hv]; rfl),if_pos hv,aZO,aR hi (by omega)]
  ·rw[aD (by simp[sne,hv]),if_neg hv,aF (dD (by rw[if_neg hv] at h2; simp only[aE,len,aZA,aZS] at h2 ⊢; omega)),aR hi (by omega)];rfl
 ·simp only;rw[aC (aX (by simp only[len]; omega)),aF (dD (by simp only[aE,len,aZA,aZS]; omega))];rfl
 ·rfl
def EE(c:UInt8):Y_:=if c=0 then [] else aA gl1 c.toNat []
def sF(k:UInt8):Y_:=if k=1 then [68,73,65,76,79,71,85,69] else if k=2 then [83,79,85,78,68] else if k=3 then [84,73,84,76,69] else if k=4 then [77,85,83,73,67] else []
def oA(r:UInt8):Y_:=if r=1 then [50,51,46,57,55,54] else if r=2 then [50,52] else if r=3 then [50,53] else if r=4 then [50,57,46,57,55] else if r=5 then [51,48] else if r=6 then [53,48] else if r=7 then [53,57,46,57,52] else []
def sG(a:UInt8):Y_:=if a=1 then [76,69,70,84] else if a=2 then [67,69,78,84,69,82] else [82,73,71,72,84]
theorem aB5:((List.range 256).all fun n=>decide (q27 0 (UInt8.ofNat n)=some (sF (UInt8.ofNat n))∧aMY 0 (UInt8.ofNat n)=some (sF (UInt8.ofNat n))∧q49 0 (UInt8.ofNat n)=some (oA (UInt8.ofNat n))∧DK 0 (UInt8.ofNat n)=some (oA (UInt8.ofNat n))))=true:=by kernel_rfl
theorem UH(x:UInt8):q27 0 x=some (sF x)∧aMY 0 x=some (sF x)∧q49 0 x=some (oA x)∧DK 0 x=some (oA x) :=
 of_decide_eq_true (eN (P:=fun x=>decide (q27 0 x=some (sF x)∧aMY 0 x=some (sF x)∧q49 0 x=some (oA x)∧DK 0 x=some (oA x))) aB5 x)
theorem aJQ(N:Nat) (x:UInt8):q27 N x=some (sF x):=(UH x).1
theorem IA(N:Nat) (x:UInt8):q49 N x=some (oA x):=(UH x).2.2.1
def kL(u:Run):List At:=[([99,111,108,111,114],EE u.2.1.1),([105,116,97,108,105,99],OJ u.2.1.2.1),([117,110,100,101,114,108,105,110,101],OJ u.2.1.2.2),([114,117,98,121],u.2.2)]
def runN(u:Run):List Nd:=[elQ 3 [114,117,110] (kL u),([],u.1,[],4)]
def rowN(r:Row):List Nd:=elQ 2 [114,111,119] []::r.flatMap runN
def evA(e:Ev):List At:=[([105,100],dZ e.1),([105,110],dZ e.2.1.1++[102]),([111,117,116],dZ e.2.1.2++[102]),([114,101,103,105,111,110],e.2.2.1),([107,105,110,100],sF e.2.2.2.1),([115,112,101,97,107,101,114],e.2.2.2.2.1)]
def evN(e:Ev):List Nd:=elQ 1 [112] (evA e)::e.2.2.2.2.2.flatMap rowN
def kM(r:Reg):List At:=[([110,97,109,101],r.1),([116,111,112],dZ r.2.1),([104,101,105,103,104,116],dZ r.2.2.1),([108,101,102,116],dZ r.2.2.2.1),([119,105,100,116,104],dZ r.2.2.2.2.1),([97,108,105,103,110],sG r.2.2.2.2.2.1),([97,110,99,104,111,114],if r.2.2.2.2.2.2 then [66,79,84,84,79,77] else [84,79,80])]
def qW(r:Reg):List Nd:=[elQ 1 [114,101,103,105,111,110] (kM r)]
def mA(d:Doc):List At:=[([116,105,116,108,101],d.1),([108,97,110,103],d.2.1),([114,97,116,101],oA d.2.2.1),([100,114,111,112],OJ d.2.2.2.1),([108,97,115,116],dZ d.2.2.2.2.1)]
def jG(d:Doc):List Nd:=[elQ 0 [116,116] (mA d)]++d.2.2.2.2.2.1.flatMap qW++d.2.2.2.2.2.2.1.flatMap evN
structure NodOk (d:Doc):Prop where
 last:0≤d.2.2.2.2.1∧d.2.2.2.2.1≤1099511627776
 nreg:d.2.2.2.2.2.1.length≤16
 reg:∀r∈d.2.2.2.2.2.1,eA r=0
 nev:d.2.2.2.2.2.2.1.length≤400
 ev:∀e∈d.2.2.2.2.2.2.1,1≤e.1∧e.1≤1099511627776∧(0≤e.2.1.1∧e.2.1.1<e.2.1.2∧e.2.1.2≤5184000)∧e.2.2.2.2.2.length≤4∧∀l∈e.2.2.2.2.2,l.length≤16∧∀u∈l,n8 u.2.1.1≤6
theorem yY:∀(l:List Reg) (p:Option Reg),mR p l=0→∀r∈l,eA r=0
 | [],_,_,r,hr=>by cases hr
 |x::l,p,h,r,hr=>by
  simp only[mR] at h
  split at h
  ·rename_i hc; exact absurd h hc
  ·rename_i hc
   have hx:eA x=0:=by simpa using hc
   have tl:mR (some x) l=0:=by
    cases p with
    |none=>exact h
    |some q =>
     simp only at h
     split at h
     ·cases h
     ·split at h
      ·cases h
      ·exact h
   rcases aZ4.1 hr with rfl|hr
   ·exact hx
   ·exact yY l _ tl r hr
theorem oB{r:Reg}(h:eA r=0):nm r.1=true∧(0≤r.2.1∧r.2.1≤14)∧(1≤r.2.2.1∧r.2.2.1≤15-r.2.1)∧(0≤r.2.2.2.1∧r.2.2.2.1≤31)∧(1≤r.2.2.2.2.1∧r.2.2.2.2.1≤32-r.2.2.2.1)∧(1≤n8 r.2.2.2.2.2.1∧n8 r.2.2.2.2.2.1≤3):=by
 unfold eA at h
 split at h
 ·cases h
 rename_i c1
 split at h
 ·cases h
 rename_i c2
 split at h
 ·cases h
 rename_i c3
 split at h
 ·cases h
 rename_i c4
 split at h
 ·cases h
 rename_i c5
 split at h
 ·cases h
 rename_i c6;exact⟨by simpa using c1,Decidable.of_not_not c2,Decidable.of_not_not c3,Decidable.of_not_not c4,Decidable.of_not_not c5,Decidable.of_not_not c6⟩
theorem UI{l:Row}(h:qR l=0):mZ l=0:=by
 unfold qR at h
 split at h
 ·rename_i hc; exact absurd h hc
 ·rename_i hc; simpa using hc
theorem aF7{d:Doc}(h:cH d=0):jL d.2.2.2.2.2.1=0:=by
 unfold cH at h
 split at h
 ·rename_i hc; exact absurd h hc
 split at h
 ·rename_i hc; exact absurd h hc
 ·rename_i hc; simpa using hc
theorem EF{d:Doc}(h:cH d=0):0≤d.2.2.2.2.1∧d.2.2.2.2.1≤1099511627776:=by
 have h:=(lD h).1
 unfold iT at h
 split at h
 ·cases h
 split at h
 ·cases h
 split at h
 ·cases h
 split at h
 ·cases h
 split at h
 ·cases h
 split at h
 ·cases h
 omega
theorem OL{d:Doc}(h:tV d=0):∀e∈d.2.2.2.2.2.2.1,nT e d.2.2.2.2.2.1=0:=by
 intro e he;obtain⟨j,hj,rfl⟩:=List.mem_iff_getElem.1 he;exact(TV (HJ _ [] h j hj)).1
theorem yZ{d:Doc}(h:cH d=0):NodOk d:=by
 obtain⟨h1,h2,h3⟩:=lD h
 have h4:=aF7 h
 refine⟨EF h,?_,?_,h2,fun e he=>?_⟩
 ·unfold jL at h4
  split at h4
  ·cases h4
  ·omega
 ·unfold jL at h4
  split at h4
  ·cases h4
  ·exact yY _ _ h4
 ·obtain⟨q1,q2,q3,_,q4,q5,_⟩:=aFU (OL h3 e he);refine⟨q1,q2,q3,q4,fun l hl=>?_⟩;obtain⟨r1,r2⟩:=xS (UI (q5 l hl));exact⟨r1,fun u hu=>(r2 u hu).2.2.1⟩
theorem mB{α β:Type}{g:α→List β}{c:Nat}:∀(l:List α),(∀x∈l,(g x).length≤c)→(l.flatMap g).length≤l.length*c
 | [],_=>by simp
 |x::l,h=>by
  rw[List.flatMap_cons,aYT,aZA,bAH,bAI]
  have:=h x aYX
  have:=mB l fun y hy=>h y (aYE _ hy)
  omega
theorem aF8{r:Row}(h:r.length≤16):(rowN r).length≤33:=by
 have:=mB (g:=runN) (c:=2) r (fun _ _=>bAJ _)
 simp only[rowN,aZA];omega
theorem aJR{e:Ev}(h1:e.2.2.2.2.2.length≤4) (h2:∀l∈e.2.2.2.2.2,l.length≤16):(evN e).length≤133:=by
 have:=mB (g:=rowN) (c:=33) e.2.2.2.2.2 (fun l hl=>aF8 (h2 l hl))
 simp only[evN,aZA];omega
theorem aF9{d:Doc}(h:NodOk d):(jG d).length≤53217:=by
 have h1:=mB (g:=qW) (c:=1) d.2.2.2.2.2.1 (fun _ _=>bAJ _)
 have h2:=mB (g:=evN) (c:=133) d.2.2.2.2.2.2.1 (fun e he=>aJR (h.ev e he).2.2.2.1 fun l hl=>((h.ev e he).2.2.2.2 l hl).1)
 have:=h.nreg
 have:=h.nev
 simp only[jG,aYT,aZA,aZS];omega
theorem aB6:((List.range 256).all fun n=>!(decide (1≤n)&&decide (n≤3))||(decide (inb (n8 (b8 (aJ (n8 (UInt8.ofNat n)) (n8 (1:UInt8))))) (ofN 3)=true)&&decide (aA gl0 (toN (n8 (b8 (aJ (n8 (UInt8.ofNat n)) (n8 (1:UInt8)))))) []=sG (UInt8.ofNat n))&&decide (aA [[],[76,69,70,84],[67,69,78,84,69,82],[82,73,71,72,84]] (toN (n8 (UInt8.ofNat n))) []=sG (UInt8.ofNat n))))=true:=by kernel_rfl
theorem aGA{a:UInt8}(h1:1≤n8 a) (h2:n8 a≤3):inb (n8 (b8 (aJ (n8 a) (n8 (1:UInt8))))) (ofN 3)=true∧aA gl0 (toN (n8 (b8 (aJ (n8 a) (n8 (1:UInt8)))))) []=sG a∧aA [[],[76,69,70,84],[67,69,78,84,69,82],[82,73,71,72,84]] (toN (n8 a)) []=sG a:=by
 have h:=aZJ.1 aB6 a.toNat (List.mem_range.2 a.toNat_lt)
 have e:UInt8.ofNat a.toNat=a:=UInt8.ofNat_toNat
 rw[e] at h;unfold n8 at h1 h2
 have c1:decide (1≤a.toNat)=true:=decide_eq_true (by omega)
 have c2:decide (a.toNat≤3)=true:=decide_eq_true (by omega)
 rw[c1,c2] at h;simp only[Bool.and_self,Bool.not_true,aZ6,aZB,decide_eq_true_eq] at h;exact⟨h.1.1,h.1.2,h.2⟩
theorem gV{n:Int}(h0:0≤n):(dZ n).length≤20:=by
 obtain⟨m,rfl⟩:∃m:Nat,n=m:=⟨n.toNat,by omega⟩
 have key:∀(k u:Nat) (l:Y_),(fK k u l).length≤k+l.length:=by
  intro k
  induction k with
  |zero=>intro u l; simp[fK]
  |succ k ih =>
   intro u l;unfold fK aQ
   split
   ·have:=ih (u / 10) (UInt8.ofNat (48+u%10)::l)
    simp only[aZA] at this;omega
   ·simp only[aZA]; omega
 have:=key 20 m []
 exact this
theorem aGB{c:UInt8}(h:n8 c≤6){R:Type}(K:Y_→Option R):(jn K fun v=>cnd (ine (n8 c) (n8 (0:UInt8))) (grd (inb (n8 c) (ofN 7)) (v (aA gl1 (toN (n8 c)) []))) (v []))=K (EE c):=by
 rw[bT]
 by_cases hc:c=0
 ·subst hc;rw[aC (by rfl)];rfl
 ·have hn:n8 c≠0:=fun e=>hc (fG (by rw[e]; rfl))
  rw[aD (cA (show n8 c≠n8 0 from hn)),aF (aY (by have:=VY c; simp only[ofN]; omega))];unfold EE;rw[if_neg hc];rfl
def aGC(d:Doc):List Nd×Int:=if 8192<(jG d).length then([],9) else(jG d,0)
theorem M3{d:Doc}(hd:NodOk d) (hc:q48 fuelH d=some 0):q55 fuelH d=some (aGC d):=by
 have hN:=aF9 hd
 have hfu:=bG
 have hl:=hd.last
 unfold q55;rw[bM hc,aC (by rfl),bM (IA _ _),bM (OK _ _ _),bM (lE hl.1 (by omega)),bM (lZ (t:=[]) (by simp) (by simp)),bT];refine(nZ (l:=d.2.2.2.2.2.1) (fun a i=>((i:Int),a)) qW ?K [elQ 0 [116,116] (mA d)] (by have:=hd.nreg; omega) ?hs ?he).trans ?_
 case he =>
  intro self a;dsimp only;rw[aC (aX (by simp only[len]; omega))]
 case hs =>
  intro self a i hi hle
  have hr:=oB (hd.reg _ (aZL hi))
  have ha:(a++qW (d.2.2.2.2.2.1)[i]).length≤53217:=by
   refine bAA hle (bAA ?_ hN);unfold jG;simp only[aYT];omega
  rw[aYT] at ha
  have hnr:=hd.nreg
  dsimp only;rw[aD (aV (by simp only[len]; omega)),aF (aY (by simp only[len]; omega)),bA hi];obtain⟨al1,al2,_⟩:=aGA hr.2.2.2.2.2.1 hr.2.2.2.2.2.2
  have key:∀an:Y_,(if(d.2.2.2.2.2.1)[i].2.2.2.2.2.2 then [66,79,84,84,79,77] else [84,79,80])=an →
   (bnd (q53 fuelH ([116,111,112],(d.2.2.2.2.2.1)[i].2.1)) fun v33=>bnd (q53 fuelH ([104,101,105,103,104,116],(d.2.2.2.2.2.1)[i].2.2.1)) fun v34=>bnd (q53 fuelH ([108,101,102,116],(d.2.2.2.2.2.1)[i].2.2.2.1)) fun v35=>bnd (q53 fuelH ([119,105,100,116,104],(d.2.2.2.2.2.1)[i].2.2.2.2.1)) fun v36 =>
    grd (inb (n8 (b8 (aJ (n8 (d.2.2.2.2.2.1)[i].2.2.2.2.2.1) (n8 (1:UInt8))))) (ofN 3)) (bnd (q54 fuelH (a,(1:Int),[114,101,103,105,111,110],[([110,97,109,101],(d.2.2.2.2.2.1)[i].1),v33,v34,v35,v36,([97,108,105,103,110],aA gl0 (toN (n8 (b8 (aJ (n8 (d.2.2.2.2.2.1)[i].2.2.2.2.2.1) (n8 (1:UInt8)))))) []),([97,110,99,104,111,114],an)])) fun v37=>self (w64 (aE (i:Int) 1),v37)))=self (((i+1:Nat):Int),a++qW (d.2.2.2.2.2.1)[i]):=fun an han=>by
   rw[bM (lE hr.2.1.1 (by omega)),bM (lE (by omega) (by omega)),bM (lE hr.2.2.2.1.1 (by omega)),bM (lE (by omega) (by omega)),aF al1,al2,bM (lZ (by omega) (by simp)),aR hi (by omega),←han];rfl
  rw[bT]
  cases hb:(d.2.2.2.2.2.1)[i].2.2.2.2.2.2 with
  |true=>exact key _ (by rw[hb]; rfl)
  |false=>exact key _ (by rw[hb]; rfl)
 rw[bT];refine(nZ (l:=d.2.2.2.2.2.2.1) (fun a i=>((i:Int),a)) evN ?K2 _ (by have:=hd.nev; omega) ?hs2 ?he2).trans ?_
 case he2 =>
  intro self a;dsimp only;rw[aC (aX (by simp only[len]; omega))]
 case hs2 =>
  intro self a i hi hle;obtain⟨q1,q2,q3,q4,q5⟩:=hd.ev _ (aZL hi)
  have ha:(a++evN (d.2.2.2.2.2.2.1)[i]).length≤53217:=bAA hle hN
  rw[aYT] at ha
  have hnr:=hd.nev
  have hL1:=gV q3.1
  have hL2:=gV (n:=(d.2.2.2.2.2.2.1)[i].2.1.2) (by omega)
  dsimp only;rw[aD (aV (by simp only[len]; omega)),bT,aF (aY (by simp only[len]; omega)),bA hi,
   bM (lE (by omega) (by omega)),bM (ED q3.1 (by omega)),aF (gZ (by simp only[aE,len,aZA,aZS]; omega)),bM (ED (by omega) (by omega)),aF (gZ (by simp only[aE,len,aZA,aZS]; omega)),bM (aJQ _ _),bM (lZ (by omega) (by simp))]
  generalize hx:(d.2.2.2.2.2.2.1)[i]=x at *;refine(nZ (l:=x.2.2.2.2.2) (fun a i=>((i:Int),a)) rowN ?K3 _ (by omega) ?hs3 ?he3).trans ?_
  case he3 =>
   intro self2 a2;dsimp only;rw[aC (aX (by simp only[len]; omega))]
  case hs3 =>
   intro self2 a2 i2 hi2 hle2;obtain⟨r1,r2⟩:=q5 _ (aZL hi2)
   have ha2:(a2++rowN (x.2.2.2.2.2)[i2]).length≤53217:=by
    refine bAA hle2 (bAA ?_ ha);simp only[evN,aYT,aZA,aZS];omega
   rw[aYT] at ha2;dsimp only;rw[aD (aV (by simp only[len]; omega)),bT,aF (aY (by simp only[len]; omega)),bM (lZ (by omega) (by simp)),bA hi2];generalize hy:(x.2.2.2.2.2)[i2]=y at *;refine(nZ (l:=y) (fun a i=>((i:Int),a)) runN ?K4 _ (by omega) ?hs4 ?he4).trans ?_
   case he4 =>
    intro self3 a3;dsimp only;rw[aC (aX (by simp only[len]; omega))]
   case hs4 =>
    intro self3 a3 i3 hi3 hle3
    have hu:=r2 _ (aZL hi3)
    have ha3:(a3++runN y[i3]).length≤53217:=by
     refine bAA hle3 (bAA ?_ ha2);simp only[rowN,aYT,aZA,aZS];omega
    rw[aYT] at ha3;dsimp only;rw[aD (aV (by simp only[len]; omega)),aF (aY (by simp only[len]; omega)),bA hi3,aGB hu]
    have hlen:∀e:Nd,(a3++[e]).length=a3.length+1:=fun e=>by simp
    rw[bM (OK _ _ _),bM (OK _ _ _),bM (lZ (by omega) (by simp)),aF (dD (by simp only[aE,len,hlen,aZA,aZS]; omega)),aR hi3 (by omega)];show self3 (_,(a3++[elQ 3 [114,117,110] (kL y[i3])])++[([],y[i3].1,[],4)])=_;rw[aY3];rfl
   rw[aR hi2 (by omega),aY3];rfl
  rw[aR hi (by omega),aY3];rfl
 show cnd (ilt 8192 (len (jG d))) _ _=_;unfold aGC
 by_cases h8:8192<(jG d).length
 ·rw[aD (aV (by simp only[len]; omega)),if_pos h8]
 ·rw[aC (aX (by simp only[len]; omega)),if_neg h8];rfl
def atE:List Ln→List At→Int
 |_,[]=>0
 |seen,a::r=>if nmX a.1=false then 5 else if a.1∈seen then 7 else if vld a.2=false then 10 else atE (seen++[a.1]) r
def elE(n:Nd):Int:=if nmX n.1=false then 5 else if n.2.1≠[] then 4 else if 16<n.2.2.1.length then 9 else atE [] n.2.2.1
def xY(p:Option Nd) (n:Nd):Int:=match p with
 |none=>if dep n≠0 then 8 else 0
 |some q=>if dep n<1 then 8 else if(if q.1≠[] then dep q+1 else dep q)<dep n then 8 else if 15<dep n then 9 else 0
def txP(p:Option Nd) (n:Nd):Bool:=match p with
 |none=>true
 |some q=>decide (q.1=[]∧dep q=dep n)
def txE(p:Option Nd) (n:Nd):Int :=
 if txP p n=true then 8 else if n.2.1=[] then 4 else if 0<n.2.2.1.length then 4 else if vld n.2.1=false then 10 else 0
def ndE(p:Option Nd) (n:Nd):Int:=if xY p n≠0 then xY p n else if n.1≠[] then elE n else txE p n
def ckE:Option Nd→List Nd→Int
 |_,[]=>0
 |p,n::r=>if ndE p n≠0 then ndE p n else ckE (some n) r
def qX(l:List Nd):Int:=if l.length=0 then 6 else if 8192<l.length then 9 else ckE none l
theorem M4{m:List (Ln×Bool)}(h:∀x∈m,x.2=true) (k:Ln):nD seq false m k=decide (k∈m.map Prod.fst):=by
 induction m with
 |nil=>rfl
 |cons x m ih =>
  have ih:=ih fun y hy=>h y (aYE _ hy)
  have hx:=h x aYX
  unfold nD;rw[ih,hx,cB]
  by_cases e:k=x.1
  ·subst e; simp
  ·simp[e]
theorem M5{m:List (Ln×Bool)}{k:Ln}(h:k ∉ m.map Prod.fst):pH seq m k true=m++[(k,true)]:=by
 induction m with
 |nil=>rfl
 |cons x m ih =>
  simp only[aZ5,aZ4,not_or] at h;unfold pH
  have:seq k x.1=false:=by rw[cB]; simpa using h.1
  rw[this,ih h.2];rfl
theorem aJS{n:Nd}(hs:smN n):q59 fuelH n=some (elE n):=by
 unfold q59 elE;rw[AV,aB]
 by_cases h1:nmX n.1=true
 ·rw[h1,aC (by rfl),if_neg (by decide)]
  by_cases h2:n.2.1=[]
  ·rw[aC (by unfold sne; simpa using h2),if_neg (by simpa using h2)]
   by_cases h3:16<n.2.2.1.length
   ·rw[aD (aV (by simp only[len]; omega)),if_pos h3]
   rw[aC (aX (by simp only[len]; omega)),if_neg h3,bT];generalize ha:n.2.2.1=l at *
   have h:=cU (s:=l) (fun (m:List (Ln×Bool)) (j:Nat)=>((j:Int),m)) (fun m r=>some (atE (m.map Prod.fst) r)) (fun _ m=>∀x∈m,x.2=true)
    (F:=fun v3 (v4:Int×List (Y_×Bool)) =>
     cnd (ilt v4.1 (len l))
      (grd (inb v4.1 (len l))
       (bnd (dV fuelH (aA l (toN v4.1) ([],[])).1) fun v5 =>
       cnd (bO v5)
        (some (5:Int))
        (cnd (nD seq false v4.2 (aA l (toN v4.1) ([],[])).1)
         (some (7:Int))
         (bnd (q13 fuelH (aA l (toN v4.1) ([],[])).2) fun v6 =>
         cnd (bO v6)
          (some (10:Int))
          (v3 (w64 (aE v4.1 (1:Int)),pH seq v4.2 (aA l (toN v4.1) ([],[])).1 true))))))
      (some (0:Int))) ?_ fuelH 0 [] (cV (by omega) _) (bAK _) (by simp)
   ·exact h
   ·intro self m j hj hI hself
    by_cases hjl:j<l.length
    ·have hw:w64 (aE (j:Int) 1)=((j+1:Nat):Int):=aR hjl (by omega)
     have hsa:=hs.an l[j] (by rw[ha]; exact aZL hjl)
     rw[aXR hjl];show cnd (ilt (j:Int) (len l)) _ _=some (if nmX (l[j]).1=false then _ else _);rw[aD (aV (by simp only[len]; omega)),aF (aY (by simp only[len]; omega)),bA hjl,AV,aB,hw]
     by_cases e1:nmX (l[j]).1=true
     ·rw[e1,aC (by rfl),if_neg (by decide),M4 hI]
      by_cases e2:(l[j]).1∈m.map Prod.fst
      ·rw[aD (by simpa using e2),if_pos e2]
      ·rw[aC (by simpa using e2),if_neg e2,kB _ (by omega),aB]
       by_cases e3:vld (l[j]).2=true
       ·rw[e3,aC (by rfl),if_neg (by decide),M5 e2];refine bAM (hself (m++[((l[j]).1,true)]) (j+1) (by omega) (by omega) ?_) ?_
        ·intro x hx;rcases aZN.1 hx with hx|hx
         ·exact hI x hx
         ·simp at hx; rw[hx]
        ·simp
       ·have e3:vld (l[j]).2=false:=by simpa using e3
        rw[e3,aD (by rfl),if_pos rfl]
     ·have e1:nmX (l[j]).1=false:=by simpa using e1
      rw[e1,aD (by rfl),if_pos rfl]
    ·obtain rfl:j=l.length:=by omega
     show cnd (ilt (l.length:Int) (len l)) _ _=_;rw[aC (aX (by simp only[len]; omega)),aZK];rfl
  ·rw[aD (by unfold sne; simpa using h2),if_pos h2]
 ·have h1:nmX n.1=false:=by simpa using h1
  rw[h1,aD (by rfl),if_pos rfl]
def prv(l:List Nd) (i:Nat):Option Nd:=if i=0 then none else l[i-1]?
theorem mC{l:List Nd}{i:Nat}(hi:i<l.length):prv l (i+1)=some l[i]:=by
 unfold prv;rw[if_neg (by omega)];simp[hi]
theorem aGD{l:List Nd}(hl:l.length≤4000000){i:Nat}(hi:i<l.length) (hp:∀q,prv l i=some q→0≤dep q∧dep q≤15):q56 fuelH (l,(i:Int))=some (xY (prv l i) l[i]):=by
 unfold q56;show grd (inb (i:Int) (len l)) (cnd (ieq (i:Int) 0) (cnd (ine (aA l (toN (i:Int)) zN).2.2.2 0) _ _) _)=_;rw[aF (aY (by simp only[len]; omega)),vO hi]
 by_cases h0:i=0
 ·subst h0;rw[aD (by rfl)];show cnd (ine (dep l[0]) 0) _ _=some (if dep l[0]≠0 then(8:Int) else 0)
  by_cases e:dep l[0]=0
  ·rw[aC (cL e),if_neg (by simpa using e)]
  ·rw[aD (cA e),if_pos e]
 ·obtain⟨k,rfl⟩:∃k,i=k+1:=⟨i-1,by omega⟩
  have hq:=hp _ (mC (by omega))
  rw[aC (dA (by omega)),mC (by omega)]
  have hb:w64 (aJ ((k+1:Nat):Int) 1)=(k:Int):=nS (by omega)
  dsimp only
  have hg:inb (k:Int) (len l)=true:=aY (by simp only[len]; omega)
  rw[hb,vO (show k<l.length by omega),aF hg,bT,aF hg];show cnd (sne l[k].1 []) (cnd (ilt (dep l[k+1]) 1) (some 8) (cnd (ilt (w64 (aE (dep l[k]) 1)) (dep l[k+1])) (some 8) (cnd (ilt 15 (dep l[k+1])) (some 9) (some 0)))) (cnd (ilt (dep l[k+1]) 1) (some 8) (cnd (ilt (dep l[k]) (dep l[k+1])) (some 8) (cnd (ilt 15 (dep l[k+1])) (some 9) (some 0)))) =
   some (if dep l[k+1]<1 then(8:Int) else if(if l[k].1≠[] then dep l[k]+1 else dep l[k])<dep l[k+1] then 8 else if 15<dep l[k+1] then 9 else 0)
  have hw:w64 (aE (dep l[k]) 1)=dep l[k]+1:=by
   simp only[aE];rw[bU (by omega)]
  rw[hw];simp only[dH]
  by_cases e:l[k].1=[]
  ·rw[aC (by unfold sne; simpa using e)];simp only[e,ne_eq,not_true,if_false]
   repeat' split
   all_goals rfl
  ·rw[aD (by unfold sne; simpa using e)];simp only[e,ne_eq,not_false_eq_true,if_true]
   repeat' split
   all_goals rfl
theorem aJT{l:List Nd}(hl:l.length≤4000000){i:Nat}(hi:i<l.length) (hs:smN l[i]):q60 fuelH (l,(i:Int))=some (txE (prv l i) l[i]):=by
 have fin:∀b:Bool,(cnd b (some (8:Int)) (cnd (seq l[i].2.1 []) (some (4:Int)) (cnd (ilt 0 (len l[i].2.2.1)) (some (4:Int)) (bnd (q13 fuelH l[i].2.1) fun v1=>cnd (bO v1) (some (10:Int)) (some (0:Int)))))) =
   some (if b=true then 8 else if l[i].2.1=[] then 4 else if 0<l[i].2.2.1.length then 4 else if vld l[i].2.1=false then 10 else 0):=fun b=>by
  cases b with
  |true=>rfl
  |false =>
   rw[aC (by rfl),if_neg (by decide)]
   by_cases h1:l[i].2.1=[]
   ·rw[aD (by rw[cX]; exact h1),if_pos h1]
   rw[aC (by rw[cB]; simpa using h1),if_neg h1]
   by_cases h2:0<l[i].2.2.1.length
   ·rw[aD (aV (by simp only[len]; omega)),if_pos h2]
   rw[aC (aX (by simp only[len]; omega)),if_neg h2,kB _ (by have:=hs.tx; omega),aB];cases vld l[i].2.1<;>rfl
 unfold q60;dsimp only;rw[aF (aY (by simp only[len]; omega)),bT];simp only[vO hi]
 by_cases h0:i=0
 ·subst h0;rw[aD (by rfl)];refine bAM (fin true) ?_;rfl
 ·obtain⟨k,rfl⟩:∃k,i=k+1:=⟨i-1,by omega⟩
  have hb:w64 (aJ ((k+1:Nat):Int) 1)=(k:Int):=nS (by omega)
  have hg:inb (k:Int) (len l)=true:=aY (by simp only[len]; omega)
  rw[aC (dA (by omega)),mC (by omega),hb,aF hg,aF hg,vO (show k<l.length by omega)];unfold txE
  by_cases e:l[k].1=[]
  ·rw[aD (by rw[cX]; exact e)];refine bAM (fin _) ?_
   have hc:ieq l[k].2.2.2 l[k+1].2.2.2=txP (some l[k]) l[k+1]:=by
    unfold txP;rw[aZX,qP,decide_eq_true_eq];exact⟨fun h=>⟨e,h⟩,fun h=>h.2⟩
   rw[hc]
  ·rw[aC (by rw[cB]; simpa using e)];refine bAM (fin _) ?_
   have hc:txP (some l[k]) l[k+1]=false:=by
    unfold txP;exact decide_eq_false fun h=>e h.1
   rw[hc]
theorem OM{p:Option Nd}{n:Nd}(h:xY p n=0):0≤dep n∧dep n≤15:=by
 unfold xY at h
 cases p with
 |none =>
  simp only at h
  split at h
  ·cases h
  ·rename_i k; simp at k; omega
 |some q =>
  simp only at h
  repeat' split at h
  all_goals (first|(cases h; done)|omega)
theorem mT{p:Option Nd}{n:Nd}(h:ndE p n=0):xY p n=0:=by
 unfold ndE at h
 by_cases e:xY p n=0
 ·exact e
 ·rw[if_pos e] at h;exact h
theorem UJ{l:List Nd}(hl:l.length≤4000000) (hs:∀n∈l,smN n):q61 fuelH l=some (qX l):=by
 unfold q61 qX
 by_cases h0:l.length=0
 ·rw[aD (dJ (by simp only[len]; omega)),if_pos h0]
 rw[aC (dA (by simp only[len]; omega)),if_neg h0]
 by_cases h1:8192<l.length
 ·rw[aD (aV (by simp only[len]; omega)),if_pos h1]
 rw[aC (aX (by simp only[len]; omega)),if_neg h1,bT]
 have h:=cU (s:=l) (fun (_:Unit) (j:Nat)=>(j:Int)) (fun _ r=>some (ckE (prv l (l.length-r.length)) r)) (fun j _=>∀q,prv l j=some q→0≤dep q∧dep q≤15)
  (F:=fun v2 (v3:Int) =>
    cnd (ilt v3 (len l))
     (grd (inb v3 (len l))
      (bnd (q56 fuelH (l,v3)) fun v4 =>
      cnd (ine v4 (0:Int))
       (some v4)
       (cnd (sne (aA l (toN v3) zN).1 ([]:Y_))
        (bnd (q59 fuelH (aA l (toN v3) zN)) fun v5 =>
        cnd (ine v5 (0:Int))
         (some v5)
         (v2 (w64 (aE v3 (1:Int)))))
        (bnd (q60 fuelH (l,v3)) fun v6 =>
        cnd (ine v6 (0:Int))
         (some v6)
         (v2 (w64 (aE v3 (1:Int))))))))
     (some (0:Int))) ?_ fuelH 0 () (cV hl _) (bAK _) (fun q hq=>by simp[prv] at hq)
 ·refine bAM h ?_;rw[aZZ,bAG];rfl
 ·intro self a j hj hI hself
  by_cases hjl:j<l.length
  ·have hw:w64 (aE (j:Int) 1)=((j+1:Nat):Int):=aR hjl (by omega)
   have hrl:l.length-(l.drop j).length=j:=by rw[aZE]; omega
   have hrl2:l.length-(l.drop (j+1)).length=j+1:=by rw[aZE]; omega
   have hsm:=hs _ (aZL hjl)
   have hgo:xY (prv l j) l[j]=0→self ((j+1:Nat):Int)=some (ckE (some l[j]) (l.drop (j+1))):=fun hd=>by
    refine bAM (hself () (j+1) (by omega) (by omega) (fun q hq=>?_)) ?_
    ·rw[mC hjl] at hq;injection hq with hq;rw[←hq];exact OM hd
    ·rw[hrl2,mC hjl]
   rw[hrl,aXR hjl];show cnd (ilt (j:Int) (len l)) _ _=some (if ndE (prv l j) l[j]≠0 then ndE (prv l j) l[j] else ckE (some l[j]) (l.drop (j+1)));rw[aD (aV (by simp only[len]; omega)),aF (aY (by simp only[len]; omega)),aGD hl hjl hI,aB,vO hjl,aJS hsm,aJT hl hjl hsm,aB,aB,hw];unfold ndE
   by_cases e1:xY (prv l j) l[j]=0
   ·rw[aC (cL e1),if_neg (show ¬xY (prv l j) l[j]≠0 from fun k=>k e1)]
    by_cases e2:l[j].1=[]
    ·rw[aC (by unfold sne; simpa using e2),if_neg (show ¬l[j].1≠[] from fun k=>k e2)]
     by_cases e3:txE (prv l j) l[j]=0
     ·rw[aC (cL e3),if_neg (fun k=>k e3)];exact hgo e1
     ·rw[aD (cA e3),if_pos e3]
    ·rw[aD (by unfold sne; simpa using e2),if_pos e2]
     by_cases e3:elE l[j]=0
     ·rw[aC (cL e3),if_neg (fun k=>k e3)];exact hgo e1
     ·rw[aD (cA e3),if_pos e3]
   ·rw[aD (cA e1),if_pos e1,if_pos e1]
  ·obtain rfl:j=l.length:=by omega
   show cnd (ilt (l.length:Int) (len l)) _ _=_;rw[aC (aX (by simp only[len]; omega)),aZK];rfl
end
end Go.Mo
end

section
set_option linter.all false
namespace Go.Mo
open Go Go.W Go.Lib
set_option maxRecDepth 100000
noncomputable section
open Classical
theorem aLY:∀(r:List Nd) (p:Option Nd),ckE p r=0→∀j (h:j<r.length),ndE (if j=0 then p else r[j-1]?) r[j]=0
 | [],_,_,j,h=>by simp at h
 |n::r,p,hc,j,h=>by
  have hc':(if ndE p n≠0 then ndE p n else ckE (some n) r)=0:=hc
  by_cases e:ndE p n=0
  ·rw[if_neg (fun k=>k e)] at hc'
   cases j with
   |zero=>exact e
   |succ j =>
    have:=aLY r (some n) hc' j (by simpa using h)
    rw[if_neg (by omega)]
    cases j with
    |zero=>simpa using this
    |succ j=>simpa using this
  ·rw[if_pos e] at hc';exact absurd hc' e
theorem xZ{l:List Nd}(h:qX l=0):0<l.length∧l.length≤8192∧∀j (h:j<l.length),ndE (prv l j) l[j]=0:=by
 unfold qX at h
 by_cases h0:l.length=0
 ·rw[if_pos h0] at h; cases h
 rw[if_neg h0] at h
 by_cases h1:8192<l.length
 ·rw[if_pos h1] at h; cases h
 rw[if_neg h1] at h;exact⟨by omega,by omega,fun j hj=>aLY l none h j hj⟩
structure Deep (l:List Nd):Prop where
 root:∀h:0<l.length,dep l[0]=0
 low:∀i (h:i+1<l.length),1≤dep l[i+1]∧dep l[i+1]≤dep l[i]+1∧(dep l[i]<dep l[i+1]→l[i].1≠[])
 high:∀i (h:i<l.length),0≤dep l[i]∧dep l[i]≤15
theorem ON{l:List Nd}(h:∀j (h:j<l.length),ndE (prv l j) l[j]=0):Deep l:=by
 refine⟨fun h0=>?_,fun i hi=>?_,fun i hi=>OM (mT (h i hi))⟩
 ·have:=mT (h 0 h0)
  have:(if dep l[0]≠0 then(8:Int) else 0)=0:=this
  by_cases e:dep l[0]=0
  ·exact e
  ·rw[if_pos e] at this; cases this
 ·have:=mT (h (i+1) hi)
  rw[mC (by omega)] at this
  have:(if dep l[i+1]<1 then(8:Int) else if(if l[i].1≠[] then dep l[i]+1 else dep l[i])<dep l[i+1] then 8 else if 15<dep l[i+1] then 9 else 0)=0:=this
  by_cases e1:dep l[i+1]<1
  ·rw[if_pos e1] at this; cases this
  rw[if_neg e1] at this
  by_cases e2:(if l[i].1≠[] then dep l[i]+1 else dep l[i])<dep l[i+1]
  ·rw[if_pos e2] at this; cases this
  by_cases e3:l[i].1=[]
  ·rw[if_neg (fun k=>k e3)] at e2;exact⟨by omega,by omega,fun k=>by omega⟩
  ·rw[if_pos e3] at e2;exact⟨by omega,by omega,fun _=>e3⟩
def par(l:List Nd) (i j:Nat):Prop:=i<j∧j<l.length∧(∀m,i<m→m≤j→dep (l.getD i ndz)<dep (l.getD m ndz))∧dep (l.getD j ndz)=dep (l.getD i ndz)+1
theorem gD{l:List Nd}{i:Nat}(h:i<l.length):l.getD i ndz=l[i]:=by simp[List.getD,h]
end
end Go.Mo
end

section
set_option linter.all false
namespace Go.Mo
open Go Go.W Go.Lib
set_option maxRecDepth 100000
noncomputable section
abbrev Ls:=Y_
abbrev Aq:=Y_×Y_
abbrev Tok:=Int×Y_×List Aq×Y_
theorem OO{s:Ls}(hs:s.length≤4000000){i:Nat}(hi:i≤s.length):eL fuelH (s,(i:Int))=some (dI (s.drop i),((i+(dI (s.drop i)).length:Nat):Int)):=by
 unfold eL;dsimp only
 by_cases hl:i<s.length
 ·have g:aA s (toN (i:Int)) (0:UInt8)=s[i]:=bA hl
  rw[aC (kA (by simp only[len]; omega)),aF (aY (by simp only[len]; omega)),g,HV,aB,aXR hl,xW]
  by_cases h:nX s[i]=true
  ·rw[h,aC (by rfl),if_pos rfl,bT];refine bAM (aF6 hs nA (fun x=>q58 fuelH x) (fun x=>U5 fuelH x) _ hi) ?_
   have ht:=kK (P:=nA) (s.drop (i+1))
   rw[aZE] at ht;rw[aXR hl,aYS,if_pos (aJP h)]
   have hin:in3 (i:Int) ((i+(s[i]::(s.drop (i+1)).takeWhile nA).length:Nat):Int) (len s)=true:=aLW (by simp only[len,aZA]; omega)
   rw[aF hin];simp only[cQ,bL,toN,aY8];rw[List.drop_take,show i+(s[i]::(s.drop (i+1)).takeWhile nA).length-i=(s[i]::(s.drop (i+1)).takeWhile nA).length by omega,aXR hl,aZA,aYO,AU]
  ·have h:nX s[i]=false:=by simpa using h
   rw[h,aD (by rfl),if_neg (by decide)];rfl
 ·obtain rfl:i=s.length:=by omega
  rw[aD (gT (by simp only[len]; omega)),aZK];rfl
theorem rT{s:Ls}(hs:s.length≤4000000){i:Nat}(hi:i≤s.length):q77 fuelH (s,(i:Int))=some ((i+((s.drop i).takeWhile wsB).length:Nat):Int):=by
 unfold q77;dsimp only;rw[bT];exact aF6 hs wsB (fun x=>q76 fuelH x) (fun x=>aFY fuelH x) _ hi
def skp(t:Ls):Ls:=t.drop (t.takeWhile wsB).length
theorem kV(t:Ls):(skp t).length≤t.length:=by unfold skp; rw[aZE]; omega
theorem OP{s:Ls}{i:Nat}:skp (s.drop i)=s.drop (i+((s.drop i).takeWhile wsB).length):=by unfold skp; rw[aZY]
def OQ(q:UInt8) (t:Ls):Option (Ls×Ls):=match t.drop (t.takeWhile fun b=>b != q&&b != 60).length with
 | []=>none
 |c::r=>if c=q then some (t.takeWhile fun b=>b != q&&b != 60,r) else none
def iU(t:Ls):Option (Aq×Ls) :=
 if dI t=[] then none else match skp (t.drop (dI t).length) with
 | []=>none
 |b::r2=>if b=61 then(match skp r2 with
  | []=>none
  |q::r4=>if q=34∨q=39 then(match OQ q r4 with
   |some (v,r5)=>some ((dI t,v),r5)
   |none=>none) else none) else none
theorem EG(t:Ls):(dI t).length≤t.length:=by
 match t with
 | []=>exact bAJ _
 |b::l =>
  rw[xW]
  have:=kK (P:=nA) l
  split
  ·simp; omega
  ·simp
theorem UK{q:UInt8}{t v r:Ls}(h:OQ q t=some (v,r)):r.length<t.length∧v.length+1+r.length=t.length:=by
 unfold OQ at h
 have hl:=congrArg List.length (OH (fun b=>b != q&&b != 60) t)
 rw[aYT] at hl
 split at h
 ·cases h
 ·rename_i c r' hc
  split at h
  ·injection h with h;injection h with h1 h2;rw[hc,aZA] at hl;subst h1;subst h2;exact⟨by omega,by omega⟩
  ·cases h
theorem oC{t r:Ls}{a:Aq}(h:iU t=some (a,r)):r.length<t.length:=by
 unfold iU at h
 split at h
 ·cases h
 split at h
 ·cases h
 rename_i b r2 h2
 split at h
 ·split at h
  ·cases h
  rename_i q r4 h4
  split at h
  ·split at h
   ·rename_i v r5 h5;injection h with h;injection h with _ h;subst h
    have e1:=UK h5
    have e2:=kV r2
    have e3:=kV (t.drop (dI t).length)
    rw[h4,aZA] at e2;rw[h2,aZA,aZE] at e3;omega
   ·cases h
  ·cases h
 ·cases h
theorem AW(t:Ls):∃u,u++skp t=t:=⟨_,aX7 _ t⟩
theorem aGE{q:UInt8}{t v r:Ls}(h:OQ q t=some (v,r)):t=v++q::r:=by
 unfold OQ at h
 have hl:=OH (fun b=>b != q&&b != 60) t
 split at h
 ·cases h
 ·rename_i c r' hc
  split at h
  ·rename_i e;injection h with h;injection h with h1 h2;rw[hc,h1,h2,e] at hl;exact hl.symm
  ·cases h
theorem IB{t r:Ls}{a:Aq}(h:iU t=some (a,r)):∃u,u++r=t:=by
 unfold iU at h
 split at h
 ·cases h
 split at h
 ·cases h
 rename_i b r2 h2
 split at h
 ·split at h
  ·cases h
  rename_i q r4 h4
  split at h
  ·split at h
   ·rename_i v r5 h5;injection h with h;injection h with _ h;subst h
    have e1:=aGE h5
    obtain⟨u2,e2⟩:=AW r2;obtain⟨u3,e3⟩:=AW (t.drop (dI t).length);refine⟨t.take (dI t).length++(u3++(b::(u2++(q::(v++[q]))))),?_⟩
    conv=>rhs; rw[←aX7 (dI t).length t,←e3,h2,←e2,h4,e1]
    simp
   ·cases h
  ·cases h
 ·cases h
def aGF(s:Ls):Option (Aq×Ls)→Aq×Int×Bool
 |some (a,r)=>(a,((s.length-r.length:Nat):Int),true)
 |none=>((([]:Y_),([]:Y_)),(0:Int),false)
theorem EH(s:Ls) (a:Aq) (r:Ls):aGF s (some (a,r))=(a,((s.length-r.length:Nat):Int),true):=rfl
theorem aGG{R:Type}{s:Ls}(hs:s.length≤4000000){k2:Nat}(h4:k2<s.length) (K:Int→Option R) :
  bI (fun (v6:Int→Option R) (v7:Int) =>
       cnd (ilt v7 (len s))
        (grd (inb v7 (len s))
         (grd (inb (k2:Int) (len s))
          (cnd (ine (n8 (aA s (toN v7) (0:UInt8))) (n8 s[k2]))
           (grd (inb v7 (len s))
            (cnd (ine (n8 (aA s (toN v7) (0:UInt8))) (n8 (60:UInt8)))
             (v6 (w64 (aE v7 (1:Int))))
             (K v7)))
           (K v7))))
        (K v7)) fuelH ((k2+1:Nat):Int)=K ((k2+1+((s.drop (k2+1)).takeWhile fun b=>b != s[k2]&&b != 60).length:Nat):Int):=by
 have hin2:inb (k2:Int) (len s)=true:=aY (by simp only[len]; omega)
 refine aPJ (s:=s) (fun b=>b != s[k2]&&b != 60) K (fun self k hk=>?_) (fun self=>?_) fuelH (k2+1) (cV hs _) (by omega)
 ·have hink:inb (k:Int) (len s)=true:=aY (by simp only[len]; omega)
  rw[aD (aV (by simp only[len]; omega)),aF hink,aF hin2,bA hk,aR hk (by omega),aF hink]
  by_cases e1:s[k]=s[k2]
  ·rw[aC (cL (by rw[e1])),if_neg (by simp[e1])]
  ·rw[aD (cA (fun q=>e1 (fG q)))]
   by_cases e2:s[k]=60
   ·rw[aC (cL (by rw[e2])),if_neg (by simp[e2])]
   ·rw[aD (cA (fun q=>e2 (fG q))),if_pos (by simp[e1,e2])]
 ·rw[aC (aX (by simp only[len]; omega))]
theorem UL{s:Ls}(hs:s.length≤3999999){i:Nat}(hi:i≤s.length):q78 fuelH (s,(i:Int))=some (aGF s (iU (s.drop i))):=by
 have hs4:s.length≤4000000:=by omega
 unfold q78 iU;dsimp only;rw[OO hs4 hi,aB]
 have hnl:=EG (s.drop i)
 rw[aZE] at hnl
 by_cases h1:dI (s.drop i)=[]
 ·rw[aD (by rw[cX]; exact h1),if_pos h1];rfl
 rw[aC (by rw[cB]; simpa using h1),if_neg h1];dsimp only;rw[rT hs4 (show i+(dI (s.drop i)).length≤s.length by omega),aB,aZY,OP]
 have ht1:=kK (P:=wsB) (s.drop (i+(dI (s.drop i)).length))
 rw[aZE] at ht1;generalize hk1:i+(dI (s.drop i)).length+((s.drop (i+(dI (s.drop i)).length)).takeWhile wsB).length=k1 at *
 have hk1l:k1≤s.length:=by omega
 by_cases h2:k1<s.length
 ·have g:aA s (toN (k1:Int)) (0:UInt8)=s[k1]:=bA h2
  rw[aC (kA (by simp only[len]; omega)),aF (aY (by simp only[len]; omega)),g,aXR h2];dsimp only
  by_cases h3:s[k1]=61
  ·rw[aC (cL (by rw[h3])),if_pos h3,aR h2 (by omega),rT hs4 (show k1+1≤s.length by omega),aB,bT,OP]
   have ht2:=kK (P:=wsB) (s.drop (k1+1))
   rw[aZE] at ht2;generalize hk2:k1+1+((s.drop (k1+1)).takeWhile wsB).length=k2 at *
   by_cases h4:k2<s.length
   ·have g2:aA s (toN (k2:Int)) (0:UInt8)=s[k2]:=bA h4
    have hin2:inb (k2:Int) (len s)=true:=aY (by simp only[len]; omega)
    rw[aC (kA (by simp only[len]; omega)),aF hin2,aXR h4];dsimp only;rw[bT,aR h4 (by omega)];simp only[g2]
    -- the value
    have hv:(bI (fun v6 (v7:Int) =>
       cnd (ilt v7 (len s))
        (grd (inb v7 (len s))
         (grd (inb (k2:Int) (len s))
          (cnd (ine (n8 (aA s (toN v7) (0:UInt8))) (n8 s[k2]))
           (grd (inb v7 (len s))
            (cnd (ine (n8 (aA s (toN v7) (0:UInt8))) (n8 (60:UInt8)))
             (v6 (w64 (aE v7 (1:Int))))
             ((fun (v4:Int) =>
       cnd (ile (len s) v4)
        (some ((([]:Y_),([]:Y_)),(0:Int),false))
        (grd (inb v4 (len s))
         (grd (inb (k2:Int) (len s))
          (cnd (ine (n8 (aA s (toN v4) (0:UInt8))) (n8 s[k2]))
           (some ((([]:Y_),([]:Y_)),(0:Int),false))
           (grd (in3 ((k2+1:Nat):Int) v4 (len s))
            (some ((dI (s.drop i),cQ (toN ((k2+1:Nat):Int)) (bL (toN v4) s)),w64 (aE v4 (1:Int)),true))))))) v7)))
           ((fun (v4:Int) =>
       cnd (ile (len s) v4)
        (some ((([]:Y_),([]:Y_)),(0:Int),false))
        (grd (inb v4 (len s))
         (grd (inb (k2:Int) (len s))
          (cnd (ine (n8 (aA s (toN v4) (0:UInt8))) (n8 s[k2]))
           (some ((([]:Y_),([]:Y_)),(0:Int),false))
           (grd (in3 ((k2+1:Nat):Int) v4 (len s))
            (some ((dI (s.drop i),cQ (toN ((k2+1:Nat):Int)) (bL (toN v4) s)),w64 (aE v4 (1:Int)),true))))))) v7))))
        ((fun (v4:Int) =>
       cnd (ile (len s) v4)
        (some ((([]:Y_),([]:Y_)),(0:Int),false))
        (grd (inb v4 (len s))
         (grd (inb (k2:Int) (len s))
          (cnd (ine (n8 (aA s (toN v4) (0:UInt8))) (n8 s[k2]))
           (some ((([]:Y_),([]:Y_)),(0:Int),false))
           (grd (in3 ((k2+1:Nat):Int) v4 (len s))
            (some ((dI (s.drop i),cQ (toN ((k2+1:Nat):Int)) (bL (toN v4) s)),w64 (aE v4 (1:Int)),true))))))) v7)) fuelH ((k2+1:Nat):Int))=some (aGF s (match OQ s[k2] (s.drop (k2+1)) with
   |some (v,r5)=>some ((dI (s.drop i),v),r5)
   |none=>none)):=by
     refine bAM (aGG hs4 h4 _) ?_
     have htl:=kK (P:=fun b=>b != s[k2]&&b != 60) (s.drop (k2+1))
     rw[aZE] at htl;unfold OQ
     have hd:(s.drop (k2+1)).drop ((s.drop (k2+1)).takeWhile fun b=>b != s[k2]&&b != 60).length=s.drop (k2+1+((s.drop (k2+1)).takeWhile fun b=>b != s[k2]&&b != 60).length):=aZY
     have htk:=AU (fun b=>b != s[k2]&&b != 60) (s.drop (k2+1))
     rw[hd];generalize (s.drop (k2+1)).takeWhile (fun b=>b != s[k2]&&b != 60)=v at *
     by_cases h5:k2+1+v.length<s.length
     ·rw[aC (kA (by simp only[len]; omega)),aF (aY (by simp only[len]; omega)),aF hin2,bA h5,aXR h5];dsimp only
      by_cases e:s[k2+1+v.length]=s[k2]
      ·rw[aC (cL (by rw[e])),aF (aLW (by simp only[len]; omega)),if_pos e,aR h5 (by omega)]
       have e1:cQ (toN ((k2+1:Nat):Int)) (bL (toN ((k2+1+v.length:Nat):Int)) s)=v:=by
        simp only[cQ,bL,toN,aY8];rw[List.drop_take,show k2+1+v.length-(k2+1)=v.length by omega,htk]
       dsimp only;rw[e1,EH,aZE]
       have e2:s.length-(s.length-(k2+1+v.length+1))=k2+1+v.length+1:=by omega
       rw[e2]
      ·rw[aD (cA (fun q=>e (fG q))),if_neg e];rfl
     ·have e:k2+1+v.length=s.length:=by omega
      rw[aD (gT (by simp only[len]; omega)),e,aZK];rfl
    by_cases q1:s[k2]=34
    ·rw[aC (cL (by rw[q1])),if_pos (Or.inl q1)];exact hv
    ·rw[aD (cA (fun q=>q1 (fG q))),aF hin2]
     by_cases q2:s[k2]=39
     ·rw[aC (cL (by rw[q2])),if_pos (Or.inr q2)];exact hv
     ·rw[aD (cA (fun q=>q2 (fG q))),if_neg (by simp[q1,q2])];rfl
   ·have e:k2=s.length:=by omega
    rw[aD (gT (by simp only[len]; omega)),e,aZK];rfl
  ·rw[aD (cA (fun q=>h3 (fG q))),if_neg h3];rfl
 ·have e:k1=s.length:=by omega
  rw[aD (gT (by simp only[len]; omega)),e,aZK];rfl
def yA:Nat→Ls→List Aq→Option (Int×List Aq×Ls)
 | 0,_,_=>none
 |n+1,t,l=>match skp t with
  | []=>none
  |b::r=>if b=62 then some (1,l,r) else if b=47∧r.take 1=[62] then some (3,l,r.drop 1) else if(b::r).length=t.length then none else match iU (b::r) with
   |none=>none
   |some (a,r2)=>yA n r2 (l++[a])
theorem IC:∀(n m:Nat) (t:Ls) (l:List Aq),t.length<n→t.length<m→yA n t l=yA m t l
 | 0,_,_,_,h,_=>by omega
 |_+1,0,_,_,_,h=>by omega
 |n+1,m+1,t,l,h1,h2=>by
  have hk:=kV t
  unfold yA;generalize skp t=u at *
  match u with
  | []=>rfl
  |b::r =>
   dsimp only
   split
   ·rfl
   split
   ·rfl
   split
   ·rfl
   cases ha:iU (b::r) with
   |none=>rfl
   |some p =>
    obtain⟨a,r2⟩:=p
    have:=oC ha
    exact IC n m r2 (l++[a]) (by omega) (by omega)
def UM(t:Ls) (l:List Aq):Option (Int×List Aq×Ls):=yA (t.length+1) t l
theorem yB(t:Ls) (l:List Aq):UM t l=match skp t with
  | []=>none
  |b::r=>if b=62 then some (1,l,r) else if b=47∧r.take 1=[62] then some (3,l,r.drop 1) else if(b::r).length=t.length then none else match iU (b::r) with
   |none=>none
   |some (a,r2)=>UM r2 (l++[a]):=by
 have hk:=kV t
 show yA (t.length+1) t l=_;unfold yA;generalize skp t=u at *
 match u with
 | []=>rfl
 |b::r =>
  dsimp only
  split
  ·rfl
  split
  ·rfl
  split
  ·rfl
  cases ha:iU (b::r) with
  |none=>rfl
  |some p =>
   obtain⟨a,r2⟩:=p
   have:=oC ha
   exact IC _ _ r2 (l++[a]) (by omega) (by omega)
theorem EI:∀(n:Nat) (t:Ls) (l:List Aq){k:Int}{m:List Aq}{r:Ls},yA n t l=some (k,m,r)→r.length<t.length∧m.length≤l.length+t.length∧(k=1∨k=3)
 | 0,_,_,_,_,_,h=>by cases h
 |n+1,t,l,k,m,r,h=>by
  have hk:=kV t
  unfold yA at h;generalize skp t=u at *
  match u with
  | []=>cases h
  |b::q =>
   dsimp only at h;rw[aZA] at hk
   split at h
   ·injection h with h;injection h with h1 h;injection h with h2 h3;subst h1 h2 h3;exact⟨by omega,by omega,.inl rfl⟩
   split at h
   ·injection h with h;injection h with h1 h;injection h with h2 h3;subst h1 h2 h3;exact⟨by rw[aZE]; omega,by omega,.inr rfl⟩
   split at h
   ·cases h
   cases ha:iU (b::q) with
   |none=>rw[ha] at h; cases h
   |some p =>
    obtain⟨a,r2⟩:=p;rw[ha] at h
    have h1:=oC ha
    have h2:=EI n r2 (l++[a]) h
    rw[aYT,aZA,aZS] at h2;rw[aZA] at h1;exact⟨by omega,by omega,h2.2.2⟩
def aJU(s name:Ls):Option (Int×List Aq×Ls)→Tok×Int×Bool
 |some (k,l,r)=>((k,name,l,[]),((s.length-r.length:Nat):Int),true)
 |none=>(((0:Int),([]:Y_),([]:List Aq),([]:Y_)),(0:Int),false)
theorem ID(s name:Ls) (k:Int) (l:List Aq) (r:Ls):aJU s name (some (k,l,r))=((k,name,l,[]),((s.length-r.length:Nat):Int),true):=rfl
theorem aGH{s:Ls}(hs:s.length≤3999999) (name:Ls){i:Nat}(hi:i≤s.length) :
  bI (fun v1 (v2:Int×Int×Y_×(List (Y_×Y_))×Y_) =>
   bnd (q77 fuelH (s,v2.1)) fun v3 =>
   jn (fun (v4:Bool) =>
    cnd v4
     (some (v2.2,w64 (aE v3 (1:Int)),true))
     (jn (fun (v5:Bool) =>
      cnd v5
       (some (((3:Int),v2.2.2),w64 (aE v3 (2:Int)),true))
       (cnd (ieq v3 v2.1)
        (some (((0:Int),([]:Y_),([]:List (Y_×Y_)),([]:Y_)),(0:Int),false))
        (bnd (q78 fuelH (s,v3)) fun v6 =>
        cnd (bO v6.2.2)
         (some (((0:Int),([]:Y_),([]:List (Y_×Y_)),([]:Y_)),(0:Int),false))
         (grd (cJ (aE (len v2.2.2.2.1) (len ([v6.1]:List (Y_×Y_)))) 32)
          (v1 (v6.2.1,v2.2.1,v2.2.2.1,bC v2.2.2.2.1 ([v6.1]:List (Y_×Y_)),v2.2.2.2.2))))))
     fun v7 =>
     cnd (ilt (w64 (aE v3 (1:Int))) (len s))
      (grd (inb v3 (len s))
       (cnd (ieq (n8 (aA s (toN v3) (0:UInt8))) (n8 (47:UInt8)))
        (grd (inb (w64 (aE v3 (1:Int))) (len s))
         (v7 (ieq (n8 (aA s (toN (w64 (aE v3 (1:Int)))) (0:UInt8))) (n8 (62:UInt8)))))
        (v7 false)))
      (v7 false)))
   fun v8 =>
   cnd (ilt v3 (len s))
    (grd (inb v3 (len s))
     (v8 (ieq (n8 (aA s (toN v3) (0:UInt8))) (n8 (62:UInt8)))))
    (v8 false)) fuelH ((i:Int),(1:Int),name,([]:List (Y_×Y_)),([]:Y_))=some (aJU s name (UM (s.drop i) [])):=by
 have hs4:s.length≤4000000:=by omega
 refine cU (s:=s) (fun (l:List Aq) (i:Nat)=>((i:Int),((1:Int),(name,(l,([]:Y_)))))) (fun l r=>some (aJU s name (UM r l))) (fun i l=>l.length≤i) ?_ fuelH i [] (cV hs4 _) hi (bAK _);intro self l i hi hI hself;dsimp only
 have hsk:=OP (s:=s) (i:=i)
 rw[rT hs4 hi,aB,bT,yB]
 have htl:=kK (P:=wsB) (s.drop i)
 rw[aZE] at htl;rw[hsk];generalize hk:i+((s.drop i).takeWhile wsB).length=k at *
 by_cases hkl:k<s.length
 ·have g:aA s (toN (k:Int)) (0:UInt8)=s[k]:=bA hkl
  have hin:inb (k:Int) (len s)=true:=aY (by simp only[len]; omega)
  have hw:w64 (aE (k:Int) 1)=((k+1:Nat):Int):=aR hkl (by omega)
  rw[aD (aV (by simp only[len]; omega)),aF hin,g,aXR hkl,hw];dsimp only
  have hrl:(s[k]::s.drop (k+1)).length=s.length-k:=by rw[aZA,aZE]; omega
  by_cases h62:s[k]=62
  ·rw[aD (dJ (by rw[h62])),if_pos h62];rw[ID,aZE,show s.length-(s.length-(k+1))=k+1 by omega]
  ·rw[aC (dA (fun q=>h62 (fG q))),if_neg h62,bT]
   -- an attribute
   have fin:∀b:Bool,b=false→¬(s[k]=47∧(s.drop (k+1)).take 1=[62])→(cnd b
       (some (((3:Int),name,l,([]:Y_)),w64 (aE (k:Int) (2:Int)),true))
       (cnd (ieq (k:Int) (i:Int))
        (some (((0:Int),([]:Y_),([]:List (Y_×Y_)),([]:Y_)),(0:Int),false))
        (bnd (q78 fuelH (s,(k:Int))) fun v6 =>
        cnd (bO v6.2.2)
         (some (((0:Int),([]:Y_),([]:List (Y_×Y_)),([]:Y_)),(0:Int),false))
         (grd (cJ (aE (len l) (len ([v6.1]:List (Y_×Y_)))) 32)
          (self (v6.2.1,(1:Int),name,bC l ([v6.1]:List (Y_×Y_)),([]:Y_))))))) =
     some (aJU s name (if s[k]=47∧(s.drop (k+1)).take 1=[62] then some (3,l,(s.drop (k+1)).drop 1) else if(s[k]::s.drop (k+1)).length=(s.drop i).length then none else match iU (s[k]::s.drop (k+1)) with
      |none=>none
      |some (a,r2)=>UM r2 (l++[a]))):=by
    intro b hb hno;subst hb;rw[aC (by rfl),if_neg hno,hrl,aZE]
    by_cases hki:k=i
    ·rw[aD (dJ (by omega)),if_pos (by omega)];rfl
    ·rw[aC (dA (by omega)),if_neg (by omega),UL hs (by omega),aB,←aXR hkl]
     cases ha:iU (s.drop k) with
     |none=>rfl
     |some p =>
      obtain⟨a,r2⟩:=p
      have hal:=oC ha
      rw[aZE] at hal;rw[EH,aC (by rfl),aF (dD (by simp only[len,aE,aZA,aZS]; omega))];dsimp only
      have hsuf:r2=s.drop (s.length-r2.length):=by
       have h1:=IB ha
       obtain⟨u,hu⟩:=h1;obtain⟨v,hv⟩:∃v,s=v++r2:=⟨s.take k++u,by rw[aY3,hu,aX7]⟩
       conv=>rhs; rw[hv]
       rw[aYT,show v.length+r2.length-r2.length=v.length by omega,List.drop_left]
      have hz:=hself (l++[a]) (s.length-r2.length) (by omega) (by omega) (by simp; omega)
      rw[←hsuf] at hz;exact hz
   have hd1:(s.drop (k+1)).take 1=if h:k+1<s.length then [s[k+1]] else []:=by
    by_cases h:k+1<s.length
    ·rw[dif_pos h,aXR h];rfl
    ·rw[dif_neg h,aX0 (by omega)];rfl
   by_cases h1:k+1<s.length
   ·have g1:aA s (toN ((k+1:Nat):Int)) (0:UInt8)=s[k+1]:=bA h1
    rw[dif_pos h1] at hd1;rw[aD (aV (by simp only[len]; omega)),aF hin]
    by_cases h47:s[k]=47
    ·rw[aD (dJ (by rw[h47])),aF (aY (by simp only[len]; omega)),g1]
     by_cases h2:s[k+1]=62
     ·have hw2:w64 (aE (k:Int) 2)=((k+2:Nat):Int):=by
       simp only[aE];rw[bU (by omega)];omega
      have e62:ieq (n8 s[k+1]) (n8 62)=true:=dJ (by rw[h2])
      rw[e62];dsimp only;rw[aD (by rfl),if_pos ⟨h47,by rw[hd1,h2]⟩,hw2];rw[ID,aZY,aZE,show s.length-(s.length-(k+1+1))=k+2 by omega]
     ·refine fin (ieq (n8 s[k+1]) (n8 62)) (dA (fun q=>h2 (fG q))) (fun q=>h2 ?_)
      have:=q.2
      rw[hd1] at this;injection this
    ·rw[aC (dA (fun q=>h47 (fG q)))];exact fin false rfl (fun q=>h47 q.1)
   ·rw[aC (aX (by simp only[len]; omega))];refine fin false rfl (fun q=>?_)
    have:=q.2
    rw[hd1,dif_neg h1] at this;cases this
 ·have e:k=s.length:=by omega
  rw[aC (aX (by simp only[len]; omega))];dsimp only;rw[aC (by rfl),bT]
  have hw:¬(w64 (aE (k:Int) 1)<len s):=by
   simp only[aE,len];rw[bU (by omega)];omega
  rw[aC (aX hw)];dsimp only;rw[aC (by rfl),e,aZK]
  by_cases hki:k=i
  ·rw[aD (dJ (by omega))];rfl
  ·have ha:=UL hs (bAJ s.length)
   rw[aZK] at ha;rw[aC (dA (by omega)),ha];rfl
def iE(b:UInt8):Bool:=b != 60
def pB(s head tail:Ls):Option (Tok×Ls):=if Lib.index (s.drop head.length) tail<0 then none else some ((4,[],[],head),s.drop (head.length+(Lib.index (s.drop head.length) tail).toNat+tail.length))
def M6(s:Ls):Option (Tok×Ls):=if dI (s.drop 2)=[] then none else match skp ((s.drop 2).drop (dI (s.drop 2)).length) with
 | []=>none
 |b::r=>if b=62 then some ((2,dI (s.drop 2),[],[]),r) else none
def FN(s:Ls):Option (Tok×Ls):=if dI (s.drop 1)=[] then none else match UM ((s.drop 1).drop (dI (s.drop 1)).length) [] with
 |none=>none
 |some (k,l,r)=>some ((k,dI (s.drop 1),l,[]),r)
def mD(s:Ls):Option (Tok×Ls):=match s with
 | []=>none
 |b::_=>if b=60 then(if s.take 2=[60,63] then pB s [60,63] [63,62] else if s.take 4=[60,33,45,45] then pB s [60,33,45,45] [45,45,62] else if s.take 2=[60,47] then M6 s else FN s)
  else some ((0,[],[],s.takeWhile iE),s.drop (s.takeWhile iE).length)
theorem iA(b:UInt8) (t:Ls):mD (b::t)=if b=60 then(if(b::t).take 2=[60,63] then pB (b::t) [60,63] [63,62] else if(b::t).take 4=[60,33,45,45] then pB (b::t) [60,33,45,45] [45,45,62] else if(b::t).take 2=[60,47] then M6 (b::t) else FN (b::t))
  else some ((0,[],[],(b::t).takeWhile iE),(b::t).drop ((b::t).takeWhile iE).length):=rfl
def aGI(s:Ls):Option (Tok×Ls)→Prop
 |some (t,r)=>eM fuelH s=some (t,((s.length-r.length:Nat):Int),true)
 |none=>∃t n,eM fuelH s=some (t,n,false)
theorem aJV{s:Ls}(hs:s.length≤3999999) (h1:1≤s.length):(∀t r,FN s=some (t,r)→q79 fuelH s=some (t,((s.length-r.length:Nat):Int),true))∧(FN s=none→q79 fuelH s=some ((0,[],[],[]),0,false)):=by
 have hw:=OO (s:=s) (by omega) h1
 have hnl:=EG (s.drop 1)
 rw[aZE] at hnl;unfold q79 FN
 have hw':eL fuelH (s,(1:Int))=some (dI (s.drop 1),((1+(dI (s.drop 1)).length:Nat):Int)):=hw
 rw[hw',aB]
 by_cases h:dI (s.drop 1)=[]
 ·rw[aD (by rw[cX]; exact h),if_pos h];exact⟨fun _ _ k=>(by cases k),fun _=>rfl⟩
 ·rw[aC (by rw[cB]; simpa using h),if_neg h]
  have ht:=aGH hs (dI (s.drop 1)) (i:=1+(dI (s.drop 1)).length) (by omega)
  rw[ht,aZY]
  cases hq:UM (s.drop (1+(dI (s.drop 1)).length)) [] with
  |none=>exact⟨fun _ _ k=>(by cases k),fun _=>rfl⟩
  |some p =>
   obtain⟨k,l,r⟩:=p;refine⟨fun t r' e=>?_,fun e=>(by cases e)⟩;dsimp only at e;injection e with e;injection e with e1 e2;subst e1;subst e2;rfl
theorem ixb(c:UInt8) (s:Ls):Lib.indexByte s c=if(s.takeWhile fun b=>b != c).length=s.length then -1 else((s.takeWhile fun b=>b != c).length:Int):=by
 induction s with
 |nil=>rfl
 |cons b s ih =>
  have ht:=kK (P:=fun b=>b != c) s
  unfold Lib.indexByte;rw[aYS]
  by_cases h:b=c
  ·subst h;simp
  ·have hb:(b==c)=false:=by simpa using h
   have hn:(b != c)=true:=by simpa using h
   rw[hb,if_neg (by decide),if_pos hn,ih]
   by_cases e:(s.takeWhile fun b=>b != c).length=s.length
   ·rw[if_pos e,if_pos (by decide),if_pos (by rw[aZA,aZA,e])]
   ·rw[if_neg e,if_neg (by simp),if_neg (by rw[aZA,aZA]; omega),aZA];omega
theorem aPM{s:Ls}(hs:s.length≤4000000) (sub:Ls):strings_Index fuelH (s,sub)=some (Lib.index s sub):=by
 unfold strings_Index hP;rw[aF (decide_eq_true (by show s.length<_; omega))]
theorem aWM(N:Nat) (x:Ls):eM (N+5) x=grd (inb (0:Int) (len x)) (cnd (ine (n8 (aA x (toN (0:Int)) (0:UInt8))) (n8 (60:UInt8)))
  (bnd (q73 (N+5) (x,(60:UInt8))) fun v0 =>
  cnd (ilt v0 (0:Int))
   (grd (in2 (len x) (len x))
    (some (((0:Int),([]:Y_),([]:List (Y_×Y_)),bL (toN (len x)) x),len x,true)))
   (grd (in2 v0 (len x))
    (some (((0:Int),([]:Y_),([]:List (Y_×Y_)),bL (toN v0) x),v0,true))))
  (jn (fun (v1:Unit) =>
   bnd (q75 (N+5) (x,([60,47]:Y_))) fun v2 =>
   cnd v2
    (bnd (eL (N+5) (x,(2:Int))) fun v3 =>
    bnd (q77 (N+5) (x,v3.2)) fun v4 =>
    cnd (seq v3.1 ([]:Y_))
     (some (((0:Int),([]:Y_),([]:List (Y_×Y_)),([]:Y_)),(0:Int),false))
     (cnd (ile (len x) v4)
      (some (((0:Int),([]:Y_),([]:List (Y_×Y_)),([]:Y_)),(0:Int),false))
      (grd (inb v4 (len x))
       (cnd (ine (n8 (aA x (toN v4) (0:UInt8))) (n8 (62:UInt8)))
        (some (((0:Int),([]:Y_),([]:List (Y_×Y_)),([]:Y_)),(0:Int),false))
        (some (((2:Int),v3.1,([]:List (Y_×Y_)),([]:Y_)),w64 (aE v4 (1:Int)),true))))))
    (bnd (q79 (N+5) x) fun v5 =>
    some v5))
  fun v6=>bnd (q75 (N+5) (x,([60,63]:Y_))) fun b=>cnd b
   (grd (in2 (2:Int) (len x)) (bnd (strings_Index (N+5) (cQ (toN (2:Int)) x,([63,62]:Y_))) fun v10=>some (((4:Int),([]:Y_),([]:List (Y_×Y_)),([60,63]:Y_)),w64 (aE (w64 (aE (2:Int) v10)) (2:Int)),ile (0:Int) v10)))
   (bnd (q75 (N+5) (x,([60,33,45,45]:Y_))) fun b=>cnd b
    (grd (in2 (4:Int) (len x)) (bnd (strings_Index (N+5) (cQ (toN (4:Int)) x,([45,45,62]:Y_))) fun v10=>some (((4:Int),([]:Y_),([]:List (Y_×Y_)),([60,33,45,45]:Y_)),w64 (aE (w64 (aE (4:Int) v10)) (3:Int)),ile (0:Int) v10)))
    (v6 ())))):=by kernel_rfl
theorem V1{s head tail:Ls}(hs:s.length≤3999999) (hp:s.take head.length=head) (hh:head.length≤4) (ht:tail.length≤3) (ht1:1≤tail.length)
  (he:eM fuelH s=grd (in2 (head.length:Int) (len s)) (bnd (strings_Index fuelH (cQ (toN (head.length:Int)) s,tail)) fun v10=>some (((4:Int),([]:Y_),([]:List Aq),head),w64 (aE (w64 (aE (head.length:Int) v10)) (tail.length:Int)),ile (0:Int) v10))):aGI s (pB s head tail):=by
 have hl:head.length≤s.length:=by
  have:=congrArg List.length hp
  rw[aZD] at this;omega
 have hd:cQ (toN (head.length:Int)) s=s.drop head.length:=by simp[cQ,toN]
 have hr:=Lib.index_room (s.drop head.length) tail
 have hg:=Lib.index_ge (s.drop head.length) tail
 rw[aF (mP (by simp only[len]; omega)),hd,aPM (by rw[aZE]; omega),aB] at he;unfold pB
 by_cases h:Lib.index (s.drop head.length) tail<0
 ·rw[if_pos h];exact⟨_,_,by rw[he,kA (by omega)]⟩
 ·rw[if_neg h];show eM fuelH s=_;obtain⟨n,hn⟩:∃n:Nat,Lib.index (s.drop head.length) tail=(n:Int):=⟨(Lib.index (s.drop head.length) tail).toNat,by omega⟩;rw[aZE] at hr;rw[he,hn,gT (by omega),aY8,aZE]
  have e1:w64 (aE (w64 (aE (head.length:Int) (n:Int))) (tail.length:Int))=((head.length+n+tail.length:Nat):Int):=by
   simp only[aE];rw[bU (x:=(head.length:Int)+(n:Int)) (by omega),bU (by omega)];omega
  rw[e1]
  have:s.length-(s.length-(head.length+n+tail.length))=head.length+n+tail.length:=by omega
  rw[this]
theorem aJW{s:Ls}(hs:s.length≤3999999) (h0:s≠[]):aGI s (mD s):=by
 have hN:eM fuelH s=_:=aWM (mQ+4995) s
 match s,h0 with
 |b::t,_ =>
  have hin:inb (0:Int) (len (b::t))=true:=aY (by simp only[len,aZA]; omega)
  have hg:aA (b::t) (toN (0:Int)) (0:UInt8)=b:=rfl
  rw[aF hin,hg] at hN;rw[iA]
  by_cases hb:b=60
  ·rw[if_pos hb];rw[aC (cL (by rw[hb])),bT] at hN
   have h1:q75 (mQ+4995+5) (b::t,([60,63]:Y_))=some (decide ((b::t).take 2=[60,63])):=HW _ _ _
   have h2:q75 (mQ+4995+5) (b::t,([60,33,45,45]:Y_))=some (decide ((b::t).take 4=[60,33,45,45])):=HW _ _ _
   have h3:q75 (mQ+4995+5) (b::t,([60,47]:Y_))=some (decide ((b::t).take 2=[60,47])):=HW _ _ _
   rw[h1,aB] at hN
   by_cases c1:(b::t).take 2=[60,63]
   ·rw[if_pos c1];rw[aD (decide_eq_true c1)] at hN;exact V1 hs c1 (by decide) (by decide) (by decide) hN
   rw[if_neg c1];rw[aC (decide_eq_false c1),h2,aB] at hN
   by_cases c2:(b::t).take 4=[60,33,45,45]
   ·rw[if_pos c2];rw[aD (decide_eq_true c2)] at hN;exact V1 hs c2 (by decide) (by decide) (by decide) hN
   rw[if_neg c2];rw[aC (decide_eq_false c2),h3,aB] at hN
   by_cases c3:(b::t).take 2=[60,47]
   ·rw[if_pos c3];rw[aD (decide_eq_true c3)] at hN
    have hl2:2≤(b::t).length:=by have:=congrArg List.length c3; rw[aZD] at this; simp at this ⊢; omega
    generalize b::t=s at *
    have hw:eL (mQ+4995+5) (s,(2:Int))=some (dI (s.drop 2),((2+(dI (s.drop 2)).length:Nat):Int)):=OO (s:=s) (by omega) hl2
    have hnl:=EG (s.drop 2)
    rw[aZE] at hnl
    have hbl:q77 (mQ+4995+5) (s,((2+(dI (s.drop 2)).length:Nat):Int))=_:=rT (s:=s) (by omega) (show 2+(dI (s.drop 2)).length≤s.length by omega)
    have htl:=kK (P:=wsB) (s.drop (2+(dI (s.drop 2)).length))
    rw[aZE] at htl;rw[hw,aB] at hN;dsimp only at hN;rw[hbl,aB] at hN;unfold M6
    by_cases hn:dI (s.drop 2)=[]
    ·rw[if_pos hn];rw[aD (by rw[cX]; exact hn)] at hN;exact⟨_,_,hN⟩
    rw[if_neg hn,aZY,OP];rw[aC (by rw[cB]; simpa using hn)] at hN;generalize hk:2+(dI (s.drop 2)).length+((s.drop (2+(dI (s.drop 2)).length)).takeWhile wsB).length=k at *
    by_cases hkl:k<s.length
    ·have g:aA s (toN (k:Int)) (0:UInt8)=s[k]:=bA hkl
     rw[aC (kA (by simp only[len]; omega)),aF (aY (by simp only[len]; omega)),g] at hN;rw[aXR hkl];dsimp only
     by_cases h62:s[k]=62
     ·rw[if_pos h62];rw[aC (cL (by rw[h62])),aR hkl (by omega)] at hN;show eM fuelH s=_;rw[hN,aZE]
      have:s.length-(s.length-(k+1))=k+1:=by omega
      rw[this]
     ·rw[if_neg h62];rw[aD (cA (fun q=>h62 (fG q)))] at hN;exact⟨_,_,hN⟩
    ·have e:k=s.length:=by omega
     rw[aD (gT (by simp only[len]; omega))] at hN;rw[e,aZK];exact⟨_,_,hN⟩
   rw[if_neg c3];rw[aC (decide_eq_false c3)] at hN
   have hbt:=aJV hs (by simp)
   cases hq:FN (b::t) with
   |none =>
    have:=hbt.2 hq
    refine⟨(0,[],[],[]),0,bAM hN ?_⟩;show bnd (q79 fuelH (b::t)) _=_;rw[this];rfl
   |some p =>
    obtain⟨tk,r⟩:=p
    have:=hbt.1 _ _ hq
    refine bAM hN ?_;show bnd (q79 fuelH (b::t)) _=_;rw[this];rfl
  ·rw[if_neg hb];rw[aD (cA (fun q=>hb (fG q)))] at hN;generalize b::t=s at *
   have hi:q73 (mQ+4995+5) (s,(60:UInt8))=some (Lib.indexByte s 60):=rfl
   have htl:=kK (P:=iE) s
   have htk:=AU iE s
   have hx:Lib.indexByte s 60=if(s.takeWhile iE).length=s.length then -1 else((s.takeWhile iE).length:Int):=ixb 60 s
   rw[hi,aB,hx] at hN;show eM fuelH s=_;rw[aZE]
   by_cases e:(s.takeWhile iE).length=s.length
   ·rw[if_pos e,aD (by rfl),aF (mP (by simp only[len]; omega))] at hN;rw[hN]
    have e1:bL (toN (len s)) s=s.takeWhile iE:=by
     simp only[bL,toN,len,aY8];rw[←e,htk]
    have e2:len s=((s.length-(s.length-(s.takeWhile iE).length):Nat):Int):=by simp only[len]; omega
    rw[e1,←e2]
   ·rw[if_neg e,aC (aX (by omega)),aF (mP (by simp only[len]; omega))] at hN;rw[hN]
    have e1:bL (toN ((s.takeWhile iE).length:Int)) s=s.takeWhile iE:=by
     simp only[bL,toN,aY8];exact htk
    have e2:s.length-(s.length-(s.takeWhile iE).length)=(s.takeWhile iE).length:=by omega
    rw[e1,e2]
theorem rU{s r:Ls}{t:Tok}(h:mD s=some (t,r)):r.length<s.length:=by
 match s with
 | []=>cases h
 |b::u =>
  rw[iA] at h
  have note:∀head tail:Ls,1≤head.length→pB (b::u) head tail=some (t,r)→r.length<(b::u).length:=fun head tail h1 h=>by
   unfold pB at h
   split at h
   ·cases h
   ·injection h with h;injection h with _ h;rw[←h,aZE];simp;omega
  split at h
  ·split at h
   ·exact note _ _ (by decide) h
   split at h
   ·exact note _ _ (by decide) h
   split at h
   ·unfold M6 at h
    split at h
    ·cases h
    have h1:=kV (((b::u).drop 2).drop (dI ((b::u).drop 2)).length)
    split at h
    ·cases h
    ·rename_i c q hq;rw[hq,aZE,aZE,aZA] at h1
     split at h
     ·injection h with h;injection h with _ h;rw[←h];omega
     ·cases h
   ·unfold FN at h
    split at h
    ·cases h
    split at h
    ·cases h
    ·rename_i k l q hq;injection h with h;injection h with _ h
     have:=(EI _ _ _ hq).1
     rw[aZE,aZE] at this;rw[←h];omega
  ·rename_i hb;injection h with h;injection h with _ h;rw[←h,aZE,aYS,if_pos (by simpa [iE] using hb)];simp;omega
def oX(s:Ls):Int:=(s.length:Int)-1-((s.reverse.takeWhile fun b=>b != 10).length:Int)
def atP(s:Ls) (i:Nat) (e:Int):List (Int×Int×Int):=[(1+(((s.take i).count 10:Nat):Int),(i:Int)-oX (s.take i),e)]
theorem zA{s:Ls}(hs:s.length≤4000000):∀(fuel k:Nat),k<fuel→k≤s.length →
  bI (fun v2 (v3:Int) =>
  cnd (ile (0:Int) v3)
   (grd (inb v3 (len s))
    (cnd (ieq (n8 (aA s (toN v3) (0:UInt8))) (n8 (10:UInt8)))
     (some v3)
     (v2 (w64 (aJ v3 (1:Int))))))
   (some (-1:Int))) fuel ((k:Int)-1)=some (oX (s.take k))
 | 0,k,h,_=>by omega
 |fuel+1,k,h,hk=>by
  rw[gN]
  cases k with
  |zero =>
   rw[aC (kA (by omega))];rfl
  |succ k =>
   have e0:((k+1:Nat):Int)-1=(k:Int):=by omega
   have hkl:k<s.length:=by omega
   rw[e0,aD (gT (by omega)),aF (aY (by simp only[len]; omega)),bA hkl]
   have hr:(s.take (k+1)).reverse=s[k]::(s.take k).reverse:=by
    rw[aXH hkl,List.reverse_append];rfl
   have hl:(s.take (k+1)).length=k+1:=by rw[aZD]; omega
   have hl2:(s.take k).length=k:=by rw[aZD]; omega
   unfold oX;rw[hr,hl,aYS]
   by_cases e:s[k]=10
   ·rw[aD (dJ (by rw[e])),if_neg (by simp[e])];congr 1;simp
   ·have e1:w64 (aJ (k:Int) 1)=(k:Int)-1:=by
     simp only[aJ];rw[bU (by omega)]
    rw[aC (dA (fun q=>e (fG q))),e1,zA hs fuel k (by omega) (by omega),if_pos (by simp[e])];unfold oX;rw[hl2,aZA];congr 1;omega
theorem aGJ(s:Ls):-1≤oX s∧oX s<(s.length:Int):=by
 unfold oX
 have:=(List.takeWhile_prefix (p:=fun b:UInt8=>b != 10) (l:=s.reverse)).length_le
 rw[List.length_reverse] at this;omega
theorem V2{s:Ls}(hs:s.length≤3999999){i:Nat}(hi:i≤s.length) (e:Int):kG fuelH (s,(i:Int),e)=some (atP s i e):=by
 have hin:in2 (i:Int) (len s)=true:=mP (by simp only[len]; omega)
 have ht:bL (toN (i:Int)) s=s.take i:=by simp[bL,toN]
 have hl:(s.take i).length=i:=by rw[aZD]; omega
 have hc:q67 fuelH (s.take i,([10]:Y_))=some (((s.take i).count 10:Nat):Int):=rfl
 have hlast:q71 fuelH (s.take i,([10]:Y_))=some (oX (s.take i)):=by
  have h1:q71 fuelH (s.take i,([10]:Y_))=bnd (q68 fuelH (s.take i,10)) fun v0=>some v0:=rfl
  rw[h1];unfold q68;dsimp only;rw[bT]
  have e0:w64 (aJ (len (s.take i)) 1)=(((s.take i).length:Nat):Int)-1:=by
   simp only[aJ,len];rw[bU (by omega)]
  rw[e0,zA (s:=s.take i) (by omega) fuelH _ (by have:=bG; omega) (bAJ _),aB,aZH]
 have hcl:=List.count_le_length (a:=(10:UInt8)) (l:=s.take i)
 have hln:=aGJ (s.take i)
 unfold kG atP;dsimp only;rw[aF hin,ht,hc,aB,aF hin,hlast,aB];simp only[aE,aJ];rw[bU (by omega),bU (by omega)]
theorem OR:∀(n:Nat) (l a:Ls),l.length≤n→(un a l).1.length≤a.length+4*l.length
 | 0,l,a,h=>by
  have:l=[]:=aXI (by omega)
  subst this;rw[M1];simp
 |n+1,[],a,_=>by rw[M1]; simp
 |n+1,b::l,a,h=>by
  rw[aZA] at h;rw[AT]
  split
  ·simp
  split
  ·split
   ·simp
   ·rename_i h60 h38 he
    have he:(mH l).2.2=0:=by simpa using he
    have ho:=U9 he
    have hle:(mH l).1.length≤4:=by rw[ho.2.2.1]; exact UF _
    have:=OR n (l.drop ((l.takeWhile bE).length+1)) (a++(mH l).1) (by rw[aZE]; omega)
    rw[aYT,aZE] at this;rw[aZA];omega
  ·have:=OR n l (a++[b]) (by omega)
   rw[aYT,aZA,aZS] at this;rw[aZA];omega
def dW(s:Ls):Ls×Int:=if(un [] (s.map flatB)).2≠0 then([],(un [] (s.map flatB)).2) else if vld (un [] (s.map flatB)).1=false then([],10) else((un [] (s.map flatB)).1,0)
theorem IE(s:Ls):(dW s).1.length≤4*s.length:=by
 have:=OR _ (s.map flatB) [] (bAJ _)
 rw[aZV,aZS] at this;unfold dW
 split
 ·simp
 split
 ·simp
 ·show(un [] (s.map flatB)).1.length≤_;omega
theorem V3{s:Ls}(hs:s.length≤900000):q84 fuelH s=some (dW s):=by
 have hu:=OR _ (s.map flatB) [] (bAJ _)
 have hml:(s.map flatB).length=s.length:=aZV _
 rw[hml,aZS] at hu;unfold q84 qK mX;rw[aF (decide_eq_true (by omega)),aB,aWL (by omega),aB];unfold dW
 by_cases h:(un [] (s.map flatB)).2=0
 ·rw[aC (cL h),if_neg (by simpa using h),kB _ (by omega),aB];cases hv:vld (un [] (s.map flatB)).1<;>rfl
 ·rw[aD (cA h),if_pos (by simpa using h)]
abbrev Ps:=List Nd×List Ls×Bool
def jA(p:Ps) (text:Bool):Int:=if p.2.1=[]∧(text=true∨p.1≠[]) then 8 else if 15<p.2.1.length then 9 else if 8192≤p.1.length∧¬(text=true∧p.2.2=true) then 9 else 0
theorem V4(N:Nat) (p:Ps) (text:Bool):q85 N (p,text)=some (jA p text,p):=by
 obtain⟨nodes,stack,joined⟩:=p;unfold q85 jA;dsimp only;rw[bT]
 have tail:∀b:Bool,b=false→(cnd b (some ((8:Int),(nodes,stack,joined)))
   (cnd (ilt (15:Int) (len stack))
    (some ((9:Int),(nodes,stack,joined)))
    (cnd (ile (8192:Int) (len nodes))
     (cnd text
      (cnd (bO joined)
       (some ((9:Int),(nodes,stack,joined)))
       (some ((0:Int),(nodes,stack,joined))))
      (cnd (bO false)
       (some ((9:Int),(nodes,stack,joined)))
       (some ((0:Int),(nodes,stack,joined)))))
     (some ((0:Int),(nodes,stack,joined))))))=some (if 15<stack.length then 9 else if 8192≤nodes.length∧¬(text=true∧joined=true) then 9 else 0,nodes,stack,joined):=by
  intro b hb;subst hb;rw[aC (by rfl)]
  by_cases h1:15<stack.length
  ·rw[aD (aV (by simp only[len]; omega)),if_pos h1]
  rw[aC (aX (by simp only[len]; omega)),if_neg h1]
  by_cases h2:8192≤nodes.length
  ·rw[aD (gT (by simp only[len]; omega))]
   cases text with
   |true =>
    cases joined with
    |true=>rw[if_neg (by simp)]; rfl
    |false=>rw[if_pos ⟨h2,by simp⟩]; rfl
   |false=>rw[if_pos ⟨h2,by simp⟩]; rfl
  ·rw[aC (kA (by simp only[len]; omega)),if_neg (fun k=>h2 k.1)]
 by_cases h0:stack=[]
 ·subst h0;rw[aD (by rfl)]
  cases text with
  |true =>
   rw[aD (by rfl),if_pos ⟨rfl,.inl rfl⟩];rfl
  |false =>
   rw[aC (by rfl)]
   by_cases h1:nodes=[]
   ·subst h1;rw[if_neg (by simp)];exact tail _ rfl
   ·have:ilt 0 (len nodes)=true:=aV (by
     have:0<nodes.length:=aYR.2 h1
     simp only[len]; omega)
    rw[this,if_pos ⟨rfl,.inr h1⟩];rfl
 ·have:ieq (len stack) 0=false:=dA (by
   have:0<stack.length:=aYR.2 h0
   simp only[len]; omega)
  rw[this,aC (by rfl),if_neg (fun k=>h0 k.1)];exact tail _ rfl
def V5(s:Ls):Bool:=s.all wsB
def nlB(s:Ls):Bool:=decide ((s.takeWhile fun b=>b != 10).length≠s.length)
theorem M7{P:UInt8→Bool}(s:Ls):s.dropWhile P=[]↔s.all P=true:=by
 induction s with
 |nil=>simp
 |cons b s ih =>
  rw[List.dropWhile_cons,aZ8]
  by_cases h:P b=true
  ·rw[if_pos h,ih,h,aZ7]
  ·rw[if_neg h]
   have h:P b=false:=by simpa using h
   rw[h];simp
theorem aPN(b:UInt8):([9,10,13,32]:Ls).contains b=wsB b:=by
 unfold wsB;simp only[List.contains,List.elem];cases (b==9)<;>cases (b==10)<;>cases (b==13)<;>cases (b==32)<;>rfl
theorem EJ(s:Ls):Lib.trimS s [9,10,13,32]=[]↔V5 s=true:=by
 have hf:(fun b:UInt8=>([9,10,13,32]:Ls).contains b)=wsB:=by funext b; exact aPN b
 unfold Lib.trimS Lib.trimLeftS Lib.trimRightS V5;rw[hf,M7,List.all_reverse];constructor
 ·intro h;rw[aZJ] at h ⊢;intro x hx
  by_cases e:s.reverse.dropWhile wsB=[]
  ·rw[M7,List.all_reverse] at e;exact aZJ.1 e x hx
  ·obtain⟨y,hy⟩:=List.exists_mem_of_ne_nil _ e;exfalso
   have h1:∀l:Ls,(∀z∈l.dropWhile wsB,wsB z=true)→l.dropWhile wsB=[]:=fun l=>by
    induction l with
    |nil=>intro _; rfl
    |cons b l ih =>
     intro hz;rw[List.dropWhile_cons] at hz ⊢
     by_cases hb:wsB b=true
     ·rw[if_pos hb] at hz ⊢;exact ih hz
     ·rw[if_neg hb] at hz;exact absurd (hz b aYX) hb
   exact e (h1 _ h)
 ·intro h
  have:s.reverse.dropWhile wsB=[]:=(M7 _).2 (by rw[List.all_reverse]; exact h)
  rw[this];rfl
theorem UN(s:Ls):Lib.contains s [10]=nlB s:=by
 unfold Lib.contains nlB;rw[Lib.index_one,ixb]
 have:=kK (P:=fun b=>b != 10) s
 by_cases h:(s.takeWhile fun b=>b != 10).length=s.length
 ·rw[if_pos h]; simp[h]
 ·rw[if_neg h]; simp[h]
def zB(l:List Nd) (t:Ls):List Nd:=match l.getLast? with
 |none=>l
 |some n=>l.dropLast++[(n.1,n.2.1++t,n.2.2)]
def UO(p:Ps) (s:Ls):Int×Ps :=
 if V5 s=true∧(nlB s=true∨p.2.1=[]) then(0,p) else if(dW s).2≠0 then((dW s).2,p) else if jA p true≠0 then(jA p true,p)
 else if p.2.2=true then(0,zB p.1 (dW s).1,p.2.1,p.2.2) else(0,p.1++[([],(dW s).1,[],(p.2.1.length:Int))],p.2.1,true)
theorem vP{α:Type}{l:List α}(h:l≠[]):∃n,l.getLast?=some n∧l=l.dropLast++[n]∧∃hl:l.length-1<l.length,l[l.length-1]=n:=by
 rcases List.eq_nil_or_concat l with e|⟨m,n,rfl⟩
 ·exact absurd e h
 ·refine⟨n,by simp,by simp,by simp,by simp⟩
theorem aGK{α:Type}{l:List α}(h:l≠[]) (y:α):l.set (l.length-1) y=l.dropLast++[y]:=by
 obtain⟨n,_,h2,_⟩:=vP h
 have hl:l.length-1=l.dropLast.length:=by rw[aYG]
 conv=>lhs; rw[hl,h2]
 rw[List.dropLast_concat,aX9 _ _ (bAJ _),bAG];rfl
theorem aGL{p:Ps}{s:Ls}(hs:s.length≤300000) (hj:p.2.2=true→p.1≠[]) (hn:p.1.length≤300000) (ht:∀n∈p.1,n.2.1.length≤4000000):q86 fuelH (p,s)=some (UO p s):=by
 have hml:=IE s
 unfold q86 UO;dsimp only;rw[bT]
 have ht1:gF fuelH (s,([9,10,13,32]:Y_))=some (Lib.trimS s [9,10,13,32]):=by
  unfold gF iR;rw[aF (decide_eq_true (by show s.length<_; omega)),aF (by rfl),aF (by rfl)]
 have hc1:strings_Contains fuelH (s,([10]:Y_))=some (nlB s):=by
  unfold strings_Contains fD;rw[aF (decide_eq_true (by show s.length<_; omega)),UN]
 rw[ht1,aB,hc1,aB]
 have rest:(bnd (q84 fuelH s) fun v1 =>
  cnd (ine v1.2 (0:Int))
   (some (v1.2,p))
   (bnd (q85 fuelH (p,true)) fun v2 =>
   cnd (ine v2.1 (0:Int))
    (some v2)
    (cnd v2.2.2.2
     (grd (inb (w64 (aJ (len v2.2.1) (1:Int))) (len v2.2.1))
      (grd (eB (aE (len (aA v2.2.1 (toN (w64 (aJ (len v2.2.1) (1:Int)))) zN).2.1) (len v1.1)))
       (grd (inb (w64 (aJ (len v2.2.1) (1:Int))) (len v2.2.1))
        (some ((0:Int),pG v2.2.1 (toN (w64 (aJ (len v2.2.1) (1:Int)))) ((aA v2.2.1 (toN (w64 (aJ (len v2.2.1) (1:Int)))) zN).1,bC (aA v2.2.1 (toN (w64 (aJ (len v2.2.1) (1:Int)))) zN).2.1 v1.1,(aA v2.2.1 (toN (w64 (aJ (len v2.2.1) (1:Int)))) zN).2.2),v2.2.2)))))
     (grd (cJ (aE (len v2.2.1) (len ([(([]:Y_),v1.1,([]:List (Y_×Y_)),len v2.2.2.1)]:List (Y_×Y_×(List (Y_×Y_))×Int)))) 64)
      (some ((0:Int),bC v2.2.1 ([(([]:Y_),v1.1,([]:List (Y_×Y_)),len v2.2.2.1)]:List (Y_×Y_×(List (Y_×Y_))×Int)),v2.2.2.1,true)))))) =
   some (if(dW s).2≠0 then((dW s).2,p) else if jA p true≠0 then(jA p true,p)
 else if p.2.2=true then(0,zB p.1 (dW s).1,p.2.1,p.2.2) else(0,p.1++[([],(dW s).1,[],(p.2.1.length:Int))],p.2.1,true)):=by
  rw[V3 (by omega),aB,V4,aB];dsimp only
  by_cases h1:(dW s).2=0
  ·rw[aC (cL h1),if_neg (fun k=>k h1)]
   by_cases h2:jA p true=0
   ·rw[aC (cL h2),if_neg (fun k=>k h2)]
    by_cases h3:p.2.2=true
    ·have hne:=hj h3
     obtain⟨n,q1,q2,q3,q4⟩:=vP hne
     have hp:0<p.1.length:=aYR.2 hne
     have hw:w64 (aJ (len p.1) 1)=((p.1.length-1:Nat):Int):=qQ hp (by omega)
     have hg:aA p.1 (toN ((p.1.length-1:Nat):Int)) zN=n:=by rw[vO q3,q4]
     have htn:=ht n (by rw[q2]; simp)
     rw[aD h3,if_pos h3,hw,hg,aF (aY (by simp only[len]; omega)),aF (gZ (by simp only[len,aE]; omega)),aF (aY (by simp only[len]; omega))];unfold zB;rw[q1];dsimp only
     have:pG p.1 (toN ((p.1.length-1:Nat):Int)) (n.1,bC n.2.1 (dW s).1,n.2.2)=p.1.dropLast++[(n.1,n.2.1++(dW s).1,n.2.2)]:=by
      unfold pG;rw[show toN ((p.1.length-1:Nat):Int)=p.1.length-1 by simp[toN]];exact aGK hne _
     rw[this]
    ·rw[aC (by simpa using h3),if_neg h3,aF (dD (by simp only[len,aE,aZA,aZS]; omega))];rfl
   ·rw[aD (cA h2),if_pos h2]
  ·rw[aD (cA h1),if_pos h1]
 by_cases hb:V5 s=true
 ·rw[aD (by rw[cX]; exact(EJ s).2 hb)]
  by_cases hn2:nlB s=true
  ·rw[aD hn2,if_pos ⟨hb,.inl hn2⟩]
  ·rw[aC (by simpa using hn2)]
   by_cases ho:p.2.1=[]
   ·rw[aD (by rw[ho]; rfl),if_pos ⟨hb,.inr ho⟩]
   ·rw[aC (dA (by have:=aYR.2 ho; simp only[len]; omega)),if_neg (fun k=>by rcases k.2 with k|k; exact hn2 k; exact ho k)];exact rest
 ·rw[aC (by rw[cB]; simpa using fun k=>hb ((EJ s).1 k)),if_neg (fun k=>hb k.1)];exact rest
def aGM(p:Ps) (name:Ls):Int×Ps:=if nmX name=false then(5,p) else if p.2.1.getLast?=some name then(0,p.1,p.2.1.dropLast,false) else(8,p)
theorem aPO{p:Ps}{t:Tok}(ho:p.2.1.length≤300000):q87 fuelH (p,t)=some (aGM p t.2.1):=by
 unfold q87 aGM;dsimp only;rw[AV,aB]
 by_cases h1:nmX t.2.1=true
 ·rw[h1,aC (by rfl),if_neg (by decide)]
  by_cases h2:p.2.1=[]
  ·rw[h2,aD (by rfl),if_neg (by simp)]
  ·obtain⟨n,q1,q2,q3,q4⟩:=vP h2
   have hp:0<p.2.1.length:=aYR.2 h2
   have hw:w64 (aJ (len p.2.1) 1)=((p.2.1.length-1:Nat):Int):=qQ hp (by omega)
   have hg:aA p.2.1 (toN ((p.2.1.length-1:Nat):Int)) []=n:=by rw[bA q3,q4]
   rw[aC (dA (by simp only[len]; omega)),hw,aF (aY (by simp only[len]; omega)),hg,q1]
   by_cases h3:n=t.2.1
   ·rw[aC (by unfold sne; simpa using h3),if_pos (by rw[h3]),aF (mP (by simp only[ofN,kF]; omega))]
    have:gI p.2.1 0 (toN ((p.2.1.length-1:Nat):Int))=p.2.1.dropLast:=by
     simp only[gI,toN,aY8,aZZ];rw[List.dropLast_eq_take]
    rw[this]
   ·rw[aD (by unfold sne; simpa using h3),if_neg (fun k=>h3 (by injection k))]
 ·have h1:nmX t.2.1=false:=by simpa using h1
  rw[h1,aD (by rfl),if_pos rfl]
def atM:List Ls→List At→List At→Int×List At
 |_,out,[]=>(0,out)
 |seen,out,a::r=>if a.1∈seen then(7,[]) else if(dW a.2).2≠0 then((dW a.2).2,[]) else atM (seen++[a.1]) (out++[(a.1,(dW a.2).1)]) r
def EK(p:Ps) (t:Tok):Int×Ps :=
 if(t.2.1::t.2.2.1.map Prod.fst).all nmX=false then(5,p) else if 16<t.2.2.1.length then(9,p) else if(atM [] [] t.2.2.1).1≠0 then((atM [] [] t.2.2.1).1,p) else if jA p false≠0 then(jA p false,p)
 else(0,p.1++[(t.2.1,[],(atM [] [] t.2.2.1).2,(p.2.1.length:Int))],if t.1=1 then p.2.1++[t.2.1] else p.2.1,false)
theorem M8{R:Type}{l:List At}(hl:l.length≤300000) (n0:Ls) (K:List Ls×Int→Option R) :
  bI (fun v19 (v20:(List Y_)×Int) =>
  cnd (ilt v20.2 (len l))
   (grd (inb v20.2 (len l))
    (grd (cJ (aE (len v20.1) (len ([(aA l (toN v20.2) ([],[])).1]:List Y_))) 16)
     (v19 (bC v20.1 ([(aA l (toN v20.2) ([],[])).1]:List Y_),w64 (aE v20.2 (1:Int))))))
   (K v20)) fuelH (([n0]:List Y_),(0:Int))=K (n0::l.map Prod.fst,(l.length:Int)):=by
 have h:=cU (s:=l) (fun (a:List Ls) (j:Nat)=>(a,(j:Int))) (fun a r=>K (a++r.map Prod.fst,(l.length:Int))) (fun j a=>a.length≤j+1)
  (F:=fun v19 (v20:(List Y_)×Int) =>
  cnd (ilt v20.2 (len l))
   (grd (inb v20.2 (len l))
    (grd (cJ (aE (len v20.1) (len ([(aA l (toN v20.2) ([],[])).1]:List Y_))) 16)
     (v19 (bC v20.1 ([(aA l (toN v20.2) ([],[])).1]:List Y_),w64 (aE v20.2 (1:Int))))))
   (K v20)) ?_ fuelH 0 [n0] (cV (by omega) _) (bAK _) (by simp)
 ·exact h
 ·intro self a j hj hI hself;dsimp only
  by_cases hjl:j<l.length
  ·have hw:w64 (aE (j:Int) 1)=((j+1:Nat):Int):=aR hjl (by omega)
   rw[aD (aV (by simp only[len]; omega)),aF (aY (by simp only[len]; omega)),bA hjl,aF (dD (by simp only[len,aE,aZA,aZS]; omega)),hw,aXR hjl];refine bAM (hself (a++[(l[j]).1]) (j+1) (by omega) (by omega) (by simp; omega)) ?_;rw[aZ5,aY3];rfl
  ·obtain rfl:j=l.length:=by omega
   rw[aC (aX (by simp only[len]; omega)),aZK];simp
theorem aGN{R:Type}{l:List Ls}(hl:l.length≤400000) (bad:Option R) (K:Option R) :
  bI (fun v15 (v16:Int) =>
   cnd (ilt v16 (len l))
    (grd (inb v16 (len l))
     (bnd (dV fuelH (aA l (toN v16) [])) fun v17 =>
     cnd (bO v17)
      bad
      (v15 (w64 (aE v16 (1:Int))))))
    K) fuelH (0:Int)=if l.all nmX=false then bad else K:=by
 have h:=cU (s:=l) (fun (_:Unit) (j:Nat)=>(j:Int)) (fun _ r=>if r.all nmX=false then bad else K) (fun _ _=>True)
  (F:=fun v15 (v16:Int) =>
   cnd (ilt v16 (len l))
    (grd (inb v16 (len l))
     (bnd (dV fuelH (aA l (toN v16) [])) fun v17 =>
     cnd (bO v17)
      bad
      (v15 (w64 (aE v16 (1:Int))))))
    K) ?_ fuelH 0 () (cV (by omega) _) (bAK _) trivial
 ·exact h
 ·intro self a j hj _ hself
  by_cases hjl:j<l.length
  ·have hw:w64 (aE (j:Int) 1)=((j+1:Nat):Int):=aR hjl (by omega)
   rw[aD (aV (by simp only[len]; omega)),aF (aY (by simp only[len]; omega)),bA hjl,AV,aB,hw,aXR hjl,aZ8]
   by_cases e:nmX l[j]=true
   ·rw[e,aC (by rfl),aZ7];exact hself () (j+1) (by omega) (by omega) trivial
   ·have e:nmX l[j]=false:=by simpa using e
    rw[e,aD (by rfl),aZ2,if_pos rfl]
  ·obtain rfl:j=l.length:=by omega
   rw[aC (aX (by simp only[len]; omega)),aZK];rfl
theorem aGO{R:Type}{l:List At}(hl:l.length≤400000) (name:Ls) (bad:Option R) (K:Option R) :
  bI (fun v12 (v13:Int) =>
       cnd (ilt v13 (len l))
        (grd (inb v13 (len l))
         (cnd (seq (aA l (toN v13) ([],[])).1 name)
          bad
          (v12 (w64 (aE v13 (1:Int))))))
        K) fuelH (0:Int)=if name∈l.map Prod.fst then bad else K:=by
 have h:=cU (s:=l) (fun (_:Unit) (j:Nat)=>(j:Int)) (fun _ r=>if name∈r.map Prod.fst then bad else K) (fun _ _=>True)
  (F:=fun v12 (v13:Int) =>
       cnd (ilt v13 (len l))
        (grd (inb v13 (len l))
         (cnd (seq (aA l (toN v13) ([],[])).1 name)
          bad
          (v12 (w64 (aE v13 (1:Int))))))
        K) ?_ fuelH 0 () (cV (by omega) _) (bAK _) trivial
 ·exact h
 ·intro self a j hj _ hself
  by_cases hjl:j<l.length
  ·have hw:w64 (aE (j:Int) 1)=((j+1:Nat):Int):=aR hjl (by omega)
   rw[aD (aV (by simp only[len]; omega)),aF (aY (by simp only[len]; omega)),bA hjl,hw,aXR hjl,aZ5]
   by_cases e:(l[j]).1=name
   ·rw[aD (by rw[cX]; exact e),if_pos (by rw[e]; exact aYX)]
   ·rw[aC (by rw[cB]; simpa using e)];refine bAM (hself () (j+1) (by omega) (by omega) trivial) ?_
    have:(name∈(l[j]).1::(l.drop (j+1)).map Prod.fst)↔(name∈(l.drop (j+1)).map Prod.fst):=by
     rw[aZ4];exact⟨fun k=>k.resolve_left (fun q=>e q.symm),.inr⟩
    simp only[this]
  ·obtain rfl:j=l.length:=by omega
   rw[aC (aX (by simp only[len]; omega)),aZK];rfl
theorem uT{p:Ps}{t:Tok}(hl:t.2.2.1.length≤300000) (hv:∀a∈t.2.2.1,a.2.length≤900000) (hp:p.1.length≤300000) (ho:p.2.1.length≤300000):q88 fuelH (p,t)=some (EK p t):=by
 unfold q88 EK;dsimp only;rw[bT];refine bAM (M8 hl t.2.1 _) ?_;dsimp only;rw[bT];refine bAM (aGN (by simp; omega) _ _) ?_
 by_cases h1:(t.2.1::t.2.2.1.map Prod.fst).all nmX=false
 ·rw[if_pos h1,if_pos h1]
 rw[if_neg h1,if_neg h1]
 by_cases h2:16<t.2.2.1.length
 ·rw[aD (aV (by simp only[len]; omega)),if_pos h2]
 rw[aC (aX (by simp only[len]; omega)),if_neg h2,bT];generalize hal:t.2.2.1=l at *
 have h:=cU (s:=l) (fun (out:List At) (j:Nat)=>((j:Int),(t.2.1,(([]:Y_),(out,len p.2.1)))))
  (fun out r=>some (if(atM ((l.take (l.length-r.length)).map Prod.fst) out r).1≠0 then((atM ((l.take (l.length-r.length)).map Prod.fst) out r).1,p) else if jA p false≠0 then(jA p false,p)
   else(0,p.1++[(t.2.1,[],(atM ((l.take (l.length-r.length)).map Prod.fst) out r).2,(p.2.1.length:Int))],if t.1=1 then p.2.1++[t.2.1] else p.2.1,false))) (fun j out=>out.length≤j)
  (F:=fun v5 (v6:Int×Y_×Y_×(List (Y_×Y_))×Int) =>
     cnd (ilt v6.1 (len l))
      (jn (fun (v7:Y_×Y_×(List (Y_×Y_))×Int) =>
       v5 (w64 (aE v6.1 (1:Int)),v7))
      fun v8 =>
      grd (inb v6.1 (len l)) <|
      jn (fun (v9:Unit) =>
       bnd (q84 fuelH (aA l (toN v6.1) ([],[])).2) fun v10 =>
       cnd (ine v10.2 (0:Int))
        (some (v10.2,p))
        (grd (cJ (aE (len v6.2.2.2.1) (len ([((aA l (toN v6.1) ([],[])).1,v10.1)]:List (Y_×Y_)))) 32)
         (v8 (v6.2.1,v6.2.2.1,bC v6.2.2.2.1 ([((aA l (toN v6.1) ([],[])).1,v10.1)]:List (Y_×Y_)),v6.2.2.2.2))))
      fun v11 =>
      grd (in2 v6.1 (len l)) <|
      bI (fun v12 (v13:Int) =>
       cnd (ilt v13 (len (bL (toN v6.1) l)))
        (grd (inb v13 (len (bL (toN v6.1) l)))
         (cnd (seq (aA (bL (toN v6.1) l) (toN v13) ([],[])).1 (aA l (toN v6.1) ([],[])).1)
          (some ((7:Int),p))
          (v12 (w64 (aE v13 (1:Int))))))
        (v11 ())) fuelH (0:Int))
      ((fun (v2:Y_×Y_×(List (Y_×Y_))×Int) =>
     bnd (q85 fuelH (p,false)) fun v3 =>
     cnd (ine v3.1 (0:Int))
      (some v3)
      (grd (cJ (aE (len v3.2.1) (len ([v2]:List (Y_×Y_×(List (Y_×Y_))×Int)))) 64)
       (cnd (ieq t.1 (1:Int))
        (grd (cJ (aE (len v3.2.2.1) (len ([t.2.1]:List Y_))) 16)
         (some ((0:Int),bC v3.2.1 ([v2]:List (Y_×Y_×(List (Y_×Y_))×Int)),bC v3.2.2.1 ([t.2.1]:List Y_),false)))
        (some ((0:Int),bC v3.2.1 ([v2]:List (Y_×Y_×(List (Y_×Y_))×Int)),v3.2.2.1,false))))) v6.2)) ?_ fuelH 0 [] (cV (by omega) _) (bAK _) (bAK _)
 ·refine bAM h ?_;rw[aZZ,bAG];rfl
 ·intro self out j hj hI hself;dsimp only
  by_cases hjl:j<l.length
  ·have hw:w64 (aE (j:Int) 1)=((j+1:Nat):Int):=aR hjl (by omega)
   have hva:=hv _ (aZL hjl)
   have hin:inb (j:Int) (len l)=true:=aY (by simp only[len]; omega)
   have htk:bL (toN (j:Int)) l=l.take j:=by simp[bL,toN]
   rw[aD (aV (by simp only[len]; omega)),bT,aF hin,bT,aF (mP (by simp only[len]; omega)),htk,bA hjl];refine bAM (aGO (by rw[aZD]; omega) _ _ _) ?_
   have hrl:l.length-(l.drop j).length=j:=by rw[aZE]; omega
   have hrl2:l.length-(l.drop (j+1)).length=j+1:=by rw[aZE]; omega
   rw[hrl,aXR hjl]
   have hat:atM ((l.take j).map Prod.fst) out (l[j]::l.drop (j+1))=if(l[j]).1∈(l.take j).map Prod.fst then(7,[]) else if(dW (l[j]).2).2≠0 then((dW (l[j]).2).2,[]) else atM ((l.take j).map Prod.fst++[(l[j]).1]) (out++[((l[j]).1,(dW (l[j]).2).1)]) (l.drop (j+1)):=rfl
   rw[hat]
   by_cases h3:(l[j]).1∈(l.take j).map Prod.fst
   ·rw[if_pos h3,if_pos h3];rfl
   rw[if_neg h3,if_neg h3,V3 (by omega),aB]
   by_cases h4:(dW (l[j]).2).2=0
   ·rw[aC (cL h4),if_neg (show ¬(dW (l[j]).2).2≠0 from fun k=>k h4),aF (dD (by simp only[len,aE,aZA,aZS]; omega)),hw]
    have hseen:(l.take j).map Prod.fst++[(l[j]).1]=(l.take (j+1)).map Prod.fst:=by
     rw[aXH hjl,aZW];rfl
    rw[hseen];refine bAM (hself (out++[((l[j]).1,(dW (l[j]).2).1)]) (j+1) (by omega) (by omega) (by simp; omega)) ?_;rw[hrl2]
   ·rw[aD (cA h4),if_pos h4];dsimp only;rw[if_pos h4]
  ·obtain rfl:j=l.length:=by omega
   rw[aC (aX (by simp only[len]; omega)),aZK,aZS,Nat.sub_zero,V4,aB]
   have hat:∀seen out,atM seen out []=(0,out):=fun _ _=>rfl
   rw[hat];dsimp only;rw[if_neg (show ¬(0:Int)≠0 by simp)]
   by_cases h5:jA p false=0
   ·rw[aC (cL h5),if_neg (fun k=>k h5),aF (dD (by simp only[len,aE,aZA,aZS]; omega))]
    by_cases h6:t.1=1
    ·rw[aD (dJ h6),if_pos h6,aF (dD (by simp only[len,aE,aZA,aZS]; omega))];rfl
    ·rw[aC (dA h6),if_neg h6];rfl
   ·rw[aD (cA h5),if_pos h5]
def iV(p:Ps) (t:Tok) (first:Bool):Int×Ps:=if t.1=0 then UO p t.2.2.2 else if t.1=2 then aGM p t.2.1 else if t.1=4 then(if t.2.2.2=[60,63]∧first=false then(4,p) else(0,p)) else EK p t
theorem aJX{p:Ps}{t:Tok}(first:Bool) (hx:t.2.2.2.length≤300000) (hl:t.2.2.1.length≤300000) (hv:∀a∈t.2.2.1,a.2.length≤900000) (hp:p.1.length≤300000) (ho:p.2.1.length≤300000) (hj:p.2.2=true→p.1≠[]) (ht:∀n∈p.1,n.2.1.length≤4000000):q89 fuelH (p,t,first)=some (iV p t first):=by
 unfold q89 iV;dsimp only
 by_cases h0:t.1=0
 ·rw[aD (dJ h0),if_pos h0,aGL hx hj hp ht];rfl
 rw[aC (dA h0),if_neg h0]
 by_cases h2:t.1=2
 ·rw[aD (dJ h2),if_pos h2,aPO ho];rfl
 rw[aC (dA h2),if_neg h2]
 by_cases h4:t.1=4
 ·rw[aD (dJ h4),if_pos h4]
  by_cases h5:t.2.2.2=[60,63]
  ·rw[aD (by rw[cX]; exact h5)]
   cases first with
   |true=>rw[if_neg (by simp)]; rfl
   |false=>rw[if_pos ⟨h5,rfl⟩]; rfl
  ·rw[aC (by rw[cB]; simpa using h5),if_neg (fun k=>h5 k.1)]
 ·rw[aC (dA h4),if_neg h4,uT hl hv hp ho];rfl
theorem aB7{t r:Ls}{a:Aq}(h:iU t=some (a,r)):a.2.length≤t.length:=by
 unfold iU at h
 split at h
 ·cases h
 split at h
 ·cases h
 rename_i b r2 h2
 split at h
 ·split at h
  ·cases h
  rename_i q r4 h4
  split at h
  ·split at h
   ·rename_i v r5 h5;injection h with h;injection h with h _;subst h
    have e1:=UK h5
    have e2:=kV r2
    have e3:=kV (t.drop (dI t).length)
    rw[h4,aZA] at e2;rw[h2,aZA,aZE] at e3;show v.length≤_;omega
   ·cases h
  ·cases h
 ·cases h
theorem UP:∀(n:Nat) (t:Ls) (l:List Aq){k:Int}{m:List Aq}{r:Ls},yA n t l=some (k,m,r)→∃u,u++r=t
 | 0,_,_,_,_,_,h=>by cases h
 |n+1,t,l,k,m,r,h=>by
  obtain⟨u0,h0⟩:=AW t;unfold yA at h;generalize skp t=u at *
  match u with
  | []=>cases h
  |b::q =>
   dsimp only at h
   split at h
   ·injection h with h;injection h with h1 h;injection h with h2 h3;subst h3;exact⟨u0++[b],by rw[←h0]; simp⟩
   split at h
   ·injection h with h;injection h with h1 h;injection h with h2 h3;subst h3;exact⟨u0++(b::q.take 1),by rw[←h0,aY3,aZC,aX7]⟩
   split at h
   ·cases h
   cases ha:iU (b::q) with
   |none=>rw[ha] at h; cases h
   |some p =>
    obtain⟨a,r2⟩:=p;rw[ha] at h;obtain⟨u1,h1⟩:=IB ha;obtain⟨u2,h2⟩:=UP n r2 (l++[a]) h;exact⟨u0++(u1++u2),by rw[←h0,←h1,←h2]; simp⟩
theorem aGP{t r:Ls}(h:∃u,u++r=t):∃k,r=t.drop k:=by
 obtain⟨u,rfl⟩:=h;exact⟨u.length,by rw[List.drop_left]⟩
theorem aB8{s r:Ls}{t:Tok}(h:mD s=some (t,r)):∃k,r=s.drop k:=by
 match s with
 | []=>cases h
 |b::u =>
  rw[iA] at h
  have note:∀head tail:Ls,pB (b::u) head tail=some (t,r)→∃k,r=(b::u).drop k:=fun head tail h=>by
   unfold pB at h
   split at h
   ·cases h
   ·injection h with h;injection h with _ h;exact⟨_,h.symm⟩
  split at h
  ·split at h
   ·exact note _ _ h
   split at h
   ·exact note _ _ h
   split at h
   ·unfold M6 at h
    split at h
    ·cases h
    obtain⟨u1,h1⟩:=AW (((b::u).drop 2).drop (dI ((b::u).drop 2)).length)
    split at h
    ·cases h
    ·rename_i c q hq
     split at h
     ·injection h with h;injection h with _ h;subst h;refine aGP ⟨(b::u).take 2++(((b::u).drop 2).take (dI ((b::u).drop 2)).length++(u1++[c])),?_⟩;rw[hq] at h1
      conv=>rhs; rw[←aX7 2 (b::u),←aX7 (dI ((b::u).drop 2)).length ((b::u).drop 2),←h1]
      simp
     ·cases h
   ·unfold FN at h
    split at h
    ·cases h
    split at h
    ·cases h
    ·rename_i k l q hq;injection h with h;injection h with _ h;subst h;obtain⟨u1,h1⟩:=UP _ _ _ hq;refine aGP ⟨(b::u).take 1++(((b::u).drop 1).take (dI ((b::u).drop 1)).length++u1),?_⟩;rw[aY3,aY3,h1,aX7,aX7]
  ·injection h with h;injection h with _ h;exact⟨_,h.symm⟩
theorem IF:∀(n:Nat) (t:Ls) (l:List Aq){k:Int}{m:List Aq}{r:Ls},yA n t l=some (k,m,r)→∀a∈m,a∈l∨a.2.length≤t.length
 | 0,_,_,_,_,_,h=>by cases h
 |n+1,t,l,k,m,r,h=>by
  have hk:=kV t
  unfold yA at h;generalize skp t=u at *
  match u with
  | []=>cases h
  |b::q =>
   dsimp only at h
   split at h
   ·injection h with h;injection h with h1 h;injection h with h2 h3;subst h2;exact fun a ha=>.inl ha
   split at h
   ·injection h with h;injection h with h1 h;injection h with h2 h3;subst h2;exact fun a ha=>.inl ha
   split at h
   ·cases h
   cases ha:iU (b::q) with
   |none=>rw[ha] at h; cases h
   |some p =>
    obtain⟨a,r2⟩:=p;rw[ha] at h
    have h1:=oC ha
    have hval:a.2.length≤(b::q).length:=aB7 ha
    intro x hx;rcases IF n r2 (l++[a]) h x hx with h2|h2
    ·rcases aZN.1 h2 with h3|h3
     ·exact .inl h3
     ·simp at h3;subst h3;exact .inr (by omega)
    ·exact .inr (by omega)
structure TokOk (n:Nat) (t:Tok):Prop where
 tx:t.2.2.2.length≤n
 al:t.2.2.1.length≤n
 av:∀a∈t.2.2.1,a.2.length≤n
theorem UQ{s r:Ls}{t:Tok}(h:mD s=some (t,r)):TokOk s.length t∧(t.1=0→t.2.2.2.length+r.length=s.length):=by
 match s with
 | []=>cases h
 |b::u =>
  rw[iA] at h
  have note:∀head tail:Ls,head.length≤(b::u).length→pB (b::u) head tail=some (t,r)→TokOk (b::u).length t∧(t.1=0→t.2.2.2.length+r.length=(b::u).length):=fun head tail h1 h=>by
   unfold pB at h
   split at h
   ·cases h
   ·injection h with h;injection h with h _;subst h;exact⟨⟨h1,bAK _,fun a ha=>(by cases ha)⟩,fun k=>(by cases k)⟩
  split at h
  ·split at h
   ·rename_i hh
    have:=congrArg List.length hh
    rw[aZD] at this;exact note _ _ (by simp at this ⊢; omega) h
   split at h
   ·rename_i hh
    have:=congrArg List.length hh
    rw[aZD] at this;exact note _ _ (by simp at this ⊢; omega) h
   split at h
   ·unfold M6 at h
    split at h
    ·cases h
    split at h
    ·cases h
    ·split at h
     ·injection h with h;injection h with h _;subst h;exact⟨⟨bAK _,bAK _,fun a ha=>(by cases ha)⟩,fun k=>(by cases k)⟩
     ·cases h
   ·unfold FN at h
    split at h
    ·cases h
    split at h
    ·cases h
    ·rename_i k l q hq;injection h with h;injection h with h _;subst h
     have h1:=EI _ _ _ hq
     have h2:=IF _ _ _ hq
     rw[aZE,aZE] at h1;refine⟨⟨bAK _,?_,fun a ha=>?_⟩,fun e=>?_⟩
     ·have:=h1.2.1
      simp only[aZS] at this;show l.length≤_;omega
     ·rcases h2 a ha with h3|h3
      ·cases h3
      ·rw[aZE,aZE] at h3;omega
     ·rcases h1.2.2 with h3|h3<;>(have e:k=0:=e; omega)
  ·injection h with h;injection h with h h2;subst h;subst h2
   have:=kK (P:=iE) (b::u)
   refine⟨⟨this,bAK _,fun a ha=>(by cases ha)⟩,fun _=>?_⟩;rw[aZE];show((b::u).takeWhile iE).length+_=_;omega
structure PsOk (i:Nat) (p:Ps):Prop where
 jn:p.2.2=true→p.1≠[]
 nl:p.1.length≤i
 sl:p.2.1.length≤i
 tx:∀n∈p.1,n.2.1.length≤4*i
theorem aGQ{l:List Nd}{t:Ls}(h:l≠[]):∃n,l=l.dropLast++[n]∧zB l t=l.dropLast++[(n.1,n.2.1++t,n.2.2)]:=by
 obtain⟨n,q1,q2,_⟩:=vP h;exact⟨n,q2,by unfold zB; rw[q1]⟩
theorem aJY{s r:Ls}{t:Tok}{i:Nat}{p:Ps}(first:Bool) (hn:mD s=some (t,r)) (hp:PsOk i p) (h0:(iV p t first).1=0):PsOk (i+(s.length-r.length)) (iV p t first).2:=by
 have hl:=rU hn
 have hk:=UQ hn
 have mono:PsOk (i+(s.length-r.length)) p:=⟨hp.jn,by have:=hp.nl; omega,by have:=hp.sl; omega,fun n h=>by have:=hp.tx n h; omega⟩
 unfold iV at *
 by_cases c0:t.1=0
 ·rw[if_pos c0] at *
  have htl:=hk.2 c0
  have hml:=IE t.2.2.2
  unfold UO at *
  split
  ·exact mono
  split
  ·exact mono
  split
  ·exact mono
  split
  ·rename_i _ _ _ hj;obtain⟨n,q1,q2⟩:=aGQ (t:=(dW t.2.2.2).1) (hp.jn hj)
   have hnl:=hp.nl
   have hdl:p.1.length=p.1.dropLast.length+1:=by
    have h:=congrArg List.length q1
    rw[aYT,aZA,aZS] at h;exact h
   refine⟨fun _=>?_,?_,mono.sl,fun m hm=>?_⟩
   ·show zB _ _≠[];rw[q2];simp
   ·show(zB _ _).length≤_;rw[q2,aYT,aZA,aZS];omega
   ·have hm:m∈zB p.1 (dW t.2.2.2).1:=hm
    rw[q2] at hm;rcases aZN.1 hm with h|h
    ·exact mono.tx m (by rw[q1]; exact aYI _ h)
    ·simp at h;subst h
     have:=hp.tx n (by rw[q1]; simp)
     rw[aYT];omega
  ·refine⟨fun _=>by simp,?_,mono.sl,fun m hm=>?_⟩
   ·show(p.1++_).length≤_
    have:=hp.nl
    rw[aYT,aZA,aZS];omega
   ·rcases aZN.1 hm with h|h
    ·exact mono.tx m h
    ·simp at h;subst h;show(dW t.2.2.2).1.length≤_;omega
 rw[if_neg c0] at *
 by_cases c2:t.1=2
 ·rw[if_pos c2] at *;unfold aGM at *
  split
  ·exact mono
  split
  ·refine⟨fun k=>(by cases k),mono.nl,?_,mono.tx⟩;show p.2.1.dropLast.length≤_
   have:=hp.sl
   rw[aYG];omega
  ·exact mono
 rw[if_neg c2] at *
 by_cases c4:t.1=4
 ·rw[if_pos c4] at *
  split<;>exact mono
 rw[if_neg c4] at *;unfold EK at *
 split
 ·exact mono
 split
 ·exact mono
 split
 ·exact mono
 split
 ·exact mono
 refine⟨fun k=>(by cases k),?_,?_,fun m hm=>?_⟩
 ·show(p.1++_).length≤_
  have:=hp.nl
  rw[aYT,aZA,aZS];omega
 ·dsimp only
  have:=hp.sl
  split
  ·rw[aYT,aZA,aZS];omega
  ·omega
 ·rcases aZN.1 hm with h|h
  ·exact mono.tx m h
  ·simp at h;subst h;simp
def OS:Nat→Nat→Ps→Ls→List Nd×Option (Nat×Int)
 | 0,_,_,_=>([],none)
 |_+1,n,p,[]=>if p.1=[]∨p.2.1≠[] then([],some (n,4)) else(p.1,none)
 |f+1,n,p,b::u=>match mD (b::u) with
  |none=>([],some (n-(b::u).length,4))
  |some (t,r)=>if(iV p t (decide ((b::u).length=n))).1≠0 then([],some (n-(b::u).length,(iV p t (decide ((b::u).length=n))).1)) else OS f n (iV p t (decide ((b::u).length=n))).2 r
theorem IG:∀(f g n:Nat) (p:Ps) (s:Ls),s.length<f→s.length<g→OS f n p s=OS g n p s
 | 0,_,_,_,_,h,_=>by omega
 |_+1,0,_,_,_,_,h=>by omega
 |f+1,g+1,n,p,[],_,_=>rfl
 |f+1,g+1,n,p,b::u,h1,h2=>by
  unfold OS
  cases hn:mD (b::u) with
  |none=>rfl
  |some q =>
   obtain⟨t,r⟩:=q
   have:=rU hn
   dsimp only;rw[IG f g n _ r (by omega) (by omega)]
def mI(n:Nat) (p:Ps) (s:Ls):List Nd×Option (Nat×Int):=OS (s.length+1) n p s
theorem UR(n:Nat) (p:Ps):mI n p []=if p.1=[]∨p.2.1≠[] then([],some (n,4)) else(p.1,none):=rfl
theorem aB9{n:Nat}{p:Ps}{s:Ls}(h0:s≠[]) (h:mD s=none):mI n p s=([],some (n-s.length,4)):=by
 match s,h0 with
 |b::u,_ =>
  show OS (u.length+1+1) n p (b::u)=_;unfold OS;rw[h]
theorem IH{n:Nat}{p:Ps}{s r:Ls}{t:Tok}(h:mD s=some (t,r)):mI n p s=if(iV p t (decide (s.length=n))).1≠0 then([],some (n-s.length,(iV p t (decide (s.length=n))).1)) else mI n (iV p t (decide (s.length=n))).2 r:=by
 match s with
 | []=>cases h
 |b::u =>
  have hl:=rU h
  show OS (u.length+1+1) n p (b::u)=_;unfold OS;rw[h];dsimp only;rw[IG (u.length+1) (r.length+1) n _ r (by rw[aZA] at hl; omega) (by omega)];rfl
def aWN(s:Ls):List Nd×Option (Nat×Int)→List Nd×List (Int×Int×Int)
 |(l,none)=>(l,[])
 |(_,some (i,e))=>([],atP s i e)
def p0:Ps:=([],[],false)
def aJZ(s:Ls):List Nd×List (Int×Int×Int):=if 262144<s.length then([],atP s 0 9) else aWN s (mI s.length p0 s)
theorem aGR{s r:Ls}{i:Nat}(hi:i≤s.length) (h:∃k,r=(s.drop i).drop k) (hl:r.length≤s.length):r=s.drop (s.length-r.length):=by
 obtain⟨k,rfl⟩:=h;rw[aZY,aZE]
 by_cases e:i+k≤s.length
 ·rw[show s.length-(s.length-(i+k))=i+k by omega]
 ·rw[aX0 (by omega),aX0 (by omega)]
theorem aGS{s:Ls}(hs:s.length≤3999999):q90 fuelH s=some (aJZ s):=by
 unfold q90 aJZ
 have h00:kG fuelH (s,(0:Int),(9:Int))=some (atP s 0 9):=V2 hs (bAK _) 9
 by_cases h1:262144<s.length
 ·rw[aD (aV (by simp only[len]; omega)),if_pos h1,h00];rfl
 rw[aC (aX (by simp only[len]; omega)),if_neg h1,bT]
 have hend:kG fuelH (s,len s,(4:Int))=some (atP s s.length 4):=V2 hs (bAJ _) 4
 refine bAM (cU (s:=s) (fun (p:Ps) (i:Nat)=>((i:Int),p)) (fun p r=>some (aWN s (mI s.length p r))) (fun i p=>PsOk i p) ?_ fuelH 0 p0 (cV (by omega) _) (bAK _) ⟨fun k=>(by cases k),bAK _,bAK _,fun n hn=>(by cases hn)⟩) rfl;intro self p i hi hI hself;dsimp only
 by_cases hil:i<s.length
 ·have hd:cQ (toN (i:Int)) s=s.drop i:=by simp[cQ,toN]
  have hdl:(s.drop i).length=s.length-i:=aZE
  have hne:s.drop i≠[]:=by
   intro k;rw[k,aZS] at hdl;omega
  have hnx:=aJW (s:=s.drop i) (by omega) hne
  rw[aD (aV (by simp only[len]; omega)),aF (mP (by simp only[len]; omega)),hd]
  cases hn:mD (s.drop i) with
  |none =>
   rw[hn] at hnx;obtain⟨t,n,hnx⟩:=hnx;rw[hnx,aB,aD (by rfl),V2 hs (by omega),aB,aB9 hne hn,hdl,show s.length-(s.length-i)=i by omega];rfl
  |some q =>
   obtain⟨t,r⟩:=q;rw[hn] at hnx
   have hnx:eM fuelH (s.drop i)=some (t,(((s.drop i).length-r.length:Nat):Int),true):=hnx
   have hl:=rU hn
   have hk:=UQ hn
   have hfirst:ieq (i:Int) 0=decide ((s.drop i).length=s.length):=by
    by_cases e:i=0
    ·subst e; simp[ieq]
    ·rw[dA (by omega),decide_eq_false (by omega)]
   rw[hnx,aB,aC (by rfl)];dsimp only;rw[hfirst,aJX _ (by have:=hk.1.tx; omega) (by have:=hk.1.al; omega) (fun a ha=>by have:=hk.1.av a ha; omega) (by have:=hI.nl; omega) (by have:=hI.sl; omega) hI.jn (fun n hm=>by have:=hI.tx n hm; omega),aB,IH hn]
   by_cases e:(iV p t (decide ((s.drop i).length=s.length))).1=0
   ·rw[aC (cL e),if_neg (fun k=>k e)]
    have hw:w64 (aE (i:Int) (((s.drop i).length-r.length:Nat):Int))=((s.length-r.length:Nat):Int):=by
     simp only[aE];rw[bU (by omega)];omega
    rw[hw]
    have hok:=aJY (decide ((s.drop i).length=s.length)) hn hI e
    have hsuf:r=s.drop (s.length-r.length):=aGR hi (aB8 hn) (by omega)
    refine bAM (hself _ (s.length-r.length) (by omega) (by omega) ?_) ?_
    ·rw[show s.length-r.length=i+((s.drop i).length-r.length) by omega];exact hok
    ·rw[←hsuf]
   ·rw[aD (cA e),if_pos e,V2 hs (by omega),aB,hdl,show s.length-(s.length-i)=i by omega];rfl
 ·obtain rfl:i=s.length:=by omega
  rw[aC (aX (by simp only[len]; omega)),aZK,UR]
  by_cases e1:p.1=[]
  ·rw[aD (by rw[e1]; rfl),if_pos (.inl e1),hend];rfl
  ·have hp1:0<p.1.length:=aYR.2 e1
   rw[aC (dA (by simp only[len]; omega))]
   by_cases e2:p.2.1=[]
   ·rw[aC (by rw[e2]; rfl),if_neg (fun k=>by rcases k with k|k; exact e1 k; exact k e2)];rfl
   ·have hp2:0<p.2.1.length:=aYR.2 e2
    rw[aD (aV (by simp only[len]; omega)),if_pos (.inr e2),hend];rfl
theorem aJ0{b x:UInt8}(h:x∈FK b):x≠60∧x≠34∧x≠62∧x≠39∧(x=b∨32≤x.toNat):=by
 have key:∀c:Ls,(c.all fun x=>x != 60&&x != 34&&x != 62&&x != 39&&decide (32≤x.toNat))=true→x∈c→x≠60∧x≠34∧x≠62∧x≠39∧(x=b∨32≤x.toNat):=fun c hc hx=>by
  have:=aZJ.1 hc x hx
  simp only[aZB,bne_iff_ne,ne_eq,decide_eq_true_eq] at this;exact⟨this.1.1.1.1,this.1.1.1.2,this.1.1.2,this.1.2,.inr this.2⟩
 unfold FK at h
 split at h
 ·exact key _ (by rfl) h
 split at h
 ·exact key _ (by rfl) h
 split at h
 ·exact key _ (by rfl) h
 split at h
 ·exact key _ (by rfl) h
 split at h
 ·exact key _ (by rfl) h
 ·simp at h;subst h;rename_i h2 h3 h4 h5;exact⟨h2,h4,h3,h5,.inl rfl⟩
theorem OT{v:Ls}{x:UInt8}(h:x∈esc v):x≠60∧x≠34∧x≠62∧x≠39∧(x∈v∨32≤x.toNat):=by
 unfold esc at h;obtain⟨b,hb,hx⟩:=List.mem_flatMap.1 h
 have:=aJ0 hx
 exact⟨this.1,this.2.1,this.2.2.1,this.2.2.2.1,this.2.2.2.2.elim (fun e=>.inl (by rw[e]; exact hb)) .inr⟩
theorem aJ1{r:Int}(h:dO r=true):((enc r).all fun b=>decide (32≤b.toNat))=true :=
 vI (P:=fun r=>(enc r).all fun b=>decide (32≤b.toNat)) (by kernel_rfl) h
theorem aJ2{v:Ls}(h:vld v=true):∀b∈v,32≤b.toNat:=by
 have h1:=aI6 h
 have h2:=aO8 h
 intro b hb;rw[←h1] at hb;unfold ofR at hb;obtain⟨r,hr,hx⟩:=List.mem_flatMap.1 hb
 have:=aJ1 (aZJ.1 h2 r hr)
 exact of_decide_eq_true (aZJ.1 this b hx)
theorem aJ3{s:Ls}(h:∀b∈s,32≤b.toNat):s.map flatB=s:=by
 conv=>rhs; rw[←List.map_id s]
 refine List.map_congr_left fun b hb=>?_
 have:=h b hb
 have h9:(b==9)=false:=by
  simp only[beq_eq_false_iff_ne,ne_eq];intro e; rw[e] at this; revert this; decide
 have h10:(b==10)=false:=by
  simp only[beq_eq_false_iff_ne,ne_eq];intro e; rw[e] at this; revert this; decide
 have h13:(b==13)=false:=by
  simp only[beq_eq_false_iff_ne,ne_eq];intro e; rw[e] at this; revert this; decide
 unfold flatB aQ;rw[h9,h10,h13];rfl
theorem V6{v:Ls}(h:vld v=true):∀b∈esc v,32≤b.toNat:=fun b hb=>(OT hb).2.2.2.2.elim (aJ2 h b) id
theorem US{v:Ls}(h:vld v=true):dW (esc v)=(v,0):=by
 have e:un [] ((esc v).map flatB)=(v,0):=by rw[aJ3 (V6 h),M2]; rfl
 unfold dW;rw[e];rw[if_neg (by simp),if_neg (by rw[h]; decide)]
theorem OU{P:UInt8→Bool}{v t:Ls}{c:UInt8}(h:∀b∈v,P b=true) (hc:P c=false):(v++c::t).takeWhile P=v:=by
 rw[aXK h,aYS,hc];simp
theorem oD{s:Ls}(h:nmX s=true):∃b l,s=b::l∧nX b=true∧(∀x∈s,nA x=true)∧s.length≤32:=by
 unfold nmX at h;simp only[aZB] at h
 match s,h with
 | [],h=>simp at h
 |b::l,h =>
  refine⟨b,l,rfl,h.1.2,fun x hx=>aZJ.1 h.2 x hx,of_decide_eq_true h.1.1.2⟩
theorem yC{s t:Ls}{c:UInt8}(h:nmX s=true) (hc:nA c=false):dI (s++c::t)=s:=by
 obtain⟨b,l,rfl,h1,h2,_⟩:=oD h;rw[aZC,xW,if_pos h1,OU (fun x hx=>h2 x (aYE _ hx)) hc]
theorem aJ4:((List.range 256).all fun n=>decide (nX (UInt8.ofNat n)=true→(wsB (UInt8.ofNat n)=false∧UInt8.ofNat n≠62∧UInt8.ofNat n≠47∧UInt8.ofNat n≠63∧UInt8.ofNat n≠33)))=true:=by kernel_rfl
theorem V7{x:UInt8}(h:nX x=true):wsB x=false∧x≠62∧x≠47∧x≠63∧x≠33 :=
 of_decide_eq_true (eN (P:=fun x=>decide (nX x=true→(wsB x=false∧x≠62∧x≠47∧x≠63∧x≠33))) aJ4 x) h
theorem yD{b:UInt8}{t:Ls}(h:wsB b=false):skp (b::t)=b::t:=by
 unfold skp;rw[aYS,h];rfl
theorem aJ5{b:UInt8}{t:Ls}(h:wsB b=true):skp (b::t)=skp t:=by
 unfold skp;rw[aYS,h,if_pos rfl,aZA,aYN]
def atT(l:List At):Ls:=l.flatMap fun a=>32::(a.1++(61::34::(esc a.2++[34])))
def sH(l:List At):List At:=l.map fun a=>(a.1,esc a.2)
theorem vQ(a:At) (l:List At) (rest:Ls):atT (a::l)++rest=32::(a.1++61::(34::(esc a.2++34::(atT l++rest)))):=by
 unfold atT;rw[List.flatMap_cons];simp
theorem M9{a:At}{rest:Ls}(h:nmX a.1=true):iU (a.1++61::(34::(esc a.2++34::rest)))=some ((a.1,esc a.2),rest):=by
 have hn:=yC (t:=34::(esc a.2++34::rest)) h (show nA 61=false by rfl)
 obtain⟨b,l,he,_⟩:=oD h
 have hv:OQ 34 (esc a.2++34::rest)=some (esc a.2,rest):=by
  unfold OQ
  have ht:(esc a.2++34::rest).takeWhile (fun b=>b != 34&&b != 60)=esc a.2:=OU (fun x hx=>by have:=OT hx; simp[this.1,this.2.1]) (by rfl)
  rw[ht,List.drop_left];dsimp only;rw[if_pos rfl]
 unfold iU;rw[hn,if_neg (by rw[he]; simp),List.drop_left,yD (by rfl)];dsimp only;rw[if_pos rfl,yD (by rfl)];dsimp only;rw[if_pos (Or.inl rfl),hv]
theorem II(close:Ls) (k:Int) (hc:close=[62]∧k=1∨close=[47,62]∧k=3) (rest:Ls):∀(l pre:List At),(∀a∈l,nmX a.1=true)→UM (atT l++(close++rest)) pre=some (k,pre++sH l,rest)
 | [],pre,_=>by
  have h0:atT []++(close++rest)=close++rest:=rfl
  have h1:pre++sH []=pre:=by simp[sH]
  rw[h0,h1,yB];rcases hc with⟨rfl,rfl⟩|⟨rfl,rfl⟩
  ·have hs:skp ([62]++rest)=62::rest:=yD (by rfl)
   rw[hs];dsimp only;rw[if_pos rfl]
  ·have hs:skp ([47,62]++rest)=47::62::rest:=yD (by rfl)
   rw[hs];dsimp only;rw[if_neg (by decide),if_pos ⟨rfl,rfl⟩];rfl
 |a::l,pre,h=>by
  have ha:=h a aYX
  obtain⟨b,m,he,hb,_⟩:=oD ha
  have hnot:=V7 hb
  have hr:pre++sH (a::l)=(pre++[(a.1,esc a.2)])++sH l:=by simp[sH]
  have ih:=II close k hc rest l (pre++[(a.1,esc a.2)]) fun x hx=>h x (aYE _ hx)
  have hap:=M9 (rest:=atT l++(close++rest)) ha
  have hs:skp (atT (a::l)++(close++rest))=a.1++61::(34::(esc a.2++34::(atT l++(close++rest)))):=by
   rw[vQ,aJ5 (by rfl),he,aZC,yD hnot.1]
  have hlen:(atT (a::l)++(close++rest)).length=(a.1++61::(34::(esc a.2++34::(atT l++(close++rest))))).length+1:=by rw[vQ,aZA]
  rw[yB,hs,hlen,hr,←ih];generalize hu:a.1++61::(34::(esc a.2++34::(atT l++(close++rest))))=u at *
  have hub:∃w,u=b::w:=⟨_,by rw[←hu,he]; rfl⟩
  obtain⟨w,hw⟩:=hub;rw[hw] at hap ⊢;dsimp only;rw[if_neg hnot.2.1,if_neg (fun q=>hnot.2.2.1 q.1),if_neg (by omega),hap]
theorem zD{name rest:Ls}{l:List At}{close:Ls}{k:Int}(hc:close=[62]∧k=1∨close=[47,62]∧k=3) (hn:nmX name=true) (hl:∀a∈l,nmX a.1=true):mD (60::(name++(atT l++(close++rest))))=some ((k,name,sH l,[]),rest):=by
 obtain⟨b,m,he,hb,_⟩:=oD hn
 have hnot:=V7 hb
 have hstop:∃c t,atT l++(close++rest)=c::t∧nA c=false:=by
  match l with
  | [] =>
   rcases hc with⟨rfl,_⟩|⟨rfl,_⟩
   ·exact⟨62,rest,rfl,rfl⟩
   ·exact⟨47,62::rest,rfl,rfl⟩
  |a::l=>exact⟨32,_,vQ a l _,rfl⟩
 obtain⟨c,t,hct,hcn⟩:=hstop
 have hname:dI (name++(atT l++(close++rest)))=name:=by rw[hct]; exact yC hn hcn
 have htag:=II close k hc rest l [] hl
 rw[iA,if_pos rfl,if_neg (by rw[he]; simp[hnot.2.2.2.1]),if_neg (by rw[he]; simp[hnot.2.2.2.2]),if_neg (by rw[he]; simp[hnot.2.2.1])];unfold FN
 have hd:(60::(name++(atT l++(close++rest)))).drop 1=name++(atT l++(close++rest)):=rfl
 rw[hd,hname,if_neg (by rw[he]; simp),List.drop_left,htag];rfl
theorem aCA{name rest:Ls}(hn:nmX name=true):mD (60::47::(name++62::rest))=some ((2,name,[],[]),rest):=by
 obtain⟨b,m,he,hb,_⟩:=oD hn
 have hname:dI (name++62::rest)=name:=yC hn rfl
 rw[iA,if_pos rfl,if_neg (by simp),if_neg (by simp),if_pos (by rfl)];unfold M6
 have hd:(60::47::(name++62::rest)).drop 2=name++62::rest:=rfl
 rw[hd,hname,if_neg (by rw[he]; simp),List.drop_left,yD (by rfl)];dsimp only;rw[if_pos rfl]
theorem N0{v rest:Ls}(hv:v≠[]):mD (esc v++60::rest)=some ((0,[],[],esc v),60::rest):=by
 have ht:(esc v++60::rest).takeWhile iE=esc v:=OU (fun x hx=>by have:=OT hx; simp[iE,this.1]) (by rfl)
 obtain⟨b,m,he⟩:∃b m,esc v=b::m:=by
  match v,hv with
  |c::w,_ =>
   have:=(SG c).1
   rw[UB]
   match hq:FK c with
   | []=>rw[hq] at this; simp at this
   |x::y=>exact⟨x,_,rfl⟩
 have hb:b≠60:=(OT (show b∈esc v by rw[he]; exact aYX)).1
 have hcons:esc v++60::rest=b::(m++60::rest):=by rw[he]; rfl
 rw[hcons,iA,if_neg hb,←hcons,ht,List.drop_left]
theorem V8:∀(l:List At) (seen:List Ls) (out:List At),(∀a∈l,vld a.2=true)→(l.map Prod.fst).Nodup→(∀a∈l,a.1 ∉ seen)→atM seen out (sH l)=(0,out++l)
 | [],_,out,_,_,_=>by simp[sH,atM]
 |a::l,seen,out,hv,hd,hs=>by
  have h1:sH (a::l)=(a.1,esc a.2)::sH l:=rfl
  rw[aZ5,List.nodup_cons] at hd;rw[h1];unfold atM;dsimp only;rw[if_neg (hs a aYX),US (hv a aYX)];dsimp only;rw[if_neg (by simp),V8 l _ _ (fun x hx=>hv x (aYE _ hx)) hd.2 (fun x hx=>?_)]
  ·simp
  ·rw[aZN];rintro(k|k)
   ·exact hs x (aYE _ hx) k
   ·simp at k;exact hd.1 (by rw[←k]; exact List.mem_map_of_mem hx)
structure AtOk (l:List At):Prop where
 nm:∀a∈l,nmX a.1=true
 vl:∀a∈l,vld a.2=true
 nd:(l.map Prod.fst).Nodup
 few:l.length≤16
theorem EL{p:Ps}{name:Ls}{l:List At}{k:Int}(first:Bool) (hk:k=1∨k=3) (hn:nmX name=true) (hl:AtOk l) (hr:jA p false=0) :
  iV p (k,name,sH l,[]) first=(0,p.1++[(name,[],l,(p.2.1.length:Int))],if k=1 then p.2.1++[name] else p.2.1,false):=by
 unfold iV;dsimp only;rw[if_neg (show ¬k=0 by omega),if_neg (show ¬k=2 by omega),if_neg (show ¬k=4 by omega)];unfold EK;dsimp only
 have h1:(sH l).map Prod.fst=l.map Prod.fst:=by unfold sH; rw[List.map_map]; rfl
 have h2:(sH l).length=l.length:=by unfold sH; rw[aZV]
 have h3:¬((name::l.map Prod.fst).all nmX=false):=by
  have:(name::l.map Prod.fst).all nmX=true:=by
   rw[aZ8,hn,aZ7,aZJ];intro x hx;obtain⟨a,ha,rfl⟩:=List.mem_map.1 hx;exact hl.nm a ha
  rw[this];decide
 rw[h1,if_neg h3,h2,if_neg (by have:=hl.few; omega),V8 l [] [] hl.vl hl.nd (fun a _=>by simp)];dsimp only;rw[if_neg (by simp),if_neg (by rw[hr]; simp)];rfl
theorem aGT{p:Ps}{name:Ls}(first:Bool) (hn:nmX name=true) (hl:p.2.1.getLast?=some name):iV p (2,name,[],[]) first=(0,p.1,p.2.1.dropLast,false):=by
 unfold iV;dsimp only;rw[if_neg (show ¬(2:Int)=0 by decide),if_pos rfl];unfold aGM;rw[if_neg (by rw[hn]; decide),if_pos hl]
theorem aCB{p:Ps}{v:Ls}(first:Bool) (hv:vld v=true) (ho:p.2.1≠[]) (hj:p.2.2=false) (hr:jA p true=0):iV p (0,[],[],esc v) first=(0,p.1++[([],v,[],(p.2.1.length:Int))],p.2.1,true):=by
 have hnl:nlB (esc v)=false:=by
  unfold nlB
  have:(esc v).takeWhile (fun b=>b != 10)=esc v:=by
   have:=aXK (p:=fun b:UInt8=>b != 10) (l₁:=esc v) (l₂:=[]) (fun x hx=>by
    have:=V6 hv x hx
    simp only[bne_iff_ne,ne_eq];intro e;rw[e] at this
    revert this
    decide)
   simpa using this
  rw[this];simp
 unfold iV;rw[if_pos rfl];unfold UO;dsimp only;rw[if_neg (fun k=>by rcases k.2 with q|q; rw[hnl] at q; cases q; exact ho q),US hv];dsimp only;rw[if_neg (by simp),if_neg (by rw[hr]; simp),if_neg (by rw[hj]; decide)]
theorem AX{n:Nat}{p q:Ps}{s r:Ls}{t:Tok}(h:mD s=some (t,r)) (ht:∀f,iV p t f=(0,q)):mI n p s=mI n q r:=by
 rw[IH h,ht];dsimp only;rw[if_neg (by simp)]
def clT(name:Ls):Ls:=60::47::(name++[62])
def cls(st:List Ls):Ls:=st.reverse.flatMap clT
def kid(n:Nd):List Nd→Bool
 | []=>false
 |m::_=>decide (dep n<dep m)
def prT:List Ls→List Nd→Ls
 |st,[]=>cls st
 |st,n::r=>cls (st.drop (dep n).toNat)++(if n.1=[] then esc n.2.1++prT (st.take (dep n).toNat) r
   else 60::(n.1++(atT n.2.2.1++(if kid n r=true then 62::prT (st.take (dep n).toNat++[n.1]) r else 47::62::prT (st.take (dep n).toNat) r))))
def EM(l:List Nd):Ls×Int:=if qX l≠0 then([],qX l) else if 262144<(prT [] l).length then([],9) else(prT [] l,0)
theorem AY(a b:List Ls):cls (a++b)=cls b++cls a:=by unfold cls; rw[List.reverse_append,List.flatMap_append]
theorem OV(n:Ls):cls [n]=clT n:=by unfold cls; simp
theorem OW:cls []=[]:=rfl
theorem aCC(st:List Ls) (d:Nat):cls st=cls (st.drop d)++cls (st.take d):=by
 rw[←AY,aX7]
theorem aJ6(l:List At):(atT l).length≤6*bkL wtA l:=by
 induction l with
 |nil=>simp[atT]
 |cons a l ih =>
  have h:=vQ a l []
  rw[aZO,aZO] at h
  have he:=OI a.2
  have hb:bkL wtA (a::l)=a.1.length+1+(a.2.length+1)+bkL wtA l:=rfl
  rw[h,hb];simp only[aZA,aYT];omega
theorem OX:∀(l:List Nd) (st:List Ls),(prT st l).length≤(cls st).length+7*bkL wtN l
 | [],st=>by unfold prT; omega
 |n::r,st=>by
  have hc:=congrArg List.length (aCC st (dep n).toNat)
  rw[aYT] at hc
  have i1:=OX r (st.take (dep n).toNat)
  have i2:=OX r (st.take (dep n).toNat++[n.1])
  have h2:(cls (st.take (dep n).toNat++[n.1])).length=n.1.length+3+(cls (st.take (dep n).toNat)).length:=by
   rw[AY,OV,aYT];unfold clT;simp
  have he:=OI n.2.1
  have ha:=aJ6 n.2.2.1
  have hb:bkL wtN (n::r)=n.1.length+1+(n.2.1.length+1+(bkL wtA n.2.2.1+1+1))+bkL wtN r:=rfl
  unfold prT;rw[hb]
  split
  ·rw[aYT,aYT];omega
  ·rw[aYT,aZA,aYT,aYT]
   split
   ·rw[aZA];omega
   ·rw[aZA,aZA];omega
theorem aGU{st:List Ls}(h:st≠[]):gI st 0 (toN ((st.length-1:Nat):Int))=st.dropLast:=by
 simp only[gI,toN,aY8,aZZ];rw[List.dropLast_eq_take]
theorem UT{R:Type}{d:Int}(hd:0≤d) (K:List Ls×Unit×Ls→Option R):∀(fuel:Nat) (st:List Ls) (a:Ls),st.length<fuel→st.length≤300000→a.length+(cls (st.drop d.toNat)).length≤100000000 →
  bI (fun v27 (v28:(List Y_)×Unit×Y_) =>
     cnd (ilt d (len v28.1))
      (grd (inb (w64 (aJ (len v28.1) (1:Int))) (len v28.1))
       (grd (eB (aE (len ([60,47]:Y_)) (len (aA v28.1 (toN (w64 (aJ (len v28.1) (1:Int)))) []))))
        (grd (eB (aE (len (bC ([60,47]:Y_) (aA v28.1 (toN (w64 (aJ (len v28.1) (1:Int)))) []))) (len ([62]:Y_))))
         (bnd (q31 fuelH (((),v28.2.2),bC (bC ([60,47]:Y_) (aA v28.1 (toN (w64 (aJ (len v28.1) (1:Int)))) [])) ([62]:Y_))) fun v29 =>
         grd (in2 (w64 (aJ (len v28.1) (1:Int))) (ofN (kF v28.1))) <|
         v27 (gI v28.1 0 (toN (w64 (aJ (len v28.1) (1:Int)))),(),v29.2.2.2)))))
      (K v28)) fuel (st,(),a)=K (st.take d.toNat,(),a++cls (st.drop d.toNat))
 | 0,_,_,h,_,_=>by omega
 |fuel+1,st,a,h,hl,hb=>by
  rw[gN];dsimp only
  by_cases e:d.toNat<st.length
  ·have hne:st≠[]:=fun k=>by rw[k] at e; simp at e
   obtain⟨n,q1,q2,q3,q4⟩:=vP hne
   have hp:0<st.length:=aYR.2 hne
   have hw:w64 (aJ (len st) 1)=((st.length-1:Nat):Int):=qQ hp (by omega)
   have hg:aA st (toN ((st.length-1:Nat):Int)) []=n:=by rw[bA q3,q4]
   have hdl:st.dropLast.length=st.length-1:=aYG
   have hc:cls (st.drop d.toNat)=clT n++cls (st.dropLast.drop d.toNat):=by
    conv=>lhs; rw[q2]
    rw[List.drop_append_of_le_length (by omega),AY,OV]
   have hcl:=congrArg List.length hc
   rw[aYT] at hcl
   have hT:bC (bC ([60,47]:Y_) n) ([62]:Y_)=clT n:=by unfold clT; simp[bC]
   have hTl:(clT n).length=n.length+3:=by unfold clT; simp
   rw[aD (aV (by simp only[len]; omega)),hw,hg,aF (aY (by simp only[len]; omega)),aF (gZ (by simp only[len,aE,aZA,aZS]; omega)),aF (gZ (by simp only[len,aE,bC,aYT,aZA,aZS]; omega)),hT,mS _ _ (by show a.length+_≤_; omega),aB,aF (mP (by simp only[ofN,kF]; omega)),aGU hne];refine bAM (UT hd K fuel st.dropLast (a++clT n) (by omega) (by omega) (by rw[aYT]; omega)) ?_
   have ht:st.dropLast.take d.toNat=st.take d.toNat:=by
    conv=>rhs; rw[q2]
    rw[List.take_append_of_le_length (by omega)]
   rw[ht,hc,aY3]
  ·rw[aC (aX (by simp only[len]; omega)),aXZ (by omega),aX0 (by omega),OW,aZO]
theorem UU{R:Type}{st:List Ls}(hl:st.length≤300000) (K:Int×Unit×Ls→Option R):∀(fuel k:Nat) (a:Ls),k<fuel→k≤st.length→a.length+(cls (st.take k)).length≤100000000 →
  bI (fun v5 (v6:Int×Unit×Y_) =>
    cnd (ile (0:Int) v6.1)
     (grd (inb v6.1 (len st))
      (grd (eB (aE (len ([60,47]:Y_)) (len (aA st (toN v6.1) []))))
       (grd (eB (aE (len (bC ([60,47]:Y_) (aA st (toN v6.1) []))) (len ([62]:Y_))))
        (bnd (q31 fuelH (((),v6.2.2),bC (bC ([60,47]:Y_) (aA st (toN v6.1) [])) ([62]:Y_))) fun v7 =>
        v5 (w64 (aJ v6.1 (1:Int)),(),v7.2.2.2)))))
     (K v6)) fuel ((k:Int)-1,(),a)=K (-1,(),a++cls (st.take k))
 | 0,_,_,h,_,_=>by omega
 |fuel+1,k,a,h,hk,hb=>by
  rw[gN];dsimp only
  cases k with
  |zero =>
   rw[aC (kA (by omega)),aZ1,OW,aZO];rfl
  |succ k =>
   have hkl:k<st.length:=by omega
   have e0:((k+1:Nat):Int)-1=(k:Int):=by omega
   have e1:w64 (aJ (k:Int) 1)=(k:Int)-1:=by
    simp only[aJ];rw[bU (by omega)]
   have hc:cls (st.take (k+1))=clT st[k]++cls (st.take k):=by rw[aXH hkl,AY,OV]
   have hcl:=congrArg List.length hc
   rw[aYT] at hcl
   have hT:bC (bC ([60,47]:Y_) st[k]) ([62]:Y_)=clT st[k]:=by unfold clT; simp[bC]
   have hTl:(clT st[k]).length=st[k].length+3:=by unfold clT; simp
   rw[e0,aD (gT (by omega)),aF (aY (by simp only[len]; omega)),bA hkl,aF (gZ (by simp only[len,aE,aZA,aZS]; omega)),aF (gZ (by simp only[len,aE,bC,aYT,aZA,aZS]; omega)),hT,mS _ _ (by show a.length+_≤_; omega),aB,e1];refine bAM (UU hl K fuel k (a++clT st[k]) (by omega) (by omega) (by rw[aYT]; omega)) ?_;rw[hc,aY3]
theorem N1{R:Type}{l:List At}(hl:l.length≤1100000) (hv:∀a∈l,a.1.length≤1090000∧a.2.length≤1090000) (K:Int×Unit×Ls→Option R) (a0:Ls) (hb:a0.length+(atT l).length≤100000000) :
  bI (fun v22 (v23:Int×Unit×Y_) =>
        cnd (ilt v23.1 (len l))
         (grd (inb v23.1 (len l))
          (grd (eB (aE (len ([32]:Y_)) (len (aA l (toN v23.1) ([],[])).1)))
           (grd (eB (aE (len (bC ([32]:Y_) (aA l (toN v23.1) ([],[])).1)) (len ([61,34]:Y_))))
            (bnd (q63 fuelH (aA l (toN v23.1) ([],[])).2) fun v24 =>
            grd (eB (aE (len (bC (bC ([32]:Y_) (aA l (toN v23.1) ([],[])).1) ([61,34]:Y_))) (len v24))) <|
            grd (eB (aE (len (bC (bC (bC ([32]:Y_) (aA l (toN v23.1) ([],[])).1) ([61,34]:Y_)) v24)) (len ([34]:Y_)))) <|
            bnd (q31 fuelH (((),v23.2.2),bC (bC (bC (bC ([32]:Y_) (aA l (toN v23.1) ([],[])).1) ([61,34]:Y_)) v24) ([34]:Y_))) fun v25 =>
            v22 (w64 (aE v23.1 (1:Int)),(),v25.2.2.2)))))
         (K v23)) fuelH ((0:Int),(),a0)=K ((l.length:Int),(),a0++atT l):=by
 refine cU (s:=l) (fun (a:Ls) (j:Nat)=>((j:Int),((),a))) (fun a r=>K ((l.length:Int),((),a++atT r))) (fun j a=>a.length+(atT (l.drop j)).length≤100000000) ?_ fuelH 0 a0 (cV (by omega) _) (bAK _) hb;intro self a j hj hI hself;dsimp only
 by_cases hjl:j<l.length
 ·have hw:w64 (aE (j:Int) 1)=((j+1:Nat):Int):=aR hjl (by omega)
  have hva:=hv _ (aZL hjl)
  have hel:=OI (l[j]).2
  have hT:bC (bC (bC (bC ([32]:Y_) (l[j]).1) ([61,34]:Y_)) (esc (l[j]).2)) ([34]:Y_)=32::((l[j]).1++(61::34::(esc (l[j]).2++[34]))):=by simp[bC]
  have hc:atT (l.drop j)=(32::((l[j]).1++(61::34::(esc (l[j]).2++[34]))))++atT (l.drop (j+1)):=by
   rw[aXR hjl];unfold atT;rw[List.flatMap_cons]
  have hcl:=congrArg List.length hc
  rw[aYT] at hcl;rw[aD (aV (by simp only[len]; omega)),aF (aY (by simp only[len]; omega)),bA hjl,aF (gZ (by simp only[len,aE,aZA,aZS]; omega)),aF (gZ (by simp only[len,aE,bC,aYT,aZA,aZS]; omega)),aFZ (by omega),aB,aF (gZ (by simp only[len,aE,bC,aYT,aZA,aZS]; omega)),aF (gZ (by simp only[len,aE,bC,aYT,aZA,aZS]; omega)),hT,mS _ _ (by show a.length+_≤_; omega),aB,hw];refine bAM (hself (a++(32::((l[j]).1++(61::34::(esc (l[j]).2++[34]))))) (j+1) (by omega) (by omega) (by rw[aYT]; omega)) ?_;rw[hc,aY3]
 ·obtain rfl:j=l.length:=by omega
  rw[aC (aX (by simp only[len]; omega)),aZK]
  have:a++atT []=a:=by simp[atT]
  rw[this]
def UV(s:Ls):Option (Ls×Int):=some (if 262144<s.length then([],9) else(s,0))
theorem IJ{n:Nd}(h:elE n=0):nmX n.1=true∧n.2.1=[]∧n.2.2.1.length≤16∧atE [] n.2.2.1=0:=by
 unfold elE at h
 by_cases h1:nmX n.1=false
 ·rw[if_pos h1] at h; cases h
 rw[if_neg h1] at h
 by_cases h2:n.2.1≠[]
 ·rw[if_pos h2] at h; cases h
 rw[if_neg h2] at h
 by_cases h3:16<n.2.2.1.length
 ·rw[if_pos h3] at h; cases h
 rw[if_neg h3] at h;exact⟨by simpa using h1,by simpa using h2,by omega,h⟩
theorem IK{p:Option Nd}{n:Nd}(h:txE p n=0):(∃q,p=some q∧¬(q.1=[]∧dep q=dep n))∧n.2.1≠[]∧n.2.2.1=[]∧vld n.2.1=true:=by
 unfold txE at h
 by_cases h1:txP p n=true
 ·rw[if_pos h1] at h; cases h
 rw[if_neg h1] at h
 by_cases h2:n.2.1=[]
 ·rw[if_pos h2] at h; cases h
 rw[if_neg h2] at h
 by_cases h3:0<n.2.2.1.length
 ·rw[if_pos h3] at h; cases h
 rw[if_neg h3] at h
 by_cases h4:vld n.2.1=false
 ·rw[if_pos h4] at h; cases h
 refine⟨?_,h2,aXI (by omega),by simpa using h4⟩
 cases p with
 |none=>exact absurd rfl h1
 |some q=>exact⟨q,rfl,fun k=>h1 (decide_eq_true k)⟩
theorem aGV{p:Option Nd}{n:Nd}(h:ndE p n=0) (hn:n.1≠[]):elE n=0:=by
 have hd:=mT h
 unfold ndE at h;rw[if_neg (by rw[hd]; simp),if_pos hn] at h;exact h
theorem OY{p:Option Nd}{n:Nd}(h:ndE p n=0) (hn:n.1=[]):txE p n=0:=by
 have hd:=mT h
 unfold ndE at h;rw[if_neg (by rw[hd]; simp),if_neg (by rw[hn]; simp)] at h;exact h
theorem aGW{l:List Nd}(hsm:∀n∈l,smN n) (hs:bkL wtN l≤3000000):q65 fuelH l=some (EM l):=by
 have hll:l.length≤3000000:=bAA (NT (f:=wtN) (fun n=>by unfold wtN; omega) l) hs
 unfold q65 EM;rw[UJ (by omega) hsm,aB]
 by_cases hc:qX l=0
 ·obtain⟨h0,h8,hat⟩:=xZ hc
  have hd:=ON hat
  have htot:=OX l []
  have hc0:(cls []).length=0:=rfl
  rw[aC (cL hc),if_neg (fun k=>k hc),bT]
  have hfin:∀s:Ls,UV s=some (if 262144<s.length then([],9) else(s,0)):=fun _=>rfl
  have hgoal:(some (if 262144<(prT [] l).length then(([]:Ls),(9:Int)) else(prT [] l,0)))=UV ([]++prT [] l):=rfl
  rw[hgoal];refine cU (s:=l) (fun (p:List Ls×Ls) (i:Nat)=>(p.1,((i:Int),((),p.2)))) (fun p r=>UV (p.2++prT p.1 r)) (fun i p=>p.1.length≤i∧p.2.length+(prT p.1 (l.drop i)).length≤100000000) ?_ fuelH 0 ([],[]) (cV (by omega) _) (bAK _) ⟨bAK _,by rw[aZZ]; simp; omega⟩;intro self p i hi hI hself;obtain⟨st,a⟩:=p;dsimp only at hI ⊢
  by_cases hil:i<l.length
  ·have hw:w64 (aE (i:Int) 1)=((i+1:Nat):Int):=aR hil (by omega)
   have hin:inb (i:Int) (len l)=true:=aY (by simp only[len]; omega)
   have hn:=hsm _ (aZL hil)
   have hdi:0≤(l[i]).2.2.2∧(l[i]).2.2.2≤15:=hd.high i hil
   have hb:=hI.2
   rw[aXR hil] at hb ⊢
   have hpr:prT st (l[i]::l.drop (i+1))=cls (st.drop (dep l[i]).toNat)++(if(l[i]).1=[] then esc (l[i]).2.1++prT (st.take (dep l[i]).toNat) (l.drop (i+1))
   else 60::((l[i]).1++(atT (l[i]).2.2.1++(if kid l[i] (l.drop (i+1))=true then 62::prT (st.take (dep l[i]).toNat++[(l[i]).1]) (l.drop (i+1)) else 47::62::prT (st.take (dep l[i]).toNat) (l.drop (i+1)))))):=rfl
   have hbl:=hb
   rw[hpr,aYT] at hbl;rw[aD (aV (by simp only[len]; omega)),bT,aF hin,bT];simp only[vO hil];refine bAM (UT hdi.1 _ fuelH st a (by have:=bG; have:=hI.1; omega) (by have:=hI.1; omega) (by have:dep l[i]=(l[i]).2.2.2:=rfl; rw[this] at hbl; omega)) ?_;dsimp only
   have hdd:(l[i]).2.2.2=dep l[i]:=rfl
   rw[hdd,hpr];generalize hst:st.take (dep l[i]).toNat=s2 at *
   have hs2:s2.length≤i:=by rw[←hst,aZD]; have:=hI.1; omega
   generalize cls (st.drop (dep l[i]).toNat)=c at *
   by_cases he:(l[i]).1=[]
   ·rw[if_pos he] at hbl ⊢;rw[aYT] at hbl;rw[aD (by rw[cX]; exact he),aFZ (by have:=hn.tx; omega),aB,mS _ _ (by rw[aYT]; omega),aB];dsimp only;rw[hw];refine bAM (hself (s2,a++c++esc (l[i]).2.1) (i+1) (by omega) (by omega) ⟨by show s2.length≤_; omega,?_⟩) ?_
    ·show(a++c++esc (l[i]).2.1).length+(prT s2 (l.drop (i+1))).length≤100000000;rw[aYT,aYT];omega
    ·show UV (a++c++esc (l[i]).2.1++prT s2 (l.drop (i+1)))=_;rw[aY3,aY3]
   ·rw[if_neg he] at hbl ⊢;rw[aZA,aYT,aYT] at hbl
    have hnm:=hn.nm
    rw[aC (by rw[cB]; simpa using he),aF (gZ (by simp only[len,aE,aZA,aZS]; omega))]
    have hl60:bC ([60]:Y_) (l[i]).1=60::(l[i]).1:=rfl
    rw[hl60,mS _ _ (by rw[aYT,aZA]; omega),aB,bT];refine bAM (N1 (by have:=hn.asz; omega) hn.an _ _ (by rw[aYT,aYT,aZA]; omega)) ?_;dsimp only
    -- whether there are children
    have leaf:kid l[i] (l.drop (i+1))=false→(bnd (q31 fuelH (((),a++c++(60::(l[i]).1)++atT (l[i]).2.2.1),([47,62]:Y_))) fun v19=>self (s2,w64 (aE (i:Int) 1),(),v19.2.2.2))=UV (a++(c++(60::((l[i]).1++(atT (l[i]).2.2.1++(if kid l[i] (l.drop (i+1))=true then 62::prT (s2++[(l[i]).1]) (l.drop (i+1)) else 47::62::prT s2 (l.drop (i+1)))))))):=fun hk=>by
     rw[hk,if_neg (by decide)] at hbl ⊢;rw[aZA,aZA] at hbl;rw[mS _ _ (by rw[aYT,aYT,aYT,aZA,aZA,aZA,aZS]; omega),aB,hw];dsimp only;refine bAM (hself (s2,a++c++(60::(l[i]).1)++atT (l[i]).2.2.1++[47,62]) (i+1) (by omega) (by omega) ⟨by show s2.length≤_; omega,?_⟩) ?_
     ·show(a++c++(60::(l[i]).1)++atT (l[i]).2.2.1++[47,62]).length+(prT s2 (l.drop (i+1))).length≤100000000;rw[aYT,aYT,aYT,aYT,aZA,aZA,aZA,aZS];omega
     ·show UV (a++c++(60::(l[i]).1)++atT (l[i]).2.2.1++[47,62]++prT s2 (l.drop (i+1)))=_;congr 1;simp
    by_cases h1:i+1<l.length
    ·have hin1:inb ((i+1:Nat):Int) (len l)=true:=aY (by simp only[len]; omega)
     have hkd:kid l[i] (l.drop (i+1))=decide (dep l[i]<dep l[i+1]):=by
      rw[aXR h1];rfl
     rw[hw,aD (aV (by simp only[len]; omega)),aF hin1,vO h1]
     by_cases h2:dep l[i]<dep l[i+1]
     ·have hk:kid l[i] (l.drop (i+1))=true:=by rw[hkd]; exact decide_eq_true h2
      rw[hk,if_pos rfl] at hbl ⊢;rw[aZA] at hbl;rw[aD (aV (show dep l[i]<(l[i+1]).2.2.2 from h2)),mS _ _ (by rw[aYT,aYT,aYT,aZA,aZA,aZS]; omega),aB,aF (dD (by simp only[len,aE,aZA,aZS]; omega))];dsimp only;refine bAM (hself (s2++[(l[i]).1],a++c++(60::(l[i]).1)++atT (l[i]).2.2.1++[62]) (i+1) (by omega) (by omega) ⟨by show(s2++[(l[i]).1]).length≤_; rw[aYT,aZA,aZS]; omega,?_⟩) ?_
      ·show(a++c++(60::(l[i]).1)++atT (l[i]).2.2.1++[62]).length+(prT (s2++[(l[i]).1]) (l.drop (i+1))).length≤100000000;rw[aYT,aYT,aYT,aYT,aZA,aZA,aZS];omega
      ·show UV (a++c++(60::(l[i]).1)++atT (l[i]).2.2.1++[62]++prT (s2++[(l[i]).1]) (l.drop (i+1)))=_;congr 1;simp
     ·rw[aC (aX (show ¬dep l[i]<(l[i+1]).2.2.2 from h2)),←hw];exact leaf (by rw[hkd]; exact decide_eq_false h2)
    ·have hkd:kid l[i] (l.drop (i+1))=false:=by
      rw[aX0 (by omega)];rfl
     rw[aC (aX (by rw[hw]; simp only[len]; omega))];exact leaf hkd
  ·obtain rfl:i=l.length:=by omega
   have hb:=hI.2
   rw[aZK] at hb ⊢
   have hpr:prT st []=cls st:=rfl
   rw[hpr] at hb ⊢
   have e1:w64 (aJ (len st) 1)=(st.length:Int)-1:=by
    have:=hI.1
    simp only[aJ,len];rw[bU (by omega)]
   rw[aC (aX (by simp only[len]; omega)),bT,e1];refine bAM (UU (by have:=hI.1; omega) _ fuelH st.length a (by have:=bG; have:=hI.1; omega) (bAJ _) (by rw[aZH]; omega)) ?_;rw[aZH]
   have hlen:q64 fuelH ((),a++cls st)=some (len (a++cls st),(),a++cls st):=rfl
   dsimp only;rw[hlen,aB];unfold UV
   by_cases h9:262144<(a++cls st).length
   ·rw[aD (aV (by simp only[len]; omega)),if_pos h9]
   ·rw[aC (aX (by simp only[len]; omega)),if_neg h9]
 ·rw[aD (cA hc),if_pos hc]
theorem aGX:∀(l:List At) (seen:List Ls),atE seen l=0→(∀a∈l,nmX a.1=true∧vld a.2=true∧a.1 ∉ seen)∧(l.map Prod.fst).Nodup
 | [],_,_=>⟨fun a ha=>(by cases ha),by simp⟩
 |a::l,seen,h=>by
  unfold atE at h
  by_cases h1:nmX a.1=false
  ·rw[if_pos h1] at h; cases h
  rw[if_neg h1] at h
  by_cases h2:a.1∈seen
  ·rw[if_pos h2] at h; cases h
  rw[if_neg h2] at h
  by_cases h3:vld a.2=false
  ·rw[if_pos h3] at h; cases h
  rw[if_neg h3] at h;obtain⟨i1,i2⟩:=aGX l _ h;refine⟨fun b hb=>?_,?_⟩
  ·rcases aZ4.1 hb with rfl|hb
   ·exact⟨by simpa using h1,by simpa using h3,h2⟩
   ·obtain⟨q1,q2,q3⟩:=i1 b hb;exact⟨q1,q2,fun k=>q3 (aYI _ k)⟩
  ·rw[aZ5,List.nodup_cons];refine⟨fun k=>?_,i2⟩;obtain⟨b,hb,e⟩:=List.mem_map.1 k;exact(i1 b hb).2.2 (by rw[e]; simp)
theorem aJ7{n:Nd}(h:elE n=0):AtOk n.2.2.1:=by
 obtain⟨_,_,h3,h4⟩:=IJ h;obtain⟨i1,i2⟩:=aGX _ _ h4;exact⟨fun a ha=>(i1 a ha).1,fun a ha=>(i1 a ha).2.1,i2,h3⟩
theorem IL{n:Nat}{nodes:List Nd}{X:Ls}:∀(qs s1:List Ls) (j:Bool),(∀x∈qs,nmX x=true) →
  mI n (nodes,s1++qs.reverse,j) (qs.flatMap clT++X)=mI n (nodes,s1,if qs=[] then j else false) X
 | [],s1,j,_=>by simp
 |q::qs,s1,j,h=>by
  have hq:=h q aYX
  have e1:(q::qs).flatMap clT++X=60::47::(q++62::(qs.flatMap clT++X)):=by
   rw[List.flatMap_cons];unfold clT;simp
  have e2:s1++(q::qs).reverse=(s1++qs.reverse)++[q]:=by simp
  rw[e1,e2,AX (aCA hq) (fun f=>aGT f hq (by simp))]
  have e3:((s1++qs.reverse)++[q]).dropLast=s1++qs.reverse:=List.dropLast_concat
  show mI n (nodes,((s1++qs.reverse)++[q]).dropLast,false) _=_
  have e5:(if qs=[] then false else false)=false:=by split<;>rfl
  rw[e3,IL qs s1 false fun x hx=>h x (aYE _ hx),e5,if_neg (List.cons_ne_nil _ _)]
theorem EN{n:Nat}{nodes:List Nd}{X:Ls}(s1 ps:List Ls) (j:Bool) (h:∀x∈ps,nmX x=true) :
  mI n (nodes,s1++ps,j) (cls ps++X)=mI n (nodes,s1,if ps=[] then j else false) X:=by
 have:=IL (n:=n) (nodes:=nodes) (X:=X) ps.reverse s1 j (fun x hx=>h x (List.mem_reverse.1 hx))
 rw[List.reverse_reverse] at this;unfold cls;rw[this];simp
structure BK (p:Ps) (prev:Option Nd) (r:List Nd):Prop where
 ck:ckE prev r=0
 nm:∀x∈p.2.1,nmX x=true
 lo:∀m r',r=m::r'→dep m≤(p.2.1.length:Int)
 jn:p.2.2=true→∃q,prev=some q∧q.1=[]∧dep q=(p.2.1.length:Int)∧1≤dep q
 no:prev=none→p.1=[]∧p.2.1=[]
 ro:p.1.length+r.length≤8192
theorem vR{p:Option Nd}{n:Nd}{r:List Nd}(h:ckE p (n::r)=0):ndE p n=0∧ckE (some n) r=0:=by
 have h:(if ndE p n≠0 then ndE p n else ckE (some n) r)=0:=h
 by_cases e:ndE p n=0
 ·rw[if_neg (fun k=>k e)] at h;exact⟨e,h⟩
 ·rw[if_pos e] at h;exact absurd h e
theorem qY{q n:Nd}(h:ndE (some q) n=0):1≤dep n∧dep n≤15∧(q.1=[]→dep n≤dep q)∧dep n≤dep q+1:=by
 have h:=mT h
 have h:(if dep n<1 then(8:Int) else if(if q.1≠[] then dep q+1 else dep q)<dep n then 8 else if 15<dep n then 9 else 0)=0:=h
 by_cases e1:dep n<1
 ·rw[if_pos e1] at h; cases h
 rw[if_neg e1] at h
 by_cases e2:(if q.1≠[] then dep q+1 else dep q)<dep n
 ·rw[if_pos e2] at h; cases h
 rw[if_neg e2] at h
 by_cases e3:15<dep n
 ·rw[if_pos e3] at h; cases h
 by_cases e4:q.1=[]
 ·rw[if_neg (fun k=>k e4)] at e2;exact⟨by omega,by omega,fun _=>by omega,by omega⟩
 ·rw[if_pos e4] at e2;exact⟨by omega,by omega,fun k=>absurd k e4,by omega⟩
theorem aGY{n:Nd}(h:ndE none n=0):dep n=0:=by
 have h:=mT h
 have h:(if dep n≠0 then(8:Int) else 0)=0:=h
 by_cases e:dep n=0
 ·exact e
 ·rw[if_pos e] at h; cases h
theorem aGZ{st:List Ls}(h:st≠[]):∃t,cls st=60::t:=by
 unfold cls
 match hq:st.reverse with
 | []=>exact absurd (List.reverse_eq_nil_iff.1 hq) h
 |q::qs=>exact⟨_,by rw[List.flatMap_cons]; rfl⟩
theorem aPP{n:Nd}{r:List Nd}{st:List Ls}{tail:Ls}(hc:ckE (some n) r=0) (hn:n.1=[]) (hst:(st.length:Int)=dep n) (h1:1≤dep n):∃t,prT st r++tail=60::t:=by
 have hne:st≠[]:=fun k=>by rw[k] at hst; simp at hst; omega
 match r with
 | [] =>
  obtain⟨t,ht⟩:=aGZ hne;exact⟨_,by show cls st++tail=_; rw[ht]; rfl⟩
 |m::r =>
  obtain⟨k1,_⟩:=vR hc
  have hd:=qY k1
  have hdm:=hd.2.2.1 hn
  unfold prT
  by_cases e:dep m=dep n
  ·have hm:m.1≠[]:=fun q=>by
    obtain⟨⟨q',e1,e2⟩,_⟩:=IK (OY k1 q);injection e1 with e1;exact e2 ⟨by rw[←e1]; exact hn,by rw[←e1]; exact e.symm⟩
   have hnil:st.drop (dep m).toNat=[]:=aX0 (by omega)
   rw[hnil,OW,if_neg hm];exact⟨_,rfl⟩
  ·have hne2:st.drop (dep m).toNat≠[]:=fun k=>by
    have:=congrArg List.length k
    rw[aZE,aZS] at this;omega
   obtain⟨t,ht⟩:=aGZ hne2;rw[ht];exact⟨_,rfl⟩
theorem vS{n:Nat}{tail:Ls}:∀(r:List Nd) (p:Ps) (prev:Option Nd),BK p prev r→mI n p (prT p.2.1 r++tail)=mI n (p.1++r,[],false) tail
 | [],p,prev,hB=>by
  obtain⟨nodes,st,j⟩:=p
  have h:=EN (n:=n) (nodes:=nodes) (X:=tail) [] st j hB.nm
  rw[aZT] at h;refine bAM h ?_;rw[aZO]
  have hj:(if st=[] then j else false)=false:=by
   by_cases e:st=[]
   ·rw[if_pos e]
    cases hj:j with
    |false=>rfl
    |true =>
     obtain⟨q,_,_,h3,h4⟩:=hB.jn hj;rw[e] at h3;simp at h3;omega
   ·rw[if_neg e]
  rw[hj]
 |m::r,p,prev,hB=>by
  obtain⟨nodes,st,j⟩:=p;obtain⟨k1,k2⟩:=vR hB.ck
  have hlo:dep m≤(st.length:Int):=hB.lo m r rfl
  have hdm:=OM (mT k1)
  have hro:nodes.length+(m::r).length≤8192:=hB.ro
  rw[aZA] at hro
  have hnm:∀x∈st,nmX x=true:=hB.nm
  have hcl:=EN (n:=n) (nodes:=nodes) (X:=((if m.1=[] then esc m.2.1++prT (st.take (dep m).toNat) r
   else 60::(m.1++(atT m.2.2.1++(if kid m r=true then 62::prT (st.take (dep m).toNat++[m.1]) r else 47::62::prT (st.take (dep m).toNat) r))))++tail)) (st.take (dep m).toNat) (st.drop (dep m).toNat) j (fun x hx=>hnm x (aYJ hx))
  rw[aX7] at hcl
  have hpr:prT st (m::r)++tail=cls (st.drop (dep m).toNat)++((if m.1=[] then esc m.2.1++prT (st.take (dep m).toNat) r
   else 60::(m.1++(atT m.2.2.1++(if kid m r=true then 62::prT (st.take (dep m).toNat++[m.1]) r else 47::62::prT (st.take (dep m).toNat) r))))++tail):=by
   rw[←aY3];rfl
  show mI n (nodes,st,j) (prT st (m::r)++tail)=mI n (nodes++m::r,[],false) tail;rw[hpr,hcl]
  have hs2l:(st.take (dep m).toNat).length=(dep m).toNat:=by rw[aZD]; omega
  have hs2n:∀x∈st.take (dep m).toNat,nmX x=true:=fun x hx=>hnm x (aYH hx)
  have hdrop:st.drop (dep m).toNat=[]↔dep m=(st.length:Int):=by
   rw[List.drop_eq_nil_iff];omega
  generalize hj2:(if st.drop (dep m).toNat=[] then j else false)=j2;generalize st.take (dep m).toNat=s2 at *
  have hfin:nodes++m::r=(nodes++[m])++r:=by simp
  rw[hfin]
  by_cases he:m.1=[]
  ·obtain⟨⟨q,hq,hnot⟩,ht1,ht2,ht3⟩:=IK (OY k1 he)
   have hds:=qY (by rw[←hq]; exact k1)
   have hj3:j2=false:=by
    cases hjj:j2 with
    |false=>rfl
    |true =>
     rw[hjj] at hj2
     by_cases hdr:st.drop (dep m).toNat=[]
     ·rw[if_pos hdr] at hj2;obtain⟨q',e1,e2,e3,_⟩:=hB.jn hj2;rw[hq] at e1;injection e1 with e1;subst e1
      have hdl:=hdrop.1 hdr
      exact absurd ⟨e2,by have e3:dep q=(st.length:Int):=e3; omega⟩ hnot
     ·rw[if_neg hdr] at hj2;cases hj2
   have hs2:s2≠[]:=fun k=>by rw[k] at hs2l; simp at hs2l; omega
   rw[hj3,if_pos he];obtain⟨t,ht⟩:=aPP (tail:=tail) k2 he (st:=s2) (by omega) hds.1
   have hcat:esc m.2.1++prT s2 r++tail=esc m.2.1++60::t:=by rw[aY3,ht]
   have hroom:jA (nodes,s2,false) true=0:=by
    unfold jA;dsimp only;rw[if_neg (fun k=>hs2 k.1),if_neg (by omega),if_neg (by omega)]
   rw[hcat,AX (N0 ht1) (fun f=>aCB (p:=(nodes,s2,false)) f ht3 hs2 rfl hroom),←ht]
   have hnode:(([]:Ls),m.2.1,([]:List At),(s2.length:Int))=m:=by
    obtain⟨a,b,c,d⟩:=m
    have e1:a=[]:=he
    have e2:c=[]:=ht2
    have e3:(s2.length:Int)=d:=by
     have:dep (a,b,c,d)=d:=rfl
     omega
    rw[e1,e2,e3]
   show mI n (nodes++[(([]:Ls),m.2.1,([]:List At),(s2.length:Int))],s2,true) (prT s2 r++tail)=_;rw[hnode];refine vS r (nodes++[m],s2,true) (some m) ⟨k2,hs2n,fun m' r' hr=>?_,fun _=>⟨m,rfl,he,by show dep m=(s2.length:Int); omega,hds.1⟩,fun k=>(by cases k),?_⟩
   ·subst hr
    have:=(qY (vR k2).1).2.2.1 he
    show dep m'≤(s2.length:Int);omega
   ·show(nodes++[m]).length+r.length≤_;rw[aYT,aZA,aZS];omega
  ·have hel:=aGV k1 he
   obtain⟨hn1,hn2,_,_⟩:=IJ hel
   have hat:=aJ7 hel
   rw[if_neg he]
   have hroom:jA (nodes,s2,j2) false=0:=by
    unfold jA;dsimp only
    have c1:¬(s2=[]∧(false=true∨nodes≠[])):=fun k=>by
     rcases k.2 with q|q
     ·cases q
     ·cases hp:prev with
      |none=>exact q (hB.no hp).1
      |some q' =>
       have:=(qY (by rw[←hp]; exact k1)).1
       have h0:=k.1
       rw[h0] at hs2l;simp at hs2l;omega
    rw[if_neg c1,if_neg (by omega),if_neg (by omega)]
   have hnode:((m.1,([]:Ls),m.2.2.1,(s2.length:Int)):Nd)=m:=by
    obtain⟨a,b,c,d⟩:=m
    have e1:b=[]:=hn2
    have e3:(s2.length:Int)=d:=by
     have:dep (a,b,c,d)=d:=rfl
     omega
    rw[e1,e3]
   by_cases hk:kid m r=true
   ·rw[if_pos hk]
    have hcat:60::(m.1++(atT m.2.2.1++62::prT (s2++[m.1]) r))++tail=60::(m.1++(atT m.2.2.1++([62]++(prT (s2++[m.1]) r++tail)))):=by simp
    rw[hcat,AX (zD (.inl ⟨rfl,rfl⟩) hn1 hat.nm) (fun f=>EL (p:=(nodes,s2,j2)) f (.inl rfl) hn1 hat hroom)];show mI n (nodes++[(m.1,([]:Ls),m.2.2.1,(s2.length:Int))],if(1:Int)=1 then s2++[m.1] else s2,false) _=_;rw[hnode,if_pos rfl];refine vS r (nodes++[m],s2++[m.1],false) (some m) ⟨k2,fun x hx=>?_,fun m' r' hr=>?_,fun k=>(by cases k),fun k=>(by cases k),?_⟩
    ·rcases aZN.1 hx with h|h
     ·exact hs2n x h
     ·simp at h;rw[h];exact hn1
    ·subst hr
     have:=(qY (vR k2).1).2.2.2
     show dep m'≤((s2++[m.1]).length:Int);rw[aYT,aZA,aZS];omega
    ·show(nodes++[m]).length+r.length≤_;rw[aYT,aZA,aZS];omega
   ·rw[if_neg hk]
    have hcat:60::(m.1++(atT m.2.2.1++47::62::prT s2 r))++tail=60::(m.1++(atT m.2.2.1++([47,62]++(prT s2 r++tail)))):=by simp
    rw[hcat,AX (zD (.inr ⟨rfl,rfl⟩) hn1 hat.nm) (fun f=>EL (p:=(nodes,s2,j2)) f (.inr rfl) hn1 hat hroom)];show mI n (nodes++[(m.1,([]:Ls),m.2.2.1,(s2.length:Int))],if(3:Int)=1 then s2++[m.1] else s2,false) _=_;rw[hnode,if_neg (by decide)];refine vS r (nodes++[m],s2,false) (some m) ⟨k2,hs2n,fun m' r' hr=>?_,fun k=>(by cases k),fun k=>(by cases k),?_⟩
    ·subst hr
     have:¬dep m<dep m':=fun q=>hk (decide_eq_true q)
     show dep m'≤(s2.length:Int);omega
    ·show(nodes++[m]).length+r.length≤_;rw[aYT,aZA,aZS];omega
theorem aCD{n:Nat}{tail:Ls}{l:List Nd}(h:qX l=0):mI n p0 (prT [] l++tail)=mI n (l,[],false) tail:=by
 obtain⟨h0,h8,_⟩:=xZ h
 have hc:ckE none l=0:=by
  unfold qX at h;rw[if_neg (by omega),if_neg (by omega)] at h;exact h
 have:=vS (n:=n) (tail:=tail) l p0 none ⟨hc,fun x hx=>(by cases hx),fun m r hr=>?_,fun k=>(by cases k),fun _=>⟨rfl,rfl⟩,by show 0+l.length≤_; omega⟩
 ·exact this
 ·subst hr
  have:=aGY (vR hc).1
  rw[this];exact Int.le_refl _
theorem UW{l:List Nd}(h:qX l=0) (hl:(prT [] l).length≤262144):aJZ (prT [] l)=(l,[]):=by
 have hb:=aCD (n:=(prT [] l).length) (tail:=[]) h
 rw[aZO,UR] at hb;unfold aJZ;rw[if_neg (by omega),hb]
 have hne:¬(l=[]∨([]:List Ls)≠[]):=fun k=>by
  rcases k with k|k
  ·have:=(xZ h).1
   rw[k] at this;simp at this
  ·exact k rfl
 rw[if_neg hne];rfl
structure Vp (i:Nat) (p:Ps):Prop where
 ck:ckE none p.1=0
 ln:p.1.length≤8192
 em:p.1=[]→p.2.1=[]∧p.2.2=false
 la:∀q,p.1.getLast?=some q→(p.2.1.length:Int)≤(if q.1≠[] then dep q+1 else dep q)∧((q.1=[]∧dep q=(p.2.1.length:Int))↔p.2.2=true)
 wt:bkL wtN p.1≤10*i
theorem Vp.mono{i j:Nat}{p:Ps}(h:Vp i p) (hj:i≤j):Vp j p:=⟨h.ck,h.ln,h.em,h.la,by have:=h.wt; omega⟩
structure TokNm (s:Ls) (t:Tok) (r:Ls):Prop where
 nm:t.2.1.length≤s.length
 an:∀a∈t.2.2.1,a.1.length≤s.length
 tx:t.1=0→t.2.2.2=s.take (s.length-r.length)
 kd:t.1=0∨t.1=1∨t.1=2∨t.1=3∨t.1=4
structure NdOk (p:Ps):Prop where
 nl:p.1.length≤8192
 al:∀n∈p.1,n.2.2.1.length≤16
 st:p.2.1≠[]→p.1≠[]
 jn:p.2.2=true→p.1≠[]
def aJ8(d:Doc):Doc:=(d.1,d.2.1,d.2.2.1,d.2.2.2.1,d.2.2.2.2.1,d.2.2.2.2.2.1.take 6,d.2.2.2.2.2.2.1.take 5,d.2.2.2.2.2.2.2.take 4)
theorem aPQ(d:Doc):rP fuelH d=some (aJ8 d):=by
 unfold rP aJ8;obtain⟨e1,e2⟩:=DT d.2.2.2.2.2.2.1 5;obtain⟨e3,e4⟩:=DT d.2.2.2.2.2.2.2 4;obtain⟨e5,e6⟩:=DT d.2.2.2.2.2.1 6
 have e1:bL (toN (gO (len d.2.2.2.2.2.2.1) (5:Int))) d.2.2.2.2.2.2.1=_:=e1
 have e3:bL (toN (gO (len d.2.2.2.2.2.2.2) (4:Int))) d.2.2.2.2.2.2.2=_:=e3
 have e5:bL (toN (gO (len d.2.2.2.2.2.1) (6:Int))) d.2.2.2.2.2.1=_:=e5
 rw[aF (show in2 (gO (len d.2.2.2.2.2.2.1) (5:Int)) (len d.2.2.2.2.2.2.1)=true from e2),aF (show in2 (gO (len d.2.2.2.2.2.2.2) (4:Int)) (len d.2.2.2.2.2.2.2)=true from e4),aF (show in2 (gO (len d.2.2.2.2.2.1) (6:Int)) (len d.2.2.2.2.2.1)=true from e6),e1,e3,e5]
structure FewD (d:Doc):Prop where
 reg:d.2.2.2.2.2.1.length≤6
 ev:d.2.2.2.2.2.2.1.length≤5
 cm:d.2.2.2.2.2.2.2.length≤4
 wt:wtD d≤1048576
theorem aJ9{d:Doc}(hb:wtD d≤1048576):FewD (aJ8 d):=by
 have h1:bkL wtG (d.2.2.2.2.2.1.take 6)≤_:=AS 6 _
 have h2:bkL wtX (d.2.2.2.2.2.2.1.take 5)≤_:=AS 5 _
 have h3:bkL wtC (d.2.2.2.2.2.2.2.take 4)≤_:=AS 4 _
 unfold wtD at hb;refine⟨?_,?_,?_,?_⟩
 ·show(d.2.2.2.2.2.1.take 6).length≤6; rw[aZD]; omega
 ·show(d.2.2.2.2.2.2.1.take 5).length≤5; rw[aZD]; omega
 ·show(d.2.2.2.2.2.2.2.take 4).length≤4; rw[aZD]; omega
 ·show d.1.length+1+(d.2.1.length+1+(1+(1+(1+(bkL wtG (d.2.2.2.2.2.1.take 6)+1+(bkL wtX (d.2.2.2.2.2.2.1.take 5)+1+(bkL wtC (d.2.2.2.2.2.2.2.take 4)+1)))))))≤1048576;omega
theorem EO{d:Doc}(hb:wtD d≤1048576):tW d:=by
 unfold wtD at hb
 have hg:d.2.2.2.2.2.1.length≤bkL wtG d.2.2.2.2.2.1:=NT (fun x=>by unfold wtG; omega) _
 refine⟨by omega,by omega,fun x hx=>?_,fun c hc=>?_⟩
 ·have h1:1+(1+1+(x.2.2.1.length+1+(1+(x.2.2.2.2.1.length+1+(bkL wtR x.2.2.2.2.2+1)))))≤bkL wtX d.2.2.2.2.2.2.1:=tU (f:=wtX) hx
  intro r hr
  have h2:bkL wtU r+1≤bkL wtR x.2.2.2.2.2:=tU (f:=wtR) hr
  have h3:=aJA r
  have h4:=aFI r
  exact⟨aFH (l:=x.2.2.2.2.2) (B:=1048576) (by omega) (by omega) r hr,by omega⟩
 ·have h1:1+(1+(1+(1+(c.2.2.2.2.1.length+1+(c.2.2.2.2.2.1.length+1+(1+1))))))≤bkL wtC d.2.2.2.2.2.2.2:=tU (f:=wtC) hc
  omega
theorem qZ{α:Type}(f:α→Nat):∀a b:List α,bkL f (a++b)=bkL f a+bkL f b
 | [],b=>by simp[bkL]
 |x::a,b=>by simp only[aZC,bkL,qZ f a b]; omega
theorem vT{α β:Type}{f:β→Nat}{w:α→Nat}{g:α→List β}{c:Nat}:∀l:List α,(∀x∈l,bkL f (g x)≤c+w x)→bkL f (l.flatMap g)≤l.length*c+bkL w l
 | [],_=>by simp[bkL]
 |x::l,h=>by
  rw[List.flatMap_cons,qZ,aZA,bAH,bAI]
  have:=h x aYX
  have:=vT (w:=w) l fun y hy=>h y (aYE _ hy)
  simp only[bkL];omega
theorem V9:∀l:List At,bkL wtA (fM l)≤bkL wtA l
 | []=>bAJ _
 |a::l=>by
  have:=V9 l
  show bkL wtA (kO a++fM l)≤_;rw[qZ];unfold kO;simp only[bkL]
  split<;>simp only[bkL]<;>omega
theorem UX(k:Int) (n:Y_) (l:List At):bkL wtN [elQ k n l]≤n.length+4+bkL wtA l:=by
 have:=V9 l
 simp only[bkL,elQ,wtN,aZS];omega
theorem aG0(c:UInt8) (h:n8 c≤6):(EE c).length≤7:=by
 have:=eN (P:=fun c=>decide (n8 c≤6→(EE c).length≤7)) (by rfl) c
 exact of_decide_eq_true this h
theorem aG1(c:UInt8):(sF c).length≤8:=of_decide_eq_true (eN (P:=fun c=>decide ((sF c).length≤8)) (by rfl) c)
theorem aG2(c:UInt8):(oA c).length≤6:=of_decide_eq_true (eN (P:=fun c=>decide ((oA c).length≤6)) (by rfl) c)
theorem aG3(c:UInt8):(sG c).length≤6:=of_decide_eq_true (eN (P:=fun c=>decide ((sG c).length≤6)) (by rfl) c)
theorem EP(b:Bool):(OJ b).length≤1:=by cases b<;>simp[OJ]
theorem aKA{u:Run}(h:n8 u.2.1.1≤6):bkL wtN (runN u)≤60+wtU u:=by
 have h1:=UX 3 [114,117,110] (kL u)
 have h2:=aG0 _ h
 have h3:=EP u.2.1.2.1
 have h4:=EP u.2.1.2.2
 have e:runN u=[elQ 3 [114,117,110] (kL u)]++[([],u.1,[],4)]:=rfl
 rw[e,qZ];simp only[bkL,kL,wtA,wtN,wtU,aZS,aZA] at h1 ⊢;omega
theorem aKB{r:Row}(h:r.length≤16) (hu:∀u∈r,n8 u.2.1.1≤6):bkL wtN (rowN r)≤980+wtR r:=by
 have h1:=UX 2 [114,111,119] []
 have h2:=vT (f:=wtN) (w:=wtU) (g:=runN) (c:=60) r fun u h=>aKA (hu u h)
 have e:rowN r=[elQ 2 [114,111,119] []]++r.flatMap runN:=rfl
 rw[e,qZ];simp only[wtR,bkL,aZA,aZS] at h1 ⊢;omega
theorem aPR{x:Ev}(h:0≤x.1) (ha:0≤x.2.1.1) (hb:0≤x.2.1.2) (h1:x.2.2.2.2.2.length≤4) (hl:∀l∈x.2.2.2.2.2,l.length≤16∧∀u∈l,n8 u.2.1.1≤6):bkL wtN (evN x)≤4200+wtX x:=by
 have h2:=UX 1 [112] (evA x)
 have h3:=vT (f:=wtN) (w:=wtR) (g:=rowN) (c:=980) x.2.2.2.2.2 fun r h=>aKB (hl r h).1 (hl r h).2
 have e:evN x=[elQ 1 [112] (evA x)]++x.2.2.2.2.2.flatMap rowN:=rfl
 have i1:=gV h
 have i2:=gV ha
 have i3:=gV hb
 have i4:=aG1 x.2.2.2.1
 rw[e,qZ];simp only[wtX,bkL,evA,wtA,aZA,aZS,aYT] at h2 ⊢;omega
theorem aKC{r:Reg}(h1:0≤r.2.1) (h2:0≤r.2.2.1) (h3:0≤r.2.2.2.1) (h4:0≤r.2.2.2.2.1):bkL wtN (qW r)≤200+wtG r:=by
 have h:=UX 1 [114,101,103,105,111,110] (kM r)
 have i1:=gV h1
 have i2:=gV h2
 have i3:=gV h3
 have i4:=gV h4
 have i5:=aG3 r.2.2.2.2.2.1
 have i6:(if r.2.2.2.2.2.2 then [66,79,84,84,79,77] else [84,79,80]:Y_).length≤6:=by split<;>simp
 unfold qW;simp only[wtG,bkL,kM,wtA,aZA,aZS] at h ⊢;omega
theorem W0{d:Doc}(hd:NodOk d) (hf:FewD d):bkL wtN (jG d)≤1090000:=by
 have h:=UX 0 [116,116] (mA d)
 have h1:=vT (f:=wtN) (w:=wtG) (g:=qW) (c:=200) d.2.2.2.2.2.1 fun r hr=>by
  have:=oB (hd.reg r hr)
  exact aKC (by omega) (by omega) (by omega) (by omega)
 have h2:=vT (f:=wtN) (w:=wtX) (g:=evN) (c:=4200) d.2.2.2.2.2.2.1 fun x hx=>by
  obtain⟨q1,q2,q3,q4,q5⟩:=hd.ev x hx;exact aPR (by omega) (by omega) (by omega) q4 q5
 have i1:=gV hd.last.1
 have i2:=aG2 d.2.2.1
 have i3:=EP d.2.2.2.1
 have h3:=hf.reg
 have h4:=hf.ev
 have h5:=hf.wt
 unfold wtD at h5;unfold jG;rw[qZ,qZ];simp only[bkL,mA,wtA,aZA,aZS] at h ⊢;omega
def EQ(d:Doc):List Nd×Int:=if cH d≠0 then([],cH d) else aGC d
theorem aG4{d:Doc}(hs:tW d):q55 fuelH d=some (EQ d):=by
 by_cases h:cH d=0
 ·unfold EQ;rw[if_neg (by simpa using h)];exact M3 (yZ h) (by rw[dP hs,h])
 ·unfold EQ q55;rw[if_pos h,bM (dP hs),aD (cA h)]
theorem aKD{d:Doc}(hf:FewD d):bkL wtN (EQ d).1≤1090000:=by
 unfold EQ aGC
 by_cases h:cH d=0
 ·rw[if_neg (by simpa using h)]
  split
  ·exact bAK _
  ·exact W0 (yZ h) hf
 ·rw[if_pos h]; exact bAK _
def aCE(d:Doc):Ls×Int:=if(EQ d).2≠0 then([],(EQ d).2) else EM (EQ d).1
theorem aCF{d:Doc}(hf:FewD d):q66 fuelH d=some (aCE d):=by
 have hb:=aKD hf
 unfold q66 aCE;rw[bM (aG4 (EO hf.wt))]
 by_cases h:(EQ d).2≠0
 ·rw[aD (cA h),if_pos h]
 ·rw[aC (cL (by simpa using h)),if_neg h,bM (aGW (aLX hb) (by omega))]
theorem aCG{l:List Reg}(h:l.length≤4000000):aBC fuelH l=some l:=by
 have h1:grd (cJ (aE (len ([]:List Reg)) (len l)) 56) (some (bC ([]:List Reg) l))=some l:=by
  rw[aF (dD (by simp only[aE,len,aZS]; omega))]; rfl
 unfold aBC
 cases l with
 |nil =>
  rw[aC (by rfl)];exact uA rfl h1
 |cons r l =>
  rw[aD (cA (by simp only[len,aZA]; omega))];exact h1
theorem aCH{l:List Cmt}(h:l.length≤4000000):aBD fuelH l=some l:=by
 have h1:grd (cJ (aE (len ([]:List Cmt)) (len l)) 72) (some (bC ([]:List Cmt) l))=some l:=by
  rw[aF (dD (by simp only[aE,len,aZS]; omega))]; rfl
 unfold aBD
 cases l with
 |nil =>
  rw[aC (by rfl)];exact uA rfl h1
 |cons r l =>
  rw[aD (cA (by simp only[len,aZA]; omega))];exact h1
theorem aG5{l:List Ev}(h:l.length≤1000000):aBE fuelH l=some l:=by
 have h1:grd (cJ (aE (len ([]:List Ev)) (len l)) 88) (some (bC ([]:List Ev) l))=some l:=by
  rw[aF (dD (by simp only[aE,len,aZS]; omega))]; rfl
 unfold aBE
 cases l with
 |nil =>
  rw[aC (by rfl)];exact uA rfl h1
 |cons r l =>
  rw[aD (cA (by simp only[len,aZA]; omega))];exact h1
def rA(d:Doc):Doc:=(d.1,d.2.1,d.2.2.1,d.2.2.2.1,d.2.2.2.2.1,d.2.2.2.2.2.1,d.2.2.2.2.2.2.1,[])
structure ThinD (d:Doc):Prop where
 reg:d.2.2.2.2.2.1.length≤1000000
 ev:d.2.2.2.2.2.2.1.length≤1000000
 tiny:∀x∈d.2.2.2.2.2.2.1,aLU x
 cm:d.2.2.2.2.2.2.2.length≤1000000
theorem X0{d:Doc}(h:cH d=0) (hc:d.2.2.2.2.2.2.2.length≤1000000):ThinD d:=by
 have hd:=yZ h
 refine⟨by have:=hd.nreg; omega,by have:=hd.nev; omega,fun x hx=>?_,hc⟩;obtain⟨_,_,_,q4,q5⟩:=hd.ev x hx;exact⟨by omega,fun r hr=>by have:=(q5 r hr).1; omega⟩
theorem aCI{d:Doc}(h:ThinD d):aBJ fuelH d=some d:=by
 have h2:=h.ev
 unfold aBJ;rw[bM (aCG (by have:=h.reg; omega)),bM (aCH (by have:=h.cm; omega)),bM (aG5 h2),bT];refine gU (n:=d.2.2.2.2.2.2.1.length) (fun (a:List Ev) (i:Nat)=>((i:Int),a)) (fun _ a=>a=d.2.2.2.2.2.2.1) _ (fun self a i hi hI=>?_) (fun self a hI=>?_) fuelH 0 d.2.2.2.2.2.2.1 (bAK _) (by have:=bG; omega) rfl
 ·subst hI
  have hin:inb (i:Int) (len d.2.2.2.2.2.2.1)=true:=aY (by simp only[len]; omega)
  refine⟨d.2.2.2.2.2.2.1,?_,rfl⟩
  have ht:toN (i:Int)=i:=by simp[toN]
  simp only;rw[aD (aV (by simp only[len]; omega)),aF hin,bA hi,TZ (h.tiny _ (aZL hi)),aB,aF hin,aR hi (by omega),ht];unfold pG;rw[List.set_getElem_self]
 ·simp only;rw[aC (aX (by simp only[len]; omega)),hI]
def noD:Doc:=([],[],0,false,0,[],[],[])
def aKE(d:Doc):Doc:=if cH d≠0 then noD else rA d
theorem aCJ{d:Doc}(hs:tW d) (hc:d.2.2.2.2.2.2.2.length≤1000000):aBK fuelH d=some (aKE d):=by
 unfold aBK aKE;rw[bM (dP hs)]
 by_cases h:cH d=0
 ·rw[aC (cL h),if_neg (by simpa using h),bM (aCI (X0 h hc))];rfl
 ·rw[aD (cA h),if_pos h];rfl
theorem IM{d:Doc}(h:ThinD d) (hc:d.2.2.2.2.2.2.2=[]):RV fuelH (d,d)=some true :=
 aFX h.reg h.ev (fun x hx=>⟨by have:=(h.tiny x hx).1; omega,fun r hr=>by have:=(h.tiny x hx).2 r hr; omega⟩) hc
theorem aKF:nO fuelH ()=some true:=by kernel_rfl
end
end Go.Mo
end
