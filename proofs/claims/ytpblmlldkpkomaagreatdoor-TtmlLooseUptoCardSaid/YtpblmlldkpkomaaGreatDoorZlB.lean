/-
  Texts put together, in build order: XB XC XD XE XF TA TB TC XG XH XI XJ XK XL XM XN XP XQ XR XS XU XV XT XW XX XY XZ XZa XZb TD TE TF.
-/
import Derived.Test.YtpblmlldkpkomaaGreatDoorZlA
import Derived.Test.YtpblmlldkpkomaaGreatDoorYlC
import Derived.KernelRfl
import Derived.Lib.ValidLaws
import Derived.Lib.TrimUEq
import Derived.Lib.MapLaws
import Derived.Lib.IndexMore
import Derived.Lib.ParseIntBCases
set_option linter.all false

section
set_option linter.all false
section
namespace Go.Mo
open Go Go.W
theorem aF{α:Type}{b:Bool}{k:Option α}(h:b=true):grd b k=k:=by subst h; rfl
theorem aD{α:Type}{b:Bool}{x y:Option α}(h:b=true):cnd b x y=x:=by subst h; rfl
theorem aC{α:Type}{b:Bool}{x y:Option α}(h:b=false):cnd b x y=y:=by subst h; rfl
theorem bN{α β:Type}{x:Option α}{a:α}{k:α→Option β}(h:x=some a):bnd x k=k a:=by subst h; rfl
theorem bT{F α:Type}{k:F}{t:F→Option α}:jn k t=t k:=rfl
theorem dQ{V R:Type}{F:(V→Option R)→V→Option R}{n:Nat}{v:V}:bD F (n+1) v=F (bD F n) v:=rfl
theorem bS{x:Int}(h:-9223372036854775808≤x∧x≤9223372036854775807):w64 x=x:=by
 show IntKind.wrap .i64 x=x;unfold IntKind.wrap;simp only[IntKind.bits,IntKind.signed,bBE,decide_eq_true_eq,show(2:Int)^64=18446744073709551616 from rfl,show(2:Int)^(64-1)=9223372036854775808 from rfl]
 split<;>omega
theorem aV{a b:Int}(h:a<b):ilt a b=true:=decide_eq_true h
theorem aW{a b:Int}(h:¬a<b):ilt a b=false:=decide_eq_false h
theorem gP{a b:Int}(h:a≤b):ile a b=true:=decide_eq_true h
theorem jF{a b:Int}(h:¬a≤b):ile a b=false:=decide_eq_false h
theorem dL{a b:Int}(h:a=b):ieq a b=true:=by subst h; simp[ieq]
theorem cZ{a b:Int}(h:a≠b):ieq a b=false:=by simp[ieq,h]
theorem cA{a b:Int}(h:a≠b):ine a b=true:=by simp[ine,h]
theorem cN{a b:Int}(h:a=b):ine a b=false:=by simp[ine,h]
theorem aX{i n:Int}(h:0≤i∧i<n):inb i n=true:=decide_eq_true h
theorem jG{i n:Int}(h:0≤i∧i≤n):in2 i n=true:=decide_eq_true h
theorem cV{n:Int}{b:Nat}(h:n*b≤140737488355328):cH n b=true:=decide_eq_true h
theorem fJ{a b:UInt8}(h:n8 a=n8 b):a=b:=by
 unfold n8 at h;apply UInt8.toNat_inj.1;omega
end Go.Mo
end
section
namespace Go.Mo
open Go Go.W
set_option maxRecDepth 100000
theorem eT{P:UInt8→Bool}(h:((List.range 256).all fun n=>P (UInt8.ofNat n))=true) (x:UInt8):P x=true:=by
 have h1:x.toNat<256:=x.toNat_lt
 have:=bAQ.1 h x.toNat (List.mem_range.2 h1)
 simpa using this
noncomputable def mU:Nat:=Classical.choose (⟨7995000,rfl⟩:∃n:Nat,n=7995000)
noncomputable def fuelH:Nat:=mU+5000
theorem bF:fuelH=8000000:=by
 have h:mU=7995000:=Classical.choose_spec (⟨7995000,rfl⟩:∃n:Nat,n=7995000)
 unfold fuelH;rw[h]
def iA:List Int:=[161,162,163,164,165,166,167,169,171,174,176,183,187,189,191,192,193,194,195,196,197,198,199,200,201,202,203,204,205,206,207,209,210,211,212,213,214,216,217,218,219,220,223,224,225,226,227,228,229,230,231,232,233,234,235,236,237,238,239,241,242,243,244,245,246,248,249,250,251,252,338,339,8212,8216,8217,8220,8221,8226,8230,8482,9834]
def gM:List Int:=(List.range 95).map fun n=>((n+32:Nat):Int)
def zK:List Int→Int→Int→Option Int
 | [],_,_=>some (-1)
 |c::l,i,r=>cnd (ieq c r) (some i) (zK l (aE i 1) r)
def rep:Y_:=[32,33,34,35,36,37,38,39,40,41,42,43,44,45,46,47,48,49,50,51,52,53,54,55,56,57,58,59,60,61,62,63,64,65,66,67,68,69,70,71,72,73,74,75,76,77,78,79,80,81,82,83,84,85,86,87,88,89,90,91,92,93,94,95,96,97,98,99,100,101,102,103,104,105,106,107,108,109,110,111,112,113,114,115,116,117,118,119,120,121,122,123,124,125,126,194,161,194,162,194,163,194,164,194,165,194,166,194,167,194,169,194,171,194,174,194,176,194,183,194,187,194,189,194,191,195,128,195,129,195,130,195,131,195,132,195,133,195,134,195,135,195,136,195,137,195,138,195,139,195,140,195,141,195,142,195,143,195,145,195,146,195,147,195,148,195,149,195,150,195,152,195,153,195,154,195,155,195,156,195,159,195,160,195,161,195,162,195,163,195,164,195,165,195,166,195,167,195,168,195,169,195,170,195,171,195,172,195,173,195,174,195,175,195,177,195,178,195,179,195,180,195,181,195,182,195,184,195,185,195,186,195,187,195,188,197,146,197,147,226,128,148,226,128,152,226,128,153,226,128,156,226,128,157,226,128,162,226,128,166,226,132,162,226,153,170]
theorem aCR(N:Nat) (r:Int):q11 (N+300) (rep,r)=zK (gM++iA) 0 r:=by kernel_rfl
theorem UB(r:Int):q11 fuelH (rep,r)=zK (gM++iA) 0 r:=aCR (mU+4700) r
theorem O2(N:Nat) (r:Int):aFZ N r=cnd (ile 32 r) (cnd (ile r 126) (some (w64 (wr .i32 (aI r 32)))) (q11 N (rep,r))) (q11 N (rep,r)):=by kernel_rfl
theorem aCS(r:Int):aFZ fuelH r=cnd (ile 32 r) (cnd (ile r 126) (some (w64 (wr .i32 (aI r 32)))) (q11 fuelH (rep,r))) (q11 fuelH (rep,r)):=O2 fuelH r
theorem aCT(N:Nat) (r:Int):q12 N r=cnd (ile 32 r) (cnd (ile r 126) (some (w64 (wr .i32 (aI r 32)))) (bnd (q11 N (rep,r)) fun v=>some v)) (bnd (q11 N (rep,r)) fun v=>some v):=by kernel_rfl
theorem UC(r:Int):q12 fuelH r=cnd (ile 32 r) (cnd (ile r 126) (some (w64 (wr .i32 (aI r 32)))) (bnd (q11 fuelH (rep,r)) fun v=>some v)) (bnd (q11 fuelH (rep,r)) fun v=>some v):=aCT fuelH r
theorem EE:∀(l:List Int) (i r:Int),0≤i→∃k,zK l i r=some k∧(k<0↔l.contains r=false)
 | [],i,r,_=>⟨-1,rfl,by simp⟩
 |c::l,i,r,h=>by
  by_cases hc:c=r
  ·exact⟨i,by simp only[zK]; rw[aD (dL hc)],by subst hc; simp; omega⟩
  ·obtain⟨k,h1,h2⟩:=EE l (aE i 1) r (by show 0≤i+1; omega);refine⟨k,by simp only[zK]; rw[aC (cZ hc)]; exact h1,?_⟩;rw[h2];simp only[List.contains_cons,Bool.or_eq_false_iff];exact⟨fun h=>⟨by simpa using fun e=>hc e.symm,h⟩,fun h=>h.2⟩
def dR(r:Int):Bool:=(decide (32≤r)&&decide (r≤126))||iA.contains r
theorem Y0{x:Int}(h:0≤x∧x<1000):wr .i32 x=x:=by
 show IntKind.wrap .i32 x=x;unfold IntKind.wrap;simp only[IntKind.bits,IntKind.signed,bBE,decide_eq_true_eq,show(2:Int)^32=4294967296 from rfl,show(2:Int)^(32-1)=2147483648 from rfl]
 split<;>omega
theorem O3(r:Int):gM.contains r=(decide (32≤r)&&decide (r≤126)):=by
 rw[bA4];simp only[gM,aZI,List.mem_map,List.mem_range,bAI,decide_eq_true_eq];constructor
 ·rintro⟨n,hn,rfl⟩; omega
 ·intro h; exact⟨(r-32).toNat,by omega,by omega⟩
theorem O4(r:Int):∃i,q12 fuelH r=some i∧aFZ fuelH r=some i∧(i<0↔dR r=false):=by
 rw[UC,aCS,UB];obtain⟨k,h1,h2⟩:=EE (gM++iA) 0 r (Int.le_refl _)
 have hin:(gM++iA).contains r=dR r:=by
  unfold dR;rw[←O3];simp[List.contains_eq_mem,bAU]
 rw[hin] at h2
 by_cases ha:32≤r
 ·rw[aD (gP ha),aD (gP ha)]
  by_cases hb:r≤126
  ·rw[aD (gP hb),aD (gP hb)];refine⟨_,rfl,rfl,?_⟩
   have:w64 (wr .i32 (aI r 32))=r-32:=by
    simp only[aI];rw[Y0 (by omega),bS (by omega)]
   rw[this];simp[dR,ha,hb]
  ·rw[aC (jF hb),aC (jF hb)];exact⟨k,by rw[bN h1],h1,h2⟩
 ·rw[aC (jF ha),aC (jF ha)];exact⟨k,by rw[bN h1],h1,h2⟩
theorem aCU(r:Int):∃i,q12 fuelH r=some i∧(i<0↔dR r=false):=by
 rw[UC,UB];obtain⟨k,h1,h2⟩:=EE (gM++iA) 0 r (Int.le_refl _)
 have hin:(gM++iA).contains r=dR r:=by
  unfold dR;rw[←O3];simp[List.contains_eq_mem,bAU]
 rw[hin] at h2
 by_cases ha:32≤r
 ·rw[aD (gP ha)]
  by_cases hb:r≤126
  ·rw[aD (gP hb)];refine⟨_,rfl,?_⟩
   have:w64 (wr .i32 (aI r 32))=r-32:=by
    simp only[aI];rw[Y0 (by omega),bS (by omega)]
   rw[this];simp[dR,ha,hb]
  ·rw[aC (jF hb)];exact⟨k,by rw[bN h1],h2⟩
 ·rw[aC (jF ha)];exact⟨k,by rw[bN h1],h2⟩
end Go.Mo
end
section
namespace Go.Mo
open Go Go.W Go.Lib
set_option maxRecDepth 100000
theorem lC(l:Y_):1≤(decodeL l).2:=by
 unfold decodeL Utf8.decode;simp only
 repeat' split
 all_goals first|exact bBQ _|(show 1≤_; omega)
theorem Z0(s:Y_) (p:Nat):wP s p=((decodeL (s.drop p)).1:Int):=by
 have:=decodeL_drop (bst s) p
 have e:(bst s).data.toList=s:=rfl
 rw[e] at this;unfold wP;rw[this]
theorem ON(s:Y_) (p:Nat):wQ s p=(decodeL (s.drop p)).2:=by
 have:=decodeL_drop (bst s) p
 have e:(bst s).data.toList=s:=rfl
 rw[e] at this;unfold wQ;rw[this]
def rok:Nat→Y_→Bool
 | 0,_=>true
 |n+1,l=>if l=[] then true else if dR ((decodeL l).1:Int)=true then rok n (l.drop (decodeL l).2) else false
def vld(l:Y_):Bool:=rok l.length l
theorem sB:∀n,rok n []=true
 | 0=>rfl
 |n+1=>by simp[rok]
theorem UD:∀(n m:Nat) (l:Y_),l.length≤n→l.length≤m→rok n l=rok m l
 | 0,m,l,h,_=>by
  have:l=[]:=aYP (by omega)
  subst this;rw[sB,sB]
 |n+1,0,l,_,h=>by
  have:l=[]:=aYP (by omega)
  subst this;rw[sB,sB]
 |n+1,m+1,l,h1,h2=>by
  by_cases hl:l=[]
  ·subst hl; rw[sB,sB]
  ·have hp:=lC l
   have hlen:0<l.length:=aZY.2 hl
   simp only[rok,hl,if_false]
   split
   ·exact UD n m _ (by simp; omega) (by simp; omega)
   ·rfl
theorem vR(l:Y_) (hl:l≠[]):vld l=if dR ((decodeL l).1:Int)=true then vld (l.drop (decodeL l).2) else false:=by
 have hp:=lC l
 have hlen:0<l.length:=aZY.2 hl
 unfold vld;obtain⟨n,hn⟩:∃n,l.length=n+1:=⟨l.length-1,by omega⟩;rw[hn];simp only[rok,hl,if_false]
 split
 ·exact UD _ _ _ (by simp; omega) (bBQ _)
 ·rfl
theorem HV:∀(n:Nat) (l:Y_),l.length≤n→vld l=true→validD l=true
 |n,l,h,hv=>by
  by_cases hl:l=[]
  ·subst hl; rfl
  ·have hlen:0<l.length:=aZY.2 hl
   have hp:=lC l
   rw[vR l hl] at hv
   split at hv
   ·rename_i hr;rw[validD_step l hl,if_neg ?_]
    ·cases n with
     |zero=>omega
     |succ n=>exact HV n _ (by simp; omega) hv
    ·rintro⟨e,_⟩;rw[e] at hr;exact absurd hr (by decide)
   ·cases hv
theorem EF{s:Y_}(hs:s.length≤100000000) (Ix:Int→Option Int) (hI:∀r:Int,∃i,Ix r=some i∧(i<0↔dR r=false)):∀(fuel p:Nat),s.length-p<fuel→p≤s.length →
  bD (fun v2 (v3:Y_×Int) =>
  cnd (nlt (toN v3.2) (kM v3.1))
   (bnd (Ix (wP v3.1 (toN v3.2))) fun v4 =>
   cnd (ilt v4 (0:Int))
    (some false)
    (v2 (v3.1,ofN (nI (toN v3.2) (wQ v3.1 (toN v3.2))))))
   (some true)) fuel (s,ofN p)=some (vld (s.drop p))
 | 0,p,h,_=>by omega
 |fuel+1,p,h,hp=>by
  rw[dQ]
  have et:toN (ofN p)=p:=by simp[toN,ofN]
  simp only[et]
  by_cases hl:p<s.length
  ·have hne:s.drop p≠[]:=by intro e; have:=congrArg List.length e; simp at this; omega
   have hw:=lC (s.drop p)
   have hle:=decodeL_le (s.drop p) hne
   rw[bAL] at hle;rw[aD (show nlt p (kM s)=true from decide_eq_true hl)];obtain⟨i,h1,h2⟩:=hI (wP s p);rw[bN h1];rw[vR _ hne,←Z0]
   by_cases hi:i<0
   ·rw[aD (aV hi),if_neg (by rw[h2.1 hi]; decide)]
   ·rw[aC (aW hi)]
    have hin:dR (wP s p)=true:=by
     cases hq:dR (wP s p) with
     |true=>rfl
     |false=>exact absurd (h2.2 hq) hi
    rw[if_pos hin,ON,bA5];show bD _ fuel (s,ofN (p+(decodeL (s.drop p)).2))=_;exact EF hs Ix hI fuel _ (by omega) (by omega)
  ·rw[aC (show nlt p (kM s)=false from decide_eq_false hl)]
   have:s.drop p=[]:=by simp; omega
   rw[this];rfl
theorem kH(s:Y_) (hs:s.length≤4000000):q13 fuelH s=some (vld s):=by
 unfold q13
 have hv:utf8_ValidString fuelH s=some (validD s):=by
  show grd (cL (len s)) (some (validD s))=_;exact aF (decide_eq_true (by simp only[len]; omega))
 rw[bN hv];simp only[bT]
 cases hd:validD s with
 |false =>
  rw[aD (show bO false=true from rfl)]
  cases hq:vld s with
  |false=>rfl
  |true=>rw[HV _ s (bBQ _) hq] at hd; cases hd
 |true =>
  rw[aC (show bO true=false from rfl)]
  have:=EF (s:=s) (by omega) (q12 fuelH) (fun r=>by obtain⟨i,h2,h3⟩:=aCU r; exact⟨i,h2,h3⟩) fuelH 0 (by have:=bF; omega) (bBR _)
  simpa using this
theorem jQ{α:Type}{p:Prop} [Decidable p] {x y:Option α}:cnd (decide p) x y=if p then x else y:=by
 by_cases h:p
 ·rw[aD (decide_eq_true h),if_pos h]
 ·rw[aC (decide_eq_false h),if_neg h]
theorem dI{α:Type}{a b:Int}{x y:Option α}:cnd (ilt a b) x y=if a<b then x else y:=jQ
theorem BB{α:Type}{a b:Int}{x y:Option α}:cnd (ile a b) x y=if a≤b then x else y:=jQ
theorem BC{α:Type}{a b:Int}{x y:Option α}:cnd (ieq a b) x y=if a=b then x else y:=by
 by_cases h:a=b
 ·rw[aD (dL h),if_pos h]
 ·rw[aC (cZ h),if_neg h]
theorem vS{α:Type}{a b:Int}{x y:Option α}:cnd (ine a b) x y=if a≠b then x else y:=by
 by_cases h:a=b
 ·rw[aC (cN h),if_neg (by simp[h])]
 ·rw[aD (cA h),if_pos h]
def okc(c:Int):Bool:=decide ((65≤c∧c≤90)∨(48≤c∧c≤57)∨c=95∨c=45)
theorem aJ4(c:Int) (X:Option Bool) :
  (cnd (ilt c (n8 (65:UInt8)))
          (cnd (ilt c (n8 (48:UInt8)))
           (cnd (ine c (n8 (95:UInt8)))
            (cnd (ine c (n8 (45:UInt8)))
             (some false)
             X)
            X)
           (cnd (ilt (n8 (57:UInt8)) c)
            (cnd (ine c (n8 (95:UInt8)))
             (cnd (ine c (n8 (45:UInt8)))
              (some false)
              X)
             X)
            X))
          (cnd (ilt (n8 (90:UInt8)) c)
           (cnd (ilt c (n8 (48:UInt8)))
            (cnd (ine c (n8 (95:UInt8)))
             (cnd (ine c (n8 (45:UInt8)))
              (some false)
              X)
             X)
            (cnd (ilt (n8 (57:UInt8)) c)
             (cnd (ine c (n8 (95:UInt8)))
              (cnd (ine c (n8 (45:UInt8)))
               (some false)
               X)
              X)
             X))
           X))=cnd (okc c) X (some false):=by
 have e1:n8 (65:UInt8)=65:=rfl
 have e2:n8 (48:UInt8)=48:=rfl
 have e3:n8 (95:UInt8)=95:=rfl
 have e4:n8 (45:UInt8)=45:=rfl
 have e5:n8 (57:UInt8)=57:=rfl
 have e6:n8 (90:UInt8)=90:=rfl
 rw[e1,e2,e3,e4,e5,e6];simp only[dI,vS,okc,jQ]
 repeat' split
 all_goals first|rfl|(exfalso; omega)
def upc(c:Int):Bool:=decide (65≤c∧c≤90)
def nm(s:Y_):Bool:=decide (1≤s.length∧s.length≤16)&&upc (n8 (s.getD 0 0))&&s.all fun c=>okc (n8 c)
theorem aGH{s:Y_}{i:Nat}(h:i<s.length) (P:UInt8→Bool):(s.drop i).all P=(P s[i]&&(s.drop (i+1)).all P):=by
 rw[aYY h,bBF]
theorem Z1{s:Y_}(hs:s.length≤16):∀(fuel i:Nat),s.length-i<fuel→i≤s.length →
  bD (fun v2 (v3:Int) =>
        cnd (ilt v3 (len s))
         (grd (inb v3 (len s)) (cnd (okc (n8 (aA s (toN v3) (0:UInt8)))) (v2 (w64 (aE v3 (1:Int)))) (some false)))
         (some true)) fuel (i:Int)=some ((s.drop i).all fun c=>okc (n8 c))
 | 0,i,h,_=>by omega
 |fuel+1,i,h,hi=>by
  rw[dQ]
  by_cases hl:i<s.length
  ·have g:aA s (toN (i:Int)) 0=s[i]:=by simp[aA,toN,hl]
   rw[aD (aV (by simp only[len]; omega)),aF (aX (by simp only[len]; omega)),g,aGH hl]
   have hw:w64 (aE (i:Int) 1)=((i+1:Nat):Int):=by
    simp only[aE]; rw[bS (by omega)]; omega
   rw[hw,Z1 hs fuel (i+1) (by omega) (by omega)];cases okc (n8 s[i])<;>rfl
  ·rw[aC (aW (by simp only[len]; omega))]
   have:s.drop i=[]:=by simp; omega
   rw[this];rfl
theorem pB(s:Y_):q14 fuelH s=some (nm s):=by
 unfold q14;simp only[bT,aJ4]
 by_cases h1:s.length<1
 ·rw[aD (aV (by simp only[len]; omega))];simp[nm]; omega
 ·rw[aC (aW (by simp only[len]; omega))]
  by_cases h2:16<s.length
  ·rw[aD (aV (by simp only[len]; omega))];simp[nm]; omega
  ·rw[aC (aW (by simp only[len]; omega)),aF (aX (by simp only[len]; omega))]
   have e0:aA s (toN 0) 0=s.getD 0 0:=rfl
   have e1:n8 (65:UInt8)=65:=rfl
   have e2:n8 (90:UInt8)=90:=rfl
   rw[e0,e1,e2,dI]
   have hd:decide (1≤s.length∧s.length≤16)=true:=decide_eq_true (by omega)
   split
   ·rename_i h3
    have:upc (n8 (s.getD 0 0))=false:=decide_eq_false (by omega)
    simp only[nm,this,Bool.and_false,bA9]
   ·rw[aF (aX (by simp only[len]; omega)),dI]
    split
    ·rename_i h4
     have:upc (n8 (s.getD 0 0))=false:=decide_eq_false (by omega)
     simp only[nm,this,Bool.and_false,bA9]
    ·have hu:upc (n8 (s.getD 0 0))=true:=decide_eq_true (by omega)
     have:=Z1 (s:=s) (by omega) fuelH 0 (by have:=bF; omega) (bBR _)
     simp only[nm,hu,hd,bBE]
     simpa using this
abbrev Lbl:=Int×Int×Int×Int×Bool
abbrev Hdr:=UInt8×Y_×Y_×Int×Int×Lbl×Lbl×Int×Int
theorem rD{α:Type}{p:Prop} [Decidable p] {x y:Option α}:cnd (bO (decide p)) x y=if p then y else x:=by
 by_cases hp:p<;>simp[hp,bO,cnd]
theorem aB{α β:Type}{a:α}{k:α→Option β}:bnd (some a) k=k a:=rfl
def UE:Nat→Y_→List Int
 | 0,_=>[]
 |n+1,l=>if l=[] then [] else((decodeL l).1:Int)::UE n (l.drop (decodeL l).2)
def rns(l:Y_):List Int:=UE l.length l
def ofR(l:List Int):Y_:=l.flatMap enc
theorem nZ:∀n,UE n []=[]
 | 0=>rfl
 |n+1=>by simp[UE]
theorem HW:∀(n m:Nat) (l:Y_),l.length≤n→l.length≤m→UE n l=UE m l
 | 0,m,l,h,_=>by
  have:l=[]:=aYP (by omega)
  subst this;rw[nZ,nZ]
 |n+1,0,l,_,h=>by
  have:l=[]:=aYP (by omega)
  subst this;rw[nZ,nZ]
 |n+1,m+1,l,h1,h2=>by
  by_cases hl:l=[]
  ·subst hl; rw[nZ,nZ]
  ·have hp:=lC l
   have hlen:0<l.length:=aZY.2 hl
   simp only[UE,hl,if_false];rw[HW n m _ (by simp; omega) (by simp; omega)]
theorem EG(l:Y_) (hl:l≠[]):rns l=((decodeL l).1:Int)::rns (l.drop (decodeL l).2):=by
 have hp:=lC l
 have hlen:0<l.length:=aZY.2 hl
 unfold rns;obtain⟨n,hn⟩:∃n,l.length=n+1:=⟨l.length-1,by omega⟩;rw[hn];simp only[UE,hl,if_false];rw[HW n _ _ (by simp; omega) (bBQ _)]
theorem aJ5{r:Int}(h:dR r=true):r∈gM++iA:=by
 unfold dR at h;rw[←O3,Bool.or_eq_true] at h;rw[bAU];rcases h with h|h
 ·exact .inl (aZI.1 h)
 ·exact .inr (aZI.1 h)
theorem vT{P:Int→Bool}(h:((gM++iA).all P)=true){r:Int}(hr:dR r=true):P r=true :=
 bAQ.1 h r (aJ5 hr)
theorem aJ6{r:Int}(hr:dR r=true):enc r=encodeRune r :=
 of_decide_eq_true (vT (P:=fun r=>decide (enc r=encodeRune r)) (by kernel_rfl) hr)
theorem aJ7(l:Y_) (hl:l≠[]) (hr:dR ((decodeL l).1:Int)=true):enc ((decodeL l).1:Int)=l.take (decodeL l).2:=by
 rw[aJ6 hr];refine encode_decode l hl ?_;rintro⟨e,_⟩;rw[e] at hr;exact absurd hr (by decide)
theorem OO:∀(n:Nat) (l:Y_),l.length≤n→vld l=true→(rns l).all dR=true∧ofR (rns l)=l
 |n,l,h,hv=>by
  by_cases hl:l=[]
  ·subst hl; exact⟨rfl,rfl⟩
  ·have hlen:0<l.length:=aZY.2 hl
   have hp:=lC l
   rw[vR l hl] at hv
   split at hv
   ·rename_i hr
    cases n with
    |zero=>omega
    |succ n =>
     obtain⟨h1,h2⟩:=OO n _ (by simp; omega) hv;rw[EG l hl];refine⟨by rw[bBF,hr,h1]; rfl,?_⟩;unfold ofR at h2 ⊢;rw[List.flatMap_cons,h2,aJ7 l hl hr,aZE]
   ·cases hv
theorem aQC{l:Y_}(h:vld l=true):(rns l).all dR=true:=(OO _ l (bBQ _) h).1
theorem aJ8{l:Y_}(h:vld l=true):ofR (rns l)=l:=(OO _ l (bBQ _) h).2
theorem OP:∀(n:Nat) (l:Y_),l.length≤n→(rns l).length≤l.length
 |n,l,h=>by
  by_cases hl:l=[]
  ·subst hl; exact bBQ _
  ·have hlen:0<l.length:=aZY.2 hl
   have hp:=lC l
   rw[EG l hl]
   cases n with
   |zero=>omega
   |succ n =>
    have:=OP n (l.drop (decodeL l).2) (by simp; omega)
    simp at this ⊢;omega
def UF{σ R:Type}(g:Int→σ→(σ→Option R)→Option R) (e:σ→Option R):List Int→σ→Option R
 | [],a=>e a
 |r::l,a=>g r a fun a'=>UF g e l a'
theorem UG{V R σ:Type}{F:(V→Option R)→V→Option R}{s:Y_}(st:σ→Nat→V) (g:Int→σ→(σ→Option R)→Option R) (e:σ→Option R)
  (hstep:∀self a p,p<s.length→F self (st a p)=g (wP s p) a fun a'=>self (st a' (p+wQ s p)))
  (hend:∀self a p,s.length≤p→F self (st a p)=e a):∀(fuel p:Nat) (a:σ),s.length-p<fuel→bD F fuel (st a p)=UF g e (rns (s.drop p)) a
 | 0,p,a,h=>by omega
 |fuel+1,p,a,h=>by
  rw[dQ]
  by_cases hp:p<s.length
  ·have hne:s.drop p≠[]:=by intro e; have:=congrArg List.length e; simp at this; omega
   have hw:=lC (s.drop p)
   rw[hstep _ _ _ hp,EG _ hne,←Z0,UF,bA5,←ON];congr 1;funext a';rw[ON]
   have:=UG st g e hstep hend fuel (p+(decodeL (s.drop p)).2) a' (by omega)
   exact this
  ·rw[hend _ _ _ (by omega)]
   have:s.drop p=[]:=by simp; omega
   rw[this];rfl
def UH{α σ R:Type}(g:Nat→α→σ→(σ→Option R)→Option R) (e:σ→Option R):Nat→List α→σ→Option R
 |_,[],a=>e a
 |i,x::l,a=>g i x a fun a'=>UH g e (i+1) l a'
theorem UI{V R σ α:Type}{F:(V→Option R)→V→Option R}{l:List α}(st:σ→Nat→V) (g:Nat→α→σ→(σ→Option R)→Option R) (e:σ→Option R)
  (hstep:∀self a i (h:i<l.length),F self (st a i)=g i l[i] a fun a'=>self (st a' (i+1)))
  (hend:∀self a,F self (st a l.length)=e a):∀(fuel i:Nat) (a:σ),i≤l.length→l.length-i<fuel→bD F fuel (st a i)=UH g e i (l.drop i) a
 | 0,i,a,_,h=>by omega
 |fuel+1,i,a,hi,h=>by
  rw[dQ]
  by_cases hl:i<l.length
  ·rw[hstep _ _ _ hl,aYY hl,UH];congr 1;funext a';exact UI st g e hstep hend fuel (i+1) a' (by omega) (by omega)
  ·obtain rfl:i=l.length:=by omega
   rw[hend,bAR];rfl
theorem aQ{i n:Nat}(h:i<n) (hn:n≤9223372036854775807):w64 (aE (i:Int) 1)=((i+1:Nat):Int):=by
 simp only[aE]; rw[bS (by omega)]; omega
theorem bB{α:Type}{l:List α}{i:Nat}{d:α}(h:i<l.length):aA l (toN (i:Int)) d=l[i]:=by simp[aA,toN,h]
theorem aXI{a b:Nat}(h:a<b):nlt a b=true:=decide_eq_true h
theorem aXJ{a b:Nat}(h:¬a<b):nlt a b=false:=decide_eq_false h
theorem Z2(n:Nat):toN (ofN n)=n:=by simp[toN,ofN]
def ixE(r:Int):Option Int:=cnd (ile 32 r) (cnd (ile r 126) (some (w64 (wr .i32 (aI r 32)))) (zK (gM++iA) 0 r)) (zK (gM++iA) 0 r)
def ix(r:Int):Int:=(ixE r).getD 0
def aYH:List Int:=[33,99,76,36,89,124,83,67,34,82,111,46,34,50,63,65,65,65,65,65,65,65,67,69,69,69,69,73,73,73,73,78,79,79,79,79,79,79,85,85,85,85,115,97,97,97,97,97,97,97,99,101,101,101,101,105,105,105,105,110,111,111,111,111,111,111,117,117,117,117,79,111,45,39,39,34,34,46,46,84,35]
def bas(r:Int):Int:=if r<127 then r else aYH.getD ((ix r).toNat-95) 0
def aYI:List (UInt8×Y_×List Int):=[(193,[195,128,195,136,195,140,195,146,195,153],[192,200,204,210,217]),(194,[195,129,195,137,195,141,195,147,195,154],[193,201,205,211,218]),(195,[195,130,195,138,195,142,195,148,195,155],[194,202,206,212,219]),(196,[195,131,195,145,195,149],[195,209,213]),(197,[],[]),(198,[],[]),(199,[],[]),(200,[195,132,195,139,195,143,195,150,195,156],[196,203,207,214,220]),(201,[],[]),(202,[195,133],[197]),(203,[195,135],[199])]
def sgs:List (Int×UInt8):=[(161,161),(162,162),(163,163),(164,164),(165,165),(166,166),(167,167),(169,168),(8216,169),(8220,170),(171,171),(174,172),(8212,173),(8226,174),(8230,175),(176,176),(8482,180),(183,183),(8217,185),(8221,186),(187,187),(189,189),(191,191),(9834,213),(198,225),(216,233),(338,234),(230,241),(248,249),(339,250),(223,251)]
end Go.Mo
end
section
end
section
namespace Go.Mo
open Go Go.W Go.Lib
set_option maxRecDepth 100000
noncomputable section
theorem dS{n:Int}(h:n≤9223372036854775807):cL n=true:=decide_eq_true h
theorem aJ9{r:Int}(hr:dR r=true):(enc r).length≤4 :=
 of_decide_eq_true (vT (P:=fun r=>decide ((enc r).length≤4)) (by kernel_rfl) hr)
theorem cC(x y:Y_):seq x y=decide (x=y):=by
 unfold seq
 by_cases h:x=y
 ·subst h; simp
 ·rw[decide_eq_false h]
  simpa using h
def low(r:Int):Int:=if(65≤r∧r≤90)∨(192≤r∧r<223) then r+32 else if r=338 then 339 else r
def aYJ(a:UInt8):List Int:=match aYI.find? fun x=>x.1==a with
 |some x=>x.2.2
 |none=>[]
def acG:List Int→UInt8→Option (Int×Int)
 | [],_=>some (0,0)
 |r::l,b=>cnd (ieq (bas r) (n8 b)) (some (r,(2:Int))) (cnd (ieq (bas (low r)) (n8 b)) (some (low r,(2:Int))) (acG l b))
def sgF(a:UInt8):Option (Int×UInt8):=sgs.find? fun x=>n8 x.2==n8 a
end
end Go.Mo
end
section
namespace Go.Mo
open Go Go.W Go.Lib
set_option maxRecDepth 100000
abbrev Sty:=UInt8×Bool×Bool
abbrev Run:=Y_×Sty×Y_
abbrev Row:=List Run
theorem vU{α:Type}{b:Bool}{x y:Option α}:cnd b x y=if b=true then x else y:=by cases b<;>rfl
theorem nC{b:Bool}:(bO b=true)=(b=false):=by cases b<;>simp[bO]
theorem dA{a b:Y_}:(seq a b=true)=(a=b):=by rw[cC]; simp
theorem rE{a b:Int}:(ieq a b=true)=(a=b):=by simp[ieq]
theorem aQD{a b:Int}:(ilt a b=true)=(a<b):=by simp[ilt]
theorem EH{a b:Bool}:(pS a b=true)=(a=b):=by simp[pS]
theorem sC{a b:Bool}:(dT a b=true)=(a=true∧b=true):=by simp[dT]
theorem aGI{a b:UInt8}:(n8 a=n8 b)=(a=b):=propext ⟨fJ,fun h=>by rw[h]⟩
theorem rF{i:Nat}(h:0<i) (hn:i≤9223372036854775807):w64 (aI (i:Int) 1)=((i-1:Nat):Int):=by
 simp only[aI]; rw[bS (by omega)]; omega
theorem oA{i:Nat}(hn:i<9223372036854775807):w64 (aI ((i+1:Nat):Int) 1)=(i:Int):=by
 rw[rF (Nat.succ_pos i) (by omega)]; rfl
theorem O5{a b:Sty}:(a=b)=(a.1=b.1∧a.2.1=b.2.1∧a.2.2=b.2.2):=by
 obtain⟨a1,a2,a3⟩:=a; obtain⟨b1,b2,b3⟩:=b; simp
def uD(a b:Run):Prop:=a.2.1=b.2.1∧a.2.2=[]∧b.2.2=[]
instance (a b:Run):Decidable (uD a b):=by unfold uD; infer_instance
def mG(p:Option Run) (x:Run):Int :=
 if vld x.1=false then 10 else if x.1=[] then 4 else if ¬n8 x.2.1.1≤6 then 12 else if vld x.2.2=false then 10 else match p with
  |none=>0
  |some p=>if uD p x then 8 else 0
def aCV:Option Run→List Run→Int
 |_,[]=>0
 |p,x::r=>if mG p x≠0 then mG p x else aCV (some x) r
def nD(l:Row):Int:=if 16<l.length then 9 else aCV none l
def O6(l:Row):Prop:=∀x∈l,x.1.length≤4000000∧x.2.2.length≤4000000
def before{α:Type}(l:List α):Nat→Option α
 | 0=>none
 |i+1=>l[i]?
theorem HX(l:Row):∀(r:List Run) (i:Nat),l.drop i=r→i≤l.length→UH (fun i (x:Run) (_:Unit) self=>if mG (before l i) x≠0 then some (mG (before l i) x) else self ()) (fun _=>some (0:Int)) i r ()=some (aCV (before l i) r)
 | [],i,_,_=>rfl
 |x::r,i,h,hi=>by
  have hx:l[i]?=some x:=by rw[←List.head?_drop,h]; rfl
  have hr:l.drop (i+1)=r:=by rw[←bA5,h]; rfl
  have hl:i<l.length:=(aYW.1 hx).1
  simp only[UH,aCV];rw[HX l r (i+1) hr (by omega)]
  have e:before l (i+1)=some x:=hx
  rw[e]
  by_cases hc:mG (before l i) x≠0
  ·rw[if_pos hc,if_pos hc]
  ·rw[if_neg hc,if_neg hc]
theorem EI(N:Nat) (a b:Run):q29 N (a,b)=some (decide (uD a b)):=by
 unfold q29;simp only[vU,sC,rE,EH,aGI,cC,decide_eq_true_eq]
 by_cases h1:a.2.1.1=b.2.1.1∧a.2.1.2.1=b.2.1.2.1∧a.2.1.2.2=b.2.1.2.2
 ·rw[if_pos h1]
  have:a.2.1=b.2.1:=by rw[O5]; exact h1
  by_cases h2:a.2.2=[]
  ·rw[if_pos h2]; simp[uD,this,h2]
  ·rw[if_neg h2]; simp[uD,h2]
 ·rw[if_neg h1]
  have:¬a.2.1=b.2.1:=by rw[O5]; exact h1
  simp[uD,this]
theorem UJ{l:Row}(hl:O6 l):q30 fuelH l=some (nD l):=by
 unfold q30
 by_cases h:16<l.length
 ·rw[aD (aV (by simp only[len]; omega))]; simp[nD,h]
 ·rw[aC (aW (by simp only[len]; omega)),bT];refine bBT (UI (l:=l) (fun (_:Unit) (p:Nat)=>(p:Int)) (fun i (x:Run) (_:Unit) self=>if mG (before l i) x≠0 then some (mG (before l i) x) else self ()) (fun _=>some (0:Int)) (fun self a i hi=>?_) (fun self a=>?_) fuelH 0 () (bBR _) (by have:=bF; omega)) ?_
  ·rw[aD (aV (by simp only[len]; omega)),aF (aX (by simp only[len]; omega)),bB hi];obtain⟨b1,b2⟩:=hl l[i] (bAS hi);rw[bN (kH _ b1),bN (show q28 fuelH l[i].2.1=some (ile (n8 l[i].2.1.1) 6) from rfl),bN (kH _ b2)];simp only[vU,nC,dA,ile,decide_eq_false_iff_not];rw[aQ hi (by omega)]
   cases i with
   |zero =>
    have e0:before l 0=none:=rfl
    rw[e0,if_neg (show ¬ilt (0:Int) ((0:Nat):Int)=true by decide)];simp only[mG]
    repeat' split
    all_goals first|rfl|(exfalso; omega)|simp_all
   |succ i =>
    have e0:before l (i+1)=some l[i]:=by simp only[before]; exact aY1 (by omega)
    rw[e0,if_pos (show ilt (0:Int) ((i+1:Nat):Int)=true from aV (by omega)),oA (by omega),aF (aX (by simp only[len]; omega)),bB (show i<l.length by omega),bN (EI _ _ _)];simp only[mG,decide_eq_true_eq]
    repeat' split
    all_goals first|rfl|(exfalso; omega)|simp_all
  ·rw[aC (aW (by simp only[len]; omega))]
  ·rw[bA6,HX l l 0 rfl (bBR _)];simp[nD,h,before]
def itI{α σ R:Type}(f:Nat→α→σ→Option R ⊕ σ) (e:σ→Option R):Nat→List α→σ→Option R
 |_,[],a=>e a
 |i,x::l,a=>match f i x a with
  | .inl r=>r
  | .inr a'=>itI f e (i+1) l a'
def Rnd{V R σ:Type}(X:Option R) (self:V→Option R) (next:σ→V) (I:σ→Prop):Option R ⊕ σ→Prop
 | .inl r=>X=r
 | .inr a=>X=self (next a)∧I a
theorem uE{V R σ α:Type}{F:(V→Option R)→V→Option R}{l:List α}(st:σ→Nat→V) (f:Nat→α→σ→Option R ⊕ σ) (e:σ→Option R) (I:Nat→σ→Prop)
  (hstep:∀self a i (h:i<l.length),I i a→Rnd (F self (st a i)) self (fun a=>st a (i+1)) (I (i+1)) (f i l[i] a))
  (hend:∀self a,I l.length a→F self (st a l.length)=e a):∀(fuel i:Nat) (a:σ),i≤l.length→l.length-i<fuel→I i a→bD F fuel (st a i)=itI f e i (l.drop i) a
 | 0,i,a,_,h,_=>by omega
 |fuel+1,i,a,hi,h,hI=>by
  rw[dQ]
  by_cases hl:i<l.length
  ·rw[aYY hl,itI]
   have hs:=hstep (bD F fuel) a i hl hI
   cases hf:f i l[i] a with
   |inl r=>rw[hf] at hs; exact hs
   |inr a' =>
    rw[hf] at hs;rw[hs.1];exact uE st f e I hstep hend fuel (i+1) a' (by omega) (by omega) hs.2
  ·obtain rfl:i=l.length:=by omega
   rw[hend _ _ hI,bAR];rfl
def tot:Row→Nat
 | []=>0
 |x::r=>x.1.length+tot r
theorem BD(a b:Row):tot (a++b)=tot a+tot b:=by
 induction a with
 |nil=>simp[tot]
 |cons x a ih=>simp only[bAJ,tot,ih]; omega
theorem aKA{l:Row}{p:Run}(h:l.getLast?=some p):l=l.dropLast++[p]:=by
 cases l with
 |nil=>cases h
 |cons x l =>
  rw[List.getLast?_eq_some_getLast (List.cons_ne_nil x l)] at h;injection h with h;rw[←h];exact(List.dropLast_concat_getLast (List.cons_ne_nil x l)).symm
theorem lL{out:Row}{p:Run}(h:out.getLast?=some p) (y:Run):pT out (out.length-1) y=out.dropLast++[y]:=by
 have e:=aKA h
 have hl:out.length-1=out.dropLast.length:=by simp
 rw[hl]
 conv=>lhs; rw[e]
 unfold pT;rw[aZG _ _ (by simp)];simp
end Go.Mo
end
section
namespace Go.Mo
open Go Go.W Go.Lib
set_option maxRecDepth 100000
noncomputable section
theorem Z3:∀(l:List Run) (p:Option Run),aCV p l=0→∀x∈l,vld x.1=true∧x.1≠[]∧n8 x.2.1.1≤6∧vld x.2.2=true
 | [],_,_,x,hx=>by cases hx
 |y::l,p,h,x,hx=>by
  simp only[aCV] at h
  split at h
  ·rename_i hc; exact absurd h hc
  ·rename_i hc;rcases bBB.1 hx with rfl|hx
   ·have hc:mG p x=0:=by simpa using hc
    unfold mG at hc
    split at hc
    ·cases hc
    ·split at hc
     ·cases hc
     ·split at hc
      ·cases hc
      ·split at hc
       ·cases hc
       ·rename_i h1 h2 h3 h4;exact⟨by simpa using h1,h2,by omega,by simpa using h4⟩
   ·exact Z3 l _ h x hx
theorem yA{l:Row}(h:nD l=0):l.length≤16∧∀x∈l,vld x.1=true∧x.1≠[]∧n8 x.2.1.1≤6∧vld x.2.2=true:=by
 unfold nD at h
 split at h
 ·cases h
 ·exact⟨by omega,Z3 l _ h⟩
def aCW:Row→Nat
 | []=>0
 |x::r=>3+x.1.length+aCW r
theorem aKB(l:Row):aCW l=3*l.length+tot l:=by
 induction l with
 |nil=>rfl
 |cons x l ih=>simp only[aCW,tot,bAH,ih]; omega
def aQE(l:List Row):Prop:=∀r∈l,O6 r
def g1(a:UInt8):Option Int:=if 32≤n8 a∧n8 a<127 then some (n8 a) else(sgF a).map (·.1)
def g2(a b:UInt8):Int×Int:=(acG (aYJ a) b).getD (0,0)
theorem aQF{a b:Run}:(a=b)=(a.1=b.1∧a.2.1=b.2.1∧a.2.2=b.2.2):=by
 obtain⟨a1,a2,a3⟩:=a; obtain⟨b1,b2,b3⟩:=b; simp
theorem HY{α:Type}:∀(l m:List α) [DecidableEq α],l.length=m.length→∀i,itI (fun i (x:α) (_:Unit)=>if some x=m[i]? then(.inr ():Option Bool ⊕ Unit) else .inl (some false)) (fun _=>some true) i (l.drop i) ()=some (decide (l.drop i=m.drop i)):=by
 intro l m _ hl i;generalize hr:l.drop i=r
 induction r generalizing i with
 |nil =>
  have h1:l.length≤i:=by have:=congrArg List.length hr; simp at this; omega
  have:m.drop i=[]:=by rw[List.drop_eq_nil_iff]; omega
  rw[this]; simp[itI]
 |cons x r ih =>
  have hx:l[i]?=some x:=by rw[←List.head?_drop,hr]; rfl
  have hi:=(aYW.1 hx).1
  have hr':l.drop (i+1)=r:=by rw[←bA5,hr]; rfl
  have hm:m.drop i=m[i]::m.drop (i+1):=aYY (by omega)
  rw[hm];simp only[itI]
  by_cases h:some x=m[i]?
  ·rw[if_pos h];simp only;rw[ih (i+1) hr'];rw[aY1 (by omega)] at h;injection h with h;exact congrArg some (decide_eq_decide.2 ⟨fun e=>by rw[h,e],fun e=>by injection e⟩)
  ·rw[if_neg h];rw[aY1 (by omega)] at h
   have:x≠m[i]:=fun e=>h (by rw[e])
   exact congrArg some (decide_eq_false fun e=>this (by injection e)).symm
theorem aQG(a b:Row) (hl:a.length≤4000000):aCJ fuelH (a,b)=some (decide (a=b)):=by
 unfold aCJ
 by_cases h:a.length=b.length
 ·rw[aC (cN (by simp only[len]; omega)),bT];refine bBT (uE (l:=a) (fun (_:Unit) (p:Nat)=>(p:Int)) (fun i (x:Run) (_:Unit)=>if some x=b[i]? then .inr () else .inl (some false)) (fun _=>some true) (fun _ _=>True) (fun self _ i hi _=>?_) (fun self _ _=>?_) fuelH 0 () (bBR _) (by have:=bF; omega) trivial) ?_
  ·have hb:i<b.length:=by omega
   have e:cnd (ilt (i:Int) (len a)) (grd (inb (i:Int) (len a)) (grd (inb (i:Int) (len b)) (cnd (bO (dT (seq (aA a (toN (i:Int)) zU).1 (aA b (toN (i:Int)) zU).1) (dT (dT (ieq (n8 (aA a (toN (i:Int)) zU).2.1.1) (n8 (aA b (toN (i:Int)) zU).2.1.1)) (dT (pS (aA a (toN (i:Int)) zU).2.1.2.1 (aA b (toN (i:Int)) zU).2.1.2.1) (pS (aA a (toN (i:Int)) zU).2.1.2.2 (aA b (toN (i:Int)) zU).2.1.2.2))) (seq (aA a (toN (i:Int)) zU).2.2 (aA b (toN (i:Int)) zU).2.2)))) (some false) (self (w64 (aE (i:Int) 1)))))) (some true)=if a[i]=b[i] then self ((i+1:Nat):Int) else some false:=by
    rw[aD (aV (by simp only[len]; omega)),aF (aX (by simp only[len]; omega)),aF (aX (by simp only[len]; omega)),bB hi,bB hb,aQ hi (by omega),vU];simp only[nC,Bool.eq_false_iff,ne_eq,sC,dA,rE,EH,aGI,←O5,←aQF]
    by_cases hc:a[i]=b[i]
    ·rw[if_neg (by simpa using hc),if_pos hc]
    ·rw[if_pos hc,if_neg hc]
   rw[aY1 hb]
   by_cases hc:a[i]=b[i]
   ·rw[if_pos (by rw[hc])];exact⟨e.trans (if_pos hc),trivial⟩
   ·rw[if_neg (fun h=>hc (by injection h))];exact e.trans (if_neg hc)
  ·simp only;rw[aC (aW (by simp only[len]; omega))]
  ·exact HY a b h 0
 ·rw[aD (cA (by simp only[len]; omega))]
  have:a≠b:=fun e=>h (by rw[e])
  simp[this]
theorem aGJ(a b:Row) (hl:a.length≤4000000):SQ fuelH (a,b)=some (decide (a=b)):=by
 unfold SQ;rw[aQG a b hl,aB]
theorem aCX(a b:List Row) (hl:a.length≤4000000) (h:∀r∈a,r.length≤4000000):aCK fuelH (a,b)=some (decide (a=b)):=by
 unfold aCK aFX
 by_cases hab:a.length=b.length
 ·rw[aC (cN (by simp only[len]; omega)),bT]
  have:∀X:Option Bool,(bnd X fun v0=>some v0)=X:=fun X=>by cases X<;>rfl
  rw[this];refine bBT (uE (l:=a) (fun (_:Unit) (p:Nat)=>(p:Int)) (fun i (x:Row) (_:Unit)=>if some x=b[i]? then .inr () else .inl (some false)) (fun _=>some true) (fun _ _=>True) (fun self _ i hi _=>?_) (fun self _ _=>?_) fuelH 0 () (bBR _) (by have:=bF; omega) trivial) ?_
  ·have hb:i<b.length:=by omega
   have e:cnd (ilt (i:Int) (len a)) (grd (inb (i:Int) (len a)) (grd (inb (i:Int) (len b)) (bnd (SQ fuelH (aA a (toN (i:Int)) [],aA b (toN (i:Int)) [])) fun v4=>cnd (bO v4) (some false) (self (w64 (aE (i:Int) 1)))))) (some true)=if a[i]=b[i] then self ((i+1:Nat):Int) else some false:=by
    rw[aD (aV (by simp only[len]; omega)),aF (aX (by simp only[len]; omega)),aF (aX (by simp only[len]; omega)),bB hi,bB hb,aQ hi (by omega),aGJ _ _ (h _ (bAS hi)),aB,rD]
   rw[aY1 hb]
   by_cases hc:a[i]=b[i]
   ·rw[if_pos (by rw[hc])];exact⟨e.trans (if_pos hc),trivial⟩
   ·rw[if_neg (fun h=>hc (by injection h))];exact e.trans (if_neg hc)
  ·simp only;rw[aC (aW (by simp only[len]; omega))]
  ·exact HY a b hab 0
 ·rw[aD (cA (by simp only[len]; omega))]
  have:a≠b:=fun e=>hab (by rw[e])
  simp[this,aB]
theorem hJ{V R σ:Type}{F:(V→Option R)→V→Option R}{n:Nat}(st:σ→Nat→V) (I:Nat→σ→Prop) (r:Option R)
  (hstep:∀self a i,i<n→I i a→∃a',F self (st a i)=self (st a' (i+1))∧I (i+1) a') (hend:∀self a,I n a→F self (st a n)=r):∀(fuel i:Nat) (a:σ),i≤n→n-i<fuel→I i a→bD F fuel (st a i)=r
 | 0,i,a,_,h,_=>by omega
 |fuel+1,i,a,hi,h,hI=>by
  rw[dQ]
  by_cases hl:i<n
  ·obtain⟨a',h1,h2⟩:=hstep (bD F fuel) a i hl hI;rw[h1];exact hJ st I r hstep hend fuel (i+1) a' (by omega) (by omega) h2
  ·obtain rfl:i=n:=by omega
   exact hend _ _ hI
theorem uF{α:Type}{f:α→Nat}{l:List α}{x:α}(h:x∈l):f x≤bkL f l:=by
 induction l with
 |nil=>cases h
 |cons y l ih =>
  simp only[bkL];rcases bBB.1 h with rfl|h
  ·omega
  ·have:=ih h; omega
theorem OQ{α:Type}{f:α→Nat}(hf:∀x,1≤f x) (l:List α):l.length≤bkL f l:=by
 induction l with
 |nil=>exact bBQ _
 |cons y l ih=>have:=hf y; simp only[bkL,bAH]; omega
theorem BE{α:Type}{f:α→Nat}:∀(n:Nat) (l:List α),bkL f (l.take n)≤bkL f l
 | 0,_=>bBR _
 |n+1,[]=>bBQ _
 |n+1,x::l=>by have:=BE (f:=f) n l; simp only[aZV,bkL]; omega
def wtU(x:Run):Nat:=x.1.length+1+(1+(1+1)+(x.2.2.length+1))
def wtR(r:Row):Nat:=bkL wtU r+1
theorem aKC(r:Row):aCW r≤bkL wtU r:=by
 induction r with
 |nil=>exact bBQ _
 |cons x r ih=>simp only[aCW,bkL,wtU]; omega
theorem aGK{l:List Row}{B:Nat}(h:bkL wtR l≤B) (hB:B≤4000000):aQE l:=fun r hr x hx=>by
 have h1:bkL wtU r+1≤bkL wtR l:=uF (f:=wtR) hr
 have h2:x.1.length+1+(1+(1+1)+(x.2.2.length+1))≤bkL wtU r:=uF (f:=wtU) hx
 omega
theorem O7{l:List Row}(h:l.length≤4000000):aCC fuelH l=some l:=by
 have h1:grd (cH (aE (len ([]:List Row)) (len l)) 24) (some (aU ([]:List Row) l))=some l:=by
  rw[aF (cV (by simp only[aE,len,bAZ]; omega))]; rfl
 unfold aCC
 cases l with
 |nil =>
  rw[aC (by rfl)];exact uN rfl h1
 |cons r l =>
  rw[aD (cA (by simp only[len,bAH]; omega))];exact h1
theorem EJ{α:Type}(l:List α) (n:Nat):bH (toN (gV (len l) (n:Int))) l=l.take n∧in2 (gV (len l) (n:Int)) (len l)=true:=by
 have e:toN (gV (len l) (n:Int))=min l.length n:=by simp only[toN,gV,len]; omega
 refine⟨?_,jG (by simp only[gV,len]; omega)⟩;rw[e];unfold bH
 by_cases h:l.length≤n
 ·rw[Nat.min_eq_left h,bAO,aY6 h]
 ·rw[Nat.min_eq_right (by omega)]
theorem aGL(l:Row):tot l≤aCW l:=by rw[aKB]; omega
abbrev Reg:=Y_×Int×Int×Int×Int×UInt8×Bool
abbrev OR:=Int×Int×Int
theorem aKD(N:Nat) (a b c:Int):q20 N (a,b,c)=some (decide (b≤a∧a≤c)):=by
 unfold q20;rw[BB]
 by_cases h:b≤a
 ·simp[h,ile]
 ·simp[h]
def eF(r:Reg):Int :=
 if nm r.1=false then 5 else
 if ¬(0≤r.2.1∧r.2.1≤14) then 2 else
 if ¬(1≤r.2.2.1∧r.2.2.1≤15-r.2.1) then 2 else
 if ¬(0≤r.2.2.2.1∧r.2.2.2.1≤31) then 2 else
 if ¬(1≤r.2.2.2.2.1∧r.2.2.2.2.1≤32-r.2.2.2.1) then 2 else
 if ¬(1≤n8 r.2.2.2.2.2.1∧n8 r.2.2.2.2.2.1≤3) then 3 else 0
theorem aXK{p:Prop} [Decidable p]:(decide p=false)=¬p:=by by_cases h:p<;>simp[h]
theorem vV(r:Reg):q21 fuelH r=some (eF r):=by
 unfold q21 eF;rw[pB,aB];simp only[aKD,aB,vU,nC,aXK,aQD]
 have e1:n8 (1:UInt8)=1:=rfl
 have e3:n8 (3:UInt8)=3:=rfl
 rw[e1,e3]
 by_cases h0:nm r.1=false
 ·rw[if_pos h0,if_pos h0]
 rw[if_neg h0,if_neg h0]
 by_cases h1:0≤r.2.1∧r.2.1≤14
 ·rw[if_neg (not_not_intro h1),if_neg (not_not_intro h1)]
  have w1:w64 (aI 15 r.2.1)=15-r.2.1:=by unfold aI; rw[bS (by omega)]
  rw[w1]
  by_cases h2:1≤r.2.2.1∧r.2.2.1≤15-r.2.1
  ·rw[if_neg (not_not_intro h2),if_neg (not_not_intro h2)]
   by_cases h3:0≤r.2.2.2.1∧r.2.2.2.1≤31
   ·rw[if_neg (not_not_intro h3),if_neg (not_not_intro h3)]
    have w2:w64 (aI 32 r.2.2.2.1)=32-r.2.2.2.1:=by unfold aI; rw[bS (by omega)]
    rw[w2]
    by_cases h4:1≤r.2.2.2.2.1∧r.2.2.2.2.1≤32-r.2.2.2.1
    ·rw[if_neg (not_not_intro h4),if_neg (not_not_intro h4)]
     by_cases h5:n8 r.2.2.2.2.2.1<1
     ·rw[if_pos h5,if_pos (by omega)]
     ·rw[if_neg h5]
      by_cases h6:3<n8 r.2.2.2.2.2.1
      ·rw[if_pos h6,if_pos (by omega)]
      ·rw[if_neg h6,if_neg (by omega)]
    ·rw[if_pos h4,if_pos h4]
   ·rw[if_pos h3,if_pos h3]
  ·rw[if_pos h2,if_pos h2]
 ·rw[if_pos h1,if_pos h1]
def mV:Option Reg→List Reg→Int
 |_,[]=>0
 |p,r::l=>if eF r≠0 then eF r else match p with
  |none=>mV (some r) l
  |some q=>if r.1=q.1 then 7 else if slt r.1 q.1=true then 8 else mV (some r) l
def jR(l:List Reg):Int:=if 16<l.length then 9 else mV none l
def OS(p:Option Reg) (r:Reg):Option Int ⊕ Unit:=if eF r≠0 then .inl (some (eF r)) else match p with
  |none=>.inr ()
  |some q=>if r.1=q.1 then .inl (some 7) else if slt r.1 q.1=true then .inl (some 8) else .inr ()
theorem UK(l:List Reg):∀(r:List Reg) (i:Nat),l.drop i=r→i≤l.length→itI (fun i x (_:Unit)=>OS (before l i) x) (fun _=>some (0:Int)) i r ()=some (mV (before l i) r)
 | [],i,_,_=>rfl
 |x::r,i,h,hi=>by
  have hx:l[i]?=some x:=by rw[←List.head?_drop,h]; rfl
  have hr:l.drop (i+1)=r:=by rw[←bA5,h]; rfl
  have hl:i<l.length:=(aYW.1 hx).1
  simp only[itI,mV,OS]
  have e:before l (i+1)=some x:=hx
  have ih:=UK l r (i+1) hr (by omega)
  rw[e] at ih
  by_cases hc:eF x≠0
  ·rw[if_pos hc,if_pos hc]
  ·rw[if_neg hc,if_neg hc]
   cases before l i with
   |none=>exact ih
   |some q =>
    simp only
    by_cases h7:x.1=q.1
    ·rw[if_pos h7,if_pos h7]
    ·rw[if_neg h7,if_neg h7]
     by_cases h8:slt x.1 q.1=true
     ·rw[if_pos h8,if_pos h8]
     ·rw[if_neg h8,if_neg h8];exact ih
theorem UL(l:List Reg):q22 fuelH l=some (jR l):=by
 unfold q22
 by_cases h:16<l.length
 ·rw[aD (aV (by simp only[len]; omega))]; simp[jR,h]
 ·rw[aC (aW (by simp only[len]; omega)),bT];refine bBT (uE (l:=l) (fun (_:Unit) (p:Nat)=>(p:Int)) (fun i x (_:Unit)=>OS (before l i) x) (fun _=>some (0:Int)) (fun _ _=>True) (fun self a i hi _=>?_) (fun self a _=>?_) fuelH 0 () (bBR _) (by have:=bF; omega) trivial) ?_
  ·rw[aD (aV (by simp only[len]; omega)),aF (aX (by simp only[len]; omega)),bB hi,bN (vV _)];unfold OS
   by_cases hc:eF l[i]≠0
   ·rw[if_pos hc,aD (cA hc)]; rfl
   ·rw[if_neg hc,aC (cN (by simpa using hc)),bT,aQ hi (by omega)]
    cases i with
    |zero =>
     rw[aC (by rfl),aC (by rfl)];exact⟨rfl,trivial⟩
    |succ i =>
     have e0:before l (i+1)=some l[i]:=by simp only[before]; exact aY1 (by omega)
     have hin:inb ((i:Nat):Int) (len l)=true:=aX (by simp only[len]; omega)
     have hp:ilt (0:Int) ((i+1:Nat):Int)=true:=aV (by omega)
     rw[e0,aD hp,oA (by omega),aF hin,bB (show i<l.length by omega),aD hp,aF hin];simp only
     by_cases h7:l[i+1].1=l[i].1
     ·rw[if_pos h7,aD (by rw[dA]; exact h7)]; rfl
     ·rw[if_neg h7,aC (by rw[←bAP,dA]; exact h7)]
      by_cases h8:slt l[i+1].1 l[i].1=true
      ·rw[if_pos h8,aD h8]; rfl
      ·rw[if_neg h8,aC (by simpa using h8)];exact⟨rfl,trivial⟩
  ·rw[aC (aW (by simp only[len]; omega))]
  ·rw[bA6,UK l l 0 rfl (bBR _)];simp[jR,h,before]
def AE:Reg:=([],11,4,0,32,2,true)
def noR:Reg:=([],0,0,0,0,0,false)
def IA(l:List Reg) (n:Y_):Option Reg:=if n=[] then some AE else l.find? fun r=>decide (r.1=n)
def aGM(l:List Reg) (n:Y_):Reg×Bool:=match IA l n with
 |some r=>(r,true)
 |none=>(noR,false)
theorem UM(n:Y_):∀(l:List Reg) (i:Nat),itI (fun _ (x:Reg) (_:Unit)=>if x.1=n then(.inl (some (x,true)):Option (Reg×Bool) ⊕ Unit) else .inr ()) (fun _=>some (noR,false)) i l ()=some (match l.find? fun r=>decide (r.1=n) with|some r=>(r,true)|none=>(noR,false))
 | [],_=>rfl
 |x::l,i=>by
  simp only[itI,List.find?_cons]
  by_cases h:x.1=n
  ·rw[if_pos h,decide_eq_true h]
  ·rw[if_neg h,decide_eq_false h];exact UM n l (i+1)
theorem UN(l:List Reg) (hl:l.length≤4000000) (n:Y_):q24 fuelH (l,n)=some (aGM l n):=by
 unfold q24 aGM IA;simp only
 by_cases h:n=[]
 ·rw[aD (by rw[dA]; exact h),if_pos h]; rfl
 ·rw[aC (by rw[←bAP,dA]; exact h),if_neg h,bT];refine bBT (uE (l:=l) (fun (_:Unit) (p:Nat)=>(p:Int)) (fun _ (x:Reg) (_:Unit)=>if x.1=n then .inl (some (x,true)) else .inr ()) (fun _=>some (noR,false)) (fun _ _=>True) (fun self a i hi _=>?_) (fun self a _=>?_) fuelH 0 () (bBR _) (by have:=bF; omega) trivial) (UM n l 0)
  ·have hin:inb (i:Int) (len l)=true:=aX (by simp only[len]; omega)
   rw[aD (aV (by simp only[len]; omega)),aF hin,bB hi]
   by_cases hc:l[i].1=n
   ·rw[if_pos hc,aD (by rw[dA]; exact hc)]; rfl
   ·rw[if_neg hc,aC (by rw[←bAP,dA]; exact hc),aQ hi (by omega)];exact⟨rfl,trivial⟩
  ·rw[aC (aW (by simp only[len]; omega))];rfl
def jS(r:Reg):Prop:=r=AE∨eF r=0
instance (r:Reg):Decidable (jS r):=by unfold jS; infer_instance
theorem aQH{a b:Reg}:(a=b)=(a.1=b.1∧a.2.1=b.2.1∧a.2.2.1=b.2.2.1∧a.2.2.2.1=b.2.2.2.1∧a.2.2.2.2.1=b.2.2.2.2.1∧a.2.2.2.2.2.1=b.2.2.2.2.2.1∧a.2.2.2.2.2.2=b.2.2.2.2.2.2):=by
 obtain⟨a1,a2,a3,a4,a5,a6,a7⟩:=a; obtain⟨b1,b2,b3,b4,b5,b6,b7⟩:=b; simp
theorem UO(x:Reg):(dT (seq x.1 AE.1) (dT (ieq x.2.1 AE.2.1) (dT (ieq x.2.2.1 AE.2.2.1) (dT (ieq x.2.2.2.1 AE.2.2.2.1) (dT (ieq x.2.2.2.2.1 AE.2.2.2.2.1) (dT (ieq (n8 x.2.2.2.2.2.1) (n8 AE.2.2.2.2.2.1)) (pS x.2.2.2.2.2.2 AE.2.2.2.2.2.2))))))=true)=(x=AE):=by
 simp only[sC,dA,rE,EH,aGI];exact aQH.symm
theorem yB(r:Reg):q38 fuelH r=some (decide (jS r)):=by
 unfold q38;rw[bN (show q23 fuelH ()=some AE from rfl),vV,aB]
 by_cases h:r=AE
 ·rw[aD ((UO r).mpr h),@decide_eq_true (jS r) _ (.inl h)]
 ·rw[aC (by rw[←bAP]; exact fun k=>h ((UO r).mp k))];congr 1
  by_cases h2:eF r=0
  ·rw[dL h2,@decide_eq_true (jS r) _ (.inr h2)]
  ·rw[cZ h2,@decide_eq_false (jS r) _ (fun k=>k.elim h h2)]
theorem IB{r:Reg}(h:jS r):0≤r.2.1∧1≤r.2.2.1∧r.2.1+r.2.2.1≤15∧0≤r.2.2.2.1∧1≤r.2.2.2.2.1∧r.2.2.2.1+r.2.2.2.2.1≤32∧1≤n8 r.2.2.2.2.2.1∧n8 r.2.2.2.2.2.1≤3:=by
 rcases h with rfl|h
 ·decide
 ·unfold eF at h
  split at h
  ·cases h
  split at h
  ·cases h
  split at h
  ·cases h
  split at h
  ·cases h
  split at h
  ·cases h
  split at h
  ·cases h
  omega
def aGN(r:Reg) (n:Int):Int:=if n8 r.2.2.2.2.2.1=3 then r.2.2.2.1+(r.2.2.2.2.1-n) else if n8 r.2.2.2.2.2.1=2 then r.2.2.2.1+(r.2.2.2.2.1-n).tdiv 2 else r.2.2.2.1
def EK(r:Reg) (k:Nat):Int:=if r.2.2.2.2.2.2=true then r.2.1+(r.2.2.1-(k:Int)) else r.2.1
def Z4(r:Reg) (k:Nat) (i:Nat) (n:Int) (out:List OR):Option (List OR×Int) ⊕ List OR :=
 if n<0 then .inl (some ([],2)) else if r.2.2.2.2.1<n then .inl (some ([],11)) else .inr (out++[(EK r k+(i:Int),aGN r n,n)])
def OT(r:Reg) (k:Nat):Nat→List Int→List OR→List OR×Int
 |_,[],out=>(out,0)
 |i,n::l,out=>if n<0 then([],2) else if r.2.2.2.2.1<n then([],11) else OT r k (i+1) l (out++[(EK r k+(i:Int),aGN r n,n)])
def OU(r:Reg) (l:List Int):List OR×Int:=if ¬jS r then([],1) else if r.2.2.1<(l.length:Int) then([],9) else OT r l.length 0 l []
theorem IC(r:Reg) (k:Nat):∀(l:List Int) (i:Nat) (out:List OR),itI (Z4 r k) (fun a=>some (a,(0:Int))) i l out=some (OT r k i l out)
 | [],i,out=>rfl
 |n::l,i,out=>by
  simp only[itI,OT,Z4]
  by_cases h1:n<0
  ·rw[if_pos h1,if_pos h1]
  ·rw[if_neg h1,if_neg h1]
   by_cases h2:r.2.2.2.2.1<n
   ·rw[if_pos h2,if_pos h2]
   ·rw[if_neg h2,if_neg h2];exact IC r k l (i+1) _
theorem aQI{α β:Type}(K:α→Option β) (b:Bool) (x y:α):jn K (fun v=>cnd b (v x) (v y))=K (if b=true then x else y):=by
 rw[bT]; cases b<;>rfl
theorem aKE{x:Int}(h:0≤x):0≤x.tdiv 2∧x.tdiv 2≤x:=by
 rw[Int.tdiv_eq_ediv_of_nonneg h]; omega
theorem aQJ{r:Reg}(hu:jS r){k i:Nat}{n:Int}(hk:(k:Int)≤r.2.2.1) (hi:i<k) (h0:0≤n) (hn:n≤r.2.2.2.2.1) :
  w64 (aE (EK r k) (i:Int))=EK r k+(i:Int)∧w64 (aI r.2.2.2.2.1 n)=r.2.2.2.2.1-n∧w64 (aE r.2.2.2.1 (r.2.2.2.2.1-n))=r.2.2.2.1+(r.2.2.2.2.1-n)∧w64 (aA2 (r.2.2.2.2.1-n) 2)=(r.2.2.2.2.1-n).tdiv 2∧w64 (aE r.2.2.2.1 ((r.2.2.2.2.1-n).tdiv 2))=r.2.2.2.1+(r.2.2.2.2.1-n).tdiv 2:=by
 have hb:=IB hu
 have hd:=aKE (x:=r.2.2.2.2.1-n) (by omega)
 refine⟨?_,?_,?_,?_,?_⟩
 ·unfold aE EK;rw[bS]
  split<;>omega
 ·unfold aI; rw[bS (by omega)]
 ·unfold aE; rw[bS (by omega)]
 ·unfold aA2; rw[bS (by omega)]
 ·unfold aE; rw[bS (by omega)]
theorem OV(r:Reg) (l:List Int):q39 fuelH (r,l)=some (OU r l):=by
 unfold q39 OU;simp only;rw[yB,aB,rD]
 by_cases hu:jS r
 ·rw[if_pos hu,if_neg (not_not_intro hu)]
  have hb:=IB hu
  by_cases hk:r.2.2.1<(l.length:Int)
  ·rw[aD (aV (show r.2.2.1<len l from hk)),if_pos hk]
  ·rw[aC (aW (show ¬r.2.2.1<len l from hk)),if_neg hk,aQI]
   have et:(if r.2.2.2.2.2.2=true then w64 (aE r.2.1 (w64 (aI r.2.2.1 (len l)))) else r.2.1)=EK r l.length:=by
    unfold EK
    have e1:w64 (aI r.2.2.1 (len l))=r.2.2.1-(l.length:Int):=by unfold aI len; rw[bS (by omega)]
    rw[e1];unfold aE;rw[bS (by omega)]
   rw[et,bT];refine bBT (uE (l:=l) (fun (a:List OR) (p:Nat)=>(a,(p:Int))) (Z4 r l.length) (fun a=>some (a,(0:Int))) (fun i a=>a.length≤i) (fun self a i hi ha=>?_) (fun self a _=>?_) fuelH 0 [] (bBR _) (by have:=bF; omega) (bBQ _)) (IC r l.length l 0 [])
   ·have hin:inb (i:Int) (len l)=true:=aX (by simp only[len]; omega)
    simp only;rw[aD (aV (by simp only[len]; omega)),aF hin,bB hi,aQ hi (by omega)];unfold Z4
    by_cases h1:l[i]<0
    ·rw[if_pos h1,aD (aV h1)]; rfl
    ·rw[if_neg h1,aC (aW h1)]
     by_cases h2:r.2.2.2.2.1<l[i]
     ·rw[if_pos h2,aD (aV h2)]; rfl
     ·rw[if_neg h2,aC (aW h2)];obtain⟨q1,q2,q3,q4,q5⟩:=aQJ hu (k:=l.length) (i:=i) (n:=l[i]) (by omega) hi (by omega) (by omega)
      have hroom:∀s:OR,cH (aE (len a) (len [s])) 24=true:=fun s=>cV (by simp only[aE,len,List.length_singleton]; omega)
      rw[q1,q2,q3,q4,q5];rw[aF (hroom _),aF (hroom _),aF (hroom _)];refine⟨?_,by simp only[aZ0,List.length_singleton]; omega⟩;unfold aGN
      have e3:n8 (3:UInt8)=3:=rfl
      have e2:n8 (2:UInt8)=2:=rfl
      rw[BC,BC,e3,e2]
      by_cases c3:n8 r.2.2.2.2.2.1=3
      ·rw[if_pos c3,if_pos c3]; rfl
      ·rw[if_neg c3,if_neg c3]
       by_cases c2:n8 r.2.2.2.2.2.1=2
       ·rw[if_pos c2,if_pos c2]; rfl
       ·rw[if_neg c2,if_neg c2]; rfl
   ·simp only;rw[aC (aW (by simp only[len]; omega))]
 ·rw[if_neg hu,if_pos hu]
abbrev Ev:=Int×(Int×Int)×Y_×UInt8×Y_×List Row
theorem O8{s:Y_}(hs:s.length≤4000000):q33 fuelH s=some ((rns s).length:Int):=by
 unfold q33;rw[bT]
 have hf:∀(l:List Int) (n:Nat),n+l.length≤100000000→UF (fun (_:Int) (a:Int) self=>self (w64 (aE a 1))) (fun a=>some a) l (n:Int)=some ((n+l.length:Nat):Int):=by
  intro l
  induction l with
  |nil=>intro n _; rfl
  |cons r l ih =>
   intro n hn;simp only[bAH] at hn;simp only[UF];rw[aQ (show n<n+1 by omega) (by omega),ih (n+1) (by omega)];simp only[bAH];congr 2;omega
 refine(UG (s:=s) (fun (a:Int) (p:Nat)=>(a,s,ofN p)) (fun _ a self=>self (w64 (aE a 1))) (fun a=>some a) (fun self a p hp=>?_) (fun self a p hp=>?_) fuelH 0 (0:Int) (by have:=bF; omega)).trans ?_
 ·simp only[Z2];rw[aD (aXI (show p<kM s from hp))];rfl
 ·simp only[Z2];rw[aC (aXJ (show ¬p<kM s by unfold kM; omega))]
 ·have:=OP _ s (bBQ _)
  have h:=hf (rns s) 0 (by omega)
  rw[bA6]
  simpa using h
theorem aQK{s:Y_}(hs:s.length≤4000000) (hv:vld s=true):q34 fuelH s=some ((rns s).length:Int):=by
 unfold q34;rw[kH _ hs,aB,hv,aC (by rfl),O8 hs];rfl
def kI:Row→Nat
 | []=>0
 |x::l=>(rns x.1).length+kI l
def dD(l:Row):Y_:=l.flatMap (·.1)
def okR(l:Row):Prop:=l.length≤16∧(∀x∈l,vld x.1=true∧x.1.length≤4000000)∧tot l≤4000000
def OW(l:Row):Prop:=O6 l∧tot l≤4000000
def aGO(l:List Row):Prop:=∀r∈l,OW r
theorem aGP{l:Row}(hs:OW l) (h:nD l=0):okR l:=by
 obtain⟨h1,h2⟩:=yA h;exact⟨h1,fun x hx=>⟨(h2 x hx).1,(hs.1 x hx).1⟩,hs.2⟩
theorem OX:∀(l:Row),(∀x∈l,x.1.length≤4000000)→kI l≤4000000*l.length
 | [],_=>bBQ _
 |x::l,h=>by
  have h1:=OP _ x.1 (bBQ _)
  have h2:=h x aZ4
  have h3:=OX l fun y hy=>h y (aZL _ hy)
  simp only[kI,bAH];omega
theorem yC:∀(l:Row) (i:Nat) (h:i<l.length),kI (l.take (i+1))=kI (l.take i)+(rns l[i].1).length
 |x::l,0,_=>by simp[kI]
 |x::l,i+1,h=>by
  have:=yC l i (by simpa using h)
  simp only[aZV,kI,this,List.getElem_cons_succ];omega
theorem OY(l:Row) (i:Nat):kI (l.take i)≤kI l:=by
 induction l generalizing i with
 |nil=>simp[kI]
 |cons x l ih=>cases i with
  |zero=>simp[kI]
  |succ i=>simp only[aZV,kI]; have:=ih i; omega
theorem aGQ{l:Row}(h:okR l) (L:Y_→Option Int) (hL:∀s:Y_,s.length≤4000000→vld s=true→L s=some ((rns s).length:Int)) :
  bD (fun (v2:Int×Int→Option Int) (v3:Int×Int) =>
  cnd (ilt v3.2 (len l))
   (grd (inb v3.2 (len l))
    (bnd (L (aA l (toN v3.2) zU).1) fun v4 =>
    cnd (ilt v4 (0:Int))
     (some (-1:Int))
     (v2 (w64 (aE v3.1 v4),w64 (aE v3.2 (1:Int))))))
   (some v3.1)) fuelH ((0:Int),(0:Int))=some (kI l:Int):=by
 have hb:=OX l fun x hx=>(h.2.1 x hx).2
 have hl:=h.1
 refine hJ (n:=l.length) (fun (a:Nat) (i:Nat)=>((a:Int),(i:Int))) (fun i a=>a=kI (l.take i)) _ (fun self a i hi hI=>?_) (fun self a hI=>?_) fuelH 0 0 (bBR _) (by have:=bF; omega) rfl
 ·refine⟨a+(rns l[i].1).length,?_,?_⟩
  ·have ht:=yC l i hi
   have ht2:=OY l (i+1)
   simp only;rw[aD (aV (by simp only[len]; omega)),aF (aX (by simp only[len]; omega)),bB hi,hL _ (h.2.1 _ (bAS hi)).2 (h.2.1 _ (bAS hi)).1,aB,aC (aW (by omega)),aQ hi (by omega)]
   have e:w64 (aE (a:Int) ((rns l[i].1).length:Int))=((a+(rns l[i].1).length:Nat):Int):=by
    unfold aE; rw[bS (by omega)]; omega
   rw[e]
  ·rw[yC l i hi,hI]
 ·simp only;rw[aC (aW (by simp only[len]; omega)),hI,bAO]
theorem ID{l:Row}(h:okR l):q35 fuelH l=some (kI l:Int):=by
 unfold q35;rw[bT];exact aGQ h (q34 fuelH) fun s=>aQK
theorem UP(l:Row) (i:Nat) (h:i<l.length):dD (l.take (i+1))=dD (l.take i)++l[i].1:=by
 unfold dD;rw[aYO h,List.flatMap_append];simp
theorem EL:∀(l:Row),(dD l).length=tot l
 | []=>rfl
 |x::l=>by
  have h3:=EL l
  unfold dD at h3 ⊢;simp only[List.flatMap_cons,aZ0,tot,h3]
theorem aGR(l:Row) (i:Nat):tot (l.take i)≤tot l:=by
 have h:=BD (l.take i) (l.drop i)
 rw[aZE] at h;omega
theorem IE{l:Row}(h:okR l) (i:Nat):(dD (l.take i)).length≤4000000:=by
 rw[EL]
 have:=aGR l i
 have:=h.2.2
 omega
theorem aCY{N:Nat}{a b:Y_}(h:a.length+b.length≤100000000):q31 N (((),a),b)=some ((b.length:Int),false,(),a++b):=by
 unfold q31;show(grd (cH (aE (len a) (len b)) 1) (some (len b,false,(),aU a b)))=_;rw[aF (cV (by simp only[aE,len]; omega))];rfl
theorem UQ{l:Row}(h:okR l):q32 fuelH l=some (dD l):=by
 unfold q32;rw[bT]
 have hl:=h.1
 refine hJ (n:=l.length) (fun (a:Y_) (i:Nat)=>((i:Int),(),a)) (fun i a=>a=dD (l.take i)) _ (fun self a i hi hI=>?_) (fun self a hI=>?_) fuelH 0 [] (bBR _) (by have:=bF; omega) rfl
 ·refine⟨a++l[i].1,?_,?_⟩
  ·have h1:=IE h i
   have h2:=(h.2.1 _ (bAS hi)).2
   simp only;rw[aD (aV (by simp only[len]; omega)),aF (aX (by simp only[len]; omega)),bB hi,aCY (by rw[hI]; omega),aB,aQ hi (by omega)]
  ·rw[UP l i hi,hI]
 ·simp only;rw[aC (aW (by simp only[len]; omega)),hI,bAO]
def sp2:Y_→Bool
 | []=>false
 | [_]=>false
 |a::b::t=>([32,32]:Y_).isPrefixOf (a::b::t)||sp2 (b::t)
theorem IF:∀t:Y_,decide (0≤index t [32,32])=sp2 t
 | []=>rfl
 | [a]=>by
  have e:index [a] [32,32]=if([32,32]:Y_).isPrefixOf [a]=true then 0 else if(index [] [32,32] == -1)=true then -1 else index [] [32,32]+1:=rfl
  have hp:([32,32]:Y_).isPrefixOf [a]=false:=by cases h:((32:UInt8)==a)<;>simp[List.isPrefixOf,h]
  rw[e,hp];rfl
 |a::b::t=>by
  have ih:=IF (b::t)
  have hg:=index_ge (b::t) [32,32]
  have e:index (a::b::t) [32,32]=if([32,32]:Y_).isPrefixOf (a::b::t)=true then 0 else if(index (b::t) [32,32] == -1)=true then -1 else index (b::t) [32,32]+1:=rfl
  have e2:sp2 (a::b::t)=(([32,32]:Y_).isPrefixOf (a::b::t)||sp2 (b::t)):=rfl
  rw[e,e2,←ih];generalize index (b::t) [32,32]=m at hg ⊢
  cases ([32,32]:Y_).isPrefixOf (a::b::t) with
  |true=>rfl
  |false =>
   rw[if_neg (by decide),bBD]
   by_cases h1:m=-1
   ·subst h1; rfl
   ·rw[if_neg (by simpa using h1),decide_eq_true (by omega),decide_eq_true (by omega)]
theorem OZ(t:Y_):contains t [32,32]=sp2 t:=IF t
def aMV(t:Y_):Bool:=if t=[] then false else if n8 (aA t (toN (0:Int)) 0)=n8 (32:UInt8) then false else if n8 (aA t (toN (w64 (aI (len t) 1))) 0)=n8 (32:UInt8) then false else !sp2 t
def rG(l:Row):Int:=if nD l≠0 then nD l else if aMV (dD l)=false then 4 else if 32<kI l then 11 else 0
theorem PA{l:Row}(hs:OW l):q36 fuelH l=some (rG l):=by
 unfold q36 rG;rw[bN (UJ hs.1)]
 by_cases hk:nD l≠0
 ·rw[aD (cA hk),if_pos hk]
 ·rw[aC (cN (by simpa using hk)),if_neg hk]
  have hr:=aGP hs (by simpa using hk)
  have hp:=IE hr l.length
  rw[bAO] at hp;rw[bN (UQ hr)];generalize dD l=t at hp ⊢;unfold aMV
  by_cases h0:t=[]
  ·rw[aD (by rw[dA]; exact h0),if_pos h0,if_pos rfl]
  ·have hl:0<t.length:=aZY.2 h0
   have e1:w64 (aI (len t) 1)=((t.length-1:Nat):Int):=rF hl (by omega)
   have hin:inb (w64 (aI (len t) 1)) (len t)=true:=by rw[e1]; exact aX (by simp only[len]; omega)
   rw[aC (by rw[←bAP,dA]; exact h0),if_neg h0,aF (aX (by simp only[len]; omega)),BC]
   by_cases h1:n8 (aA t (toN (0:Int)) 0)=n8 (32:UInt8)
   ·rw[if_pos h1,if_pos h1,if_pos rfl]
   ·rw[if_neg h1,if_neg h1,aF hin,BC]
    by_cases h2:n8 (aA t (toN (w64 (aI (len t) 1))) 0)=n8 (32:UInt8)
    ·rw[if_pos h2,if_pos h2,if_pos rfl]
    ·rw[if_neg h2,if_neg h2]
     have hc:strings_Contains fuelH (t,[32,32])=some (sp2 t):=by
      show grd (decide (t.length<4294967281)) (some (contains t [32,32]))=_;rw[aF (decide_eq_true (by omega)),OZ]
     rw[bN hc]
     by_cases h3:sp2 t=true
     ·rw[aD h3,h3,if_pos (by decide)]
     ·rw[aC (by simpa using h3),Bool.eq_false_iff.2 h3,if_neg (by simp),bN (ID hr),dI]
      by_cases h4:32<kI l
      ·rw[if_pos (by omega),if_pos h4]
      ·rw[if_neg (by omega),if_neg h4]
theorem aGS(N:Nat) (s:Int×Int):q25 N s=some (decide (0≤s.1∧s.1<s.2∧s.2≤5184000)):=by
 unfold q25;rw[BB,dI]
 by_cases h1:0≤s.1
 ·rw[if_pos h1]
  by_cases h2:s.1<s.2
  ·rw[if_pos h2]; simp[h1,h2,ile]
  ·rw[if_neg h2]; simp[h2]
 ·rw[if_neg h1]; simp[h1]
def aGT(k:UInt8):Bool:=match q27 fuelH k with
 |some s=>decide (seq s []=decide (¬(1≤n8 k∧n8 k≤4)))
 |none=>false
theorem aGU(k:UInt8):∃s,q27 fuelH k=some s∧seq s []=decide (¬(1≤n8 k∧n8 k≤4)):=by
 have h:aGT k=true:=eT (P:=aGT) (by kernel_rfl) k
 unfold aGT at h
 split at h
 ·rename_i s hs;exact⟨s,hs,of_decide_eq_true h⟩
 ·cases h
theorem aXL{β:Type}(K:Bool→Option β) (s:Y_) (X:Option Bool) (hX:X=some (nm s)):jn K (fun v=>cnd (sne s ([]:Y_)) (bnd X fun w=>v (bO w)) (v false))=K (decide (s≠[]∧nm s=false)):=by
 rw[bT,hX,aB]
 by_cases h:s=[]
 ·subst h; rfl
 ·rw[aD (by simp[sne,h])];congr 1;cases hn:nm s<;>simp[bO,h]
def IG:List Row→Int→Int
 | [],k=>k
 |l::r,k=>if rG l≠0 then rG l else IG r k
def EM(l:List Row):List Int:=l.map fun r=>(kI r:Int)
def oB(x:Ev) (rs:List Reg):Int :=
 if x.1<1 then 2 else if 1099511627776<x.1 then 2 else
 if ¬(0≤x.2.1.1∧x.2.1.1<x.2.1.2∧x.2.1.2≤5184000) then 2 else
 match IA rs x.2.2.1 with
 |none=>6
 |some r =>
  if ¬(1≤n8 x.2.2.2.1∧n8 x.2.2.2.1≤4) then 3 else
  if x.2.2.2.2.1≠[]∧nm x.2.2.2.2.1=false then 5 else
  if x.2.2.2.2.2.length=0 then 9 else if 4<x.2.2.2.2.2.length then 9 else
  IG x.2.2.2.2.2 (OU r (EM x.2.2.2.2.2)).2
theorem Z5{l:Row}(hs:OW l) (h:rG l=0):okR l:=by
 unfold rG at h
 split at h
 ·rename_i hc; exact absurd h hc
 ·rename_i hc; exact aGP hs (by simpa using hc)
theorem tA{x:Ev}(h:∀l∈x.2.2.2.2.2,okR l) (hl:x.2.2.2.2.2.length≤1000000):q37 fuelH x=some (EM x.2.2.2.2.2):=by
 unfold q37;rw[bT];generalize x.2.2.2.2.2=l at h hl ⊢;refine hJ (n:=l.length) (fun (a:List Int) (i:Nat)=>(a,(i:Int))) (fun i a=>a=EM (l.take i)) _ (fun self a i hi hI=>?_) (fun self a hI=>?_) fuelH 0 [] (bBR _) (by have:=bF; omega) rfl
 ·refine⟨a++[(kI l[i]:Int)],?_,?_⟩
  ·have ha:a.length≤i:=by rw[hI]; unfold EM; rw[bA2,bAK]; omega
   simp only;rw[aD (aV (by simp only[len]; omega)),aF (aX (by simp only[len]; omega)),bB hi,ID (h _ (bAS hi)),aB,aF (cV (by simp only[aE,len,List.length_singleton]; omega)),aQ hi (by omega)];rfl
  ·rw[hI]; unfold EM; rw[aYO hi,bA3]; rfl
 ·simp only;rw[aC (aW (by simp only[len]; omega)),hI,bAO]
theorem UR(K:Option Int) (k:Int):∀(l:List Row) (i:Nat),((∀r∈l,rG r=0)→K=some k)→itI (fun _ (r:Row) (_:Unit)=>if rG r≠0 then(.inl (some (rG r)):Option Int ⊕ Unit) else .inr ()) (fun _=>K) i l ()=some (IG l k)
 | [],i,h=>h fun r hr=>by cases hr
 |r::l,i,h=>by
  simp only[itI,IG]
  by_cases hc:rG r≠0
  ·rw[if_pos hc,if_pos hc]
  ·rw[if_neg hc,if_neg hc];refine UR K k l (i+1) fun hl=>h fun q hq=>?_
   rcases bBB.1 hq with rfl|hq
   ·simpa using hc
   ·exact hl q hq
theorem EN{x:Ev}{rs:List Reg}(hs:aGO x.2.2.2.2.2) (hr:rs.length≤4000000):q40 fuelH (x,rs)=some (oB x rs):=by
 unfold q40 oB;simp only;rw[UN _ hr,aB,dI]
 by_cases c1:x.1<1
 ·rw[if_pos c1,if_pos c1]
 rw[if_neg c1,if_neg c1,dI]
 by_cases c2:1099511627776<x.1
 ·rw[if_pos c2,if_pos c2]
 rw[if_neg c2,if_neg c2,aGS,aB,rD]
 by_cases c3:0≤x.2.1.1∧x.2.1.1<x.2.1.2∧x.2.1.2≤5184000
 ·rw[if_pos c3,if_neg (not_not_intro c3)];unfold aGM
  cases hf:IA rs x.2.2.1 with
  |none=>rfl
  |some r =>
   simp only;rw[aC (by rfl)];obtain⟨s,k1,k2⟩:=aGU x.2.2.2.1;rw[bN k1,k2,jQ]
   by_cases c4:1≤n8 x.2.2.2.1∧n8 x.2.2.2.1≤4
   ·rw[if_neg (not_not_intro c4),if_neg (not_not_intro c4),aXL _ _ _ (pB _),jQ]
    by_cases c5:x.2.2.2.2.1≠[]∧nm x.2.2.2.2.1=false
    ·rw[if_pos c5,if_pos c5]
    rw[if_neg c5,if_neg c5]
    by_cases c6:x.2.2.2.2.2.length=0
    ·rw[aD (dL (by simp only[len]; omega)),if_pos c6]
    rw[aC (cZ (by simp only[len]; omega)),if_neg c6]
    by_cases c7:4<x.2.2.2.2.2.length
    ·rw[aD (aV (by simp only[len]; omega)),if_pos c7]
    rw[aC (aW (by simp only[len]; omega)),if_neg c7,bT]
    have hlen:=@tA x
    generalize x.2.2.2.2.2=l at hs c6 c7 hlen ⊢;refine bBT (uE (l:=l) (fun (_:Unit) (p:Nat)=>(p:Int)) (fun _ (r:Row) (_:Unit)=>if rG r≠0 then .inl (some (rG r)) else .inr ()) (fun _=>bnd (q37 fuelH x) fun v5=>bnd (q39 fuelH (r,v5)) fun v6=>some v6.2) (fun _ _=>True) (fun self a i hi _=>?_) (fun self a _=>?_) fuelH 0 () (bBR _) (by have:=bF; omega) trivial) (UR _ _ l 0 fun hl=>?_)
    ·rw[aD (aV (by simp only[len]; omega)),aF (aX (by simp only[len]; omega)),bB hi,bN (PA (hs _ (bAS hi))),aQ hi (by omega)]
     by_cases hc:rG l[i]≠0
     ·rw[if_pos hc,aD (cA hc)]; rfl
     ·rw[if_neg hc,aC (cN (by simpa using hc))];exact⟨rfl,trivial⟩
    ·rw[aC (aW (by simp only[len]; omega))]
    ·rw[bN (hlen (fun q hq=>Z5 (hs q hq) (hl q hq)) (by omega)),bN (OV _ _)]
   ·rw[if_pos c4,if_pos c4]
 ·rw[if_neg c3,if_pos c3]
abbrev Cmt:=Int×Int×Int×Int×Y_×Y_×Bool×Bool
abbrev Doc:=Y_×Y_×UInt8×Bool×Int×List Reg×List Ev×List Cmt
def tvB(r:UInt8):Bool:=(q16 fuelH r).getD false
def cdB(r:UInt8):Bool:=(q17 fuelH r).getD false
theorem aXM(r:UInt8):q16 fuelH r=some (tvB r)∧q17 fuelH r=some (cdB r) :=
 of_decide_eq_true (eT (P:=fun r=>decide (q16 fuelH r=some (tvB r)∧q17 fuelH r=some (cdB r))) (by kernel_rfl) r)
def iW(r:UInt8) (drop:Bool):Prop:=tvB r=false∨(drop=true∧cdB r=false)
instance (r:UInt8) (drop:Bool):Decidable (iW r drop):=by unfold iW; infer_instance
def iX(d:Doc):Int :=
 if vld d.1=false then 10 else if 400<d.1.length then 9 else if d.2.1≠[]∧nm d.2.1=false then 5 else
 if iW d.2.2.1 d.2.2.2.1 then 13 else if d.2.2.2.2.1<0 then 2 else if 1099511627776<d.2.2.2.2.1 then 2 else 0
theorem aGV(r:UInt8) (b:Bool):q18 fuelH (r,b)=some (if iW r b then 13 else 0):=by
 unfold q18;obtain⟨h1,h2⟩:=aXM r;simp only;rw[h1,aB]
 by_cases c1:tvB r=false
 ·rw[aD (by rw[c1]; rfl),if_pos (show iW r b from .inl c1)]
 ·rw[aC (by rw[←bAP,nC]; exact c1)]
  cases b with
  |false =>
   rw[aC rfl,if_neg];rintro(h|h)
   ·exact c1 h
   ·cases h.1
  |true =>
   rw[aD rfl,h2,aB]
   by_cases c2:cdB r=false
   ·rw[aD (by rw[c2]; rfl),if_pos (show iW r true from .inr ⟨rfl,c2⟩)]
   ·rw[aC (by rw[←bAP,nC]; exact c2),if_neg];rintro(h|h)
    ·exact c1 h
    ·exact c2 h.2
theorem aCZ{d:Doc}(hd:d.1.length≤4000000):q19 fuelH d=some (iX d):=by
 unfold q19 iX;rw[bT,kH _ hd,aB]
 by_cases c1:vld d.1=false
 ·rw[aD (by rw[c1]; rfl),if_pos c1]
 rw[aC (by rw[←bAP,nC]; exact c1),if_neg c1]
 by_cases c2:400<d.1.length
 ·rw[aD (aV (by simp only[len]; omega)),if_pos c2]
 rw[aC (aW (by simp only[len]; omega)),if_neg c2,pB,aB,aGV,aB]
 have hrest:cnd (ine (if iW d.2.2.1 d.2.2.2.1 then(13:Int) else 0) 0) (some (if iW d.2.2.1 d.2.2.2.1 then(13:Int) else 0)) (cnd (ilt d.2.2.2.2.1 0) (some (2:Int)) (cnd (ilt 1099511627776 d.2.2.2.2.1) (some 2) (some 0)))=some (if iW d.2.2.1 d.2.2.2.1 then 13 else if d.2.2.2.2.1<0 then 2 else if 1099511627776<d.2.2.2.2.1 then 2 else 0):=by
  by_cases c4:iW d.2.2.1 d.2.2.2.1
  ·rw[if_pos c4,if_pos c4]; rfl
  ·rw[if_neg c4,if_neg c4,aC (by rfl),dI,dI]
   by_cases c5:d.2.2.2.2.1<0
   ·rw[if_pos c5,if_pos c5]
   rw[if_neg c5,if_neg c5]
   by_cases c6:1099511627776<d.2.2.2.2.1
   ·rw[if_pos c6,if_pos c6]
   ·rw[if_neg c6,if_neg c6]
 rw[hrest];generalize (if iW d.2.2.1 d.2.2.2.1 then(13:Int) else if d.2.2.2.2.1<0 then 2 else if 1099511627776<d.2.2.2.2.1 then 2 else 0)=R
 by_cases c3:d.2.1=[]
 ·rw[aC (by simp[sne,c3]),if_neg fun h=>h.1 c3]
 ·rw[aD (by simp[sne,c3])]
  by_cases c4:nm d.2.1=false
  ·rw[aD (by rw[c4]; rfl),if_pos ⟨c3,c4⟩]
  ·rw[aC (by rw[←bAP,nC]; exact c4),if_neg fun h=>c4 h.2]
def oC:Nat→List Ev→List (Int×Int)
 |_,[]=>[]
 |i,x::l=>(x.1,(i:Int))::oC (i+1) l
def tB:Nat→List Ev→Int→Int
 |_,[],_=>-1
 |i,x::l,k=>if x.1=k then(i:Int) else tB (i+1) l k
def oD(l:List Ev) (k:Int):Prop:=∃x∈l,x.1=k
instance (l:List Ev) (k:Int):Decidable (oD l k):=by unfold oD; infer_instance
theorem US:∀(a b:List Ev) (i:Nat),oC i (a++b)=oC i a++oC (i+a.length) b
 | [],b,i=>by simp[oC]
 |x::a,b,i=>by
  simp only[bAJ,oC,US a b (i+1),bAH];congr 3; omega
theorem lN:∀(l:List Ev) (i:Nat) (k:Int),jH ieq (oC i l) k=decide (oD l k)
 | [],i,k=>by simp[oC,jH,oD]
 |x::l,i,k=>by
  simp only[oC,jH,lN l (i+1) k]
  by_cases h:k=x.1
  ·rw[dL h,decide_eq_true (show oD (x::l) k from⟨x,aZ4,h.symm⟩)]; rfl
  ·rw[cZ h];show(false||_)=_;rw[bBD];exact decide_eq_decide.2 ⟨fun ⟨y,h1,h2⟩=>⟨y,aZL _ h1,h2⟩,fun ⟨y,h1,h2⟩=>by
    rcases bBB.1 h1 with rfl|h1
    ·exact absurd h2.symm h
    ·exact⟨y,h1,h2⟩⟩
theorem qF{k v:Int}:∀(m:List (Int×Int)),jH ieq m k=false→pU ieq m k v=m++[(k,v)]
 | [],_=>rfl
 |x::m,h=>by
  simp only[jH,bor,Bool.or_eq_false_iff] at h;simp only[pU,h.1,qF m h.2];rfl
theorem IH:∀(l:List Ev) (i:Nat) (k:Int),oD l k→nJ ieq 0 (oC i l) k=tB i l k
 | [],i,k,h=>by obtain⟨x,h,_⟩:=h; cases h
 |x::l,i,k,h=>by
  simp only[oC,nJ,tB]
  by_cases hc:x.1=k
  ·rw[dL hc.symm,if_pos hc]; rfl
  ·rw[cZ (fun e=>hc e.symm),if_neg hc];obtain⟨y,h1,h2⟩:=h;rcases bBB.1 h1 with rfl|h1
   ·exact absurd h2 hc
   ·exact IH l (i+1) k ⟨y,h1,h2⟩
theorem II:∀(l:List Ev) (i:Nat) (k:Int),oD l k→∃j,∃h:j<l.length,tB i l k=((i+j:Nat):Int)∧l[j].1=k∧¬oD (l.take j) k
 | [],i,k,h=>by obtain⟨x,h,_⟩:=h; cases h
 |x::l,i,k,h=>by
  simp only[tB]
  by_cases hc:x.1=k
  ·exact⟨0,by simp,by rw[if_pos hc]; rfl,hc,fun ⟨y,h1,_⟩=>by cases h1⟩
  ·obtain⟨y,h1,h2⟩:=h;rcases bBB.1 h1 with rfl|h1
   ·exact absurd h2 hc
   ·obtain⟨j,hj,e1,e2,e3⟩:=II l (i+1) k ⟨y,h1,h2⟩;refine⟨j+1,by simpa using hj,?_,by simpa using e2,?_⟩
    ·rw[if_neg hc,e1]; congr 1; omega
    ·rintro⟨z,h3,h4⟩;rw[aZV] at h3;rcases bBB.1 h3 with rfl|h3
     ·exact hc h4
     ·exact e3 ⟨z,h3,h4⟩
def oE(a b:Ev):Prop:=a.2.1.1<b.2.1.1∨(a.2.1.1=b.2.1.1∧a.1<b.1)
instance (a b:Ev):Decidable (oE a b):=by unfold oE; infer_instance
theorem aGW(N:Nat) (a b:Int):q42 N (a,b)=some (if a<b then -1 else if b<a then 1 else 0):=by
 unfold q42
 have h:∀x:Int,q41 N x=some false:=fun x=>by
  show some (ine x x)=_;rw[cN rfl]
 simp only;rw[h,h,aB,aB,aC rfl,aC rfl,dI,dI]
 by_cases h1:a<b
 ·rw[if_pos h1,if_pos h1]
 ·rw[if_neg h1,if_neg h1]
  by_cases h2:b<a
  ·rw[if_pos h2,if_pos h2]
  ·rw[if_neg h2,if_neg h2]
theorem aXN(a b:Int):q43 fuelH [a,b]=some (if a≠0 then a else b):=by
 have h:q43 fuelH [a,b]=cnd (ine a 0) (some a) (cnd (ine b 0) (some b) (some 0)):=by kernel_rfl
 rw[h,vS,vS]
 by_cases h1:a≠0
 ·rw[if_pos h1,if_pos h1]
 ·rw[if_neg h1,if_neg h1]
  by_cases h2:b≠0
  ·rw[if_pos h2]
  ·rw[if_neg h2]; congr 1; omega
theorem O9(a b:Ev):q44 fuelH (a,b)=some (decide (oE a b)):=by
 unfold q44;simp only;rw[aGW,aB,aGW,aB,aXN,aB];congr 1
 by_cases h1:a.2.1.1<b.2.1.1
 ·rw[if_pos h1,if_pos (by decide),@decide_eq_true (oE a b) _ (.inl h1)]; rfl
 ·rw[if_neg h1]
  by_cases h2:b.2.1.1<a.2.1.1
  ·rw[if_pos h2,if_pos (by decide),@decide_eq_false (oE a b) _ (by unfold oE; omega)]; rfl
  ·rw[if_neg h2,if_neg (by decide)]
   by_cases h3:a.1<b.1
   ·rw[if_pos h3,@decide_eq_true (oE a b) _ (by unfold oE; omega)]; rfl
   ·rw[if_neg h3,@decide_eq_false (oE a b) _ (by unfold oE; omega)]
    split<;>rfl
def GB{α:Type}(R:List α→α→Int):List α→List α→Int
 |_,[]=>0
 |pre,x::l=>if R pre x≠0 then R pre x else GB R (pre++[x]) l
theorem IJ{α:Type}{R:List α→α→Int}:∀(l pre:List α),GB R pre l=0→∀j (h:j<l.length),R (pre++l.take j) l[j]=0
 | [],_,_,j,h=>by simp at h
 |x::l,pre,h0,j,h=>by
  simp only[GB] at h0
  split at h0
  ·rename_i hc; exact absurd h0 hc
  ·rename_i hc
   cases j with
   |zero=>simpa using hc
   |succ j =>
    have:=IJ l (pre++[x]) h0 j (by simpa using h)
    simpa using this
theorem EO{V σ α ρ:Type}{F:(V→Option ρ)→V→Option ρ}{l:List α}(st:σ→Nat→V) (g:List α→σ) (R:List α→α→Int) (w:Int→ρ) (K:Option ρ)
  (hstep:∀self i (h:i<l.length),F self (st (g (l.take i)) i)=if R (l.take i) l[i]≠0 then some (w (R (l.take i) l[i])) else self (st (g (l.take (i+1))) (i+1)))
  (hend:(∀j (h:j<l.length),R (l.take j) l[j]=0)→∀self,F self (st (g l) l.length)=K) :
  ∀(fuel i:Nat),i≤l.length→l.length-i<fuel→(∀j (h:j<l.length),j<i→R (l.take j) l[j]=0) →
  bD F fuel (st (g (l.take i)) i)=if GB R (l.take i) (l.drop i)≠0 then some (w (GB R (l.take i) (l.drop i))) else K
 | 0,i,_,h,_=>by omega
 |fuel+1,i,hi,h,hp=>by
  rw[dQ]
  by_cases hl:i<l.length
  ·rw[hstep _ i hl,aYY hl,GB]
   by_cases hc:R (l.take i) l[i]≠0
   ·rw[if_pos hc,if_pos hc,if_pos hc]
   ·rw[if_neg hc,if_neg hc]
    have ih:=EO st g R w K hstep hend fuel (i+1) (by omega) (by omega) (fun j hj hji=>by
     by_cases e:j=i
     ·subst e; simpa using hc
     ·exact hp j hj (by omega))
    rw[ih,aYO hl]
  ·obtain rfl:i=l.length:=by omega
   rw[bAO,hend (fun j hj=>hp j hj hj),bAR];rfl
def EP:List Row→Nat
 | []=>0
 |r::l=>kI r+EP l
def UT(x:Ev):Int:=((x.2.2.2.2.2.length-1+EP x.2.2.2.2.2:Nat):Int)
theorem IK:∀(l:List Row) (i:Nat) (h:i<l.length),EP (l.take (i+1))=EP (l.take i)+kI l[i]
 |x::l,0,_=>by simp[EP]
 |x::l,i+1,h=>by
  have:=IK l i (by simpa using h)
  simp only[aZV,EP,this,List.getElem_cons_succ];omega
theorem UU{l:Row}(h:okR l):kI l≤64000000:=by
 have h1:=OX l fun x hx=>(h.2.1 x hx).2
 have h2:=h.1
 omega
theorem Z6:∀(l:List Row),(∀r∈l,okR r)→EP l≤64000000*l.length
 | [],_=>bBQ _
 |r::l,h=>by
  have h1:=UU (h r aZ4)
  have h2:=Z6 l fun q hq=>h q (aZL _ hq)
  simp only[EP,bAH];omega
theorem PB(l:List Row) (h:∀r∈l,okR r) (i:Nat):EP (l.take i)≤64000000*l.length:=by
 have h1:=Z6 (l.take i) fun r hr=>h r (aZO hr)
 have:(l.take i).length≤l.length:=by rw[bAK]; omega
 omega
theorem PC{x:Ev}(h:∀l∈x.2.2.2.2.2,okR l) (hl:x.2.2.2.2.2.length≤1000):q45 fuelH x=some (UT x):=by
 unfold q45 UT;rw[bT,bN (tA h (by omega))];generalize x.2.2.2.2.2=l at h hl ⊢
 have hll:(EM l).length=l.length:=by unfold EM; rw[bA2]
 have e0:QG (w64 (aI (len l) 1)) 0=((l.length-1:Nat):Int):=by
  simp only[aI,QG,len];rw[bS (by omega)];omega
 rw[e0];refine hJ (n:=l.length) (fun (a:Nat) (i:Nat)=>((a:Int),(i:Int))) (fun i a=>a=l.length-1+EP (l.take i)) _ (fun self a i hi hI=>?_) (fun self a hI=>?_) fuelH 0 (l.length-1) (bBR _) (by have:=bF; omega) (by simp[EP])
 ·refine⟨a+kI l[i],?_,?_⟩
  ·have ht:=PB l h i
   have hb:=UU (h _ (bAS hi))
   have hin:inb (i:Int) (len (EM l))=true:=aX (by simp only[len,hll]; omega)
   have hg:aA (EM l) (toN (i:Int)) (0:Int)=(kI l[i]:Int):=by
    rw[bB (by omega)];simp[EM]
   simp only;rw[aD (aV (by simp only[len,hll]; omega)),aF hin,hg,aC (aW (by omega)),aQ hi (by omega)]
   have e:w64 (aE (a:Int) (kI l[i]:Int))=((a+kI l[i]:Nat):Int):=by
    unfold aE; rw[bS (by omega)]; omega
   rw[e]
  ·rw[IK l i hi,hI]; omega
 ·simp only;rw[aC (aW (by simp only[len,hll]; omega)),hI,bAO]
theorem EQ:∀(l:List Row) (k:Int),IG l k=0→(∀r∈l,rG r=0)∧k=0
 | [],k,h=>⟨fun r hr=>(by cases hr),h⟩
 |r::l,k,h=>by
  simp only[IG] at h
  split at h
  ·rename_i hc; exact absurd h hc
  ·rename_i hc;obtain⟨h1,h2⟩:=EQ l k h;refine⟨fun q hq=>?_,h2⟩;rcases bBB.1 hq with rfl|hq
   ·simpa using hc
   ·exact h1 q hq
theorem aGX{x:Ev}{rs:List Reg}(h:oB x rs=0):1≤x.1∧x.1≤1099511627776∧(0≤x.2.1.1∧x.2.1.1<x.2.1.2∧x.2.1.2≤5184000)∧0<x.2.2.2.2.2.length∧x.2.2.2.2.2.length≤4∧(∀r∈x.2.2.2.2.2,rG r=0)∧∃r,IA rs x.2.2.1=some r∧(OU r (EM x.2.2.2.2.2)).2=0:=by
 unfold oB at h
 split at h
 ·cases h
 split at h
 ·cases h
 split at h
 ·cases h
 rename_i c1 c2 c3
 split at h
 ·cases h
 rename_i r hr
 split at h
 ·cases h
 split at h
 ·cases h
 split at h
 ·cases h
 split at h
 ·cases h
 rename_i c6 c7;obtain⟨h1,h2⟩:=EQ _ _ h;exact⟨by omega,by omega,by omega,by omega,by omega,h1,r,hr,h2⟩
def aKF(p:Option Ev) (x:Ev):Bool:=match p with
 |some q=>decide (oE q x)
 |none=>true
def IL(rs:List Reg) (last:Int) (pre:List Ev) (x:Ev):Int :=
 if oB x rs≠0 then oB x rs else if last<x.1 then 2 else if aKF pre.getLast? x=false then 8 else if oD pre x.1 then 7 else 0
def uG(d:Doc):Int:=GB (IL d.2.2.2.2.2.1 d.2.2.2.2.1) [] d.2.2.2.2.2.2.1
theorem UV{rs:List Reg}{last:Int}{pre:List Ev}{x:Ev}(h:IL rs last pre x=0):oB x rs=0∧x.1≤last∧aKF pre.getLast? x=true∧¬oD pre x.1:=by
 unfold IL at h
 split at h
 ·rename_i hc; exact absurd h hc
 rename_i c1
 split at h
 ·cases h
 rename_i c2
 split at h
 ·cases h
 rename_i c3
 split at h
 ·cases h
 rename_i c4;exact⟨by simpa using c1,by omega,by simpa using c3,c4⟩
theorem IM{α:Type}{l:List α}{i:Nat}(h:i<l.length):(l.take (i+1)).getLast?=some l[i]:=by
 rw[aYO h,List.getLast?_concat]
theorem aYK{α:Type}{K:Unit→Option α}{X:Option α}(h:K ()=X) (T:(Unit→Option α)→Option α):jn K T=T fun _=>X:=by
 rw[bT,show K=fun _=>X from funext fun _=>h]
def aQL(p:Option Cmt) (c:Cmt):Bool:=match p with
 |some q=>decide (q.1<c.1)
 |none=>true
def evZ:Ev:=(0,(0,0),[],0,[],[])
def aC0(l:List Ev) (k:Int):Ev:=aA l (toN (tB 0 l k)) evZ
def aGY(d:Doc) (c:Cmt):Int :=
 if c.2.1<1 then 2 else if d.2.2.2.2.1<c.2.1 then 2 else
 if c.2.2.2.2.2.2.2=true then(if c.2.2.1≠0 then 2 else if c.2.2.2.1≠0 then 2 else 0) else
 if ¬oD d.2.2.2.2.2.2.1 c.2.1 then 6 else if c.2.2.1<0 then 2 else if c.2.2.2.1≤c.2.2.1 then 2 else
 if UT (aC0 d.2.2.2.2.2.2.1 c.2.1)<c.2.2.2.1 then 2 else 0
def aXO(c:Cmt):Int:=if nm c.2.2.2.2.1=false then 5 else if vld c.2.2.2.2.2.1=false then 10 else if c.2.2.2.2.2.1=[] then 4 else if 400<c.2.2.2.2.2.1.length then 9 else 0
def Z7(d:Doc) (c:Cmt):Int:=if aGY d c≠0 then aGY d c else aXO c
def ER(d:Doc) (pre:List Cmt) (c:Cmt):Int :=
 if c.1<1 then 2 else if d.2.2.2.2.1<c.1 then 2 else if aQL pre.getLast? c=false then 8 else if oD d.2.2.2.2.2.2.1 c.1 then 7 else Z7 d c
def sD(d:Doc):Int:=if 64<d.2.2.2.2.2.2.2.length then 9 else GB (ER d) [] d.2.2.2.2.2.2.2
def Z8(d:Doc):Prop:=(∀x∈d.2.2.2.2.2.2.1,(∀r∈x.2.2.2.2.2,okR r)∧x.2.2.2.2.2.length≤4)∧d.2.2.2.2.2.2.1.length≤400∧∀c∈d.2.2.2.2.2.2.2,c.2.2.2.2.2.1.length≤4000000
theorem aC1{d:Doc}(hg:Z8 d){k:Int}(h:oD d.2.2.2.2.2.2.1 k):inb (tB 0 d.2.2.2.2.2.2.1 k) (len d.2.2.2.2.2.2.1)=true∧0≤tB 0 d.2.2.2.2.2.2.1 k∧q45 fuelH (aC0 d.2.2.2.2.2.2.1 k)=some (UT (aC0 d.2.2.2.2.2.2.1 k)):=by
 obtain⟨j,hj,e1,e2,e3⟩:=II _ 0 k h
 have he:aC0 d.2.2.2.2.2.2.1 k=d.2.2.2.2.2.2.1[j]:=by
  unfold aC0;rw[e1,bBI,bB hj]
 obtain⟨h1,h2⟩:=hg.1 _ (bAS hj);rw[he];refine⟨by rw[e1]; exact aX (by simp only[len]; omega),by omega,PC h1 (by omega)⟩
theorem UW{d:Doc}(hg:Z8 d) (c:Cmt):q46 fuelH (d,c,oC 0 d.2.2.2.2.2.2.1)=some (aGY d c,oC 0 d.2.2.2.2.2.2.1):=by
 unfold q46 aGY;simp only;rw[dI]
 by_cases c1:c.2.1<1
 ·rw[if_pos c1,if_pos c1]
 rw[if_neg c1,if_neg c1,dI]
 by_cases c2:d.2.2.2.2.1<c.2.1
 ·rw[if_pos c2,if_pos c2]
 rw[if_neg c2,if_neg c2]
 by_cases c3:c.2.2.2.2.2.2.2=true
 ·rw[aD c3,if_pos c3,vS,vS]
  by_cases c4:c.2.2.1≠0
  ·rw[if_pos c4,if_pos c4]
  rw[if_neg c4,if_neg c4]
  by_cases c5:c.2.2.2.1≠0
  ·rw[if_pos c5,if_pos c5]
  ·rw[if_neg c5,if_neg c5]
 ·rw[aC (by simpa using c3),if_neg c3,lN,rD]
  by_cases c4:oD d.2.2.2.2.2.2.1 c.2.1
  ·rw[if_pos c4,if_neg (not_not_intro c4),dI]
   by_cases c5:c.2.2.1<0
   ·rw[if_pos c5,if_pos c5]
   rw[if_neg c5,if_neg c5,BB]
   by_cases c6:c.2.2.2.1≤c.2.2.1
   ·rw[if_pos c6,if_pos c6]
   obtain⟨q1,q2,q3⟩:=aC1 hg c4
   have hm:nJ ieq (0:Int) (oC 0 d.2.2.2.2.2.2.1) c.2.1=tB 0 d.2.2.2.2.2.2.1 c.2.1:=IH _ _ _ c4
   rw[if_neg c6,if_neg c6,hm,aF q1];refine bBT (bN (show q45 fuelH (aA d.2.2.2.2.2.2.1 (toN (tB 0 d.2.2.2.2.2.2.1 c.2.1)) evZ)=_ from q3)) ?_;rw[dI]
   by_cases c7:UT (aC0 d.2.2.2.2.2.2.1 c.2.1)<c.2.2.2.1
   ·rw[if_pos c7,if_pos c7]
   ·rw[if_neg c7,if_neg c7]
  ·rw[if_neg c4,if_pos c4]
theorem UX{d:Doc}(hg:Z8 d):q47 fuelH (d,oC 0 d.2.2.2.2.2.2.1)=some (sD d,oC 0 d.2.2.2.2.2.2.1):=by
 unfold q47 sD;simp only
 by_cases h:64<d.2.2.2.2.2.2.2.length
 ·rw[aD (aV (by simp only[len]; omega)),if_pos h]
 rw[aC (aW (by simp only[len]; omega)),if_neg h,bT]
 have hanc:=fun c=>UW hg c
 have hvl:=hg.2.2
 generalize hm:oC 0 d.2.2.2.2.2.2.1=m at hanc ⊢
 have hmh:∀k,jH ieq m k=decide (oD d.2.2.2.2.2.2.1 k):=fun k=>by rw[←hm]; exact lN _ _ _
 generalize hl:d.2.2.2.2.2.2.2=l at h hvl ⊢;refine bBT (EO (l:=l) (fun (_:Unit) (p:Nat)=>((p:Int),m)) (fun _=>()) (ER d) (fun e=>(e,m)) (some (0,m)) (fun self i hi=>?_) (fun _ self=>?_) fuelH 0 (bBR _) (by have:=bF; omega) (fun j _ hj=>by omega)) ?_
 ·have hin:inb (i:Int) (len l)=true:=aX (by simp only[len]; omega)
  have hv:=hvl _ (bAS hi)
  simp only;rw[aD (aV (by simp only[len]; omega)),aF hin,bB hi];refine bBT (aYK (X:=if Z7 d l[i]≠0 then some (Z7 d l[i],m) else self (((i+1:Nat):Int),m)) ?_ _) ?_
  ·skip
   rw[hanc,aB];unfold Z7
   by_cases c1:aGY d l[i]≠0
   ·rw[if_pos c1,if_pos c1,aD (cA c1)]
   ·rw[if_neg c1,aC (cN (by simpa using c1)),pB,aB];unfold aXO
    by_cases c2:nm l[i].2.2.2.2.1=false
    ·rw[aD (by rw[c2]; rfl),if_pos c2,if_pos (by decide)]
    rw[aC (by rw[←bAP,nC]; exact c2),if_neg c2,kH _ hv,aB]
    by_cases c3:vld l[i].2.2.2.2.2.1=false
    ·rw[aD (by rw[c3]; rfl),if_pos c3,if_pos (by decide)]
    rw[aC (by rw[←bAP,nC]; exact c3),if_neg c3]
    by_cases c4:l[i].2.2.2.2.2.1=[]
    ·rw[aD (by rw[dA]; exact c4),if_pos c4,if_pos (by decide)]
    rw[aC (by rw[←bAP,dA]; exact c4),if_neg c4]
    by_cases c5:400<l[i].2.2.2.2.2.1.length
    ·rw[aD (aV (by simp only[len]; omega)),if_pos c5,if_pos (by decide)]
    ·rw[aC (aW (by simp only[len]; omega)),if_neg c5,if_neg (by decide),aQ hi (by omega)]
  ·simp only;rw[dI,dI];unfold ER
   by_cases c1:l[i].1<1
   ·rw[if_pos c1,if_pos c1,if_pos (by decide)]
   rw[if_neg c1,if_neg c1]
   by_cases c2:d.2.2.2.2.1<l[i].1
   ·rw[if_pos c2,if_pos c2,if_pos (by decide)]
   rw[if_neg c2,if_neg c2,hmh]
   cases i with
   |zero =>
    rw[aC (by rfl)]
    have e0:aQL (l.take 0).getLast? l[0]=true:=rfl
    rw[e0,if_neg (show ¬true=false by decide),jQ]
    by_cases c3:oD d.2.2.2.2.2.2.1 l[0].1
    ·rw[if_pos c3,if_pos c3,if_pos (by decide)]
    ·rw[if_neg c3,if_neg c3]
   |succ i =>
    rw[aD (aV (by omega)),oA (by omega),aF (aX (by simp only[len]; omega)),bB (show i<l.length by omega),BB,jQ]
    have e0:aQL (l.take (i+1)).getLast? l[i+1]=decide (l[i].1<l[i+1].1):=by rw[IM (show i<l.length by omega)]; rfl
    rw[e0]
    by_cases c4:l[i+1].1≤l[i].1
    ·rw[if_pos c4,decide_eq_false (by omega),if_pos rfl,if_pos (by decide)]
    rw[if_neg c4,decide_eq_true (by omega),if_neg (show ¬true=false by decide)]
    by_cases c3:oD d.2.2.2.2.2.2.1 l[i+1].1
    ·rw[if_pos c3,if_pos c3,if_pos (by decide)]
    ·rw[if_neg c3,if_neg c3]
 ·simp only;rw[aC (aW (by simp only[len]; omega))]
 ·rw[bA8,bA6]
  by_cases hc:GB (ER d) [] l≠0
  ·rw[if_pos hc]
  ·rw[if_neg hc]
   have hc:GB (ER d) [] l=0:=by simpa using hc
   rw[hc]
def cB(d:Doc):Int :=
 if iX d≠0 then iX d else if jR d.2.2.2.2.2.1≠0 then jR d.2.2.2.2.2.1 else
 if 400<d.2.2.2.2.2.2.1.length then 9 else if uG d≠0 then uG d else sD d
def rH(d:Doc):Prop:=d.1.length≤4000000∧d.2.2.2.2.2.1.length≤4000000∧(∀x∈d.2.2.2.2.2.2.1,aGO x.2.2.2.2.2)∧∀c∈d.2.2.2.2.2.2.2,c.2.2.2.2.2.1.length≤4000000
theorem aKG{d:Doc}(hs:rH d) (hn:d.2.2.2.2.2.2.1.length≤400) (h:∀j (h:j<d.2.2.2.2.2.2.1.length),IL d.2.2.2.2.2.1 d.2.2.2.2.1 (d.2.2.2.2.2.2.1.take j) d.2.2.2.2.2.2.1[j]=0):Z8 d:=by
 refine⟨fun x hx=>?_,hn,hs.2.2.2⟩;obtain⟨j,hj,rfl⟩:=List.mem_iff_getElem.1 hx;obtain⟨h1,_⟩:=UV (h j hj);obtain⟨_,_,_,_,h4,h5,_⟩:=aGX h1;exact⟨fun r hr=>Z5 (hs.2.2.1 _ hx r hr) (h5 r hr),h4⟩
theorem aC2{l:List Ev}{i:Nat}(hi:i<l.length) (hn:¬oD (l.take i) l[i].1):pU ieq (oC 0 (l.take i)) l[i].1 (i:Int)=oC 0 (l.take (i+1)):=by
 rw[qF _ (by rw[lN,decide_eq_false hn]),aYO hi,US]
 have:(l.take i).length=i:=by rw[bAK]; omega
 rw[this,bBI];rfl
theorem iY{d:Doc}(hs:rH d):q48 fuelH d=some (cB d):=by
 unfold q48 cB;rw[bN (aCZ hs.1)]
 by_cases c1:iX d≠0
 ·rw[aD (cA c1),if_pos c1]
 rw[aC (cN (by simpa using c1)),if_neg c1,bN (UL _)]
 by_cases c2:jR d.2.2.2.2.2.1≠0
 ·rw[aD (cA c2),if_pos c2]
 rw[aC (cN (by simpa using c2)),if_neg c2]
 by_cases c3:400<d.2.2.2.2.2.2.1.length
 ·rw[aD (aV (by simp only[len]; omega)),if_pos c3]
 rw[aC (aW (by simp only[len]; omega)),if_neg c3,bT]
 have hgood:=@aKG d hs (by omega)
 have hcm:=@UX d
 unfold uG
 have hev:=hs.2.2.1
 generalize hl:d.2.2.2.2.2.2.1=l at c3 hgood hcm hev ⊢;refine bBT (EO (l:=l) (fun (a:List (Int×Int)) (p:Nat)=>((p:Int),a)) (fun pre=>oC 0 pre) (IL d.2.2.2.2.2.1 d.2.2.2.2.1) (fun e=>e) (some (sD d)) (fun self i hi=>?_) (fun hz self=>?_) fuelH 0 (bBR _) (by have:=bF; omega) (fun j _ hj=>by omega)) ?_
 ·have hin:inb (i:Int) (len l)=true:=aX (by simp only[len]; omega)
  have hx:=hev _ (bAS hi)
  simp only;rw[aD (aV (by simp only[len]; omega)),aF hin,bB hi,bN (EN hx hs.2.1),dI,aQ hi (by omega)];unfold IL
  by_cases e1:oB l[i] d.2.2.2.2.2.1≠0
  ·rw[if_pos e1,if_pos e1,aD (cA e1)]
  rw[if_neg e1,aC (cN (by simpa using e1))]
  by_cases e2:d.2.2.2.2.1<l[i].1
  ·rw[if_pos e2,if_pos e2,if_pos (by decide)]
  rw[if_neg e2,if_neg e2]
  have hput:=fun h=>aC2 hi h
  cases i with
  |zero =>
   rw[aC (by rfl),lN,jQ]
   have e0:aKF (l.take 0).getLast? l[0]=true:=rfl
   rw[e0,if_neg (show ¬true=false by decide)]
   by_cases e3:oD (l.take 0) l[0].1
   ·rw[if_pos e3,if_pos e3,if_pos (by decide)]
   ·rw[if_neg e3,if_neg e3,hput e3,if_neg (by decide)]
  |succ i =>
   rw[aD (aV (by omega)),oA (by omega),aF (aX (by simp only[len]; omega)),bB (show i<l.length by omega),bN (O9 _ _),lN,jQ,rD]
   have e0:aKF (l.take (i+1)).getLast? l[i+1]=decide (oE l[i] l[i+1]):=by rw[IM (show i<l.length by omega)]; rfl
   rw[e0]
   by_cases e4:oE l[i] l[i+1]
   ·rw[if_pos e4,decide_eq_true e4,if_neg (show ¬true=false by decide)]
    by_cases e3:oD (l.take (i+1)) l[i+1].1
    ·rw[if_pos e3,if_pos e3,if_pos (by decide)]
    ·rw[if_neg e3,if_neg e3,hput e3,if_neg (by decide)]
   ·rw[if_neg e4,decide_eq_false e4,if_pos rfl,if_pos (by decide)]
 ·simp only;rw[aC (aW (by simp only[len]; omega)),bN (hcm (hgood hz))]
 ·rw[bA8,bA6]
  split<;>rfl
theorem aC3{l:List Reg}(hl:l.length≤1000000):aCI fuelH (l,l)=some true:=by
 unfold aCI;simp only;rw[aC (cN rfl),bT];refine hJ (n:=l.length) (fun (_:Unit) (i:Nat)=>(i:Int)) (fun _ _=>True) _ (fun self a i hi _=>⟨(),?_,trivial⟩) (fun self a _=>?_) fuelH 0 () (bBR _) (by have:=bF; omega) trivial
 ·have hin:inb (i:Int) (len l)=true:=aX (by simp only[len]; omega)
  rw[aD (aV (by simp only[len]; omega)),aF hin,aF hin,bB hi,aQ hi (by omega),aC];rw[←bAP,nC,Bool.eq_false_iff];intro h;refine h ?_;simp only[sC,dA,rE,EH];simp
 ·rw[aC (aW (by simp only[len]; omega))]
theorem aKH{x:Ev}(h1:x.2.2.2.2.2.length≤4000000) (h2:∀r∈x.2.2.2.2.2,r.length≤4000000):M4 fuelH (x,x)=some true:=by
 unfold M4;simp only;rw[aD (dL rfl),aD (by simp[sC,rE]),aD (by rw[dA]),aD (dL rfl),aD (by rw[dA]),aCX _ _ h1 h2,aB];simp
theorem aGZ{l:List Ev}(hl:l.length≤1000000) (h:∀x∈l,x.2.2.2.2.2.length≤4000000∧∀r∈x.2.2.2.2.2,r.length≤4000000):aCL fuelH (l,l)=some true:=by
 unfold aCL;simp only;rw[aC (cN rfl),bT];refine hJ (n:=l.length) (fun (_:Unit) (i:Nat)=>(i:Int)) (fun _ _=>True) _ (fun self a i hi _=>⟨(),?_,trivial⟩) (fun self a _=>?_) fuelH 0 () (bBR _) (by have:=bF; omega) trivial
 ·have hin:inb (i:Int) (len l)=true:=aX (by simp only[len]; omega)
  obtain⟨h1,h2⟩:=h _ (bAS hi);rw[aD (aV (by simp only[len]; omega)),aF hin,aF hin,bB hi,aQ hi (by omega),bN (aKH h1 h2),aC (by rfl)]
 ·rw[aC (aW (by simp only[len]; omega))]
theorem aG0{d:Doc}(h1:d.2.2.2.2.2.1.length≤1000000) (h2:d.2.2.2.2.2.2.1.length≤1000000) (h3:∀x∈d.2.2.2.2.2.2.1,x.2.2.2.2.2.length≤4000000∧∀r∈x.2.2.2.2.2,r.length≤4000000) (h4:d.2.2.2.2.2.2.2=[]):SR fuelH (d,d)=some true:=by
 unfold SR
 have hh:aCH fuelH d=some (d.1,d.2.1,d.2.2.1,d.2.2.2.1,d.2.2.2.2.1):=rfl
 simp only;rw[hh,aB,aB,aD (by simp[sC,rE,dA,EH]),aC3 h1,aB,aD rfl,aGZ h2 h3,aB,aD rfl,h4]
 have:aFY fuelH ([],[])=some true:=by kernel_rfl
 rw[this];rfl
def wtG(r:Reg):Nat:=r.1.length+1+(1+(1+(1+(1+(1+1)))))
def wtX(x:Ev):Nat:=1+(1+1+(x.2.2.1.length+1+(1+(x.2.2.2.2.1.length+1+(bkL wtR x.2.2.2.2.2+1)))))
def wtC(c:Cmt):Nat:=1+(1+(1+(1+(c.2.2.2.2.1.length+1+(c.2.2.2.2.2.1.length+1+(1+1))))))
def wtD(d:Doc):Nat:=d.1.length+1+(d.2.1.length+1+(1+(1+(1+(bkL wtG d.2.2.2.2.2.1+1+(bkL wtX d.2.2.2.2.2.2.1+1+(bkL wtC d.2.2.2.2.2.2.2+1)))))))
def aQM(t:Y_) (r:Int):Bool:=ieq ((decodeL (enc r++t)).1:Int) r&&decide ((decodeL (enc r++t)).2=(enc r).length)
theorem aKI(t:Y_):((gM++iA).all (aQM t))=true:=by kernel_rfl
theorem aKJ{r:Int}(hr:dR r=true) (t:Y_):((decodeL (enc r++t)).1:Int)=r∧(decodeL (enc r++t)).2=(enc r).length:=by
 have h:aQM t r=true:=vT (aKI t) hr
 unfold aQM at h;rw[bAI,rE,decide_eq_true_eq] at h;exact h
theorem aKK{r:Int}(hr:dR r=true):enc r≠[]:=by
 have h:=vT (P:=fun r=>!(enc r).isEmpty) (by kernel_rfl) hr
 intro e;simp[e] at h
theorem Z9:∀(l:List Int) (t:Y_),l.all dR=true→vld (ofR l++t)=vld t
 | [],t,_=>rfl
 |r::l,t,h=>by
  rw[bBF,bAI] at h
  have e:ofR (r::l)++t=enc r++(ofR l++t):=by unfold ofR; rw[List.flatMap_cons,bAA]
  obtain⟨d1,d2⟩:=aKJ h.1 (ofR l++t);rw[e,vR _ (by simp[aKK h.1]),d1,d2,List.drop_left,if_pos h.1,Z9 l t h.2]
theorem jM{d:Doc}(h:cB d=0):iX d=0∧d.2.2.2.2.2.2.1.length≤400∧uG d=0:=by
 unfold cB at h
 split at h
 ·rename_i hc; exact absurd h hc
 rename_i c1
 split at h
 ·rename_i hc; exact absurd h hc
 split at h
 ·cases h
 rename_i hn
 split at h
 ·rename_i hc; exact absurd h hc
 rename_i hc;exact⟨by simpa using c1,by omega,by simpa using hc⟩
end
end Go.Mo
end
section
end
section
namespace Go.Mo
open Go Go.W Go.Lib
set_option maxRecDepth 100000
noncomputable section
def aMW(l:Lbl):Prop:=(0≤l.1∧l.1≤23)∧(0≤l.2.1∧l.2.1≤59)∧(0≤l.2.2.1∧l.2.2.1≤59)∧(0≤l.2.2.2.1∧l.2.2.2.1≤59)
structure HdrOk (h:Hdr):Prop where
 rate:h.1=3∨h.1=5
 lang:h.2.1=[]∨nm h.2.1=true
 ttl:vld h.2.2.1=true
 ttlL:h.2.2.1.length≤400
 blocks:0≤h.2.2.2.1∧h.2.2.2.1≤99999
 groups:0≤h.2.2.2.2.1∧h.2.2.2.2.1≤99999
 start:aMW h.2.2.2.2.2.1
 first:aMW h.2.2.2.2.2.2.1
 rows:0≤h.2.2.2.2.2.2.2.1∧h.2.2.2.2.2.2.2.1≤99
 cols:0≤h.2.2.2.2.2.2.2.2∧h.2.2.2.2.2.2.2.2≤99
 d1:h.2.2.2.2.2.1.2.2.2.2=false
 d2:h.2.2.2.2.2.2.1.2.2.2.2=false
def hz:Hdr:=((0:UInt8),([]:Y_),([]:Y_),(0:Int),(0:Int),((0:Int),(0:Int),(0:Int),(0:Int),false),((0:Int),(0:Int),(0:Int),(0:Int),false),(0:Int),(0:Int))
def aMX(x:Ev):Prop:=x.2.2.2.2.2.length≤1000000∧∀r∈x.2.2.2.2.2,r.length≤1000000
theorem aC4{l:Row}(h:l.length≤4000000):aCD fuelH l=some l:=by
 have h1:grd (cH (aE (len ([]:Row)) (len l)) 40) (some (aU ([]:Row) l))=some l:=by
  rw[aF (cV (by simp only[aE,len,bAZ]; omega))]; rfl
 unfold aCD
 cases l with
 |nil =>
  rw[aC (by rfl)];exact uN rfl h1
 |cons r l =>
  rw[aD (cA (by simp only[len,bAH]; omega))];exact h1
theorem UY{l:List Row}(hl:l.length≤1000000) (h:∀r∈l,r.length≤1000000):aCE fuelH l=some l:=by
 unfold aCE;rw[O7 (by omega),aB,bT];refine hJ (n:=l.length) (fun (a:List Row) (i:Nat)=>((i:Int),a)) (fun _ a=>a=l) _ (fun self a i hi hI=>?_) (fun self a hI=>?_) fuelH 0 l (bBR _) (by have:=bF; omega) rfl
 ·subst hI
  have hin:inb (i:Int) (len a)=true:=aX (by simp only[len]; omega)
  have hr:=h _ (bAS hi)
  refine⟨a,?_,rfl⟩
  have ht:toN (i:Int)=i:=by simp[toN]
  simp only;rw[aD (aV (by simp only[len]; omega)),aF hin,bB hi,aC4 (by omega),aB,aF hin,aQ hi (by omega),ht];unfold pT;rw[List.set_getElem_self]
 ·simp only;rw[aC (aW (by simp only[len]; omega)),hI]
theorem UZ{x:Ev}(h:aMX x):aCF fuelH x=some x:=by
 unfold aCF;rw[UY h.1 h.2];rfl
end
end Go.Mo
end
end

section
set_option linter.all false
namespace Go.Mo
open Go Go.W Go.Lib
set_option maxRecDepth 100000
noncomputable section
theorem cW{V R σ α:Type}{F:(V→Option R)→V→Option R}{s:List α}(st:σ→Nat→V) (spec:σ→List α→Option R) (I:Nat→σ→Prop)
  (hstep:∀self a i,i≤s.length→I i a→(∀a' j,i<j→j≤s.length→I j a'→self (st a' j)=spec a' (s.drop j))→F self (st a i)=spec a (s.drop i)) :
  ∀(fuel i:Nat) (a:σ),s.length-i<fuel→i≤s.length→I i a→bD F fuel (st a i)=spec a (s.drop i)
 | 0,i,a,h,_,_=>by omega
 |fuel+1,i,a,h,hi,hI=>by
  rw[dQ];exact hstep _ a i hi hI fun a' j hj hj2 hI2=>cW st spec I hstep fuel j a' (by omega) hj2 hI2
theorem cX{α:Type}{s:List α}(h:s.length≤4000000) (i:Nat):s.length-i<fuelH:=by have:=bF; omega
def oF(x:UInt8):Bool:=(decide (97≤x.toNat)&&decide (x.toNat≤122))||(decide (65≤x.toNat)&&decide (x.toNat≤90))
def aKL(x:UInt8):Bool:=decide (48≤x.toNat)&&decide (x.toNat≤57)
def nE(x:UInt8):Bool:=oF x||aKL x||x==45
def wsB(x:UInt8):Bool:=x==9||x==10||x==13||x==32
theorem VA:((List.range 256).all fun n=>decide (q57 0 (UInt8.ofNat n)=some (oF (UInt8.ofNat n))∧aN0 0 (UInt8.ofNat n)=some (oF (UInt8.ofNat n))∧q58 0 (UInt8.ofNat n)=some (nE (UInt8.ofNat n))∧aJY 0 (UInt8.ofNat n)=some (aKL (UInt8.ofNat n))∧q76 0 (UInt8.ofNat n)=some (wsB (UInt8.ofNat n))))=true:=by kernel_rfl
theorem PD(x:UInt8):q57 0 x=some (oF x)∧aN0 0 x=some (oF x)∧q58 0 x=some (nE x)∧aJY 0 x=some (aKL x)∧q76 0 x=some (wsB x) :=
 of_decide_eq_true (eT (P:=fun x=>decide (q57 0 x=some (oF x)∧aN0 0 x=some (oF x)∧q58 0 x=some (nE x)∧aJY 0 x=some (aKL x)∧q76 0 x=some (wsB x))) VA x)
theorem IN(N:Nat) (x:UInt8):q57 N x=some (oF x):=(PD x).1
theorem aAA(N:Nat) (x:UInt8):q58 N x=some (nE x):=(PD x).2.2.1
theorem aG1(N:Nat) (x:UInt8):q76 N x=some (wsB x):=(PD x).2.2.2.2
theorem vW{s:Y_}(hs:s.length≤600000000) (c:UInt8) (r:Y_) (hr:r≠[c]) (hr2:r.length≤6):q62 fuelH (s,[c],r)=some (s.flatMap (nX c r)):=by
 have h1:q62 fuelH (s,[c],r)=grd (decide (s.length<4294967281)) (grd (decide (1≤([c]:Y_).length)) (grd (decide (s.length+Lib.count s [c]*r.length≤140737488355328)) (some (Lib.replace s [c] r (-1))))):=by
  unfold q62 strings_Replace gA;generalize hX:grd _ _=X;cases X<;>rfl
 have hc:=Lib.count_le s [c]
 have hm:Lib.count s [c]*r.length≤(s.length+1)*6:=Nat.mul_le_mul hc hr2
 rw[h1,aF (decide_eq_true (by omega)),aF (by rfl),aF (decide_eq_true (by omega)),OM c r s hr]
theorem aYL(N:Nat) (x:Y_):q63 (N+10) x=bnd (q62 (N+10) (x,[38],[38,97,109,112,59])) fun a=>bnd (q62 (N+10) (a,[60],[38,108,116,59])) fun b=>bnd (q62 (N+10) (b,[62],[38,103,116,59])) fun c=>bnd (q62 (N+10) (c,[34],[38,113,117,111,116,59])) fun d=>bnd (q62 (N+10) (d,[39],[38,97,112,111,115,59])) fun e=>some e:=by kernel_rfl
theorem vX(c:UInt8){r:Y_}{k:Nat}(hr:r.length≤k) (hk:1≤k) (b:UInt8):(nX c r b).length≤k:=by
 unfold nX
 split
 ·exact hr
 ·exact hk
theorem aG2{s:Y_}(hs:s.length≤1100000):q63 fuelH s=some (esc s):=by
 have h0:=aYL (mU+4990) s
 have l1:=nY (vX 38 (r:=[38,97,109,112,59]) (k:=5) (by decide) (by decide)) s
 have l2:=nY (vX 60 (r:=[38,108,116,59]) (k:=4) (by decide) (by decide)) (s.flatMap (nX 38 [38,97,109,112,59]))
 have l3:=nY (vX 62 (r:=[38,103,116,59]) (k:=4) (by decide) (by decide)) ((s.flatMap (nX 38 [38,97,109,112,59])).flatMap (nX 60 [38,108,116,59]))
 have l4:=nY (vX 34 (r:=[38,113,117,111,116,59]) (k:=6) (by decide) (by decide)) (((s.flatMap (nX 38 [38,97,109,112,59])).flatMap (nX 60 [38,108,116,59])).flatMap (nX 62 [38,103,116,59]))
 show q63 (mU+4990+10) s=_;rw[h0];show(bnd (q62 fuelH _) _)=_;rw[vW (by omega) 38 _ (by decide) (by decide),aB];show(bnd (q62 fuelH _) _)=_;rw[vW (by omega) 60 _ (by decide) (by decide),aB];show(bnd (q62 fuelH _) _)=_;rw[vW (by omega) 62 _ (by decide) (by decide),aB];show(bnd (q62 fuelH _) _)=_;rw[vW (by omega) 34 _ (by decide) (by decide),aB];show(bnd (q62 fuelH _) _)=_;rw[vW (by omega) 39 _ (by decide) (by decide),aB,aGG]
theorem VB(b:UInt8) (l:Y_):esc (b::l)=GA b++esc l:=by unfold esc; rw[List.flatMap_cons]
theorem aQN{R:Type}{F:(Int→Option R)→Int→Option R}{s:Y_}(P:UInt8→Bool) (K:Int→Option R)
  (hin:∀self i (h:i<s.length),F self (i:Int)=if P s[i]=true then self ((i+1:Nat):Int) else K i) (hend:∀self,F self (s.length:Int)=K s.length) :
  ∀(fuel i:Nat),s.length-i<fuel→i≤s.length→bD F fuel (i:Int)=K ((i+((s.drop i).takeWhile P).length:Nat):Int)
 | 0,i,h,_=>by omega
 |fuel+1,i,h,hi=>by
  rw[dQ]
  by_cases hl:i<s.length
  ·rw[hin _ i hl,aYY hl,aZZ]
   by_cases hp:P s[i]=true
   ·rw[if_pos hp,if_pos hp,aQN P K hin hend fuel (i+1) (by omega) (by omega),bAH];congr 2;omega
   ·rw[if_neg hp,if_neg hp];rfl
  ·obtain rfl:i=s.length:=by omega
   rw[hend,bAR];rfl
def gN(x:UInt8):Int:=if 48≤x.toNat∧x.toNat≤57 then(x.toNat:Int)-48 else if 97≤x.toNat∧x.toNat≤102 then(x.toNat:Int)-87 else if 65≤x.toNat∧x.toNat≤70 then(x.toNat:Int)-55 else -1
def dgV(base:Int) (x:UInt8):Int:=if base≤gN x then -1 else gN x
theorem P0:((List.range 256).all fun n=>decide (q80 0 (UInt8.ofNat n,10)=some (dgV 10 (UInt8.ofNat n))∧q80 0 (UInt8.ofNat n,16)=some (dgV 16 (UInt8.ofNat n))∧BA 0 (UInt8.ofNat n)=some (gN (UInt8.ofNat n))∧(-1≤gN (UInt8.ofNat n)∧gN (UInt8.ofNat n)<16)))=true:=by kernel_rfl
theorem digits(x:UInt8):q80 0 (x,10)=some (dgV 10 x)∧q80 0 (x,16)=some (dgV 16 x)∧BA 0 x=some (gN x)∧(-1≤gN x∧gN x<16) :=
 of_decide_eq_true (eT (P:=fun x=>decide (q80 0 (x,10)=some (dgV 10 x)∧q80 0 (x,16)=some (dgV 16 x)∧BA 0 x=some (gN x)∧(-1≤gN x∧gN x<16))) P0 x)
theorem aG3{base:Int}(hb:base=10∨base=16) (N:Nat) (x:UInt8):q80 N (x,base)=some (dgV base x):=by
 rcases hb with rfl|rfl
 ·exact(digits x).1
 ·exact(digits x).2.1
def dOk(base:Int) (x:UInt8):Bool:=decide (0≤gN x)&&decide (gN x<base)
def AF(base:Int) (n:Int) (d:Y_):Int:=d.foldl (fun n x=>n*base+gN x) n
theorem aAB{base:Int}(hb:0≤base):∀(d:Y_) (n:Int),0≤n→d.all (dOk base)=true→0≤AF base n d∧AF base n d<(n+1)*base^d.length
 | [],n,hn,_=>by simp[AF]; omega
 |x::d,n,hn,h=>by
  rw[bBF,bAI] at h
  have h1:0≤gN x∧gN x<base:=by have:=h.1; unfold dOk at this; simpa using this
  have h0:0≤n*base:=Int.mul_nonneg hn hb
  have ih:=aAB hb d (n*base+gN x) (by omega) h.2
  refine⟨ih.1,Int.lt_of_lt_of_le ih.2 ?_⟩;rw[bAH,Int.pow_succ,Int.mul_comm (base^d.length) base,←Int.mul_assoc];refine Int.mul_le_mul_of_nonneg_right ?_ (Int.pow_nonneg hb);rw[Int.add_mul];omega
def rI(base:Int) (most:Nat) (d:Y_):Y_×Int :=
 if d=[]∨most<d.length∨d.all (dOk base)=false then([],4) else if dR (AF base 0 d)=false then([],10) else(enc (AF base 0 d),0)
def AG(c:Y_):Y_×Int :=
 if c=[97,109,112] then([38],0) else if c=[108,116] then([60],0) else if c=[103,116] then([62],0) else if c=[113,117,111,116] then([34],0) else if c=[97,112,111,115] then([39],0)
 else if c.take 2=[35,120] then rI 16 5 (c.drop 2) else if c.take 1=[35] then rI 10 6 (c.drop 1) else([],4)
def bG(b:UInt8):Bool:=b != 59
theorem P1{base:Int}{most:Nat}{d:Y_}(hb:(base=10∧most=6)∨(base=16∧most=5)) (hl:d.length≤most) (ha:d.all (dOk base)=true):0≤AF base 0 d∧AF base 0 d<1048576:=by
 have h0:0≤base:=by rcases hb with⟨rfl,_⟩|⟨rfl,_⟩<;>decide
 have h:=aAB h0 d 0 (Int.le_refl _) ha
 refine⟨h.1,Int.lt_of_lt_of_le h.2 ?_⟩;rw[Int.zero_add,Int.one_mul];rcases hb with⟨rfl,rfl⟩|⟨rfl,rfl⟩
 ·have:(10:Int)^d.length≤10^6:=by
   have:=Nat.pow_le_pow_right (n:=10) (by decide) hl
   exact_mod_cast this
  omega
 ·have:(16:Int)^d.length≤16^5:=by
   have:=Nat.pow_le_pow_right (n:=16) (by decide) hl
   exact_mod_cast this
  omega
theorem aKM{x:Int}(h:0≤x∧x<2147483648):wr .i32 x=x:=by
 show IntKind.wrap .i32 x=x;unfold IntKind.wrap;simp only[IntKind.bits,IntKind.signed,bBE,decide_eq_true_eq,show(2:Int)^32=4294967296 from rfl,show(2:Int)^(32-1)=2147483648 from rfl]
 split<;>omega
def aKN(N:Nat) (x:Y_):Option (Y_×Int×Int) :=
  jn (fun (v1:Int×Int×Int) =>
   jn (fun (v2:Int×Int) =>
    cnd (ieq v2.1 v1.1)
     (some (([]:Y_),(0:Int),(4:Int)))
     (cnd (ilt v1.2.2 (w64 (aI v2.1 v1.1)))
      (some (([]:Y_),(0:Int),(4:Int)))
      (cnd (ieq v2.1 (len x))
       (some (([]:Y_),(0:Int),(4:Int)))
       (grd (inb v2.1 (len x))
        (cnd (ine (n8 (aA x (toN v2.1) (0:UInt8))) (n8 (59:UInt8)))
         (some (([]:Y_),(0:Int),(4:Int)))
         (bnd (q12 N (wr .i32 v2.2)) fun v3 =>
         cnd (ilt v3 (0:Int))
          (some (([]:Y_),(0:Int),(10:Int)))
          (some (enc (wr .i32 v2.2),w64 (aE v2.1 (1:Int)),(0:Int)))))))))
   fun v4 =>
   bD (fun v5 (v6:Int×Int) =>
    cnd (ilt v6.1 (len x))
     (grd (inb v6.1 (len x))
      (bnd (q80 N (aA x (toN v6.1) (0:UInt8),v1.2.1)) fun v7 =>
      cnd (ile (0:Int) v7)
       (grd (inb v6.1 (len x))
        (bnd (q80 N (aA x (toN v6.1) (0:UInt8),v1.2.1)) fun v8 =>
        v5 (w64 (aE v6.1 (1:Int)),gV (w64 (aE (w64 (nH v6.2 v1.2.1)) v8)) (16777216:Int))))
       (v4 v6)))
     (v4 v6)) N (v1.1,(0:Int)))
  fun v9 =>
  bnd (q75 N (x,([38,35,120]:Y_))) fun v10 =>
  cnd v10
   (v9 ((3:Int),(16:Int),(5:Int)))
   (bnd (q75 N (x,([38,35]:Y_))) fun v11 =>
   cnd (bO v11)
    (some (([]:Y_),(0:Int),(4:Int)))
    (v9 ((2:Int),(10:Int),(6:Int))))
theorem aG4(N:Nat) (x:Y_):q81 (N+10) x=jn (fun (_:Unit)=>aKN (N+10) x) fun v12=>bnd (q75 (N+10) (x,([38,97,109,112,59]:Y_))) fun v=>cnd v (some (([38]:Y_),(5:Int),(0:Int))) (bnd (q75 (N+10) (x,([38,108,116,59]:Y_))) fun v=>cnd v (some (([60]:Y_),(4:Int),(0:Int))) (bnd (q75 (N+10) (x,([38,103,116,59]:Y_))) fun v=>cnd v (some (([62]:Y_),(4:Int),(0:Int))) (bnd (q75 (N+10) (x,([38,113,117,111,116,59]:Y_))) fun v=>cnd v (some (([34]:Y_),(6:Int),(0:Int))) (bnd (q75 (N+10) (x,([38,97,112,111,115,59]:Y_))) fun v=>cnd v (some (([39]:Y_),(6:Int),(0:Int))) (v12 ()))))):=by kernel_rfl
def kv(v:Int):Option (Y_×Int):=cnd (ilt v (0:Int)) (some (([]:Y_),(4:Int))) (bnd (aFZ fuelH (wr .i32 v)) fun v2=>cnd (ilt v2 (0:Int)) (some (([]:Y_),(10:Int))) (bnd (aN1 fuelH ([wr .i32 v]:List Int)) fun v3=>some (v3,(0:Int))))
def v8(x:Y_) (b:Bool):Option (Y_×Int):=cnd b (grd (in2 (2:Int) (len x)) (bnd (SS fuelH (cJ (toN (2:Int)) x,(16:Int),(5:Int))) kv))
 (cnd (ilt (0:Int) (len x)) (grd (inb (0:Int) (len x)) (cnd (ieq (n8 (aA x (toN (0:Int)) (0:UInt8))) (n8 (35:UInt8))) (grd (in2 (1:Int) (len x)) (bnd (SS fuelH (cJ (toN (1:Int)) x,(10:Int),(6:Int))) kv)) (kv (-1:Int)))) (kv (-1:Int)))
def GC(c:Y_):Y_×Int:=if c.take 2=[35,120] then rI 16 5 (c.drop 2) else if c.take 1=[35] then rI 10 6 (c.drop 1) else([],4)
theorem aAC(c:Y_):AG c=if c=[97,109,112] then([38],0) else if c=[108,116] then([60],0) else if c=[103,116] then([62],0) else if c=[113,117,111,116] then([34],0) else if c=[97,112,111,115] then([39],0) else GC c:=rfl
theorem aaIO(N:Nat) (s p:Y_):q75 N (s,p)=some (decide (s.take p.length=p)):=by
 unfold q75 q74
 by_cases h:p.length≤s.length
 ·rw[aD (gP (by simp only[len]; omega)),aF (jG (by simp only[len]; omega)),aB,cC];simp only[bH,toN,len,bAF]<;>exact congrArg some (decide_eq_decide.2 Iff.rfl)
 ·rw[aC (jF (by simp only[len]; omega)),aB]
  have:¬(s.take p.length=p):=fun e=>by
   have:=congrArg List.length e
   rw[bAK] at this;omega
  rw[decide_eq_false this]
theorem rJ{c t:Y_}(h:c.all bG=true):(c++59::t).takeWhile bG=c:=by
 rw[aYR (by simpa using h),aZZ];simp[bG]
theorem aQO{c:Y_}(h:c.all bG=true):c.takeWhile bG=c:=by
 have:=aYR (p:=bG) (l₁:=c) (l₂:=[]) (by simpa using h)
 simpa using this
theorem rK:∀r:Y_,(r.all bG=true)∨∃c t,r=c++59::t∧c.all bG=true
 | []=>.inl rfl
 |b::r=>by
  by_cases hb:b=59
  ·exact .inr ⟨[],r,by rw[hb]; rfl,rfl⟩
  have h1:bG b=true:=by simpa [bG] using hb
  rcases rK r with h|⟨c,t,e,h⟩
  ·exact .inl (by rw[bBF,h1,h]; rfl)
  ·exact .inr ⟨b::c,t,by rw[e]; rfl,by rw[bBF,h1,h]; rfl⟩
theorem IP{base:Int}(hb:1≤base):∀(d:Y_) (n:Int),0≤n→d.all (dOk base)=true→n≤AF base n d∧(AF base n d≤16777216→d.foldl (fun n x=>min (n*base+gN x) 16777216) n=AF base n d)
 | [],n,_,_=>⟨Int.le_refl _,fun _=>rfl⟩
 |x::d,n,hn,h=>by
  rw[bBF,bAI] at h
  have h1:0≤gN x∧gN x<base:=by have:=h.1; unfold dOk at this; simpa using this
  have h0:n*1≤n*base:=Int.mul_le_mul_of_nonneg_left hb hn
  have ih:=IP hb d (n*base+gN x) (by omega) h.2
  refine⟨Int.le_trans (by omega) ih.1,fun hle=>?_⟩
  have hle:AF base (n*base+gN x) d≤16777216:=hle
  rw[List.foldl_cons]
  have hm:min (n*base+gN x) 16777216=n*base+gN x:=by have:=ih.1; omega
  rw[hm];exact ih.2 hle
def mN(r:Y_):Y_×Int×Int :=
 let c:=r.takeWhile bG
 if c.length=r.length then([],0,4) else if(AG c).2=0 then((AG c).1,((c.length+2:Nat):Int),0) else([],0,(AG c).2)
theorem aKO{r:Y_}(h:r.all bG=true):mN r=([],0,4):=by
 unfold mN;simp only[aQO h,if_true]
theorem VC{c t:Y_}(h:c.all bG=true):mN (c++59::t)=if(AG c).2=0 then((AG c).1,((c.length+2:Nat):Int),0) else([],0,(AG c).2):=by
 unfold mN;simp only[rJ h];rw[if_neg (by simp)]
def k2N(N:Nat) (s:Y_) (at':Int) (most:Int) (v2:Int×Int):Option (Y_×Int×Int) :=
    cnd (ieq v2.1 at')
     (some (([]:Y_),(0:Int),(4:Int)))
     (cnd (ilt most (w64 (aI v2.1 at')))
      (some (([]:Y_),(0:Int),(4:Int)))
      (cnd (ieq v2.1 (len s))
       (some (([]:Y_),(0:Int),(4:Int)))
       (grd (inb v2.1 (len s))
        (cnd (ine (n8 (aA s (toN v2.1) (0:UInt8))) (n8 (59:UInt8)))
         (some (([]:Y_),(0:Int),(4:Int)))
         (bnd (q12 N (wr .i32 v2.2)) fun v3 =>
         cnd (ilt v3 (0:Int))
          (some (([]:Y_),(0:Int),(10:Int)))
          (some (enc (wr .i32 v2.2),w64 (aE v2.1 (1:Int)),(0:Int))))))))
def k2(s:Y_) (at':Int) (most:Int) (v2:Int×Int):Option (Y_×Int×Int):=k2N fuelH s at' most v2
theorem aQP{base:Int}(x:UInt8):(0≤dgV base x↔dOk base x=true)∧(dOk base x=true→dgV base x=gN x):=by
 unfold dgV dOk
 by_cases h:base≤gN x
 ·rw[if_pos h];refine⟨⟨fun k=>by omega,fun k=>?_⟩,fun k=>?_⟩
  ·simp at k; omega
  ·simp at k; omega
 ·rw[if_neg h];refine⟨⟨fun k=>by simp; omega,fun k=>?_⟩,fun _=>rfl⟩;simp at k; omega
theorem VD{s:Y_}(hs:s.length≤4000000){base:Int}(hb:base=10∨base=16){K:Int×Int→Option (Y_×Int×Int)}:∀(fuel i:Nat) (n:Int),s.length-i<fuel→i≤s.length→0≤n→n≤16777216 →
  bD (fun v5 (v6:Int×Int) =>
    cnd (ilt v6.1 (len s))
     (grd (inb v6.1 (len s))
      (bnd (q80 fuelH (aA s (toN v6.1) (0:UInt8),base)) fun v7 =>
      cnd (ile (0:Int) v7)
       (grd (inb v6.1 (len s))
        (bnd (q80 fuelH (aA s (toN v6.1) (0:UInt8),base)) fun v8 =>
        v5 (w64 (aE v6.1 (1:Int)),gV (w64 (aE (w64 (nH v6.2 base)) v8)) (16777216:Int))))
       (K v6)))
     (K v6)) fuel ((i:Int),n)=K (((i+((s.drop i).takeWhile (dOk base)).length:Nat):Int),((s.drop i).takeWhile (dOk base)).foldl (fun n x=>min (n*base+gN x) 16777216) n)
 | 0,i,n,h,_,_,_=>by omega
 |fuel+1,i,n,h,hi,h0,h1=>by
  rw[dQ]
  by_cases hl:i<s.length
  ·have g:aA s (toN (i:Int)) (0:UInt8)=s[i]:=bB hl
   have hw:w64 (aE (i:Int) 1)=((i+1:Nat):Int):=aQ hl (by omega)
   have hx:=(digits s[i]).2.2.2
   have hdv:=aQP (base:=base) s[i]
   show cnd (ilt (i:Int) (len s)) _ _=_;rw[aD (aV (by simp only[len]; omega)),aF (aX (by simp only[len]; omega)),g,aG3 hb,aB,aF (aX (by simp only[len]; omega)),aB,hw,aYY hl,aZZ]
   by_cases hd:dOk base s[i]=true
   ·have h2:=hdv.2 hd
    have h3:0≤gN s[i]∧gN s[i]<base:=by unfold dOk at hd; simpa using hd
    have hb16:1≤base∧base≤16:=by rcases hb with rfl|rfl<;>decide
    have m0:0≤n*base:=Int.mul_nonneg h0 (by omega)
    have m1:n*base≤n*16:=Int.mul_le_mul_of_nonneg_left hb16.2 h0
    rw[aD (gP (hdv.1.2 hd)),if_pos hd,h2]
    have e1:gV (w64 (aE (w64 (nH n base)) (gN s[i]))) 16777216=min (n*base+gN s[i]) 16777216:=by
     simp only[nH,aE,gV];rw[bS (x:=n*base) (by omega),bS (by omega)]
    rw[e1]
    have ih:=VD hs hb (K:=K) fuel (i+1) (min (n*base+gN s[i]) 16777216) (by omega) (by omega) (by omega) (by omega)
    rw[ih,bAH,List.foldl_cons];congr 3;omega
   ·rw[aC (jF (fun k=>hd (hdv.1.1 k))),if_neg hd];rfl
  ·obtain rfl:i=s.length:=by omega
   show cnd (ilt (s.length:Int) (len s)) _ _=_;rw[aC (aW (by simp only[len]; omega)),bAR];rfl
theorem aG5{P:UInt8→Bool}:∀l:Y_,(l.takeWhile P).all P=true
 | []=>rfl
 |b::l=>by
  rw[aZZ]
  split
  ·rename_i h;rw[bBF,h,aG5 l];rfl
  ·rfl
theorem aAD{P:UInt8→Bool}:∀l:Y_,l.drop (l.takeWhile P).length=[]∨∃b t,l.drop (l.takeWhile P).length=b::t∧P b=false
 | []=>.inl rfl
 |b::l=>by
  rw[aZZ]
  by_cases h:P b=true
  ·rw[if_pos h]
   simpa using aAD l
  ·rw[if_neg h];exact .inr ⟨b,l,rfl,by simpa using h⟩
theorem PE(P:UInt8→Bool):∀l:Y_,l.takeWhile P++l.drop (l.takeWhile P).length=l
 | []=>rfl
 |b::l=>by
  rw[aZZ]
  split
  ·rw[bAH,aZU,bAJ,PE P l]
  ·rfl
theorem yD{base:Int}{x:UInt8}(h:dOk base x=true):bG x=true:=by
 unfold bG;simp only[bne_iff_ne,ne_eq];intro e;subst e;unfold dOk at h;simp[gN] at h
theorem P2{s:Y_}{a m:Nat}{n:Int}{most:Nat}(hl:s.length≤4000000) (ham:a+m≤s.length) (h:m=0∨most<m∨a+m=s.length∨∃b t,s.drop (a+m)=b::t∧b≠59):k2 s (a:Int) (most:Int) (((a+m:Nat):Int),n)=some ([],0,4):=by
 unfold k2 k2N;simp only
 by_cases h0:m=0
 ·rw[aD (dL (by omega))]
 rw[aC (cZ (by omega))]
 have e1:w64 (aI ((a+m:Nat):Int) (a:Int))=(m:Int):=by
  simp only[aI];rw[bS (by omega)];omega
 rw[e1]
 by_cases h1:most<m
 ·rw[aD (aV (by omega))]
 rw[aC (aW (by omega))]
 by_cases h2:a+m=s.length
 ·rw[aD (dL (by simp only[len]; omega))]
 rw[aC (cZ (by simp only[len]; omega)),aF (aX (by simp only[len]; omega))];rcases h with h|h|h|⟨b,t,h3,h4⟩
 ·exact absurd h h0
 ·exact absurd h h1
 ·exact absurd h h2
 ·have hlt:a+m<s.length:=by omega
  have hb:s[a+m]=b:=by
   rw[aYY hlt] at h3;injection h3
  rw[bB hlt,hb,aD (cA (fun k=>h4 (fJ k)))]
theorem aXP{s:Y_}{a m:Nat}{n:Int}{most:Nat}{t:Y_}(hl:s.length≤4000000) (h0:m≠0) (h1:¬most<m) (h3:s.drop (a+m)=59::t) (hn:0≤n∧n<1048576):k2 s (a:Int) (most:Int) (((a+m:Nat):Int),n)=some (if dR n=false then([],0,10) else(enc n,((a+m+1:Nat):Int),0)):=by
 have hlt:a+m<s.length:=by
  rcases Nat.lt_or_ge (a+m) s.length with h|h
  ·exact h
  ·rw[List.drop_eq_nil_of_le h] at h3;cases h3
 have hb:s[a+m]=59:=by
  rw[aYY hlt] at h3;injection h3
 unfold k2 k2N;simp only
 have e1:w64 (aI ((a+m:Nat):Int) (a:Int))=(m:Int):=by
  simp only[aI];rw[bS (by omega)];omega
 obtain⟨i,q1,_,q3⟩:=O4 n;rw[aC (cZ (by omega)),e1,aC (aW (by omega)),aC (cZ (by simp only[len]; omega)),aF (aX (by simp only[len]; omega)),bB hlt,hb,aC (by rfl),aKM (by omega),q1,aB,aQ (n:=s.length) hlt (by omega)]
 by_cases h2:dR n=false
 ·rw[if_pos h2,aD (aV (q3.2 h2))]
 ·rw[if_neg h2,aC (aW (fun k=>h2 (q3.1 k)))]
theorem aG6{s:Y_}(hs:s.length≤4000000){base:Int}{most a:Nat}(hb:(base=10∧most=6)∨(base=16∧most=5)) (ha:a≤s.length) :
  k2 s (a:Int) (most:Int) (((a+((s.drop a).takeWhile (dOk base)).length:Nat):Int),((s.drop a).takeWhile (dOk base)).foldl (fun n x=>min (n*base+gN x) 16777216) 0) =
   some (if(s.drop a).all bG=true then([],0,4) else if(rI base most ((s.drop a).takeWhile bG)).2=0 then((rI base most ((s.drop a).takeWhile bG)).1,((a+((s.drop a).takeWhile bG).length+1:Nat):Int),0) else([],0,(rI base most ((s.drop a).takeWhile bG)).2)):=by
 generalize hd:s.drop a=d
 have hw:=aG5 (P:=dOk base) d
 have hm:=List.takeWhile_prefix (dOk base) (l:=d)
 have hdl:d.length=s.length-a:=by rw[←hd,bAL]
 have hml:(d.takeWhile (dOk base)).length≤d.length:=hm.length_le
 have hdr:s.drop (a+(d.takeWhile (dOk base)).length)=d.drop (d.takeWhile (dOk base)).length:=by rw[←hd,bA5]
 have hcat:d=d.takeWhile (dOk base)++d.drop (d.takeWhile (dOk base)).length:=(PE _ d).symm
 have hbase:1≤base:=by rcases hb with⟨h,_⟩|⟨h,_⟩<;>omega
 rcases aAD (P:=dOk base) d with h|⟨b,t,h,hbad⟩
 ·rw[P2 hs (by omega) (.inr (.inr (.inl (by have:=congrArg List.length h; simp at this; omega))))]
  have:d.all bG=true:=by
   rw[hcat,h,bAV];rw[bAQ] at hw ⊢;exact fun x hx=>yD (hw x hx)
  rw[if_pos this]
 ·by_cases hb59:b=59
  ·subst hb59
   have hno:¬(d.all bG=true):=fun k=>by
    rw[hcat,h,List.all_append,bBF] at k;simp[bG] at k
   have htw:d.takeWhile bG=d.takeWhile (dOk base):=by
    conv=>lhs; rw[hcat,h]
    refine rJ ?_;rw[bAQ] at hw ⊢;exact fun x hx=>yD (hw x hx)
   rw[if_neg hno,htw];generalize hq:d.takeWhile (dOk base)=q at *;unfold rI
   by_cases he:q=[]∨most<q.length∨q.all (dOk base)=false
   ·rw[if_pos he,if_neg (by decide)];refine P2 hs (by omega) ?_;rcases he with he|he|he
    ·exact .inl (by rw[he]; rfl)
    ·exact .inr (.inl he)
    ·rw[he] at hw; cases hw
   ·rw[if_neg he];simp only[not_or] at he
    have hsm:=P1 hb (by omega) hw
    have hcl:=(IP hbase q 0 (Int.le_refl _) hw).2 (by omega)
    rw[hcl,aXP hs (fun k=>he.1 (aYP k)) he.2.1 (hdr.trans h) hsm]
    by_cases hr:dR (AF base 0 q)=false
    ·rw[if_pos hr,if_pos hr];rfl
    ·rw[if_neg hr,if_neg hr];rfl
  ·have hcat2:d=d.takeWhile (dOk base)++b::t:=by rw[←h]; exact hcat
   rw[P2 hs (by omega) (.inr (.inr (.inr ⟨b,t,hdr.trans h,hb59⟩)))]
   by_cases hall:d.all bG=true
   ·rw[if_pos hall]
   ·rw[if_neg hall]
    have hbq:∃u,d.takeWhile bG=d.takeWhile (dOk base)++b::u:=by
     refine⟨t.takeWhile bG,?_⟩
     conv=>lhs; rw[hcat2]
     rw[aYR (by rw[bAQ] at hw; exact fun x hx=>yD (hw x hx)),aZZ,if_pos (by simpa [bG] using hb59)]
    obtain⟨u,hu⟩:=hbq
    have:(d.takeWhile bG).all (dOk base)=false:=by
     rw[hu,List.all_append,bBF,hbad];simp
    have e:rI base most (d.takeWhile bG)=([],4):=by
     unfold rI;rw[if_pos (.inr (.inr this))]
    rw[e,if_neg (by decide)]
theorem vY{c t p:Y_}(hp:p.all bG=true):(c++59::t).take p.length=p↔c.take p.length=p:=by
 by_cases h:p.length≤c.length
 ·rw[List.take_append_of_le_length h]
 ·refine⟨fun e=>?_,fun e=>?_⟩
  ·have hl:c.length<p.length:=by omega
   have h1:p[c.length]?=some 59:=by
    rw[←e,aZ1,if_pos hl];simp
   have h2:=aZK h1
   rw[bAQ] at hp
   have:=hp 59 h2
   simp[bG] at this
  ·have:=congrArg List.length e
   rw[bAK] at this;omega
theorem oG{c t p:Y_}(hc:c.all bG=true) (hp:p.all bG=true):(c++59::t).take (p++[59]).length=p++[59]↔c=p:=by
 refine⟨fun e=>?_,fun e=>?_⟩
 ·have h1:c++59::t=p++59::(c++59::t).drop (p++[59]).length:=by
   conv=>lhs; rw[←aZE (p++[59]).length (c++59::t),e]
   simp
  have h2:=rJ (t:=t) hc
  rw[h1,rJ hp] at h2;exact h2.symm
 ·subst e;rw[show c++59::t=(c++[59])++t by simp,List.take_left]
theorem rL{r p:Y_}(hr:r.all bG=true):¬(r.take (p++[59]).length=p++[59]):=fun e=>by
 have h1:(59:UInt8)∈r:=by
  have:(59:UInt8)∈r.take (p++[59]).length:=by rw[e]; simp
  exact aZO this
 rw[bAQ] at hr
 have:=hr 59 h1
 simp[bG] at this
def xAN(N:Nat) (s:Y_) (v1:Int×Int×Int):Option (Y_×Int×Int) :=
   bD (fun v5 (v6:Int×Int) =>
    cnd (ilt v6.1 (len s))
     (grd (inb v6.1 (len s))
      (bnd (q80 N (aA s (toN v6.1) (0:UInt8),v1.2.1)) fun v7 =>
      cnd (ile (0:Int) v7)
       (grd (inb v6.1 (len s))
        (bnd (q80 N (aA s (toN v6.1) (0:UInt8),v1.2.1)) fun v8 =>
        v5 (w64 (aE v6.1 (1:Int)),gV (w64 (aE (w64 (nH v6.2 v1.2.1)) v8)) (16777216:Int))))
       (k2N N s v1.1 v1.2.2 v6)))
     (k2N N s v1.1 v1.2.2 v6)) N (v1.1,(0:Int))
def xA(s:Y_) (v1:Int×Int×Int):Option (Y_×Int×Int):=xAN fuelH s v1
theorem aC5(N:Nat) (s:Y_):aKN N s=bnd (q75 N (s,([38,35,120]:Y_))) fun v10=>cnd v10 (xAN N s ((3:Int),(16:Int),(5:Int))) (bnd (q75 N (s,([38,35]:Y_))) fun v11=>cnd (bO v11) (some (([]:Y_),(0:Int),(4:Int))) (xAN N s ((2:Int),(10:Int),(6:Int)))):=rfl
theorem aG7(s:Y_):aKN fuelH s=bnd (q75 fuelH (s,([38,35,120]:Y_))) fun v10=>cnd v10 (xA s ((3:Int),(16:Int),(5:Int))) (bnd (q75 fuelH (s,([38,35]:Y_))) fun v11=>cnd (bO v11) (some (([]:Y_),(0:Int),(4:Int))) (xA s ((2:Int),(10:Int),(6:Int)))):=aC5 fuelH s
theorem aMY{s:Y_}(hs:s.length≤4000000){base:Int}{most a:Nat}(hb:(base=10∧most=6)∨(base=16∧most=5)) (ha:a≤s.length) :
  xA s ((a:Int),base,(most:Int))=some (if(s.drop a).all bG=true then([],0,4) else if(rI base most ((s.drop a).takeWhile bG)).2=0 then((rI base most ((s.drop a).takeWhile bG)).1,((a+((s.drop a).takeWhile bG).length+1:Nat):Int),0) else([],0,(rI base most ((s.drop a).takeWhile bG)).2)):=by
 rw[←aG6 hs hb ha];exact VD hs (by rcases hb with⟨h,_⟩|⟨h,_⟩<;>simp[h]) fuelH a 0 (cX hs a) ha (by decide) (by decide)
theorem aKP{r:Y_}(hr:r.length≤3999999):aKN fuelH (38::r)=some (if r.all bG=true then([],0,4) else if(GC (r.takeWhile bG)).2=0 then((GC (r.takeWhile bG)).1,(((r.takeWhile bG).length+2:Nat):Int),0) else([],0,(GC (r.takeWhile bG)).2)):=by
 have hs:(38::r).length≤4000000:=by simp; omega
 have e1:((38::r).take ([38,35,120]:Y_).length=[38,35,120])↔r.take ([35,120]:Y_).length=[35,120]:=by simp
 have e2:((38::r).take ([38,35]:Y_).length=[38,35])↔r.take ([35]:Y_).length=[35]:=by simp
 rw[aG7,aaIO,aB]
 by_cases h1:r.take ([35,120]:Y_).length=[35,120]
 ·have hl:2≤r.length:=by have:=congrArg List.length h1; simp at this; omega
  rw[aD (decide_eq_true (e1.2 h1))]
  have hx:=aMY (a:=3) hs (.inr ⟨rfl,rfl⟩) (by simp; omega)
  refine bBT hx ?_
  have hd:(38::r).drop 3=r.drop 2:=rfl
  rw[hd];rcases rK r with h|⟨c,t,rfl,h⟩
  ·rw[if_pos h,if_pos];rw[bAQ] at h ⊢;exact fun x hx=>h x (aZQ hx)
  ·have h2:=(vY (by rfl)).1 h1
   have hc2:2≤c.length:=by have:=congrArg List.length h2; simp at this; omega
   have hd2:(c++59::t).drop 2=c.drop 2++59::t:=List.drop_append_of_le_length hc2
   have hca:(c.drop 2).all bG=true:=by
    rw[bAQ] at h ⊢;exact fun x hx=>h x (aZQ hx)
   have hn:GC c=rI 16 5 (c.drop 2):=if_pos h2
   have no:∀(p q:Y_),¬((p++59::q).all bG=true):=fun p q k=>by
    rw[List.all_append,bBF] at k;simp[bG] at k
   rw[hd2,rJ hca,rJ h,if_neg (no _ _),if_neg (no _ _),hn,bAL]
   have:3+(c.length-2)+1=c.length+2:=by omega
   rw[this]
 ·rw[aC (decide_eq_false (fun k=>h1 (e1.1 k))),aaIO,aB]
  by_cases h3:r.take ([35]:Y_).length=[35]
  ·have hl:1≤r.length:=by have:=congrArg List.length h3; simp at this; omega
   rw[decide_eq_true (e2.2 h3),aC (by rfl)]
   have hx:=aMY (a:=2) hs (.inl ⟨rfl,rfl⟩) (by simp; omega)
   refine bBT hx ?_
   have hd:(38::r).drop 2=r.drop 1:=rfl
   rw[hd];rcases rK r with h|⟨c,t,rfl,h⟩
   ·rw[if_pos h,if_pos];rw[bAQ] at h ⊢;exact fun x hx=>h x (aZQ hx)
   ·have h2:=(vY (by rfl)).1 h3
    have h4:¬(c.take 2=[35,120]):=fun k=>h1 ((vY (p:=[35,120]) (by rfl)).2 k)
    have hc2:1≤c.length:=by have:=congrArg List.length h2; simp at this; omega
    have hd2:(c++59::t).drop 1=c.drop 1++59::t:=List.drop_append_of_le_length hc2
    have hca:(c.drop 1).all bG=true:=by
     rw[bAQ] at h ⊢;exact fun x hx=>h x (aZQ hx)
    have hn:GC c=rI 10 6 (c.drop 1):=by unfold GC; rw[if_neg h4]; exact if_pos h2
    have no:∀(p q:Y_),¬((p++59::q).all bG=true):=fun p q k=>by
     rw[List.all_append,bBF] at k;simp[bG] at k
    rw[hd2,rJ hca,rJ h,if_neg (no _ _),if_neg (no _ _),hn,bAL]
    have:2+(c.length-1)+1=c.length+2:=by omega
    rw[this]
  ·rw[decide_eq_false (fun k=>h3 (e2.1 k)),aD (by rfl)];rcases rK r with h|⟨c,t,rfl,h⟩
   ·rw[if_pos h]
   ·have h4:¬(c.take 2=[35,120]):=fun k=>h1 ((vY (p:=[35,120]) (by rfl)).2 k)
    have h5:¬(c.take 1=[35]):=fun k=>h3 ((vY (p:=[35]) (by rfl)).2 k)
    have hn:GC c=([],4):=by unfold GC; rw[if_neg h4,if_neg h5]
    rw[rJ h,hn]
    split<;>rfl
theorem aKQ{r:Y_}(hr:r.length≤3999999):q81 fuelH (38::r)=some (mN r):=by
 have h:=aG4 (mU+4990) (38::r)
 have hx:=aKP hr
 show q81 (mU+4990+10) (38::r)=_;rw[h,bT];simp only[aaIO,aB]
 have step:∀(p:Y_) (X Y:Option (Y_×Int×Int)),cnd (decide ((38::r).take (38::(p++[59])).length=38::(p++[59]))) X Y=if r.take (p++[59]).length=p++[59] then X else Y:=fun p X Y=>by
  rw[jQ]
  by_cases e:r.take (p++[59]).length=p++[59]
  ·rw[if_pos e,if_pos (by rw[bAH,aZV,e])]
  ·rw[if_neg e,if_neg (fun k=>e (by rw[bAH,aZV] at k; injection k))]
 have s1:=step [97,109,112]
 have s2:=step [108,116]
 have s3:=step [103,116]
 have s4:=step [113,117,111,116]
 have s5:=step [97,112,111,115]
 refine bBT (s1 _ _) ?_;rcases rK r with h|⟨c,t,rfl,hc⟩
 ·rw[if_neg (rL h)];refine bBT (s2 _ _) ?_;rw[if_neg (rL h)];refine bBT (s3 _ _) ?_;rw[if_neg (rL h)];refine bBT (s4 _ _) ?_;rw[if_neg (rL h)];refine bBT (s5 _ _) ?_;rw[if_neg (rL h),aKO h];refine bBT hx ?_;rw[if_pos h]
 ·rw[VC hc,aAC];simp only[oG hc (show([97,109,112]:Y_).all bG=true from rfl)]
  by_cases c1:c=[97,109,112]
  ·subst c1; rfl
  rw[if_neg c1,if_neg c1];refine bBT (s2 _ _) ?_;simp only[oG hc (show([108,116]:Y_).all bG=true from rfl)]
  by_cases c2:c=[108,116]
  ·subst c2; rfl
  rw[if_neg c2,if_neg c2];refine bBT (s3 _ _) ?_;simp only[oG hc (show([103,116]:Y_).all bG=true from rfl)]
  by_cases c3:c=[103,116]
  ·subst c3; rfl
  rw[if_neg c3,if_neg c3];refine bBT (s4 _ _) ?_;simp only[oG hc (show([113,117,111,116]:Y_).all bG=true from rfl)]
  by_cases c4:c=[113,117,111,116]
  ·subst c4; rfl
  rw[if_neg c4,if_neg c4];refine bBT (s5 _ _) ?_;simp only[oG hc (show([97,112,111,115]:Y_).all bG=true from rfl)]
  by_cases c5:c=[97,112,111,115]
  ·subst c5; rfl
  rw[if_neg c5,if_neg c5];refine bBT hx ?_
  have no:¬((c++59::t).all bG=true):=fun k=>by
   rw[List.all_append,bBF] at k;simp[bG] at k
  rw[if_neg no,rJ hc]
theorem VE(base:Int) (most:Nat) (d:Y_):(rI base most d).1.length≤4:=by
 unfold rI
 split
 ·simp
 ·split
  ·simp
  ·rename_i h;exact aJ9 (by simpa using h)
theorem VF(c:Y_):(AG c).1.length≤4:=by
 rw[aAC]
 repeat' split
 any_goals simp
 unfold GC
 repeat' split
 ·exact VE _ _ _
 ·exact VE _ _ _
 ·simp
theorem kR{P:UInt8→Bool}(l:Y_):(l.takeWhile P).length≤l.length:=(List.takeWhile_prefix P).length_le
theorem aAE{l:Y_}(h:(mN l).2.2=0):(l.takeWhile bG).length<l.length∧(mN l).2.1=(((l.takeWhile bG).length+2:Nat):Int)∧(mN l).1=(AG (l.takeWhile bG)).1∧(AG (l.takeWhile bG)).2=0:=by
 have:=kR (P:=bG) l
 unfold mN at *;simp only at *
 by_cases h1:(l.takeWhile bG).length=l.length
 ·rw[if_pos h1] at h;cases h
 ·rw[if_neg h1] at h ⊢
  by_cases h2:(AG (l.takeWhile bG)).2=0
  ·rw[if_pos h2] at h ⊢;exact⟨by omega,rfl,rfl,h2⟩
  ·rw[if_neg h2] at h;exact absurd h h2
def unE:Nat→Y_→Y_→Y_×Int
 | 0,a,_=>(a,0)
 |_+1,a,[]=>(a,0)
 |n+1,a,b::l=>if b=60 then([],4) else if b=38 then(if(mN l).2.2≠0 then([],(mN l).2.2) else unE n (a++(mN l).1) (l.drop ((l.takeWhile bG).length+1))) else unE n (a++[b]) l
theorem ES:∀(n m:Nat) (a l:Y_),l.length≤n→l.length≤m→unE n a l=unE m a l
 | 0,m,a,l,h,_=>by
  have:l=[]:=aYP (by omega)
  subst this;cases m<;>rfl
 |n+1,0,a,l,_,h=>by
  have:l=[]:=aYP (by omega)
  subst this;rfl
 |n+1,m+1,a,[],_,_=>rfl
 |n+1,m+1,a,b::l,h1,h2=>by
  have e1:=fun a=>ES n m a l (by simp at h1; omega) (by simp at h2; omega)
  have e2:=fun a=>ES n m a (l.drop ((l.takeWhile bG).length+1)) (by simp at h1 ⊢; omega) (by simp at h2 ⊢; omega)
  simp only[unE,e1,e2]
def un(a l:Y_):Y_×Int:=unE l.length a l
theorem P3(a:Y_):un a []=(a,0):=rfl
theorem BF(a:Y_) (b:UInt8) (l:Y_):un a (b::l)=if b=60 then([],4) else if b=38 then(if(mN l).2.2≠0 then([],(mN l).2.2) else un (a++(mN l).1) (l.drop ((l.takeWhile bG).length+1))) else un (a++[b]) l:=by
 have e2:=fun a=>ES l.length (l.drop ((l.takeWhile bG).length+1)).length a (l.drop ((l.takeWhile bG).length+1)) (by simp) (bBQ _)
 show unE (l.length+1) a (b::l)=_;simp only[unE,e2];rfl
theorem mW(a t:Y_) (h:a.length+t.length≤100000000):q31 fuelH (((),a),t)=some (len t,false,(),a++t):=by
 unfold q31 bK bZ;rw[aB,aF (cV (by simp only[len,aE]; omega))];rfl
theorem aG8(a:Y_) (b:UInt8) (h:a.length≤100000000):q82 fuelH (((),a),b)=some (false,(),a++[b]):=by
 unfold q82 bK bZ;rw[aB,aF (cV (by simp only[len,aE,bAH,bAZ]; omega))];rfl
theorem aXQ{s:Y_}(hs:s.length≤3900000):q83 fuelH s=some (un [] s):=by
 unfold q83;rw[bT]
 have h:=cW (s:=s) (fun (a:Y_) (i:Nat)=>((i:Int),((),a))) (fun a l=>some (un a l)) (fun i a=>a.length≤4*i)
  (F:=fun v2 (v3:Int×Unit×Y_) =>
  cnd (ilt v3.1 (len s))
   (grd (inb v3.1 (len s))
    (cnd (ieq (n8 (aA s (toN v3.1) (0:UInt8))) (n8 (60:UInt8)))
     (some (([]:Y_),(4:Int)))
     (cnd (ieq (n8 (aA s (toN v3.1) (0:UInt8))) (n8 (38:UInt8)))
      (grd (in2 v3.1 (len s))
       (bnd (q81 fuelH (cJ (toN v3.1) s)) fun v4 =>
       cnd (ine v4.2.2 (0:Int))
        (some (([]:Y_),v4.2.2))
        (bnd (q31 fuelH (((),v3.2.2),v4.1)) fun v5 =>
        v2 (w64 (aE v3.1 v4.2.1),(),v5.2.2.2))))
      (grd (inb v3.1 (len s))
       (bnd (q82 fuelH (((),v3.2.2),aA s (toN v3.1) (0:UInt8))) fun v6 =>
       v2 (w64 (aE v3.1 (1:Int)),(),v6.2.2))))))
   (some (v3.2.2,(0:Int)))) ?_ fuelH 0 [] (cX (by omega) 0) (bBR _) (by simp)
 ·exact h
 ·intro self a i hi hI hself
  by_cases hl:i<s.length
  ·have g:aA s (toN (i:Int)) (0:UInt8)=s[i]:=bB hl
   have hw:w64 (aE (i:Int) 1)=((i+1:Nat):Int):=aQ hl (by omega)
   have hld:cJ (toN (i:Int)) s=s.drop i:=by simp[cJ,toN]
   rw[aYY hl,BF];show cnd (ilt (i:Int) (len s)) _ _=_;rw[aD (aV (by simp only[len]; omega)),aF (aX (by simp only[len]; omega)),g,hld]
   by_cases h60:s[i]=60
   ·rw[if_pos h60,aD (dL (by rw[h60]))]
   rw[if_neg h60,aC (cZ (fun k=>h60 (fJ k)))]
   by_cases h38:s[i]=38
   ·rw[if_pos h38,aD (dL (by rw[h38])),aF (jG (by simp only[len]; omega)),aYY hl,h38,aKQ (by simp; omega),aB]
    by_cases he:(mN (s.drop (i+1))).2.2=0
    ·have ho:=aAE he
     have hle:(mN (s.drop (i+1))).1.length≤4:=by rw[ho.2.2.1]; exact VF _
     have hdl:(s.drop (i+1)).length=s.length-(i+1):=bAL
     rw[aC (cN he),if_neg (by simpa using he),mW _ _ (by show a.length+_≤_; omega),aB,ho.2.1]
     have e1:w64 (aE (i:Int) ((((s.drop (i+1)).takeWhile bG).length+2:Nat):Int))=((i+(((s.drop (i+1)).takeWhile bG).length+2):Nat):Int):=by
      simp only[aE];rw[bS (by omega)];omega
     rw[e1,bA5]
     have hz:=hself (a++(mN (s.drop (i+1))).1) (i+(((s.drop (i+1)).takeWhile bG).length+2)) (by omega) (by omega) (by rw[aZ0]; omega)
     refine bBT hz ?_;congr 3;omega
    ·rw[aD (cA he),if_pos (by simpa using he)]
   ·rw[if_neg h38,aC (cZ (fun k=>h38 (fJ k))),aF (aX (by simp only[len]; omega)),aG8 _ _ (by show a.length≤_; omega),aB,hw];exact hself (a++[s[i]]) (i+1) (by omega) (by omega) (by simp; omega)
  ·obtain rfl:i=s.length:=by omega
   show cnd (ilt (s.length:Int) (len s)) _ _=_;rw[aC (aW (by simp only[len]; omega)),bAR];rfl
theorem aG9{R:Type}{s:Y_}(hs:s.length≤4000000) (P:UInt8→Bool) (g:UInt8→Option Bool) (hg:∀x,g x=some (P x)) (K:Int→Option R){i:Nat}(hi:i≤s.length) :
  bD (fun (v9:Int→Option R) (v10:Int)=>cnd (ilt v10 (len s)) (grd (inb v10 (len s)) (bnd (g (aA s (toN v10) (0:UInt8))) fun v5=>cnd v5 (v9 (w64 (aE v10 (1:Int)))) (K v10))) (K v10)) fuelH (i:Int)=K ((i+((s.drop i).takeWhile P).length:Nat):Int):=by
 refine aQN P K (fun self k hk=>?_) (fun self=>?_) fuelH i (cX hs i) hi
 ·show cnd (ilt (k:Int) (len s)) _ _=_;rw[aD (aV (by simp only[len]; omega)),aF (aX (by simp only[len]; omega)),bB hk,hg,aB,aQ hk (by omega),vU]
 ·show cnd (ilt (s.length:Int) (len s)) _ _=_;rw[aC (aW (by simp only[len]; omega))]
theorem aMZ{l h n:Int}(k:0≤l∧l≤h∧h≤n):in3 l h n=true:=decide_eq_true k
theorem BG(P:UInt8→Bool):∀l:Y_,l.take (l.takeWhile P).length=l.takeWhile P
 | []=>rfl
 |b::l=>by
  rw[aZZ]
  split
  ·rw[bAH,aZV,BG P l]
  ·rfl
def nmX(s:Y_):Bool:=decide (1≤s.length)&&decide (s.length≤32)&&oF (s.getD 0 0)&&s.all nE
theorem aKR{x:UInt8}(h:oF x=true):nE x=true:=by unfold nE; rw[h]; rfl
def dJ:Y_→Y_
 | []=>[]
 |b::l=>if oF b=true then b::l.takeWhile nE else []
theorem yE(b:UInt8) (l:Y_):dJ (b::l)=if oF b=true then b::l.takeWhile nE else []:=rfl
theorem IQ{s:Y_}(hs:s.length≤4000000):∀(fuel i:Nat),s.length-i<fuel→i≤s.length →
  bD (fun v3 (v4:Int)=>cnd (ilt v4 (len s)) (grd (inb v4 (len s)) (bnd (q58 fuelH (aA s (toN v4) (0:UInt8))) fun v5=>cnd (bO v5) (some false) (v3 (w64 (aE v4 (1:Int)))))) (some true)) fuel (i:Int)=some ((s.drop i).all nE)
 | 0,i,h,_=>by omega
 |fuel+1,i,h,hi=>by
  rw[dQ]
  by_cases hl:i<s.length
  ·rw[aD (aV (by simp only[len]; omega)),aF (aX (by simp only[len]; omega)),bB hl,aAA,aB,aQ hl (by omega),IQ hs fuel (i+1) (by omega) (by omega),aYY hl,bBF];cases nE s[i]<;>rfl
  ·obtain rfl:i=s.length:=by omega
   rw[aC (aW (by simp only[len]; omega)),bAR];rfl
theorem BH(s:Y_):eA fuelH s=some (nmX s):=by
 unfold eA nmX
 by_cases h0:1≤s.length
 ·rw[aC (aW (by simp only[len]; omega)),decide_eq_true h0]
  by_cases h1:s.length≤32
  ·have hg:aA s (toN (0:Int)) (0:UInt8)=s.getD 0 0:=rfl
   rw[aC (aW (by simp only[len]; omega)),decide_eq_true h1,aF (aX (by simp only[len]; omega)),IN,aB,hg]
   by_cases h2:oF (s.getD 0 0)=true
   ·rw[h2,aC (by rfl),bT];exact IQ (by omega) fuelH 0 (cX (by omega) 0) (bBR _)
   ·have h2:oF (s.getD 0 0)=false:=by simpa using h2
    rw[h2,aD (by rfl)];rfl
  ·rw[aD (aV (by simp only[len]; omega)),decide_eq_false h1];rfl
 ·rw[aD (aV (by simp only[len]; omega)),decide_eq_false h0];rfl
theorem P4:∀(s a:Y_),un a (esc s)=(a++s,0)
 | [],a=>by rw[show esc []=[] from rfl,P3,bAV]
 |b::s,a=>by
  rw[VB]
  have named:∀(c:Y_) (y:UInt8),c.all bG=true→AG c=([y],0)→un a ((38::(c++[59]))++esc s)=(a++[y]++s,0):=fun c y h1 h2=>by
   have hx:mN (c++59::esc s)=([y],((c.length+2:Nat):Int),0):=by rw[VC h1,h2]; rfl
   have e:(38::(c++[59]))++esc s=38::(c++59::esc s):=by simp
   rw[e,BF,if_neg (by decide),if_pos rfl,hx,if_neg (by simp),rJ h1]
   have:(c++59::esc s).drop (c.length+1)=esc s:=by
    rw[show c++59::esc s=(c++[59])++esc s by simp];exact List.drop_left' (by simp)
   rw[this];exact P4 s _
  have done:∀y,(a++[y]++s,(0:Int))=(a++y::s,0):=fun y=>by simp
  rw[←done b];unfold GA
  by_cases h1:b=38
  ·subst h1; exact named [97,109,112] 38 (by rfl) (by rfl)
  by_cases h2:b=60
  ·subst h2; exact named [108,116] 60 (by rfl) (by rfl)
  by_cases h3:b=62
  ·subst h3; exact named [103,116] 62 (by rfl) (by rfl)
  by_cases h4:b=34
  ·subst h4; exact named [113,117,111,116] 34 (by rfl) (by rfl)
  by_cases h5:b=39
  ·subst h5; exact named [97,112,111,115] 39 (by rfl) (by rfl)
  rw[if_neg h1,if_neg h2,if_neg h3,if_neg h4,if_neg h5];show un a (b::esc s)=_;rw[BF,if_neg h2,if_neg h1];exact P4 s _
theorem PF(s:Y_):(esc s).length≤6*s.length:=nY (fun b=>(UA b).2) s
abbrev Ln:=Y_
abbrev At:=Y_×Y_
abbrev Nd:=Y_×Y_×List At×Int
def ndz:Nd:=zN
def dep(n:Nd):Int:=n.2.2.2
def i64(x:Int):Prop:=-9223372036854775808≤x∧x≤9223372036854775807
theorem pN{l:List Nd}{i:Nat}(h:i<l.length):aA l (toN (i:Int)) zN=l[i]:=bB h
def wtA(a:At):Nat:=a.1.length+1+(a.2.length+1)
def wtN(n:Nd):Nat:=n.1.length+1+(n.2.1.length+1+(bkL wtA n.2.2.1+1+1))
structure smN (n:Nd):Prop where
 nm:n.1.length≤1090000
 tx:n.2.1.length≤1090000
 asz:n.2.2.1.length≤1090000
 an:∀a∈n.2.2.1,a.1.length≤1090000∧a.2.length≤1090000
theorem aM0{l:List Nd}(h:bkL wtN l≤1090000):∀n∈l,smN n:=fun n hn=>by
 have h1:n.1.length+1+(n.2.1.length+1+(bkL wtA n.2.2.1+1+1))≤bkL wtN l:=uF (f:=wtN) hn
 have h2:=OQ (f:=wtA) (fun a=>by unfold wtA; omega) n.2.2.1
 refine⟨by omega,by omega,by omega,fun a ha=>?_⟩
 have h3:a.1.length+1+(a.2.length+1)≤bkL wtA n.2.2.1:=uF (f:=wtA) ha
 omega
def bU(name:Ln):List At→Ln×Bool
 | []=>([],false)
 |a::r=>if a.1=name then(a.2,true) else bU name r
theorem oH{V R α β:Type}{F:(V→Option R)→V→Option R}{l:List α}(st:List β→Nat→V) (g:α→List β) (K:List β→Option R) (a0:List β){fuel:Nat}(hf:l.length<fuel)
  (hstep:∀self a i (h:i<l.length),(a++g l[i]).length≤(a0++l.flatMap g).length→F self (st a i)=self (st (a++g l[i]) (i+1)))
  (hend:∀self a,F self (st a l.length)=K a):bD F fuel (st a0 0)=K (a0++l.flatMap g):=by
 refine hJ (n:=l.length) st (fun i a=>a=a0++(l.take i).flatMap g) _ (fun self a i h hI=>?_) (fun self a hI=>?_) fuel 0 a0 (bBR _) (by omega) (by simp)
 ·have e:a++g l[i]=a0++(l.take (i+1)).flatMap g:=by
   rw[hI,aYO h,List.flatMap_append];simp
  refine⟨_,hstep self a i h ?_,e⟩;rw[e]
  have:l=l.take (i+1)++l.drop (i+1):=(aZE _ _).symm
  conv=>rhs; rw[this,List.flatMap_append,←bAA,aZ0]
  omega
 ·rw[hend,hI,bAO]
theorem ET{n:Int}(h0:0≤n) (h1:n≤9223372036854775807):q52 fuelH n=some (eE n):=by
 have e:q52 fuelH n=bnd (bnd (cT fuelH (n,10)) fun v0=>some v0) fun v0=>some v0:=rfl
 have e2:cT fuelH (n,10)=some (eE n):=by
  show dB fuelH (n,10)=_;unfold dB;rw[aF (by rfl),aF (gP (by omega)),aF (gP (by omega))]
 rw[e,e2];rfl
theorem yF:∀(n u:Nat) (l:Y_),fO n u l=fO n u []++l
 | 0,_,_=>rfl
 |n+1,u,l=>by
  unfold fO aR
  split
  ·rw[yF n _ (_::l),yF n _ [_]];simp
  ·rfl
def kV(a:At):List At:=if a.2=[] then [] else [a]
def fQ(l:List At):List At:=l.flatMap kV
def PG(b:Bool):Y_:=if b then [49] else []
theorem PH(N:Nat) (n:Y_) (b:Bool):q50 N (n,b)=some (n,PG b):=by cases b<;>rfl
theorem lO{n:Y_}{k:Int}(h0:0≤k) (h1:k≤9223372036854775807):q53 fuelH (n,k)=some (n,eE k):=by
 unfold q53;rw[bN (ET h0 h1)]
def elQ(depth:Int) (name:Y_) (l:List At):Nd:=(name,[],fQ l,depth)
theorem VG(l:List At):(fQ l).length≤l.length:=by
 unfold fQ
 induction l with
 |nil=>simp
 |cons a l ih =>
  rw[List.flatMap_cons,aZ0,bAH]
  have:(kV a).length≤1:=by unfold kV; split<;>simp
  omega
theorem mH{t:List Nd}{depth:Int}{name:Y_}{l:List At}(ht:t.length≤1000000) (hl:l.length≤1000):q54 fuelH (t,depth,name,l)=some (t++[elQ depth name l]):=by
 unfold q54;rw[bT]
 have hk:=VG l
 refine bBT (oH (l:=l) (fun a i=>((i:Int),name,([]:Y_),a,depth)) kV (fun a=>some (t++[(name,[],a,depth)])) [] (by have:=bF; omega) (fun self a i hi hle=>?_) (fun self a=>?_)) ?_
 ·have h2:(a++kV l[i]).length≤1000:=bBH hle (by simpa [fQ] using bBH hk hl)
  rw[aZ0] at h2;simp only;rw[aD (aV (by simp only[len]; omega)),aF (aX (by simp only[len]; omega)),bB hi];unfold kV at h2 ⊢
  by_cases hv:l[i].2=[]
  ·rw[aC (by rw[hv]; rfl),if_pos hv,bAV,aQ hi (by omega)]
  ·rw[aD (by simp[sne,hv]),if_neg hv,aF (cV (by rw[if_neg hv] at h2; simp only[aE,len,bAH,bAZ] at h2 ⊢; omega)),aQ hi (by omega)];rfl
 ·simp only;rw[aC (aW (by simp only[len]; omega)),aF (cV (by simp only[aE,len,bAH,bAZ]; omega))];rfl
 ·rfl
def EU(c:UInt8):Y_:=if c=0 then [] else aA gl1 c.toNat []
def sP(k:UInt8):Y_:=if k=1 then [68,73,65,76,79,71,85,69] else if k=2 then [83,79,85,78,68] else if k=3 then [84,73,84,76,69] else if k=4 then [77,85,83,73,67] else []
def oI(r:UInt8):Y_:=if r=1 then [50,51,46,57,55,54] else if r=2 then [50,52] else if r=3 then [50,53] else if r=4 then [50,57,46,57,55] else if r=5 then [51,48] else if r=6 then [53,48] else if r=7 then [53,57,46,57,52] else []
def sQ(a:UInt8):Y_:=if a=1 then [76,69,70,84] else if a=2 then [67,69,78,84,69,82] else [82,73,71,72,84]
theorem aC6:((List.range 256).all fun n=>decide (q27 0 (UInt8.ofNat n)=some (sP (UInt8.ofNat n))∧aN2 0 (UInt8.ofNat n)=some (sP (UInt8.ofNat n))∧q49 0 (UInt8.ofNat n)=some (oI (UInt8.ofNat n))∧EB 0 (UInt8.ofNat n)=some (oI (UInt8.ofNat n))))=true:=by kernel_rfl
theorem VH(x:UInt8):q27 0 x=some (sP x)∧aN2 0 x=some (sP x)∧q49 0 x=some (oI x)∧EB 0 x=some (oI x) :=
 of_decide_eq_true (eT (P:=fun x=>decide (q27 0 x=some (sP x)∧aN2 0 x=some (sP x)∧q49 0 x=some (oI x)∧EB 0 x=some (oI x))) aC6 x)
theorem aKS(N:Nat) (x:UInt8):q27 N x=some (sP x):=(VH x).1
theorem IR(N:Nat) (x:UInt8):q49 N x=some (oI x):=(VH x).2.2.1
def kS(u:Run):List At:=[([99,111,108,111,114],EU u.2.1.1),([105,116,97,108,105,99],PG u.2.1.2.1),([117,110,100,101,114,108,105,110,101],PG u.2.1.2.2),([114,117,98,121],u.2.2)]
def runN(u:Run):List Nd:=[elQ 3 [114,117,110] (kS u),([],u.1,[],4)]
def rowN(r:Row):List Nd:=elQ 2 [114,111,119] []::r.flatMap runN
def evA(e:Ev):List At:=[([105,100],eE e.1),([105,110],eE e.2.1.1++[102]),([111,117,116],eE e.2.1.2++[102]),([114,101,103,105,111,110],e.2.2.1),([107,105,110,100],sP e.2.2.2.1),([115,112,101,97,107,101,114],e.2.2.2.2.1)]
def evN(e:Ev):List Nd:=elQ 1 [112] (evA e)::e.2.2.2.2.2.flatMap rowN
def kT(r:Reg):List At:=[([110,97,109,101],r.1),([116,111,112],eE r.2.1),([104,101,105,103,104,116],eE r.2.2.1),([108,101,102,116],eE r.2.2.2.1),([119,105,100,116,104],eE r.2.2.2.2.1),([97,108,105,103,110],sQ r.2.2.2.2.2.1),([97,110,99,104,111,114],if r.2.2.2.2.2.2 then [66,79,84,84,79,77] else [84,79,80])]
def pC(r:Reg):List Nd:=[elQ 1 [114,101,103,105,111,110] (kT r)]
def dU(d:Doc):List At:=[([116,105,116,108,101],d.1),([108,97,110,103],d.2.1),([114,97,116,101],oI d.2.2.1),([100,114,111,112],PG d.2.2.2.1),([108,97,115,116],eE d.2.2.2.2.1)]
def dV(d:Doc):List Nd:=[elQ 0 [116,116] (dU d)]++d.2.2.2.2.2.1.flatMap pC++d.2.2.2.2.2.2.1.flatMap evN
structure NodOk (d:Doc):Prop where
 last:0≤d.2.2.2.2.1∧d.2.2.2.2.1≤1099511627776
 nreg:d.2.2.2.2.2.1.length≤16
 reg:∀r∈d.2.2.2.2.2.1,eF r=0
 nev:d.2.2.2.2.2.2.1.length≤400
 ev:∀e∈d.2.2.2.2.2.2.1,1≤e.1∧e.1≤1099511627776∧(0≤e.2.1.1∧e.2.1.1<e.2.1.2∧e.2.1.2≤5184000)∧e.2.2.2.2.2.length≤4∧∀l∈e.2.2.2.2.2,l.length≤16∧∀u∈l,n8 u.2.1.1≤6
theorem zL:∀(l:List Reg) (p:Option Reg),mV p l=0→∀r∈l,eF r=0
 | [],_,_,r,hr=>by cases hr
 |x::l,p,h,r,hr=>by
  simp only[mV] at h
  split at h
  ·rename_i hc; exact absurd h hc
  ·rename_i hc
   have hx:eF x=0:=by simpa using hc
   have tl:mV (some x) l=0:=by
    cases p with
    |none=>exact h
    |some q =>
     simp only at h
     split at h
     ·cases h
     ·split at h
      ·cases h
      ·exact h
   rcases bBB.1 hr with rfl|hr
   ·exact hx
   ·exact zL l _ tl r hr
theorem oJ{r:Reg}(h:eF r=0):nm r.1=true∧(0≤r.2.1∧r.2.1≤14)∧(1≤r.2.2.1∧r.2.2.1≤15-r.2.1)∧(0≤r.2.2.2.1∧r.2.2.2.1≤31)∧(1≤r.2.2.2.2.1∧r.2.2.2.2.1≤32-r.2.2.2.1)∧(1≤n8 r.2.2.2.2.2.1∧n8 r.2.2.2.2.2.1≤3):=by
 unfold eF at h
 split at h
 ·cases h
 rename_i c1
 split at h
 ·cases h
 rename_i c2
 split at h
 ·cases h
 rename_i c3
 split at h
 ·cases h
 rename_i c4
 split at h
 ·cases h
 rename_i c5
 split at h
 ·cases h
 rename_i c6;exact⟨by simpa using c1,Decidable.of_not_not c2,Decidable.of_not_not c3,Decidable.of_not_not c4,Decidable.of_not_not c5,Decidable.of_not_not c6⟩
theorem VI{l:Row}(h:rG l=0):nD l=0:=by
 unfold rG at h
 split at h
 ·rename_i hc; exact absurd h hc
 ·rename_i hc; simpa using hc
theorem aHA{d:Doc}(h:cB d=0):jR d.2.2.2.2.2.1=0:=by
 unfold cB at h
 split at h
 ·rename_i hc; exact absurd h hc
 split at h
 ·rename_i hc; exact absurd h hc
 ·rename_i hc; simpa using hc
theorem vZ{d:Doc}(h:cB d=0):0≤d.2.2.2.2.1∧d.2.2.2.2.1≤1099511627776:=by
 have h:=(jM h).1
 unfold iX at h
 split at h
 ·cases h
 split at h
 ·cases h
 split at h
 ·cases h
 split at h
 ·cases h
 split at h
 ·cases h
 split at h
 ·cases h
 omega
theorem PI{d:Doc}(h:uG d=0):∀e∈d.2.2.2.2.2.2.1,oB e d.2.2.2.2.2.1=0:=by
 intro e he;obtain⟨j,hj,rfl⟩:=List.mem_iff_getElem.1 he;exact(UV (IJ _ [] h j hj)).1
theorem EV{d:Doc}(h:cB d=0):NodOk d:=by
 obtain⟨h1,h2,h3⟩:=jM h
 have h4:=aHA h
 refine⟨vZ h,?_,?_,h2,fun e he=>?_⟩
 ·unfold jR at h4
  split at h4
  ·cases h4
  ·omega
 ·unfold jR at h4
  split at h4
  ·cases h4
  ·exact zL _ _ h4
 ·obtain⟨q1,q2,q3,_,q4,q5,_⟩:=aGX (PI h3 e he);refine⟨q1,q2,q3,q4,fun l hl=>?_⟩;obtain⟨r1,r2⟩:=yA (VI (q5 l hl));exact⟨r1,fun u hu=>(r2 u hu).2.2.1⟩
theorem mI{α β:Type}{g:α→List β}{c:Nat}:∀(l:List α),(∀x∈l,(g x).length≤c)→(l.flatMap g).length≤l.length*c
 | [],_=>by simp
 |x::l,h=>by
  rw[List.flatMap_cons,aZ0,bAH,bBO,bBP]
  have:=h x aZ4
  have:=mI l fun y hy=>h y (aZL _ hy)
  omega
theorem aHB{r:Row}(h:r.length≤16):(rowN r).length≤33:=by
 have:=mI (g:=runN) (c:=2) r (fun _ _=>bBQ _)
 simp only[rowN,bAH];omega
theorem aKT{e:Ev}(h1:e.2.2.2.2.2.length≤4) (h2:∀l∈e.2.2.2.2.2,l.length≤16):(evN e).length≤133:=by
 have:=mI (g:=rowN) (c:=33) e.2.2.2.2.2 (fun l hl=>aHB (h2 l hl))
 simp only[evN,bAH];omega
theorem aHC{d:Doc}(h:NodOk d):(dV d).length≤53217:=by
 have h1:=mI (g:=pC) (c:=1) d.2.2.2.2.2.1 (fun _ _=>bBQ _)
 have h2:=mI (g:=evN) (c:=133) d.2.2.2.2.2.2.1 (fun e he=>aKT (h.ev e he).2.2.2.1 fun l hl=>((h.ev e he).2.2.2.2 l hl).1)
 have:=h.nreg
 have:=h.nev
 simp only[dV,aZ0,bAH,bAZ];omega
theorem aC7:((List.range 256).all fun n=>!(decide (1≤n)&&decide (n≤3))||(decide (inb (n8 (b8 (aI (n8 (UInt8.ofNat n)) (n8 (1:UInt8))))) (ofN 3)=true)&&decide (aA gl0 (toN (n8 (b8 (aI (n8 (UInt8.ofNat n)) (n8 (1:UInt8)))))) []=sQ (UInt8.ofNat n))&&decide (aA [[],[76,69,70,84],[67,69,78,84,69,82],[82,73,71,72,84]] (toN (n8 (UInt8.ofNat n))) []=sQ (UInt8.ofNat n))))=true:=by kernel_rfl
theorem aHD{a:UInt8}(h1:1≤n8 a) (h2:n8 a≤3):inb (n8 (b8 (aI (n8 a) (n8 (1:UInt8))))) (ofN 3)=true∧aA gl0 (toN (n8 (b8 (aI (n8 a) (n8 (1:UInt8)))))) []=sQ a∧aA [[],[76,69,70,84],[67,69,78,84,69,82],[82,73,71,72,84]] (toN (n8 a)) []=sQ a:=by
 have h:=bAQ.1 aC7 a.toNat (List.mem_range.2 a.toNat_lt)
 have e:UInt8.ofNat a.toNat=a:=UInt8.ofNat_toNat
 rw[e] at h;unfold n8 at h1 h2
 have c1:decide (1≤a.toNat)=true:=decide_eq_true (by omega)
 have c2:decide (a.toNat≤3)=true:=decide_eq_true (by omega)
 rw[c1,c2] at h;simp only[Bool.and_self,Bool.not_true,bBD,bAI,decide_eq_true_eq] at h;exact⟨h.1.1,h.1.2,h.2⟩
theorem gC{n:Int}(h0:0≤n):(eE n).length≤20:=by
 obtain⟨m,rfl⟩:∃m:Nat,n=m:=⟨n.toNat,by omega⟩
 have key:∀(k u:Nat) (l:Y_),(fO k u l).length≤k+l.length:=by
  intro k
  induction k with
  |zero=>intro u l; simp[fO]
  |succ k ih =>
   intro u l;unfold fO aR
   split
   ·have:=ih (u / 10) (UInt8.ofNat (48+u%10)::l)
    simp only[bAH] at this;omega
   ·simp only[bAH]; omega
 have:=key 20 m []
 exact this
theorem aHE{c:UInt8}(h:n8 c≤6){R:Type}(K:Y_→Option R):(jn K fun v=>cnd (ine (n8 c) (n8 (0:UInt8))) (grd (inb (n8 c) (ofN 7)) (v (aA gl1 (toN (n8 c)) []))) (v []))=K (EU c):=by
 rw[bT]
 by_cases hc:c=0
 ·subst hc;rw[aC (by rfl)];rfl
 ·have hn:n8 c≠0:=fun e=>hc (fJ (by rw[e]; rfl))
  rw[aD (cA (show n8 c≠n8 0 from hn)),aF (aX (by have:=YI c; simp only[ofN]; omega))];unfold EU;rw[if_neg hc];rfl
def aHF(d:Doc):List Nd×Int:=if 8192<(dV d).length then([],9) else(dV d,0)
theorem P5{d:Doc}(hd:NodOk d) (hc:q48 fuelH d=some 0):q55 fuelH d=some (aHF d):=by
 have hN:=aHC hd
 have hfu:=bF
 have hl:=hd.last
 unfold q55;rw[bN hc,aC (by rfl),bN (IR _ _),bN (PH _ _ _),bN (lO hl.1 (by omega)),bN (mH (t:=[]) (by simp) (by simp)),bT];refine(oH (l:=d.2.2.2.2.2.1) (fun a i=>((i:Int),a)) pC ?K [elQ 0 [116,116] (dU d)] (by have:=hd.nreg; omega) ?hs ?he).trans ?_
 case he =>
  intro self a;dsimp only;rw[aC (aW (by simp only[len]; omega))]
 case hs =>
  intro self a i hi hle
  have hr:=oJ (hd.reg _ (bAS hi))
  have ha:(a++pC (d.2.2.2.2.2.1)[i]).length≤53217:=by
   refine bBH hle (bBH ?_ hN);unfold dV;simp only[aZ0];omega
  rw[aZ0] at ha
  have hnr:=hd.nreg
  dsimp only;rw[aD (aV (by simp only[len]; omega)),aF (aX (by simp only[len]; omega)),bB hi];obtain⟨al1,al2,_⟩:=aHD hr.2.2.2.2.2.1 hr.2.2.2.2.2.2
  have key:∀an:Y_,(if(d.2.2.2.2.2.1)[i].2.2.2.2.2.2 then [66,79,84,84,79,77] else [84,79,80])=an →
   (bnd (q53 fuelH ([116,111,112],(d.2.2.2.2.2.1)[i].2.1)) fun v33=>bnd (q53 fuelH ([104,101,105,103,104,116],(d.2.2.2.2.2.1)[i].2.2.1)) fun v34=>bnd (q53 fuelH ([108,101,102,116],(d.2.2.2.2.2.1)[i].2.2.2.1)) fun v35=>bnd (q53 fuelH ([119,105,100,116,104],(d.2.2.2.2.2.1)[i].2.2.2.2.1)) fun v36 =>
    grd (inb (n8 (b8 (aI (n8 (d.2.2.2.2.2.1)[i].2.2.2.2.2.1) (n8 (1:UInt8))))) (ofN 3)) (bnd (q54 fuelH (a,(1:Int),[114,101,103,105,111,110],[([110,97,109,101],(d.2.2.2.2.2.1)[i].1),v33,v34,v35,v36,([97,108,105,103,110],aA gl0 (toN (n8 (b8 (aI (n8 (d.2.2.2.2.2.1)[i].2.2.2.2.2.1) (n8 (1:UInt8)))))) []),([97,110,99,104,111,114],an)])) fun v37=>self (w64 (aE (i:Int) 1),v37)))=self (((i+1:Nat):Int),a++pC (d.2.2.2.2.2.1)[i]):=fun an han=>by
   rw[bN (lO hr.2.1.1 (by omega)),bN (lO (by omega) (by omega)),bN (lO hr.2.2.2.1.1 (by omega)),bN (lO (by omega) (by omega)),aF al1,al2,bN (mH (by omega) (by simp)),aQ hi (by omega),←han];rfl
  rw[bT]
  cases hb:(d.2.2.2.2.2.1)[i].2.2.2.2.2.2 with
  |true=>exact key _ (by rw[hb]; rfl)
  |false=>exact key _ (by rw[hb]; rfl)
 rw[bT];refine(oH (l:=d.2.2.2.2.2.2.1) (fun a i=>((i:Int),a)) evN ?K2 _ (by have:=hd.nev; omega) ?hs2 ?he2).trans ?_
 case he2 =>
  intro self a;dsimp only;rw[aC (aW (by simp only[len]; omega))]
 case hs2 =>
  intro self a i hi hle;obtain⟨q1,q2,q3,q4,q5⟩:=hd.ev _ (bAS hi)
  have ha:(a++evN (d.2.2.2.2.2.2.1)[i]).length≤53217:=bBH hle hN
  rw[aZ0] at ha
  have hnr:=hd.nev
  have hL1:=gC q3.1
  have hL2:=gC (n:=(d.2.2.2.2.2.2.1)[i].2.1.2) (by omega)
  dsimp only;rw[aD (aV (by simp only[len]; omega)),bT,aF (aX (by simp only[len]; omega)),bB hi,
   bN (lO (by omega) (by omega)),bN (ET q3.1 (by omega)),aF (dS (by simp only[aE,len,bAH,bAZ]; omega)),bN (ET (by omega) (by omega)),aF (dS (by simp only[aE,len,bAH,bAZ]; omega)),bN (aKS _ _),bN (mH (by omega) (by simp))]
  generalize hx:(d.2.2.2.2.2.2.1)[i]=x at *;refine(oH (l:=x.2.2.2.2.2) (fun a i=>((i:Int),a)) rowN ?K3 _ (by omega) ?hs3 ?he3).trans ?_
  case he3 =>
   intro self2 a2;dsimp only;rw[aC (aW (by simp only[len]; omega))]
  case hs3 =>
   intro self2 a2 i2 hi2 hle2;obtain⟨r1,r2⟩:=q5 _ (bAS hi2)
   have ha2:(a2++rowN (x.2.2.2.2.2)[i2]).length≤53217:=by
    refine bBH hle2 (bBH ?_ ha);simp only[evN,aZ0,bAH,bAZ];omega
   rw[aZ0] at ha2;dsimp only;rw[aD (aV (by simp only[len]; omega)),bT,aF (aX (by simp only[len]; omega)),bN (mH (by omega) (by simp)),bB hi2];generalize hy:(x.2.2.2.2.2)[i2]=y at *;refine(oH (l:=y) (fun a i=>((i:Int),a)) runN ?K4 _ (by omega) ?hs4 ?he4).trans ?_
   case he4 =>
    intro self3 a3;dsimp only;rw[aC (aW (by simp only[len]; omega))]
   case hs4 =>
    intro self3 a3 i3 hi3 hle3
    have hu:=r2 _ (bAS hi3)
    have ha3:(a3++runN y[i3]).length≤53217:=by
     refine bBH hle3 (bBH ?_ ha2);simp only[rowN,aZ0,bAH,bAZ];omega
    rw[aZ0] at ha3;dsimp only;rw[aD (aV (by simp only[len]; omega)),aF (aX (by simp only[len]; omega)),bB hi3,aHE hu]
    have hlen:∀e:Nd,(a3++[e]).length=a3.length+1:=fun e=>by simp
    rw[bN (PH _ _ _),bN (PH _ _ _),bN (mH (by omega) (by simp)),aF (cV (by simp only[aE,len,hlen,bAH,bAZ]; omega)),aQ hi3 (by omega)];show self3 (_,(a3++[elQ 3 [114,117,110] (kS y[i3])])++[([],y[i3].1,[],4)])=_;rw[bAA];rfl
   rw[aQ hi2 (by omega),bAA];rfl
  rw[aQ hi (by omega),bAA];rfl
 show cnd (ilt 8192 (len (dV d))) _ _=_;unfold aHF
 by_cases h8:8192<(dV d).length
 ·rw[aD (aV (by simp only[len]; omega)),if_pos h8]
 ·rw[aC (aW (by simp only[len]; omega)),if_neg h8];rfl
def atE:List Ln→List At→Int
 |_,[]=>0
 |seen,a::r=>if nmX a.1=false then 5 else if a.1∈seen then 7 else if vld a.2=false then 10 else atE (seen++[a.1]) r
def elE(n:Nd):Int:=if nmX n.1=false then 5 else if n.2.1≠[] then 4 else if 16<n.2.2.1.length then 9 else atE [] n.2.2.1
def sR(p:Option Nd) (n:Nd):Int:=match p with
 |none=>if dep n≠0 then 8 else 0
 |some q=>if dep n<1 then 8 else if(if q.1≠[] then dep q+1 else dep q)<dep n then 8 else if 15<dep n then 9 else 0
def txP(p:Option Nd) (n:Nd):Bool:=match p with
 |none=>true
 |some q=>decide (q.1=[]∧dep q=dep n)
def txE(p:Option Nd) (n:Nd):Int :=
 if txP p n=true then 8 else if n.2.1=[] then 4 else if 0<n.2.2.1.length then 4 else if vld n.2.1=false then 10 else 0
def ndE(p:Option Nd) (n:Nd):Int:=if sR p n≠0 then sR p n else if n.1≠[] then elE n else txE p n
def ckE:Option Nd→List Nd→Int
 |_,[]=>0
 |p,n::r=>if ndE p n≠0 then ndE p n else ckE (some n) r
def oK(l:List Nd):Int:=if l.length=0 then 6 else if 8192<l.length then 9 else ckE none l
theorem P6{m:List (Ln×Bool)}(h:∀x∈m,x.2=true) (k:Ln):nJ seq false m k=decide (k∈m.map Prod.fst):=by
 induction m with
 |nil=>rfl
 |cons x m ih =>
  have ih:=ih fun y hy=>h y (aZL _ hy)
  have hx:=h x aZ4
  unfold nJ;rw[ih,hx,cC]
  by_cases e:k=x.1
  ·subst e; simp
  ·simp[e]
theorem P7{m:List (Ln×Bool)}{k:Ln}(h:k ∉ m.map Prod.fst):pU seq m k true=m++[(k,true)]:=by
 induction m with
 |nil=>rfl
 |cons x m ih =>
  simp only[bBC,bBB,not_or] at h;unfold pU
  have:seq k x.1=false:=by rw[cC]; simpa using h.1
  rw[this,ih h.2];rfl
theorem aKU{n:Nd}(hs:smN n):q59 fuelH n=some (elE n):=by
 unfold q59 elE;rw[BH,aB]
 by_cases h1:nmX n.1=true
 ·rw[h1,aC (by rfl),if_neg (by decide)]
  by_cases h2:n.2.1=[]
  ·rw[aC (by unfold sne; simpa using h2),if_neg (by simpa using h2)]
   by_cases h3:16<n.2.2.1.length
   ·rw[aD (aV (by simp only[len]; omega)),if_pos h3]
   rw[aC (aW (by simp only[len]; omega)),if_neg h3,bT];generalize ha:n.2.2.1=l at *
   have h:=cW (s:=l) (fun (m:List (Ln×Bool)) (j:Nat)=>((j:Int),m)) (fun m r=>some (atE (m.map Prod.fst) r)) (fun _ m=>∀x∈m,x.2=true)
    (F:=fun v3 (v4:Int×List (Y_×Bool)) =>
     cnd (ilt v4.1 (len l))
      (grd (inb v4.1 (len l))
       (bnd (eA fuelH (aA l (toN v4.1) ([],[])).1) fun v5 =>
       cnd (bO v5)
        (some (5:Int))
        (cnd (nJ seq false v4.2 (aA l (toN v4.1) ([],[])).1)
         (some (7:Int))
         (bnd (q13 fuelH (aA l (toN v4.1) ([],[])).2) fun v6 =>
         cnd (bO v6)
          (some (10:Int))
          (v3 (w64 (aE v4.1 (1:Int)),pU seq v4.2 (aA l (toN v4.1) ([],[])).1 true))))))
      (some (0:Int))) ?_ fuelH 0 [] (cX (by omega) _) (bBR _) (by simp)
   ·exact h
   ·intro self m j hj hI hself
    by_cases hjl:j<l.length
    ·have hw:w64 (aE (j:Int) 1)=((j+1:Nat):Int):=aQ hjl (by omega)
     have hsa:=hs.an l[j] (by rw[ha]; exact bAS hjl)
     rw[aYY hjl];show cnd (ilt (j:Int) (len l)) _ _=some (if nmX (l[j]).1=false then _ else _);rw[aD (aV (by simp only[len]; omega)),aF (aX (by simp only[len]; omega)),bB hjl,BH,aB,hw]
     by_cases e1:nmX (l[j]).1=true
     ·rw[e1,aC (by rfl),if_neg (by decide),P6 hI]
      by_cases e2:(l[j]).1∈m.map Prod.fst
      ·rw[aD (by simpa using e2),if_pos e2]
      ·rw[aC (by simpa using e2),if_neg e2,kH _ (by omega),aB]
       by_cases e3:vld (l[j]).2=true
       ·rw[e3,aC (by rfl),if_neg (by decide),P7 e2];refine bBT (hself (m++[((l[j]).1,true)]) (j+1) (by omega) (by omega) ?_) ?_
        ·intro x hx;rcases bAU.1 hx with hx|hx
         ·exact hI x hx
         ·simp at hx; rw[hx]
        ·simp
       ·have e3:vld (l[j]).2=false:=by simpa using e3
        rw[e3,aD (by rfl),if_pos rfl]
     ·have e1:nmX (l[j]).1=false:=by simpa using e1
      rw[e1,aD (by rfl),if_pos rfl]
    ·obtain rfl:j=l.length:=by omega
     show cnd (ilt (l.length:Int) (len l)) _ _=_;rw[aC (aW (by simp only[len]; omega)),bAR];rfl
  ·rw[aD (by unfold sne; simpa using h2),if_pos h2]
 ·have h1:nmX n.1=false:=by simpa using h1
  rw[h1,aD (by rfl),if_pos rfl]
def prv(l:List Nd) (i:Nat):Option Nd:=if i=0 then none else l[i-1]?
theorem mJ{l:List Nd}{i:Nat}(hi:i<l.length):prv l (i+1)=some l[i]:=by
 unfold prv;rw[if_neg (by omega)];simp[hi]
theorem aHG{l:List Nd}(hl:l.length≤4000000){i:Nat}(hi:i<l.length) (hp:∀q,prv l i=some q→0≤dep q∧dep q≤15):q56 fuelH (l,(i:Int))=some (sR (prv l i) l[i]):=by
 unfold q56;show grd (inb (i:Int) (len l)) (cnd (ieq (i:Int) 0) (cnd (ine (aA l (toN (i:Int)) zN).2.2.2 0) _ _) _)=_;rw[aF (aX (by simp only[len]; omega)),pN hi]
 by_cases h0:i=0
 ·subst h0;rw[aD (by rfl)];show cnd (ine (dep l[0]) 0) _ _=some (if dep l[0]≠0 then(8:Int) else 0)
  by_cases e:dep l[0]=0
  ·rw[aC (cN e),if_neg (by simpa using e)]
  ·rw[aD (cA e),if_pos e]
 ·obtain⟨k,rfl⟩:∃k,i=k+1:=⟨i-1,by omega⟩
  have hq:=hp _ (mJ (by omega))
  rw[aC (cZ (by omega)),mJ (by omega)]
  have hb:w64 (aI ((k+1:Nat):Int) 1)=(k:Int):=oA (by omega)
  dsimp only
  have hg:inb (k:Int) (len l)=true:=aX (by simp only[len]; omega)
  rw[hb,pN (show k<l.length by omega),aF hg,bT,aF hg];show cnd (sne l[k].1 []) (cnd (ilt (dep l[k+1]) 1) (some 8) (cnd (ilt (w64 (aE (dep l[k]) 1)) (dep l[k+1])) (some 8) (cnd (ilt 15 (dep l[k+1])) (some 9) (some 0)))) (cnd (ilt (dep l[k+1]) 1) (some 8) (cnd (ilt (dep l[k]) (dep l[k+1])) (some 8) (cnd (ilt 15 (dep l[k+1])) (some 9) (some 0)))) =
   some (if dep l[k+1]<1 then(8:Int) else if(if l[k].1≠[] then dep l[k]+1 else dep l[k])<dep l[k+1] then 8 else if 15<dep l[k+1] then 9 else 0)
  have hw:w64 (aE (dep l[k]) 1)=dep l[k]+1:=by
   simp only[aE];rw[bS (by omega)]
  rw[hw];simp only[dI]
  by_cases e:l[k].1=[]
  ·rw[aC (by unfold sne; simpa using e)];simp only[e,ne_eq,not_true,if_false]
   repeat' split
   all_goals rfl
  ·rw[aD (by unfold sne; simpa using e)];simp only[e,ne_eq,not_false_eq_true,if_true]
   repeat' split
   all_goals rfl
theorem aKV{l:List Nd}(hl:l.length≤4000000){i:Nat}(hi:i<l.length) (hs:smN l[i]):q60 fuelH (l,(i:Int))=some (txE (prv l i) l[i]):=by
 have fin:∀b:Bool,(cnd b (some (8:Int)) (cnd (seq l[i].2.1 []) (some (4:Int)) (cnd (ilt 0 (len l[i].2.2.1)) (some (4:Int)) (bnd (q13 fuelH l[i].2.1) fun v1=>cnd (bO v1) (some (10:Int)) (some (0:Int)))))) =
   some (if b=true then 8 else if l[i].2.1=[] then 4 else if 0<l[i].2.2.1.length then 4 else if vld l[i].2.1=false then 10 else 0):=fun b=>by
  cases b with
  |true=>rfl
  |false =>
   rw[aC (by rfl),if_neg (by decide)]
   by_cases h1:l[i].2.1=[]
   ·rw[aD (by rw[dA]; exact h1),if_pos h1]
   rw[aC (by rw[cC]; simpa using h1),if_neg h1]
   by_cases h2:0<l[i].2.2.1.length
   ·rw[aD (aV (by simp only[len]; omega)),if_pos h2]
   rw[aC (aW (by simp only[len]; omega)),if_neg h2,kH _ (by have:=hs.tx; omega),aB];cases vld l[i].2.1<;>rfl
 unfold q60;dsimp only;rw[aF (aX (by simp only[len]; omega)),bT];simp only[pN hi]
 by_cases h0:i=0
 ·subst h0;rw[aD (by rfl)];refine bBT (fin true) ?_;rfl
 ·obtain⟨k,rfl⟩:∃k,i=k+1:=⟨i-1,by omega⟩
  have hb:w64 (aI ((k+1:Nat):Int) 1)=(k:Int):=oA (by omega)
  have hg:inb (k:Int) (len l)=true:=aX (by simp only[len]; omega)
  rw[aC (cZ (by omega)),mJ (by omega),hb,aF hg,aF hg,pN (show k<l.length by omega)];unfold txE
  by_cases e:l[k].1=[]
  ·rw[aD (by rw[dA]; exact e)];refine bBT (fin _) ?_
   have hc:ieq l[k].2.2.2 l[k+1].2.2.2=txP (some l[k]) l[k+1]:=by
    unfold txP;rw[bA4,rE,decide_eq_true_eq];exact⟨fun h=>⟨e,h⟩,fun h=>h.2⟩
   rw[hc]
  ·rw[aC (by rw[cC]; simpa using e)];refine bBT (fin _) ?_
   have hc:txP (some l[k]) l[k+1]=false:=by
    unfold txP;exact decide_eq_false fun h=>e h.1
   rw[hc]
theorem PJ{p:Option Nd}{n:Nd}(h:sR p n=0):0≤dep n∧dep n≤15:=by
 unfold sR at h
 cases p with
 |none =>
  simp only at h
  split at h
  ·cases h
  ·rename_i k; simp at k; omega
 |some q =>
  simp only at h
  repeat' split at h
  all_goals (first|(cases h; done)|omega)
theorem pD{p:Option Nd}{n:Nd}(h:ndE p n=0):sR p n=0:=by
 unfold ndE at h
 by_cases e:sR p n=0
 ·exact e
 ·rw[if_pos e] at h;exact h
theorem VJ{l:List Nd}(hl:l.length≤4000000) (hs:∀n∈l,smN n):q61 fuelH l=some (oK l):=by
 unfold q61 oK
 by_cases h0:l.length=0
 ·rw[aD (dL (by simp only[len]; omega)),if_pos h0]
 rw[aC (cZ (by simp only[len]; omega)),if_neg h0]
 by_cases h1:8192<l.length
 ·rw[aD (aV (by simp only[len]; omega)),if_pos h1]
 rw[aC (aW (by simp only[len]; omega)),if_neg h1,bT]
 have h:=cW (s:=l) (fun (_:Unit) (j:Nat)=>(j:Int)) (fun _ r=>some (ckE (prv l (l.length-r.length)) r)) (fun j _=>∀q,prv l j=some q→0≤dep q∧dep q≤15)
  (F:=fun v2 (v3:Int) =>
    cnd (ilt v3 (len l))
     (grd (inb v3 (len l))
      (bnd (q56 fuelH (l,v3)) fun v4 =>
      cnd (ine v4 (0:Int))
       (some v4)
       (cnd (sne (aA l (toN v3) zN).1 ([]:Y_))
        (bnd (q59 fuelH (aA l (toN v3) zN)) fun v5 =>
        cnd (ine v5 (0:Int))
         (some v5)
         (v2 (w64 (aE v3 (1:Int)))))
        (bnd (q60 fuelH (l,v3)) fun v6 =>
        cnd (ine v6 (0:Int))
         (some v6)
         (v2 (w64 (aE v3 (1:Int))))))))
     (some (0:Int))) ?_ fuelH 0 () (cX hl _) (bBR _) (fun q hq=>by simp[prv] at hq)
 ·refine bBT h ?_;rw[bA6,bBN];rfl
 ·intro self a j hj hI hself
  by_cases hjl:j<l.length
  ·have hw:w64 (aE (j:Int) 1)=((j+1:Nat):Int):=aQ hjl (by omega)
   have hrl:l.length-(l.drop j).length=j:=by rw[bAL]; omega
   have hrl2:l.length-(l.drop (j+1)).length=j+1:=by rw[bAL]; omega
   have hsm:=hs _ (bAS hjl)
   have hgo:sR (prv l j) l[j]=0→self ((j+1:Nat):Int)=some (ckE (some l[j]) (l.drop (j+1))):=fun hd=>by
    refine bBT (hself () (j+1) (by omega) (by omega) (fun q hq=>?_)) ?_
    ·rw[mJ hjl] at hq;injection hq with hq;rw[←hq];exact PJ hd
    ·rw[hrl2,mJ hjl]
   rw[hrl,aYY hjl];show cnd (ilt (j:Int) (len l)) _ _=some (if ndE (prv l j) l[j]≠0 then ndE (prv l j) l[j] else ckE (some l[j]) (l.drop (j+1)));rw[aD (aV (by simp only[len]; omega)),aF (aX (by simp only[len]; omega)),aHG hl hjl hI,aB,pN hjl,aKU hsm,aKV hl hjl hsm,aB,aB,hw];unfold ndE
   by_cases e1:sR (prv l j) l[j]=0
   ·rw[aC (cN e1),if_neg (show ¬sR (prv l j) l[j]≠0 from fun k=>k e1)]
    by_cases e2:l[j].1=[]
    ·rw[aC (by unfold sne; simpa using e2),if_neg (show ¬l[j].1≠[] from fun k=>k e2)]
     by_cases e3:txE (prv l j) l[j]=0
     ·rw[aC (cN e3),if_neg (fun k=>k e3)];exact hgo e1
     ·rw[aD (cA e3),if_pos e3]
    ·rw[aD (by unfold sne; simpa using e2),if_pos e2]
     by_cases e3:elE l[j]=0
     ·rw[aC (cN e3),if_neg (fun k=>k e3)];exact hgo e1
     ·rw[aD (cA e3),if_pos e3]
   ·rw[aD (cA e1),if_pos e1,if_pos e1]
  ·obtain rfl:j=l.length:=by omega
   show cnd (ilt (l.length:Int) (len l)) _ _=_;rw[aC (aW (by simp only[len]; omega)),bAR];rfl
end
end Go.Mo
end

section
set_option linter.all false
namespace Go.Mo
open Go Go.W Go.Lib
set_option maxRecDepth 100000
noncomputable section
open Classical
theorem aM1:∀(r:List Nd) (p:Option Nd),ckE p r=0→∀j (h:j<r.length),ndE (if j=0 then p else r[j-1]?) r[j]=0
 | [],_,_,j,h=>by simp at h
 |n::r,p,hc,j,h=>by
  have hc':(if ndE p n≠0 then ndE p n else ckE (some n) r)=0:=hc
  by_cases e:ndE p n=0
  ·rw[if_neg (fun k=>k e)] at hc'
   cases j with
   |zero=>exact e
   |succ j =>
    have:=aM1 r (some n) hc' j (by simpa using h)
    rw[if_neg (by omega)]
    cases j with
    |zero=>simpa using this
    |succ j=>simpa using this
  ·rw[if_pos e] at hc';exact absurd hc' e
theorem EW{l:List Nd}(h:oK l=0):0<l.length∧l.length≤8192∧∀j (h:j<l.length),ndE (prv l j) l[j]=0:=by
 unfold oK at h
 by_cases h0:l.length=0
 ·rw[if_pos h0] at h; cases h
 rw[if_neg h0] at h
 by_cases h1:8192<l.length
 ·rw[if_pos h1] at h; cases h
 rw[if_neg h1] at h;exact⟨by omega,by omega,fun j hj=>aM1 l none h j hj⟩
structure Deep (l:List Nd):Prop where
 root:∀h:0<l.length,dep l[0]=0
 low:∀i (h:i+1<l.length),1≤dep l[i+1]∧dep l[i+1]≤dep l[i]+1∧(dep l[i]<dep l[i+1]→l[i].1≠[])
 high:∀i (h:i<l.length),0≤dep l[i]∧dep l[i]≤15
theorem BI{l:List Nd}(h:∀j (h:j<l.length),ndE (prv l j) l[j]=0):Deep l:=by
 refine⟨fun h0=>?_,fun i hi=>?_,fun i hi=>PJ (pD (h i hi))⟩
 ·have:=pD (h 0 h0)
  have:(if dep l[0]≠0 then(8:Int) else 0)=0:=this
  by_cases e:dep l[0]=0
  ·exact e
  ·rw[if_pos e] at this; cases this
 ·have:=pD (h (i+1) hi)
  rw[mJ (by omega)] at this
  have:(if dep l[i+1]<1 then(8:Int) else if(if l[i].1≠[] then dep l[i]+1 else dep l[i])<dep l[i+1] then 8 else if 15<dep l[i+1] then 9 else 0)=0:=this
  by_cases e1:dep l[i+1]<1
  ·rw[if_pos e1] at this; cases this
  rw[if_neg e1] at this
  by_cases e2:(if l[i].1≠[] then dep l[i]+1 else dep l[i])<dep l[i+1]
  ·rw[if_pos e2] at this; cases this
  by_cases e3:l[i].1=[]
  ·rw[if_neg (fun k=>k e3)] at e2;exact⟨by omega,by omega,fun k=>by omega⟩
  ·rw[if_pos e3] at e2;exact⟨by omega,by omega,fun _=>e3⟩
def par(l:List Nd) (i j:Nat):Prop:=i<j∧j<l.length∧(∀m,i<m→m≤j→dep (l.getD i ndz)<dep (l.getD m ndz))∧dep (l.getD j ndz)=dep (l.getD i ndz)+1
theorem gD{l:List Nd}{i:Nat}(h:i<l.length):l.getD i ndz=l[i]:=by simp[List.getD,h]
end
end Go.Mo
end

section
set_option linter.all false
namespace Go.Mo
open Go Go.W Go.Lib
set_option maxRecDepth 100000
noncomputable section
abbrev Ls:=Y_
abbrev Aq:=Y_×Y_
abbrev Tok:=Int×Y_×List Aq×Y_
theorem PL{s:Ls}(hs:s.length≤4000000){i:Nat}(hi:i≤s.length):eQ fuelH (s,(i:Int))=some (dJ (s.drop i),((i+(dJ (s.drop i)).length:Nat):Int)):=by
 unfold eQ;dsimp only
 by_cases hl:i<s.length
 ·have g:aA s (toN (i:Int)) (0:UInt8)=s[i]:=bB hl
  rw[aC (jF (by simp only[len]; omega)),aF (aX (by simp only[len]; omega)),g,IN,aB,aYY hl,yE]
  by_cases h:oF s[i]=true
  ·rw[h,aC (by rfl),if_pos rfl,bT];refine bBT (aG9 hs nE (fun x=>q58 fuelH x) (fun x=>aAA fuelH x) _ hi) ?_
   have ht:=kR (P:=nE) (s.drop (i+1))
   rw[bAL] at ht;rw[aYY hl,aZZ,if_pos (aKR h)]
   have hin:in3 (i:Int) ((i+(s[i]::(s.drop (i+1)).takeWhile nE).length:Nat):Int) (len s)=true:=aMZ (by simp only[len,bAH]; omega)
   rw[aF hin];simp only[cJ,bH,toN,bAF];rw[List.drop_take,show i+(s[i]::(s.drop (i+1)).takeWhile nE).length-i=(s[i]::(s.drop (i+1)).takeWhile nE).length by omega,aYY hl,bAH,aZV,BG]
  ·have h:oF s[i]=false:=by simpa using h
   rw[h,aD (by rfl),if_neg (by decide)];rfl
 ·obtain rfl:i=s.length:=by omega
  rw[aD (gP (by simp only[len]; omega)),bAR];rfl
theorem sE{s:Ls}(hs:s.length≤4000000){i:Nat}(hi:i≤s.length):q77 fuelH (s,(i:Int))=some ((i+((s.drop i).takeWhile wsB).length:Nat):Int):=by
 unfold q77;dsimp only;rw[bT];exact aG9 hs wsB (fun x=>q76 fuelH x) (fun x=>aG1 fuelH x) _ hi
def skp(t:Ls):Ls:=t.drop (t.takeWhile wsB).length
theorem lD(t:Ls):(skp t).length≤t.length:=by unfold skp; rw[bAL]; omega
theorem PM{s:Ls}{i:Nat}:skp (s.drop i)=s.drop (i+((s.drop i).takeWhile wsB).length):=by unfold skp; rw[bA5]
def PN(q:UInt8) (t:Ls):Option (Ls×Ls):=match t.drop (t.takeWhile fun b=>b != q&&b != 60).length with
 | []=>none
 |c::r=>if c=q then some (t.takeWhile fun b=>b != q&&b != 60,r) else none
def iZ(t:Ls):Option (Aq×Ls) :=
 if dJ t=[] then none else match skp (t.drop (dJ t).length) with
 | []=>none
 |b::r2=>if b=61 then(match skp r2 with
  | []=>none
  |q::r4=>if q=34∨q=39 then(match PN q r4 with
   |some (v,r5)=>some ((dJ t,v),r5)
   |none=>none) else none) else none
theorem EX(t:Ls):(dJ t).length≤t.length:=by
 match t with
 | []=>exact bBQ _
 |b::l =>
  rw[yE]
  have:=kR (P:=nE) l
  split
  ·simp; omega
  ·simp
theorem VK{q:UInt8}{t v r:Ls}(h:PN q t=some (v,r)):r.length<t.length∧v.length+1+r.length=t.length:=by
 unfold PN at h
 have hl:=congrArg List.length (PE (fun b=>b != q&&b != 60) t)
 rw[aZ0] at hl
 split at h
 ·cases h
 ·rename_i c r' hc
  split at h
  ·injection h with h;injection h with h1 h2;rw[hc,bAH] at hl;subst h1;subst h2;exact⟨by omega,by omega⟩
  ·cases h
theorem oL{t r:Ls}{a:Aq}(h:iZ t=some (a,r)):r.length<t.length:=by
 unfold iZ at h
 split at h
 ·cases h
 split at h
 ·cases h
 rename_i b r2 h2
 split at h
 ·split at h
  ·cases h
  rename_i q r4 h4
  split at h
  ·split at h
   ·rename_i v r5 h5;injection h with h;injection h with _ h;subst h
    have e1:=VK h5
    have e2:=lD r2
    have e3:=lD (t.drop (dJ t).length)
    rw[h4,bAH] at e2;rw[h2,bAH,bAL] at e3;omega
   ·cases h
  ·cases h
 ·cases h
theorem BJ(t:Ls):∃u,u++skp t=t:=⟨_,aZE _ t⟩
theorem aHH{q:UInt8}{t v r:Ls}(h:PN q t=some (v,r)):t=v++q::r:=by
 unfold PN at h
 have hl:=PE (fun b=>b != q&&b != 60) t
 split at h
 ·cases h
 ·rename_i c r' hc
  split at h
  ·rename_i e;injection h with h;injection h with h1 h2;rw[hc,h1,h2,e] at hl;exact hl.symm
  ·cases h
theorem IS{t r:Ls}{a:Aq}(h:iZ t=some (a,r)):∃u,u++r=t:=by
 unfold iZ at h
 split at h
 ·cases h
 split at h
 ·cases h
 rename_i b r2 h2
 split at h
 ·split at h
  ·cases h
  rename_i q r4 h4
  split at h
  ·split at h
   ·rename_i v r5 h5;injection h with h;injection h with _ h;subst h
    have e1:=aHH h5
    obtain⟨u2,e2⟩:=BJ r2;obtain⟨u3,e3⟩:=BJ (t.drop (dJ t).length);refine⟨t.take (dJ t).length++(u3++(b::(u2++(q::(v++[q]))))),?_⟩
    conv=>rhs; rw[←aZE (dJ t).length t,←e3,h2,←e2,h4,e1]
    simp
   ·cases h
  ·cases h
 ·cases h
def aHI(s:Ls):Option (Aq×Ls)→Aq×Int×Bool
 |some (a,r)=>(a,((s.length-r.length:Nat):Int),true)
 |none=>((([]:Y_),([]:Y_)),(0:Int),false)
theorem EY(s:Ls) (a:Aq) (r:Ls):aHI s (some (a,r))=(a,((s.length-r.length:Nat):Int),true):=rfl
theorem aHJ{R:Type}{s:Ls}(hs:s.length≤4000000){k2:Nat}(h4:k2<s.length) (K:Int→Option R) :
  bD (fun (v6:Int→Option R) (v7:Int) =>
       cnd (ilt v7 (len s))
        (grd (inb v7 (len s))
         (grd (inb (k2:Int) (len s))
          (cnd (ine (n8 (aA s (toN v7) (0:UInt8))) (n8 s[k2]))
           (grd (inb v7 (len s))
            (cnd (ine (n8 (aA s (toN v7) (0:UInt8))) (n8 (60:UInt8)))
             (v6 (w64 (aE v7 (1:Int))))
             (K v7)))
           (K v7))))
        (K v7)) fuelH ((k2+1:Nat):Int)=K ((k2+1+((s.drop (k2+1)).takeWhile fun b=>b != s[k2]&&b != 60).length:Nat):Int):=by
 have hin2:inb (k2:Int) (len s)=true:=aX (by simp only[len]; omega)
 refine aQN (s:=s) (fun b=>b != s[k2]&&b != 60) K (fun self k hk=>?_) (fun self=>?_) fuelH (k2+1) (cX hs _) (by omega)
 ·have hink:inb (k:Int) (len s)=true:=aX (by simp only[len]; omega)
  rw[aD (aV (by simp only[len]; omega)),aF hink,aF hin2,bB hk,aQ hk (by omega),aF hink]
  by_cases e1:s[k]=s[k2]
  ·rw[aC (cN (by rw[e1])),if_neg (by simp[e1])]
  ·rw[aD (cA (fun q=>e1 (fJ q)))]
   by_cases e2:s[k]=60
   ·rw[aC (cN (by rw[e2])),if_neg (by simp[e2])]
   ·rw[aD (cA (fun q=>e2 (fJ q))),if_pos (by simp[e1,e2])]
 ·rw[aC (aW (by simp only[len]; omega))]
theorem VL{s:Ls}(hs:s.length≤3999999){i:Nat}(hi:i≤s.length):q78 fuelH (s,(i:Int))=some (aHI s (iZ (s.drop i))):=by
 have hs4:s.length≤4000000:=by omega
 unfold q78 iZ;dsimp only;rw[PL hs4 hi,aB]
 have hnl:=EX (s.drop i)
 rw[bAL] at hnl
 by_cases h1:dJ (s.drop i)=[]
 ·rw[aD (by rw[dA]; exact h1),if_pos h1];rfl
 rw[aC (by rw[cC]; simpa using h1),if_neg h1];dsimp only;rw[sE hs4 (show i+(dJ (s.drop i)).length≤s.length by omega),aB,bA5,PM]
 have ht1:=kR (P:=wsB) (s.drop (i+(dJ (s.drop i)).length))
 rw[bAL] at ht1;generalize hk1:i+(dJ (s.drop i)).length+((s.drop (i+(dJ (s.drop i)).length)).takeWhile wsB).length=k1 at *
 have hk1l:k1≤s.length:=by omega
 by_cases h2:k1<s.length
 ·have g:aA s (toN (k1:Int)) (0:UInt8)=s[k1]:=bB h2
  rw[aC (jF (by simp only[len]; omega)),aF (aX (by simp only[len]; omega)),g,aYY h2];dsimp only
  by_cases h3:s[k1]=61
  ·rw[aC (cN (by rw[h3])),if_pos h3,aQ h2 (by omega),sE hs4 (show k1+1≤s.length by omega),aB,bT,PM]
   have ht2:=kR (P:=wsB) (s.drop (k1+1))
   rw[bAL] at ht2;generalize hk2:k1+1+((s.drop (k1+1)).takeWhile wsB).length=k2 at *
   by_cases h4:k2<s.length
   ·have g2:aA s (toN (k2:Int)) (0:UInt8)=s[k2]:=bB h4
    have hin2:inb (k2:Int) (len s)=true:=aX (by simp only[len]; omega)
    rw[aC (jF (by simp only[len]; omega)),aF hin2,aYY h4];dsimp only;rw[bT,aQ h4 (by omega)];simp only[g2]
    -- the value
    have hv:(bD (fun v6 (v7:Int) =>
       cnd (ilt v7 (len s))
        (grd (inb v7 (len s))
         (grd (inb (k2:Int) (len s))
          (cnd (ine (n8 (aA s (toN v7) (0:UInt8))) (n8 s[k2]))
           (grd (inb v7 (len s))
            (cnd (ine (n8 (aA s (toN v7) (0:UInt8))) (n8 (60:UInt8)))
             (v6 (w64 (aE v7 (1:Int))))
             ((fun (v4:Int) =>
       cnd (ile (len s) v4)
        (some ((([]:Y_),([]:Y_)),(0:Int),false))
        (grd (inb v4 (len s))
         (grd (inb (k2:Int) (len s))
          (cnd (ine (n8 (aA s (toN v4) (0:UInt8))) (n8 s[k2]))
           (some ((([]:Y_),([]:Y_)),(0:Int),false))
           (grd (in3 ((k2+1:Nat):Int) v4 (len s))
            (some ((dJ (s.drop i),cJ (toN ((k2+1:Nat):Int)) (bH (toN v4) s)),w64 (aE v4 (1:Int)),true))))))) v7)))
           ((fun (v4:Int) =>
       cnd (ile (len s) v4)
        (some ((([]:Y_),([]:Y_)),(0:Int),false))
        (grd (inb v4 (len s))
         (grd (inb (k2:Int) (len s))
          (cnd (ine (n8 (aA s (toN v4) (0:UInt8))) (n8 s[k2]))
           (some ((([]:Y_),([]:Y_)),(0:Int),false))
           (grd (in3 ((k2+1:Nat):Int) v4 (len s))
            (some ((dJ (s.drop i),cJ (toN ((k2+1:Nat):Int)) (bH (toN v4) s)),w64 (aE v4 (1:Int)),true))))))) v7))))
        ((fun (v4:Int) =>
       cnd (ile (len s) v4)
        (some ((([]:Y_),([]:Y_)),(0:Int),false))
        (grd (inb v4 (len s))
         (grd (inb (k2:Int) (len s))
          (cnd (ine (n8 (aA s (toN v4) (0:UInt8))) (n8 s[k2]))
           (some ((([]:Y_),([]:Y_)),(0:Int),false))
           (grd (in3 ((k2+1:Nat):Int) v4 (len s))
            (some ((dJ (s.drop i),cJ (toN ((k2+1:Nat):Int)) (bH (toN v4) s)),w64 (aE v4 (1:Int)),true))))))) v7)) fuelH ((k2+1:Nat):Int))=some (aHI s (match PN s[k2] (s.drop (k2+1)) with
   |some (v,r5)=>some ((dJ (s.drop i),v),r5)
   |none=>none)):=by
     refine bBT (aHJ hs4 h4 _) ?_
     have htl:=kR (P:=fun b=>b != s[k2]&&b != 60) (s.drop (k2+1))
     rw[bAL] at htl;unfold PN
     have hd:(s.drop (k2+1)).drop ((s.drop (k2+1)).takeWhile fun b=>b != s[k2]&&b != 60).length=s.drop (k2+1+((s.drop (k2+1)).takeWhile fun b=>b != s[k2]&&b != 60).length):=bA5
     have htk:=BG (fun b=>b != s[k2]&&b != 60) (s.drop (k2+1))
     rw[hd];generalize (s.drop (k2+1)).takeWhile (fun b=>b != s[k2]&&b != 60)=v at *
     by_cases h5:k2+1+v.length<s.length
     ·rw[aC (jF (by simp only[len]; omega)),aF (aX (by simp only[len]; omega)),aF hin2,bB h5,aYY h5];dsimp only
      by_cases e:s[k2+1+v.length]=s[k2]
      ·rw[aC (cN (by rw[e])),aF (aMZ (by simp only[len]; omega)),if_pos e,aQ h5 (by omega)]
       have e1:cJ (toN ((k2+1:Nat):Int)) (bH (toN ((k2+1+v.length:Nat):Int)) s)=v:=by
        simp only[cJ,bH,toN,bAF];rw[List.drop_take,show k2+1+v.length-(k2+1)=v.length by omega,htk]
       dsimp only;rw[e1,EY,bAL]
       have e2:s.length-(s.length-(k2+1+v.length+1))=k2+1+v.length+1:=by omega
       rw[e2]
      ·rw[aD (cA (fun q=>e (fJ q))),if_neg e];rfl
     ·have e:k2+1+v.length=s.length:=by omega
      rw[aD (gP (by simp only[len]; omega)),e,bAR];rfl
    by_cases q1:s[k2]=34
    ·rw[aC (cN (by rw[q1])),if_pos (Or.inl q1)];exact hv
    ·rw[aD (cA (fun q=>q1 (fJ q))),aF hin2]
     by_cases q2:s[k2]=39
     ·rw[aC (cN (by rw[q2])),if_pos (Or.inr q2)];exact hv
     ·rw[aD (cA (fun q=>q2 (fJ q))),if_neg (by simp[q1,q2])];rfl
   ·have e:k2=s.length:=by omega
    rw[aD (gP (by simp only[len]; omega)),e,bAR];rfl
  ·rw[aD (cA (fun q=>h3 (fJ q))),if_neg h3];rfl
 ·have e:k1=s.length:=by omega
  rw[aD (gP (by simp only[len]; omega)),e,bAR];rfl
def yG:Nat→Ls→List Aq→Option (Int×List Aq×Ls)
 | 0,_,_=>none
 |n+1,t,l=>match skp t with
  | []=>none
  |b::r=>if b=62 then some (1,l,r) else if b=47∧r.take 1=[62] then some (3,l,r.drop 1) else if(b::r).length=t.length then none else match iZ (b::r) with
   |none=>none
   |some (a,r2)=>yG n r2 (l++[a])
theorem IT:∀(n m:Nat) (t:Ls) (l:List Aq),t.length<n→t.length<m→yG n t l=yG m t l
 | 0,_,_,_,h,_=>by omega
 |_+1,0,_,_,_,h=>by omega
 |n+1,m+1,t,l,h1,h2=>by
  have hk:=lD t
  unfold yG;generalize skp t=u at *
  match u with
  | []=>rfl
  |b::r =>
   dsimp only
   split
   ·rfl
   split
   ·rfl
   split
   ·rfl
   cases ha:iZ (b::r) with
   |none=>rfl
   |some p =>
    obtain⟨a,r2⟩:=p
    have:=oL ha
    exact IT n m r2 (l++[a]) (by omega) (by omega)
def VM(t:Ls) (l:List Aq):Option (Int×List Aq×Ls):=yG (t.length+1) t l
theorem yH(t:Ls) (l:List Aq):VM t l=match skp t with
  | []=>none
  |b::r=>if b=62 then some (1,l,r) else if b=47∧r.take 1=[62] then some (3,l,r.drop 1) else if(b::r).length=t.length then none else match iZ (b::r) with
   |none=>none
   |some (a,r2)=>VM r2 (l++[a]):=by
 have hk:=lD t
 show yG (t.length+1) t l=_;unfold yG;generalize skp t=u at *
 match u with
 | []=>rfl
 |b::r =>
  dsimp only
  split
  ·rfl
  split
  ·rfl
  split
  ·rfl
  cases ha:iZ (b::r) with
  |none=>rfl
  |some p =>
   obtain⟨a,r2⟩:=p
   have:=oL ha
   exact IT _ _ r2 (l++[a]) (by omega) (by omega)
theorem EZ:∀(n:Nat) (t:Ls) (l:List Aq){k:Int}{m:List Aq}{r:Ls},yG n t l=some (k,m,r)→r.length<t.length∧m.length≤l.length+t.length∧(k=1∨k=3)
 | 0,_,_,_,_,_,h=>by cases h
 |n+1,t,l,k,m,r,h=>by
  have hk:=lD t
  unfold yG at h;generalize skp t=u at *
  match u with
  | []=>cases h
  |b::q =>
   dsimp only at h;rw[bAH] at hk
   split at h
   ·injection h with h;injection h with h1 h;injection h with h2 h3;subst h1 h2 h3;exact⟨by omega,by omega,.inl rfl⟩
   split at h
   ·injection h with h;injection h with h1 h;injection h with h2 h3;subst h1 h2 h3;exact⟨by rw[bAL]; omega,by omega,.inr rfl⟩
   split at h
   ·cases h
   cases ha:iZ (b::q) with
   |none=>rw[ha] at h; cases h
   |some p =>
    obtain⟨a,r2⟩:=p;rw[ha] at h
    have h1:=oL ha
    have h2:=EZ n r2 (l++[a]) h
    rw[aZ0,bAH,bAZ] at h2;rw[bAH] at h1;exact⟨by omega,by omega,h2.2.2⟩
def aKW(s name:Ls):Option (Int×List Aq×Ls)→Tok×Int×Bool
 |some (k,l,r)=>((k,name,l,[]),((s.length-r.length:Nat):Int),true)
 |none=>(((0:Int),([]:Y_),([]:List Aq),([]:Y_)),(0:Int),false)
theorem IU(s name:Ls) (k:Int) (l:List Aq) (r:Ls):aKW s name (some (k,l,r))=((k,name,l,[]),((s.length-r.length:Nat):Int),true):=rfl
theorem aHK{s:Ls}(hs:s.length≤3999999) (name:Ls){i:Nat}(hi:i≤s.length) :
  bD (fun v1 (v2:Int×Int×Y_×(List (Y_×Y_))×Y_) =>
   bnd (q77 fuelH (s,v2.1)) fun v3 =>
   jn (fun (v4:Bool) =>
    cnd v4
     (some (v2.2,w64 (aE v3 (1:Int)),true))
     (jn (fun (v5:Bool) =>
      cnd v5
       (some (((3:Int),v2.2.2),w64 (aE v3 (2:Int)),true))
       (cnd (ieq v3 v2.1)
        (some (((0:Int),([]:Y_),([]:List (Y_×Y_)),([]:Y_)),(0:Int),false))
        (bnd (q78 fuelH (s,v3)) fun v6 =>
        cnd (bO v6.2.2)
         (some (((0:Int),([]:Y_),([]:List (Y_×Y_)),([]:Y_)),(0:Int),false))
         (grd (cH (aE (len v2.2.2.2.1) (len ([v6.1]:List (Y_×Y_)))) 32)
          (v1 (v6.2.1,v2.2.1,v2.2.2.1,aU v2.2.2.2.1 ([v6.1]:List (Y_×Y_)),v2.2.2.2.2))))))
     fun v7 =>
     cnd (ilt (w64 (aE v3 (1:Int))) (len s))
      (grd (inb v3 (len s))
       (cnd (ieq (n8 (aA s (toN v3) (0:UInt8))) (n8 (47:UInt8)))
        (grd (inb (w64 (aE v3 (1:Int))) (len s))
         (v7 (ieq (n8 (aA s (toN (w64 (aE v3 (1:Int)))) (0:UInt8))) (n8 (62:UInt8)))))
        (v7 false)))
      (v7 false)))
   fun v8 =>
   cnd (ilt v3 (len s))
    (grd (inb v3 (len s))
     (v8 (ieq (n8 (aA s (toN v3) (0:UInt8))) (n8 (62:UInt8)))))
    (v8 false)) fuelH ((i:Int),(1:Int),name,([]:List (Y_×Y_)),([]:Y_))=some (aKW s name (VM (s.drop i) [])):=by
 have hs4:s.length≤4000000:=by omega
 refine cW (s:=s) (fun (l:List Aq) (i:Nat)=>((i:Int),((1:Int),(name,(l,([]:Y_)))))) (fun l r=>some (aKW s name (VM r l))) (fun i l=>l.length≤i) ?_ fuelH i [] (cX hs4 _) hi (bBR _);intro self l i hi hI hself;dsimp only
 have hsk:=PM (s:=s) (i:=i)
 rw[sE hs4 hi,aB,bT,yH]
 have htl:=kR (P:=wsB) (s.drop i)
 rw[bAL] at htl;rw[hsk];generalize hk:i+((s.drop i).takeWhile wsB).length=k at *
 by_cases hkl:k<s.length
 ·have g:aA s (toN (k:Int)) (0:UInt8)=s[k]:=bB hkl
  have hin:inb (k:Int) (len s)=true:=aX (by simp only[len]; omega)
  have hw:w64 (aE (k:Int) 1)=((k+1:Nat):Int):=aQ hkl (by omega)
  rw[aD (aV (by simp only[len]; omega)),aF hin,g,aYY hkl,hw];dsimp only
  have hrl:(s[k]::s.drop (k+1)).length=s.length-k:=by rw[bAH,bAL]; omega
  by_cases h62:s[k]=62
  ·rw[aD (dL (by rw[h62])),if_pos h62];rw[IU,bAL,show s.length-(s.length-(k+1))=k+1 by omega]
  ·rw[aC (cZ (fun q=>h62 (fJ q))),if_neg h62,bT]
   -- an attribute
   have fin:∀b:Bool,b=false→¬(s[k]=47∧(s.drop (k+1)).take 1=[62])→(cnd b
       (some (((3:Int),name,l,([]:Y_)),w64 (aE (k:Int) (2:Int)),true))
       (cnd (ieq (k:Int) (i:Int))
        (some (((0:Int),([]:Y_),([]:List (Y_×Y_)),([]:Y_)),(0:Int),false))
        (bnd (q78 fuelH (s,(k:Int))) fun v6 =>
        cnd (bO v6.2.2)
         (some (((0:Int),([]:Y_),([]:List (Y_×Y_)),([]:Y_)),(0:Int),false))
         (grd (cH (aE (len l) (len ([v6.1]:List (Y_×Y_)))) 32)
          (self (v6.2.1,(1:Int),name,aU l ([v6.1]:List (Y_×Y_)),([]:Y_))))))) =
     some (aKW s name (if s[k]=47∧(s.drop (k+1)).take 1=[62] then some (3,l,(s.drop (k+1)).drop 1) else if(s[k]::s.drop (k+1)).length=(s.drop i).length then none else match iZ (s[k]::s.drop (k+1)) with
      |none=>none
      |some (a,r2)=>VM r2 (l++[a]))):=by
    intro b hb hno;subst hb;rw[aC (by rfl),if_neg hno,hrl,bAL]
    by_cases hki:k=i
    ·rw[aD (dL (by omega)),if_pos (by omega)];rfl
    ·rw[aC (cZ (by omega)),if_neg (by omega),VL hs (by omega),aB,←aYY hkl]
     cases ha:iZ (s.drop k) with
     |none=>rfl
     |some p =>
      obtain⟨a,r2⟩:=p
      have hal:=oL ha
      rw[bAL] at hal;rw[EY,aC (by rfl),aF (cV (by simp only[len,aE,bAH,bAZ]; omega))];dsimp only
      have hsuf:r2=s.drop (s.length-r2.length):=by
       have h1:=IS ha
       obtain⟨u,hu⟩:=h1;obtain⟨v,hv⟩:∃v,s=v++r2:=⟨s.take k++u,by rw[bAA,hu,aZE]⟩
       conv=>rhs; rw[hv]
       rw[aZ0,show v.length+r2.length-r2.length=v.length by omega,List.drop_left]
      have hz:=hself (l++[a]) (s.length-r2.length) (by omega) (by omega) (by simp; omega)
      rw[←hsuf] at hz;exact hz
   have hd1:(s.drop (k+1)).take 1=if h:k+1<s.length then [s[k+1]] else []:=by
    by_cases h:k+1<s.length
    ·rw[dif_pos h,aYY h];rfl
    ·rw[dif_neg h,aY7 (by omega)];rfl
   by_cases h1:k+1<s.length
   ·have g1:aA s (toN ((k+1:Nat):Int)) (0:UInt8)=s[k+1]:=bB h1
    rw[dif_pos h1] at hd1;rw[aD (aV (by simp only[len]; omega)),aF hin]
    by_cases h47:s[k]=47
    ·rw[aD (dL (by rw[h47])),aF (aX (by simp only[len]; omega)),g1]
     by_cases h2:s[k+1]=62
     ·have hw2:w64 (aE (k:Int) 2)=((k+2:Nat):Int):=by
       simp only[aE];rw[bS (by omega)];omega
      have e62:ieq (n8 s[k+1]) (n8 62)=true:=dL (by rw[h2])
      rw[e62];dsimp only;rw[aD (by rfl),if_pos ⟨h47,by rw[hd1,h2]⟩,hw2];rw[IU,bA5,bAL,show s.length-(s.length-(k+1+1))=k+2 by omega]
     ·refine fin (ieq (n8 s[k+1]) (n8 62)) (cZ (fun q=>h2 (fJ q))) (fun q=>h2 ?_)
      have:=q.2
      rw[hd1] at this;injection this
    ·rw[aC (cZ (fun q=>h47 (fJ q)))];exact fin false rfl (fun q=>h47 q.1)
   ·rw[aC (aW (by simp only[len]; omega))];refine fin false rfl (fun q=>?_)
    have:=q.2
    rw[hd1,dif_neg h1] at this;cases this
 ·have e:k=s.length:=by omega
  rw[aC (aW (by simp only[len]; omega))];dsimp only;rw[aC (by rfl),bT]
  have hw:¬(w64 (aE (k:Int) 1)<len s):=by
   simp only[aE,len];rw[bS (by omega)];omega
  rw[aC (aW hw)];dsimp only;rw[aC (by rfl),e,bAR]
  by_cases hki:k=i
  ·rw[aD (dL (by omega))];rfl
  ·have ha:=VL hs (bBQ s.length)
   rw[bAR] at ha;rw[aC (cZ (by omega)),ha];rfl
def hM(b:UInt8):Bool:=b != 60
def pO(s head tail:Ls):Option (Tok×Ls):=if Lib.index (s.drop head.length) tail<0 then none else some ((4,[],[],head),s.drop (head.length+(Lib.index (s.drop head.length) tail).toNat+tail.length))
def P8(s:Ls):Option (Tok×Ls):=if dJ (s.drop 2)=[] then none else match skp ((s.drop 2).drop (dJ (s.drop 2)).length) with
 | []=>none
 |b::r=>if b=62 then some ((2,dJ (s.drop 2),[],[]),r) else none
def GD(s:Ls):Option (Tok×Ls):=if dJ (s.drop 1)=[] then none else match VM ((s.drop 1).drop (dJ (s.drop 1)).length) [] with
 |none=>none
 |some (k,l,r)=>some ((k,dJ (s.drop 1),l,[]),r)
def kJ(s:Ls):Option (Tok×Ls):=match s with
 | []=>none
 |b::_=>if b=60 then(if s.take 2=[60,63] then pO s [60,63] [63,62] else if s.take 4=[60,33,45,45] then pO s [60,33,45,45] [45,45,62] else if s.take 2=[60,47] then P8 s else GD s)
  else some ((0,[],[],s.takeWhile hM),s.drop (s.takeWhile hM).length)
theorem gE(b:UInt8) (t:Ls):kJ (b::t)=if b=60 then(if(b::t).take 2=[60,63] then pO (b::t) [60,63] [63,62] else if(b::t).take 4=[60,33,45,45] then pO (b::t) [60,33,45,45] [45,45,62] else if(b::t).take 2=[60,47] then P8 (b::t) else GD (b::t))
  else some ((0,[],[],(b::t).takeWhile hM),(b::t).drop ((b::t).takeWhile hM).length):=rfl
def aHL(s:Ls):Option (Tok×Ls)→Prop
 |some (t,r)=>eR fuelH s=some (t,((s.length-r.length:Nat):Int),true)
 |none=>∃t n,eR fuelH s=some (t,n,false)
theorem aKX{s:Ls}(hs:s.length≤3999999) (h1:1≤s.length):(∀t r,GD s=some (t,r)→q79 fuelH s=some (t,((s.length-r.length:Nat):Int),true))∧(GD s=none→q79 fuelH s=some ((0,[],[],[]),0,false)):=by
 have hw:=PL (s:=s) (by omega) h1
 have hnl:=EX (s.drop 1)
 rw[bAL] at hnl;unfold q79 GD
 have hw':eQ fuelH (s,(1:Int))=some (dJ (s.drop 1),((1+(dJ (s.drop 1)).length:Nat):Int)):=hw
 rw[hw',aB]
 by_cases h:dJ (s.drop 1)=[]
 ·rw[aD (by rw[dA]; exact h),if_pos h];exact⟨fun _ _ k=>(by cases k),fun _=>rfl⟩
 ·rw[aC (by rw[cC]; simpa using h),if_neg h]
  have ht:=aHK hs (dJ (s.drop 1)) (i:=1+(dJ (s.drop 1)).length) (by omega)
  rw[ht,bA5]
  cases hq:VM (s.drop (1+(dJ (s.drop 1)).length)) [] with
  |none=>exact⟨fun _ _ k=>(by cases k),fun _=>rfl⟩
  |some p =>
   obtain⟨k,l,r⟩:=p;refine⟨fun t r' e=>?_,fun e=>(by cases e)⟩;dsimp only at e;injection e with e;injection e with e1 e2;subst e1;subst e2;rfl
theorem ixb(c:UInt8) (s:Ls):Lib.indexByte s c=if(s.takeWhile fun b=>b != c).length=s.length then -1 else((s.takeWhile fun b=>b != c).length:Int):=by
 induction s with
 |nil=>rfl
 |cons b s ih =>
  have ht:=kR (P:=fun b=>b != c) s
  unfold Lib.indexByte;rw[aZZ]
  by_cases h:b=c
  ·subst h;simp
  ·have hb:(b==c)=false:=by simpa using h
   have hn:(b != c)=true:=by simpa using h
   rw[hb,if_neg (by decide),if_pos hn,ih]
   by_cases e:(s.takeWhile fun b=>b != c).length=s.length
   ·rw[if_pos e,if_pos (by decide),if_pos (by rw[bAH,bAH,e])]
   ·rw[if_neg e,if_neg (by simp),if_neg (by rw[bAH,bAH]; omega),bAH];omega
theorem aQQ{s:Ls}(hs:s.length≤4000000) (sub:Ls):strings_Index fuelH (s,sub)=some (Lib.index s sub):=by
 unfold strings_Index iD;rw[aF (decide_eq_true (by show s.length<_; omega))]
theorem aXR(N:Nat) (x:Ls):eR (N+5) x=grd (inb (0:Int) (len x)) (cnd (ine (n8 (aA x (toN (0:Int)) (0:UInt8))) (n8 (60:UInt8)))
  (bnd (q73 (N+5) (x,(60:UInt8))) fun v0 =>
  cnd (ilt v0 (0:Int))
   (grd (in2 (len x) (len x))
    (some (((0:Int),([]:Y_),([]:List (Y_×Y_)),bH (toN (len x)) x),len x,true)))
   (grd (in2 v0 (len x))
    (some (((0:Int),([]:Y_),([]:List (Y_×Y_)),bH (toN v0) x),v0,true))))
  (jn (fun (v1:Unit) =>
   bnd (q75 (N+5) (x,([60,47]:Y_))) fun v2 =>
   cnd v2
    (bnd (eQ (N+5) (x,(2:Int))) fun v3 =>
    bnd (q77 (N+5) (x,v3.2)) fun v4 =>
    cnd (seq v3.1 ([]:Y_))
     (some (((0:Int),([]:Y_),([]:List (Y_×Y_)),([]:Y_)),(0:Int),false))
     (cnd (ile (len x) v4)
      (some (((0:Int),([]:Y_),([]:List (Y_×Y_)),([]:Y_)),(0:Int),false))
      (grd (inb v4 (len x))
       (cnd (ine (n8 (aA x (toN v4) (0:UInt8))) (n8 (62:UInt8)))
        (some (((0:Int),([]:Y_),([]:List (Y_×Y_)),([]:Y_)),(0:Int),false))
        (some (((2:Int),v3.1,([]:List (Y_×Y_)),([]:Y_)),w64 (aE v4 (1:Int)),true))))))
    (bnd (q79 (N+5) x) fun v5 =>
    some v5))
  fun v6=>bnd (q75 (N+5) (x,([60,63]:Y_))) fun b=>cnd b
   (grd (in2 (2:Int) (len x)) (bnd (strings_Index (N+5) (cJ (toN (2:Int)) x,([63,62]:Y_))) fun v10=>some (((4:Int),([]:Y_),([]:List (Y_×Y_)),([60,63]:Y_)),w64 (aE (w64 (aE (2:Int) v10)) (2:Int)),ile (0:Int) v10)))
   (bnd (q75 (N+5) (x,([60,33,45,45]:Y_))) fun b=>cnd b
    (grd (in2 (4:Int) (len x)) (bnd (strings_Index (N+5) (cJ (toN (4:Int)) x,([45,45,62]:Y_))) fun v10=>some (((4:Int),([]:Y_),([]:List (Y_×Y_)),([60,33,45,45]:Y_)),w64 (aE (w64 (aE (4:Int) v10)) (3:Int)),ile (0:Int) v10)))
    (v6 ())))):=by kernel_rfl
theorem aAF{s head tail:Ls}(hs:s.length≤3999999) (hp:s.take head.length=head) (hh:head.length≤4) (ht:tail.length≤3) (ht1:1≤tail.length)
  (he:eR fuelH s=grd (in2 (head.length:Int) (len s)) (bnd (strings_Index fuelH (cJ (toN (head.length:Int)) s,tail)) fun v10=>some (((4:Int),([]:Y_),([]:List Aq),head),w64 (aE (w64 (aE (head.length:Int) v10)) (tail.length:Int)),ile (0:Int) v10))):aHL s (pO s head tail):=by
 have hl:head.length≤s.length:=by
  have:=congrArg List.length hp
  rw[bAK] at this;omega
 have hd:cJ (toN (head.length:Int)) s=s.drop head.length:=by simp[cJ,toN]
 have hr:=Lib.index_room (s.drop head.length) tail
 have hg:=Lib.index_ge (s.drop head.length) tail
 rw[aF (jG (by simp only[len]; omega)),hd,aQQ (by rw[bAL]; omega),aB] at he;unfold pO
 by_cases h:Lib.index (s.drop head.length) tail<0
 ·rw[if_pos h];exact⟨_,_,by rw[he,jF (by omega)]⟩
 ·rw[if_neg h];show eR fuelH s=_;obtain⟨n,hn⟩:∃n:Nat,Lib.index (s.drop head.length) tail=(n:Int):=⟨(Lib.index (s.drop head.length) tail).toNat,by omega⟩;rw[bAL] at hr;rw[he,hn,gP (by omega),bAF,bAL]
  have e1:w64 (aE (w64 (aE (head.length:Int) (n:Int))) (tail.length:Int))=((head.length+n+tail.length:Nat):Int):=by
   simp only[aE];rw[bS (x:=(head.length:Int)+(n:Int)) (by omega),bS (by omega)];omega
  rw[e1]
  have:s.length-(s.length-(head.length+n+tail.length))=head.length+n+tail.length:=by omega
  rw[this]
theorem aKY{s:Ls}(hs:s.length≤3999999) (h0:s≠[]):aHL s (kJ s):=by
 have hN:eR fuelH s=_:=aXR (mU+4995) s
 match s,h0 with
 |b::t,_ =>
  have hin:inb (0:Int) (len (b::t))=true:=aX (by simp only[len,bAH]; omega)
  have hg:aA (b::t) (toN (0:Int)) (0:UInt8)=b:=rfl
  rw[aF hin,hg] at hN;rw[gE]
  by_cases hb:b=60
  ·rw[if_pos hb];rw[aC (cN (by rw[hb])),bT] at hN
   have h1:q75 (mU+4995+5) (b::t,([60,63]:Y_))=some (decide ((b::t).take 2=[60,63])):=aaIO _ _ _
   have h2:q75 (mU+4995+5) (b::t,([60,33,45,45]:Y_))=some (decide ((b::t).take 4=[60,33,45,45])):=aaIO _ _ _
   have h3:q75 (mU+4995+5) (b::t,([60,47]:Y_))=some (decide ((b::t).take 2=[60,47])):=aaIO _ _ _
   rw[h1,aB] at hN
   by_cases c1:(b::t).take 2=[60,63]
   ·rw[if_pos c1];rw[aD (decide_eq_true c1)] at hN;exact aAF hs c1 (by decide) (by decide) (by decide) hN
   rw[if_neg c1];rw[aC (decide_eq_false c1),h2,aB] at hN
   by_cases c2:(b::t).take 4=[60,33,45,45]
   ·rw[if_pos c2];rw[aD (decide_eq_true c2)] at hN;exact aAF hs c2 (by decide) (by decide) (by decide) hN
   rw[if_neg c2];rw[aC (decide_eq_false c2),h3,aB] at hN
   by_cases c3:(b::t).take 2=[60,47]
   ·rw[if_pos c3];rw[aD (decide_eq_true c3)] at hN
    have hl2:2≤(b::t).length:=by have:=congrArg List.length c3; rw[bAK] at this; simp at this ⊢; omega
    generalize b::t=s at *
    have hw:eQ (mU+4995+5) (s,(2:Int))=some (dJ (s.drop 2),((2+(dJ (s.drop 2)).length:Nat):Int)):=PL (s:=s) (by omega) hl2
    have hnl:=EX (s.drop 2)
    rw[bAL] at hnl
    have hbl:q77 (mU+4995+5) (s,((2+(dJ (s.drop 2)).length:Nat):Int))=_:=sE (s:=s) (by omega) (show 2+(dJ (s.drop 2)).length≤s.length by omega)
    have htl:=kR (P:=wsB) (s.drop (2+(dJ (s.drop 2)).length))
    rw[bAL] at htl;rw[hw,aB] at hN;dsimp only at hN;rw[hbl,aB] at hN;unfold P8
    by_cases hn:dJ (s.drop 2)=[]
    ·rw[if_pos hn];rw[aD (by rw[dA]; exact hn)] at hN;exact⟨_,_,hN⟩
    rw[if_neg hn,bA5,PM];rw[aC (by rw[cC]; simpa using hn)] at hN;generalize hk:2+(dJ (s.drop 2)).length+((s.drop (2+(dJ (s.drop 2)).length)).takeWhile wsB).length=k at *
    by_cases hkl:k<s.length
    ·have g:aA s (toN (k:Int)) (0:UInt8)=s[k]:=bB hkl
     rw[aC (jF (by simp only[len]; omega)),aF (aX (by simp only[len]; omega)),g] at hN;rw[aYY hkl];dsimp only
     by_cases h62:s[k]=62
     ·rw[if_pos h62];rw[aC (cN (by rw[h62])),aQ hkl (by omega)] at hN;show eR fuelH s=_;rw[hN,bAL]
      have:s.length-(s.length-(k+1))=k+1:=by omega
      rw[this]
     ·rw[if_neg h62];rw[aD (cA (fun q=>h62 (fJ q)))] at hN;exact⟨_,_,hN⟩
    ·have e:k=s.length:=by omega
     rw[aD (gP (by simp only[len]; omega))] at hN;rw[e,bAR];exact⟨_,_,hN⟩
   rw[if_neg c3];rw[aC (decide_eq_false c3)] at hN
   have hbt:=aKX hs (by simp)
   cases hq:GD (b::t) with
   |none =>
    have:=hbt.2 hq
    refine⟨(0,[],[],[]),0,bBT hN ?_⟩;show bnd (q79 fuelH (b::t)) _=_;rw[this];rfl
   |some p =>
    obtain⟨tk,r⟩:=p
    have:=hbt.1 _ _ hq
    refine bBT hN ?_;show bnd (q79 fuelH (b::t)) _=_;rw[this];rfl
  ·rw[if_neg hb];rw[aD (cA (fun q=>hb (fJ q)))] at hN;generalize b::t=s at *
   have hi:q73 (mU+4995+5) (s,(60:UInt8))=some (Lib.indexByte s 60):=rfl
   have htl:=kR (P:=hM) s
   have htk:=BG hM s
   have hx:Lib.indexByte s 60=if(s.takeWhile hM).length=s.length then -1 else((s.takeWhile hM).length:Int):=ixb 60 s
   rw[hi,aB,hx] at hN;show eR fuelH s=_;rw[bAL]
   by_cases e:(s.takeWhile hM).length=s.length
   ·rw[if_pos e,aD (by rfl),aF (jG (by simp only[len]; omega))] at hN;rw[hN]
    have e1:bH (toN (len s)) s=s.takeWhile hM:=by
     simp only[bH,toN,len,bAF];rw[←e,htk]
    have e2:len s=((s.length-(s.length-(s.takeWhile hM).length):Nat):Int):=by simp only[len]; omega
    rw[e1,←e2]
   ·rw[if_neg e,aC (aW (by omega)),aF (jG (by simp only[len]; omega))] at hN;rw[hN]
    have e1:bH (toN ((s.takeWhile hM).length:Int)) s=s.takeWhile hM:=by
     simp only[bH,toN,bAF];exact htk
    have e2:s.length-(s.length-(s.takeWhile hM).length)=(s.takeWhile hM).length:=by omega
    rw[e1,e2]
theorem sF{s r:Ls}{t:Tok}(h:kJ s=some (t,r)):r.length<s.length:=by
 match s with
 | []=>cases h
 |b::u =>
  rw[gE] at h
  have note:∀head tail:Ls,1≤head.length→pO (b::u) head tail=some (t,r)→r.length<(b::u).length:=fun head tail h1 h=>by
   unfold pO at h
   split at h
   ·cases h
   ·injection h with h;injection h with _ h;rw[←h,bAL];simp;omega
  split at h
  ·split at h
   ·exact note _ _ (by decide) h
   split at h
   ·exact note _ _ (by decide) h
   split at h
   ·unfold P8 at h
    split at h
    ·cases h
    have h1:=lD (((b::u).drop 2).drop (dJ ((b::u).drop 2)).length)
    split at h
    ·cases h
    ·rename_i c q hq;rw[hq,bAL,bAL,bAH] at h1
     split at h
     ·injection h with h;injection h with _ h;rw[←h];omega
     ·cases h
   ·unfold GD at h
    split at h
    ·cases h
    split at h
    ·cases h
    ·rename_i k l q hq;injection h with h;injection h with _ h
     have:=(EZ _ _ _ hq).1
     rw[bAL,bAL] at this;rw[←h];omega
  ·rename_i hb;injection h with h;injection h with _ h;rw[←h,bAL,aZZ,if_pos (by simpa [hM] using hb)];simp;omega
def pJ(s:Ls):Int:=(s.length:Int)-1-((s.reverse.takeWhile fun b=>b != 10).length:Int)
def atP(s:Ls) (i:Nat) (e:Int):List (Int×Int×Int):=[(1+(((s.take i).count 10:Nat):Int),(i:Int)-pJ (s.take i),e)]
theorem zM{s:Ls}(hs:s.length≤4000000):∀(fuel k:Nat),k<fuel→k≤s.length →
  bD (fun v2 (v3:Int) =>
  cnd (ile (0:Int) v3)
   (grd (inb v3 (len s))
    (cnd (ieq (n8 (aA s (toN v3) (0:UInt8))) (n8 (10:UInt8)))
     (some v3)
     (v2 (w64 (aI v3 (1:Int))))))
   (some (-1:Int))) fuel ((k:Int)-1)=some (pJ (s.take k))
 | 0,k,h,_=>by omega
 |fuel+1,k,h,hk=>by
  rw[dQ]
  cases k with
  |zero =>
   rw[aC (jF (by omega))];rfl
  |succ k =>
   have e0:((k+1:Nat):Int)-1=(k:Int):=by omega
   have hkl:k<s.length:=by omega
   rw[e0,aD (gP (by omega)),aF (aX (by simp only[len]; omega)),bB hkl]
   have hr:(s.take (k+1)).reverse=s[k]::(s.take k).reverse:=by
    rw[aYO hkl,List.reverse_append];rfl
   have hl:(s.take (k+1)).length=k+1:=by rw[bAK]; omega
   have hl2:(s.take k).length=k:=by rw[bAK]; omega
   unfold pJ;rw[hr,hl,aZZ]
   by_cases e:s[k]=10
   ·rw[aD (dL (by rw[e])),if_neg (by simp[e])];congr 1;simp
   ·have e1:w64 (aI (k:Int) 1)=(k:Int)-1:=by
     simp only[aI];rw[bS (by omega)]
    rw[aC (cZ (fun q=>e (fJ q))),e1,zM hs fuel k (by omega) (by omega),if_pos (by simp[e])];unfold pJ;rw[hl2,bAH];congr 1;omega
theorem aHM(s:Ls):-1≤pJ s∧pJ s<(s.length:Int):=by
 unfold pJ
 have:=(List.takeWhile_prefix (p:=fun b:UInt8=>b != 10) (l:=s.reverse)).length_le
 rw[List.length_reverse] at this;omega
theorem aAG{s:Ls}(hs:s.length≤3999999){i:Nat}(hi:i≤s.length) (e:Int):kN fuelH (s,(i:Int),e)=some (atP s i e):=by
 have hin:in2 (i:Int) (len s)=true:=jG (by simp only[len]; omega)
 have ht:bH (toN (i:Int)) s=s.take i:=by simp[bH,toN]
 have hl:(s.take i).length=i:=by rw[bAK]; omega
 have hc:q67 fuelH (s.take i,([10]:Y_))=some (((s.take i).count 10:Nat):Int):=rfl
 have hlast:q71 fuelH (s.take i,([10]:Y_))=some (pJ (s.take i)):=by
  have h1:q71 fuelH (s.take i,([10]:Y_))=bnd (q68 fuelH (s.take i,10)) fun v0=>some v0:=rfl
  rw[h1];unfold q68;dsimp only;rw[bT]
  have e0:w64 (aI (len (s.take i)) 1)=(((s.take i).length:Nat):Int)-1:=by
   simp only[aI,len];rw[bS (by omega)]
  rw[e0,zM (s:=s.take i) (by omega) fuelH _ (by have:=bF; omega) (bBQ _),aB,bAO]
 have hcl:=List.count_le_length (a:=(10:UInt8)) (l:=s.take i)
 have hln:=aHM (s.take i)
 unfold kN atP;dsimp only;rw[aF hin,ht,hc,aB,aF hin,hlast,aB];simp only[aE,aI];rw[bS (by omega),bS (by omega)]
theorem PO:∀(n:Nat) (l a:Ls),l.length≤n→(un a l).1.length≤a.length+4*l.length
 | 0,l,a,h=>by
  have:l=[]:=aYP (by omega)
  subst this;rw[P3];simp
 |n+1,[],a,_=>by rw[P3]; simp
 |n+1,b::l,a,h=>by
  rw[bAH] at h;rw[BF]
  split
  ·simp
  split
  ·split
   ·simp
   ·rename_i h60 h38 he
    have he:(mN l).2.2=0:=by simpa using he
    have ho:=aAE he
    have hle:(mN l).1.length≤4:=by rw[ho.2.2.1]; exact VF _
    have:=PO n (l.drop ((l.takeWhile bG).length+1)) (a++(mN l).1) (by rw[bAL]; omega)
    rw[aZ0,bAL] at this;rw[bAH];omega
  ·have:=PO n l (a++[b]) (by omega)
   rw[aZ0,bAH,bAZ] at this;rw[bAH];omega
def eB(s:Ls):Ls×Int:=if(un [] (s.map flatB)).2≠0 then([],(un [] (s.map flatB)).2) else if vld (un [] (s.map flatB)).1=false then([],10) else((un [] (s.map flatB)).1,0)
theorem IV(s:Ls):(eB s).1.length≤4*s.length:=by
 have:=PO _ (s.map flatB) [] (bBQ _)
 rw[bA2,bAZ] at this;unfold eB
 split
 ·simp
 split
 ·simp
 ·show(un [] (s.map flatB)).1.length≤_;omega
theorem aAH{s:Ls}(hs:s.length≤900000):q84 fuelH s=some (eB s):=by
 have hu:=PO _ (s.map flatB) [] (bBQ _)
 have hml:(s.map flatB).length=s.length:=bA2 _
 rw[hml,bAZ] at hu;unfold q84 qZ nB;rw[aF (decide_eq_true (by omega)),aB,aXQ (by omega),aB];unfold eB
 by_cases h:(un [] (s.map flatB)).2=0
 ·rw[aC (cN h),if_neg (by simpa using h),kH _ (by omega),aB];cases hv:vld (un [] (s.map flatB)).1<;>rfl
 ·rw[aD (cA h),if_pos (by simpa using h)]
abbrev Ps:=List Nd×List Ls×Bool
def jA(p:Ps) (text:Bool):Int:=if p.2.1=[]∧(text=true∨p.1≠[]) then 8 else if 15<p.2.1.length then 9 else if 8192≤p.1.length∧¬(text=true∧p.2.2=true) then 9 else 0
theorem aAI(N:Nat) (p:Ps) (text:Bool):q85 N (p,text)=some (jA p text,p):=by
 obtain⟨nodes,stack,joined⟩:=p;unfold q85 jA;dsimp only;rw[bT]
 have tail:∀b:Bool,b=false→(cnd b (some ((8:Int),(nodes,stack,joined)))
   (cnd (ilt (15:Int) (len stack))
    (some ((9:Int),(nodes,stack,joined)))
    (cnd (ile (8192:Int) (len nodes))
     (cnd text
      (cnd (bO joined)
       (some ((9:Int),(nodes,stack,joined)))
       (some ((0:Int),(nodes,stack,joined))))
      (cnd (bO false)
       (some ((9:Int),(nodes,stack,joined)))
       (some ((0:Int),(nodes,stack,joined)))))
     (some ((0:Int),(nodes,stack,joined))))))=some (if 15<stack.length then 9 else if 8192≤nodes.length∧¬(text=true∧joined=true) then 9 else 0,nodes,stack,joined):=by
  intro b hb;subst hb;rw[aC (by rfl)]
  by_cases h1:15<stack.length
  ·rw[aD (aV (by simp only[len]; omega)),if_pos h1]
  rw[aC (aW (by simp only[len]; omega)),if_neg h1]
  by_cases h2:8192≤nodes.length
  ·rw[aD (gP (by simp only[len]; omega))]
   cases text with
   |true =>
    cases joined with
    |true=>rw[if_neg (by simp)]; rfl
    |false=>rw[if_pos ⟨h2,by simp⟩]; rfl
   |false=>rw[if_pos ⟨h2,by simp⟩]; rfl
  ·rw[aC (jF (by simp only[len]; omega)),if_neg (fun k=>h2 k.1)]
 by_cases h0:stack=[]
 ·subst h0;rw[aD (by rfl)]
  cases text with
  |true =>
   rw[aD (by rfl),if_pos ⟨rfl,.inl rfl⟩];rfl
  |false =>
   rw[aC (by rfl)]
   by_cases h1:nodes=[]
   ·subst h1;rw[if_neg (by simp)];exact tail _ rfl
   ·have:ilt 0 (len nodes)=true:=aV (by
     have:0<nodes.length:=aZY.2 h1
     simp only[len]; omega)
    rw[this,if_pos ⟨rfl,.inr h1⟩];rfl
 ·have:ieq (len stack) 0=false:=cZ (by
   have:0<stack.length:=aZY.2 h0
   simp only[len]; omega)
  rw[this,aC (by rfl),if_neg (fun k=>h0 k.1)];exact tail _ rfl
def aAJ(s:Ls):Bool:=s.all wsB
def nlB(s:Ls):Bool:=decide ((s.takeWhile fun b=>b != 10).length≠s.length)
theorem P9{P:UInt8→Bool}(s:Ls):s.dropWhile P=[]↔s.all P=true:=by
 induction s with
 |nil=>simp
 |cons b s ih =>
  rw[List.dropWhile_cons,bBF]
  by_cases h:P b=true
  ·rw[if_pos h,ih,h,bBE]
  ·rw[if_neg h]
   have h:P b=false:=by simpa using h
   rw[h];simp
theorem aQR(b:UInt8):([9,10,13,32]:Ls).contains b=wsB b:=by
 unfold wsB;simp only[List.contains,List.elem];cases (b==9)<;>cases (b==10)<;>cases (b==13)<;>cases (b==32)<;>rfl
theorem FA(s:Ls):Lib.trimS s [9,10,13,32]=[]↔aAJ s=true:=by
 have hf:(fun b:UInt8=>([9,10,13,32]:Ls).contains b)=wsB:=by funext b; exact aQR b
 unfold Lib.trimS Lib.trimLeftS Lib.trimRightS aAJ;rw[hf,P9,List.all_reverse];constructor
 ·intro h;rw[bAQ] at h ⊢;intro x hx
  by_cases e:s.reverse.dropWhile wsB=[]
  ·rw[P9,List.all_reverse] at e;exact bAQ.1 e x hx
  ·obtain⟨y,hy⟩:=List.exists_mem_of_ne_nil _ e;exfalso
   have h1:∀l:Ls,(∀z∈l.dropWhile wsB,wsB z=true)→l.dropWhile wsB=[]:=fun l=>by
    induction l with
    |nil=>intro _; rfl
    |cons b l ih =>
     intro hz;rw[List.dropWhile_cons] at hz ⊢
     by_cases hb:wsB b=true
     ·rw[if_pos hb] at hz ⊢;exact ih hz
     ·rw[if_neg hb] at hz;exact absurd (hz b aZ4) hb
   exact e (h1 _ h)
 ·intro h
  have:s.reverse.dropWhile wsB=[]:=(P9 _).2 (by rw[List.all_reverse]; exact h)
  rw[this];rfl
theorem VN(s:Ls):Lib.contains s [10]=nlB s:=by
 unfold Lib.contains nlB;rw[Lib.index_one,ixb]
 have:=kR (P:=fun b=>b != 10) s
 by_cases h:(s.takeWhile fun b=>b != 10).length=s.length
 ·rw[if_pos h]; simp[h]
 ·rw[if_neg h]; simp[h]
def zO(l:List Nd) (t:Ls):List Nd:=match l.getLast? with
 |none=>l
 |some n=>l.dropLast++[(n.1,n.2.1++t,n.2.2)]
def FB(p:Ps) (s:Ls):Int×Ps :=
 if aAJ s=true∧(nlB s=true∨p.2.1=[]) then(0,p) else if(eB s).2≠0 then((eB s).2,p) else if jA p true≠0 then(jA p true,p)
 else if p.2.2=true then(0,zO p.1 (eB s).1,p.2.1,p.2.2) else(0,p.1++[([],(eB s).1,[],(p.2.1.length:Int))],p.2.1,true)
theorem wA{α:Type}{l:List α}(h:l≠[]):∃n,l.getLast?=some n∧l=l.dropLast++[n]∧∃hl:l.length-1<l.length,l[l.length-1]=n:=by
 rcases List.eq_nil_or_concat l with e|⟨m,n,rfl⟩
 ·exact absurd e h
 ·refine⟨n,by simp,by simp,by simp,by simp⟩
theorem aHN{α:Type}{l:List α}(h:l≠[]) (y:α):l.set (l.length-1) y=l.dropLast++[y]:=by
 obtain⟨n,_,h2,_⟩:=wA h
 have hl:l.length-1=l.dropLast.length:=by rw[aZN]
 conv=>lhs; rw[hl,h2]
 rw[List.dropLast_concat,aZG _ _ (bBQ _),bBN];rfl
theorem aHO{p:Ps}{s:Ls}(hs:s.length≤300000) (hj:p.2.2=true→p.1≠[]) (hn:p.1.length≤300000) (ht:∀n∈p.1,n.2.1.length≤4000000):q86 fuelH (p,s)=some (FB p s):=by
 have hml:=IV s
 unfold q86 FB;dsimp only;rw[bT]
 have ht1:gL fuelH (s,([9,10,13,32]:Y_))=some (Lib.trimS s [9,10,13,32]):=by
  unfold gL iV;rw[aF (decide_eq_true (by show s.length<_; omega)),aF (by rfl),aF (by rfl)]
 have hc1:strings_Contains fuelH (s,([10]:Y_))=some (nlB s):=by
  unfold strings_Contains fG;rw[aF (decide_eq_true (by show s.length<_; omega)),VN]
 rw[ht1,aB,hc1,aB]
 have rest:(bnd (q84 fuelH s) fun v1 =>
  cnd (ine v1.2 (0:Int))
   (some (v1.2,p))
   (bnd (q85 fuelH (p,true)) fun v2 =>
   cnd (ine v2.1 (0:Int))
    (some v2)
    (cnd v2.2.2.2
     (grd (inb (w64 (aI (len v2.2.1) (1:Int))) (len v2.2.1))
      (grd (cL (aE (len (aA v2.2.1 (toN (w64 (aI (len v2.2.1) (1:Int)))) zN).2.1) (len v1.1)))
       (grd (inb (w64 (aI (len v2.2.1) (1:Int))) (len v2.2.1))
        (some ((0:Int),pT v2.2.1 (toN (w64 (aI (len v2.2.1) (1:Int)))) ((aA v2.2.1 (toN (w64 (aI (len v2.2.1) (1:Int)))) zN).1,aU (aA v2.2.1 (toN (w64 (aI (len v2.2.1) (1:Int)))) zN).2.1 v1.1,(aA v2.2.1 (toN (w64 (aI (len v2.2.1) (1:Int)))) zN).2.2),v2.2.2)))))
     (grd (cH (aE (len v2.2.1) (len ([(([]:Y_),v1.1,([]:List (Y_×Y_)),len v2.2.2.1)]:List (Y_×Y_×(List (Y_×Y_))×Int)))) 64)
      (some ((0:Int),aU v2.2.1 ([(([]:Y_),v1.1,([]:List (Y_×Y_)),len v2.2.2.1)]:List (Y_×Y_×(List (Y_×Y_))×Int)),v2.2.2.1,true)))))) =
   some (if(eB s).2≠0 then((eB s).2,p) else if jA p true≠0 then(jA p true,p)
 else if p.2.2=true then(0,zO p.1 (eB s).1,p.2.1,p.2.2) else(0,p.1++[([],(eB s).1,[],(p.2.1.length:Int))],p.2.1,true)):=by
  rw[aAH (by omega),aB,aAI,aB];dsimp only
  by_cases h1:(eB s).2=0
  ·rw[aC (cN h1),if_neg (fun k=>k h1)]
   by_cases h2:jA p true=0
   ·rw[aC (cN h2),if_neg (fun k=>k h2)]
    by_cases h3:p.2.2=true
    ·have hne:=hj h3
     obtain⟨n,q1,q2,q3,q4⟩:=wA hne
     have hp:0<p.1.length:=aZY.2 hne
     have hw:w64 (aI (len p.1) 1)=((p.1.length-1:Nat):Int):=rF hp (by omega)
     have hg:aA p.1 (toN ((p.1.length-1:Nat):Int)) zN=n:=by rw[pN q3,q4]
     have htn:=ht n (by rw[q2]; simp)
     rw[aD h3,if_pos h3,hw,hg,aF (aX (by simp only[len]; omega)),aF (dS (by simp only[len,aE]; omega)),aF (aX (by simp only[len]; omega))];unfold zO;rw[q1];dsimp only
     have:pT p.1 (toN ((p.1.length-1:Nat):Int)) (n.1,aU n.2.1 (eB s).1,n.2.2)=p.1.dropLast++[(n.1,n.2.1++(eB s).1,n.2.2)]:=by
      unfold pT;rw[show toN ((p.1.length-1:Nat):Int)=p.1.length-1 by simp[toN]];exact aHN hne _
     rw[this]
    ·rw[aC (by simpa using h3),if_neg h3,aF (cV (by simp only[len,aE,bAH,bAZ]; omega))];rfl
   ·rw[aD (cA h2),if_pos h2]
  ·rw[aD (cA h1),if_pos h1]
 by_cases hb:aAJ s=true
 ·rw[aD (by rw[dA]; exact(FA s).2 hb)]
  by_cases hn2:nlB s=true
  ·rw[aD hn2,if_pos ⟨hb,.inl hn2⟩]
  ·rw[aC (by simpa using hn2)]
   by_cases ho:p.2.1=[]
   ·rw[aD (by rw[ho]; rfl),if_pos ⟨hb,.inr ho⟩]
   ·rw[aC (cZ (by have:=aZY.2 ho; simp only[len]; omega)),if_neg (fun k=>by rcases k.2 with k|k; exact hn2 k; exact ho k)];exact rest
 ·rw[aC (by rw[cC]; simpa using fun k=>hb ((FA s).1 k)),if_neg (fun k=>hb k.1)];exact rest
def aHP(p:Ps) (name:Ls):Int×Ps:=if nmX name=false then(5,p) else if p.2.1.getLast?=some name then(0,p.1,p.2.1.dropLast,false) else(8,p)
theorem aQS{p:Ps}{t:Tok}(ho:p.2.1.length≤300000):q87 fuelH (p,t)=some (aHP p t.2.1):=by
 unfold q87 aHP;dsimp only;rw[BH,aB]
 by_cases h1:nmX t.2.1=true
 ·rw[h1,aC (by rfl),if_neg (by decide)]
  by_cases h2:p.2.1=[]
  ·rw[h2,aD (by rfl),if_neg (by simp)]
  ·obtain⟨n,q1,q2,q3,q4⟩:=wA h2
   have hp:0<p.2.1.length:=aZY.2 h2
   have hw:w64 (aI (len p.2.1) 1)=((p.2.1.length-1:Nat):Int):=rF hp (by omega)
   have hg:aA p.2.1 (toN ((p.2.1.length-1:Nat):Int)) []=n:=by rw[bB q3,q4]
   rw[aC (cZ (by simp only[len]; omega)),hw,aF (aX (by simp only[len]; omega)),hg,q1]
   by_cases h3:n=t.2.1
   ·rw[aC (by unfold sne; simpa using h3),if_pos (by rw[h3]),aF (jG (by simp only[ofN,kM]; omega))]
    have:gQ p.2.1 0 (toN ((p.2.1.length-1:Nat):Int))=p.2.1.dropLast:=by
     simp only[gQ,toN,bAF,bA6];rw[List.dropLast_eq_take]
    rw[this]
   ·rw[aD (by unfold sne; simpa using h3),if_neg (fun k=>h3 (by injection k))]
 ·have h1:nmX t.2.1=false:=by simpa using h1
  rw[h1,aD (by rfl),if_pos rfl]
def atM:List Ls→List At→List At→Int×List At
 |_,out,[]=>(0,out)
 |seen,out,a::r=>if a.1∈seen then(7,[]) else if(eB a.2).2≠0 then((eB a.2).2,[]) else atM (seen++[a.1]) (out++[(a.1,(eB a.2).1)]) r
def FC(p:Ps) (t:Tok):Int×Ps :=
 if(t.2.1::t.2.2.1.map Prod.fst).all nmX=false then(5,p) else if 16<t.2.2.1.length then(9,p) else if(atM [] [] t.2.2.1).1≠0 then((atM [] [] t.2.2.1).1,p) else if jA p false≠0 then(jA p false,p)
 else(0,p.1++[(t.2.1,[],(atM [] [] t.2.2.1).2,(p.2.1.length:Int))],if t.1=1 then p.2.1++[t.2.1] else p.2.1,false)
theorem Q0{R:Type}{l:List At}(hl:l.length≤300000) (n0:Ls) (K:List Ls×Int→Option R) :
  bD (fun v19 (v20:(List Y_)×Int) =>
  cnd (ilt v20.2 (len l))
   (grd (inb v20.2 (len l))
    (grd (cH (aE (len v20.1) (len ([(aA l (toN v20.2) ([],[])).1]:List Y_))) 16)
     (v19 (aU v20.1 ([(aA l (toN v20.2) ([],[])).1]:List Y_),w64 (aE v20.2 (1:Int))))))
   (K v20)) fuelH (([n0]:List Y_),(0:Int))=K (n0::l.map Prod.fst,(l.length:Int)):=by
 have h:=cW (s:=l) (fun (a:List Ls) (j:Nat)=>(a,(j:Int))) (fun a r=>K (a++r.map Prod.fst,(l.length:Int))) (fun j a=>a.length≤j+1)
  (F:=fun v19 (v20:(List Y_)×Int) =>
  cnd (ilt v20.2 (len l))
   (grd (inb v20.2 (len l))
    (grd (cH (aE (len v20.1) (len ([(aA l (toN v20.2) ([],[])).1]:List Y_))) 16)
     (v19 (aU v20.1 ([(aA l (toN v20.2) ([],[])).1]:List Y_),w64 (aE v20.2 (1:Int))))))
   (K v20)) ?_ fuelH 0 [n0] (cX (by omega) _) (bBR _) (by simp)
 ·exact h
 ·intro self a j hj hI hself;dsimp only
  by_cases hjl:j<l.length
  ·have hw:w64 (aE (j:Int) 1)=((j+1:Nat):Int):=aQ hjl (by omega)
   rw[aD (aV (by simp only[len]; omega)),aF (aX (by simp only[len]; omega)),bB hjl,aF (cV (by simp only[len,aE,bAH,bAZ]; omega)),hw,aYY hjl];refine bBT (hself (a++[(l[j]).1]) (j+1) (by omega) (by omega) (by simp; omega)) ?_;rw[bBC,bAA];rfl
  ·obtain rfl:j=l.length:=by omega
   rw[aC (aW (by simp only[len]; omega)),bAR];simp
theorem aHQ{R:Type}{l:List Ls}(hl:l.length≤400000) (bad:Option R) (K:Option R) :
  bD (fun v15 (v16:Int) =>
   cnd (ilt v16 (len l))
    (grd (inb v16 (len l))
     (bnd (eA fuelH (aA l (toN v16) [])) fun v17 =>
     cnd (bO v17)
      bad
      (v15 (w64 (aE v16 (1:Int))))))
    K) fuelH (0:Int)=if l.all nmX=false then bad else K:=by
 have h:=cW (s:=l) (fun (_:Unit) (j:Nat)=>(j:Int)) (fun _ r=>if r.all nmX=false then bad else K) (fun _ _=>True)
  (F:=fun v15 (v16:Int) =>
   cnd (ilt v16 (len l))
    (grd (inb v16 (len l))
     (bnd (eA fuelH (aA l (toN v16) [])) fun v17 =>
     cnd (bO v17)
      bad
      (v15 (w64 (aE v16 (1:Int))))))
    K) ?_ fuelH 0 () (cX (by omega) _) (bBR _) trivial
 ·exact h
 ·intro self a j hj _ hself
  by_cases hjl:j<l.length
  ·have hw:w64 (aE (j:Int) 1)=((j+1:Nat):Int):=aQ hjl (by omega)
   rw[aD (aV (by simp only[len]; omega)),aF (aX (by simp only[len]; omega)),bB hjl,BH,aB,hw,aYY hjl,bBF]
   by_cases e:nmX l[j]=true
   ·rw[e,aC (by rfl),bBE];exact hself () (j+1) (by omega) (by omega) trivial
   ·have e:nmX l[j]=false:=by simpa using e
    rw[e,aD (by rfl),bA9,if_pos rfl]
  ·obtain rfl:j=l.length:=by omega
   rw[aC (aW (by simp only[len]; omega)),bAR];rfl
theorem aHR{R:Type}{l:List At}(hl:l.length≤400000) (name:Ls) (bad:Option R) (K:Option R) :
  bD (fun v12 (v13:Int) =>
       cnd (ilt v13 (len l))
        (grd (inb v13 (len l))
         (cnd (seq (aA l (toN v13) ([],[])).1 name)
          bad
          (v12 (w64 (aE v13 (1:Int))))))
        K) fuelH (0:Int)=if name∈l.map Prod.fst then bad else K:=by
 have h:=cW (s:=l) (fun (_:Unit) (j:Nat)=>(j:Int)) (fun _ r=>if name∈r.map Prod.fst then bad else K) (fun _ _=>True)
  (F:=fun v12 (v13:Int) =>
       cnd (ilt v13 (len l))
        (grd (inb v13 (len l))
         (cnd (seq (aA l (toN v13) ([],[])).1 name)
          bad
          (v12 (w64 (aE v13 (1:Int))))))
        K) ?_ fuelH 0 () (cX (by omega) _) (bBR _) trivial
 ·exact h
 ·intro self a j hj _ hself
  by_cases hjl:j<l.length
  ·have hw:w64 (aE (j:Int) 1)=((j+1:Nat):Int):=aQ hjl (by omega)
   rw[aD (aV (by simp only[len]; omega)),aF (aX (by simp only[len]; omega)),bB hjl,hw,aYY hjl,bBC]
   by_cases e:(l[j]).1=name
   ·rw[aD (by rw[dA]; exact e),if_pos (by rw[e]; exact aZ4)]
   ·rw[aC (by rw[cC]; simpa using e)];refine bBT (hself () (j+1) (by omega) (by omega) trivial) ?_
    have:(name∈(l[j]).1::(l.drop (j+1)).map Prod.fst)↔(name∈(l.drop (j+1)).map Prod.fst):=by
     rw[bBB];exact⟨fun k=>k.resolve_left (fun q=>e q.symm),.inr⟩
    simp only[this]
  ·obtain rfl:j=l.length:=by omega
   rw[aC (aW (by simp only[len]; omega)),bAR];rfl
theorem vG{p:Ps}{t:Tok}(hl:t.2.2.1.length≤300000) (hv:∀a∈t.2.2.1,a.2.length≤900000) (hp:p.1.length≤300000) (ho:p.2.1.length≤300000):q88 fuelH (p,t)=some (FC p t):=by
 unfold q88 FC;dsimp only;rw[bT];refine bBT (Q0 hl t.2.1 _) ?_;dsimp only;rw[bT];refine bBT (aHQ (by simp; omega) _ _) ?_
 by_cases h1:(t.2.1::t.2.2.1.map Prod.fst).all nmX=false
 ·rw[if_pos h1,if_pos h1]
 rw[if_neg h1,if_neg h1]
 by_cases h2:16<t.2.2.1.length
 ·rw[aD (aV (by simp only[len]; omega)),if_pos h2]
 rw[aC (aW (by simp only[len]; omega)),if_neg h2,bT];generalize hal:t.2.2.1=l at *
 have h:=cW (s:=l) (fun (out:List At) (j:Nat)=>((j:Int),(t.2.1,(([]:Y_),(out,len p.2.1)))))
  (fun out r=>some (if(atM ((l.take (l.length-r.length)).map Prod.fst) out r).1≠0 then((atM ((l.take (l.length-r.length)).map Prod.fst) out r).1,p) else if jA p false≠0 then(jA p false,p)
   else(0,p.1++[(t.2.1,[],(atM ((l.take (l.length-r.length)).map Prod.fst) out r).2,(p.2.1.length:Int))],if t.1=1 then p.2.1++[t.2.1] else p.2.1,false))) (fun j out=>out.length≤j)
  (F:=fun v5 (v6:Int×Y_×Y_×(List (Y_×Y_))×Int) =>
     cnd (ilt v6.1 (len l))
      (jn (fun (v7:Y_×Y_×(List (Y_×Y_))×Int) =>
       v5 (w64 (aE v6.1 (1:Int)),v7))
      fun v8 =>
      grd (inb v6.1 (len l)) <|
      jn (fun (v9:Unit) =>
       bnd (q84 fuelH (aA l (toN v6.1) ([],[])).2) fun v10 =>
       cnd (ine v10.2 (0:Int))
        (some (v10.2,p))
        (grd (cH (aE (len v6.2.2.2.1) (len ([((aA l (toN v6.1) ([],[])).1,v10.1)]:List (Y_×Y_)))) 32)
         (v8 (v6.2.1,v6.2.2.1,aU v6.2.2.2.1 ([((aA l (toN v6.1) ([],[])).1,v10.1)]:List (Y_×Y_)),v6.2.2.2.2))))
      fun v11 =>
      grd (in2 v6.1 (len l)) <|
      bD (fun v12 (v13:Int) =>
       cnd (ilt v13 (len (bH (toN v6.1) l)))
        (grd (inb v13 (len (bH (toN v6.1) l)))
         (cnd (seq (aA (bH (toN v6.1) l) (toN v13) ([],[])).1 (aA l (toN v6.1) ([],[])).1)
          (some ((7:Int),p))
          (v12 (w64 (aE v13 (1:Int))))))
        (v11 ())) fuelH (0:Int))
      ((fun (v2:Y_×Y_×(List (Y_×Y_))×Int) =>
     bnd (q85 fuelH (p,false)) fun v3 =>
     cnd (ine v3.1 (0:Int))
      (some v3)
      (grd (cH (aE (len v3.2.1) (len ([v2]:List (Y_×Y_×(List (Y_×Y_))×Int)))) 64)
       (cnd (ieq t.1 (1:Int))
        (grd (cH (aE (len v3.2.2.1) (len ([t.2.1]:List Y_))) 16)
         (some ((0:Int),aU v3.2.1 ([v2]:List (Y_×Y_×(List (Y_×Y_))×Int)),aU v3.2.2.1 ([t.2.1]:List Y_),false)))
        (some ((0:Int),aU v3.2.1 ([v2]:List (Y_×Y_×(List (Y_×Y_))×Int)),v3.2.2.1,false))))) v6.2)) ?_ fuelH 0 [] (cX (by omega) _) (bBR _) (bBR _)
 ·refine bBT h ?_;rw[bA6,bBN];rfl
 ·intro self out j hj hI hself;dsimp only
  by_cases hjl:j<l.length
  ·have hw:w64 (aE (j:Int) 1)=((j+1:Nat):Int):=aQ hjl (by omega)
   have hva:=hv _ (bAS hjl)
   have hin:inb (j:Int) (len l)=true:=aX (by simp only[len]; omega)
   have htk:bH (toN (j:Int)) l=l.take j:=by simp[bH,toN]
   rw[aD (aV (by simp only[len]; omega)),bT,aF hin,bT,aF (jG (by simp only[len]; omega)),htk,bB hjl];refine bBT (aHR (by rw[bAK]; omega) _ _ _) ?_
   have hrl:l.length-(l.drop j).length=j:=by rw[bAL]; omega
   have hrl2:l.length-(l.drop (j+1)).length=j+1:=by rw[bAL]; omega
   rw[hrl,aYY hjl]
   have hat:atM ((l.take j).map Prod.fst) out (l[j]::l.drop (j+1))=if(l[j]).1∈(l.take j).map Prod.fst then(7,[]) else if(eB (l[j]).2).2≠0 then((eB (l[j]).2).2,[]) else atM ((l.take j).map Prod.fst++[(l[j]).1]) (out++[((l[j]).1,(eB (l[j]).2).1)]) (l.drop (j+1)):=rfl
   rw[hat]
   by_cases h3:(l[j]).1∈(l.take j).map Prod.fst
   ·rw[if_pos h3,if_pos h3];rfl
   rw[if_neg h3,if_neg h3,aAH (by omega),aB]
   by_cases h4:(eB (l[j]).2).2=0
   ·rw[aC (cN h4),if_neg (show ¬(eB (l[j]).2).2≠0 from fun k=>k h4),aF (cV (by simp only[len,aE,bAH,bAZ]; omega)),hw]
    have hseen:(l.take j).map Prod.fst++[(l[j]).1]=(l.take (j+1)).map Prod.fst:=by
     rw[aYO hjl,bA3];rfl
    rw[hseen];refine bBT (hself (out++[((l[j]).1,(eB (l[j]).2).1)]) (j+1) (by omega) (by omega) (by simp; omega)) ?_;rw[hrl2]
   ·rw[aD (cA h4),if_pos h4];dsimp only;rw[if_pos h4]
  ·obtain rfl:j=l.length:=by omega
   rw[aC (aW (by simp only[len]; omega)),bAR,bAZ,Nat.sub_zero,aAI,aB]
   have hat:∀seen out,atM seen out []=(0,out):=fun _ _=>rfl
   rw[hat];dsimp only;rw[if_neg (show ¬(0:Int)≠0 by simp)]
   by_cases h5:jA p false=0
   ·rw[aC (cN h5),if_neg (fun k=>k h5),aF (cV (by simp only[len,aE,bAH,bAZ]; omega))]
    by_cases h6:t.1=1
    ·rw[aD (dL h6),if_pos h6,aF (cV (by simp only[len,aE,bAH,bAZ]; omega))];rfl
    ·rw[aC (cZ h6),if_neg h6];rfl
   ·rw[aD (cA h5),if_pos h5]
def hP(p:Ps) (t:Tok) (first:Bool):Int×Ps:=if t.1=0 then FB p t.2.2.2 else if t.1=2 then aHP p t.2.1 else if t.1=4 then(if t.2.2.2=[60,63]∧first=false then(4,p) else(0,p)) else FC p t
theorem aKZ{p:Ps}{t:Tok}(first:Bool) (hx:t.2.2.2.length≤300000) (hl:t.2.2.1.length≤300000) (hv:∀a∈t.2.2.1,a.2.length≤900000) (hp:p.1.length≤300000) (ho:p.2.1.length≤300000) (hj:p.2.2=true→p.1≠[]) (ht:∀n∈p.1,n.2.1.length≤4000000):q89 fuelH (p,t,first)=some (hP p t first):=by
 unfold q89 hP;dsimp only
 by_cases h0:t.1=0
 ·rw[aD (dL h0),if_pos h0,aHO hx hj hp ht];rfl
 rw[aC (cZ h0),if_neg h0]
 by_cases h2:t.1=2
 ·rw[aD (dL h2),if_pos h2,aQS ho];rfl
 rw[aC (cZ h2),if_neg h2]
 by_cases h4:t.1=4
 ·rw[aD (dL h4),if_pos h4]
  by_cases h5:t.2.2.2=[60,63]
  ·rw[aD (by rw[dA]; exact h5)]
   cases first with
   |true=>rw[if_neg (by simp)]; rfl
   |false=>rw[if_pos ⟨h5,rfl⟩]; rfl
  ·rw[aC (by rw[cC]; simpa using h5),if_neg (fun k=>h5 k.1)]
 ·rw[aC (cZ h4),if_neg h4,vG hl hv hp ho];rfl
theorem aC8{t r:Ls}{a:Aq}(h:iZ t=some (a,r)):a.2.length≤t.length:=by
 unfold iZ at h
 split at h
 ·cases h
 split at h
 ·cases h
 rename_i b r2 h2
 split at h
 ·split at h
  ·cases h
  rename_i q r4 h4
  split at h
  ·split at h
   ·rename_i v r5 h5;injection h with h;injection h with h _;subst h
    have e1:=VK h5
    have e2:=lD r2
    have e3:=lD (t.drop (dJ t).length)
    rw[h4,bAH] at e2;rw[h2,bAH,bAL] at e3;show v.length≤_;omega
   ·cases h
  ·cases h
 ·cases h
theorem VO:∀(n:Nat) (t:Ls) (l:List Aq){k:Int}{m:List Aq}{r:Ls},yG n t l=some (k,m,r)→∃u,u++r=t
 | 0,_,_,_,_,_,h=>by cases h
 |n+1,t,l,k,m,r,h=>by
  obtain⟨u0,h0⟩:=BJ t;unfold yG at h;generalize skp t=u at *
  match u with
  | []=>cases h
  |b::q =>
   dsimp only at h
   split at h
   ·injection h with h;injection h with h1 h;injection h with h2 h3;subst h3;exact⟨u0++[b],by rw[←h0]; simp⟩
   split at h
   ·injection h with h;injection h with h1 h;injection h with h2 h3;subst h3;exact⟨u0++(b::q.take 1),by rw[←h0,bAA,bAJ,aZE]⟩
   split at h
   ·cases h
   cases ha:iZ (b::q) with
   |none=>rw[ha] at h; cases h
   |some p =>
    obtain⟨a,r2⟩:=p;rw[ha] at h;obtain⟨u1,h1⟩:=IS ha;obtain⟨u2,h2⟩:=VO n r2 (l++[a]) h;exact⟨u0++(u1++u2),by rw[←h0,←h1,←h2]; simp⟩
theorem aHS{t r:Ls}(h:∃u,u++r=t):∃k,r=t.drop k:=by
 obtain⟨u,rfl⟩:=h;exact⟨u.length,by rw[List.drop_left]⟩
theorem aC9{s r:Ls}{t:Tok}(h:kJ s=some (t,r)):∃k,r=s.drop k:=by
 match s with
 | []=>cases h
 |b::u =>
  rw[gE] at h
  have note:∀head tail:Ls,pO (b::u) head tail=some (t,r)→∃k,r=(b::u).drop k:=fun head tail h=>by
   unfold pO at h
   split at h
   ·cases h
   ·injection h with h;injection h with _ h;exact⟨_,h.symm⟩
  split at h
  ·split at h
   ·exact note _ _ h
   split at h
   ·exact note _ _ h
   split at h
   ·unfold P8 at h
    split at h
    ·cases h
    obtain⟨u1,h1⟩:=BJ (((b::u).drop 2).drop (dJ ((b::u).drop 2)).length)
    split at h
    ·cases h
    ·rename_i c q hq
     split at h
     ·injection h with h;injection h with _ h;subst h;refine aHS ⟨(b::u).take 2++(((b::u).drop 2).take (dJ ((b::u).drop 2)).length++(u1++[c])),?_⟩;rw[hq] at h1
      conv=>rhs; rw[←aZE 2 (b::u),←aZE (dJ ((b::u).drop 2)).length ((b::u).drop 2),←h1]
      simp
     ·cases h
   ·unfold GD at h
    split at h
    ·cases h
    split at h
    ·cases h
    ·rename_i k l q hq;injection h with h;injection h with _ h;subst h;obtain⟨u1,h1⟩:=VO _ _ _ hq;refine aHS ⟨(b::u).take 1++(((b::u).drop 1).take (dJ ((b::u).drop 1)).length++u1),?_⟩;rw[bAA,bAA,h1,aZE,aZE]
  ·injection h with h;injection h with _ h;exact⟨_,h.symm⟩
theorem IW:∀(n:Nat) (t:Ls) (l:List Aq){k:Int}{m:List Aq}{r:Ls},yG n t l=some (k,m,r)→∀a∈m,a∈l∨a.2.length≤t.length
 | 0,_,_,_,_,_,h=>by cases h
 |n+1,t,l,k,m,r,h=>by
  have hk:=lD t
  unfold yG at h;generalize skp t=u at *
  match u with
  | []=>cases h
  |b::q =>
   dsimp only at h
   split at h
   ·injection h with h;injection h with h1 h;injection h with h2 h3;subst h2;exact fun a ha=>.inl ha
   split at h
   ·injection h with h;injection h with h1 h;injection h with h2 h3;subst h2;exact fun a ha=>.inl ha
   split at h
   ·cases h
   cases ha:iZ (b::q) with
   |none=>rw[ha] at h; cases h
   |some p =>
    obtain⟨a,r2⟩:=p;rw[ha] at h
    have h1:=oL ha
    have hval:a.2.length≤(b::q).length:=aC8 ha
    intro x hx;rcases IW n r2 (l++[a]) h x hx with h2|h2
    ·rcases bAU.1 h2 with h3|h3
     ·exact .inl h3
     ·simp at h3;subst h3;exact .inr (by omega)
    ·exact .inr (by omega)
structure TokOk (n:Nat) (t:Tok):Prop where
 tx:t.2.2.2.length≤n
 al:t.2.2.1.length≤n
 av:∀a∈t.2.2.1,a.2.length≤n
theorem VP{s r:Ls}{t:Tok}(h:kJ s=some (t,r)):TokOk s.length t∧(t.1=0→t.2.2.2.length+r.length=s.length):=by
 match s with
 | []=>cases h
 |b::u =>
  rw[gE] at h
  have note:∀head tail:Ls,head.length≤(b::u).length→pO (b::u) head tail=some (t,r)→TokOk (b::u).length t∧(t.1=0→t.2.2.2.length+r.length=(b::u).length):=fun head tail h1 h=>by
   unfold pO at h
   split at h
   ·cases h
   ·injection h with h;injection h with h _;subst h;exact⟨⟨h1,bBR _,fun a ha=>(by cases ha)⟩,fun k=>(by cases k)⟩
  split at h
  ·split at h
   ·rename_i hh
    have:=congrArg List.length hh
    rw[bAK] at this;exact note _ _ (by simp at this ⊢; omega) h
   split at h
   ·rename_i hh
    have:=congrArg List.length hh
    rw[bAK] at this;exact note _ _ (by simp at this ⊢; omega) h
   split at h
   ·unfold P8 at h
    split at h
    ·cases h
    split at h
    ·cases h
    ·split at h
     ·injection h with h;injection h with h _;subst h;exact⟨⟨bBR _,bBR _,fun a ha=>(by cases ha)⟩,fun k=>(by cases k)⟩
     ·cases h
   ·unfold GD at h
    split at h
    ·cases h
    split at h
    ·cases h
    ·rename_i k l q hq;injection h with h;injection h with h _;subst h
     have h1:=EZ _ _ _ hq
     have h2:=IW _ _ _ hq
     rw[bAL,bAL] at h1;refine⟨⟨bBR _,?_,fun a ha=>?_⟩,fun e=>?_⟩
     ·have:=h1.2.1
      simp only[bAZ] at this;show l.length≤_;omega
     ·rcases h2 a ha with h3|h3
      ·cases h3
      ·rw[bAL,bAL] at h3;omega
     ·rcases h1.2.2 with h3|h3<;>(have e:k=0:=e; omega)
  ·injection h with h;injection h with h h2;subst h;subst h2
   have:=kR (P:=hM) (b::u)
   refine⟨⟨this,bBR _,fun a ha=>(by cases ha)⟩,fun _=>?_⟩;rw[bAL];show((b::u).takeWhile hM).length+_=_;omega
structure PsOk (i:Nat) (p:Ps):Prop where
 jn:p.2.2=true→p.1≠[]
 nl:p.1.length≤i
 sl:p.2.1.length≤i
 tx:∀n∈p.1,n.2.1.length≤4*i
theorem aHT{l:List Nd}{t:Ls}(h:l≠[]):∃n,l=l.dropLast++[n]∧zO l t=l.dropLast++[(n.1,n.2.1++t,n.2.2)]:=by
 obtain⟨n,q1,q2,_⟩:=wA h;exact⟨n,q2,by unfold zO; rw[q1]⟩
theorem aK0{s r:Ls}{t:Tok}{i:Nat}{p:Ps}(first:Bool) (hn:kJ s=some (t,r)) (hp:PsOk i p) (h0:(hP p t first).1=0):PsOk (i+(s.length-r.length)) (hP p t first).2:=by
 have hl:=sF hn
 have hk:=VP hn
 have mono:PsOk (i+(s.length-r.length)) p:=⟨hp.jn,by have:=hp.nl; omega,by have:=hp.sl; omega,fun n h=>by have:=hp.tx n h; omega⟩
 unfold hP at *
 by_cases c0:t.1=0
 ·rw[if_pos c0] at *
  have htl:=hk.2 c0
  have hml:=IV t.2.2.2
  unfold FB at *
  split
  ·exact mono
  split
  ·exact mono
  split
  ·exact mono
  split
  ·rename_i _ _ _ hj;obtain⟨n,q1,q2⟩:=aHT (t:=(eB t.2.2.2).1) (hp.jn hj)
   have hnl:=hp.nl
   have hdl:p.1.length=p.1.dropLast.length+1:=by
    have h:=congrArg List.length q1
    rw[aZ0,bAH,bAZ] at h;exact h
   refine⟨fun _=>?_,?_,mono.sl,fun m hm=>?_⟩
   ·show zO _ _≠[];rw[q2];simp
   ·show(zO _ _).length≤_;rw[q2,aZ0,bAH,bAZ];omega
   ·have hm:m∈zO p.1 (eB t.2.2.2).1:=hm
    rw[q2] at hm;rcases bAU.1 hm with h|h
    ·exact mono.tx m (by rw[q1]; exact aZP _ h)
    ·simp at h;subst h
     have:=hp.tx n (by rw[q1]; simp)
     rw[aZ0];omega
  ·refine⟨fun _=>by simp,?_,mono.sl,fun m hm=>?_⟩
   ·show(p.1++_).length≤_
    have:=hp.nl
    rw[aZ0,bAH,bAZ];omega
   ·rcases bAU.1 hm with h|h
    ·exact mono.tx m h
    ·simp at h;subst h;show(eB t.2.2.2).1.length≤_;omega
 rw[if_neg c0] at *
 by_cases c2:t.1=2
 ·rw[if_pos c2] at *;unfold aHP at *
  split
  ·exact mono
  split
  ·refine⟨fun k=>(by cases k),mono.nl,?_,mono.tx⟩;show p.2.1.dropLast.length≤_
   have:=hp.sl
   rw[aZN];omega
  ·exact mono
 rw[if_neg c2] at *
 by_cases c4:t.1=4
 ·rw[if_pos c4] at *
  split<;>exact mono
 rw[if_neg c4] at *;unfold FC at *
 split
 ·exact mono
 split
 ·exact mono
 split
 ·exact mono
 split
 ·exact mono
 refine⟨fun k=>(by cases k),?_,?_,fun m hm=>?_⟩
 ·show(p.1++_).length≤_
  have:=hp.nl
  rw[aZ0,bAH,bAZ];omega
 ·dsimp only
  have:=hp.sl
  split
  ·rw[aZ0,bAH,bAZ];omega
  ·omega
 ·rcases bAU.1 hm with h|h
  ·exact mono.tx m h
  ·simp at h;subst h;simp
def PP:Nat→Nat→Ps→Ls→List Nd×Option (Nat×Int)
 | 0,_,_,_=>([],none)
 |_+1,n,p,[]=>if p.1=[]∨p.2.1≠[] then([],some (n,4)) else(p.1,none)
 |f+1,n,p,b::u=>match kJ (b::u) with
  |none=>([],some (n-(b::u).length,4))
  |some (t,r)=>if(hP p t (decide ((b::u).length=n))).1≠0 then([],some (n-(b::u).length,(hP p t (decide ((b::u).length=n))).1)) else PP f n (hP p t (decide ((b::u).length=n))).2 r
theorem IX:∀(f g n:Nat) (p:Ps) (s:Ls),s.length<f→s.length<g→PP f n p s=PP g n p s
 | 0,_,_,_,_,h,_=>by omega
 |_+1,0,_,_,_,_,h=>by omega
 |f+1,g+1,n,p,[],_,_=>rfl
 |f+1,g+1,n,p,b::u,h1,h2=>by
  unfold PP
  cases hn:kJ (b::u) with
  |none=>rfl
  |some q =>
   obtain⟨t,r⟩:=q
   have:=sF hn
   dsimp only;rw[IX f g n _ r (by omega) (by omega)]
def gO(n:Nat) (p:Ps) (s:Ls):List Nd×Option (Nat×Int):=PP (s.length+1) n p s
theorem VQ(n:Nat) (p:Ps):gO n p []=if p.1=[]∨p.2.1≠[] then([],some (n,4)) else(p.1,none):=rfl
theorem aDA{n:Nat}{p:Ps}{s:Ls}(h0:s≠[]) (h:kJ s=none):gO n p s=([],some (n-s.length,4)):=by
 match s,h0 with
 |b::u,_ =>
  show PP (u.length+1+1) n p (b::u)=_;unfold PP;rw[h]
theorem IY{n:Nat}{p:Ps}{s r:Ls}{t:Tok}(h:kJ s=some (t,r)):gO n p s=if(hP p t (decide (s.length=n))).1≠0 then([],some (n-s.length,(hP p t (decide (s.length=n))).1)) else gO n (hP p t (decide (s.length=n))).2 r:=by
 match s with
 | []=>cases h
 |b::u =>
  have hl:=sF h
  show PP (u.length+1+1) n p (b::u)=_;unfold PP;rw[h];dsimp only;rw[IX (u.length+1) (r.length+1) n _ r (by rw[bAH] at hl; omega) (by omega)];rfl
def aXS(s:Ls):List Nd×Option (Nat×Int)→List Nd×List (Int×Int×Int)
 |(l,none)=>(l,[])
 |(_,some (i,e))=>([],atP s i e)
def p0:Ps:=([],[],false)
def aDB(s:Ls):List Nd×List (Int×Int×Int):=if 262144<s.length then([],atP s 0 9) else aXS s (gO s.length p0 s)
theorem aHU{s r:Ls}{i:Nat}(hi:i≤s.length) (h:∃k,r=(s.drop i).drop k) (hl:r.length≤s.length):r=s.drop (s.length-r.length):=by
 obtain⟨k,rfl⟩:=h;rw[bA5,bAL]
 by_cases e:i+k≤s.length
 ·rw[show s.length-(s.length-(i+k))=i+k by omega]
 ·rw[aY7 (by omega),aY7 (by omega)]
theorem VR{s:Ls}(hs:s.length≤3999999):q90 fuelH s=some (aDB s):=by
 unfold q90 aDB
 have h00:kN fuelH (s,(0:Int),(9:Int))=some (atP s 0 9):=aAG hs (bBR _) 9
 by_cases h1:262144<s.length
 ·rw[aD (aV (by simp only[len]; omega)),if_pos h1,h00];rfl
 rw[aC (aW (by simp only[len]; omega)),if_neg h1,bT]
 have hend:kN fuelH (s,len s,(4:Int))=some (atP s s.length 4):=aAG hs (bBQ _) 4
 refine bBT (cW (s:=s) (fun (p:Ps) (i:Nat)=>((i:Int),p)) (fun p r=>some (aXS s (gO s.length p r))) (fun i p=>PsOk i p) ?_ fuelH 0 p0 (cX (by omega) _) (bBR _) ⟨fun k=>(by cases k),bBR _,bBR _,fun n hn=>(by cases hn)⟩) rfl;intro self p i hi hI hself;dsimp only
 by_cases hil:i<s.length
 ·have hd:cJ (toN (i:Int)) s=s.drop i:=by simp[cJ,toN]
  have hdl:(s.drop i).length=s.length-i:=bAL
  have hne:s.drop i≠[]:=by
   intro k;rw[k,bAZ] at hdl;omega
  have hnx:=aKY (s:=s.drop i) (by omega) hne
  rw[aD (aV (by simp only[len]; omega)),aF (jG (by simp only[len]; omega)),hd]
  cases hn:kJ (s.drop i) with
  |none =>
   rw[hn] at hnx;obtain⟨t,n,hnx⟩:=hnx;rw[hnx,aB,aD (by rfl),aAG hs (by omega),aB,aDA hne hn,hdl,show s.length-(s.length-i)=i by omega];rfl
  |some q =>
   obtain⟨t,r⟩:=q;rw[hn] at hnx
   have hnx:eR fuelH (s.drop i)=some (t,(((s.drop i).length-r.length:Nat):Int),true):=hnx
   have hl:=sF hn
   have hk:=VP hn
   have hfirst:ieq (i:Int) 0=decide ((s.drop i).length=s.length):=by
    by_cases e:i=0
    ·subst e; simp[ieq]
    ·rw[cZ (by omega),decide_eq_false (by omega)]
   rw[hnx,aB,aC (by rfl)];dsimp only;rw[hfirst,aKZ _ (by have:=hk.1.tx; omega) (by have:=hk.1.al; omega) (fun a ha=>by have:=hk.1.av a ha; omega) (by have:=hI.nl; omega) (by have:=hI.sl; omega) hI.jn (fun n hm=>by have:=hI.tx n hm; omega),aB,IY hn]
   by_cases e:(hP p t (decide ((s.drop i).length=s.length))).1=0
   ·rw[aC (cN e),if_neg (fun k=>k e)]
    have hw:w64 (aE (i:Int) (((s.drop i).length-r.length:Nat):Int))=((s.length-r.length:Nat):Int):=by
     simp only[aE];rw[bS (by omega)];omega
    rw[hw]
    have hok:=aK0 (decide ((s.drop i).length=s.length)) hn hI e
    have hsuf:r=s.drop (s.length-r.length):=aHU hi (aC9 hn) (by omega)
    refine bBT (hself _ (s.length-r.length) (by omega) (by omega) ?_) ?_
    ·rw[show s.length-r.length=i+((s.drop i).length-r.length) by omega];exact hok
    ·rw[←hsuf]
   ·rw[aD (cA e),if_pos e,aAG hs (by omega),aB,hdl,show s.length-(s.length-i)=i by omega];rfl
 ·obtain rfl:i=s.length:=by omega
  rw[aC (aW (by simp only[len]; omega)),bAR,VQ]
  by_cases e1:p.1=[]
  ·rw[aD (by rw[e1]; rfl),if_pos (.inl e1),hend];rfl
  ·have hp1:0<p.1.length:=aZY.2 e1
   rw[aC (cZ (by simp only[len]; omega))]
   by_cases e2:p.2.1=[]
   ·rw[aC (by rw[e2]; rfl),if_neg (fun k=>by rcases k with k|k; exact e1 k; exact k e2)];rfl
   ·have hp2:0<p.2.1.length:=aZY.2 e2
    rw[aD (aV (by simp only[len]; omega)),if_pos (.inr e2),hend];rfl
theorem aK1{b x:UInt8}(h:x∈GA b):x≠60∧x≠34∧x≠62∧x≠39∧(x=b∨32≤x.toNat):=by
 have key:∀c:Ls,(c.all fun x=>x != 60&&x != 34&&x != 62&&x != 39&&decide (32≤x.toNat))=true→x∈c→x≠60∧x≠34∧x≠62∧x≠39∧(x=b∨32≤x.toNat):=fun c hc hx=>by
  have:=bAQ.1 hc x hx
  simp only[bAI,bne_iff_ne,ne_eq,decide_eq_true_eq] at this;exact⟨this.1.1.1.1,this.1.1.1.2,this.1.1.2,this.1.2,.inr this.2⟩
 unfold GA at h
 split at h
 ·exact key _ (by rfl) h
 split at h
 ·exact key _ (by rfl) h
 split at h
 ·exact key _ (by rfl) h
 split at h
 ·exact key _ (by rfl) h
 split at h
 ·exact key _ (by rfl) h
 ·simp at h;subst h;rename_i h2 h3 h4 h5;exact⟨h2,h4,h3,h5,.inl rfl⟩
theorem PQ{v:Ls}{x:UInt8}(h:x∈esc v):x≠60∧x≠34∧x≠62∧x≠39∧(x∈v∨32≤x.toNat):=by
 unfold esc at h;obtain⟨b,hb,hx⟩:=List.mem_flatMap.1 h
 have:=aK1 hx
 exact⟨this.1,this.2.1,this.2.2.1,this.2.2.2.1,this.2.2.2.2.elim (fun e=>.inl (by rw[e]; exact hb)) .inr⟩
theorem aK2{r:Int}(h:dR r=true):((enc r).all fun b=>decide (32≤b.toNat))=true :=
 vT (P:=fun r=>(enc r).all fun b=>decide (32≤b.toNat)) (by kernel_rfl) h
theorem aK3{v:Ls}(h:vld v=true):∀b∈v,32≤b.toNat:=by
 have h1:=aJ8 h
 have h2:=aQC h
 intro b hb;rw[←h1] at hb;unfold ofR at hb;obtain⟨r,hr,hx⟩:=List.mem_flatMap.1 hb
 have:=aK2 (bAQ.1 h2 r hr)
 exact of_decide_eq_true (bAQ.1 this b hx)
theorem aK4{s:Ls}(h:∀b∈s,32≤b.toNat):s.map flatB=s:=by
 conv=>rhs; rw[←List.map_id s]
 refine List.map_congr_left fun b hb=>?_
 have:=h b hb
 have h9:(b==9)=false:=by
  simp only[beq_eq_false_iff_ne,ne_eq];intro e; rw[e] at this; revert this; decide
 have h10:(b==10)=false:=by
  simp only[beq_eq_false_iff_ne,ne_eq];intro e; rw[e] at this; revert this; decide
 have h13:(b==13)=false:=by
  simp only[beq_eq_false_iff_ne,ne_eq];intro e; rw[e] at this; revert this; decide
 unfold flatB aR;rw[h9,h10,h13];rfl
theorem aAK{v:Ls}(h:vld v=true):∀b∈esc v,32≤b.toNat:=fun b hb=>(PQ hb).2.2.2.2.elim (aK3 h b) id
theorem VS{v:Ls}(h:vld v=true):eB (esc v)=(v,0):=by
 have e:un [] ((esc v).map flatB)=(v,0):=by rw[aK4 (aAK h),P4]; rfl
 unfold eB;rw[e];rw[if_neg (by simp),if_neg (by rw[h]; decide)]
theorem BL{P:UInt8→Bool}{v t:Ls}{c:UInt8}(h:∀b∈v,P b=true) (hc:P c=false):(v++c::t).takeWhile P=v:=by
 rw[aYR h,aZZ,hc];simp
theorem oM{s:Ls}(h:nmX s=true):∃b l,s=b::l∧oF b=true∧(∀x∈s,nE x=true)∧s.length≤32:=by
 unfold nmX at h;simp only[bAI] at h
 match s,h with
 | [],h=>simp at h
 |b::l,h =>
  refine⟨b,l,rfl,h.1.2,fun x hx=>bAQ.1 h.2 x hx,of_decide_eq_true h.1.1.2⟩
theorem yI{s t:Ls}{c:UInt8}(h:nmX s=true) (hc:nE c=false):dJ (s++c::t)=s:=by
 obtain⟨b,l,rfl,h1,h2,_⟩:=oM h;rw[bAJ,yE,if_pos h1,BL (fun x hx=>h2 x (aZL _ hx)) hc]
theorem aK5:((List.range 256).all fun n=>decide (oF (UInt8.ofNat n)=true→(wsB (UInt8.ofNat n)=false∧UInt8.ofNat n≠62∧UInt8.ofNat n≠47∧UInt8.ofNat n≠63∧UInt8.ofNat n≠33)))=true:=by kernel_rfl
theorem aAL{x:UInt8}(h:oF x=true):wsB x=false∧x≠62∧x≠47∧x≠63∧x≠33 :=
 of_decide_eq_true (eT (P:=fun x=>decide (oF x=true→(wsB x=false∧x≠62∧x≠47∧x≠63∧x≠33))) aK5 x) h
theorem yJ{b:UInt8}{t:Ls}(h:wsB b=false):skp (b::t)=b::t:=by
 unfold skp;rw[aZZ,h];rfl
theorem aK6{b:UInt8}{t:Ls}(h:wsB b=true):skp (b::t)=skp t:=by
 unfold skp;rw[aZZ,h,if_pos rfl,bAH,aZU]
def atT(l:List At):Ls:=l.flatMap fun a=>32::(a.1++(61::34::(esc a.2++[34])))
def sS(l:List At):List At:=l.map fun a=>(a.1,esc a.2)
theorem wB(a:At) (l:List At) (rest:Ls):atT (a::l)++rest=32::(a.1++61::(34::(esc a.2++34::(atT l++rest)))):=by
 unfold atT;rw[List.flatMap_cons];simp
theorem Q1{a:At}{rest:Ls}(h:nmX a.1=true):iZ (a.1++61::(34::(esc a.2++34::rest)))=some ((a.1,esc a.2),rest):=by
 have hn:=yI (t:=34::(esc a.2++34::rest)) h (show nE 61=false by rfl)
 obtain⟨b,l,he,_⟩:=oM h
 have hv:PN 34 (esc a.2++34::rest)=some (esc a.2,rest):=by
  unfold PN
  have ht:(esc a.2++34::rest).takeWhile (fun b=>b != 34&&b != 60)=esc a.2:=BL (fun x hx=>by have:=PQ hx; simp[this.1,this.2.1]) (by rfl)
  rw[ht,List.drop_left];dsimp only;rw[if_pos rfl]
 unfold iZ;rw[hn,if_neg (by rw[he]; simp),List.drop_left,yJ (by rfl)];dsimp only;rw[if_pos rfl,yJ (by rfl)];dsimp only;rw[if_pos (Or.inl rfl),hv]
theorem IZ(close:Ls) (k:Int) (hc:close=[62]∧k=1∨close=[47,62]∧k=3) (rest:Ls):∀(l pre:List At),(∀a∈l,nmX a.1=true)→VM (atT l++(close++rest)) pre=some (k,pre++sS l,rest)
 | [],pre,_=>by
  have h0:atT []++(close++rest)=close++rest:=rfl
  have h1:pre++sS []=pre:=by simp[sS]
  rw[h0,h1,yH];rcases hc with⟨rfl,rfl⟩|⟨rfl,rfl⟩
  ·have hs:skp ([62]++rest)=62::rest:=yJ (by rfl)
   rw[hs];dsimp only;rw[if_pos rfl]
  ·have hs:skp ([47,62]++rest)=47::62::rest:=yJ (by rfl)
   rw[hs];dsimp only;rw[if_neg (by decide),if_pos ⟨rfl,rfl⟩];rfl
 |a::l,pre,h=>by
  have ha:=h a aZ4
  obtain⟨b,m,he,hb,_⟩:=oM ha
  have hnot:=aAL hb
  have hr:pre++sS (a::l)=(pre++[(a.1,esc a.2)])++sS l:=by simp[sS]
  have ih:=IZ close k hc rest l (pre++[(a.1,esc a.2)]) fun x hx=>h x (aZL _ hx)
  have hap:=Q1 (rest:=atT l++(close++rest)) ha
  have hs:skp (atT (a::l)++(close++rest))=a.1++61::(34::(esc a.2++34::(atT l++(close++rest)))):=by
   rw[wB,aK6 (by rfl),he,bAJ,yJ hnot.1]
  have hlen:(atT (a::l)++(close++rest)).length=(a.1++61::(34::(esc a.2++34::(atT l++(close++rest))))).length+1:=by rw[wB,bAH]
  rw[yH,hs,hlen,hr,←ih];generalize hu:a.1++61::(34::(esc a.2++34::(atT l++(close++rest))))=u at *
  have hub:∃w,u=b::w:=⟨_,by rw[←hu,he]; rfl⟩
  obtain⟨w,hw⟩:=hub;rw[hw] at hap ⊢;dsimp only;rw[if_neg hnot.2.1,if_neg (fun q=>hnot.2.2.1 q.1),if_neg (by omega),hap]
theorem rM{name rest:Ls}{l:List At}{close:Ls}{k:Int}(hc:close=[62]∧k=1∨close=[47,62]∧k=3) (hn:nmX name=true) (hl:∀a∈l,nmX a.1=true):kJ (60::(name++(atT l++(close++rest))))=some ((k,name,sS l,[]),rest):=by
 obtain⟨b,m,he,hb,_⟩:=oM hn
 have hnot:=aAL hb
 have hstop:∃c t,atT l++(close++rest)=c::t∧nE c=false:=by
  match l with
  | [] =>
   rcases hc with⟨rfl,_⟩|⟨rfl,_⟩
   ·exact⟨62,rest,rfl,rfl⟩
   ·exact⟨47,62::rest,rfl,rfl⟩
  |a::l=>exact⟨32,_,wB a l _,rfl⟩
 obtain⟨c,t,hct,hcn⟩:=hstop
 have hname:dJ (name++(atT l++(close++rest)))=name:=by rw[hct]; exact yI hn hcn
 have htag:=IZ close k hc rest l [] hl
 rw[gE,if_pos rfl,if_neg (by rw[he]; simp[hnot.2.2.2.1]),if_neg (by rw[he]; simp[hnot.2.2.2.2]),if_neg (by rw[he]; simp[hnot.2.2.1])];unfold GD
 have hd:(60::(name++(atT l++(close++rest)))).drop 1=name++(atT l++(close++rest)):=rfl
 rw[hd,hname,if_neg (by rw[he]; simp),List.drop_left,htag];rfl
theorem JA{name rest:Ls}(hn:nmX name=true):kJ (60::47::(name++62::rest))=some ((2,name,[],[]),rest):=by
 obtain⟨b,m,he,hb,_⟩:=oM hn
 have hname:dJ (name++62::rest)=name:=yI hn rfl
 rw[gE,if_pos rfl,if_neg (by simp),if_neg (by simp),if_pos (by rfl)];unfold P8
 have hd:(60::47::(name++62::rest)).drop 2=name++62::rest:=rfl
 rw[hd,hname,if_neg (by rw[he]; simp),List.drop_left,yJ (by rfl)];dsimp only;rw[if_pos rfl]
theorem Q2{v rest:Ls}(hv:v≠[]):kJ (esc v++60::rest)=some ((0,[],[],esc v),60::rest):=by
 have ht:(esc v++60::rest).takeWhile hM=esc v:=BL (fun x hx=>by have:=PQ hx; simp[hM,this.1]) (by rfl)
 obtain⟨b,m,he⟩:∃b m,esc v=b::m:=by
  match v,hv with
  |c::w,_ =>
   have:=(UA c).1
   rw[VB]
   match hq:GA c with
   | []=>rw[hq] at this; simp at this
   |x::y=>exact⟨x,_,rfl⟩
 have hb:b≠60:=(PQ (show b∈esc v by rw[he]; exact aZ4)).1
 have hcons:esc v++60::rest=b::(m++60::rest):=by rw[he]; rfl
 rw[hcons,gE,if_neg hb,←hcons,ht,List.drop_left]
theorem aAM:∀(l:List At) (seen:List Ls) (out:List At),(∀a∈l,vld a.2=true)→(l.map Prod.fst).Nodup→(∀a∈l,a.1 ∉ seen)→atM seen out (sS l)=(0,out++l)
 | [],_,out,_,_,_=>by simp[sS,atM]
 |a::l,seen,out,hv,hd,hs=>by
  have h1:sS (a::l)=(a.1,esc a.2)::sS l:=rfl
  rw[bBC,List.nodup_cons] at hd;rw[h1];unfold atM;dsimp only;rw[if_neg (hs a aZ4),VS (hv a aZ4)];dsimp only;rw[if_neg (by simp),aAM l _ _ (fun x hx=>hv x (aZL _ hx)) hd.2 (fun x hx=>?_)]
  ·simp
  ·rw[bAU];rintro(k|k)
   ·exact hs x (aZL _ hx) k
   ·simp at k;exact hd.1 (by rw[←k]; exact List.mem_map_of_mem hx)
structure AtOk (l:List At):Prop where
 nm:∀a∈l,nmX a.1=true
 vl:∀a∈l,vld a.2=true
 nd:(l.map Prod.fst).Nodup
 few:l.length≤16
theorem uH{p:Ps}{name:Ls}{l:List At}{k:Int}(first:Bool) (hk:k=1∨k=3) (hn:nmX name=true) (hl:AtOk l) (hr:jA p false=0) :
  hP p (k,name,sS l,[]) first=(0,p.1++[(name,[],l,(p.2.1.length:Int))],if k=1 then p.2.1++[name] else p.2.1,false):=by
 unfold hP;dsimp only;rw[if_neg (show ¬k=0 by omega),if_neg (show ¬k=2 by omega),if_neg (show ¬k=4 by omega)];unfold FC;dsimp only
 have h1:(sS l).map Prod.fst=l.map Prod.fst:=by unfold sS; rw[List.map_map]; rfl
 have h2:(sS l).length=l.length:=by unfold sS; rw[bA2]
 have h3:¬((name::l.map Prod.fst).all nmX=false):=by
  have:(name::l.map Prod.fst).all nmX=true:=by
   rw[bBF,hn,bBE,bAQ];intro x hx;obtain⟨a,ha,rfl⟩:=List.mem_map.1 hx;exact hl.nm a ha
  rw[this];decide
 rw[h1,if_neg h3,h2,if_neg (by have:=hl.few; omega),aAM l [] [] hl.vl hl.nd (fun a _=>by simp)];dsimp only;rw[if_neg (by simp),if_neg (by rw[hr]; simp)];rfl
theorem VT{p:Ps}{name:Ls}(first:Bool) (hn:nmX name=true) (hl:p.2.1.getLast?=some name):hP p (2,name,[],[]) first=(0,p.1,p.2.1.dropLast,false):=by
 unfold hP;dsimp only;rw[if_neg (show ¬(2:Int)=0 by decide),if_pos rfl];unfold aHP;rw[if_neg (by rw[hn]; decide),if_pos hl]
theorem aDC{p:Ps}{v:Ls}(first:Bool) (hv:vld v=true) (ho:p.2.1≠[]) (hj:p.2.2=false) (hr:jA p true=0):hP p (0,[],[],esc v) first=(0,p.1++[([],v,[],(p.2.1.length:Int))],p.2.1,true):=by
 have hnl:nlB (esc v)=false:=by
  unfold nlB
  have:(esc v).takeWhile (fun b=>b != 10)=esc v:=by
   have:=aYR (p:=fun b:UInt8=>b != 10) (l₁:=esc v) (l₂:=[]) (fun x hx=>by
    have:=aAK hv x hx
    simp only[bne_iff_ne,ne_eq];intro e;rw[e] at this
    revert this
    decide)
   simpa using this
  rw[this];simp
 unfold hP;rw[if_pos rfl];unfold FB;dsimp only;rw[if_neg (fun k=>by rcases k.2 with q|q; rw[hnl] at q; cases q; exact ho q),VS hv];dsimp only;rw[if_neg (by simp),if_neg (by rw[hr]; simp),if_neg (by rw[hj]; decide)]
theorem mX{n:Nat}{p q:Ps}{s r:Ls}{t:Tok}(h:kJ s=some (t,r)) (ht:∀f,hP p t f=(0,q)):gO n p s=gO n q r:=by
 rw[IY h,ht];dsimp only;rw[if_neg (by simp)]
def clT(name:Ls):Ls:=60::47::(name++[62])
def cls(st:List Ls):Ls:=st.reverse.flatMap clT
def kid(n:Nd):List Nd→Bool
 | []=>false
 |m::_=>decide (dep n<dep m)
def prT:List Ls→List Nd→Ls
 |st,[]=>cls st
 |st,n::r=>cls (st.drop (dep n).toNat)++(if n.1=[] then esc n.2.1++prT (st.take (dep n).toNat) r
   else 60::(n.1++(atT n.2.2.1++(if kid n r=true then 62::prT (st.take (dep n).toNat++[n.1]) r else 47::62::prT (st.take (dep n).toNat) r))))
def FD(l:List Nd):Ls×Int:=if oK l≠0 then([],oK l) else if 262144<(prT [] l).length then([],9) else(prT [] l,0)
theorem BM(a b:List Ls):cls (a++b)=cls b++cls a:=by unfold cls; rw[List.reverse_append,List.flatMap_append]
theorem PR(n:Ls):cls [n]=clT n:=by unfold cls; simp
theorem wC:cls []=[]:=rfl
theorem aDD(st:List Ls) (d:Nat):cls st=cls (st.drop d)++cls (st.take d):=by
 rw[←BM,aZE]
theorem aK7(l:List At):(atT l).length≤6*bkL wtA l:=by
 induction l with
 |nil=>simp[atT]
 |cons a l ih =>
  have h:=wB a l []
  rw[bAV,bAV] at h
  have he:=PF a.2
  have hb:bkL wtA (a::l)=a.1.length+1+(a.2.length+1)+bkL wtA l:=rfl
  rw[h,hb];simp only[bAH,aZ0];omega
theorem BN:∀(l:List Nd) (st:List Ls),(prT st l).length≤(cls st).length+7*bkL wtN l
 | [],st=>by unfold prT; omega
 |n::r,st=>by
  have hc:=congrArg List.length (aDD st (dep n).toNat)
  rw[aZ0] at hc
  have i1:=BN r (st.take (dep n).toNat)
  have i2:=BN r (st.take (dep n).toNat++[n.1])
  have h2:(cls (st.take (dep n).toNat++[n.1])).length=n.1.length+3+(cls (st.take (dep n).toNat)).length:=by
   rw[BM,PR,aZ0];unfold clT;simp
  have he:=PF n.2.1
  have ha:=aK7 n.2.2.1
  have hb:bkL wtN (n::r)=n.1.length+1+(n.2.1.length+1+(bkL wtA n.2.2.1+1+1))+bkL wtN r:=rfl
  unfold prT;rw[hb]
  split
  ·rw[aZ0,aZ0];omega
  ·rw[aZ0,bAH,aZ0,aZ0]
   split
   ·rw[bAH];omega
   ·rw[bAH,bAH];omega
theorem aHV{st:List Ls}(h:st≠[]):gQ st 0 (toN ((st.length-1:Nat):Int))=st.dropLast:=by
 simp only[gQ,toN,bAF,bA6];rw[List.dropLast_eq_take]
theorem VU{R:Type}{d:Int}(hd:0≤d) (K:List Ls×Unit×Ls→Option R):∀(fuel:Nat) (st:List Ls) (a:Ls),st.length<fuel→st.length≤300000→a.length+(cls (st.drop d.toNat)).length≤100000000 →
  bD (fun v27 (v28:(List Y_)×Unit×Y_) =>
     cnd (ilt d (len v28.1))
      (grd (inb (w64 (aI (len v28.1) (1:Int))) (len v28.1))
       (grd (cL (aE (len ([60,47]:Y_)) (len (aA v28.1 (toN (w64 (aI (len v28.1) (1:Int)))) []))))
        (grd (cL (aE (len (aU ([60,47]:Y_) (aA v28.1 (toN (w64 (aI (len v28.1) (1:Int)))) []))) (len ([62]:Y_))))
         (bnd (q31 fuelH (((),v28.2.2),aU (aU ([60,47]:Y_) (aA v28.1 (toN (w64 (aI (len v28.1) (1:Int)))) [])) ([62]:Y_))) fun v29 =>
         grd (in2 (w64 (aI (len v28.1) (1:Int))) (ofN (kM v28.1))) <|
         v27 (gQ v28.1 0 (toN (w64 (aI (len v28.1) (1:Int)))),(),v29.2.2.2)))))
      (K v28)) fuel (st,(),a)=K (st.take d.toNat,(),a++cls (st.drop d.toNat))
 | 0,_,_,h,_,_=>by omega
 |fuel+1,st,a,h,hl,hb=>by
  rw[dQ];dsimp only
  by_cases e:d.toNat<st.length
  ·have hne:st≠[]:=fun k=>by rw[k] at e; simp at e
   obtain⟨n,q1,q2,q3,q4⟩:=wA hne
   have hp:0<st.length:=aZY.2 hne
   have hw:w64 (aI (len st) 1)=((st.length-1:Nat):Int):=rF hp (by omega)
   have hg:aA st (toN ((st.length-1:Nat):Int)) []=n:=by rw[bB q3,q4]
   have hdl:st.dropLast.length=st.length-1:=aZN
   have hc:cls (st.drop d.toNat)=clT n++cls (st.dropLast.drop d.toNat):=by
    conv=>lhs; rw[q2]
    rw[List.drop_append_of_le_length (by omega),BM,PR]
   have hcl:=congrArg List.length hc
   rw[aZ0] at hcl
   have hT:aU (aU ([60,47]:Y_) n) ([62]:Y_)=clT n:=by unfold clT; simp[aU]
   have hTl:(clT n).length=n.length+3:=by unfold clT; simp
   rw[aD (aV (by simp only[len]; omega)),hw,hg,aF (aX (by simp only[len]; omega)),aF (dS (by simp only[len,aE,bAH,bAZ]; omega)),aF (dS (by simp only[len,aE,aU,aZ0,bAH,bAZ]; omega)),hT,mW _ _ (by show a.length+_≤_; omega),aB,aF (jG (by simp only[ofN,kM]; omega)),aHV hne];refine bBT (VU hd K fuel st.dropLast (a++clT n) (by omega) (by omega) (by rw[aZ0]; omega)) ?_
   have ht:st.dropLast.take d.toNat=st.take d.toNat:=by
    conv=>rhs; rw[q2]
    rw[List.take_append_of_le_length (by omega)]
   rw[ht,hc,bAA]
  ·rw[aC (aW (by simp only[len]; omega)),aY6 (by omega),aY7 (by omega),wC,bAV]
theorem VV{R:Type}{st:List Ls}(hl:st.length≤300000) (K:Int×Unit×Ls→Option R):∀(fuel k:Nat) (a:Ls),k<fuel→k≤st.length→a.length+(cls (st.take k)).length≤100000000 →
  bD (fun v5 (v6:Int×Unit×Y_) =>
    cnd (ile (0:Int) v6.1)
     (grd (inb v6.1 (len st))
      (grd (cL (aE (len ([60,47]:Y_)) (len (aA st (toN v6.1) []))))
       (grd (cL (aE (len (aU ([60,47]:Y_) (aA st (toN v6.1) []))) (len ([62]:Y_))))
        (bnd (q31 fuelH (((),v6.2.2),aU (aU ([60,47]:Y_) (aA st (toN v6.1) [])) ([62]:Y_))) fun v7 =>
        v5 (w64 (aI v6.1 (1:Int)),(),v7.2.2.2)))))
     (K v6)) fuel ((k:Int)-1,(),a)=K (-1,(),a++cls (st.take k))
 | 0,_,_,h,_,_=>by omega
 |fuel+1,k,a,h,hk,hb=>by
  rw[dQ];dsimp only
  cases k with
  |zero =>
   rw[aC (jF (by omega)),bA8,wC,bAV];rfl
  |succ k =>
   have hkl:k<st.length:=by omega
   have e0:((k+1:Nat):Int)-1=(k:Int):=by omega
   have e1:w64 (aI (k:Int) 1)=(k:Int)-1:=by
    simp only[aI];rw[bS (by omega)]
   have hc:cls (st.take (k+1))=clT st[k]++cls (st.take k):=by rw[aYO hkl,BM,PR]
   have hcl:=congrArg List.length hc
   rw[aZ0] at hcl
   have hT:aU (aU ([60,47]:Y_) st[k]) ([62]:Y_)=clT st[k]:=by unfold clT; simp[aU]
   have hTl:(clT st[k]).length=st[k].length+3:=by unfold clT; simp
   rw[e0,aD (gP (by omega)),aF (aX (by simp only[len]; omega)),bB hkl,aF (dS (by simp only[len,aE,bAH,bAZ]; omega)),aF (dS (by simp only[len,aE,aU,aZ0,bAH,bAZ]; omega)),hT,mW _ _ (by show a.length+_≤_; omega),aB,e1];refine bBT (VV hl K fuel k (a++clT st[k]) (by omega) (by omega) (by rw[aZ0]; omega)) ?_;rw[hc,bAA]
theorem Q3{R:Type}{l:List At}(hl:l.length≤1100000) (hv:∀a∈l,a.1.length≤1090000∧a.2.length≤1090000) (K:Int×Unit×Ls→Option R) (a0:Ls) (hb:a0.length+(atT l).length≤100000000) :
  bD (fun v22 (v23:Int×Unit×Y_) =>
        cnd (ilt v23.1 (len l))
         (grd (inb v23.1 (len l))
          (grd (cL (aE (len ([32]:Y_)) (len (aA l (toN v23.1) ([],[])).1)))
           (grd (cL (aE (len (aU ([32]:Y_) (aA l (toN v23.1) ([],[])).1)) (len ([61,34]:Y_))))
            (bnd (q63 fuelH (aA l (toN v23.1) ([],[])).2) fun v24 =>
            grd (cL (aE (len (aU (aU ([32]:Y_) (aA l (toN v23.1) ([],[])).1) ([61,34]:Y_))) (len v24))) <|
            grd (cL (aE (len (aU (aU (aU ([32]:Y_) (aA l (toN v23.1) ([],[])).1) ([61,34]:Y_)) v24)) (len ([34]:Y_)))) <|
            bnd (q31 fuelH (((),v23.2.2),aU (aU (aU (aU ([32]:Y_) (aA l (toN v23.1) ([],[])).1) ([61,34]:Y_)) v24) ([34]:Y_))) fun v25 =>
            v22 (w64 (aE v23.1 (1:Int)),(),v25.2.2.2)))))
         (K v23)) fuelH ((0:Int),(),a0)=K ((l.length:Int),(),a0++atT l):=by
 refine cW (s:=l) (fun (a:Ls) (j:Nat)=>((j:Int),((),a))) (fun a r=>K ((l.length:Int),((),a++atT r))) (fun j a=>a.length+(atT (l.drop j)).length≤100000000) ?_ fuelH 0 a0 (cX (by omega) _) (bBR _) hb;intro self a j hj hI hself;dsimp only
 by_cases hjl:j<l.length
 ·have hw:w64 (aE (j:Int) 1)=((j+1:Nat):Int):=aQ hjl (by omega)
  have hva:=hv _ (bAS hjl)
  have hel:=PF (l[j]).2
  have hT:aU (aU (aU (aU ([32]:Y_) (l[j]).1) ([61,34]:Y_)) (esc (l[j]).2)) ([34]:Y_)=32::((l[j]).1++(61::34::(esc (l[j]).2++[34]))):=by simp[aU]
  have hc:atT (l.drop j)=(32::((l[j]).1++(61::34::(esc (l[j]).2++[34]))))++atT (l.drop (j+1)):=by
   rw[aYY hjl];unfold atT;rw[List.flatMap_cons]
  have hcl:=congrArg List.length hc
  rw[aZ0] at hcl;rw[aD (aV (by simp only[len]; omega)),aF (aX (by simp only[len]; omega)),bB hjl,aF (dS (by simp only[len,aE,bAH,bAZ]; omega)),aF (dS (by simp only[len,aE,aU,aZ0,bAH,bAZ]; omega)),aG2 (by omega),aB,aF (dS (by simp only[len,aE,aU,aZ0,bAH,bAZ]; omega)),aF (dS (by simp only[len,aE,aU,aZ0,bAH,bAZ]; omega)),hT,mW _ _ (by show a.length+_≤_; omega),aB,hw];refine bBT (hself (a++(32::((l[j]).1++(61::34::(esc (l[j]).2++[34]))))) (j+1) (by omega) (by omega) (by rw[aZ0]; omega)) ?_;rw[hc,bAA]
 ·obtain rfl:j=l.length:=by omega
  rw[aC (aW (by simp only[len]; omega)),bAR]
  have:a++atT []=a:=by simp[atT]
  rw[this]
def VW(s:Ls):Option (Ls×Int):=some (if 262144<s.length then([],9) else(s,0))
theorem yK{n:Nd}(h:elE n=0):nmX n.1=true∧n.2.1=[]∧n.2.2.1.length≤16∧atE [] n.2.2.1=0:=by
 unfold elE at h
 by_cases h1:nmX n.1=false
 ·rw[if_pos h1] at h; cases h
 rw[if_neg h1] at h
 by_cases h2:n.2.1≠[]
 ·rw[if_pos h2] at h; cases h
 rw[if_neg h2] at h
 by_cases h3:16<n.2.2.1.length
 ·rw[if_pos h3] at h; cases h
 rw[if_neg h3] at h;exact⟨by simpa using h1,by simpa using h2,by omega,h⟩
theorem yL{p:Option Nd}{n:Nd}(h:txE p n=0):(∃q,p=some q∧¬(q.1=[]∧dep q=dep n))∧n.2.1≠[]∧n.2.2.1=[]∧vld n.2.1=true:=by
 unfold txE at h
 by_cases h1:txP p n=true
 ·rw[if_pos h1] at h; cases h
 rw[if_neg h1] at h
 by_cases h2:n.2.1=[]
 ·rw[if_pos h2] at h; cases h
 rw[if_neg h2] at h
 by_cases h3:0<n.2.2.1.length
 ·rw[if_pos h3] at h; cases h
 rw[if_neg h3] at h
 by_cases h4:vld n.2.1=false
 ·rw[if_pos h4] at h; cases h
 refine⟨?_,h2,aYP (by omega),by simpa using h4⟩
 cases p with
 |none=>exact absurd rfl h1
 |some q=>exact⟨q,rfl,fun k=>h1 (decide_eq_true k)⟩
theorem FE{p:Option Nd}{n:Nd}(h:ndE p n=0) (hn:n.1≠[]):elE n=0:=by
 have hd:=pD h
 unfold ndE at h;rw[if_neg (by rw[hd]; simp),if_pos hn] at h;exact h
theorem FF{p:Option Nd}{n:Nd}(h:ndE p n=0) (hn:n.1=[]):txE p n=0:=by
 have hd:=pD h
 unfold ndE at h;rw[if_neg (by rw[hd]; simp),if_neg (by rw[hn]; simp)] at h;exact h
theorem FG{l:List Nd}(hsm:∀n∈l,smN n) (hs:bkL wtN l≤3000000):q65 fuelH l=some (FD l):=by
 have hll:l.length≤3000000:=bBH (OQ (f:=wtN) (fun n=>by unfold wtN; omega) l) hs
 unfold q65 FD;rw[VJ (by omega) hsm,aB]
 by_cases hc:oK l=0
 ·obtain⟨h0,h8,hat⟩:=EW hc
  have hd:=BI hat
  have htot:=BN l []
  have hc0:(cls []).length=0:=rfl
  rw[aC (cN hc),if_neg (fun k=>k hc),bT]
  have hfin:∀s:Ls,VW s=some (if 262144<s.length then([],9) else(s,0)):=fun _=>rfl
  have hgoal:(some (if 262144<(prT [] l).length then(([]:Ls),(9:Int)) else(prT [] l,0)))=VW ([]++prT [] l):=rfl
  rw[hgoal];refine cW (s:=l) (fun (p:List Ls×Ls) (i:Nat)=>(p.1,((i:Int),((),p.2)))) (fun p r=>VW (p.2++prT p.1 r)) (fun i p=>p.1.length≤i∧p.2.length+(prT p.1 (l.drop i)).length≤100000000) ?_ fuelH 0 ([],[]) (cX (by omega) _) (bBR _) ⟨bBR _,by rw[bA6]; simp; omega⟩;intro self p i hi hI hself;obtain⟨st,a⟩:=p;dsimp only at hI ⊢
  by_cases hil:i<l.length
  ·have hw:w64 (aE (i:Int) 1)=((i+1:Nat):Int):=aQ hil (by omega)
   have hin:inb (i:Int) (len l)=true:=aX (by simp only[len]; omega)
   have hn:=hsm _ (bAS hil)
   have hdi:0≤(l[i]).2.2.2∧(l[i]).2.2.2≤15:=hd.high i hil
   have hb:=hI.2
   rw[aYY hil] at hb ⊢
   have hpr:prT st (l[i]::l.drop (i+1))=cls (st.drop (dep l[i]).toNat)++(if(l[i]).1=[] then esc (l[i]).2.1++prT (st.take (dep l[i]).toNat) (l.drop (i+1))
   else 60::((l[i]).1++(atT (l[i]).2.2.1++(if kid l[i] (l.drop (i+1))=true then 62::prT (st.take (dep l[i]).toNat++[(l[i]).1]) (l.drop (i+1)) else 47::62::prT (st.take (dep l[i]).toNat) (l.drop (i+1)))))):=rfl
   have hbl:=hb
   rw[hpr,aZ0] at hbl;rw[aD (aV (by simp only[len]; omega)),bT,aF hin,bT];simp only[pN hil];refine bBT (VU hdi.1 _ fuelH st a (by have:=bF; have:=hI.1; omega) (by have:=hI.1; omega) (by have:dep l[i]=(l[i]).2.2.2:=rfl; rw[this] at hbl; omega)) ?_;dsimp only
   have hdd:(l[i]).2.2.2=dep l[i]:=rfl
   rw[hdd,hpr];generalize hst:st.take (dep l[i]).toNat=s2 at *
   have hs2:s2.length≤i:=by rw[←hst,bAK]; have:=hI.1; omega
   generalize cls (st.drop (dep l[i]).toNat)=c at *
   by_cases he:(l[i]).1=[]
   ·rw[if_pos he] at hbl ⊢;rw[aZ0] at hbl;rw[aD (by rw[dA]; exact he),aG2 (by have:=hn.tx; omega),aB,mW _ _ (by rw[aZ0]; omega),aB];dsimp only;rw[hw];refine bBT (hself (s2,a++c++esc (l[i]).2.1) (i+1) (by omega) (by omega) ⟨by show s2.length≤_; omega,?_⟩) ?_
    ·show(a++c++esc (l[i]).2.1).length+(prT s2 (l.drop (i+1))).length≤100000000;rw[aZ0,aZ0];omega
    ·show VW (a++c++esc (l[i]).2.1++prT s2 (l.drop (i+1)))=_;rw[bAA,bAA]
   ·rw[if_neg he] at hbl ⊢;rw[bAH,aZ0,aZ0] at hbl
    have hnm:=hn.nm
    rw[aC (by rw[cC]; simpa using he),aF (dS (by simp only[len,aE,bAH,bAZ]; omega))]
    have hl60:aU ([60]:Y_) (l[i]).1=60::(l[i]).1:=rfl
    rw[hl60,mW _ _ (by rw[aZ0,bAH]; omega),aB,bT];refine bBT (Q3 (by have:=hn.asz; omega) hn.an _ _ (by rw[aZ0,aZ0,bAH]; omega)) ?_;dsimp only
    -- whether there are children
    have leaf:kid l[i] (l.drop (i+1))=false→(bnd (q31 fuelH (((),a++c++(60::(l[i]).1)++atT (l[i]).2.2.1),([47,62]:Y_))) fun v19=>self (s2,w64 (aE (i:Int) 1),(),v19.2.2.2))=VW (a++(c++(60::((l[i]).1++(atT (l[i]).2.2.1++(if kid l[i] (l.drop (i+1))=true then 62::prT (s2++[(l[i]).1]) (l.drop (i+1)) else 47::62::prT s2 (l.drop (i+1)))))))):=fun hk=>by
     rw[hk,if_neg (by decide)] at hbl ⊢;rw[bAH,bAH] at hbl;rw[mW _ _ (by rw[aZ0,aZ0,aZ0,bAH,bAH,bAH,bAZ]; omega),aB,hw];dsimp only;refine bBT (hself (s2,a++c++(60::(l[i]).1)++atT (l[i]).2.2.1++[47,62]) (i+1) (by omega) (by omega) ⟨by show s2.length≤_; omega,?_⟩) ?_
     ·show(a++c++(60::(l[i]).1)++atT (l[i]).2.2.1++[47,62]).length+(prT s2 (l.drop (i+1))).length≤100000000;rw[aZ0,aZ0,aZ0,aZ0,bAH,bAH,bAH,bAZ];omega
     ·show VW (a++c++(60::(l[i]).1)++atT (l[i]).2.2.1++[47,62]++prT s2 (l.drop (i+1)))=_;congr 1;simp
    by_cases h1:i+1<l.length
    ·have hin1:inb ((i+1:Nat):Int) (len l)=true:=aX (by simp only[len]; omega)
     have hkd:kid l[i] (l.drop (i+1))=decide (dep l[i]<dep l[i+1]):=by
      rw[aYY h1];rfl
     rw[hw,aD (aV (by simp only[len]; omega)),aF hin1,pN h1]
     by_cases h2:dep l[i]<dep l[i+1]
     ·have hk:kid l[i] (l.drop (i+1))=true:=by rw[hkd]; exact decide_eq_true h2
      rw[hk,if_pos rfl] at hbl ⊢;rw[bAH] at hbl;rw[aD (aV (show dep l[i]<(l[i+1]).2.2.2 from h2)),mW _ _ (by rw[aZ0,aZ0,aZ0,bAH,bAH,bAZ]; omega),aB,aF (cV (by simp only[len,aE,bAH,bAZ]; omega))];dsimp only;refine bBT (hself (s2++[(l[i]).1],a++c++(60::(l[i]).1)++atT (l[i]).2.2.1++[62]) (i+1) (by omega) (by omega) ⟨by show(s2++[(l[i]).1]).length≤_; rw[aZ0,bAH,bAZ]; omega,?_⟩) ?_
      ·show(a++c++(60::(l[i]).1)++atT (l[i]).2.2.1++[62]).length+(prT (s2++[(l[i]).1]) (l.drop (i+1))).length≤100000000;rw[aZ0,aZ0,aZ0,aZ0,bAH,bAH,bAZ];omega
      ·show VW (a++c++(60::(l[i]).1)++atT (l[i]).2.2.1++[62]++prT (s2++[(l[i]).1]) (l.drop (i+1)))=_;congr 1;simp
     ·rw[aC (aW (show ¬dep l[i]<(l[i+1]).2.2.2 from h2)),←hw];exact leaf (by rw[hkd]; exact decide_eq_false h2)
    ·have hkd:kid l[i] (l.drop (i+1))=false:=by
      rw[aY7 (by omega)];rfl
     rw[aC (aW (by rw[hw]; simp only[len]; omega))];exact leaf hkd
  ·obtain rfl:i=l.length:=by omega
   have hb:=hI.2
   rw[bAR] at hb ⊢
   have hpr:prT st []=cls st:=rfl
   rw[hpr] at hb ⊢
   have e1:w64 (aI (len st) 1)=(st.length:Int)-1:=by
    have:=hI.1
    simp only[aI,len];rw[bS (by omega)]
   rw[aC (aW (by simp only[len]; omega)),bT,e1];refine bBT (VV (by have:=hI.1; omega) _ fuelH st.length a (by have:=bF; have:=hI.1; omega) (bBQ _) (by rw[bAO]; omega)) ?_;rw[bAO]
   have hlen:q64 fuelH ((),a++cls st)=some (len (a++cls st),(),a++cls st):=rfl
   dsimp only;rw[hlen,aB];unfold VW
   by_cases h9:262144<(a++cls st).length
   ·rw[aD (aV (by simp only[len]; omega)),if_pos h9]
   ·rw[aC (aW (by simp only[len]; omega)),if_neg h9]
 ·rw[aD (cA hc),if_pos hc]
theorem aHW:∀(l:List At) (seen:List Ls),atE seen l=0→(∀a∈l,nmX a.1=true∧vld a.2=true∧a.1 ∉ seen)∧(l.map Prod.fst).Nodup
 | [],_,_=>⟨fun a ha=>(by cases ha),by simp⟩
 |a::l,seen,h=>by
  unfold atE at h
  by_cases h1:nmX a.1=false
  ·rw[if_pos h1] at h; cases h
  rw[if_neg h1] at h
  by_cases h2:a.1∈seen
  ·rw[if_pos h2] at h; cases h
  rw[if_neg h2] at h
  by_cases h3:vld a.2=false
  ·rw[if_pos h3] at h; cases h
  rw[if_neg h3] at h;obtain⟨i1,i2⟩:=aHW l _ h;refine⟨fun b hb=>?_,?_⟩
  ·rcases bBB.1 hb with rfl|hb
   ·exact⟨by simpa using h1,by simpa using h3,h2⟩
   ·obtain⟨q1,q2,q3⟩:=i1 b hb;exact⟨q1,q2,fun k=>q3 (aZP _ k)⟩
  ·rw[bBC,List.nodup_cons];refine⟨fun k=>?_,i2⟩;obtain⟨b,hb,e⟩:=List.mem_map.1 k;exact(i1 b hb).2.2 (by rw[e]; simp)
theorem aAN{n:Nd}(h:elE n=0):AtOk n.2.2.1:=by
 obtain⟨_,_,h3,h4⟩:=yK h;obtain⟨i1,i2⟩:=aHW _ _ h4;exact⟨fun a ha=>(i1 a ha).1,fun a ha=>(i1 a ha).2.1,i2,h3⟩
theorem JB{n:Nat}{nodes:List Nd}{X:Ls}:∀(qs s1:List Ls) (j:Bool),(∀x∈qs,nmX x=true) →
  gO n (nodes,s1++qs.reverse,j) (qs.flatMap clT++X)=gO n (nodes,s1,if qs=[] then j else false) X
 | [],s1,j,_=>by simp
 |q::qs,s1,j,h=>by
  have hq:=h q aZ4
  have e1:(q::qs).flatMap clT++X=60::47::(q++62::(qs.flatMap clT++X)):=by
   rw[List.flatMap_cons];unfold clT;simp
  have e2:s1++(q::qs).reverse=(s1++qs.reverse)++[q]:=by simp
  rw[e1,e2,mX (JA hq) (fun f=>VT f hq (by simp))]
  have e3:((s1++qs.reverse)++[q]).dropLast=s1++qs.reverse:=List.dropLast_concat
  show gO n (nodes,((s1++qs.reverse)++[q]).dropLast,false) _=_
  have e5:(if qs=[] then false else false)=false:=by split<;>rfl
  rw[e3,JB qs s1 false fun x hx=>h x (aZL _ hx),e5,if_neg (List.cons_ne_nil _ _)]
theorem FH{n:Nat}{nodes:List Nd}{X:Ls}(s1 ps:List Ls) (j:Bool) (h:∀x∈ps,nmX x=true) :
  gO n (nodes,s1++ps,j) (cls ps++X)=gO n (nodes,s1,if ps=[] then j else false) X:=by
 have:=JB (n:=n) (nodes:=nodes) (X:=X) ps.reverse s1 j (fun x hx=>h x (List.mem_reverse.1 hx))
 rw[List.reverse_reverse] at this;unfold cls;rw[this];simp
structure BK (p:Ps) (prev:Option Nd) (r:List Nd):Prop where
 ck:ckE prev r=0
 nm:∀x∈p.2.1,nmX x=true
 lo:∀m r',r=m::r'→dep m≤(p.2.1.length:Int)
 jn:p.2.2=true→∃q,prev=some q∧q.1=[]∧dep q=(p.2.1.length:Int)∧1≤dep q
 no:prev=none→p.1=[]∧p.2.1=[]
 ro:p.1.length+r.length≤8192
theorem lE{p:Option Nd}{n:Nd}{r:List Nd}(h:ckE p (n::r)=0):ndE p n=0∧ckE (some n) r=0:=by
 have h:(if ndE p n≠0 then ndE p n else ckE (some n) r)=0:=h
 by_cases e:ndE p n=0
 ·rw[if_neg (fun k=>k e)] at h;exact⟨e,h⟩
 ·rw[if_pos e] at h;exact absurd h e
theorem oN{q n:Nd}(h:ndE (some q) n=0):1≤dep n∧dep n≤15∧(q.1=[]→dep n≤dep q)∧dep n≤dep q+1:=by
 have h:=pD h
 have h:(if dep n<1 then(8:Int) else if(if q.1≠[] then dep q+1 else dep q)<dep n then 8 else if 15<dep n then 9 else 0)=0:=h
 by_cases e1:dep n<1
 ·rw[if_pos e1] at h; cases h
 rw[if_neg e1] at h
 by_cases e2:(if q.1≠[] then dep q+1 else dep q)<dep n
 ·rw[if_pos e2] at h; cases h
 rw[if_neg e2] at h
 by_cases e3:15<dep n
 ·rw[if_pos e3] at h; cases h
 by_cases e4:q.1=[]
 ·rw[if_neg (fun k=>k e4)] at e2;exact⟨by omega,by omega,fun _=>by omega,by omega⟩
 ·rw[if_pos e4] at e2;exact⟨by omega,by omega,fun k=>absurd k e4,by omega⟩
theorem aHX{st:List Ls}(h:st≠[]):∃t,cls st=60::t:=by
 unfold cls
 match hq:st.reverse with
 | []=>exact absurd (List.reverse_eq_nil_iff.1 hq) h
 |q::qs=>exact⟨_,by rw[List.flatMap_cons]; rfl⟩
theorem aQT{n:Nd}{r:List Nd}{st:List Ls}{tail:Ls}(hc:ckE (some n) r=0) (hn:n.1=[]) (hst:(st.length:Int)=dep n) (h1:1≤dep n):∃t,prT st r++tail=60::t:=by
 have hne:st≠[]:=fun k=>by rw[k] at hst; simp at hst; omega
 match r with
 | [] =>
  obtain⟨t,ht⟩:=aHX hne;exact⟨_,by show cls st++tail=_; rw[ht]; rfl⟩
 |m::r =>
  obtain⟨k1,_⟩:=lE hc
  have hd:=oN k1
  have hdm:=hd.2.2.1 hn
  unfold prT
  by_cases e:dep m=dep n
  ·have hm:m.1≠[]:=fun q=>by
    obtain⟨⟨q',e1,e2⟩,_⟩:=yL (FF k1 q);injection e1 with e1;exact e2 ⟨by rw[←e1]; exact hn,by rw[←e1]; exact e.symm⟩
   have hnil:st.drop (dep m).toNat=[]:=aY7 (by omega)
   rw[hnil,wC,if_neg hm];exact⟨_,rfl⟩
  ·have hne2:st.drop (dep m).toNat≠[]:=fun k=>by
    have:=congrArg List.length k
    rw[bAL,bAZ] at this;omega
   obtain⟨t,ht⟩:=aHX hne2;rw[ht];exact⟨_,rfl⟩
structure Vp (i:Nat) (p:Ps):Prop where
 ck:ckE none p.1=0
 ln:p.1.length≤8192
 em:p.1=[]→p.2.1=[]∧p.2.2=false
 la:∀q,p.1.getLast?=some q→(p.2.1.length:Int)≤(if q.1≠[] then dep q+1 else dep q)∧((q.1=[]∧dep q=(p.2.1.length:Int))↔p.2.2=true)
 wt:bkL wtN p.1≤10*i
theorem Vp.mono{i j:Nat}{p:Ps}(h:Vp i p) (hj:i≤j):Vp j p:=⟨h.ck,h.ln,h.em,h.la,by have:=h.wt; omega⟩
structure TokNm (s:Ls) (t:Tok) (r:Ls):Prop where
 nm:t.2.1.length≤s.length
 an:∀a∈t.2.2.1,a.1.length≤s.length
 tx:t.1=0→t.2.2.2=s.take (s.length-r.length)
 kd:t.1=0∨t.1=1∨t.1=2∨t.1=3∨t.1=4
structure NdOk (p:Ps):Prop where
 nl:p.1.length≤8192
 al:∀n∈p.1,n.2.2.1.length≤16
 st:p.2.1≠[]→p.1≠[]
 jn:p.2.2=true→p.1≠[]
def yM(d:Doc):Doc:=(d.1,d.2.1,d.2.2.1,d.2.2.2.1,d.2.2.2.2.1,d.2.2.2.2.2.1.take 6,d.2.2.2.2.2.2.1.take 5,d.2.2.2.2.2.2.2.take 4)
theorem aQU(d:Doc):lB fuelH d=some (yM d):=by
 unfold lB yM;obtain⟨e1,e2⟩:=EJ d.2.2.2.2.2.2.1 5;obtain⟨e3,e4⟩:=EJ d.2.2.2.2.2.2.2 4;obtain⟨e5,e6⟩:=EJ d.2.2.2.2.2.1 6
 have e1:bH (toN (gV (len d.2.2.2.2.2.2.1) (5:Int))) d.2.2.2.2.2.2.1=_:=e1
 have e3:bH (toN (gV (len d.2.2.2.2.2.2.2) (4:Int))) d.2.2.2.2.2.2.2=_:=e3
 have e5:bH (toN (gV (len d.2.2.2.2.2.1) (6:Int))) d.2.2.2.2.2.1=_:=e5
 rw[aF (show in2 (gV (len d.2.2.2.2.2.2.1) (5:Int)) (len d.2.2.2.2.2.2.1)=true from e2),aF (show in2 (gV (len d.2.2.2.2.2.2.2) (4:Int)) (len d.2.2.2.2.2.2.2)=true from e4),aF (show in2 (gV (len d.2.2.2.2.2.1) (6:Int)) (len d.2.2.2.2.2.1)=true from e6),e1,e3,e5]
structure FewD (d:Doc):Prop where
 reg:d.2.2.2.2.2.1.length≤6
 ev:d.2.2.2.2.2.2.1.length≤5
 cm:d.2.2.2.2.2.2.2.length≤4
 wt:wtD d≤1048576
theorem aK8{d:Doc}(hb:wtD d≤1048576):FewD (yM d):=by
 have h1:bkL wtG (d.2.2.2.2.2.1.take 6)≤_:=BE 6 _
 have h2:bkL wtX (d.2.2.2.2.2.2.1.take 5)≤_:=BE 5 _
 have h3:bkL wtC (d.2.2.2.2.2.2.2.take 4)≤_:=BE 4 _
 unfold wtD at hb;refine⟨?_,?_,?_,?_⟩
 ·show(d.2.2.2.2.2.1.take 6).length≤6; rw[bAK]; omega
 ·show(d.2.2.2.2.2.2.1.take 5).length≤5; rw[bAK]; omega
 ·show(d.2.2.2.2.2.2.2.take 4).length≤4; rw[bAK]; omega
 ·show d.1.length+1+(d.2.1.length+1+(1+(1+(1+(bkL wtG (d.2.2.2.2.2.1.take 6)+1+(bkL wtX (d.2.2.2.2.2.2.1.take 5)+1+(bkL wtC (d.2.2.2.2.2.2.2.take 4)+1)))))))≤1048576;omega
theorem Q4{d:Doc}(hb:wtD d≤1048576):rH d:=by
 unfold wtD at hb
 have hg:d.2.2.2.2.2.1.length≤bkL wtG d.2.2.2.2.2.1:=OQ (fun x=>by unfold wtG; omega) _
 refine⟨by omega,by omega,fun x hx=>?_,fun c hc=>?_⟩
 ·have h1:1+(1+1+(x.2.2.1.length+1+(1+(x.2.2.2.2.1.length+1+(bkL wtR x.2.2.2.2.2+1)))))≤bkL wtX d.2.2.2.2.2.2.1:=uF (f:=wtX) hx
  intro r hr
  have h2:bkL wtU r+1≤bkL wtR x.2.2.2.2.2:=uF (f:=wtR) hr
  have h3:=aKC r
  have h4:=aGL r
  exact⟨aGK (l:=x.2.2.2.2.2) (B:=1048576) (by omega) (by omega) r hr,by omega⟩
 ·have h1:1+(1+(1+(1+(c.2.2.2.2.1.length+1+(c.2.2.2.2.2.1.length+1+(1+1))))))≤bkL wtC d.2.2.2.2.2.2.2:=uF (f:=wtC) hc
  omega
theorem nF{α:Type}(f:α→Nat):∀a b:List α,bkL f (a++b)=bkL f a+bkL f b
 | [],b=>by simp[bkL]
 |x::a,b=>by simp only[bAJ,bkL,nF f a b]; omega
theorem wD{α β:Type}{f:β→Nat}{w:α→Nat}{g:α→List β}{c:Nat}:∀l:List α,(∀x∈l,bkL f (g x)≤c+w x)→bkL f (l.flatMap g)≤l.length*c+bkL w l
 | [],_=>by simp[bkL]
 |x::l,h=>by
  rw[List.flatMap_cons,nF,bAH,bBO,bBP]
  have:=h x aZ4
  have:=wD (w:=w) l fun y hy=>h y (aZL _ hy)
  simp only[bkL];omega
theorem aAO:∀l:List At,bkL wtA (fQ l)≤bkL wtA l
 | []=>bBQ _
 |a::l=>by
  have:=aAO l
  show bkL wtA (kV a++fQ l)≤_;rw[nF];unfold kV;simp only[bkL]
  split<;>simp only[bkL]<;>omega
theorem JC(k:Int) (n:Y_) (l:List At):bkL wtN [elQ k n l]≤n.length+4+bkL wtA l:=by
 have:=aAO l
 simp only[bkL,elQ,wtN,bAZ];omega
theorem aHY(c:UInt8) (h:n8 c≤6):(EU c).length≤7:=by
 have:=eT (P:=fun c=>decide (n8 c≤6→(EU c).length≤7)) (by rfl) c
 exact of_decide_eq_true this h
theorem aHZ(c:UInt8):(sP c).length≤8:=of_decide_eq_true (eT (P:=fun c=>decide ((sP c).length≤8)) (by rfl) c)
theorem VX(c:UInt8):(oI c).length≤6:=of_decide_eq_true (eT (P:=fun c=>decide ((oI c).length≤6)) (by rfl) c)
theorem aH0(c:UInt8):(sQ c).length≤6:=of_decide_eq_true (eT (P:=fun c=>decide ((sQ c).length≤6)) (by rfl) c)
theorem wE(b:Bool):(PG b).length≤1:=by cases b<;>simp[PG]
theorem aK9{u:Run}(h:n8 u.2.1.1≤6):bkL wtN (runN u)≤60+wtU u:=by
 have h1:=JC 3 [114,117,110] (kS u)
 have h2:=aHY _ h
 have h3:=wE u.2.1.2.1
 have h4:=wE u.2.1.2.2
 have e:runN u=[elQ 3 [114,117,110] (kS u)]++[([],u.1,[],4)]:=rfl
 rw[e,nF];simp only[bkL,kS,wtA,wtN,wtU,bAZ,bAH] at h1 ⊢;omega
theorem aLA{r:Row}(h:r.length≤16) (hu:∀u∈r,n8 u.2.1.1≤6):bkL wtN (rowN r)≤980+wtR r:=by
 have h1:=JC 2 [114,111,119] []
 have h2:=wD (f:=wtN) (w:=wtU) (g:=runN) (c:=60) r fun u h=>aK9 (hu u h)
 have e:rowN r=[elQ 2 [114,111,119] []]++r.flatMap runN:=rfl
 rw[e,nF];simp only[wtR,bkL,bAH,bAZ] at h1 ⊢;omega
theorem aQV{x:Ev}(h:0≤x.1) (ha:0≤x.2.1.1) (hb:0≤x.2.1.2) (h1:x.2.2.2.2.2.length≤4) (hl:∀l∈x.2.2.2.2.2,l.length≤16∧∀u∈l,n8 u.2.1.1≤6):bkL wtN (evN x)≤4200+wtX x:=by
 have h2:=JC 1 [112] (evA x)
 have h3:=wD (f:=wtN) (w:=wtR) (g:=rowN) (c:=980) x.2.2.2.2.2 fun r h=>aLA (hl r h).1 (hl r h).2
 have e:evN x=[elQ 1 [112] (evA x)]++x.2.2.2.2.2.flatMap rowN:=rfl
 have i1:=gC h
 have i2:=gC ha
 have i3:=gC hb
 have i4:=aHZ x.2.2.2.1
 rw[e,nF];simp only[wtX,bkL,evA,wtA,bAH,bAZ,aZ0] at h2 ⊢;omega
theorem aLB{r:Reg}(h1:0≤r.2.1) (h2:0≤r.2.2.1) (h3:0≤r.2.2.2.1) (h4:0≤r.2.2.2.2.1):bkL wtN (pC r)≤200+wtG r:=by
 have h:=JC 1 [114,101,103,105,111,110] (kT r)
 have i1:=gC h1
 have i2:=gC h2
 have i3:=gC h3
 have i4:=gC h4
 have i5:=aH0 r.2.2.2.2.2.1
 have i6:(if r.2.2.2.2.2.2 then [66,79,84,84,79,77] else [84,79,80]:Y_).length≤6:=by split<;>simp
 unfold pC;simp only[wtG,bkL,kT,wtA,bAH,bAZ] at h ⊢;omega
theorem aLC{d:Doc}(hd:NodOk d) (hf:FewD d):bkL wtN (dV d)≤1090000:=by
 have h:=JC 0 [116,116] (dU d)
 have h1:=wD (f:=wtN) (w:=wtG) (g:=pC) (c:=200) d.2.2.2.2.2.1 fun r hr=>by
  have:=oJ (hd.reg r hr)
  exact aLB (by omega) (by omega) (by omega) (by omega)
 have h2:=wD (f:=wtN) (w:=wtX) (g:=evN) (c:=4200) d.2.2.2.2.2.2.1 fun x hx=>by
  obtain⟨q1,q2,q3,q4,q5⟩:=hd.ev x hx;exact aQV (by omega) (by omega) (by omega) q4 q5
 have i1:=gC hd.last.1
 have i2:=VX d.2.2.1
 have i3:=wE d.2.2.2.1
 have h3:=hf.reg
 have h4:=hf.ev
 have h5:=hf.wt
 unfold wtD at h5;unfold dV;rw[nF,nF];simp only[bkL,dU,wtA,bAH,bAZ] at h ⊢;omega
def PS(d:Doc):List Nd×Int:=if cB d≠0 then([],cB d) else aHF d
theorem aH1{d:Doc}(hs:rH d):q55 fuelH d=some (PS d):=by
 by_cases h:cB d=0
 ·unfold PS;rw[if_neg (by simpa using h)];exact P5 (EV h) (by rw[iY hs,h])
 ·unfold PS q55;rw[if_pos h,bN (iY hs),aD (cA h)]
theorem aDE{l:List Reg}(h:l.length≤4000000):aB9 fuelH l=some l:=by
 have h1:grd (cH (aE (len ([]:List Reg)) (len l)) 56) (some (aU ([]:List Reg) l))=some l:=by
  rw[aF (cV (by simp only[aE,len,bAZ]; omega))]; rfl
 unfold aB9
 cases l with
 |nil =>
  rw[aC (by rfl)];exact uN rfl h1
 |cons r l =>
  rw[aD (cA (by simp only[len,bAH]; omega))];exact h1
theorem aDF{l:List Cmt}(h:l.length≤4000000):aCA fuelH l=some l:=by
 have h1:grd (cH (aE (len ([]:List Cmt)) (len l)) 72) (some (aU ([]:List Cmt) l))=some l:=by
  rw[aF (cV (by simp only[aE,len,bAZ]; omega))]; rfl
 unfold aCA
 cases l with
 |nil =>
  rw[aC (by rfl)];exact uN rfl h1
 |cons r l =>
  rw[aD (cA (by simp only[len,bAH]; omega))];exact h1
theorem aH2{l:List Ev}(h:l.length≤1000000):aCB fuelH l=some l:=by
 have h1:grd (cH (aE (len ([]:List Ev)) (len l)) 88) (some (aU ([]:List Ev) l))=some l:=by
  rw[aF (cV (by simp only[aE,len,bAZ]; omega))]; rfl
 unfold aCB
 cases l with
 |nil =>
  rw[aC (by rfl)];exact uN rfl h1
 |cons r l =>
  rw[aD (cA (by simp only[len,bAH]; omega))];exact h1
def yN(d:Doc):Doc:=(d.1,d.2.1,d.2.2.1,d.2.2.2.1,d.2.2.2.2.1,d.2.2.2.2.2.1,d.2.2.2.2.2.2.1,[])
structure ThinD (d:Doc):Prop where
 reg:d.2.2.2.2.2.1.length≤1000000
 ev:d.2.2.2.2.2.2.1.length≤1000000
 tiny:∀x∈d.2.2.2.2.2.2.1,aMX x
 cm:d.2.2.2.2.2.2.2.length≤1000000
theorem aAP{d:Doc}(h:cB d=0) (hc:d.2.2.2.2.2.2.2.length≤1000000):ThinD d:=by
 have hd:=EV h
 refine⟨by have:=hd.nreg; omega,by have:=hd.nev; omega,fun x hx=>?_,hc⟩;obtain⟨_,_,_,q4,q5⟩:=hd.ev x hx;exact⟨by omega,fun r hr=>by have:=(q5 r hr).1; omega⟩
theorem aDG{d:Doc}(h:ThinD d):aCG fuelH d=some d:=by
 have h2:=h.ev
 unfold aCG;rw[bN (aDE (by have:=h.reg; omega)),bN (aDF (by have:=h.cm; omega)),bN (aH2 h2),bT];refine hJ (n:=d.2.2.2.2.2.2.1.length) (fun (a:List Ev) (i:Nat)=>((i:Int),a)) (fun _ a=>a=d.2.2.2.2.2.2.1) _ (fun self a i hi hI=>?_) (fun self a hI=>?_) fuelH 0 d.2.2.2.2.2.2.1 (bBR _) (by have:=bF; omega) rfl
 ·subst hI
  have hin:inb (i:Int) (len d.2.2.2.2.2.2.1)=true:=aX (by simp only[len]; omega)
  refine⟨d.2.2.2.2.2.2.1,?_,rfl⟩
  have ht:toN (i:Int)=i:=by simp[toN]
  simp only;rw[aD (aV (by simp only[len]; omega)),aF hin,bB hi,UZ (h.tiny _ (bAS hi)),aB,aF hin,aQ hi (by omega),ht];unfold pT;rw[List.set_getElem_self]
 ·simp only;rw[aC (aW (by simp only[len]; omega)),hI]
def noD:Doc:=([],[],0,false,0,[],[],[])
def aLD(d:Doc):Doc:=if cB d≠0 then noD else yN d
theorem aDH{d:Doc}(hs:rH d) (hc:d.2.2.2.2.2.2.2.length≤1000000):M3 fuelH d=some (aLD d):=by
 unfold M3 aLD;rw[bN (iY hs)]
 by_cases h:cB d=0
 ·rw[aC (cN h),if_neg (by simpa using h),bN (aDG (aAP h hc))];rfl
 ·rw[aD (cA h),if_pos h];rfl
theorem aDI{d:Doc}(h:ThinD d) (hc:d.2.2.2.2.2.2.2=[]):SR fuelH (d,d)=some true :=
 aG0 h.reg h.ev (fun x hx=>⟨by have:=(h.tiny x hx).1; omega,fun r hr=>by have:=(h.tiny x hx).2 r hr; omega⟩) hc
theorem aAQ:nU fuelH ()=some true:=by kernel_rfl
def fR{α R:Type}(p:α→Bool) (f:Nat→α→R) (K:R):Nat→List α→R
 |_,[]=>K
 |i,a::l=>if p a then f i a else fR p f K (i+1) l
theorem jN{V R α:Type}{F:(V→Option R)→V→Option R}{l:List α}(st:Nat→V) (p:α→Bool) (f:Nat→α→Option R) (K:Option R){fuel:Nat}(hf:l.length<fuel)
  (hs:∀self i (h:i<l.length),F self (st i)=if p l[i] then f i l[i] else self (st (i+1))) (he:∀self,F self (st l.length)=K):bD F fuel (st 0)=fR p f K 0 l:=by
 have key:∀(n i fu:Nat),l.length-i=n→l.length-i<fu→i≤l.length→bD F fu (st i)=fR p f K i (l.drop i):=by
  intro n
  induction n with
  |zero =>
   intro i fu h1 h2 h3;obtain rfl:i=l.length:=by omega
   obtain⟨fu,rfl⟩:∃k,fu=k+1:=⟨fu-1,by omega⟩;rw[dQ,he,bAR];rfl
  |succ n ih =>
   intro i fu h1 h2 h3
   have hi:i<l.length:=by omega
   obtain⟨fu,rfl⟩:∃k,fu=k+1:=⟨fu-1,by omega⟩;rw[dQ,hs _ _ hi,aYY hi];unfold fR;rw[ih (i+1) fu (by omega) (by omega) (by omega)]
 have:=key _ 0 fuel rfl (by omega) (bBR _)
 rw[this,bA6]
theorem FI{α R:Type}(p:α→Bool) (b K:R):∀(i:Nat) (l:List α),fR p (fun _ _=>b) K i l=if l.any p then b else K
 |_,[]=>rfl
 |i,a::l=>by
  unfold fR;rw[FI p b K (i+1) l]
  by_cases h:p a=true<;>simp[h]
def sT(c:UInt8):Bool:=decide (48≤n8 c∧n8 c≤57)
def dgS(a:Nat) (c:UInt8):Nat:=a*10+(c.toNat-48)
def jC(a:Nat) (l:Y_):Nat:=l.foldl dgS a
theorem FJ(a:Nat):jC a []=a:=by unfold jC; rw[List.foldl_nil]
theorem yO(a:Nat) (c:UInt8) (r:Y_):jC a (c::r)=jC (a*10+(c.toNat-48)) r:=by unfold jC; rw[List.foldl_cons]; unfold dgS; rfl
theorem aH3(a b n:Nat) (h:a*10≤b):a*10^(n+1)≤b*10^n:=by
 have e:a*10^(n+1)=(a*10)*10^n:=by rw[Nat.pow_succ,Nat.mul_comm (10^n) 10,Nat.mul_assoc]
 rw[e];exact aZM _ h
theorem aAR(l:Y_):∀a:Nat,a*10^l.length≤jC a l:=by
 induction l with
 |nil=>intro a; rw[FJ,bAZ,Nat.pow_zero,Nat.mul_one]; exact bBQ _
 |cons c l ih =>
  intro a
  have h:=ih (a*10+(c.toNat-48))
  have h2:=aH3 a (a*10+(c.toNat-48)) l.length (by omega)
  rw[bAH,yO];exact bBH h2 h
def aH4(neg:Bool) (r:Y_) (hi:Int):Int×Int :=
 if r=[] then(0,4) else if r.headD 0=48∧(1<r.length∨neg=true) then(0,4) else if r.any (fun c=>!sT c) then(0,4) else
 if neg=true then(0,2) else if hi<(jC 0 r:Int) then(0,2) else((jC 0 r:Int),0)
def aDJ(s:Y_) (hi:Int):Int×Int:=if s.head?=some 45 then aH4 true s.tail hi else aH4 false s hi
theorem aM2:∀(l:Y_) (a:Nat),a≤2^64-1→(∀c∈l,sT c=true)→parseUintM (2^64-1) a l=if 2^64-1<jC a l then .range else .ok (jC a l)
 | [],a,ha,_=>by
  unfold parseUintM;rw[FJ,if_neg (by omega)]
 |c::l,a,ha,hd=>by
  have hc:=of_decide_eq_true (hd c aZ4)
  have hl:=fun x hx=>hd x (aZL _ hx)
  unfold n8 at hc
  have hge:=aAR l (a*10+(c.toNat-48))
  have hp:1≤10^l.length:=Nat.one_le_pow _ _ (by omega)
  have hge2:a*10+(c.toNat-48)≤jC (a*10+(c.toNat-48)) l:=bBH (by have:=Nat.mul_le_mul_left (a*10+(c.toNat-48)) hp; omega) hge
  unfold parseUintM;rw[yO,if_pos (by omega)]
  by_cases h1:1844674407370955162≤a
  ·rw[if_pos h1,if_pos (by omega)]
  rw[if_neg h1]
  by_cases h2:2^64-1<a*10+(c.toNat-48)
  ·rw[if_pos h2,if_pos (by omega)]
  rw[if_neg h2];exact aM2 l _ (by omega) hl
theorem aLE{l:Y_}(h:l.any (fun c=>!sT c)=false):∀c∈l,sT c=true:=fun c hc=>by
 have:=List.any_eq_false.1 h c hc
 simpa using this
theorem aH5{l:Y_}(h0:l≠[]) (h:∀c∈l,sT c=true) (h48:l.headD 0≠48):10^(l.length-1)≤jC 0 l∧1≤jC 0 l:=by
 obtain⟨c,r,rfl⟩:∃c r,l=c::r:=by cases l with|nil=>exact absurd rfl h0|cons c r=>exact⟨c,r,rfl⟩
 have hc:=of_decide_eq_true (h c aZ4)
 unfold n8 at hc
 have hne:c.toNat≠48:=fun k=>h48 (UInt8.toNat_inj.1 k)
 have:=aAR r (0*10+(c.toNat-48))
 have hp:1≤10^r.length:=Nat.one_le_pow _ _ (by omega)
 have h3:1*10^r.length≤(0*10+(c.toNat-48))*10^r.length:=aZM _ (by omega)
 rw[yO,bAH,aZ8];omega
theorem aLF{neg:Bool}{r:Y_}(h0:r≠[]) (h:∀c∈r,sT c=true) (h48:neg=true→r.headD 0≠48){hi:Int}(hh:hi≤4611686018427387904) :
  (cnd (zY (if neg=true then 45::r else r)).2 (some ((0:Int),(2:Int))) (cnd (ilt (zY (if neg=true then 45::r else r)).1 0) (some (0,2)) (cnd (ilt hi (zY (if neg=true then 45::r else r)).1) (some (0,2)) (some ((zY (if neg=true then 45::r else r)).1,0)))))
  = some (if neg=true then(0,2) else if hi<(jC 0 r:Int) then(0,2) else((jC 0 r:Int),0)):=by
 have hu:parseUintB 64 r=if 2^64-1<jC 0 r then .range else .ok (jC 0 r):=by
  unfold parseUintB;rw[if_neg h0];exact aM2 r 0 (by omega) h
 cases neg with
 |true =>
  have hp:zY (45::r)=match signedC (2^63) (parseUintB 64 r) with|NumEnd.ok v=>(v,false) | .range=>(Lib.intSat 64 (45::r),true)|_=>(0,true):=by
   unfold zY;rw[parseIntB_minus];rfl
  have h1:=(aH5 h0 h (h48 rfl)).2
  simp only[if_true];rw[hp,hu]
  by_cases c1:2^64-1<jC 0 r
  ·rw[if_pos c1]; rfl
  ·rw[if_neg c1];simp only[signedC]
   by_cases c2:2^63<jC 0 r
   ·rw[if_pos c2]; rfl
   ·rw[if_neg c2];simp only;rw[aC rfl,aD (aV (by omega))]
 |false =>
  obtain⟨c,t,rfl⟩:∃c t,r=c::t:=by cases r with|nil=>exact absurd rfl h0|cons c t=>exact⟨c,t,rfl⟩
  have hc:=of_decide_eq_true (h c aZ4)
  unfold n8 at hc
  have hp:zY (c::t)=match signlessC (2^63) (parseUintB 64 (c::t)) with|NumEnd.ok v=>(v,false) | .range=>(Lib.intSat 64 (c::t),true)|_=>(0,true):=by
   unfold zY;rw[parseIntB_plain 64 c t (by omega) (by omega)];rfl
  simp only[aZ5,if_false];rw[hp,hu]
  by_cases c1:2^64-1<jC 0 (c::t)
  ·rw[if_pos c1,if_pos (by omega)]; rfl
  ·rw[if_neg c1];simp only[signlessC]
   by_cases c2:2^63≤jC 0 (c::t)
   ·rw[if_pos c2,if_pos (by omega)]; rfl
   ·rw[if_neg c2];simp only;rw[aC rfl,aC (aW (by omega))]
    by_cases c3:hi<(jC 0 (c::t):Int)
    ·rw[aD (aV c3),if_pos c3]
    ·rw[aC (aW c3),if_neg c3]
theorem aLG(N:Nat) (s:Y_) (b:UInt8):M0 N (s,[b])=some (if s.head?=some b then(s.tail,true) else(s,false)):=by
 unfold M0 aFU q74
 cases s with
 |nil=>rfl
 |cons c s =>
  have h1:in2 (len [b]) (len (c::s))=true:=jG (by simp only[len,bAH,bAZ]; omega)
  rw[aD (gP (by simp only[len,bAH,bAZ]; omega)),aF h1]
  have e:bH (toN (len [b])) (c::s)=[c]:=rfl
  rw[e,aB]
  by_cases h:c=b
  ·subst h
   have:seq [c] [c]=true:=by rw[dA]
   rw[this,aC (by rfl),aF h1,aB,if_pos (by rfl)];rfl
  ·have:seq [c] [b]=false:=by rw[cC]; simpa using h
   rw[this,aD (by rfl),aB,if_neg (by simpa using h)]
theorem VY{s:Y_}(hs:s.length≤4000000){hi:Int}(hh:hi≤4611686018427387904):M1 fuelH (s,0,hi)=some (aDJ s hi):=by
 have key:∀(neg:Bool) (r:Y_),s=(if neg=true then 45::r else r)→r.length≤s.length→M0 fuelH (s,[45])=some (r,neg)→M1 fuelH (s,0,hi)=some (aH4 neg r hi):=by
  intro neg r hsr hrl hcut;unfold M1 aH4;dsimp only;rw[bN hcut];dsimp only;rw[bT]
  by_cases h0:r=[]
  ·subst h0;rw[aD (by rw[dA]),if_pos rfl]
  ·have hr0:1≤r.length:=by cases r with|nil=>exact absurd rfl h0|cons _ _=>simp
   have hget:aA r (toN (0:Int)) 0=r.headD 0:=by cases r with|nil=>exact absurd rfl h0|cons _ _=>rfl
   rw[aC (by rw[cC]; simpa using h0),if_neg h0,aF (aX (by simp only[len]; omega)),hget]
   have main:(¬(r.headD 0=48∧(1<r.length∨neg=true)))→(jn (fun (v2:Unit)=>bnd (cU fuelH (s,10,64)) fun v3=>cnd v3.2 (some ((0:Int),(2:Int))) (cnd (ilt v3.1 0) (some (0,2)) (cnd (ilt hi v3.1) (some (0,2)) (some (v3.1,0))))) fun v4 =>
     bD (fun v5 (v6:Int) =>
      cnd (ilt v6 (len r))
       (grd (inb v6 (len r))
        (cnd (ilt (n8 (aA r (toN v6) (0:UInt8))) (n8 (48:UInt8)))
         (some (0,4))
         (grd (inb v6 (len r))
          (cnd (ilt (n8 (57:UInt8)) (n8 (aA r (toN v6) (0:UInt8))))
           (some (0,4))
           (v5 (w64 (aE v6 1)))))))
       (v4 ())) fuelH 0)=some (if r.any (fun c=>!sT c) then(0,4) else if neg=true then(0,2) else if hi<(jC 0 r:Int) then(0,2) else((jC 0 r:Int),0)):=by
    intro hz;rw[bT];refine(jN (l:=r) (fun i=>(i:Int)) (fun c=>!sT c) (fun _ _=>some (0,4)) (bnd (cU fuelH (s,10,64)) fun v3=>cnd v3.2 (some ((0:Int),(2:Int))) (cnd (ilt v3.1 0) (some (0,2)) (cnd (ilt hi v3.1) (some (0,2)) (some (v3.1,0))))) (by have:=bF; omega) (fun self i h=>?_) (fun self=>?_)).trans ?_
    ·have hin:inb (i:Int) (len r)=true:=aX (by simp only[len]; omega)
     dsimp only;rw[aD (aV (by simp only[len]; omega)),aF hin,aF hin,bB h,aQ h (by omega)]
     have n48:n8 (48:UInt8)=48:=rfl
     have n57:n8 (57:UInt8)=57:=rfl
     rw[n48,n57]
     by_cases c1:n8 r[i]<48
     ·rw[aD (aV c1),if_pos (by simp only[sT,bAB,decide_eq_false_iff_not]; omega)]
     ·rw[aC (aW c1)]
      by_cases c2:57<n8 r[i]
      ·rw[aD (aV c2),if_pos (by simp only[sT,bAB,decide_eq_false_iff_not]; omega)]
      ·rw[aC (aW c2),if_neg (by simp only[sT,bAB,decide_eq_false_iff_not]; omega)]
    ·dsimp only;rw[aC (aW (by simp only[len]; omega))]
    ·rw[FI]
     by_cases ha:r.any (fun c=>!sT c)=true
     ·rw[if_pos ha,if_pos ha]
     ·rw[if_neg ha,if_neg ha]
      have hd:=aLE (by simpa using ha)
      have hpi:cU fuelH (s,10,64)=some (zY s):=by
       show grd (ieq (10:Int) 10) (grd (ieq (64:Int) 64) (grd (decide (s.length≤281474976710656)) (some (zY s))))=_;rw[aF (dL rfl),aF (dL rfl),aF (decide_eq_true (by omega))]
      rw[bN hpi,hsr];exact aLF h0 hd (fun hn k=>hz ⟨k,Or.inr hn⟩) hh
   by_cases hz:r.headD 0=48
   ·rw[aD (dL (by rw[hz]))]
    by_cases h1:1<r.length
    ·rw[aD (aV (by simp only[len]; omega)),if_pos ⟨hz,Or.inl h1⟩]
    ·rw[aC (aW (by simp only[len]; omega))]
     cases neg with
     |true=>rw[aD rfl,if_pos ⟨hz,Or.inr rfl⟩]
     |false =>
      have hn:¬(r.headD 0=48∧(1<r.length∨(false:Bool)=true)):=fun k=>k.2.elim h1 (fun k=>by cases k)
      rw[aC rfl,if_neg hn];exact main hn
   ·have hn:¬(r.headD 0=48∧(1<r.length∨neg=true)):=fun k=>hz k.1
    rw[aC (cZ (fun k=>hz (fJ k))),if_neg hn];exact main hn
 have hc:=aLG fuelH s 45
 unfold aDJ
 by_cases h:s.head?=some 45
 ·rw[if_pos h] at hc ⊢
  cases s with
  |nil=>cases h
  |cons c s =>
   have:c=45:=by simpa using h
   subst this;exact key true s rfl (by simp) hc
 ·rw[if_neg h] at hc ⊢;exact key false s rfl (bBQ _) hc
end
end Go.Mo
end
