/-
  Texts put together, in build order: XB XC XD XE XF TA TB TC XG XH XI XJ XK XL XM XN XP XQ XR XS XU XV XT XW XX XY XZ XZa XZb.
-/
import Derived.Test.YtpblmlldkpkomaaGreatDoorZvA
import Derived.Test.YtpblmlldkpkomaaGreatDoorYeC
import Derived.KernelRfl
import Derived.Lib.ValidLaws
import Derived.Lib.TrimUEq
import Derived.Lib.MapLaws
import Derived.Lib.IndexMore
set_option linter.all false

section
set_option linter.all false
section
namespace Go.Mo
open Go Go.W
theorem aG{α:Type}{b:Bool}{k:Option α}(h:b=true):grd b k=k:=by subst h; rfl
theorem aD{α:Type}{b:Bool}{x y:Option α}(h:b=true):cnd b x y=x:=by subst h; rfl
theorem aC{α:Type}{b:Bool}{x y:Option α}(h:b=false):cnd b x y=y:=by subst h; rfl
theorem bQ{α β:Type}{x:Option α}{a:α}{k:α→Option β}(h:x=some a):bnd x k=k a:=by subst h; rfl
theorem bX{F α:Type}{k:F}{t:F→Option α}:jn k t=t k:=rfl
theorem gT{V R:Type}{F:(V→Option R)→V→Option R}{n:Nat}{v:V}:bG F (n+1) v=F (bG F n) v:=rfl
theorem bU{x:Int}(h:-9223372036854775808≤x∧x≤9223372036854775807):w64 x=x:=by
 show IntKind.wrap .i64 x=x;unfold IntKind.wrap;simp only[IntKind.bits,IntKind.signed,aZO,decide_eq_true_eq,show(2:Int)^64=18446744073709551616 from rfl,show(2:Int)^(64-1)=9223372036854775808 from rfl]
 split<;>omega
theorem aW{a b:Int}(h:a<b):ilt a b=true:=decide_eq_true h
theorem aX{a b:Int}(h:¬a<b):ilt a b=false:=decide_eq_false h
theorem hM{a b:Int}(h:a≤b):ile a b=true:=decide_eq_true h
theorem kH{a b:Int}(h:¬a≤b):ile a b=false:=decide_eq_false h
theorem dN{a b:Int}(h:a=b):ieq a b=true:=by subst h; simp[ieq]
theorem dF{a b:Int}(h:a≠b):ieq a b=false:=by simp[ieq,h]
theorem cP{a b:Int}(h:a≠b):ine a b=true:=by simp[ine,h]
theorem cQ{a b:Int}(h:a=b):ine a b=false:=by simp[ine,h]
theorem aZ{i n:Int}(h:0≤i∧i<n):inb i n=true:=decide_eq_true h
theorem nA{i n:Int}(h:0≤i∧i≤n):in2 i n=true:=decide_eq_true h
theorem eQ{n:Int}{b:Nat}(h:n*b≤140737488355328):dV n b=true:=decide_eq_true h
theorem fL{a b:UInt8}(h:n8 a=n8 b):a=b:=by
 unfold n8 at h;apply UInt8.toNat_inj.1;omega
end Go.Mo
end
section
namespace Go.Mo
open Go Go.W
set_option maxRecDepth 100000
theorem gU{P:UInt8→Bool}(h:((List.range 256).all fun n=>P (UInt8.ofNat n))=true) (x:UInt8):P x=true:=by
 have h1:x.toNat<256:=x.toNat_lt
 have:=aY0.1 h x.toNat (List.mem_range.2 h1)
 simpa using this
noncomputable def nB:Nat:=Classical.choose (⟨7995000,rfl⟩:∃n:Nat,n=7995000)
noncomputable def fuelH:Nat:=nB+5000
theorem bI:fuelH=8000000:=by
 have h:nB=7995000:=Classical.choose_spec (⟨7995000,rfl⟩:∃n:Nat,n=7995000)
 unfold fuelH;rw[h]
def iA:List Int:=[161,162,163,164,165,166,167,169,171,174,176,183,187,189,191,192,193,194,195,196,197,198,199,200,201,202,203,204,205,206,207,209,210,211,212,213,214,216,217,218,219,220,223,224,225,226,227,228,229,230,231,232,233,234,235,236,237,238,239,241,242,243,244,245,246,248,249,250,251,252,338,339,8212,8216,8217,8220,8221,8226,8230,8482,9834]
def gJ:List Int:=(List.range 95).map fun n=>((n+32:Nat):Int)
def zY:List Int→Int→Int→Option Int
 | [],_,_=>some (-1)
 |c::l,i,r=>cnd (ieq c r) (some i) (zY l (aE i 1) r)
def rep:Y_:=[32,33,34,35,36,37,38,39,40,41,42,43,44,45,46,47,48,49,50,51,52,53,54,55,56,57,58,59,60,61,62,63,64,65,66,67,68,69,70,71,72,73,74,75,76,77,78,79,80,81,82,83,84,85,86,87,88,89,90,91,92,93,94,95,96,97,98,99,100,101,102,103,104,105,106,107,108,109,110,111,112,113,114,115,116,117,118,119,120,121,122,123,124,125,126,194,161,194,162,194,163,194,164,194,165,194,166,194,167,194,169,194,171,194,174,194,176,194,183,194,187,194,189,194,191,195,128,195,129,195,130,195,131,195,132,195,133,195,134,195,135,195,136,195,137,195,138,195,139,195,140,195,141,195,142,195,143,195,145,195,146,195,147,195,148,195,149,195,150,195,152,195,153,195,154,195,155,195,156,195,159,195,160,195,161,195,162,195,163,195,164,195,165,195,166,195,167,195,168,195,169,195,170,195,171,195,172,195,173,195,174,195,175,195,177,195,178,195,179,195,180,195,181,195,182,195,184,195,185,195,186,195,187,195,188,197,146,197,147,226,128,148,226,128,152,226,128,153,226,128,156,226,128,157,226,128,162,226,128,166,226,132,162,226,153,170]
theorem aBY(N:Nat) (r:Int):q11 (N+300) (rep,r)=zY (gJ++iA) 0 r:=by kernel_rfl
theorem SW(r:Int):q11 fuelH (rep,r)=zY (gJ++iA) 0 r:=aBY (nB+4700) r
theorem M4(N:Nat) (r:Int):aEZ N r=cnd (ile 32 r) (cnd (ile r 126) (some (w64 (wr .i32 (aJ r 32)))) (q11 N (rep,r))) (q11 N (rep,r)):=by kernel_rfl
theorem aBZ(r:Int):aEZ fuelH r=cnd (ile 32 r) (cnd (ile r 126) (some (w64 (wr .i32 (aJ r 32)))) (q11 fuelH (rep,r))) (q11 fuelH (rep,r)):=M4 fuelH r
theorem aB0(N:Nat) (r:Int):q12 N r=cnd (ile 32 r) (cnd (ile r 126) (some (w64 (wr .i32 (aJ r 32)))) (bnd (q11 N (rep,r)) fun v=>some v)) (bnd (q11 N (rep,r)) fun v=>some v):=by kernel_rfl
theorem SX(r:Int):q12 fuelH r=cnd (ile 32 r) (cnd (ile r 126) (some (w64 (wr .i32 (aJ r 32)))) (bnd (q11 fuelH (rep,r)) fun v=>some v)) (bnd (q11 fuelH (rep,r)) fun v=>some v):=aB0 fuelH r
theorem EK:∀(l:List Int) (i r:Int),0≤i→∃k,zY l i r=some k∧(k<0↔l.contains r=false)
 | [],i,r,_=>⟨-1,rfl,by simp⟩
 |c::l,i,r,h=>by
  by_cases hc:c=r
  ·exact⟨i,by simp only[zY]; rw[aD (dN hc)],by subst hc; simp; omega⟩
  ·obtain⟨k,h1,h2⟩:=EK l (aE i 1) r (by show 0≤i+1; omega);refine⟨k,by simp only[zY]; rw[aC (dF hc)]; exact h1,?_⟩;rw[h2];simp only[List.contains_cons,Bool.or_eq_false_iff];exact⟨fun h=>⟨by simpa using fun e=>hc e.symm,h⟩,fun h=>h.2⟩
def dS(r:Int):Bool:=(decide (32≤r)&&decide (r≤126))||iA.contains r
theorem U7{x:Int}(h:0≤x∧x<1000):wr .i32 x=x:=by
 show IntKind.wrap .i32 x=x;unfold IntKind.wrap;simp only[IntKind.bits,IntKind.signed,aZO,decide_eq_true_eq,show(2:Int)^32=4294967296 from rfl,show(2:Int)^(32-1)=2147483648 from rfl]
 split<;>omega
theorem M5(r:Int):gJ.contains r=(decide (32≤r)&&decide (r≤126)):=by
 rw[aZE];simp only[gJ,aXS,List.mem_map,List.mem_range,aYS,decide_eq_true_eq];constructor
 ·rintro⟨n,hn,rfl⟩; omega
 ·intro h; exact⟨(r-32).toNat,by omega,by omega⟩
theorem M6(r:Int):∃i,q12 fuelH r=some i∧aEZ fuelH r=some i∧(i<0↔dS r=false):=by
 rw[SX,aBZ,SW];obtain⟨k,h1,h2⟩:=EK (gJ++iA) 0 r (Int.le_refl _)
 have hin:(gJ++iA).contains r=dS r:=by
  unfold dS;rw[←M5];simp[List.contains_eq_mem,aY4]
 rw[hin] at h2
 by_cases ha:32≤r
 ·rw[aD (hM ha),aD (hM ha)]
  by_cases hb:r≤126
  ·rw[aD (hM hb),aD (hM hb)];refine⟨_,rfl,rfl,?_⟩
   have:w64 (wr .i32 (aJ r 32))=r-32:=by
    simp only[aJ];rw[U7 (by omega),bU (by omega)]
   rw[this];simp[dS,ha,hb]
  ·rw[aC (kH hb),aC (kH hb)];exact⟨k,by rw[bQ h1],h1,h2⟩
 ·rw[aC (kH ha),aC (kH ha)];exact⟨k,by rw[bQ h1],h1,h2⟩
theorem aB1(r:Int):∃i,q12 fuelH r=some i∧(i<0↔dS r=false):=by
 rw[SX,SW];obtain⟨k,h1,h2⟩:=EK (gJ++iA) 0 r (Int.le_refl _)
 have hin:(gJ++iA).contains r=dS r:=by
  unfold dS;rw[←M5];simp[List.contains_eq_mem,aY4]
 rw[hin] at h2
 by_cases ha:32≤r
 ·rw[aD (hM ha)]
  by_cases hb:r≤126
  ·rw[aD (hM hb)];refine⟨_,rfl,?_⟩
   have:w64 (wr .i32 (aJ r 32))=r-32:=by
    simp only[aJ];rw[U7 (by omega),bU (by omega)]
   rw[this];simp[dS,ha,hb]
  ·rw[aC (kH hb)];exact⟨k,by rw[bQ h1],h2⟩
 ·rw[aC (kH ha)];exact⟨k,by rw[bQ h1],h2⟩
end Go.Mo
end
section
namespace Go.Mo
open Go Go.W Go.Lib
set_option maxRecDepth 100000
theorem lE(l:Y_):1≤(decodeL l).2:=by
 unfold decodeL Utf8.decode;simp only
 repeat' split
 all_goals first|exact aZ0 _|(show 1≤_; omega)
theorem U8(s:Y_) (p:Nat):xD s p=((decodeL (s.drop p)).1:Int):=by
 have:=decodeL_drop (bst s) p
 have e:(bst s).data.toList=s:=rfl
 rw[e] at this;unfold xD;rw[this]
theorem NW(s:Y_) (p:Nat):xE s p=(decodeL (s.drop p)).2:=by
 have:=decodeL_drop (bst s) p
 have e:(bst s).data.toList=s:=rfl
 rw[e] at this;unfold xE;rw[this]
def rok:Nat→Y_→Bool
 | 0,_=>true
 |n+1,l=>if l=[] then true else if dS ((decodeL l).1:Int)=true then rok n (l.drop (decodeL l).2) else false
def vld(l:Y_):Bool:=rok l.length l
theorem sJ:∀n,rok n []=true
 | 0=>rfl
 |n+1=>by simp[rok]
theorem SY:∀(n m:Nat) (l:Y_),l.length≤n→l.length≤m→rok n l=rok m l
 | 0,m,l,h,_=>by
  have:l=[]:=aWZ (by omega)
  subst this;rw[sJ,sJ]
 |n+1,0,l,_,h=>by
  have:l=[]:=aWZ (by omega)
  subst this;rw[sJ,sJ]
 |n+1,m+1,l,h1,h2=>by
  by_cases hl:l=[]
  ·subst hl; rw[sJ,sJ]
  ·have hp:=lE l
   have hlen:0<l.length:=aX8.2 hl
   simp only[rok,hl,if_false]
   split
   ·exact SY n m _ (by simp; omega) (by simp; omega)
   ·rfl
theorem wB(l:Y_) (hl:l≠[]):vld l=if dS ((decodeL l).1:Int)=true then vld (l.drop (decodeL l).2) else false:=by
 have hp:=lE l
 have hlen:0<l.length:=aX8.2 hl
 unfold vld;obtain⟨n,hn⟩:∃n,l.length=n+1:=⟨l.length-1,by omega⟩;rw[hn];simp only[rok,hl,if_false]
 split
 ·exact SY _ _ _ (by simp; omega) (aZ0 _)
 ·rfl
theorem IC:∀(n:Nat) (l:Y_),l.length≤n→vld l=true→validD l=true
 |n,l,h,hv=>by
  by_cases hl:l=[]
  ·subst hl; rfl
  ·have hlen:0<l.length:=aX8.2 hl
   have hp:=lE l
   rw[wB l hl] at hv
   split at hv
   ·rename_i hr;rw[validD_step l hl,if_neg ?_]
    ·cases n with
     |zero=>omega
     |succ n=>exact IC n _ (by simp; omega) hv
    ·rintro⟨e,_⟩;rw[e] at hr;exact absurd hr (by decide)
   ·cases hv
theorem EL{s:Y_}(hs:s.length≤100000000) (Ix:Int→Option Int) (hI:∀r:Int,∃i,Ix r=some i∧(i<0↔dS r=false)):∀(fuel p:Nat),s.length-p<fuel→p≤s.length →
  bG (fun v2 (v3:Y_×Int) =>
  cnd (nlt (toN v3.2) (kN v3.1))
   (bnd (Ix (xD v3.1 (toN v3.2))) fun v4 =>
   cnd (ilt v4 (0:Int))
    (some false)
    (v2 (v3.1,ofN (nN (toN v3.2) (xE v3.1 (toN v3.2))))))
   (some true)) fuel (s,ofN p)=some (vld (s.drop p))
 | 0,p,h,_=>by omega
 |fuel+1,p,h,hp=>by
  rw[gT]
  have et:toN (ofN p)=p:=by simp[toN,ofN]
  simp only[et]
  by_cases hl:p<s.length
  ·have hne:s.drop p≠[]:=by intro e; have:=congrArg List.length e; simp at this; omega
   have hw:=lE (s.drop p)
   have hle:=decodeL_le (s.drop p) hne
   rw[aYV] at hle;rw[aD (show nlt p (kN s)=true from decide_eq_true hl)];obtain⟨i,h1,h2⟩:=hI (xD s p);rw[bQ h1];rw[wB _ hne,←U8]
   by_cases hi:i<0
   ·rw[aD (aW hi),if_neg (by rw[h2.1 hi]; decide)]
   ·rw[aC (aX hi)]
    have hin:dS (xD s p)=true:=by
     cases hq:dS (xD s p) with
     |true=>rfl
     |false=>exact absurd (h2.2 hq) hi
    rw[if_pos hin,NW,aZF];show bG _ fuel (s,ofN (p+(decodeL (s.drop p)).2))=_;exact EL hs Ix hI fuel _ (by omega) (by omega)
  ·rw[aC (show nlt p (kN s)=false from decide_eq_false hl)]
   have:s.drop p=[]:=by simp; omega
   rw[this];rfl
theorem kI(s:Y_) (hs:s.length≤4000000):q13 fuelH s=some (vld s):=by
 unfold q13
 have hv:utf8_ValidString fuelH s=some (validD s):=by
  show grd (eD (len s)) (some (validD s))=_;exact aG (decide_eq_true (by simp only[len]; omega))
 rw[bQ hv];simp only[bX]
 cases hd:validD s with
 |false =>
  rw[aD (show bP false=true from rfl)]
  cases hq:vld s with
  |false=>rfl
  |true=>rw[IC _ s (aZ0 _) hq] at hd; cases hd
 |true =>
  rw[aC (show bP true=false from rfl)]
  have:=EL (s:=s) (by omega) (q12 fuelH) (fun r=>by obtain⟨i,h2,h3⟩:=aB1 r; exact⟨i,h2,h3⟩) fuelH 0 (by have:=bI; omega) (aZ1 _)
  simpa using this
theorem jR{α:Type}{p:Prop} [Decidable p] {x y:Option α}:cnd (decide p) x y=if p then x else y:=by
 by_cases h:p
 ·rw[aD (decide_eq_true h),if_pos h]
 ·rw[aC (decide_eq_false h),if_neg h]
theorem dM{α:Type}{a b:Int}{x y:Option α}:cnd (ilt a b) x y=if a<b then x else y:=jR
theorem BJ{α:Type}{a b:Int}{x y:Option α}:cnd (ile a b) x y=if a≤b then x else y:=jR
theorem BL{α:Type}{a b:Int}{x y:Option α}:cnd (ieq a b) x y=if a=b then x else y:=by
 by_cases h:a=b
 ·rw[aD (dN h),if_pos h]
 ·rw[aC (dF h),if_neg h]
theorem wC{α:Type}{a b:Int}{x y:Option α}:cnd (ine a b) x y=if a≠b then x else y:=by
 by_cases h:a=b
 ·rw[aC (cQ h),if_neg (by simp[h])]
 ·rw[aD (cP h),if_pos h]
def okc(c:Int):Bool:=decide ((65≤c∧c≤90)∨(48≤c∧c≤57)∨c=95∨c=45)
theorem aI4(c:Int) (X:Option Bool) :
  (cnd (ilt c (n8 (65:UInt8)))
          (cnd (ilt c (n8 (48:UInt8)))
           (cnd (ine c (n8 (95:UInt8)))
            (cnd (ine c (n8 (45:UInt8)))
             (some false)
             X)
            X)
           (cnd (ilt (n8 (57:UInt8)) c)
            (cnd (ine c (n8 (95:UInt8)))
             (cnd (ine c (n8 (45:UInt8)))
              (some false)
              X)
             X)
            X))
          (cnd (ilt (n8 (90:UInt8)) c)
           (cnd (ilt c (n8 (48:UInt8)))
            (cnd (ine c (n8 (95:UInt8)))
             (cnd (ine c (n8 (45:UInt8)))
              (some false)
              X)
             X)
            (cnd (ilt (n8 (57:UInt8)) c)
             (cnd (ine c (n8 (95:UInt8)))
              (cnd (ine c (n8 (45:UInt8)))
               (some false)
               X)
              X)
             X))
           X))=cnd (okc c) X (some false):=by
 have e1:n8 (65:UInt8)=65:=rfl
 have e2:n8 (48:UInt8)=48:=rfl
 have e3:n8 (95:UInt8)=95:=rfl
 have e4:n8 (45:UInt8)=45:=rfl
 have e5:n8 (57:UInt8)=57:=rfl
 have e6:n8 (90:UInt8)=90:=rfl
 rw[e1,e2,e3,e4,e5,e6];simp only[dM,wC,okc,jR]
 repeat' split
 all_goals first|rfl|(exfalso; omega)
def upc(c:Int):Bool:=decide (65≤c∧c≤90)
def nm(s:Y_):Bool:=decide (1≤s.length∧s.length≤16)&&upc (n8 (s.getD 0 0))&&s.all fun c=>okc (n8 c)
theorem aFH{s:Y_}{i:Nat}(h:i<s.length) (P:UInt8→Bool):(s.drop i).all P=(P s[i]&&(s.drop (i+1)).all P):=by
 rw[aW8 h,aZP]
theorem U9{s:Y_}(hs:s.length≤16):∀(fuel i:Nat),s.length-i<fuel→i≤s.length →
  bG (fun v2 (v3:Int) =>
        cnd (ilt v3 (len s))
         (grd (inb v3 (len s)) (cnd (okc (n8 (aA s (toN v3) (0:UInt8)))) (v2 (w64 (aE v3 (1:Int)))) (some false)))
         (some true)) fuel (i:Int)=some ((s.drop i).all fun c=>okc (n8 c))
 | 0,i,h,_=>by omega
 |fuel+1,i,h,hi=>by
  rw[gT]
  by_cases hl:i<s.length
  ·have g:aA s (toN (i:Int)) 0=s[i]:=by simp[aA,toN,hl]
   rw[aD (aW (by simp only[len]; omega)),aG (aZ (by simp only[len]; omega)),g,aFH hl]
   have hw:w64 (aE (i:Int) 1)=((i+1:Nat):Int):=by
    simp only[aE]; rw[bU (by omega)]; omega
   rw[hw,U9 hs fuel (i+1) (by omega) (by omega)];cases okc (n8 s[i])<;>rfl
  ·rw[aC (aX (by simp only[len]; omega))]
   have:s.drop i=[]:=by simp; omega
   rw[this];rfl
theorem pG(s:Y_):q14 fuelH s=some (nm s):=by
 unfold q14;simp only[bX,aI4]
 by_cases h1:s.length<1
 ·rw[aD (aW (by simp only[len]; omega))];simp[nm]; omega
 ·rw[aC (aX (by simp only[len]; omega))]
  by_cases h2:16<s.length
  ·rw[aD (aW (by simp only[len]; omega))];simp[nm]; omega
  ·rw[aC (aX (by simp only[len]; omega)),aG (aZ (by simp only[len]; omega))]
   have e0:aA s (toN 0) 0=s.getD 0 0:=rfl
   have e1:n8 (65:UInt8)=65:=rfl
   have e2:n8 (90:UInt8)=90:=rfl
   rw[e0,e1,e2,dM]
   have hd:decide (1≤s.length∧s.length≤16)=true:=decide_eq_true (by omega)
   split
   ·rename_i h3
    have:upc (n8 (s.getD 0 0))=false:=decide_eq_false (by omega)
    simp only[nm,this,Bool.and_false,aZJ]
   ·rw[aG (aZ (by simp only[len]; omega)),dM]
    split
    ·rename_i h4
     have:upc (n8 (s.getD 0 0))=false:=decide_eq_false (by omega)
     simp only[nm,this,Bool.and_false,aZJ]
    ·have hu:upc (n8 (s.getD 0 0))=true:=decide_eq_true (by omega)
     have:=U9 (s:=s) (by omega) fuelH 0 (by have:=bI; omega) (aZ1 _)
     simp only[nm,hu,hd,aZO]
     simpa using this
abbrev Lbl:=Int×Int×Int×Int×Bool
abbrev Hdr:=UInt8×Y_×Y_×Int×Int×Lbl×Lbl×Int×Int
theorem rF{α:Type}{p:Prop} [Decidable p] {x y:Option α}:cnd (bP (decide p)) x y=if p then y else x:=by
 by_cases hp:p<;>simp[hp,bP,cnd]
theorem aB{α β:Type}{a:α}{k:α→Option β}:bnd (some a) k=k a:=rfl
def SZ:Nat→Y_→List Int
 | 0,_=>[]
 |n+1,l=>if l=[] then [] else((decodeL l).1:Int)::SZ n (l.drop (decodeL l).2)
def rns(l:Y_):List Int:=SZ l.length l
def ofR(l:List Int):Y_:=l.flatMap enc
theorem oE:∀n,SZ n []=[]
 | 0=>rfl
 |n+1=>by simp[SZ]
theorem ID:∀(n m:Nat) (l:Y_),l.length≤n→l.length≤m→SZ n l=SZ m l
 | 0,m,l,h,_=>by
  have:l=[]:=aWZ (by omega)
  subst this;rw[oE,oE]
 |n+1,0,l,_,h=>by
  have:l=[]:=aWZ (by omega)
  subst this;rw[oE,oE]
 |n+1,m+1,l,h1,h2=>by
  by_cases hl:l=[]
  ·subst hl; rw[oE,oE]
  ·have hp:=lE l
   have hlen:0<l.length:=aX8.2 hl
   simp only[SZ,hl,if_false];rw[ID n m _ (by simp; omega) (by simp; omega)]
theorem EM(l:Y_) (hl:l≠[]):rns l=((decodeL l).1:Int)::rns (l.drop (decodeL l).2):=by
 have hp:=lE l
 have hlen:0<l.length:=aX8.2 hl
 unfold rns;obtain⟨n,hn⟩:∃n,l.length=n+1:=⟨l.length-1,by omega⟩;rw[hn];simp only[SZ,hl,if_false];rw[ID n _ _ (by simp; omega) (aZ0 _)]
theorem aI5{r:Int}(h:dS r=true):r∈gJ++iA:=by
 unfold dS at h;rw[←M5,Bool.or_eq_true] at h;rw[aY4];rcases h with h|h
 ·exact .inl (aXS.1 h)
 ·exact .inr (aXS.1 h)
theorem wD{P:Int→Bool}(h:((gJ++iA).all P)=true){r:Int}(hr:dS r=true):P r=true :=
 aY0.1 h r (aI5 hr)
theorem aI6{r:Int}(hr:dS r=true):enc r=encodeRune r :=
 of_decide_eq_true (wD (P:=fun r=>decide (enc r=encodeRune r)) (by kernel_rfl) hr)
theorem aI7(l:Y_) (hl:l≠[]) (hr:dS ((decodeL l).1:Int)=true):enc ((decodeL l).1:Int)=l.take (decodeL l).2:=by
 rw[aI6 hr];refine encode_decode l hl ?_;rintro⟨e,_⟩;rw[e] at hr;exact absurd hr (by decide)
theorem NX:∀(n:Nat) (l:Y_),l.length≤n→vld l=true→(rns l).all dS=true∧ofR (rns l)=l
 |n,l,h,hv=>by
  by_cases hl:l=[]
  ·subst hl; exact⟨rfl,rfl⟩
  ·have hlen:0<l.length:=aX8.2 hl
   have hp:=lE l
   rw[wB l hl] at hv
   split at hv
   ·rename_i hr
    cases n with
    |zero=>omega
    |succ n =>
     obtain⟨h1,h2⟩:=NX n _ (by simp; omega) hv;rw[EM l hl];refine⟨by rw[aZP,hr,h1]; rfl,?_⟩;unfold ofR at h2 ⊢;rw[List.flatMap_cons,h2,aI7 l hl hr,aXO]
   ·cases hv
theorem aFI{l:Y_}(h:vld l=true):(rns l).all dS=true:=(NX _ l (aZ0 _) h).1
theorem V1{l:Y_}(h:vld l=true):ofR (rns l)=l:=(NX _ l (aZ0 _) h).2
theorem NY:∀(n:Nat) (l:Y_),l.length≤n→(rns l).length≤l.length
 |n,l,h=>by
  by_cases hl:l=[]
  ·subst hl; exact aZ0 _
  ·have hlen:0<l.length:=aX8.2 hl
   have hp:=lE l
   rw[EM l hl]
   cases n with
   |zero=>omega
   |succ n =>
    have:=NY n (l.drop (decodeL l).2) (by simp; omega)
    simp at this ⊢;omega
def TT{σ R:Type}(g:Int→σ→(σ→Option R)→Option R) (e:σ→Option R):List Int→σ→Option R
 | [],a=>e a
 |r::l,a=>g r a fun a'=>TT g e l a'
theorem TW{V R σ:Type}{F:(V→Option R)→V→Option R}{s:Y_}(st:σ→Nat→V) (g:Int→σ→(σ→Option R)→Option R) (e:σ→Option R)
  (hstep:∀self a p,p<s.length→F self (st a p)=g (xD s p) a fun a'=>self (st a' (p+xE s p)))
  (hend:∀self a p,s.length≤p→F self (st a p)=e a):∀(fuel p:Nat) (a:σ),s.length-p<fuel→bG F fuel (st a p)=TT g e (rns (s.drop p)) a
 | 0,p,a,h=>by omega
 |fuel+1,p,a,h=>by
  rw[gT]
  by_cases hp:p<s.length
  ·have hne:s.drop p≠[]:=by intro e; have:=congrArg List.length e; simp at this; omega
   have hw:=lE (s.drop p)
   rw[hstep _ _ _ hp,EM _ hne,←U8,TT,aZF,←NW];congr 1;funext a';rw[NW]
   have:=TW st g e hstep hend fuel (p+(decodeL (s.drop p)).2) a' (by omega)
   exact this
  ·rw[hend _ _ _ (by omega)]
   have:s.drop p=[]:=by simp; omega
   rw[this];rfl
def TX{α σ R:Type}(g:Nat→α→σ→(σ→Option R)→Option R) (e:σ→Option R):Nat→List α→σ→Option R
 |_,[],a=>e a
 |i,x::l,a=>g i x a fun a'=>TX g e (i+1) l a'
theorem TY{V R σ α:Type}{F:(V→Option R)→V→Option R}{l:List α}(st:σ→Nat→V) (g:Nat→α→σ→(σ→Option R)→Option R) (e:σ→Option R)
  (hstep:∀self a i (h:i<l.length),F self (st a i)=g i l[i] a fun a'=>self (st a' (i+1)))
  (hend:∀self a,F self (st a l.length)=e a):∀(fuel i:Nat) (a:σ),i≤l.length→l.length-i<fuel→bG F fuel (st a i)=TX g e i (l.drop i) a
 | 0,i,a,_,h=>by omega
 |fuel+1,i,a,hi,h=>by
  rw[gT]
  by_cases hl:i<l.length
  ·rw[hstep _ _ _ hl,aW8 hl,TX];congr 1;funext a';exact TY st g e hstep hend fuel (i+1) a' (by omega) (by omega)
  ·obtain rfl:i=l.length:=by omega
   rw[hend,aY1];rfl
theorem aS{i n:Nat}(h:i<n) (hn:n≤9223372036854775807):w64 (aE (i:Int) 1)=((i+1:Nat):Int):=by
 simp only[aE]; rw[bU (by omega)]; omega
theorem bB{α:Type}{l:List α}{i:Nat}{d:α}(h:i<l.length):aA l (toN (i:Int)) d=l[i]:=by simp[aA,toN,h]
theorem aVS{a b:Nat}(h:a<b):nlt a b=true:=decide_eq_true h
theorem aVT{a b:Nat}(h:¬a<b):nlt a b=false:=decide_eq_false h
theorem V2(n:Nat):toN (ofN n)=n:=by simp[toN,ofN]
def ixE(r:Int):Option Int:=cnd (ile 32 r) (cnd (ile r 126) (some (w64 (wr .i32 (aJ r 32)))) (zY (gJ++iA) 0 r)) (zY (gJ++iA) 0 r)
def ix(r:Int):Int:=(ixE r).getD 0
def aWR:List Int:=[33,99,76,36,89,124,83,67,34,82,111,46,34,50,63,65,65,65,65,65,65,65,67,69,69,69,69,73,73,73,73,78,79,79,79,79,79,79,85,85,85,85,115,97,97,97,97,97,97,97,99,101,101,101,101,105,105,105,105,110,111,111,111,111,111,111,117,117,117,117,79,111,45,39,39,34,34,46,46,84,35]
def bas(r:Int):Int:=if r<127 then r else aWR.getD ((ix r).toNat-95) 0
def aWS:List (UInt8×Y_×List Int):=[(193,[195,128,195,136,195,140,195,146,195,153],[192,200,204,210,217]),(194,[195,129,195,137,195,141,195,147,195,154],[193,201,205,211,218]),(195,[195,130,195,138,195,142,195,148,195,155],[194,202,206,212,219]),(196,[195,131,195,145,195,149],[195,209,213]),(197,[],[]),(198,[],[]),(199,[],[]),(200,[195,132,195,139,195,143,195,150,195,156],[196,203,207,214,220]),(201,[],[]),(202,[195,133],[197]),(203,[195,135],[199])]
def sgs:List (Int×UInt8):=[(161,161),(162,162),(163,163),(164,164),(165,165),(166,166),(167,167),(169,168),(8216,169),(8220,170),(171,171),(174,172),(8212,173),(8226,174),(8230,175),(176,176),(8482,180),(183,183),(8217,185),(8221,186),(187,187),(189,189),(191,191),(9834,213),(198,225),(216,233),(338,234),(230,241),(248,249),(339,250),(223,251)]
end Go.Mo
end
section
end
section
namespace Go.Mo
open Go Go.W Go.Lib
set_option maxRecDepth 100000
noncomputable section
theorem iB{n:Int}(h:n≤9223372036854775807):eD n=true:=decide_eq_true h
theorem aI8{r:Int}(hr:dS r=true):(enc r).length≤4 :=
 of_decide_eq_true (wD (P:=fun r=>decide ((enc r).length≤4)) (by kernel_rfl) hr)
theorem cC(x y:Y_):seq x y=decide (x=y):=by
 unfold seq
 by_cases h:x=y
 ·subst h; simp
 ·rw[decide_eq_false h]
  simpa using h
def low(r:Int):Int:=if(65≤r∧r≤90)∨(192≤r∧r<223) then r+32 else if r=338 then 339 else r
def aWT(a:UInt8):List Int:=match aWS.find? fun x=>x.1==a with
 |some x=>x.2.2
 |none=>[]
def acG:List Int→UInt8→Option (Int×Int)
 | [],_=>some (0,0)
 |r::l,b=>cnd (ieq (bas r) (n8 b)) (some (r,(2:Int))) (cnd (ieq (bas (low r)) (n8 b)) (some (low r,(2:Int))) (acG l b))
def sgF(a:UInt8):Option (Int×UInt8):=sgs.find? fun x=>n8 x.2==n8 a
end
end Go.Mo
end
section
namespace Go.Mo
open Go Go.W Go.Lib
set_option maxRecDepth 100000
abbrev Sty:=UInt8×Bool×Bool
abbrev Run:=Y_×Sty×Y_
abbrev Row:=List Run
theorem wE{α:Type}{b:Bool}{x y:Option α}:cnd b x y=if b=true then x else y:=by cases b<;>rfl
theorem nJ{b:Bool}:(bP b=true)=(b=false):=by cases b<;>simp[bP]
theorem cJ{a b:Y_}:(seq a b=true)=(a=b):=by rw[cC]; simp
theorem rG{a b:Int}:(ieq a b=true)=(a=b):=by simp[ieq]
theorem aOP{a b:Int}:(ilt a b=true)=(a<b):=by simp[ilt]
theorem EN{a b:Bool}:(pX a b=true)=(a=b):=by simp[pX]
theorem sK{a b:Bool}:(dT a b=true)=(a=true∧b=true):=by simp[dT]
theorem aFJ{a b:UInt8}:(n8 a=n8 b)=(a=b):=propext ⟨fL,fun h=>by rw[h]⟩
theorem rH{i:Nat}(h:0<i) (hn:i≤9223372036854775807):w64 (aJ (i:Int) 1)=((i-1:Nat):Int):=by
 simp only[aJ]; rw[bU (by omega)]; omega
theorem oF{i:Nat}(hn:i<9223372036854775807):w64 (aJ ((i+1:Nat):Int) 1)=(i:Int):=by
 rw[rH (Nat.succ_pos i) (by omega)]; rfl
theorem M7{a b:Sty}:(a=b)=(a.1=b.1∧a.2.1=b.2.1∧a.2.2=b.2.2):=by
 obtain⟨a1,a2,a3⟩:=a; obtain⟨b1,b2,b3⟩:=b; simp
def uL(a b:Run):Prop:=a.2.1=b.2.1∧a.2.2=[]∧b.2.2=[]
instance (a b:Run):Decidable (uL a b):=by unfold uL; infer_instance
def mL(p:Option Run) (x:Run):Int :=
 if vld x.1=false then 10 else if x.1=[] then 4 else if ¬n8 x.2.1.1≤6 then 12 else if vld x.2.2=false then 10 else match p with
  |none=>0
  |some p=>if uL p x then 8 else 0
def aB2:Option Run→List Run→Int
 |_,[]=>0
 |p,x::r=>if mL p x≠0 then mL p x else aB2 (some x) r
def nK(l:Row):Int:=if 16<l.length then 9 else aB2 none l
def aFK(l:Row):Prop:=∀x∈l,x.1.length≤4000000∧x.2.2.length≤4000000
def before{α:Type}(l:List α):Nat→Option α
 | 0=>none
 |i+1=>l[i]?
theorem IE(l:Row):∀(r:List Run) (i:Nat),l.drop i=r→i≤l.length→TX (fun i (x:Run) (_:Unit) self=>if mL (before l i) x≠0 then some (mL (before l i) x) else self ()) (fun _=>some (0:Int)) i r ()=some (aB2 (before l i) r)
 | [],i,_,_=>rfl
 |x::r,i,h,hi=>by
  have hx:l[i]?=some x:=by rw[←List.head?_drop,h]; rfl
  have hr:l.drop (i+1)=r:=by rw[←aZF,h]; rfl
  have hl:i<l.length:=(aW6.1 hx).1
  simp only[TX,aB2];rw[IE l r (i+1) hr (by omega)]
  have e:before l (i+1)=some x:=hx
  rw[e]
  by_cases hc:mL (before l i) x≠0
  ·rw[if_pos hc,if_pos hc]
  ·rw[if_neg hc,if_neg hc]
theorem EO(N:Nat) (a b:Run):q29 N (a,b)=some (decide (uL a b)):=by
 unfold q29;simp only[wE,sK,rG,EN,aFJ,cC,decide_eq_true_eq]
 by_cases h1:a.2.1.1=b.2.1.1∧a.2.1.2.1=b.2.1.2.1∧a.2.1.2.2=b.2.1.2.2
 ·rw[if_pos h1]
  have:a.2.1=b.2.1:=by rw[M7]; exact h1
  by_cases h2:a.2.2=[]
  ·rw[if_pos h2]; simp[uL,this,h2]
  ·rw[if_neg h2]; simp[uL,h2]
 ·rw[if_neg h1]
  have:¬a.2.1=b.2.1:=by rw[M7]; exact h1
  simp[uL,this]
theorem TZ{l:Row}(hl:aFK l):q30 fuelH l=some (nK l):=by
 unfold q30
 by_cases h:16<l.length
 ·rw[aD (aW (by simp only[len]; omega))]; simp[nK,h]
 ·rw[aC (aX (by simp only[len]; omega)),bX];refine aZ3 (TY (l:=l) (fun (_:Unit) (p:Nat)=>(p:Int)) (fun i (x:Run) (_:Unit) self=>if mL (before l i) x≠0 then some (mL (before l i) x) else self ()) (fun _=>some (0:Int)) (fun self a i hi=>?_) (fun self a=>?_) fuelH 0 () (aZ1 _) (by have:=bI; omega)) ?_
  ·rw[aD (aW (by simp only[len]; omega)),aG (aZ (by simp only[len]; omega)),bB hi];obtain⟨b1,b2⟩:=hl l[i] (aY2 hi);rw[bQ (kI _ b1),bQ (show q28 fuelH l[i].2.1=some (ile (n8 l[i].2.1.1) 6) from rfl),bQ (kI _ b2)];simp only[wE,nJ,cJ,ile,decide_eq_false_iff_not];rw[aS hi (by omega)]
   cases i with
   |zero =>
    have e0:before l 0=none:=rfl
    rw[e0,if_neg (show ¬ilt (0:Int) ((0:Nat):Int)=true by decide)];simp only[mL]
    repeat' split
    all_goals first|rfl|(exfalso; omega)|simp_all
   |succ i =>
    have e0:before l (i+1)=some l[i]:=by simp only[before]; exact aXB (by omega)
    rw[e0,if_pos (show ilt (0:Int) ((i+1:Nat):Int)=true from aW (by omega)),oF (by omega),aG (aZ (by simp only[len]; omega)),bB (show i<l.length by omega),bQ (EO _ _ _)];simp only[mL,decide_eq_true_eq]
    repeat' split
    all_goals first|rfl|(exfalso; omega)|simp_all
  ·rw[aC (aX (by simp only[len]; omega))]
  ·rw[aZG,IE l l 0 rfl (aZ1 _)];simp[nK,h,before]
def itI{α σ R:Type}(f:Nat→α→σ→Option R ⊕ σ) (e:σ→Option R):Nat→List α→σ→Option R
 |_,[],a=>e a
 |i,x::l,a=>match f i x a with
  | .inl r=>r
  | .inr a'=>itI f e (i+1) l a'
def Rnd{V R σ:Type}(X:Option R) (self:V→Option R) (next:σ→V) (I:σ→Prop):Option R ⊕ σ→Prop
 | .inl r=>X=r
 | .inr a=>X=self (next a)∧I a
theorem uM{V R σ α:Type}{F:(V→Option R)→V→Option R}{l:List α}(st:σ→Nat→V) (f:Nat→α→σ→Option R ⊕ σ) (e:σ→Option R) (I:Nat→σ→Prop)
  (hstep:∀self a i (h:i<l.length),I i a→Rnd (F self (st a i)) self (fun a=>st a (i+1)) (I (i+1)) (f i l[i] a))
  (hend:∀self a,I l.length a→F self (st a l.length)=e a):∀(fuel i:Nat) (a:σ),i≤l.length→l.length-i<fuel→I i a→bG F fuel (st a i)=itI f e i (l.drop i) a
 | 0,i,a,_,h,_=>by omega
 |fuel+1,i,a,hi,h,hI=>by
  rw[gT]
  by_cases hl:i<l.length
  ·rw[aW8 hl,itI]
   have hs:=hstep (bG F fuel) a i hl hI
   cases hf:f i l[i] a with
   |inl r=>rw[hf] at hs; exact hs
   |inr a' =>
    rw[hf] at hs;rw[hs.1];exact uM st f e I hstep hend fuel (i+1) a' (by omega) (by omega) hs.2
  ·obtain rfl:i=l.length:=by omega
   rw[hend _ _ hI,aY1];rfl
def tot:Row→Nat
 | []=>0
 |x::r=>x.1.length+tot r
theorem BM(a b:Row):tot (a++b)=tot a+tot b:=by
 induction a with
 |nil=>simp[tot]
 |cons x a ih=>simp only[aYT,tot,ih]; omega
theorem aI9{l:Row}{p:Run}(h:l.getLast?=some p):l=l.dropLast++[p]:=by
 cases l with
 |nil=>cases h
 |cons x l =>
  rw[List.getLast?_eq_some_getLast (aY3 x l)] at h;injection h with h;rw[←h];exact(List.dropLast_concat_getLast (aY3 x l)).symm
theorem lN{out:Row}{p:Run}(h:out.getLast?=some p) (y:Run):xC out (out.length-1) y=out.dropLast++[y]:=by
 have e:=aI9 h
 have hl:out.length-1=out.dropLast.length:=by simp
 rw[hl]
 conv=>lhs; rw[e]
 unfold xC;rw[aXQ _ _ (by simp)];simp
end Go.Mo
end
section
namespace Go.Mo
open Go Go.W Go.Lib
set_option maxRecDepth 100000
noncomputable section
theorem V3:∀(l:List Run) (p:Option Run),aB2 p l=0→∀x∈l,vld x.1=true∧x.1≠[]∧n8 x.2.1.1≤6∧vld x.2.2=true
 | [],_,_,x,hx=>by cases hx
 |y::l,p,h,x,hx=>by
  simp only[aB2] at h
  split at h
  ·rename_i hc; exact absurd h hc
  ·rename_i hc;rcases aZL.1 hx with rfl|hx
   ·have hc:mL p x=0:=by simpa using hc
    unfold mL at hc
    split at hc
    ·cases hc
    ·split at hc
     ·cases hc
     ·split at hc
      ·cases hc
      ·split at hc
       ·cases hc
       ·rename_i h1 h2 h3 h4;exact⟨by simpa using h1,h2,by omega,by simpa using h4⟩
   ·exact V3 l _ h x hx
theorem yN{l:Row}(h:nK l=0):l.length≤16∧∀x∈l,vld x.1=true∧x.1≠[]∧n8 x.2.1.1≤6∧vld x.2.2=true:=by
 unfold nK at h
 split at h
 ·cases h
 ·exact⟨by omega,V3 l _ h⟩
def g1(a:UInt8):Option Int:=if 32≤n8 a∧n8 a<127 then some (n8 a) else(sgF a).map (·.1)
def g2(a b:UInt8):Int×Int:=(acG (aWT a) b).getD (0,0)
theorem aOQ{a b:Run}:(a=b)=(a.1=b.1∧a.2.1=b.2.1∧a.2.2=b.2.2):=by
 obtain⟨a1,a2,a3⟩:=a; obtain⟨b1,b2,b3⟩:=b; simp
theorem IF{α:Type}:∀(l m:List α) [DecidableEq α],l.length=m.length→∀i,itI (fun i (x:α) (_:Unit)=>if some x=m[i]? then(.inr ():Option Bool ⊕ Unit) else .inl (some false)) (fun _=>some true) i (l.drop i) ()=some (decide (l.drop i=m.drop i)):=by
 intro l m _ hl i;generalize hr:l.drop i=r
 induction r generalizing i with
 |nil =>
  have h1:l.length≤i:=by have:=congrArg List.length hr; simp at this; omega
  have:m.drop i=[]:=by rw[List.drop_eq_nil_iff]; omega
  rw[this]; simp[itI]
 |cons x r ih =>
  have hx:l[i]?=some x:=by rw[←List.head?_drop,hr]; rfl
  have hi:=(aW6.1 hx).1
  have hr':l.drop (i+1)=r:=by rw[←aZF,hr]; rfl
  have hm:m.drop i=m[i]::m.drop (i+1):=aW8 (by omega)
  rw[hm];simp only[itI]
  by_cases h:some x=m[i]?
  ·rw[if_pos h];simp only;rw[ih (i+1) hr'];rw[aXB (by omega)] at h;injection h with h;exact congrArg some (decide_eq_decide.2 ⟨fun e=>by rw[h,e],fun e=>by injection e⟩)
  ·rw[if_neg h];rw[aXB (by omega)] at h
   have:x≠m[i]:=fun e=>h (by rw[e])
   exact congrArg some (decide_eq_false fun e=>this (by injection e)).symm
theorem aOR(a b:Row) (hl:a.length≤4000000):aBS fuelH (a,b)=some (decide (a=b)):=by
 unfold aBS
 by_cases h:a.length=b.length
 ·rw[aC (cQ (by simp only[len]; omega)),bX];refine aZ3 (uM (l:=a) (fun (_:Unit) (p:Nat)=>(p:Int)) (fun i (x:Run) (_:Unit)=>if some x=b[i]? then .inr () else .inl (some false)) (fun _=>some true) (fun _ _=>True) (fun self _ i hi _=>?_) (fun self _ _=>?_) fuelH 0 () (aZ1 _) (by have:=bI; omega) trivial) ?_
  ·have hb:i<b.length:=by omega
   have e:cnd (ilt (i:Int) (len a)) (grd (inb (i:Int) (len a)) (grd (inb (i:Int) (len b)) (cnd (bP (dT (seq (aA a (toN (i:Int)) zU).1 (aA b (toN (i:Int)) zU).1) (dT (dT (ieq (n8 (aA a (toN (i:Int)) zU).2.1.1) (n8 (aA b (toN (i:Int)) zU).2.1.1)) (dT (pX (aA a (toN (i:Int)) zU).2.1.2.1 (aA b (toN (i:Int)) zU).2.1.2.1) (pX (aA a (toN (i:Int)) zU).2.1.2.2 (aA b (toN (i:Int)) zU).2.1.2.2))) (seq (aA a (toN (i:Int)) zU).2.2 (aA b (toN (i:Int)) zU).2.2)))) (some false) (self (w64 (aE (i:Int) 1)))))) (some true)=if a[i]=b[i] then self ((i+1:Nat):Int) else some false:=by
    rw[aD (aW (by simp only[len]; omega)),aG (aZ (by simp only[len]; omega)),aG (aZ (by simp only[len]; omega)),bB hi,bB hb,aS hi (by omega),wE];simp only[nJ,Bool.eq_false_iff,ne_eq,sK,cJ,rG,EN,aFJ,←M7,←aOQ]
    by_cases hc:a[i]=b[i]
    ·rw[if_neg (by simpa using hc),if_pos hc]
    ·rw[if_pos hc,if_neg hc]
   rw[aXB hb]
   by_cases hc:a[i]=b[i]
   ·rw[if_pos (by rw[hc])];exact⟨e.trans (if_pos hc),trivial⟩
   ·rw[if_neg (fun h=>hc (by injection h))];exact e.trans (if_neg hc)
  ·simp only;rw[aC (aX (by simp only[len]; omega))]
  ·exact IF a b h 0
 ·rw[aD (cP (by simp only[len]; omega))]
  have:a≠b:=fun e=>h (by rw[e])
  simp[this]
theorem aFL(a b:Row) (hl:a.length≤4000000):SI fuelH (a,b)=some (decide (a=b)):=by
 unfold SI;rw[aOR a b hl,aB]
theorem aB3(a b:List Row) (hl:a.length≤4000000) (h:∀r∈a,r.length≤4000000):aBT fuelH (a,b)=some (decide (a=b)):=by
 unfold aBT aEX
 by_cases hab:a.length=b.length
 ·rw[aC (cQ (by simp only[len]; omega)),bX]
  have:∀X:Option Bool,(bnd X fun v0=>some v0)=X:=fun X=>by cases X<;>rfl
  rw[this];refine aZ3 (uM (l:=a) (fun (_:Unit) (p:Nat)=>(p:Int)) (fun i (x:Row) (_:Unit)=>if some x=b[i]? then .inr () else .inl (some false)) (fun _=>some true) (fun _ _=>True) (fun self _ i hi _=>?_) (fun self _ _=>?_) fuelH 0 () (aZ1 _) (by have:=bI; omega) trivial) ?_
  ·have hb:i<b.length:=by omega
   have e:cnd (ilt (i:Int) (len a)) (grd (inb (i:Int) (len a)) (grd (inb (i:Int) (len b)) (bnd (SI fuelH (aA a (toN (i:Int)) [],aA b (toN (i:Int)) [])) fun v4=>cnd (bP v4) (some false) (self (w64 (aE (i:Int) 1)))))) (some true)=if a[i]=b[i] then self ((i+1:Nat):Int) else some false:=by
    rw[aD (aW (by simp only[len]; omega)),aG (aZ (by simp only[len]; omega)),aG (aZ (by simp only[len]; omega)),bB hi,bB hb,aS hi (by omega),aFL _ _ (h _ (aY2 hi)),aB,rF]
   rw[aXB hb]
   by_cases hc:a[i]=b[i]
   ·rw[if_pos (by rw[hc])];exact⟨e.trans (if_pos hc),trivial⟩
   ·rw[if_neg (fun h=>hc (by injection h))];exact e.trans (if_neg hc)
  ·simp only;rw[aC (aX (by simp only[len]; omega))]
  ·exact IF a b hab 0
 ·rw[aD (cP (by simp only[len]; omega))]
  have:a≠b:=fun e=>hab (by rw[e])
  simp[this,aB]
theorem kJ{V R σ:Type}{F:(V→Option R)→V→Option R}{n:Nat}(st:σ→Nat→V) (I:Nat→σ→Prop) (r:Option R)
  (hstep:∀self a i,i<n→I i a→∃a',F self (st a i)=self (st a' (i+1))∧I (i+1) a') (hend:∀self a,I n a→F self (st a n)=r):∀(fuel i:Nat) (a:σ),i≤n→n-i<fuel→I i a→bG F fuel (st a i)=r
 | 0,i,a,_,h,_=>by omega
 |fuel+1,i,a,hi,h,hI=>by
  rw[gT]
  by_cases hl:i<n
  ·obtain⟨a',h1,h2⟩:=hstep (bG F fuel) a i hl hI;rw[h1];exact kJ st I r hstep hend fuel (i+1) a' (by omega) (by omega) h2
  ·obtain rfl:i=n:=by omega
   exact hend _ _ hI
theorem aFM{α:Type}{f:α→Nat}{l:List α}{x:α}(h:x∈l):f x≤bkL f l:=by
 induction l with
 |nil=>cases h
 |cons y l ih =>
  simp only[bkL];rcases aZL.1 h with rfl|h
  ·omega
  ·have:=ih h; omega
theorem M8{α:Type}{f:α→Nat}(hf:∀x,1≤f x) (l:List α):l.length≤bkL f l:=by
 induction l with
 |nil=>exact aZ0 _
 |cons y l ih=>have:=hf y; simp only[bkL,aYR]; omega
def wtU(x:Run):Nat:=x.1.length+1+(1+(1+1)+(x.2.2.length+1))
def wtR(r:Row):Nat:=bkL wtU r+1
theorem aFN{α:Type}(l:List α) (n:Nat):bO (toN (kY (len l) (n:Int))) l=l.take n∧in2 (kY (len l) (n:Int)) (len l)=true:=by
 have e:toN (kY (len l) (n:Int))=min l.length n:=by simp only[toN,kY,len]; omega
 refine⟨?_,nA (by simp only[kY,len]; omega)⟩;rw[e];unfold bO
 by_cases h:l.length≤n
 ·rw[Nat.min_eq_left h,aYY,aXG h]
 ·rw[Nat.min_eq_right (by omega)]
abbrev Reg:=Y_×Int×Int×Int×Int×UInt8×Bool
abbrev NZ:=Int×Int×Int
theorem aJA(N:Nat) (a b c:Int):q20 N (a,b,c)=some (decide (b≤a∧a≤c)):=by
 unfold q20;rw[BJ]
 by_cases h:b≤a
 ·simp[h,ile]
 ·simp[h]
def eC(r:Reg):Int :=
 if nm r.1=false then 5 else
 if ¬(0≤r.2.1∧r.2.1≤14) then 2 else
 if ¬(1≤r.2.2.1∧r.2.2.1≤15-r.2.1) then 2 else
 if ¬(0≤r.2.2.2.1∧r.2.2.2.1≤31) then 2 else
 if ¬(1≤r.2.2.2.2.1∧r.2.2.2.2.1≤32-r.2.2.2.1) then 2 else
 if ¬(1≤n8 r.2.2.2.2.2.1∧n8 r.2.2.2.2.2.1≤3) then 3 else 0
theorem aVU{p:Prop} [Decidable p]:(decide p=false)=¬p:=by by_cases h:p<;>simp[h]
theorem wF(r:Reg):q21 fuelH r=some (eC r):=by
 unfold q21 eC;rw[pG,aB];simp only[aJA,aB,wE,nJ,aVU,aOP]
 have e1:n8 (1:UInt8)=1:=rfl
 have e3:n8 (3:UInt8)=3:=rfl
 rw[e1,e3]
 by_cases h0:nm r.1=false
 ·rw[if_pos h0,if_pos h0]
 rw[if_neg h0,if_neg h0]
 by_cases h1:0≤r.2.1∧r.2.1≤14
 ·rw[if_neg (not_not_intro h1),if_neg (not_not_intro h1)]
  have w1:w64 (aJ 15 r.2.1)=15-r.2.1:=by unfold aJ; rw[bU (by omega)]
  rw[w1]
  by_cases h2:1≤r.2.2.1∧r.2.2.1≤15-r.2.1
  ·rw[if_neg (not_not_intro h2),if_neg (not_not_intro h2)]
   by_cases h3:0≤r.2.2.2.1∧r.2.2.2.1≤31
   ·rw[if_neg (not_not_intro h3),if_neg (not_not_intro h3)]
    have w2:w64 (aJ 32 r.2.2.2.1)=32-r.2.2.2.1:=by unfold aJ; rw[bU (by omega)]
    rw[w2]
    by_cases h4:1≤r.2.2.2.2.1∧r.2.2.2.2.1≤32-r.2.2.2.1
    ·rw[if_neg (not_not_intro h4),if_neg (not_not_intro h4)]
     by_cases h5:n8 r.2.2.2.2.2.1<1
     ·rw[if_pos h5,if_pos (by omega)]
     ·rw[if_neg h5]
      by_cases h6:3<n8 r.2.2.2.2.2.1
      ·rw[if_pos h6,if_pos (by omega)]
      ·rw[if_neg h6,if_neg (by omega)]
    ·rw[if_pos h4,if_pos h4]
   ·rw[if_pos h3,if_pos h3]
  ·rw[if_pos h2,if_pos h2]
 ·rw[if_pos h1,if_pos h1]
def nC:Option Reg→List Reg→Int
 |_,[]=>0
 |p,r::l=>if eC r≠0 then eC r else match p with
  |none=>nC (some r) l
  |some q=>if r.1=q.1 then 7 else if slt r.1 q.1=true then 8 else nC (some r) l
def jS(l:List Reg):Int:=if 16<l.length then 9 else nC none l
def OA(p:Option Reg) (r:Reg):Option Int ⊕ Unit:=if eC r≠0 then .inl (some (eC r)) else match p with
  |none=>.inr ()
  |some q=>if r.1=q.1 then .inl (some 7) else if slt r.1 q.1=true then .inl (some 8) else .inr ()
theorem UA(l:List Reg):∀(r:List Reg) (i:Nat),l.drop i=r→i≤l.length→itI (fun i x (_:Unit)=>OA (before l i) x) (fun _=>some (0:Int)) i r ()=some (nC (before l i) r)
 | [],i,_,_=>rfl
 |x::r,i,h,hi=>by
  have hx:l[i]?=some x:=by rw[←List.head?_drop,h]; rfl
  have hr:l.drop (i+1)=r:=by rw[←aZF,h]; rfl
  have hl:i<l.length:=(aW6.1 hx).1
  simp only[itI,nC,OA]
  have e:before l (i+1)=some x:=hx
  have ih:=UA l r (i+1) hr (by omega)
  rw[e] at ih
  by_cases hc:eC x≠0
  ·rw[if_pos hc,if_pos hc]
  ·rw[if_neg hc,if_neg hc]
   cases before l i with
   |none=>exact ih
   |some q =>
    simp only
    by_cases h7:x.1=q.1
    ·rw[if_pos h7,if_pos h7]
    ·rw[if_neg h7,if_neg h7]
     by_cases h8:slt x.1 q.1=true
     ·rw[if_pos h8,if_pos h8]
     ·rw[if_neg h8,if_neg h8];exact ih
theorem UB(l:List Reg):q22 fuelH l=some (jS l):=by
 unfold q22
 by_cases h:16<l.length
 ·rw[aD (aW (by simp only[len]; omega))]; simp[jS,h]
 ·rw[aC (aX (by simp only[len]; omega)),bX];refine aZ3 (uM (l:=l) (fun (_:Unit) (p:Nat)=>(p:Int)) (fun i x (_:Unit)=>OA (before l i) x) (fun _=>some (0:Int)) (fun _ _=>True) (fun self a i hi _=>?_) (fun self a _=>?_) fuelH 0 () (aZ1 _) (by have:=bI; omega) trivial) ?_
  ·rw[aD (aW (by simp only[len]; omega)),aG (aZ (by simp only[len]; omega)),bB hi,bQ (wF _)];unfold OA
   by_cases hc:eC l[i]≠0
   ·rw[if_pos hc,aD (cP hc)]; rfl
   ·rw[if_neg hc,aC (cQ (by simpa using hc)),bX,aS hi (by omega)]
    cases i with
    |zero =>
     rw[aC (by rfl),aC (by rfl)];exact⟨rfl,trivial⟩
    |succ i =>
     have e0:before l (i+1)=some l[i]:=by simp only[before]; exact aXB (by omega)
     have hin:inb ((i:Nat):Int) (len l)=true:=aZ (by simp only[len]; omega)
     have hp:ilt (0:Int) ((i+1:Nat):Int)=true:=aW (by omega)
     rw[e0,aD hp,oF (by omega),aG hin,bB (show i<l.length by omega),aD hp,aG hin];simp only
     by_cases h7:l[i+1].1=l[i].1
     ·rw[if_pos h7,aD (by rw[cJ]; exact h7)]; rfl
     ·rw[if_neg h7,aC (by rw[←aYZ,cJ]; exact h7)]
      by_cases h8:slt l[i+1].1 l[i].1=true
      ·rw[if_pos h8,aD h8]; rfl
      ·rw[if_neg h8,aC (by simpa using h8)];exact⟨rfl,trivial⟩
  ·rw[aC (aX (by simp only[len]; omega))]
  ·rw[aZG,UA l l 0 rfl (aZ1 _)];simp[jS,h,before]
def AN:Reg:=([],11,4,0,32,2,true)
def noR:Reg:=([],0,0,0,0,0,false)
def IG(l:List Reg) (n:Y_):Option Reg:=if n=[] then some AN else l.find? fun r=>decide (r.1=n)
def aFO(l:List Reg) (n:Y_):Reg×Bool:=match IG l n with
 |some r=>(r,true)
 |none=>(noR,false)
theorem UC(n:Y_):∀(l:List Reg) (i:Nat),itI (fun _ (x:Reg) (_:Unit)=>if x.1=n then(.inl (some (x,true)):Option (Reg×Bool) ⊕ Unit) else .inr ()) (fun _=>some (noR,false)) i l ()=some (match l.find? fun r=>decide (r.1=n) with|some r=>(r,true)|none=>(noR,false))
 | [],_=>rfl
 |x::l,i=>by
  simp only[itI,List.find?_cons]
  by_cases h:x.1=n
  ·rw[if_pos h,decide_eq_true h]
  ·rw[if_neg h,decide_eq_false h];exact UC n l (i+1)
theorem UD(l:List Reg) (hl:l.length≤4000000) (n:Y_):q24 fuelH (l,n)=some (aFO l n):=by
 unfold q24 aFO IG;simp only
 by_cases h:n=[]
 ·rw[aD (by rw[cJ]; exact h),if_pos h]; rfl
 ·rw[aC (by rw[←aYZ,cJ]; exact h),if_neg h,bX];refine aZ3 (uM (l:=l) (fun (_:Unit) (p:Nat)=>(p:Int)) (fun _ (x:Reg) (_:Unit)=>if x.1=n then .inl (some (x,true)) else .inr ()) (fun _=>some (noR,false)) (fun _ _=>True) (fun self a i hi _=>?_) (fun self a _=>?_) fuelH 0 () (aZ1 _) (by have:=bI; omega) trivial) (UC n l 0)
  ·have hin:inb (i:Int) (len l)=true:=aZ (by simp only[len]; omega)
   rw[aD (aW (by simp only[len]; omega)),aG hin,bB hi]
   by_cases hc:l[i].1=n
   ·rw[if_pos hc,aD (by rw[cJ]; exact hc)]; rfl
   ·rw[if_neg hc,aC (by rw[←aYZ,cJ]; exact hc),aS hi (by omega)];exact⟨rfl,trivial⟩
  ·rw[aC (aX (by simp only[len]; omega))];rfl
def jT(r:Reg):Prop:=r=AN∨eC r=0
instance (r:Reg):Decidable (jT r):=by unfold jT; infer_instance
theorem aOS{a b:Reg}:(a=b)=(a.1=b.1∧a.2.1=b.2.1∧a.2.2.1=b.2.2.1∧a.2.2.2.1=b.2.2.2.1∧a.2.2.2.2.1=b.2.2.2.2.1∧a.2.2.2.2.2.1=b.2.2.2.2.2.1∧a.2.2.2.2.2.2=b.2.2.2.2.2.2):=by
 obtain⟨a1,a2,a3,a4,a5,a6,a7⟩:=a; obtain⟨b1,b2,b3,b4,b5,b6,b7⟩:=b; simp
theorem UE(x:Reg):(dT (seq x.1 AN.1) (dT (ieq x.2.1 AN.2.1) (dT (ieq x.2.2.1 AN.2.2.1) (dT (ieq x.2.2.2.1 AN.2.2.2.1) (dT (ieq x.2.2.2.2.1 AN.2.2.2.2.1) (dT (ieq (n8 x.2.2.2.2.2.1) (n8 AN.2.2.2.2.2.1)) (pX x.2.2.2.2.2.2 AN.2.2.2.2.2.2))))))=true)=(x=AN):=by
 simp only[sK,cJ,rG,EN,aFJ];exact aOS.symm
theorem yO(r:Reg):q38 fuelH r=some (decide (jT r)):=by
 unfold q38;rw[bQ (show q23 fuelH ()=some AN from rfl),wF,aB]
 by_cases h:r=AN
 ·rw[aD ((UE r).mpr h),@decide_eq_true (jT r) _ (.inl h)]
 ·rw[aC (by rw[←aYZ]; exact fun k=>h ((UE r).mp k))];congr 1
  by_cases h2:eC r=0
  ·rw[dN h2,@decide_eq_true (jT r) _ (.inr h2)]
  ·rw[dF h2,@decide_eq_false (jT r) _ (fun k=>k.elim h h2)]
theorem IH{r:Reg}(h:jT r):0≤r.2.1∧1≤r.2.2.1∧r.2.1+r.2.2.1≤15∧0≤r.2.2.2.1∧1≤r.2.2.2.2.1∧r.2.2.2.1+r.2.2.2.2.1≤32∧1≤n8 r.2.2.2.2.2.1∧n8 r.2.2.2.2.2.1≤3:=by
 rcases h with rfl|h
 ·decide
 ·unfold eC at h
  split at h
  ·cases h
  split at h
  ·cases h
  split at h
  ·cases h
  split at h
  ·cases h
  split at h
  ·cases h
  split at h
  ·cases h
  omega
def aFP(r:Reg) (n:Int):Int:=if n8 r.2.2.2.2.2.1=3 then r.2.2.2.1+(r.2.2.2.2.1-n) else if n8 r.2.2.2.2.2.1=2 then r.2.2.2.1+(r.2.2.2.2.1-n).tdiv 2 else r.2.2.2.1
def EP(r:Reg) (k:Nat):Int:=if r.2.2.2.2.2.2=true then r.2.1+(r.2.2.1-(k:Int)) else r.2.1
def V4(r:Reg) (k:Nat) (i:Nat) (n:Int) (out:List NZ):Option (List NZ×Int) ⊕ List NZ :=
 if n<0 then .inl (some ([],2)) else if r.2.2.2.2.1<n then .inl (some ([],11)) else .inr (out++[(EP r k+(i:Int),aFP r n,n)])
def OB(r:Reg) (k:Nat):Nat→List Int→List NZ→List NZ×Int
 |_,[],out=>(out,0)
 |i,n::l,out=>if n<0 then([],2) else if r.2.2.2.2.1<n then([],11) else OB r k (i+1) l (out++[(EP r k+(i:Int),aFP r n,n)])
def OC(r:Reg) (l:List Int):List NZ×Int:=if ¬jT r then([],1) else if r.2.2.1<(l.length:Int) then([],9) else OB r l.length 0 l []
theorem II(r:Reg) (k:Nat):∀(l:List Int) (i:Nat) (out:List NZ),itI (V4 r k) (fun a=>some (a,(0:Int))) i l out=some (OB r k i l out)
 | [],i,out=>rfl
 |n::l,i,out=>by
  simp only[itI,OB,V4]
  by_cases h1:n<0
  ·rw[if_pos h1,if_pos h1]
  ·rw[if_neg h1,if_neg h1]
   by_cases h2:r.2.2.2.2.1<n
   ·rw[if_pos h2,if_pos h2]
   ·rw[if_neg h2,if_neg h2];exact II r k l (i+1) _
theorem aOT{α β:Type}(K:α→Option β) (b:Bool) (x y:α):jn K (fun v=>cnd b (v x) (v y))=K (if b=true then x else y):=by
 rw[bX]; cases b<;>rfl
theorem aJB{x:Int}(h:0≤x):0≤x.tdiv 2∧x.tdiv 2≤x:=by
 rw[Int.tdiv_eq_ediv_of_nonneg h]; omega
theorem aOU{r:Reg}(hu:jT r){k i:Nat}{n:Int}(hk:(k:Int)≤r.2.2.1) (hi:i<k) (h0:0≤n) (hn:n≤r.2.2.2.2.1) :
  w64 (aE (EP r k) (i:Int))=EP r k+(i:Int)∧w64 (aJ r.2.2.2.2.1 n)=r.2.2.2.2.1-n∧w64 (aE r.2.2.2.1 (r.2.2.2.2.1-n))=r.2.2.2.1+(r.2.2.2.2.1-n)∧w64 (aAJ (r.2.2.2.2.1-n) 2)=(r.2.2.2.2.1-n).tdiv 2∧w64 (aE r.2.2.2.1 ((r.2.2.2.2.1-n).tdiv 2))=r.2.2.2.1+(r.2.2.2.2.1-n).tdiv 2:=by
 have hb:=IH hu
 have hd:=aJB (x:=r.2.2.2.2.1-n) (by omega)
 refine⟨?_,?_,?_,?_,?_⟩
 ·unfold aE EP;rw[bU]
  split<;>omega
 ·unfold aJ; rw[bU (by omega)]
 ·unfold aE; rw[bU (by omega)]
 ·unfold aAJ; rw[bU (by omega)]
 ·unfold aE; rw[bU (by omega)]
theorem OD(r:Reg) (l:List Int):q39 fuelH (r,l)=some (OC r l):=by
 unfold q39 OC;simp only;rw[yO,aB,rF]
 by_cases hu:jT r
 ·rw[if_pos hu,if_neg (not_not_intro hu)]
  have hb:=IH hu
  by_cases hk:r.2.2.1<(l.length:Int)
  ·rw[aD (aW (show r.2.2.1<len l from hk)),if_pos hk]
  ·rw[aC (aX (show ¬r.2.2.1<len l from hk)),if_neg hk,aOT]
   have et:(if r.2.2.2.2.2.2=true then w64 (aE r.2.1 (w64 (aJ r.2.2.1 (len l)))) else r.2.1)=EP r l.length:=by
    unfold EP
    have e1:w64 (aJ r.2.2.1 (len l))=r.2.2.1-(l.length:Int):=by unfold aJ len; rw[bU (by omega)]
    rw[e1];unfold aE;rw[bU (by omega)]
   rw[et,bX];refine aZ3 (uM (l:=l) (fun (a:List NZ) (p:Nat)=>(a,(p:Int))) (V4 r l.length) (fun a=>some (a,(0:Int))) (fun i a=>a.length≤i) (fun self a i hi ha=>?_) (fun self a _=>?_) fuelH 0 [] (aZ1 _) (by have:=bI; omega) (aZ0 _)) (II r l.length l 0 [])
   ·have hin:inb (i:Int) (len l)=true:=aZ (by simp only[len]; omega)
    simp only;rw[aD (aW (by simp only[len]; omega)),aG hin,bB hi,aS hi (by omega)];unfold V4
    by_cases h1:l[i]<0
    ·rw[if_pos h1,aD (aW h1)]; rfl
    ·rw[if_neg h1,aC (aX h1)]
     by_cases h2:r.2.2.2.2.1<l[i]
     ·rw[if_pos h2,aD (aW h2)]; rfl
     ·rw[if_neg h2,aC (aX h2)];obtain⟨q1,q2,q3,q4,q5⟩:=aOU hu (k:=l.length) (i:=i) (n:=l[i]) (by omega) hi (by omega) (by omega)
      have hroom:∀s:NZ,dV (aE (len a) (len [s])) 24=true:=fun s=>eQ (by simp only[aE,len,List.length_singleton]; omega)
      rw[q1,q2,q3,q4,q5];rw[aG (hroom _),aG (hroom _),aG (hroom _)];refine⟨?_,by simp only[aYA,List.length_singleton]; omega⟩;unfold aFP
      have e3:n8 (3:UInt8)=3:=rfl
      have e2:n8 (2:UInt8)=2:=rfl
      rw[BL,BL,e3,e2]
      by_cases c3:n8 r.2.2.2.2.2.1=3
      ·rw[if_pos c3,if_pos c3]; rfl
      ·rw[if_neg c3,if_neg c3]
       by_cases c2:n8 r.2.2.2.2.2.1=2
       ·rw[if_pos c2,if_pos c2]; rfl
       ·rw[if_neg c2,if_neg c2]; rfl
   ·simp only;rw[aC (aX (by simp only[len]; omega))]
 ·rw[if_neg hu,if_pos hu]
abbrev Ev:=Int×(Int×Int)×Y_×UInt8×Y_×List Row
theorem M9{s:Y_}(hs:s.length≤4000000):q33 fuelH s=some ((rns s).length:Int):=by
 unfold q33;rw[bX]
 have hf:∀(l:List Int) (n:Nat),n+l.length≤100000000→TT (fun (_:Int) (a:Int) self=>self (w64 (aE a 1))) (fun a=>some a) l (n:Int)=some ((n+l.length:Nat):Int):=by
  intro l
  induction l with
  |nil=>intro n _; rfl
  |cons r l ih =>
   intro n hn;simp only[aYR] at hn;simp only[TT];rw[aS (show n<n+1 by omega) (by omega),ih (n+1) (by omega)];simp only[aYR];congr 2;omega
 refine(TW (s:=s) (fun (a:Int) (p:Nat)=>(a,s,ofN p)) (fun _ a self=>self (w64 (aE a 1))) (fun a=>some a) (fun self a p hp=>?_) (fun self a p hp=>?_) fuelH 0 (0:Int) (by have:=bI; omega)).trans ?_
 ·simp only[V2];rw[aD (aVS (show p<kN s from hp))];rfl
 ·simp only[V2];rw[aC (aVT (show ¬p<kN s by unfold kN; omega))]
 ·have:=NY _ s (aZ0 _)
  have h:=hf (rns s) 0 (by omega)
  rw[aZG]
  simpa using h
theorem aOV{s:Y_}(hs:s.length≤4000000) (hv:vld s=true):q34 fuelH s=some ((rns s).length:Int):=by
 unfold q34;rw[kI _ hs,aB,hv,aC (by rfl),M9 hs];rfl
def kK:Row→Nat
 | []=>0
 |x::l=>(rns x.1).length+kK l
def dG(l:Row):Y_:=l.flatMap (·.1)
def okR(l:Row):Prop:=l.length≤16∧(∀x∈l,vld x.1=true∧x.1.length≤4000000)∧tot l≤4000000
def OE(l:Row):Prop:=aFK l∧tot l≤4000000
def aFQ(l:List Row):Prop:=∀r∈l,OE r
theorem aFR{l:Row}(hs:OE l) (h:nK l=0):okR l:=by
 obtain⟨h1,h2⟩:=yN h;exact⟨h1,fun x hx=>⟨(h2 x hx).1,(hs.1 x hx).1⟩,hs.2⟩
theorem OF:∀(l:Row),(∀x∈l,x.1.length≤4000000)→kK l≤4000000*l.length
 | [],_=>aZ0 _
 |x::l,h=>by
  have h1:=NY _ x.1 (aZ0 _)
  have h2:=h x aYE
  have h3:=OF l fun y hy=>h y (aXV _ hy)
  simp only[kK,aYR];omega
theorem yP:∀(l:Row) (i:Nat) (h:i<l.length),kK (l.take (i+1))=kK (l.take i)+(rns l[i].1).length
 |x::l,0,_=>by simp[kK]
 |x::l,i+1,h=>by
  have:=yP l i (by simpa using h)
  simp only[aX5,kK,this,List.getElem_cons_succ];omega
theorem OG(l:Row) (i:Nat):kK (l.take i)≤kK l:=by
 induction l generalizing i with
 |nil=>simp[kK]
 |cons x l ih=>cases i with
  |zero=>simp[kK]
  |succ i=>simp only[aX5,kK]; have:=ih i; omega
theorem aFS{l:Row}(h:okR l) (L:Y_→Option Int) (hL:∀s:Y_,s.length≤4000000→vld s=true→L s=some ((rns s).length:Int)) :
  bG (fun (v2:Int×Int→Option Int) (v3:Int×Int) =>
  cnd (ilt v3.2 (len l))
   (grd (inb v3.2 (len l))
    (bnd (L (aA l (toN v3.2) zU).1) fun v4 =>
    cnd (ilt v4 (0:Int))
     (some (-1:Int))
     (v2 (w64 (aE v3.1 v4),w64 (aE v3.2 (1:Int))))))
   (some v3.1)) fuelH ((0:Int),(0:Int))=some (kK l:Int):=by
 have hb:=OF l fun x hx=>(h.2.1 x hx).2
 have hl:=h.1
 refine kJ (n:=l.length) (fun (a:Nat) (i:Nat)=>((a:Int),(i:Int))) (fun i a=>a=kK (l.take i)) _ (fun self a i hi hI=>?_) (fun self a hI=>?_) fuelH 0 0 (aZ1 _) (by have:=bI; omega) rfl
 ·refine⟨a+(rns l[i].1).length,?_,?_⟩
  ·have ht:=yP l i hi
   have ht2:=OG l (i+1)
   simp only;rw[aD (aW (by simp only[len]; omega)),aG (aZ (by simp only[len]; omega)),bB hi,hL _ (h.2.1 _ (aY2 hi)).2 (h.2.1 _ (aY2 hi)).1,aB,aC (aX (by omega)),aS hi (by omega)]
   have e:w64 (aE (a:Int) ((rns l[i].1).length:Int))=((a+(rns l[i].1).length:Nat):Int):=by
    unfold aE; rw[bU (by omega)]; omega
   rw[e]
  ·rw[yP l i hi,hI]
 ·simp only;rw[aC (aX (by simp only[len]; omega)),hI,aYY]
theorem IJ{l:Row}(h:okR l):q35 fuelH l=some (kK l:Int):=by
 unfold q35;rw[bX];exact aFS h (q34 fuelH) fun s=>aOV
theorem UF(l:Row) (i:Nat) (h:i<l.length):dG (l.take (i+1))=dG (l.take i)++l[i].1:=by
 unfold dG;rw[aWY h,List.flatMap_append];simp
theorem EQ:∀(l:Row),(dG l).length=tot l
 | []=>rfl
 |x::l=>by
  have h3:=EQ l
  unfold dG at h3 ⊢;simp only[List.flatMap_cons,aYA,tot,h3]
theorem aFT(l:Row) (i:Nat):tot (l.take i)≤tot l:=by
 have h:=BM (l.take i) (l.drop i)
 rw[aXO] at h;omega
theorem IK{l:Row}(h:okR l) (i:Nat):(dG (l.take i)).length≤4000000:=by
 rw[EQ]
 have:=aFT l i
 have:=h.2.2
 omega
theorem aB4{N:Nat}{a b:Y_}(h:a.length+b.length≤100000000):q31 N (((),a),b)=some ((b.length:Int),false,(),a++b):=by
 unfold q31;show(grd (dV (aE (len a) (len b)) 1) (some (len b,false,(),bH a b)))=_;rw[aG (eQ (by simp only[aE,len]; omega))];rfl
theorem UG{l:Row}(h:okR l):q32 fuelH l=some (dG l):=by
 unfold q32;rw[bX]
 have hl:=h.1
 refine kJ (n:=l.length) (fun (a:Y_) (i:Nat)=>((i:Int),(),a)) (fun i a=>a=dG (l.take i)) _ (fun self a i hi hI=>?_) (fun self a hI=>?_) fuelH 0 [] (aZ1 _) (by have:=bI; omega) rfl
 ·refine⟨a++l[i].1,?_,?_⟩
  ·have h1:=IK h i
   have h2:=(h.2.1 _ (aY2 hi)).2
   simp only;rw[aD (aW (by simp only[len]; omega)),aG (aZ (by simp only[len]; omega)),bB hi,aB4 (by rw[hI]; omega),aB,aS hi (by omega)]
  ·rw[UF l i hi,hI]
 ·simp only;rw[aC (aX (by simp only[len]; omega)),hI,aYY]
def sp2:Y_→Bool
 | []=>false
 | [_]=>false
 |a::b::t=>([32,32]:Y_).isPrefixOf (a::b::t)||sp2 (b::t)
theorem IL:∀t:Y_,decide (0≤index t [32,32])=sp2 t
 | []=>rfl
 | [a]=>by
  have e:index [a] [32,32]=if([32,32]:Y_).isPrefixOf [a]=true then 0 else if(index [] [32,32] == -1)=true then -1 else index [] [32,32]+1:=rfl
  have hp:([32,32]:Y_).isPrefixOf [a]=false:=by cases h:((32:UInt8)==a)<;>simp[List.isPrefixOf,h]
  rw[e,hp];rfl
 |a::b::t=>by
  have ih:=IL (b::t)
  have hg:=index_ge (b::t) [32,32]
  have e:index (a::b::t) [32,32]=if([32,32]:Y_).isPrefixOf (a::b::t)=true then 0 else if(index (b::t) [32,32] == -1)=true then -1 else index (b::t) [32,32]+1:=rfl
  have e2:sp2 (a::b::t)=(([32,32]:Y_).isPrefixOf (a::b::t)||sp2 (b::t)):=rfl
  rw[e,e2,←ih];generalize index (b::t) [32,32]=m at hg ⊢
  cases ([32,32]:Y_).isPrefixOf (a::b::t) with
  |true=>rfl
  |false =>
   rw[if_neg (by decide),aZN]
   by_cases h1:m=-1
   ·subst h1; rfl
   ·rw[if_neg (by simpa using h1),decide_eq_true (by omega),decide_eq_true (by omega)]
theorem OH(t:Y_):contains t [32,32]=sp2 t:=IL t
def aLS(t:Y_):Bool:=if t=[] then false else if n8 (aA t (toN (0:Int)) 0)=n8 (32:UInt8) then false else if n8 (aA t (toN (w64 (aJ (len t) 1))) 0)=n8 (32:UInt8) then false else !sp2 t
def rI(l:Row):Int:=if nK l≠0 then nK l else if aLS (dG l)=false then 4 else if 32<kK l then 11 else 0
theorem OI{l:Row}(hs:OE l):q36 fuelH l=some (rI l):=by
 unfold q36 rI;rw[bQ (TZ hs.1)]
 by_cases hk:nK l≠0
 ·rw[aD (cP hk),if_pos hk]
 ·rw[aC (cQ (by simpa using hk)),if_neg hk]
  have hr:=aFR hs (by simpa using hk)
  have hp:=IK hr l.length
  rw[aYY] at hp;rw[bQ (UG hr)];generalize dG l=t at hp ⊢;unfold aLS
  by_cases h0:t=[]
  ·rw[aD (by rw[cJ]; exact h0),if_pos h0,if_pos rfl]
  ·have hl:0<t.length:=aX8.2 h0
   have e1:w64 (aJ (len t) 1)=((t.length-1:Nat):Int):=rH hl (by omega)
   have hin:inb (w64 (aJ (len t) 1)) (len t)=true:=by rw[e1]; exact aZ (by simp only[len]; omega)
   rw[aC (by rw[←aYZ,cJ]; exact h0),if_neg h0,aG (aZ (by simp only[len]; omega)),BL]
   by_cases h1:n8 (aA t (toN (0:Int)) 0)=n8 (32:UInt8)
   ·rw[if_pos h1,if_pos h1,if_pos rfl]
   ·rw[if_neg h1,if_neg h1,aG hin,BL]
    by_cases h2:n8 (aA t (toN (w64 (aJ (len t) 1))) 0)=n8 (32:UInt8)
    ·rw[if_pos h2,if_pos h2,if_pos rfl]
    ·rw[if_neg h2,if_neg h2]
     have hc:strings_Contains fuelH (t,[32,32])=some (sp2 t):=by
      show grd (decide (t.length<4294967281)) (some (contains t [32,32]))=_;rw[aG (decide_eq_true (by omega)),OH]
     rw[bQ hc]
     by_cases h3:sp2 t=true
     ·rw[aD h3,h3,if_pos (by decide)]
     ·rw[aC (by simpa using h3),Bool.eq_false_iff.2 h3,if_neg (by simp),bQ (IJ hr),dM]
      by_cases h4:32<kK l
      ·rw[if_pos (by omega),if_pos h4]
      ·rw[if_neg (by omega),if_neg h4]
theorem aFU(N:Nat) (s:Int×Int):q25 N s=some (decide (0≤s.1∧s.1<s.2∧s.2≤5184000)):=by
 unfold q25;rw[BJ,dM]
 by_cases h1:0≤s.1
 ·rw[if_pos h1]
  by_cases h2:s.1<s.2
  ·rw[if_pos h2]; simp[h1,h2,ile]
  ·rw[if_neg h2]; simp[h2]
 ·rw[if_neg h1]; simp[h1]
def aFV(k:UInt8):Bool:=match q27 fuelH k with
 |some s=>decide (seq s []=decide (¬(1≤n8 k∧n8 k≤4)))
 |none=>false
theorem aFW(k:UInt8):∃s,q27 fuelH k=some s∧seq s []=decide (¬(1≤n8 k∧n8 k≤4)):=by
 have h:aFV k=true:=gU (P:=aFV) (by kernel_rfl) k
 unfold aFV at h
 split at h
 ·rename_i s hs;exact⟨s,hs,of_decide_eq_true h⟩
 ·cases h
theorem aVV{β:Type}(K:Bool→Option β) (s:Y_) (X:Option Bool) (hX:X=some (nm s)):jn K (fun v=>cnd (sne s ([]:Y_)) (bnd X fun w=>v (bP w)) (v false))=K (decide (s≠[]∧nm s=false)):=by
 rw[bX,hX,aB]
 by_cases h:s=[]
 ·subst h; rfl
 ·rw[aD (by simp[sne,h])];congr 1;cases hn:nm s<;>simp[bP,h]
def IM:List Row→Int→Int
 | [],k=>k
 |l::r,k=>if rI l≠0 then rI l else IM r k
def ER(l:List Row):List Int:=l.map fun r=>(kK r:Int)
def oG(x:Ev) (rs:List Reg):Int :=
 if x.1<1 then 2 else if 1099511627776<x.1 then 2 else
 if ¬(0≤x.2.1.1∧x.2.1.1<x.2.1.2∧x.2.1.2≤5184000) then 2 else
 match IG rs x.2.2.1 with
 |none=>6
 |some r =>
  if ¬(1≤n8 x.2.2.2.1∧n8 x.2.2.2.1≤4) then 3 else
  if x.2.2.2.2.1≠[]∧nm x.2.2.2.2.1=false then 5 else
  if x.2.2.2.2.2.length=0 then 9 else if 4<x.2.2.2.2.2.length then 9 else
  IM x.2.2.2.2.2 (OC r (ER x.2.2.2.2.2)).2
theorem V5{l:Row}(hs:OE l) (h:rI l=0):okR l:=by
 unfold rI at h
 split at h
 ·rename_i hc; exact absurd h hc
 ·rename_i hc; exact aFR hs (by simpa using hc)
theorem tK{x:Ev}(h:∀l∈x.2.2.2.2.2,okR l) (hl:x.2.2.2.2.2.length≤1000000):q37 fuelH x=some (ER x.2.2.2.2.2):=by
 unfold q37;rw[bX];generalize x.2.2.2.2.2=l at h hl ⊢;refine kJ (n:=l.length) (fun (a:List Int) (i:Nat)=>(a,(i:Int))) (fun i a=>a=ER (l.take i)) _ (fun self a i hi hI=>?_) (fun self a hI=>?_) fuelH 0 [] (aZ1 _) (by have:=bI; omega) rfl
 ·refine⟨a++[(kK l[i]:Int)],?_,?_⟩
  ·have ha:a.length≤i:=by rw[hI]; unfold ER; rw[aZC,aYU]; omega
   simp only;rw[aD (aW (by simp only[len]; omega)),aG (aZ (by simp only[len]; omega)),bB hi,IJ (h _ (aY2 hi)),aB,aG (eQ (by simp only[aE,len,List.length_singleton]; omega)),aS hi (by omega)];rfl
  ·rw[hI]; unfold ER; rw[aWY hi,aZD]; rfl
 ·simp only;rw[aC (aX (by simp only[len]; omega)),hI,aYY]
theorem UH(K:Option Int) (k:Int):∀(l:List Row) (i:Nat),((∀r∈l,rI r=0)→K=some k)→itI (fun _ (r:Row) (_:Unit)=>if rI r≠0 then(.inl (some (rI r)):Option Int ⊕ Unit) else .inr ()) (fun _=>K) i l ()=some (IM l k)
 | [],i,h=>h fun r hr=>by cases hr
 |r::l,i,h=>by
  simp only[itI,IM]
  by_cases hc:rI r≠0
  ·rw[if_pos hc,if_pos hc]
  ·rw[if_neg hc,if_neg hc];refine UH K k l (i+1) fun hl=>h fun q hq=>?_
   rcases aZL.1 hq with rfl|hq
   ·simpa using hc
   ·exact hl q hq
theorem ES{x:Ev}{rs:List Reg}(hs:aFQ x.2.2.2.2.2) (hr:rs.length≤4000000):q40 fuelH (x,rs)=some (oG x rs):=by
 unfold q40 oG;simp only;rw[UD _ hr,aB,dM]
 by_cases c1:x.1<1
 ·rw[if_pos c1,if_pos c1]
 rw[if_neg c1,if_neg c1,dM]
 by_cases c2:1099511627776<x.1
 ·rw[if_pos c2,if_pos c2]
 rw[if_neg c2,if_neg c2,aFU,aB,rF]
 by_cases c3:0≤x.2.1.1∧x.2.1.1<x.2.1.2∧x.2.1.2≤5184000
 ·rw[if_pos c3,if_neg (not_not_intro c3)];unfold aFO
  cases hf:IG rs x.2.2.1 with
  |none=>rfl
  |some r =>
   simp only;rw[aC (by rfl)];obtain⟨s,k1,k2⟩:=aFW x.2.2.2.1;rw[bQ k1,k2,jR]
   by_cases c4:1≤n8 x.2.2.2.1∧n8 x.2.2.2.1≤4
   ·rw[if_neg (not_not_intro c4),if_neg (not_not_intro c4),aVV _ _ _ (pG _),jR]
    by_cases c5:x.2.2.2.2.1≠[]∧nm x.2.2.2.2.1=false
    ·rw[if_pos c5,if_pos c5]
    rw[if_neg c5,if_neg c5]
    by_cases c6:x.2.2.2.2.2.length=0
    ·rw[aD (dN (by simp only[len]; omega)),if_pos c6]
    rw[aC (dF (by simp only[len]; omega)),if_neg c6]
    by_cases c7:4<x.2.2.2.2.2.length
    ·rw[aD (aW (by simp only[len]; omega)),if_pos c7]
    rw[aC (aX (by simp only[len]; omega)),if_neg c7,bX]
    have hlen:=@tK x
    generalize x.2.2.2.2.2=l at hs c6 c7 hlen ⊢;refine aZ3 (uM (l:=l) (fun (_:Unit) (p:Nat)=>(p:Int)) (fun _ (r:Row) (_:Unit)=>if rI r≠0 then .inl (some (rI r)) else .inr ()) (fun _=>bnd (q37 fuelH x) fun v5=>bnd (q39 fuelH (r,v5)) fun v6=>some v6.2) (fun _ _=>True) (fun self a i hi _=>?_) (fun self a _=>?_) fuelH 0 () (aZ1 _) (by have:=bI; omega) trivial) (UH _ _ l 0 fun hl=>?_)
    ·rw[aD (aW (by simp only[len]; omega)),aG (aZ (by simp only[len]; omega)),bB hi,bQ (OI (hs _ (aY2 hi))),aS hi (by omega)]
     by_cases hc:rI l[i]≠0
     ·rw[if_pos hc,aD (cP hc)]; rfl
     ·rw[if_neg hc,aC (cQ (by simpa using hc))];exact⟨rfl,trivial⟩
    ·rw[aC (aX (by simp only[len]; omega))]
    ·rw[bQ (hlen (fun q hq=>V5 (hs q hq) (hl q hq)) (by omega)),bQ (OD _ _)]
   ·rw[if_pos c4,if_pos c4]
 ·rw[if_neg c3,if_pos c3]
abbrev Cmt:=Int×Int×Int×Int×Y_×Y_×Bool×Bool
abbrev Doc:=Y_×Y_×UInt8×Bool×Int×List Reg×List Ev×List Cmt
def tvB(r:UInt8):Bool:=(q16 fuelH r).getD false
def cdB(r:UInt8):Bool:=(q17 fuelH r).getD false
theorem aVW(r:UInt8):q16 fuelH r=some (tvB r)∧q17 fuelH r=some (cdB r) :=
 of_decide_eq_true (gU (P:=fun r=>decide (q16 fuelH r=some (tvB r)∧q17 fuelH r=some (cdB r))) (by kernel_rfl) r)
def iY(r:UInt8) (drop:Bool):Prop:=tvB r=false∨(drop=true∧cdB r=false)
instance (r:UInt8) (drop:Bool):Decidable (iY r drop):=by unfold iY; infer_instance
def iZ(d:Doc):Int :=
 if vld d.1=false then 10 else if 400<d.1.length then 9 else if d.2.1≠[]∧nm d.2.1=false then 5 else
 if iY d.2.2.1 d.2.2.2.1 then 13 else if d.2.2.2.2.1<0 then 2 else if 1099511627776<d.2.2.2.2.1 then 2 else 0
theorem aFX(r:UInt8) (b:Bool):q18 fuelH (r,b)=some (if iY r b then 13 else 0):=by
 unfold q18;obtain⟨h1,h2⟩:=aVW r;simp only;rw[h1,aB]
 by_cases c1:tvB r=false
 ·rw[aD (by rw[c1]; rfl),if_pos (show iY r b from .inl c1)]
 ·rw[aC (by rw[←aYZ,nJ]; exact c1)]
  cases b with
  |false =>
   rw[aC rfl,if_neg];rintro(h|h)
   ·exact c1 h
   ·cases h.1
  |true =>
   rw[aD rfl,h2,aB]
   by_cases c2:cdB r=false
   ·rw[aD (by rw[c2]; rfl),if_pos (show iY r true from .inr ⟨rfl,c2⟩)]
   ·rw[aC (by rw[←aYZ,nJ]; exact c2),if_neg];rintro(h|h)
    ·exact c1 h
    ·exact c2 h.2
theorem aB5{d:Doc}(hd:d.1.length≤4000000):q19 fuelH d=some (iZ d):=by
 unfold q19 iZ;rw[bX,kI _ hd,aB]
 by_cases c1:vld d.1=false
 ·rw[aD (by rw[c1]; rfl),if_pos c1]
 rw[aC (by rw[←aYZ,nJ]; exact c1),if_neg c1]
 by_cases c2:400<d.1.length
 ·rw[aD (aW (by simp only[len]; omega)),if_pos c2]
 rw[aC (aX (by simp only[len]; omega)),if_neg c2,pG,aB,aFX,aB]
 have hrest:cnd (ine (if iY d.2.2.1 d.2.2.2.1 then(13:Int) else 0) 0) (some (if iY d.2.2.1 d.2.2.2.1 then(13:Int) else 0)) (cnd (ilt d.2.2.2.2.1 0) (some (2:Int)) (cnd (ilt 1099511627776 d.2.2.2.2.1) (some 2) (some 0)))=some (if iY d.2.2.1 d.2.2.2.1 then 13 else if d.2.2.2.2.1<0 then 2 else if 1099511627776<d.2.2.2.2.1 then 2 else 0):=by
  by_cases c4:iY d.2.2.1 d.2.2.2.1
  ·rw[if_pos c4,if_pos c4]; rfl
  ·rw[if_neg c4,if_neg c4,aC (by rfl),dM,dM]
   by_cases c5:d.2.2.2.2.1<0
   ·rw[if_pos c5,if_pos c5]
   rw[if_neg c5,if_neg c5]
   by_cases c6:1099511627776<d.2.2.2.2.1
   ·rw[if_pos c6,if_pos c6]
   ·rw[if_neg c6,if_neg c6]
 rw[hrest];generalize (if iY d.2.2.1 d.2.2.2.1 then(13:Int) else if d.2.2.2.2.1<0 then 2 else if 1099511627776<d.2.2.2.2.1 then 2 else 0)=R
 by_cases c3:d.2.1=[]
 ·rw[aC (by simp[sne,c3]),if_neg fun h=>h.1 c3]
 ·rw[aD (by simp[sne,c3])]
  by_cases c4:nm d.2.1=false
  ·rw[aD (by rw[c4]; rfl),if_pos ⟨c3,c4⟩]
  ·rw[aC (by rw[←aYZ,nJ]; exact c4),if_neg fun h=>c4 h.2]
def oH:Nat→List Ev→List (Int×Int)
 |_,[]=>[]
 |i,x::l=>(x.1,(i:Int))::oH (i+1) l
def tL:Nat→List Ev→Int→Int
 |_,[],_=>-1
 |i,x::l,k=>if x.1=k then(i:Int) else tL (i+1) l k
def oI(l:List Ev) (k:Int):Prop:=∃x∈l,x.1=k
instance (l:List Ev) (k:Int):Decidable (oI l k):=by unfold oI; infer_instance
theorem UI:∀(a b:List Ev) (i:Nat),oH i (a++b)=oH i a++oH (i+a.length) b
 | [],b,i=>by simp[oH]
 |x::a,b,i=>by
  simp only[aYT,oH,UI a b (i+1),aYR];congr 3; omega
theorem lQ:∀(l:List Ev) (i:Nat) (k:Int),jI ieq (oH i l) k=decide (oI l k)
 | [],i,k=>by simp[oH,jI,oI]
 |x::l,i,k=>by
  simp only[oH,jI,lQ l (i+1) k]
  by_cases h:k=x.1
  ·rw[dN h,decide_eq_true (show oI (x::l) k from⟨x,aYE,h.symm⟩)]; rfl
  ·rw[dF h];show(false||_)=_;rw[aZN];exact decide_eq_decide.2 ⟨fun ⟨y,h1,h2⟩=>⟨y,aXV _ h1,h2⟩,fun ⟨y,h1,h2⟩=>by
    rcases aZL.1 h1 with rfl|h1
    ·exact absurd h2.symm h
    ·exact⟨y,h1,h2⟩⟩
theorem qJ{k v:Int}:∀(m:List (Int×Int)),jI ieq m k=false→pY ieq m k v=m++[(k,v)]
 | [],_=>rfl
 |x::m,h=>by
  simp only[jI,bor,Bool.or_eq_false_iff] at h;simp only[pY,h.1,qJ m h.2];rfl
theorem IN:∀(l:List Ev) (i:Nat) (k:Int),oI l k→nO ieq 0 (oH i l) k=tL i l k
 | [],i,k,h=>by obtain⟨x,h,_⟩:=h; cases h
 |x::l,i,k,h=>by
  simp only[oH,nO,tL]
  by_cases hc:x.1=k
  ·rw[dN hc.symm,if_pos hc]; rfl
  ·rw[dF (fun e=>hc e.symm),if_neg hc];obtain⟨y,h1,h2⟩:=h;rcases aZL.1 h1 with rfl|h1
   ·exact absurd h2 hc
   ·exact IN l (i+1) k ⟨y,h1,h2⟩
theorem aaIO:∀(l:List Ev) (i:Nat) (k:Int),oI l k→∃j,∃h:j<l.length,tL i l k=((i+j:Nat):Int)∧l[j].1=k∧¬oI (l.take j) k
 | [],i,k,h=>by obtain⟨x,h,_⟩:=h; cases h
 |x::l,i,k,h=>by
  simp only[tL]
  by_cases hc:x.1=k
  ·exact⟨0,by simp,by rw[if_pos hc]; rfl,hc,fun ⟨y,h1,_⟩=>by cases h1⟩
  ·obtain⟨y,h1,h2⟩:=h;rcases aZL.1 h1 with rfl|h1
   ·exact absurd h2 hc
   ·obtain⟨j,hj,e1,e2,e3⟩:=aaIO l (i+1) k ⟨y,h1,h2⟩;refine⟨j+1,by simpa using hj,?_,by simpa using e2,?_⟩
    ·rw[if_neg hc,e1]; congr 1; omega
    ·rintro⟨z,h3,h4⟩;rw[aX5] at h3;rcases aZL.1 h3 with rfl|h3
     ·exact hc h4
     ·exact e3 ⟨z,h3,h4⟩
def oJ(a b:Ev):Prop:=a.2.1.1<b.2.1.1∨(a.2.1.1=b.2.1.1∧a.1<b.1)
instance (a b:Ev):Decidable (oJ a b):=by unfold oJ; infer_instance
theorem aFY(N:Nat) (a b:Int):q42 N (a,b)=some (if a<b then -1 else if b<a then 1 else 0):=by
 unfold q42
 have h:∀x:Int,q41 N x=some false:=fun x=>by
  show some (ine x x)=_;rw[cQ rfl]
 simp only;rw[h,h,aB,aB,aC rfl,aC rfl,dM,dM]
 by_cases h1:a<b
 ·rw[if_pos h1,if_pos h1]
 ·rw[if_neg h1,if_neg h1]
  by_cases h2:b<a
  ·rw[if_pos h2,if_pos h2]
  ·rw[if_neg h2,if_neg h2]
theorem aVX(a b:Int):q43 fuelH [a,b]=some (if a≠0 then a else b):=by
 have h:q43 fuelH [a,b]=cnd (ine a 0) (some a) (cnd (ine b 0) (some b) (some 0)):=by kernel_rfl
 rw[h,wC,wC]
 by_cases h1:a≠0
 ·rw[if_pos h1,if_pos h1]
 ·rw[if_neg h1,if_neg h1]
  by_cases h2:b≠0
  ·rw[if_pos h2]
  ·rw[if_neg h2]; congr 1; omega
theorem N0(a b:Ev):q44 fuelH (a,b)=some (decide (oJ a b)):=by
 unfold q44;simp only;rw[aFY,aB,aFY,aB,aVX,aB];congr 1
 by_cases h1:a.2.1.1<b.2.1.1
 ·rw[if_pos h1,if_pos (by decide),@decide_eq_true (oJ a b) _ (.inl h1)]; rfl
 ·rw[if_neg h1]
  by_cases h2:b.2.1.1<a.2.1.1
  ·rw[if_pos h2,if_pos (by decide),@decide_eq_false (oJ a b) _ (by unfold oJ; omega)]; rfl
  ·rw[if_neg h2,if_neg (by decide)]
   by_cases h3:a.1<b.1
   ·rw[if_pos h3,@decide_eq_true (oJ a b) _ (by unfold oJ; omega)]; rfl
   ·rw[if_neg h3,@decide_eq_false (oJ a b) _ (by unfold oJ; omega)]
    split<;>rfl
def GJ{α:Type}(R:List α→α→Int):List α→List α→Int
 |_,[]=>0
 |pre,x::l=>if R pre x≠0 then R pre x else GJ R (pre++[x]) l
theorem IP{α:Type}{R:List α→α→Int}:∀(l pre:List α),GJ R pre l=0→∀j (h:j<l.length),R (pre++l.take j) l[j]=0
 | [],_,_,j,h=>by simp at h
 |x::l,pre,h0,j,h=>by
  simp only[GJ] at h0
  split at h0
  ·rename_i hc; exact absurd h0 hc
  ·rename_i hc
   cases j with
   |zero=>simpa using hc
   |succ j =>
    have:=IP l (pre++[x]) h0 j (by simpa using h)
    simpa using this
theorem ET{V σ α ρ:Type}{F:(V→Option ρ)→V→Option ρ}{l:List α}(st:σ→Nat→V) (g:List α→σ) (R:List α→α→Int) (w:Int→ρ) (K:Option ρ)
  (hstep:∀self i (h:i<l.length),F self (st (g (l.take i)) i)=if R (l.take i) l[i]≠0 then some (w (R (l.take i) l[i])) else self (st (g (l.take (i+1))) (i+1)))
  (hend:(∀j (h:j<l.length),R (l.take j) l[j]=0)→∀self,F self (st (g l) l.length)=K) :
  ∀(fuel i:Nat),i≤l.length→l.length-i<fuel→(∀j (h:j<l.length),j<i→R (l.take j) l[j]=0) →
  bG F fuel (st (g (l.take i)) i)=if GJ R (l.take i) (l.drop i)≠0 then some (w (GJ R (l.take i) (l.drop i))) else K
 | 0,i,_,h,_=>by omega
 |fuel+1,i,hi,h,hp=>by
  rw[gT]
  by_cases hl:i<l.length
  ·rw[hstep _ i hl,aW8 hl,GJ]
   by_cases hc:R (l.take i) l[i]≠0
   ·rw[if_pos hc,if_pos hc,if_pos hc]
   ·rw[if_neg hc,if_neg hc]
    have ih:=ET st g R w K hstep hend fuel (i+1) (by omega) (by omega) (fun j hj hji=>by
     by_cases e:j=i
     ·subst e; simpa using hc
     ·exact hp j hj (by omega))
    rw[ih,aWY hl]
  ·obtain rfl:i=l.length:=by omega
   rw[aYY,hend (fun j hj=>hp j hj hj),aY1];rfl
def EU:List Row→Nat
 | []=>0
 |r::l=>kK r+EU l
def UJ(x:Ev):Int:=((x.2.2.2.2.2.length-1+EU x.2.2.2.2.2:Nat):Int)
theorem IQ:∀(l:List Row) (i:Nat) (h:i<l.length),EU (l.take (i+1))=EU (l.take i)+kK l[i]
 |x::l,0,_=>by simp[EU]
 |x::l,i+1,h=>by
  have:=IQ l i (by simpa using h)
  simp only[aX5,EU,this,List.getElem_cons_succ];omega
theorem UK{l:Row}(h:okR l):kK l≤64000000:=by
 have h1:=OF l fun x hx=>(h.2.1 x hx).2
 have h2:=h.1
 omega
theorem V6:∀(l:List Row),(∀r∈l,okR r)→EU l≤64000000*l.length
 | [],_=>aZ0 _
 |r::l,h=>by
  have h1:=UK (h r aYE)
  have h2:=V6 l fun q hq=>h q (aXV _ hq)
  simp only[EU,aYR];omega
theorem OJ(l:List Row) (h:∀r∈l,okR r) (i:Nat):EU (l.take i)≤64000000*l.length:=by
 have h1:=V6 (l.take i) fun r hr=>h r (aXY hr)
 have:(l.take i).length≤l.length:=by rw[aYU]; omega
 omega
theorem OK{x:Ev}(h:∀l∈x.2.2.2.2.2,okR l) (hl:x.2.2.2.2.2.length≤1000):q45 fuelH x=some (UJ x):=by
 unfold q45 UJ;rw[bX,bQ (tK h (by omega))];generalize x.2.2.2.2.2=l at h hl ⊢
 have hll:(ER l).length=l.length:=by unfold ER; rw[aZC]
 have e0:PY (w64 (aJ (len l) 1)) 0=((l.length-1:Nat):Int):=by
  simp only[aJ,PY,len];rw[bU (by omega)];omega
 rw[e0];refine kJ (n:=l.length) (fun (a:Nat) (i:Nat)=>((a:Int),(i:Int))) (fun i a=>a=l.length-1+EU (l.take i)) _ (fun self a i hi hI=>?_) (fun self a hI=>?_) fuelH 0 (l.length-1) (aZ1 _) (by have:=bI; omega) (by simp[EU])
 ·refine⟨a+kK l[i],?_,?_⟩
  ·have ht:=OJ l h i
   have hb:=UK (h _ (aY2 hi))
   have hin:inb (i:Int) (len (ER l))=true:=aZ (by simp only[len,hll]; omega)
   have hg:aA (ER l) (toN (i:Int)) (0:Int)=(kK l[i]:Int):=by
    rw[bB (by omega)];simp[ER]
   simp only;rw[aD (aW (by simp only[len,hll]; omega)),aG hin,hg,aC (aX (by omega)),aS hi (by omega)]
   have e:w64 (aE (a:Int) (kK l[i]:Int))=((a+kK l[i]:Nat):Int):=by
    unfold aE; rw[bU (by omega)]; omega
   rw[e]
  ·rw[IQ l i hi,hI]; omega
 ·simp only;rw[aC (aX (by simp only[len,hll]; omega)),hI,aYY]
theorem EV:∀(l:List Row) (k:Int),IM l k=0→(∀r∈l,rI r=0)∧k=0
 | [],k,h=>⟨fun r hr=>(by cases hr),h⟩
 |r::l,k,h=>by
  simp only[IM] at h
  split at h
  ·rename_i hc; exact absurd h hc
  ·rename_i hc;obtain⟨h1,h2⟩:=EV l k h;refine⟨fun q hq=>?_,h2⟩;rcases aZL.1 hq with rfl|hq
   ·simpa using hc
   ·exact h1 q hq
theorem aFZ{x:Ev}{rs:List Reg}(h:oG x rs=0):1≤x.1∧x.1≤1099511627776∧(0≤x.2.1.1∧x.2.1.1<x.2.1.2∧x.2.1.2≤5184000)∧0<x.2.2.2.2.2.length∧x.2.2.2.2.2.length≤4∧(∀r∈x.2.2.2.2.2,rI r=0)∧∃r,IG rs x.2.2.1=some r∧(OC r (ER x.2.2.2.2.2)).2=0:=by
 unfold oG at h
 split at h
 ·cases h
 split at h
 ·cases h
 split at h
 ·cases h
 rename_i c1 c2 c3
 split at h
 ·cases h
 rename_i r hr
 split at h
 ·cases h
 split at h
 ·cases h
 split at h
 ·cases h
 split at h
 ·cases h
 rename_i c6 c7;obtain⟨h1,h2⟩:=EV _ _ h;exact⟨by omega,by omega,by omega,by omega,by omega,h1,r,hr,h2⟩
def aJC(p:Option Ev) (x:Ev):Bool:=match p with
 |some q=>decide (oJ q x)
 |none=>true
def IR(rs:List Reg) (last:Int) (pre:List Ev) (x:Ev):Int :=
 if oG x rs≠0 then oG x rs else if last<x.1 then 2 else if aJC pre.getLast? x=false then 8 else if oI pre x.1 then 7 else 0
def uN(d:Doc):Int:=GJ (IR d.2.2.2.2.2.1 d.2.2.2.2.1) [] d.2.2.2.2.2.2.1
theorem UL{rs:List Reg}{last:Int}{pre:List Ev}{x:Ev}(h:IR rs last pre x=0):oG x rs=0∧x.1≤last∧aJC pre.getLast? x=true∧¬oI pre x.1:=by
 unfold IR at h
 split at h
 ·rename_i hc; exact absurd h hc
 rename_i c1
 split at h
 ·cases h
 rename_i c2
 split at h
 ·cases h
 rename_i c3
 split at h
 ·cases h
 rename_i c4;exact⟨by simpa using c1,by omega,by simpa using c3,c4⟩
theorem IS{α:Type}{l:List α}{i:Nat}(h:i<l.length):(l.take (i+1)).getLast?=some l[i]:=by
 rw[aWY h,List.getLast?_concat]
theorem aWU{α:Type}{K:Unit→Option α}{X:Option α}(h:K ()=X) (T:(Unit→Option α)→Option α):jn K T=T fun _=>X:=by
 rw[bX,show K=fun _=>X from funext fun _=>h]
def aOW(p:Option Cmt) (c:Cmt):Bool:=match p with
 |some q=>decide (q.1<c.1)
 |none=>true
def evZ:Ev:=(0,(0,0),[],0,[],[])
def aB6(l:List Ev) (k:Int):Ev:=aA l (toN (tL 0 l k)) evZ
def aF0(d:Doc) (c:Cmt):Int :=
 if c.2.1<1 then 2 else if d.2.2.2.2.1<c.2.1 then 2 else
 if c.2.2.2.2.2.2.2=true then(if c.2.2.1≠0 then 2 else if c.2.2.2.1≠0 then 2 else 0) else
 if ¬oI d.2.2.2.2.2.2.1 c.2.1 then 6 else if c.2.2.1<0 then 2 else if c.2.2.2.1≤c.2.2.1 then 2 else
 if UJ (aB6 d.2.2.2.2.2.2.1 c.2.1)<c.2.2.2.1 then 2 else 0
def aVY(c:Cmt):Int:=if nm c.2.2.2.2.1=false then 5 else if vld c.2.2.2.2.2.1=false then 10 else if c.2.2.2.2.2.1=[] then 4 else if 400<c.2.2.2.2.2.1.length then 9 else 0
def V7(d:Doc) (c:Cmt):Int:=if aF0 d c≠0 then aF0 d c else aVY c
def EW(d:Doc) (pre:List Cmt) (c:Cmt):Int :=
 if c.1<1 then 2 else if d.2.2.2.2.1<c.1 then 2 else if aOW pre.getLast? c=false then 8 else if oI d.2.2.2.2.2.2.1 c.1 then 7 else V7 d c
def sL(d:Doc):Int:=if 64<d.2.2.2.2.2.2.2.length then 9 else GJ (EW d) [] d.2.2.2.2.2.2.2
def V8(d:Doc):Prop:=(∀x∈d.2.2.2.2.2.2.1,(∀r∈x.2.2.2.2.2,okR r)∧x.2.2.2.2.2.length≤4)∧d.2.2.2.2.2.2.1.length≤400∧∀c∈d.2.2.2.2.2.2.2,c.2.2.2.2.2.1.length≤4000000
theorem aB7{d:Doc}(hg:V8 d){k:Int}(h:oI d.2.2.2.2.2.2.1 k):inb (tL 0 d.2.2.2.2.2.2.1 k) (len d.2.2.2.2.2.2.1)=true∧0≤tL 0 d.2.2.2.2.2.2.1 k∧q45 fuelH (aB6 d.2.2.2.2.2.2.1 k)=some (UJ (aB6 d.2.2.2.2.2.2.1 k)):=by
 obtain⟨j,hj,e1,e2,e3⟩:=aaIO _ 0 k h
 have he:aB6 d.2.2.2.2.2.2.1 k=d.2.2.2.2.2.2.1[j]:=by
  unfold aB6;rw[e1,aZS,bB hj]
 obtain⟨h1,h2⟩:=hg.1 _ (aY2 hj);rw[he];refine⟨by rw[e1]; exact aZ (by simp only[len]; omega),by omega,OK h1 (by omega)⟩
theorem UM{d:Doc}(hg:V8 d) (c:Cmt):q46 fuelH (d,c,oH 0 d.2.2.2.2.2.2.1)=some (aF0 d c,oH 0 d.2.2.2.2.2.2.1):=by
 unfold q46 aF0;simp only;rw[dM]
 by_cases c1:c.2.1<1
 ·rw[if_pos c1,if_pos c1]
 rw[if_neg c1,if_neg c1,dM]
 by_cases c2:d.2.2.2.2.1<c.2.1
 ·rw[if_pos c2,if_pos c2]
 rw[if_neg c2,if_neg c2]
 by_cases c3:c.2.2.2.2.2.2.2=true
 ·rw[aD c3,if_pos c3,wC,wC]
  by_cases c4:c.2.2.1≠0
  ·rw[if_pos c4,if_pos c4]
  rw[if_neg c4,if_neg c4]
  by_cases c5:c.2.2.2.1≠0
  ·rw[if_pos c5,if_pos c5]
  ·rw[if_neg c5,if_neg c5]
 ·rw[aC (by simpa using c3),if_neg c3,lQ,rF]
  by_cases c4:oI d.2.2.2.2.2.2.1 c.2.1
  ·rw[if_pos c4,if_neg (not_not_intro c4),dM]
   by_cases c5:c.2.2.1<0
   ·rw[if_pos c5,if_pos c5]
   rw[if_neg c5,if_neg c5,BJ]
   by_cases c6:c.2.2.2.1≤c.2.2.1
   ·rw[if_pos c6,if_pos c6]
   obtain⟨q1,q2,q3⟩:=aB7 hg c4
   have hm:nO ieq (0:Int) (oH 0 d.2.2.2.2.2.2.1) c.2.1=tL 0 d.2.2.2.2.2.2.1 c.2.1:=IN _ _ _ c4
   rw[if_neg c6,if_neg c6,hm,aG q1];refine aZ3 (bQ (show q45 fuelH (aA d.2.2.2.2.2.2.1 (toN (tL 0 d.2.2.2.2.2.2.1 c.2.1)) evZ)=_ from q3)) ?_;rw[dM]
   by_cases c7:UJ (aB6 d.2.2.2.2.2.2.1 c.2.1)<c.2.2.2.1
   ·rw[if_pos c7,if_pos c7]
   ·rw[if_neg c7,if_neg c7]
  ·rw[if_neg c4,if_pos c4]
theorem UN{d:Doc}(hg:V8 d):q47 fuelH (d,oH 0 d.2.2.2.2.2.2.1)=some (sL d,oH 0 d.2.2.2.2.2.2.1):=by
 unfold q47 sL;simp only
 by_cases h:64<d.2.2.2.2.2.2.2.length
 ·rw[aD (aW (by simp only[len]; omega)),if_pos h]
 rw[aC (aX (by simp only[len]; omega)),if_neg h,bX]
 have hanc:=fun c=>UM hg c
 have hvl:=hg.2.2
 generalize hm:oH 0 d.2.2.2.2.2.2.1=m at hanc ⊢
 have hmh:∀k,jI ieq m k=decide (oI d.2.2.2.2.2.2.1 k):=fun k=>by rw[←hm]; exact lQ _ _ _
 generalize hl:d.2.2.2.2.2.2.2=l at h hvl ⊢;refine aZ3 (ET (l:=l) (fun (_:Unit) (p:Nat)=>((p:Int),m)) (fun _=>()) (EW d) (fun e=>(e,m)) (some (0,m)) (fun self i hi=>?_) (fun _ self=>?_) fuelH 0 (aZ1 _) (by have:=bI; omega) (fun j _ hj=>by omega)) ?_
 ·have hin:inb (i:Int) (len l)=true:=aZ (by simp only[len]; omega)
  have hv:=hvl _ (aY2 hi)
  simp only;rw[aD (aW (by simp only[len]; omega)),aG hin,bB hi];refine aZ3 (aWU (X:=if V7 d l[i]≠0 then some (V7 d l[i],m) else self (((i+1:Nat):Int),m)) ?_ _) ?_
  ·skip
   rw[hanc,aB];unfold V7
   by_cases c1:aF0 d l[i]≠0
   ·rw[if_pos c1,if_pos c1,aD (cP c1)]
   ·rw[if_neg c1,aC (cQ (by simpa using c1)),pG,aB];unfold aVY
    by_cases c2:nm l[i].2.2.2.2.1=false
    ·rw[aD (by rw[c2]; rfl),if_pos c2,if_pos (by decide)]
    rw[aC (by rw[←aYZ,nJ]; exact c2),if_neg c2,kI _ hv,aB]
    by_cases c3:vld l[i].2.2.2.2.2.1=false
    ·rw[aD (by rw[c3]; rfl),if_pos c3,if_pos (by decide)]
    rw[aC (by rw[←aYZ,nJ]; exact c3),if_neg c3]
    by_cases c4:l[i].2.2.2.2.2.1=[]
    ·rw[aD (by rw[cJ]; exact c4),if_pos c4,if_pos (by decide)]
    rw[aC (by rw[←aYZ,cJ]; exact c4),if_neg c4]
    by_cases c5:400<l[i].2.2.2.2.2.1.length
    ·rw[aD (aW (by simp only[len]; omega)),if_pos c5,if_pos (by decide)]
    ·rw[aC (aX (by simp only[len]; omega)),if_neg c5,if_neg (by decide),aS hi (by omega)]
  ·simp only;rw[dM,dM];unfold EW
   by_cases c1:l[i].1<1
   ·rw[if_pos c1,if_pos c1,if_pos (by decide)]
   rw[if_neg c1,if_neg c1]
   by_cases c2:d.2.2.2.2.1<l[i].1
   ·rw[if_pos c2,if_pos c2,if_pos (by decide)]
   rw[if_neg c2,if_neg c2,hmh]
   cases i with
   |zero =>
    rw[aC (by rfl)]
    have e0:aOW (l.take 0).getLast? l[0]=true:=rfl
    rw[e0,if_neg (show ¬true=false by decide),jR]
    by_cases c3:oI d.2.2.2.2.2.2.1 l[0].1
    ·rw[if_pos c3,if_pos c3,if_pos (by decide)]
    ·rw[if_neg c3,if_neg c3]
   |succ i =>
    rw[aD (aW (by omega)),oF (by omega),aG (aZ (by simp only[len]; omega)),bB (show i<l.length by omega),BJ,jR]
    have e0:aOW (l.take (i+1)).getLast? l[i+1]=decide (l[i].1<l[i+1].1):=by rw[IS (show i<l.length by omega)]; rfl
    rw[e0]
    by_cases c4:l[i+1].1≤l[i].1
    ·rw[if_pos c4,decide_eq_false (by omega),if_pos rfl,if_pos (by decide)]
    rw[if_neg c4,decide_eq_true (by omega),if_neg (show ¬true=false by decide)]
    by_cases c3:oI d.2.2.2.2.2.2.1 l[i+1].1
    ·rw[if_pos c3,if_pos c3,if_pos (by decide)]
    ·rw[if_neg c3,if_neg c3]
 ·simp only;rw[aC (aX (by simp only[len]; omega))]
 ·rw[aZI,aZG]
  by_cases hc:GJ (EW d) [] l≠0
  ·rw[if_pos hc]
  ·rw[if_neg hc]
   have hc:GJ (EW d) [] l=0:=by simpa using hc
   rw[hc]
def cK(d:Doc):Int :=
 if iZ d≠0 then iZ d else if jS d.2.2.2.2.2.1≠0 then jS d.2.2.2.2.2.1 else
 if 400<d.2.2.2.2.2.2.1.length then 9 else if uN d≠0 then uN d else sL d
def uO(d:Doc):Prop:=d.1.length≤4000000∧d.2.2.2.2.2.1.length≤4000000∧(∀x∈d.2.2.2.2.2.2.1,aFQ x.2.2.2.2.2)∧∀c∈d.2.2.2.2.2.2.2,c.2.2.2.2.2.1.length≤4000000
theorem aJD{d:Doc}(hs:uO d) (hn:d.2.2.2.2.2.2.1.length≤400) (h:∀j (h:j<d.2.2.2.2.2.2.1.length),IR d.2.2.2.2.2.1 d.2.2.2.2.1 (d.2.2.2.2.2.2.1.take j) d.2.2.2.2.2.2.1[j]=0):V8 d:=by
 refine⟨fun x hx=>?_,hn,hs.2.2.2⟩;obtain⟨j,hj,rfl⟩:=List.mem_iff_getElem.1 hx;obtain⟨h1,_⟩:=UL (h j hj);obtain⟨_,_,_,_,h4,h5,_⟩:=aFZ h1;exact⟨fun r hr=>V5 (hs.2.2.1 _ hx r hr) (h5 r hr),h4⟩
theorem aB8{l:List Ev}{i:Nat}(hi:i<l.length) (hn:¬oI (l.take i) l[i].1):pY ieq (oH 0 (l.take i)) l[i].1 (i:Int)=oH 0 (l.take (i+1)):=by
 rw[qJ _ (by rw[lQ,decide_eq_false hn]),aWY hi,UI]
 have:(l.take i).length=i:=by rw[aYU]; omega
 rw[this,aZS];rfl
theorem jA{d:Doc}(hs:uO d):q48 fuelH d=some (cK d):=by
 unfold q48 cK;rw[bQ (aB5 hs.1)]
 by_cases c1:iZ d≠0
 ·rw[aD (cP c1),if_pos c1]
 rw[aC (cQ (by simpa using c1)),if_neg c1,bQ (UB _)]
 by_cases c2:jS d.2.2.2.2.2.1≠0
 ·rw[aD (cP c2),if_pos c2]
 rw[aC (cQ (by simpa using c2)),if_neg c2]
 by_cases c3:400<d.2.2.2.2.2.2.1.length
 ·rw[aD (aW (by simp only[len]; omega)),if_pos c3]
 rw[aC (aX (by simp only[len]; omega)),if_neg c3,bX]
 have hgood:=@aJD d hs (by omega)
 have hcm:=@UN d
 unfold uN
 have hev:=hs.2.2.1
 generalize hl:d.2.2.2.2.2.2.1=l at c3 hgood hcm hev ⊢;refine aZ3 (ET (l:=l) (fun (a:List (Int×Int)) (p:Nat)=>((p:Int),a)) (fun pre=>oH 0 pre) (IR d.2.2.2.2.2.1 d.2.2.2.2.1) (fun e=>e) (some (sL d)) (fun self i hi=>?_) (fun hz self=>?_) fuelH 0 (aZ1 _) (by have:=bI; omega) (fun j _ hj=>by omega)) ?_
 ·have hin:inb (i:Int) (len l)=true:=aZ (by simp only[len]; omega)
  have hx:=hev _ (aY2 hi)
  simp only;rw[aD (aW (by simp only[len]; omega)),aG hin,bB hi,bQ (ES hx hs.2.1),dM,aS hi (by omega)];unfold IR
  by_cases e1:oG l[i] d.2.2.2.2.2.1≠0
  ·rw[if_pos e1,if_pos e1,aD (cP e1)]
  rw[if_neg e1,aC (cQ (by simpa using e1))]
  by_cases e2:d.2.2.2.2.1<l[i].1
  ·rw[if_pos e2,if_pos e2,if_pos (by decide)]
  rw[if_neg e2,if_neg e2]
  have hput:=fun h=>aB8 hi h
  cases i with
  |zero =>
   rw[aC (by rfl),lQ,jR]
   have e0:aJC (l.take 0).getLast? l[0]=true:=rfl
   rw[e0,if_neg (show ¬true=false by decide)]
   by_cases e3:oI (l.take 0) l[0].1
   ·rw[if_pos e3,if_pos e3,if_pos (by decide)]
   ·rw[if_neg e3,if_neg e3,hput e3,if_neg (by decide)]
  |succ i =>
   rw[aD (aW (by omega)),oF (by omega),aG (aZ (by simp only[len]; omega)),bB (show i<l.length by omega),bQ (N0 _ _),lQ,jR,rF]
   have e0:aJC (l.take (i+1)).getLast? l[i+1]=decide (oJ l[i] l[i+1]):=by rw[IS (show i<l.length by omega)]; rfl
   rw[e0]
   by_cases e4:oJ l[i] l[i+1]
   ·rw[if_pos e4,decide_eq_true e4,if_neg (show ¬true=false by decide)]
    by_cases e3:oI (l.take (i+1)) l[i+1].1
    ·rw[if_pos e3,if_pos e3,if_pos (by decide)]
    ·rw[if_neg e3,if_neg e3,hput e3,if_neg (by decide)]
   ·rw[if_neg e4,decide_eq_false e4,if_pos rfl,if_pos (by decide)]
 ·simp only;rw[aC (aX (by simp only[len]; omega)),bQ (hcm (hgood hz))]
 ·rw[aZI,aZG]
  split<;>rfl
theorem aB9{l:List Reg}(hl:l.length≤1000000):aBR fuelH (l,l)=some true:=by
 unfold aBR;simp only;rw[aC (cQ rfl),bX];refine kJ (n:=l.length) (fun (_:Unit) (i:Nat)=>(i:Int)) (fun _ _=>True) _ (fun self a i hi _=>⟨(),?_,trivial⟩) (fun self a _=>?_) fuelH 0 () (aZ1 _) (by have:=bI; omega) trivial
 ·have hin:inb (i:Int) (len l)=true:=aZ (by simp only[len]; omega)
  rw[aD (aW (by simp only[len]; omega)),aG hin,aG hin,bB hi,aS hi (by omega),aC];rw[←aYZ,nJ,Bool.eq_false_iff];intro h;refine h ?_;simp only[sK,cJ,rG,EN];simp
 ·rw[aC (aX (by simp only[len]; omega))]
theorem aJE{x:Ev}(h1:x.2.2.2.2.2.length≤4000000) (h2:∀r∈x.2.2.2.2.2,r.length≤4000000):L0 fuelH (x,x)=some true:=by
 unfold L0;simp only;rw[aD (dN rfl),aD (by simp[sK,rG]),aD (by rw[cJ]),aD (dN rfl),aD (by rw[cJ]),aB3 _ _ h1 h2,aB];simp
theorem aF1{l:List Ev}(hl:l.length≤1000000) (h:∀x∈l,x.2.2.2.2.2.length≤4000000∧∀r∈x.2.2.2.2.2,r.length≤4000000):aBU fuelH (l,l)=some true:=by
 unfold aBU;simp only;rw[aC (cQ rfl),bX];refine kJ (n:=l.length) (fun (_:Unit) (i:Nat)=>(i:Int)) (fun _ _=>True) _ (fun self a i hi _=>⟨(),?_,trivial⟩) (fun self a _=>?_) fuelH 0 () (aZ1 _) (by have:=bI; omega) trivial
 ·have hin:inb (i:Int) (len l)=true:=aZ (by simp only[len]; omega)
  obtain⟨h1,h2⟩:=h _ (aY2 hi);rw[aD (aW (by simp only[len]; omega)),aG hin,aG hin,bB hi,aS hi (by omega),bQ (aJE h1 h2),aC (by rfl)]
 ·rw[aC (aX (by simp only[len]; omega))]
theorem aF2{d:Doc}(h1:d.2.2.2.2.2.1.length≤1000000) (h2:d.2.2.2.2.2.2.1.length≤1000000) (h3:∀x∈d.2.2.2.2.2.2.1,x.2.2.2.2.2.length≤4000000∧∀r∈x.2.2.2.2.2,r.length≤4000000) (h4:d.2.2.2.2.2.2.2=[]):NS fuelH (d,d)=some true:=by
 unfold NS
 have hh:aBQ fuelH d=some (d.1,d.2.1,d.2.2.1,d.2.2.2.1,d.2.2.2.2.1):=rfl
 simp only;rw[hh,aB,aB,aD (by simp[sK,rG,cJ,EN]),aB9 h1,aB,aD rfl,aF1 h2 h3,aB,aD rfl,h4]
 have:aEY fuelH ([],[])=some true:=by kernel_rfl
 rw[this];rfl
def wtG(r:Reg):Nat:=r.1.length+1+(1+(1+(1+(1+(1+1)))))
def wtX(x:Ev):Nat:=1+(1+1+(x.2.2.1.length+1+(1+(x.2.2.2.2.1.length+1+(bkL wtR x.2.2.2.2.2+1)))))
def wtC(c:Cmt):Nat:=1+(1+(1+(1+(c.2.2.2.2.1.length+1+(c.2.2.2.2.2.1.length+1+(1+1))))))
def wtD(d:Doc):Nat:=d.1.length+1+(d.2.1.length+1+(1+(1+(1+(bkL wtG d.2.2.2.2.2.1+1+(bkL wtX d.2.2.2.2.2.2.1+1+(bkL wtC d.2.2.2.2.2.2.2+1)))))))
def aOX(t:Y_) (r:Int):Bool:=ieq ((decodeL (enc r++t)).1:Int) r&&decide ((decodeL (enc r++t)).2=(enc r).length)
theorem aJF(t:Y_):((gJ++iA).all (aOX t))=true:=by kernel_rfl
theorem aJG{r:Int}(hr:dS r=true) (t:Y_):((decodeL (enc r++t)).1:Int)=r∧(decodeL (enc r++t)).2=(enc r).length:=by
 have h:aOX t r=true:=wD (aJF t) hr
 unfold aOX at h;rw[aYS,rG,decide_eq_true_eq] at h;exact h
theorem V9{r:Int}(hr:dS r=true):enc r≠[]:=by
 have h:=wD (P:=fun r=>!(enc r).isEmpty) (by kernel_rfl) hr
 intro e;simp[e] at h
theorem OL:∀(l:List Int) (t:Y_),l.all dS=true→vld (ofR l++t)=vld t
 | [],t,_=>rfl
 |r::l,t,h=>by
  rw[aZP,aYS] at h
  have e:ofR (r::l)++t=enc r++(ofR l++t):=by unfold ofR; rw[List.flatMap_cons,aYK]
  obtain⟨d1,d2⟩:=aJG h.1 (ofR l++t);rw[e,wB _ (by simp[V9 h.1]),d1,d2,List.drop_left,if_pos h.1,OL l t h.2]
theorem aJH{a:Y_}(h:vld a=true) (b:Y_):vld (a++b)=vld b:=by
 conv=>lhs; rw[←V1 h]
 exact OL _ _ (aFI h)
theorem lR{d:Doc}(h:cK d=0):iZ d=0∧d.2.2.2.2.2.2.1.length≤400∧uN d=0:=by
 unfold cK at h
 split at h
 ·rename_i hc; exact absurd h hc
 rename_i c1
 split at h
 ·rename_i hc; exact absurd h hc
 split at h
 ·cases h
 rename_i hn
 split at h
 ·rename_i hc; exact absurd h hc
 rename_i hc;exact⟨by simpa using c1,by omega,by simpa using hc⟩
end
end Go.Mo
end
section
end
section
namespace Go.Mo
open Go Go.W Go.Lib
set_option maxRecDepth 100000
noncomputable section
def aLT(l:Lbl):Prop:=(0≤l.1∧l.1≤23)∧(0≤l.2.1∧l.2.1≤59)∧(0≤l.2.2.1∧l.2.2.1≤59)∧(0≤l.2.2.2.1∧l.2.2.2.1≤59)
structure HdrOk (h:Hdr):Prop where
 rate:h.1=3∨h.1=5
 lang:h.2.1=[]∨nm h.2.1=true
 ttl:vld h.2.2.1=true
 ttlL:h.2.2.1.length≤400
 blocks:0≤h.2.2.2.1∧h.2.2.2.1≤99999
 groups:0≤h.2.2.2.2.1∧h.2.2.2.2.1≤99999
 start:aLT h.2.2.2.2.2.1
 first:aLT h.2.2.2.2.2.2.1
 rows:0≤h.2.2.2.2.2.2.2.1∧h.2.2.2.2.2.2.2.1≤99
 cols:0≤h.2.2.2.2.2.2.2.2∧h.2.2.2.2.2.2.2.2≤99
 d1:h.2.2.2.2.2.1.2.2.2.2=false
 d2:h.2.2.2.2.2.2.1.2.2.2.2=false
def hz:Hdr:=((0:UInt8),([]:Y_),([]:Y_),(0:Int),(0:Int),((0:Int),(0:Int),(0:Int),(0:Int),false),((0:Int),(0:Int),(0:Int),(0:Int),false),(0:Int),(0:Int))
def aVZ(x:Ev):Prop:=x.2.2.2.2.2.length≤1000000∧∀r∈x.2.2.2.2.2,r.length≤1000000
end
end Go.Mo
end
end

section
set_option linter.all false
namespace Go.Mo
open Go Go.W Go.Lib
set_option maxRecDepth 100000
noncomputable section
theorem cX{V R σ α:Type}{F:(V→Option R)→V→Option R}{s:List α}(st:σ→Nat→V) (spec:σ→List α→Option R) (I:Nat→σ→Prop)
  (hstep:∀self a i,i≤s.length→I i a→(∀a' j,i<j→j≤s.length→I j a'→self (st a' j)=spec a' (s.drop j))→F self (st a i)=spec a (s.drop i)) :
  ∀(fuel i:Nat) (a:σ),s.length-i<fuel→i≤s.length→I i a→bG F fuel (st a i)=spec a (s.drop i)
 | 0,i,a,h,_,_=>by omega
 |fuel+1,i,a,h,hi,hI=>by
  rw[gT];exact hstep _ a i hi hI fun a' j hj hj2 hI2=>cX st spec I hstep fuel j a' (by omega) hj2 hI2
theorem cY{α:Type}{s:List α}(h:s.length≤4000000) (i:Nat):s.length-i<fuelH:=by have:=bI; omega
def oK(x:UInt8):Bool:=(decide (97≤x.toNat)&&decide (x.toNat≤122))||(decide (65≤x.toNat)&&decide (x.toNat≤90))
def aJI(x:UInt8):Bool:=decide (48≤x.toNat)&&decide (x.toNat≤57)
def nL(x:UInt8):Bool:=oK x||aJI x||x==45
def wsB(x:UInt8):Bool:=x==9||x==10||x==13||x==32
theorem UO:((List.range 256).all fun n=>decide (q57 0 (UInt8.ofNat n)=some (oK (UInt8.ofNat n))∧aMX 0 (UInt8.ofNat n)=some (oK (UInt8.ofNat n))∧q58 0 (UInt8.ofNat n)=some (nL (UInt8.ofNat n))∧aIY 0 (UInt8.ofNat n)=some (aJI (UInt8.ofNat n))∧q76 0 (UInt8.ofNat n)=some (wsB (UInt8.ofNat n))))=true:=by kernel_rfl
theorem OM(x:UInt8):q57 0 x=some (oK x)∧aMX 0 x=some (oK x)∧q58 0 x=some (nL x)∧aIY 0 x=some (aJI x)∧q76 0 x=some (wsB x) :=
 of_decide_eq_true (gU (P:=fun x=>decide (q57 0 x=some (oK x)∧aMX 0 x=some (oK x)∧q58 0 x=some (nL x)∧aIY 0 x=some (aJI x)∧q76 0 x=some (wsB x))) UO x)
theorem IT(N:Nat) (x:UInt8):q57 N x=some (oK x):=(OM x).1
theorem W0(N:Nat) (x:UInt8):q58 N x=some (nL x):=(OM x).2.2.1
theorem aF3(N:Nat) (x:UInt8):q76 N x=some (wsB x):=(OM x).2.2.2.2
theorem wG{s:Y_}(hs:s.length≤600000000) (c:UInt8) (r:Y_) (hr:r≠[c]) (hr2:r.length≤6):q62 fuelH (s,[c],r)=some (s.flatMap (oC c r)):=by
 have h1:q62 fuelH (s,[c],r)=grd (decide (s.length<4294967281)) (grd (decide (1≤([c]:Y_).length)) (grd (decide (s.length+Lib.count s [c]*r.length≤140737488355328)) (some (Lib.replace s [c] r (-1))))):=by
  unfold q62 strings_Replace fZ;generalize hX:grd _ _=X;cases X<;>rfl
 have hc:=Lib.count_le s [c]
 have hm:Lib.count s [c]*r.length≤(s.length+1)*6:=Nat.mul_le_mul hc hr2
 rw[h1,aG (decide_eq_true (by omega)),aG (by rfl),aG (decide_eq_true (by omega)),NV c r s hr]
theorem aWV(N:Nat) (x:Y_):q63 (N+10) x=bnd (q62 (N+10) (x,[38],[38,97,109,112,59])) fun a=>bnd (q62 (N+10) (a,[60],[38,108,116,59])) fun b=>bnd (q62 (N+10) (b,[62],[38,103,116,59])) fun c=>bnd (q62 (N+10) (c,[34],[38,113,117,111,116,59])) fun d=>bnd (q62 (N+10) (d,[39],[38,97,112,111,115,59])) fun e=>some e:=by kernel_rfl
theorem wH(c:UInt8){r:Y_}{k:Nat}(hr:r.length≤k) (hk:1≤k) (b:UInt8):(oC c r b).length≤k:=by
 unfold oC
 split
 ·exact hr
 ·exact hk
theorem aF4{s:Y_}(hs:s.length≤1100000):q63 fuelH s=some (esc s):=by
 have h0:=aWV (nB+4990) s
 have l1:=oD (wH 38 (r:=[38,97,109,112,59]) (k:=5) (by decide) (by decide)) s
 have l2:=oD (wH 60 (r:=[38,108,116,59]) (k:=4) (by decide) (by decide)) (s.flatMap (oC 38 [38,97,109,112,59]))
 have l3:=oD (wH 62 (r:=[38,103,116,59]) (k:=4) (by decide) (by decide)) ((s.flatMap (oC 38 [38,97,109,112,59])).flatMap (oC 60 [38,108,116,59]))
 have l4:=oD (wH 34 (r:=[38,113,117,111,116,59]) (k:=6) (by decide) (by decide)) (((s.flatMap (oC 38 [38,97,109,112,59])).flatMap (oC 60 [38,108,116,59])).flatMap (oC 62 [38,103,116,59]))
 show q63 (nB+4990+10) s=_;rw[h0];show(bnd (q62 fuelH _) _)=_;rw[wG (by omega) 38 _ (by decide) (by decide),aB];show(bnd (q62 fuelH _) _)=_;rw[wG (by omega) 60 _ (by decide) (by decide),aB];show(bnd (q62 fuelH _) _)=_;rw[wG (by omega) 62 _ (by decide) (by decide),aB];show(bnd (q62 fuelH _) _)=_;rw[wG (by omega) 34 _ (by decide) (by decide),aB];show(bnd (q62 fuelH _) _)=_;rw[wG (by omega) 39 _ (by decide) (by decide),aB,aFG]
theorem UP(b:UInt8) (l:Y_):esc (b::l)=GI b++esc l:=by unfold esc; rw[List.flatMap_cons]
theorem aOY{R:Type}{F:(Int→Option R)→Int→Option R}{s:Y_}(P:UInt8→Bool) (K:Int→Option R)
  (hin:∀self i (h:i<s.length),F self (i:Int)=if P s[i]=true then self ((i+1:Nat):Int) else K i) (hend:∀self,F self (s.length:Int)=K s.length) :
  ∀(fuel i:Nat),s.length-i<fuel→i≤s.length→bG F fuel (i:Int)=K ((i+((s.drop i).takeWhile P).length:Nat):Int)
 | 0,i,h,_=>by omega
 |fuel+1,i,h,hi=>by
  rw[gT]
  by_cases hl:i<s.length
  ·rw[hin _ i hl,aW8 hl,aX9]
   by_cases hp:P s[i]=true
   ·rw[if_pos hp,if_pos hp,aOY P K hin hend fuel (i+1) (by omega) (by omega),aYR];congr 2;omega
   ·rw[if_neg hp,if_neg hp];rfl
  ·obtain rfl:i=s.length:=by omega
   rw[hend,aY1];rfl
def gK(x:UInt8):Int:=if 48≤x.toNat∧x.toNat≤57 then(x.toNat:Int)-48 else if 97≤x.toNat∧x.toNat≤102 then(x.toNat:Int)-87 else if 65≤x.toNat∧x.toNat≤70 then(x.toNat:Int)-55 else -1
def dgV(base:Int) (x:UInt8):Int:=if base≤gK x then -1 else gK x
theorem N1:((List.range 256).all fun n=>decide (q80 0 (UInt8.ofNat n,10)=some (dgV 10 (UInt8.ofNat n))∧q80 0 (UInt8.ofNat n,16)=some (dgV 16 (UInt8.ofNat n))∧BI 0 (UInt8.ofNat n)=some (gK (UInt8.ofNat n))∧(-1≤gK (UInt8.ofNat n)∧gK (UInt8.ofNat n)<16)))=true:=by kernel_rfl
theorem digits(x:UInt8):q80 0 (x,10)=some (dgV 10 x)∧q80 0 (x,16)=some (dgV 16 x)∧BI 0 x=some (gK x)∧(-1≤gK x∧gK x<16) :=
 of_decide_eq_true (gU (P:=fun x=>decide (q80 0 (x,10)=some (dgV 10 x)∧q80 0 (x,16)=some (dgV 16 x)∧BI 0 x=some (gK x)∧(-1≤gK x∧gK x<16))) N1 x)
theorem aF5{base:Int}(hb:base=10∨base=16) (N:Nat) (x:UInt8):q80 N (x,base)=some (dgV base x):=by
 rcases hb with rfl|rfl
 ·exact(digits x).1
 ·exact(digits x).2.1
def dOk(base:Int) (x:UInt8):Bool:=decide (0≤gK x)&&decide (gK x<base)
def AO(base:Int) (n:Int) (d:Y_):Int:=d.foldl (fun n x=>n*base+gK x) n
theorem X0{base:Int}(hb:0≤base):∀(d:Y_) (n:Int),0≤n→d.all (dOk base)=true→0≤AO base n d∧AO base n d<(n+1)*base^d.length
 | [],n,hn,_=>by simp[AO]; omega
 |x::d,n,hn,h=>by
  rw[aZP,aYS] at h
  have h1:0≤gK x∧gK x<base:=by have:=h.1; unfold dOk at this; simpa using this
  have h0:0≤n*base:=Int.mul_nonneg hn hb
  have ih:=X0 hb d (n*base+gK x) (by omega) h.2
  refine⟨ih.1,Int.lt_of_lt_of_le ih.2 ?_⟩;rw[aYR,Int.pow_succ,Int.mul_comm (base^d.length) base,←Int.mul_assoc];refine Int.mul_le_mul_of_nonneg_right ?_ (Int.pow_nonneg hb);rw[Int.add_mul];omega
def oL(base:Int) (most:Nat) (d:Y_):Y_×Int :=
 if d=[]∨most<d.length∨d.all (dOk base)=false then([],4) else if dS (AO base 0 d)=false then([],10) else(enc (AO base 0 d),0)
def wI(c:Y_):Y_×Int :=
 if c=[97,109,112] then([38],0) else if c=[108,116] then([60],0) else if c=[103,116] then([62],0) else if c=[113,117,111,116] then([34],0) else if c=[97,112,111,115] then([39],0)
 else if c.take 2=[35,120] then oL 16 5 (c.drop 2) else if c.take 1=[35] then oL 10 6 (c.drop 1) else([],4)
def bD(b:UInt8):Bool:=b != 59
theorem N2{base:Int}{most:Nat}{d:Y_}(hb:(base=10∧most=6)∨(base=16∧most=5)) (hl:d.length≤most) (ha:d.all (dOk base)=true):0≤AO base 0 d∧AO base 0 d<1048576:=by
 have h0:0≤base:=by rcases hb with⟨rfl,_⟩|⟨rfl,_⟩<;>decide
 have h:=X0 h0 d 0 (Int.le_refl _) ha
 refine⟨h.1,Int.lt_of_lt_of_le h.2 ?_⟩;rw[Int.zero_add,Int.one_mul];rcases hb with⟨rfl,rfl⟩|⟨rfl,rfl⟩
 ·have:(10:Int)^d.length≤10^6:=by
   have:=Nat.pow_le_pow_right (n:=10) (by decide) hl
   exact_mod_cast this
  omega
 ·have:(16:Int)^d.length≤16^5:=by
   have:=Nat.pow_le_pow_right (n:=16) (by decide) hl
   exact_mod_cast this
  omega
theorem aJJ{x:Int}(h:0≤x∧x<2147483648):wr .i32 x=x:=by
 show IntKind.wrap .i32 x=x;unfold IntKind.wrap;simp only[IntKind.bits,IntKind.signed,aZO,decide_eq_true_eq,show(2:Int)^32=4294967296 from rfl,show(2:Int)^(32-1)=2147483648 from rfl]
 split<;>omega
def aJK(N:Nat) (x:Y_):Option (Y_×Int×Int) :=
  jn (fun (v1:Int×Int×Int) =>
   jn (fun (v2:Int×Int) =>
    cnd (ieq v2.1 v1.1)
     (some (([]:Y_),(0:Int),(4:Int)))
     (cnd (ilt v1.2.2 (w64 (aJ v2.1 v1.1)))
      (some (([]:Y_),(0:Int),(4:Int)))
      (cnd (ieq v2.1 (len x))
       (some (([]:Y_),(0:Int),(4:Int)))
       (grd (inb v2.1 (len x))
        (cnd (ine (n8 (aA x (toN v2.1) (0:UInt8))) (n8 (59:UInt8)))
         (some (([]:Y_),(0:Int),(4:Int)))
         (bnd (q12 N (wr .i32 v2.2)) fun v3 =>
         cnd (ilt v3 (0:Int))
          (some (([]:Y_),(0:Int),(10:Int)))
          (some (enc (wr .i32 v2.2),w64 (aE v2.1 (1:Int)),(0:Int)))))))))
   fun v4 =>
   bG (fun v5 (v6:Int×Int) =>
    cnd (ilt v6.1 (len x))
     (grd (inb v6.1 (len x))
      (bnd (q80 N (aA x (toN v6.1) (0:UInt8),v1.2.1)) fun v7 =>
      cnd (ile (0:Int) v7)
       (grd (inb v6.1 (len x))
        (bnd (q80 N (aA x (toN v6.1) (0:UInt8),v1.2.1)) fun v8 =>
        v5 (w64 (aE v6.1 (1:Int)),kY (w64 (aE (w64 (nM v6.2 v1.2.1)) v8)) (16777216:Int))))
       (v4 v6)))
     (v4 v6)) N (v1.1,(0:Int)))
  fun v9 =>
  bnd (q75 N (x,([38,35,120]:Y_))) fun v10 =>
  cnd v10
   (v9 ((3:Int),(16:Int),(5:Int)))
   (bnd (q75 N (x,([38,35]:Y_))) fun v11 =>
   cnd (bP v11)
    (some (([]:Y_),(0:Int),(4:Int)))
    (v9 ((2:Int),(10:Int),(6:Int))))
theorem aF6(N:Nat) (x:Y_):q81 (N+10) x=jn (fun (_:Unit)=>aJK (N+10) x) fun v12=>bnd (q75 (N+10) (x,([38,97,109,112,59]:Y_))) fun v=>cnd v (some (([38]:Y_),(5:Int),(0:Int))) (bnd (q75 (N+10) (x,([38,108,116,59]:Y_))) fun v=>cnd v (some (([60]:Y_),(4:Int),(0:Int))) (bnd (q75 (N+10) (x,([38,103,116,59]:Y_))) fun v=>cnd v (some (([62]:Y_),(4:Int),(0:Int))) (bnd (q75 (N+10) (x,([38,113,117,111,116,59]:Y_))) fun v=>cnd v (some (([34]:Y_),(6:Int),(0:Int))) (bnd (q75 (N+10) (x,([38,97,112,111,115,59]:Y_))) fun v=>cnd v (some (([39]:Y_),(6:Int),(0:Int))) (v12 ()))))):=by kernel_rfl
def kv(v:Int):Option (Y_×Int):=cnd (ilt v (0:Int)) (some (([]:Y_),(4:Int))) (bnd (aEZ fuelH (wr .i32 v)) fun v2=>cnd (ilt v2 (0:Int)) (some (([]:Y_),(10:Int))) (bnd (aMY fuelH ([wr .i32 v]:List Int)) fun v3=>some (v3,(0:Int))))
def v8(x:Y_) (b:Bool):Option (Y_×Int):=cnd b (grd (in2 (2:Int) (len x)) (bnd (SJ fuelH (cS (toN (2:Int)) x,(16:Int),(5:Int))) kv))
 (cnd (ilt (0:Int) (len x)) (grd (inb (0:Int) (len x)) (cnd (ieq (n8 (aA x (toN (0:Int)) (0:UInt8))) (n8 (35:UInt8))) (grd (in2 (1:Int) (len x)) (bnd (SJ fuelH (cS (toN (1:Int)) x,(10:Int),(6:Int))) kv)) (kv (-1:Int)))) (kv (-1:Int)))
def EX(c:Y_):Y_×Int:=if c.take 2=[35,120] then oL 16 5 (c.drop 2) else if c.take 1=[35] then oL 10 6 (c.drop 1) else([],4)
theorem ON(c:Y_):wI c=if c=[97,109,112] then([38],0) else if c=[108,116] then([60],0) else if c=[103,116] then([62],0) else if c=[113,117,111,116] then([34],0) else if c=[97,112,111,115] then([39],0) else EX c:=rfl
theorem IU(N:Nat) (s p:Y_):q75 N (s,p)=some (decide (s.take p.length=p)):=by
 unfold q75 q74
 by_cases h:p.length≤s.length
 ·rw[aD (hM (by simp only[len]; omega)),aG (nA (by simp only[len]; omega)),aB,cC];simp only[bO,toN,len,aYP]<;>exact congrArg some (decide_eq_decide.2 Iff.rfl)
 ·rw[aC (kH (by simp only[len]; omega)),aB]
  have:¬(s.take p.length=p):=fun e=>by
   have:=congrArg List.length e
   rw[aYU] at this;omega
  rw[decide_eq_false this]
theorem rJ{c t:Y_}(h:c.all bD=true):(c++59::t).takeWhile bD=c:=by
 rw[aW1 (by simpa using h),aX9];simp[bD]
theorem aOZ{c:Y_}(h:c.all bD=true):c.takeWhile bD=c:=by
 have:=aW1 (p:=bD) (l₁:=c) (l₂:=[]) (by simpa using h)
 simpa using this
theorem rK:∀r:Y_,(r.all bD=true)∨∃c t,r=c++59::t∧c.all bD=true
 | []=>.inl rfl
 |b::r=>by
  by_cases hb:b=59
  ·exact .inr ⟨[],r,by rw[hb]; rfl,rfl⟩
  have h1:bD b=true:=by simpa [bD] using hb
  rcases rK r with h|⟨c,t,e,h⟩
  ·exact .inl (by rw[aZP,h1,h]; rfl)
  ·exact .inr ⟨b::c,t,by rw[e]; rfl,by rw[aZP,h1,h]; rfl⟩
theorem IV{base:Int}(hb:1≤base):∀(d:Y_) (n:Int),0≤n→d.all (dOk base)=true→n≤AO base n d∧(AO base n d≤16777216→d.foldl (fun n x=>min (n*base+gK x) 16777216) n=AO base n d)
 | [],n,_,_=>⟨Int.le_refl _,fun _=>rfl⟩
 |x::d,n,hn,h=>by
  rw[aZP,aYS] at h
  have h1:0≤gK x∧gK x<base:=by have:=h.1; unfold dOk at this; simpa using this
  have h0:n*1≤n*base:=Int.mul_le_mul_of_nonneg_left hb hn
  have ih:=IV hb d (n*base+gK x) (by omega) h.2
  refine⟨Int.le_trans (by omega) ih.1,fun hle=>?_⟩
  have hle:AO base (n*base+gK x) d≤16777216:=hle
  rw[List.foldl_cons]
  have hm:min (n*base+gK x) 16777216=n*base+gK x:=by have:=ih.1; omega
  rw[hm];exact ih.2 hle
def kS(r:Y_):Y_×Int×Int :=
 let c:=r.takeWhile bD
 if c.length=r.length then([],0,4) else if(wI c).2=0 then((wI c).1,((c.length+2:Nat):Int),0) else([],0,(wI c).2)
theorem aJL{r:Y_}(h:r.all bD=true):kS r=([],0,4):=by
 unfold kS;simp only[aOZ h,if_true]
theorem UQ{c t:Y_}(h:c.all bD=true):kS (c++59::t)=if(wI c).2=0 then((wI c).1,((c.length+2:Nat):Int),0) else([],0,(wI c).2):=by
 unfold kS;simp only[rJ h];rw[if_neg (by simp)]
def k2N(N:Nat) (s:Y_) (at':Int) (most:Int) (v2:Int×Int):Option (Y_×Int×Int) :=
    cnd (ieq v2.1 at')
     (some (([]:Y_),(0:Int),(4:Int)))
     (cnd (ilt most (w64 (aJ v2.1 at')))
      (some (([]:Y_),(0:Int),(4:Int)))
      (cnd (ieq v2.1 (len s))
       (some (([]:Y_),(0:Int),(4:Int)))
       (grd (inb v2.1 (len s))
        (cnd (ine (n8 (aA s (toN v2.1) (0:UInt8))) (n8 (59:UInt8)))
         (some (([]:Y_),(0:Int),(4:Int)))
         (bnd (q12 N (wr .i32 v2.2)) fun v3 =>
         cnd (ilt v3 (0:Int))
          (some (([]:Y_),(0:Int),(10:Int)))
          (some (enc (wr .i32 v2.2),w64 (aE v2.1 (1:Int)),(0:Int))))))))
def k2(s:Y_) (at':Int) (most:Int) (v2:Int×Int):Option (Y_×Int×Int):=k2N fuelH s at' most v2
theorem aO0{base:Int}(x:UInt8):(0≤dgV base x↔dOk base x=true)∧(dOk base x=true→dgV base x=gK x):=by
 unfold dgV dOk
 by_cases h:base≤gK x
 ·rw[if_pos h];refine⟨⟨fun k=>by omega,fun k=>?_⟩,fun k=>?_⟩
  ·simp at k; omega
  ·simp at k; omega
 ·rw[if_neg h];refine⟨⟨fun k=>by simp; omega,fun k=>?_⟩,fun _=>rfl⟩;simp at k; omega
theorem UR{s:Y_}(hs:s.length≤4000000){base:Int}(hb:base=10∨base=16){K:Int×Int→Option (Y_×Int×Int)}:∀(fuel i:Nat) (n:Int),s.length-i<fuel→i≤s.length→0≤n→n≤16777216 →
  bG (fun v5 (v6:Int×Int) =>
    cnd (ilt v6.1 (len s))
     (grd (inb v6.1 (len s))
      (bnd (q80 fuelH (aA s (toN v6.1) (0:UInt8),base)) fun v7 =>
      cnd (ile (0:Int) v7)
       (grd (inb v6.1 (len s))
        (bnd (q80 fuelH (aA s (toN v6.1) (0:UInt8),base)) fun v8 =>
        v5 (w64 (aE v6.1 (1:Int)),kY (w64 (aE (w64 (nM v6.2 base)) v8)) (16777216:Int))))
       (K v6)))
     (K v6)) fuel ((i:Int),n)=K (((i+((s.drop i).takeWhile (dOk base)).length:Nat):Int),((s.drop i).takeWhile (dOk base)).foldl (fun n x=>min (n*base+gK x) 16777216) n)
 | 0,i,n,h,_,_,_=>by omega
 |fuel+1,i,n,h,hi,h0,h1=>by
  rw[gT]
  by_cases hl:i<s.length
  ·have g:aA s (toN (i:Int)) (0:UInt8)=s[i]:=bB hl
   have hw:w64 (aE (i:Int) 1)=((i+1:Nat):Int):=aS hl (by omega)
   have hx:=(digits s[i]).2.2.2
   have hdv:=aO0 (base:=base) s[i]
   show cnd (ilt (i:Int) (len s)) _ _=_;rw[aD (aW (by simp only[len]; omega)),aG (aZ (by simp only[len]; omega)),g,aF5 hb,aB,aG (aZ (by simp only[len]; omega)),aB,hw,aW8 hl,aX9]
   by_cases hd:dOk base s[i]=true
   ·have h2:=hdv.2 hd
    have h3:0≤gK s[i]∧gK s[i]<base:=by unfold dOk at hd; simpa using hd
    have hb16:1≤base∧base≤16:=by rcases hb with rfl|rfl<;>decide
    have m0:0≤n*base:=Int.mul_nonneg h0 (by omega)
    have m1:n*base≤n*16:=Int.mul_le_mul_of_nonneg_left hb16.2 h0
    rw[aD (hM (hdv.1.2 hd)),if_pos hd,h2]
    have e1:kY (w64 (aE (w64 (nM n base)) (gK s[i]))) 16777216=min (n*base+gK s[i]) 16777216:=by
     simp only[nM,aE,kY];rw[bU (x:=n*base) (by omega),bU (by omega)]
    rw[e1]
    have ih:=UR hs hb (K:=K) fuel (i+1) (min (n*base+gK s[i]) 16777216) (by omega) (by omega) (by omega) (by omega)
    rw[ih,aYR,List.foldl_cons];congr 3;omega
   ·rw[aC (kH (fun k=>hd (hdv.1.1 k))),if_neg hd];rfl
  ·obtain rfl:i=s.length:=by omega
   show cnd (ilt (s.length:Int) (len s)) _ _=_;rw[aC (aX (by simp only[len]; omega)),aY1];rfl
theorem aF7{P:UInt8→Bool}:∀l:Y_,(l.takeWhile P).all P=true
 | []=>rfl
 |b::l=>by
  rw[aX9]
  split
  ·rename_i h;rw[aZP,h,aF7 l];rfl
  ·rfl
theorem X1{P:UInt8→Bool}:∀l:Y_,l.drop (l.takeWhile P).length=[]∨∃b t,l.drop (l.takeWhile P).length=b::t∧P b=false
 | []=>.inl rfl
 |b::l=>by
  rw[aX9]
  by_cases h:P b=true
  ·rw[if_pos h]
   simpa using X1 l
  ·rw[if_neg h];exact .inr ⟨b,l,rfl,by simpa using h⟩
theorem OO(P:UInt8→Bool):∀l:Y_,l.takeWhile P++l.drop (l.takeWhile P).length=l
 | []=>rfl
 |b::l=>by
  rw[aX9]
  split
  ·rw[aYR,aX4,aYT,OO P l]
  ·rfl
theorem yQ{base:Int}{x:UInt8}(h:dOk base x=true):bD x=true:=by
 unfold bD;simp only[bne_iff_ne,ne_eq];intro e;subst e;unfold dOk at h;simp[gK] at h
theorem N3{s:Y_}{a m:Nat}{n:Int}{most:Nat}(hl:s.length≤4000000) (ham:a+m≤s.length) (h:m=0∨most<m∨a+m=s.length∨∃b t,s.drop (a+m)=b::t∧b≠59):k2 s (a:Int) (most:Int) (((a+m:Nat):Int),n)=some ([],0,4):=by
 unfold k2 k2N;simp only
 by_cases h0:m=0
 ·rw[aD (dN (by omega))]
 rw[aC (dF (by omega))]
 have e1:w64 (aJ ((a+m:Nat):Int) (a:Int))=(m:Int):=by
  simp only[aJ];rw[bU (by omega)];omega
 rw[e1]
 by_cases h1:most<m
 ·rw[aD (aW (by omega))]
 rw[aC (aX (by omega))]
 by_cases h2:a+m=s.length
 ·rw[aD (dN (by simp only[len]; omega))]
 rw[aC (dF (by simp only[len]; omega)),aG (aZ (by simp only[len]; omega))];rcases h with h|h|h|⟨b,t,h3,h4⟩
 ·exact absurd h h0
 ·exact absurd h h1
 ·exact absurd h h2
 ·have hlt:a+m<s.length:=by omega
  have hb:s[a+m]=b:=by
   rw[aW8 hlt] at h3;injection h3
  rw[bB hlt,hb,aD (cP (fun k=>h4 (fL k)))]
theorem aV0{s:Y_}{a m:Nat}{n:Int}{most:Nat}{t:Y_}(hl:s.length≤4000000) (h0:m≠0) (h1:¬most<m) (h3:s.drop (a+m)=59::t) (hn:0≤n∧n<1048576):k2 s (a:Int) (most:Int) (((a+m:Nat):Int),n)=some (if dS n=false then([],0,10) else(enc n,((a+m+1:Nat):Int),0)):=by
 have hlt:a+m<s.length:=by
  rcases Nat.lt_or_ge (a+m) s.length with h|h
  ·exact h
  ·rw[List.drop_eq_nil_of_le h] at h3;cases h3
 have hb:s[a+m]=59:=by
  rw[aW8 hlt] at h3;injection h3
 unfold k2 k2N;simp only
 have e1:w64 (aJ ((a+m:Nat):Int) (a:Int))=(m:Int):=by
  simp only[aJ];rw[bU (by omega)];omega
 obtain⟨i,q1,_,q3⟩:=M6 n;rw[aC (dF (by omega)),e1,aC (aX (by omega)),aC (dF (by simp only[len]; omega)),aG (aZ (by simp only[len]; omega)),bB hlt,hb,aC (by rfl),aJJ (by omega),q1,aB,aS (n:=s.length) hlt (by omega)]
 by_cases h2:dS n=false
 ·rw[if_pos h2,aD (aW (q3.2 h2))]
 ·rw[if_neg h2,aC (aX (fun k=>h2 (q3.1 k)))]
theorem aF8{s:Y_}(hs:s.length≤4000000){base:Int}{most a:Nat}(hb:(base=10∧most=6)∨(base=16∧most=5)) (ha:a≤s.length) :
  k2 s (a:Int) (most:Int) (((a+((s.drop a).takeWhile (dOk base)).length:Nat):Int),((s.drop a).takeWhile (dOk base)).foldl (fun n x=>min (n*base+gK x) 16777216) 0) =
   some (if(s.drop a).all bD=true then([],0,4) else if(oL base most ((s.drop a).takeWhile bD)).2=0 then((oL base most ((s.drop a).takeWhile bD)).1,((a+((s.drop a).takeWhile bD).length+1:Nat):Int),0) else([],0,(oL base most ((s.drop a).takeWhile bD)).2)):=by
 generalize hd:s.drop a=d
 have hw:=aF7 (P:=dOk base) d
 have hm:=List.takeWhile_prefix (dOk base) (l:=d)
 have hdl:d.length=s.length-a:=by rw[←hd,aYV]
 have hml:(d.takeWhile (dOk base)).length≤d.length:=hm.length_le
 have hdr:s.drop (a+(d.takeWhile (dOk base)).length)=d.drop (d.takeWhile (dOk base)).length:=by rw[←hd,aZF]
 have hcat:d=d.takeWhile (dOk base)++d.drop (d.takeWhile (dOk base)).length:=(OO _ d).symm
 have hbase:1≤base:=by rcases hb with⟨h,_⟩|⟨h,_⟩<;>omega
 rcases X1 (P:=dOk base) d with h|⟨b,t,h,hbad⟩
 ·rw[N3 hs (by omega) (.inr (.inr (.inl (by have:=congrArg List.length h; simp at this; omega))))]
  have:d.all bD=true:=by
   rw[hcat,h,aY5];rw[aY0] at hw ⊢;exact fun x hx=>yQ (hw x hx)
  rw[if_pos this]
 ·by_cases hb59:b=59
  ·subst hb59
   have hno:¬(d.all bD=true):=fun k=>by
    rw[hcat,h,List.all_append,aZP] at k;simp[bD] at k
   have htw:d.takeWhile bD=d.takeWhile (dOk base):=by
    conv=>lhs; rw[hcat,h]
    refine rJ ?_;rw[aY0] at hw ⊢;exact fun x hx=>yQ (hw x hx)
   rw[if_neg hno,htw];generalize hq:d.takeWhile (dOk base)=q at *;unfold oL
   by_cases he:q=[]∨most<q.length∨q.all (dOk base)=false
   ·rw[if_pos he,if_neg (by decide)];refine N3 hs (by omega) ?_;rcases he with he|he|he
    ·exact .inl (by rw[he]; rfl)
    ·exact .inr (.inl he)
    ·rw[he] at hw; cases hw
   ·rw[if_neg he];simp only[not_or] at he
    have hsm:=N2 hb (by omega) hw
    have hcl:=(IV hbase q 0 (Int.le_refl _) hw).2 (by omega)
    rw[hcl,aV0 hs (fun k=>he.1 (aWZ k)) he.2.1 (hdr.trans h) hsm]
    by_cases hr:dS (AO base 0 q)=false
    ·rw[if_pos hr,if_pos hr];rfl
    ·rw[if_neg hr,if_neg hr];rfl
  ·have hcat2:d=d.takeWhile (dOk base)++b::t:=by rw[←h]; exact hcat
   rw[N3 hs (by omega) (.inr (.inr (.inr ⟨b,t,hdr.trans h,hb59⟩)))]
   by_cases hall:d.all bD=true
   ·rw[if_pos hall]
   ·rw[if_neg hall]
    have hbq:∃u,d.takeWhile bD=d.takeWhile (dOk base)++b::u:=by
     refine⟨t.takeWhile bD,?_⟩
     conv=>lhs; rw[hcat2]
     rw[aW1 (by rw[aY0] at hw; exact fun x hx=>yQ (hw x hx)),aX9,if_pos (by simpa [bD] using hb59)]
    obtain⟨u,hu⟩:=hbq
    have:(d.takeWhile bD).all (dOk base)=false:=by
     rw[hu,List.all_append,aZP,hbad];simp
    have e:oL base most (d.takeWhile bD)=([],4):=by
     unfold oL;rw[if_pos (.inr (.inr this))]
    rw[e,if_neg (by decide)]
theorem wJ{c t p:Y_}(hp:p.all bD=true):(c++59::t).take p.length=p↔c.take p.length=p:=by
 by_cases h:p.length≤c.length
 ·rw[List.take_append_of_le_length h]
 ·refine⟨fun e=>?_,fun e=>?_⟩
  ·have hl:c.length<p.length:=by omega
   have h1:p[c.length]?=some 59:=by
    rw[←e,aYB,if_pos hl];simp
   have h2:=aXU h1
   rw[aY0] at hp
   have:=hp 59 h2
   simp[bD] at this
  ·have:=congrArg List.length e
   rw[aYU] at this;omega
theorem oM{c t p:Y_}(hc:c.all bD=true) (hp:p.all bD=true):(c++59::t).take (p++[59]).length=p++[59]↔c=p:=by
 refine⟨fun e=>?_,fun e=>?_⟩
 ·have h1:c++59::t=p++59::(c++59::t).drop (p++[59]).length:=by
   conv=>lhs; rw[←aXO (p++[59]).length (c++59::t),e]
   simp
  have h2:=rJ (t:=t) hc
  rw[h1,rJ hp] at h2;exact h2.symm
 ·subst e;rw[show c++59::t=(c++[59])++t by simp,List.take_left]
theorem rL{r p:Y_}(hr:r.all bD=true):¬(r.take (p++[59]).length=p++[59]):=fun e=>by
 have h1:(59:UInt8)∈r:=by
  have:(59:UInt8)∈r.take (p++[59]).length:=by rw[e]; simp
  exact aXY this
 rw[aY0] at hr
 have:=hr 59 h1
 simp[bD] at this
def xAN(N:Nat) (s:Y_) (v1:Int×Int×Int):Option (Y_×Int×Int) :=
   bG (fun v5 (v6:Int×Int) =>
    cnd (ilt v6.1 (len s))
     (grd (inb v6.1 (len s))
      (bnd (q80 N (aA s (toN v6.1) (0:UInt8),v1.2.1)) fun v7 =>
      cnd (ile (0:Int) v7)
       (grd (inb v6.1 (len s))
        (bnd (q80 N (aA s (toN v6.1) (0:UInt8),v1.2.1)) fun v8 =>
        v5 (w64 (aE v6.1 (1:Int)),kY (w64 (aE (w64 (nM v6.2 v1.2.1)) v8)) (16777216:Int))))
       (k2N N s v1.1 v1.2.2 v6)))
     (k2N N s v1.1 v1.2.2 v6)) N (v1.1,(0:Int))
def xA(s:Y_) (v1:Int×Int×Int):Option (Y_×Int×Int):=xAN fuelH s v1
theorem aCA(N:Nat) (s:Y_):aJK N s=bnd (q75 N (s,([38,35,120]:Y_))) fun v10=>cnd v10 (xAN N s ((3:Int),(16:Int),(5:Int))) (bnd (q75 N (s,([38,35]:Y_))) fun v11=>cnd (bP v11) (some (([]:Y_),(0:Int),(4:Int))) (xAN N s ((2:Int),(10:Int),(6:Int)))):=rfl
theorem aF9(s:Y_):aJK fuelH s=bnd (q75 fuelH (s,([38,35,120]:Y_))) fun v10=>cnd v10 (xA s ((3:Int),(16:Int),(5:Int))) (bnd (q75 fuelH (s,([38,35]:Y_))) fun v11=>cnd (bP v11) (some (([]:Y_),(0:Int),(4:Int))) (xA s ((2:Int),(10:Int),(6:Int)))):=aCA fuelH s
theorem aLU{s:Y_}(hs:s.length≤4000000){base:Int}{most a:Nat}(hb:(base=10∧most=6)∨(base=16∧most=5)) (ha:a≤s.length) :
  xA s ((a:Int),base,(most:Int))=some (if(s.drop a).all bD=true then([],0,4) else if(oL base most ((s.drop a).takeWhile bD)).2=0 then((oL base most ((s.drop a).takeWhile bD)).1,((a+((s.drop a).takeWhile bD).length+1:Nat):Int),0) else([],0,(oL base most ((s.drop a).takeWhile bD)).2)):=by
 rw[←aF8 hs hb ha];exact UR hs (by rcases hb with⟨h,_⟩|⟨h,_⟩<;>simp[h]) fuelH a 0 (cY hs a) ha (by decide) (by decide)
theorem aJM{r:Y_}(hr:r.length≤3999999):aJK fuelH (38::r)=some (if r.all bD=true then([],0,4) else if(EX (r.takeWhile bD)).2=0 then((EX (r.takeWhile bD)).1,(((r.takeWhile bD).length+2:Nat):Int),0) else([],0,(EX (r.takeWhile bD)).2)):=by
 have hs:(38::r).length≤4000000:=by simp; omega
 have e1:((38::r).take ([38,35,120]:Y_).length=[38,35,120])↔r.take ([35,120]:Y_).length=[35,120]:=by simp
 have e2:((38::r).take ([38,35]:Y_).length=[38,35])↔r.take ([35]:Y_).length=[35]:=by simp
 rw[aF9,IU,aB]
 by_cases h1:r.take ([35,120]:Y_).length=[35,120]
 ·have hl:2≤r.length:=by have:=congrArg List.length h1; simp at this; omega
  rw[aD (decide_eq_true (e1.2 h1))]
  have hx:=aLU (a:=3) hs (.inr ⟨rfl,rfl⟩) (by simp; omega)
  refine aZ3 hx ?_
  have hd:(38::r).drop 3=r.drop 2:=rfl
  rw[hd];rcases rK r with h|⟨c,t,rfl,h⟩
  ·rw[if_pos h,if_pos];rw[aY0] at h ⊢;exact fun x hx=>h x (aX0 hx)
  ·have h2:=(wJ (by rfl)).1 h1
   have hc2:2≤c.length:=by have:=congrArg List.length h2; simp at this; omega
   have hd2:(c++59::t).drop 2=c.drop 2++59::t:=List.drop_append_of_le_length hc2
   have hca:(c.drop 2).all bD=true:=by
    rw[aY0] at h ⊢;exact fun x hx=>h x (aX0 hx)
   have hn:EX c=oL 16 5 (c.drop 2):=if_pos h2
   have no:∀(p q:Y_),¬((p++59::q).all bD=true):=fun p q k=>by
    rw[List.all_append,aZP] at k;simp[bD] at k
   rw[hd2,rJ hca,rJ h,if_neg (no _ _),if_neg (no _ _),hn,aYV]
   have:3+(c.length-2)+1=c.length+2:=by omega
   rw[this]
 ·rw[aC (decide_eq_false (fun k=>h1 (e1.1 k))),IU,aB]
  by_cases h3:r.take ([35]:Y_).length=[35]
  ·have hl:1≤r.length:=by have:=congrArg List.length h3; simp at this; omega
   rw[decide_eq_true (e2.2 h3),aC (by rfl)]
   have hx:=aLU (a:=2) hs (.inl ⟨rfl,rfl⟩) (by simp; omega)
   refine aZ3 hx ?_
   have hd:(38::r).drop 2=r.drop 1:=rfl
   rw[hd];rcases rK r with h|⟨c,t,rfl,h⟩
   ·rw[if_pos h,if_pos];rw[aY0] at h ⊢;exact fun x hx=>h x (aX0 hx)
   ·have h2:=(wJ (by rfl)).1 h3
    have h4:¬(c.take 2=[35,120]):=fun k=>h1 ((wJ (p:=[35,120]) (by rfl)).2 k)
    have hc2:1≤c.length:=by have:=congrArg List.length h2; simp at this; omega
    have hd2:(c++59::t).drop 1=c.drop 1++59::t:=List.drop_append_of_le_length hc2
    have hca:(c.drop 1).all bD=true:=by
     rw[aY0] at h ⊢;exact fun x hx=>h x (aX0 hx)
    have hn:EX c=oL 10 6 (c.drop 1):=by unfold EX; rw[if_neg h4]; exact if_pos h2
    have no:∀(p q:Y_),¬((p++59::q).all bD=true):=fun p q k=>by
     rw[List.all_append,aZP] at k;simp[bD] at k
    rw[hd2,rJ hca,rJ h,if_neg (no _ _),if_neg (no _ _),hn,aYV]
    have:2+(c.length-1)+1=c.length+2:=by omega
    rw[this]
  ·rw[decide_eq_false (fun k=>h3 (e2.1 k)),aD (by rfl)];rcases rK r with h|⟨c,t,rfl,h⟩
   ·rw[if_pos h]
   ·have h4:¬(c.take 2=[35,120]):=fun k=>h1 ((wJ (p:=[35,120]) (by rfl)).2 k)
    have h5:¬(c.take 1=[35]):=fun k=>h3 ((wJ (p:=[35]) (by rfl)).2 k)
    have hn:EX c=([],4):=by unfold EX; rw[if_neg h4,if_neg h5]
    rw[rJ h,hn]
    split<;>rfl
theorem aJN{r:Y_}(hr:r.length≤3999999):q81 fuelH (38::r)=some (kS r):=by
 have h:=aF6 (nB+4990) (38::r)
 have hx:=aJM hr
 show q81 (nB+4990+10) (38::r)=_;rw[h,bX];simp only[IU,aB]
 have step:∀(p:Y_) (X Y:Option (Y_×Int×Int)),cnd (decide ((38::r).take (38::(p++[59])).length=38::(p++[59]))) X Y=if r.take (p++[59]).length=p++[59] then X else Y:=fun p X Y=>by
  rw[jR]
  by_cases e:r.take (p++[59]).length=p++[59]
  ·rw[if_pos e,if_pos (by rw[aYR,aX5,e])]
  ·rw[if_neg e,if_neg (fun k=>e (by rw[aYR,aX5] at k; injection k))]
 have s1:=step [97,109,112]
 have s2:=step [108,116]
 have s3:=step [103,116]
 have s4:=step [113,117,111,116]
 have s5:=step [97,112,111,115]
 refine aZ3 (s1 _ _) ?_;rcases rK r with h|⟨c,t,rfl,hc⟩
 ·rw[if_neg (rL h)];refine aZ3 (s2 _ _) ?_;rw[if_neg (rL h)];refine aZ3 (s3 _ _) ?_;rw[if_neg (rL h)];refine aZ3 (s4 _ _) ?_;rw[if_neg (rL h)];refine aZ3 (s5 _ _) ?_;rw[if_neg (rL h),aJL h];refine aZ3 hx ?_;rw[if_pos h]
 ·rw[UQ hc,ON];simp only[oM hc (show([97,109,112]:Y_).all bD=true from rfl)]
  by_cases c1:c=[97,109,112]
  ·subst c1; rfl
  rw[if_neg c1,if_neg c1];refine aZ3 (s2 _ _) ?_;simp only[oM hc (show([108,116]:Y_).all bD=true from rfl)]
  by_cases c2:c=[108,116]
  ·subst c2; rfl
  rw[if_neg c2,if_neg c2];refine aZ3 (s3 _ _) ?_;simp only[oM hc (show([103,116]:Y_).all bD=true from rfl)]
  by_cases c3:c=[103,116]
  ·subst c3; rfl
  rw[if_neg c3,if_neg c3];refine aZ3 (s4 _ _) ?_;simp only[oM hc (show([113,117,111,116]:Y_).all bD=true from rfl)]
  by_cases c4:c=[113,117,111,116]
  ·subst c4; rfl
  rw[if_neg c4,if_neg c4];refine aZ3 (s5 _ _) ?_;simp only[oM hc (show([97,112,111,115]:Y_).all bD=true from rfl)]
  by_cases c5:c=[97,112,111,115]
  ·subst c5; rfl
  rw[if_neg c5,if_neg c5];refine aZ3 hx ?_
  have no:¬((c++59::t).all bD=true):=fun k=>by
   rw[List.all_append,aZP] at k;simp[bD] at k
  rw[if_neg no,rJ hc]
theorem US(base:Int) (most:Nat) (d:Y_):(oL base most d).1.length≤4:=by
 unfold oL
 split
 ·simp
 ·split
  ·simp
  ·rename_i h;exact aI8 (by simpa using h)
theorem UT(c:Y_):(wI c).1.length≤4:=by
 rw[ON]
 repeat' split
 any_goals simp
 unfold EX
 repeat' split
 ·exact US _ _ _
 ·exact US _ _ _
 ·simp
theorem kT{P:UInt8→Bool}(l:Y_):(l.takeWhile P).length≤l.length:=(List.takeWhile_prefix P).length_le
theorem OP{l:Y_}(h:(kS l).2.2=0):(l.takeWhile bD).length<l.length∧(kS l).2.1=(((l.takeWhile bD).length+2:Nat):Int)∧(kS l).1=(wI (l.takeWhile bD)).1∧(wI (l.takeWhile bD)).2=0:=by
 have:=kT (P:=bD) l
 unfold kS at *;simp only at *
 by_cases h1:(l.takeWhile bD).length=l.length
 ·rw[if_pos h1] at h;cases h
 ·rw[if_neg h1] at h ⊢
  by_cases h2:(wI (l.takeWhile bD)).2=0
  ·rw[if_pos h2] at h ⊢;exact⟨by omega,rfl,rfl,h2⟩
  ·rw[if_neg h2] at h;exact absurd h h2
def unE:Nat→Y_→Y_→Y_×Int
 | 0,a,_=>(a,0)
 |_+1,a,[]=>(a,0)
 |n+1,a,b::l=>if b=60 then([],4) else if b=38 then(if(kS l).2.2≠0 then([],(kS l).2.2) else unE n (a++(kS l).1) (l.drop ((l.takeWhile bD).length+1))) else unE n (a++[b]) l
theorem EY:∀(n m:Nat) (a l:Y_),l.length≤n→l.length≤m→unE n a l=unE m a l
 | 0,m,a,l,h,_=>by
  have:l=[]:=aWZ (by omega)
  subst this;cases m<;>rfl
 |n+1,0,a,l,_,h=>by
  have:l=[]:=aWZ (by omega)
  subst this;rfl
 |n+1,m+1,a,[],_,_=>rfl
 |n+1,m+1,a,b::l,h1,h2=>by
  have e1:=fun a=>EY n m a l (by simp at h1; omega) (by simp at h2; omega)
  have e2:=fun a=>EY n m a (l.drop ((l.takeWhile bD).length+1)) (by simp at h1 ⊢; omega) (by simp at h2 ⊢; omega)
  simp only[unE,e1,e2]
def un(a l:Y_):Y_×Int:=unE l.length a l
theorem EZ(a:Y_):un a []=(a,0):=rfl
theorem wK(a:Y_) (b:UInt8) (l:Y_):un a (b::l)=if b=60 then([],4) else if b=38 then(if(kS l).2.2≠0 then([],(kS l).2.2) else un (a++(kS l).1) (l.drop ((l.takeWhile bD).length+1))) else un (a++[b]) l:=by
 have e2:=fun a=>EY l.length (l.drop ((l.takeWhile bD).length+1)).length a (l.drop ((l.takeWhile bD).length+1)) (by simp) (aZ0 _)
 show unE (l.length+1) a (b::l)=_;simp only[unE,e2];rfl
theorem nD(a t:Y_) (h:a.length+t.length≤100000000):q31 fuelH (((),a),t)=some (len t,false,(),a++t):=by
 unfold q31 bJ cB;rw[aB,aG (eQ (by simp only[len,aE]; omega))];rfl
theorem aGA(a:Y_) (b:UInt8) (h:a.length≤100000000):q82 fuelH (((),a),b)=some (false,(),a++[b]):=by
 unfold q82 bJ cB;rw[aB,aG (eQ (by simp only[len,aE,aYR,aY9]; omega))];rfl
theorem aV1{s:Y_}(hs:s.length≤3900000):q83 fuelH s=some (un [] s):=by
 unfold q83;rw[bX]
 have h:=cX (s:=s) (fun (a:Y_) (i:Nat)=>((i:Int),((),a))) (fun a l=>some (un a l)) (fun i a=>a.length≤4*i)
  (F:=fun v2 (v3:Int×Unit×Y_) =>
  cnd (ilt v3.1 (len s))
   (grd (inb v3.1 (len s))
    (cnd (ieq (n8 (aA s (toN v3.1) (0:UInt8))) (n8 (60:UInt8)))
     (some (([]:Y_),(4:Int)))
     (cnd (ieq (n8 (aA s (toN v3.1) (0:UInt8))) (n8 (38:UInt8)))
      (grd (in2 v3.1 (len s))
       (bnd (q81 fuelH (cS (toN v3.1) s)) fun v4 =>
       cnd (ine v4.2.2 (0:Int))
        (some (([]:Y_),v4.2.2))
        (bnd (q31 fuelH (((),v3.2.2),v4.1)) fun v5 =>
        v2 (w64 (aE v3.1 v4.2.1),(),v5.2.2.2))))
      (grd (inb v3.1 (len s))
       (bnd (q82 fuelH (((),v3.2.2),aA s (toN v3.1) (0:UInt8))) fun v6 =>
       v2 (w64 (aE v3.1 (1:Int)),(),v6.2.2))))))
   (some (v3.2.2,(0:Int)))) ?_ fuelH 0 [] (cY (by omega) 0) (aZ1 _) (by simp)
 ·exact h
 ·intro self a i hi hI hself
  by_cases hl:i<s.length
  ·have g:aA s (toN (i:Int)) (0:UInt8)=s[i]:=bB hl
   have hw:w64 (aE (i:Int) 1)=((i+1:Nat):Int):=aS hl (by omega)
   have hld:cS (toN (i:Int)) s=s.drop i:=by simp[cS,toN]
   rw[aW8 hl,wK];show cnd (ilt (i:Int) (len s)) _ _=_;rw[aD (aW (by simp only[len]; omega)),aG (aZ (by simp only[len]; omega)),g,hld]
   by_cases h60:s[i]=60
   ·rw[if_pos h60,aD (dN (by rw[h60]))]
   rw[if_neg h60,aC (dF (fun k=>h60 (fL k)))]
   by_cases h38:s[i]=38
   ·rw[if_pos h38,aD (dN (by rw[h38])),aG (nA (by simp only[len]; omega)),aW8 hl,h38,aJN (by simp; omega),aB]
    by_cases he:(kS (s.drop (i+1))).2.2=0
    ·have ho:=OP he
     have hle:(kS (s.drop (i+1))).1.length≤4:=by rw[ho.2.2.1]; exact UT _
     have hdl:(s.drop (i+1)).length=s.length-(i+1):=aYV
     rw[aC (cQ he),if_neg (by simpa using he),nD _ _ (by show a.length+_≤_; omega),aB,ho.2.1]
     have e1:w64 (aE (i:Int) ((((s.drop (i+1)).takeWhile bD).length+2:Nat):Int))=((i+(((s.drop (i+1)).takeWhile bD).length+2):Nat):Int):=by
      simp only[aE];rw[bU (by omega)];omega
     rw[e1,aZF]
     have hz:=hself (a++(kS (s.drop (i+1))).1) (i+(((s.drop (i+1)).takeWhile bD).length+2)) (by omega) (by omega) (by rw[aYA]; omega)
     refine aZ3 hz ?_;congr 3;omega
    ·rw[aD (cP he),if_pos (by simpa using he)]
   ·rw[if_neg h38,aC (dF (fun k=>h38 (fL k))),aG (aZ (by simp only[len]; omega)),aGA _ _ (by show a.length≤_; omega),aB,hw];exact hself (a++[s[i]]) (i+1) (by omega) (by omega) (by simp; omega)
  ·obtain rfl:i=s.length:=by omega
   show cnd (ilt (s.length:Int) (len s)) _ _=_;rw[aC (aX (by simp only[len]; omega)),aY1];rfl
theorem aGB{R:Type}{s:Y_}(hs:s.length≤4000000) (P:UInt8→Bool) (g:UInt8→Option Bool) (hg:∀x,g x=some (P x)) (K:Int→Option R){i:Nat}(hi:i≤s.length) :
  bG (fun (v9:Int→Option R) (v10:Int)=>cnd (ilt v10 (len s)) (grd (inb v10 (len s)) (bnd (g (aA s (toN v10) (0:UInt8))) fun v5=>cnd v5 (v9 (w64 (aE v10 (1:Int)))) (K v10))) (K v10)) fuelH (i:Int)=K ((i+((s.drop i).takeWhile P).length:Nat):Int):=by
 refine aOY P K (fun self k hk=>?_) (fun self=>?_) fuelH i (cY hs i) hi
 ·show cnd (ilt (k:Int) (len s)) _ _=_;rw[aD (aW (by simp only[len]; omega)),aG (aZ (by simp only[len]; omega)),bB hk,hg,aB,aS hk (by omega),wE]
 ·show cnd (ilt (s.length:Int) (len s)) _ _=_;rw[aC (aX (by simp only[len]; omega))]
theorem aLV{l h n:Int}(k:0≤l∧l≤h∧h≤n):in3 l h n=true:=decide_eq_true k
theorem BN(P:UInt8→Bool):∀l:Y_,l.take (l.takeWhile P).length=l.takeWhile P
 | []=>rfl
 |b::l=>by
  rw[aX9]
  split
  ·rw[aYR,aX5,BN P l]
  ·rfl
def nmX(s:Y_):Bool:=decide (1≤s.length)&&decide (s.length≤32)&&oK (s.getD 0 0)&&s.all nL
theorem aJO{x:UInt8}(h:oK x=true):nL x=true:=by unfold nL; rw[h]; rfl
def dI:Y_→Y_
 | []=>[]
 |b::l=>if oK b=true then b::l.takeWhile nL else []
theorem yR(b:UInt8) (l:Y_):dI (b::l)=if oK b=true then b::l.takeWhile nL else []:=rfl
theorem IW{s:Y_}(hs:s.length≤4000000):∀(fuel i:Nat),s.length-i<fuel→i≤s.length →
  bG (fun v3 (v4:Int)=>cnd (ilt v4 (len s)) (grd (inb v4 (len s)) (bnd (q58 fuelH (aA s (toN v4) (0:UInt8))) fun v5=>cnd (bP v5) (some false) (v3 (w64 (aE v4 (1:Int)))))) (some true)) fuel (i:Int)=some ((s.drop i).all nL)
 | 0,i,h,_=>by omega
 |fuel+1,i,h,hi=>by
  rw[gT]
  by_cases hl:i<s.length
  ·rw[aD (aW (by simp only[len]; omega)),aG (aZ (by simp only[len]; omega)),bB hl,W0,aB,aS hl (by omega),IW hs fuel (i+1) (by omega) (by omega),aW8 hl,aZP];cases nL s[i]<;>rfl
  ·obtain rfl:i=s.length:=by omega
   rw[aC (aX (by simp only[len]; omega)),aY1];rfl
theorem BO(s:Y_):dZ fuelH s=some (nmX s):=by
 unfold dZ nmX
 by_cases h0:1≤s.length
 ·rw[aC (aX (by simp only[len]; omega)),decide_eq_true h0]
  by_cases h1:s.length≤32
  ·have hg:aA s (toN (0:Int)) (0:UInt8)=s.getD 0 0:=rfl
   rw[aC (aX (by simp only[len]; omega)),decide_eq_true h1,aG (aZ (by simp only[len]; omega)),IT,aB,hg]
   by_cases h2:oK (s.getD 0 0)=true
   ·rw[h2,aC (by rfl),bX];exact IW (by omega) fuelH 0 (cY (by omega) 0) (aZ1 _)
   ·have h2:oK (s.getD 0 0)=false:=by simpa using h2
    rw[h2,aD (by rfl)];rfl
  ·rw[aD (aW (by simp only[len]; omega)),decide_eq_false h1];rfl
 ·rw[aD (aW (by simp only[len]; omega)),decide_eq_false h0];rfl
theorem N4:∀(s a:Y_),un a (esc s)=(a++s,0)
 | [],a=>by rw[show esc []=[] from rfl,EZ,aY5]
 |b::s,a=>by
  rw[UP]
  have named:∀(c:Y_) (y:UInt8),c.all bD=true→wI c=([y],0)→un a ((38::(c++[59]))++esc s)=(a++[y]++s,0):=fun c y h1 h2=>by
   have hx:kS (c++59::esc s)=([y],((c.length+2:Nat):Int),0):=by rw[UQ h1,h2]; rfl
   have e:(38::(c++[59]))++esc s=38::(c++59::esc s):=by simp
   rw[e,wK,if_neg (by decide),if_pos rfl,hx,if_neg (by simp),rJ h1]
   have:(c++59::esc s).drop (c.length+1)=esc s:=by
    rw[show c++59::esc s=(c++[59])++esc s by simp];exact List.drop_left' (by simp)
   rw[this];exact N4 s _
  have done:∀y,(a++[y]++s,(0:Int))=(a++y::s,0):=fun y=>by simp
  rw[←done b];unfold GI
  by_cases h1:b=38
  ·subst h1; exact named [97,109,112] 38 (by rfl) (by rfl)
  by_cases h2:b=60
  ·subst h2; exact named [108,116] 60 (by rfl) (by rfl)
  by_cases h3:b=62
  ·subst h3; exact named [103,116] 62 (by rfl) (by rfl)
  by_cases h4:b=34
  ·subst h4; exact named [113,117,111,116] 34 (by rfl) (by rfl)
  by_cases h5:b=39
  ·subst h5; exact named [97,112,111,115] 39 (by rfl) (by rfl)
  rw[if_neg h1,if_neg h2,if_neg h3,if_neg h4,if_neg h5];show un a (b::esc s)=_;rw[wK,if_neg h2,if_neg h1];exact N4 s _
theorem OQ(s:Y_):(esc s).length≤6*s.length:=oD (fun b=>(SU b).2) s
abbrev Ln:=Y_
abbrev At:=Y_×Y_
abbrev Nd:=Y_×Y_×List At×Int
def ndz:Nd:=zN
def dep(n:Nd):Int:=n.2.2.2
def i64(x:Int):Prop:=-9223372036854775808≤x∧x≤9223372036854775807
theorem wL{l:List Nd}{i:Nat}(h:i<l.length):aA l (toN (i:Int)) zN=l[i]:=bB h
def wtA(a:At):Nat:=a.1.length+1+(a.2.length+1)
def wtN(n:Nd):Nat:=n.1.length+1+(n.2.1.length+1+(bkL wtA n.2.2.1+1+1))
structure smN (n:Nd):Prop where
 nm:n.1.length≤1090000
 tx:n.2.1.length≤1090000
 asz:n.2.2.1.length≤1090000
 an:∀a∈n.2.2.1,a.1.length≤1090000∧a.2.length≤1090000
theorem X2{l:List Nd}(h:bkL wtN l≤1090000):∀n∈l,smN n:=fun n hn=>by
 have h1:n.1.length+1+(n.2.1.length+1+(bkL wtA n.2.2.1+1+1))≤bkL wtN l:=aFM (f:=wtN) hn
 have h2:=M8 (f:=wtA) (fun a=>by unfold wtA; omega) n.2.2.1
 refine⟨by omega,by omega,by omega,fun a ha=>?_⟩
 have h3:a.1.length+1+(a.2.length+1)≤bkL wtA n.2.2.1:=aFM (f:=wtA) ha
 omega
def bL(name:Ln):List At→Ln×Bool
 | []=>([],false)
 |a::r=>if a.1=name then(a.2,true) else bL name r
theorem oN{V R α β:Type}{F:(V→Option R)→V→Option R}{l:List α}(st:List β→Nat→V) (g:α→List β) (K:List β→Option R) (a0:List β){fuel:Nat}(hf:l.length<fuel)
  (hstep:∀self a i (h:i<l.length),(a++g l[i]).length≤(a0++l.flatMap g).length→F self (st a i)=self (st (a++g l[i]) (i+1)))
  (hend:∀self a,F self (st a l.length)=K a):bG F fuel (st a0 0)=K (a0++l.flatMap g):=by
 refine kJ (n:=l.length) st (fun i a=>a=a0++(l.take i).flatMap g) _ (fun self a i h hI=>?_) (fun self a hI=>?_) fuel 0 a0 (aZ1 _) (by omega) (by simp)
 ·have e:a++g l[i]=a0++(l.take (i+1)).flatMap g:=by
   rw[hI,aWY h,List.flatMap_append];simp
  refine⟨_,hstep self a i h ?_,e⟩;rw[e]
  have:l=l.take (i+1)++l.drop (i+1):=(aXO _ _).symm
  conv=>rhs; rw[this,List.flatMap_append,←aYK,aYA]
  omega
 ·rw[hend,hI,aYY]
theorem FA{n:Int}(h0:0≤n) (h1:n≤9223372036854775807):q52 fuelH n=some (dO n):=by
 have e:q52 fuelH n=bnd (bnd (cV fuelH (n,10)) fun v0=>some v0) fun v0=>some v0:=rfl
 have e2:cV fuelH (n,10)=some (dO n):=by
  show dC fuelH (n,10)=_;unfold dC;rw[aG (by rfl),aG (hM (by omega)),aG (hM (by omega))]
 rw[e,e2];rfl
theorem yS:∀(n u:Nat) (l:Y_),fA n u l=fA n u []++l
 | 0,_,_=>rfl
 |n+1,u,l=>by
  unfold fA aQ
  split
  ·rw[yS n _ (_::l),yS n _ [_]];simp
  ·rfl
def kW(a:At):List At:=if a.2=[] then [] else [a]
def eR(l:List At):List At:=l.flatMap kW
def UU(b:Bool):Y_:=if b then [49] else []
theorem OR(N:Nat) (n:Y_) (b:Bool):q50 N (n,b)=some (n,UU b):=by cases b<;>rfl
theorem lS{n:Y_}{k:Int}(h0:0≤k) (h1:k≤9223372036854775807):q53 fuelH (n,k)=some (n,dO k):=by
 unfold q53;rw[bQ (FA h0 h1)]
def elQ(depth:Int) (name:Y_) (l:List At):Nd:=(name,[],eR l,depth)
theorem UV(l:List At):(eR l).length≤l.length:=by
 unfold eR
 induction l with
 |nil=>simp
 |cons a l ih =>
  rw[List.flatMap_cons,aYA,aYR]
  have:(kW a).length≤1:=by unfold kW; split<;>simp
  omega
theorem mM{t:List Nd}{depth:Int}{name:Y_}{l:List At}(ht:t.length≤1000000) (hl:l.length≤1000):q54 fuelH (t,depth,name,l)=some (t++[elQ depth name l]):=by
 unfold q54;rw[bX]
 have hk:=UV l
 refine aZ3 (oN (l:=l) (fun a i=>((i:Int),name,([]:Y_),a,depth)) kW (fun a=>some (t++[(name,[],a,depth)])) [] (by have:=bI; omega) (fun self a i hi hle=>?_) (fun self a=>?_)) ?_
 ·have h2:(a++kW l[i]).length≤1000:=aZR hle (by simpa [eR] using aZR hk hl)
  rw[aYA] at h2;simp only;rw[aD (aW (by simp only[len]; omega)),aG (aZ (by simp only[len]; omega)),bB hi];unfold kW at h2 ⊢
  by_cases hv:l[i].2=[]
  ·rw[aC (by rw[hv]; rfl),if_pos hv,aY5,aS hi (by omega)]
  ·rw[aD (by simp[sne,hv]),if_neg hv,aG (eQ (by rw[if_neg hv] at h2; simp only[aE,len,aYR,aY9] at h2 ⊢; omega)),aS hi (by omega)];rfl
 ·simp only;rw[aC (aX (by simp only[len]; omega)),aG (eQ (by simp only[aE,len,aYR,aY9]; omega))];rfl
 ·rfl
def GK(c:UInt8):Y_:=if c=0 then [] else aA gl1 c.toNat []
def tB(k:UInt8):Y_:=if k=1 then [68,73,65,76,79,71,85,69] else if k=2 then [83,79,85,78,68] else if k=3 then [84,73,84,76,69] else if k=4 then [77,85,83,73,67] else []
def lF(r:UInt8):Y_:=if r=1 then [50,51,46,57,55,54] else if r=2 then [50,52] else if r=3 then [50,53] else if r=4 then [50,57,46,57,55] else if r=5 then [51,48] else if r=6 then [53,48] else if r=7 then [53,57,46,57,52] else []
def uP(a:UInt8):Y_:=if a=1 then [76,69,70,84] else if a=2 then [67,69,78,84,69,82] else [82,73,71,72,84]
theorem aCB:((List.range 256).all fun n=>decide (q27 0 (UInt8.ofNat n)=some (tB (UInt8.ofNat n))∧aMZ 0 (UInt8.ofNat n)=some (tB (UInt8.ofNat n))∧q49 0 (UInt8.ofNat n)=some (lF (UInt8.ofNat n))∧EH 0 (UInt8.ofNat n)=some (lF (UInt8.ofNat n))))=true:=by kernel_rfl
theorem UW(x:UInt8):q27 0 x=some (tB x)∧aMZ 0 x=some (tB x)∧q49 0 x=some (lF x)∧EH 0 x=some (lF x) :=
 of_decide_eq_true (gU (P:=fun x=>decide (q27 0 x=some (tB x)∧aMZ 0 x=some (tB x)∧q49 0 x=some (lF x)∧EH 0 x=some (lF x))) aCB x)
theorem aJP(N:Nat) (x:UInt8):q27 N x=some (tB x):=(UW x).1
theorem IX(N:Nat) (x:UInt8):q49 N x=some (lF x):=(UW x).2.2.1
def jF(u:Run):List At:=[([99,111,108,111,114],GK u.2.1.1),([105,116,97,108,105,99],UU u.2.1.2.1),([117,110,100,101,114,108,105,110,101],UU u.2.1.2.2),([114,117,98,121],u.2.2)]
def uQ(u:Run):List Nd:=[elQ 3 [114,117,110] (jF u),([],u.1,[],4)]
def kL(r:Row):List Nd:=elQ 2 [114,111,119] []::r.flatMap uQ
def evA(e:Ev):List At:=[([105,100],dO e.1),([105,110],dO e.2.1.1++[102]),([111,117,116],dO e.2.1.2++[102]),([114,101,103,105,111,110],e.2.2.1),([107,105,110,100],tB e.2.2.2.1),([115,112,101,97,107,101,114],e.2.2.2.2.1)]
def evN(e:Ev):List Nd:=elQ 1 [112] (evA e)::e.2.2.2.2.2.flatMap kL
def jN(r:Reg):List At:=[([110,97,109,101],r.1),([116,111,112],dO r.2.1),([104,101,105,103,104,116],dO r.2.2.1),([108,101,102,116],dO r.2.2.2.1),([119,105,100,116,104],dO r.2.2.2.2.1),([97,108,105,103,110],uP r.2.2.2.2.2.1),([97,110,99,104,111,114],if r.2.2.2.2.2.2 then [66,79,84,84,79,77] else [84,79,80])]
def rM(r:Reg):List Nd:=[elQ 1 [114,101,103,105,111,110] (jN r)]
def iI(d:Doc):List At:=[([116,105,116,108,101],d.1),([108,97,110,103],d.2.1),([114,97,116,101],lF d.2.2.1),([100,114,111,112],UU d.2.2.2.1),([108,97,115,116],dO d.2.2.2.2.1)]
def iJ(d:Doc):List Nd:=[elQ 0 [116,116] (iI d)]++d.2.2.2.2.2.1.flatMap rM++d.2.2.2.2.2.2.1.flatMap evN
structure NodOk (d:Doc):Prop where
 last:0≤d.2.2.2.2.1∧d.2.2.2.2.1≤1099511627776
 nreg:d.2.2.2.2.2.1.length≤16
 reg:∀r∈d.2.2.2.2.2.1,eC r=0
 nev:d.2.2.2.2.2.2.1.length≤400
 ev:∀e∈d.2.2.2.2.2.2.1,1≤e.1∧e.1≤1099511627776∧(0≤e.2.1.1∧e.2.1.1<e.2.1.2∧e.2.1.2≤5184000)∧e.2.2.2.2.2.length≤4∧∀l∈e.2.2.2.2.2,l.length≤16∧∀u∈l,n8 u.2.1.1≤6
theorem zZ:∀(l:List Reg) (p:Option Reg),nC p l=0→∀r∈l,eC r=0
 | [],_,_,r,hr=>by cases hr
 |x::l,p,h,r,hr=>by
  simp only[nC] at h
  split at h
  ·rename_i hc; exact absurd h hc
  ·rename_i hc
   have hx:eC x=0:=by simpa using hc
   have tl:nC (some x) l=0:=by
    cases p with
    |none=>exact h
    |some q =>
     simp only at h
     split at h
     ·cases h
     ·split at h
      ·cases h
      ·exact h
   rcases aZL.1 hr with rfl|hr
   ·exact hx
   ·exact zZ l _ tl r hr
theorem sM{r:Reg}(h:eC r=0):nm r.1=true∧(0≤r.2.1∧r.2.1≤14)∧(1≤r.2.2.1∧r.2.2.1≤15-r.2.1)∧(0≤r.2.2.2.1∧r.2.2.2.1≤31)∧(1≤r.2.2.2.2.1∧r.2.2.2.2.1≤32-r.2.2.2.1)∧(1≤n8 r.2.2.2.2.2.1∧n8 r.2.2.2.2.2.1≤3):=by
 unfold eC at h
 split at h
 ·cases h
 rename_i c1
 split at h
 ·cases h
 rename_i c2
 split at h
 ·cases h
 rename_i c3
 split at h
 ·cases h
 rename_i c4
 split at h
 ·cases h
 rename_i c5
 split at h
 ·cases h
 rename_i c6;exact⟨by simpa using c1,Decidable.of_not_not c2,Decidable.of_not_not c3,Decidable.of_not_not c4,Decidable.of_not_not c5,Decidable.of_not_not c6⟩
theorem UX{l:Row}(h:rI l=0):nK l=0:=by
 unfold rI at h
 split at h
 ·rename_i hc; exact absurd h hc
 ·rename_i hc; simpa using hc
theorem aGC{d:Doc}(h:cK d=0):jS d.2.2.2.2.2.1=0:=by
 unfold cK at h
 split at h
 ·rename_i hc; exact absurd h hc
 split at h
 ·rename_i hc; exact absurd h hc
 ·rename_i hc; simpa using hc
theorem FB{d:Doc}(h:cK d=0):0≤d.2.2.2.2.1∧d.2.2.2.2.1≤1099511627776:=by
 have h:=(lR h).1
 unfold iZ at h
 split at h
 ·cases h
 split at h
 ·cases h
 split at h
 ·cases h
 split at h
 ·cases h
 split at h
 ·cases h
 split at h
 ·cases h
 omega
theorem OS{d:Doc}(h:uN d=0):∀e∈d.2.2.2.2.2.2.1,oG e d.2.2.2.2.2.1=0:=by
 intro e he;obtain⟨j,hj,rfl⟩:=List.mem_iff_getElem.1 he;exact(UL (IP _ [] h j hj)).1
theorem IY{d:Doc}(h:cK d=0):NodOk d:=by
 obtain⟨h1,h2,h3⟩:=lR h
 have h4:=aGC h
 refine⟨FB h,?_,?_,h2,fun e he=>?_⟩
 ·unfold jS at h4
  split at h4
  ·cases h4
  ·omega
 ·unfold jS at h4
  split at h4
  ·cases h4
  ·exact zZ _ _ h4
 ·obtain⟨q1,q2,q3,_,q4,q5,_⟩:=aFZ (OS h3 e he);refine⟨q1,q2,q3,q4,fun l hl=>?_⟩;obtain⟨r1,r2⟩:=yN (UX (q5 l hl));exact⟨r1,fun u hu=>(r2 u hu).2.2.1⟩
theorem mN{α β:Type}{g:α→List β}{c:Nat}:∀(l:List α),(∀x∈l,(g x).length≤c)→(l.flatMap g).length≤l.length*c
 | [],_=>by simp
 |x::l,h=>by
  rw[List.flatMap_cons,aYA,aYR,aZY,aZZ]
  have:=h x aYE
  have:=mN l fun y hy=>h y (aXV _ hy)
  omega
theorem aGD{r:Row}(h:r.length≤16):(kL r).length≤33:=by
 have:=mN (g:=uQ) (c:=2) r (fun _ _=>aZ0 _)
 simp only[kL,aYR];omega
theorem aJQ{e:Ev}(h1:e.2.2.2.2.2.length≤4) (h2:∀l∈e.2.2.2.2.2,l.length≤16):(evN e).length≤133:=by
 have:=mN (g:=kL) (c:=33) e.2.2.2.2.2 (fun l hl=>aGD (h2 l hl))
 simp only[evN,aYR];omega
theorem aGE{d:Doc}(h:NodOk d):(iJ d).length≤53217:=by
 have h1:=mN (g:=rM) (c:=1) d.2.2.2.2.2.1 (fun _ _=>aZ0 _)
 have h2:=mN (g:=evN) (c:=133) d.2.2.2.2.2.2.1 (fun e he=>aJQ (h.ev e he).2.2.2.1 fun l hl=>((h.ev e he).2.2.2.2 l hl).1)
 have:=h.nreg
 have:=h.nev
 simp only[iJ,aYA,aYR,aY9];omega
theorem aCC:((List.range 256).all fun n=>!(decide (1≤n)&&decide (n≤3))||(decide (inb (n8 (b8 (aJ (n8 (UInt8.ofNat n)) (n8 (1:UInt8))))) (ofN 3)=true)&&decide (aA gl0 (toN (n8 (b8 (aJ (n8 (UInt8.ofNat n)) (n8 (1:UInt8)))))) []=uP (UInt8.ofNat n))&&decide (aA [[],[76,69,70,84],[67,69,78,84,69,82],[82,73,71,72,84]] (toN (n8 (UInt8.ofNat n))) []=uP (UInt8.ofNat n))))=true:=by kernel_rfl
theorem aGF{a:UInt8}(h1:1≤n8 a) (h2:n8 a≤3):inb (n8 (b8 (aJ (n8 a) (n8 (1:UInt8))))) (ofN 3)=true∧aA gl0 (toN (n8 (b8 (aJ (n8 a) (n8 (1:UInt8)))))) []=uP a∧aA [[],[76,69,70,84],[67,69,78,84,69,82],[82,73,71,72,84]] (toN (n8 a)) []=uP a:=by
 have h:=aY0.1 aCC a.toNat (List.mem_range.2 a.toNat_lt)
 have e:UInt8.ofNat a.toNat=a:=UInt8.ofNat_toNat
 rw[e] at h;unfold n8 at h1 h2
 have c1:decide (1≤a.toNat)=true:=decide_eq_true (by omega)
 have c2:decide (a.toNat≤3)=true:=decide_eq_true (by omega)
 rw[c1,c2] at h;simp only[Bool.and_self,Bool.not_true,aZN,aYS,decide_eq_true_eq] at h;exact⟨h.1.1,h.1.2,h.2⟩
theorem UY{n:Int}(h0:0≤n):(dO n).length≤20:=by
 obtain⟨m,rfl⟩:∃m:Nat,n=m:=⟨n.toNat,by omega⟩
 have key:∀(k u:Nat) (l:Y_),(fA k u l).length≤k+l.length:=by
  intro k
  induction k with
  |zero=>intro u l; simp[fA]
  |succ k ih =>
   intro u l;unfold fA aQ
   split
   ·have:=ih (u / 10) (UInt8.ofNat (48+u%10)::l)
    simp only[aYR] at this;omega
   ·simp only[aYR]; omega
 have:=key 20 m []
 exact this
theorem aGG{c:UInt8}(h:n8 c≤6){R:Type}(K:Y_→Option R):(jn K fun v=>cnd (ine (n8 c) (n8 (0:UInt8))) (grd (inb (n8 c) (ofN 7)) (v (aA gl1 (toN (n8 c)) []))) (v []))=K (GK c):=by
 rw[bX]
 by_cases hc:c=0
 ·subst hc;rw[aC (by rfl)];rfl
 ·have hn:n8 c≠0:=fun e=>hc (fL (by rw[e]; rfl))
  rw[aD (cP (show n8 c≠n8 0 from hn)),aG (aZ (by have:=WT c; simp only[ofN]; omega))];unfold GK;rw[if_neg hc];rfl
def aJR(d:Doc):List Nd×Int:=if 8192<(iJ d).length then([],9) else(iJ d,0)
theorem N5{d:Doc}(hd:NodOk d) (hc:q48 fuelH d=some 0):q55 fuelH d=some (aJR d):=by
 have hN:=aGE hd
 have hfu:=bI
 have hl:=hd.last
 unfold q55;rw[bQ hc,aC (by rfl),bQ (IX _ _),bQ (OR _ _ _),bQ (lS hl.1 (by omega)),bQ (mM (t:=[]) (by simp) (by simp)),bX];refine(oN (l:=d.2.2.2.2.2.1) (fun a i=>((i:Int),a)) rM ?K [elQ 0 [116,116] (iI d)] (by have:=hd.nreg; omega) ?hs ?he).trans ?_
 case he =>
  intro self a;dsimp only;rw[aC (aX (by simp only[len]; omega))]
 case hs =>
  intro self a i hi hle
  have hr:=sM (hd.reg _ (aY2 hi))
  have ha:(a++rM (d.2.2.2.2.2.1)[i]).length≤53217:=by
   refine aZR hle (aZR ?_ hN);unfold iJ;simp only[aYA];omega
  rw[aYA] at ha
  have hnr:=hd.nreg
  dsimp only;rw[aD (aW (by simp only[len]; omega)),aG (aZ (by simp only[len]; omega)),bB hi];obtain⟨al1,al2,_⟩:=aGF hr.2.2.2.2.2.1 hr.2.2.2.2.2.2
  have key:∀an:Y_,(if(d.2.2.2.2.2.1)[i].2.2.2.2.2.2 then [66,79,84,84,79,77] else [84,79,80])=an →
   (bnd (q53 fuelH ([116,111,112],(d.2.2.2.2.2.1)[i].2.1)) fun v33=>bnd (q53 fuelH ([104,101,105,103,104,116],(d.2.2.2.2.2.1)[i].2.2.1)) fun v34=>bnd (q53 fuelH ([108,101,102,116],(d.2.2.2.2.2.1)[i].2.2.2.1)) fun v35=>bnd (q53 fuelH ([119,105,100,116,104],(d.2.2.2.2.2.1)[i].2.2.2.2.1)) fun v36 =>
    grd (inb (n8 (b8 (aJ (n8 (d.2.2.2.2.2.1)[i].2.2.2.2.2.1) (n8 (1:UInt8))))) (ofN 3)) (bnd (q54 fuelH (a,(1:Int),[114,101,103,105,111,110],[([110,97,109,101],(d.2.2.2.2.2.1)[i].1),v33,v34,v35,v36,([97,108,105,103,110],aA gl0 (toN (n8 (b8 (aJ (n8 (d.2.2.2.2.2.1)[i].2.2.2.2.2.1) (n8 (1:UInt8)))))) []),([97,110,99,104,111,114],an)])) fun v37=>self (w64 (aE (i:Int) 1),v37)))=self (((i+1:Nat):Int),a++rM (d.2.2.2.2.2.1)[i]):=fun an han=>by
   rw[bQ (lS hr.2.1.1 (by omega)),bQ (lS (by omega) (by omega)),bQ (lS hr.2.2.2.1.1 (by omega)),bQ (lS (by omega) (by omega)),aG al1,al2,bQ (mM (by omega) (by simp)),aS hi (by omega),←han];rfl
  rw[bX]
  cases hb:(d.2.2.2.2.2.1)[i].2.2.2.2.2.2 with
  |true=>exact key _ (by rw[hb]; rfl)
  |false=>exact key _ (by rw[hb]; rfl)
 rw[bX];refine(oN (l:=d.2.2.2.2.2.2.1) (fun a i=>((i:Int),a)) evN ?K2 _ (by have:=hd.nev; omega) ?hs2 ?he2).trans ?_
 case he2 =>
  intro self a;dsimp only;rw[aC (aX (by simp only[len]; omega))]
 case hs2 =>
  intro self a i hi hle;obtain⟨q1,q2,q3,q4,q5⟩:=hd.ev _ (aY2 hi)
  have ha:(a++evN (d.2.2.2.2.2.2.1)[i]).length≤53217:=aZR hle hN
  rw[aYA] at ha
  have hnr:=hd.nev
  have hL1:=UY q3.1
  have hL2:=UY (n:=(d.2.2.2.2.2.2.1)[i].2.1.2) (by omega)
  dsimp only;rw[aD (aW (by simp only[len]; omega)),bX,aG (aZ (by simp only[len]; omega)),bB hi,
   bQ (lS (by omega) (by omega)),bQ (FA q3.1 (by omega)),aG (iB (by simp only[aE,len,aYR,aY9]; omega)),bQ (FA (by omega) (by omega)),aG (iB (by simp only[aE,len,aYR,aY9]; omega)),bQ (aJP _ _),bQ (mM (by omega) (by simp))]
  generalize hx:(d.2.2.2.2.2.2.1)[i]=x at *;refine(oN (l:=x.2.2.2.2.2) (fun a i=>((i:Int),a)) kL ?K3 _ (by omega) ?hs3 ?he3).trans ?_
  case he3 =>
   intro self2 a2;dsimp only;rw[aC (aX (by simp only[len]; omega))]
  case hs3 =>
   intro self2 a2 i2 hi2 hle2;obtain⟨r1,r2⟩:=q5 _ (aY2 hi2)
   have ha2:(a2++kL (x.2.2.2.2.2)[i2]).length≤53217:=by
    refine aZR hle2 (aZR ?_ ha);simp only[evN,aYA,aYR,aY9];omega
   rw[aYA] at ha2;dsimp only;rw[aD (aW (by simp only[len]; omega)),bX,aG (aZ (by simp only[len]; omega)),bQ (mM (by omega) (by simp)),bB hi2];generalize hy:(x.2.2.2.2.2)[i2]=y at *;refine(oN (l:=y) (fun a i=>((i:Int),a)) uQ ?K4 _ (by omega) ?hs4 ?he4).trans ?_
   case he4 =>
    intro self3 a3;dsimp only;rw[aC (aX (by simp only[len]; omega))]
   case hs4 =>
    intro self3 a3 i3 hi3 hle3
    have hu:=r2 _ (aY2 hi3)
    have ha3:(a3++uQ y[i3]).length≤53217:=by
     refine aZR hle3 (aZR ?_ ha2);simp only[kL,aYA,aYR,aY9];omega
    rw[aYA] at ha3;dsimp only;rw[aD (aW (by simp only[len]; omega)),aG (aZ (by simp only[len]; omega)),bB hi3,aGG hu]
    have hlen:∀e:Nd,(a3++[e]).length=a3.length+1:=fun e=>by simp
    rw[bQ (OR _ _ _),bQ (OR _ _ _),bQ (mM (by omega) (by simp)),aG (eQ (by simp only[aE,len,hlen,aYR,aY9]; omega)),aS hi3 (by omega)];show self3 (_,(a3++[elQ 3 [114,117,110] (jF y[i3])])++[([],y[i3].1,[],4)])=_;rw[aYK];rfl
   rw[aS hi2 (by omega),aYK];rfl
  rw[aS hi (by omega),aYK];rfl
 show cnd (ilt 8192 (len (iJ d))) _ _=_;unfold aJR
 by_cases h8:8192<(iJ d).length
 ·rw[aD (aW (by simp only[len]; omega)),if_pos h8]
 ·rw[aC (aX (by simp only[len]; omega)),if_neg h8];rfl
def atE:List Ln→List At→Int
 |_,[]=>0
 |seen,a::r=>if nmX a.1=false then 5 else if a.1∈seen then 7 else if vld a.2=false then 10 else atE (seen++[a.1]) r
def elE(n:Nd):Int:=if nmX n.1=false then 5 else if n.2.1≠[] then 4 else if 16<n.2.2.1.length then 9 else atE [] n.2.2.1
def uR(p:Option Nd) (n:Nd):Int:=match p with
 |none=>if dep n≠0 then 8 else 0
 |some q=>if dep n<1 then 8 else if(if q.1≠[] then dep q+1 else dep q)<dep n then 8 else if 15<dep n then 9 else 0
def txP(p:Option Nd) (n:Nd):Bool:=match p with
 |none=>true
 |some q=>decide (q.1=[]∧dep q=dep n)
def txE(p:Option Nd) (n:Nd):Int :=
 if txP p n=true then 8 else if n.2.1=[] then 4 else if 0<n.2.2.1.length then 4 else if vld n.2.1=false then 10 else 0
def ndE(p:Option Nd) (n:Nd):Int:=if uR p n≠0 then uR p n else if n.1≠[] then elE n else txE p n
def ckE:Option Nd→List Nd→Int
 |_,[]=>0
 |p,n::r=>if ndE p n≠0 then ndE p n else ckE (some n) r
def mO(l:List Nd):Int:=if l.length=0 then 6 else if 8192<l.length then 9 else ckE none l
theorem N6{m:List (Ln×Bool)}(h:∀x∈m,x.2=true) (k:Ln):nO seq false m k=decide (k∈m.map Prod.fst):=by
 induction m with
 |nil=>rfl
 |cons x m ih =>
  have ih:=ih fun y hy=>h y (aXV _ hy)
  have hx:=h x aYE
  unfold nO;rw[ih,hx,cC]
  by_cases e:k=x.1
  ·subst e; simp
  ·simp[e]
theorem N7{m:List (Ln×Bool)}{k:Ln}(h:k ∉ m.map Prod.fst):pY seq m k true=m++[(k,true)]:=by
 induction m with
 |nil=>rfl
 |cons x m ih =>
  simp only[aZM,aZL,not_or] at h;unfold pY
  have:seq k x.1=false:=by rw[cC]; simpa using h.1
  rw[this,ih h.2];rfl
theorem aJS{n:Nd}(hs:smN n):q59 fuelH n=some (elE n):=by
 unfold q59 elE;rw[BO,aB]
 by_cases h1:nmX n.1=true
 ·rw[h1,aC (by rfl),if_neg (by decide)]
  by_cases h2:n.2.1=[]
  ·rw[aC (by unfold sne; simpa using h2),if_neg (by simpa using h2)]
   by_cases h3:16<n.2.2.1.length
   ·rw[aD (aW (by simp only[len]; omega)),if_pos h3]
   rw[aC (aX (by simp only[len]; omega)),if_neg h3,bX];generalize ha:n.2.2.1=l at *
   have h:=cX (s:=l) (fun (m:List (Ln×Bool)) (j:Nat)=>((j:Int),m)) (fun m r=>some (atE (m.map Prod.fst) r)) (fun _ m=>∀x∈m,x.2=true)
    (F:=fun v3 (v4:Int×List (Y_×Bool)) =>
     cnd (ilt v4.1 (len l))
      (grd (inb v4.1 (len l))
       (bnd (dZ fuelH (aA l (toN v4.1) ([],[])).1) fun v5 =>
       cnd (bP v5)
        (some (5:Int))
        (cnd (nO seq false v4.2 (aA l (toN v4.1) ([],[])).1)
         (some (7:Int))
         (bnd (q13 fuelH (aA l (toN v4.1) ([],[])).2) fun v6 =>
         cnd (bP v6)
          (some (10:Int))
          (v3 (w64 (aE v4.1 (1:Int)),pY seq v4.2 (aA l (toN v4.1) ([],[])).1 true))))))
      (some (0:Int))) ?_ fuelH 0 [] (cY (by omega) _) (aZ1 _) (by simp)
   ·exact h
   ·intro self m j hj hI hself
    by_cases hjl:j<l.length
    ·have hw:w64 (aE (j:Int) 1)=((j+1:Nat):Int):=aS hjl (by omega)
     have hsa:=hs.an l[j] (by rw[ha]; exact aY2 hjl)
     rw[aW8 hjl];show cnd (ilt (j:Int) (len l)) _ _=some (if nmX (l[j]).1=false then _ else _);rw[aD (aW (by simp only[len]; omega)),aG (aZ (by simp only[len]; omega)),bB hjl,BO,aB,hw]
     by_cases e1:nmX (l[j]).1=true
     ·rw[e1,aC (by rfl),if_neg (by decide),N6 hI]
      by_cases e2:(l[j]).1∈m.map Prod.fst
      ·rw[aD (by simpa using e2),if_pos e2]
      ·rw[aC (by simpa using e2),if_neg e2,kI _ (by omega),aB]
       by_cases e3:vld (l[j]).2=true
       ·rw[e3,aC (by rfl),if_neg (by decide),N7 e2];refine aZ3 (hself (m++[((l[j]).1,true)]) (j+1) (by omega) (by omega) ?_) ?_
        ·intro x hx;rcases aY4.1 hx with hx|hx
         ·exact hI x hx
         ·simp at hx; rw[hx]
        ·simp
       ·have e3:vld (l[j]).2=false:=by simpa using e3
        rw[e3,aD (by rfl),if_pos rfl]
     ·have e1:nmX (l[j]).1=false:=by simpa using e1
      rw[e1,aD (by rfl),if_pos rfl]
    ·obtain rfl:j=l.length:=by omega
     show cnd (ilt (l.length:Int) (len l)) _ _=_;rw[aC (aX (by simp only[len]; omega)),aY1];rfl
  ·rw[aD (by unfold sne; simpa using h2),if_pos h2]
 ·have h1:nmX n.1=false:=by simpa using h1
  rw[h1,aD (by rfl),if_pos rfl]
def prv(l:List Nd) (i:Nat):Option Nd:=if i=0 then none else l[i-1]?
theorem mP{l:List Nd}{i:Nat}(hi:i<l.length):prv l (i+1)=some l[i]:=by
 unfold prv;rw[if_neg (by omega)];simp[hi]
theorem aGH{l:List Nd}(hl:l.length≤4000000){i:Nat}(hi:i<l.length) (hp:∀q,prv l i=some q→0≤dep q∧dep q≤15):q56 fuelH (l,(i:Int))=some (uR (prv l i) l[i]):=by
 unfold q56;show grd (inb (i:Int) (len l)) (cnd (ieq (i:Int) 0) (cnd (ine (aA l (toN (i:Int)) zN).2.2.2 0) _ _) _)=_;rw[aG (aZ (by simp only[len]; omega)),wL hi]
 by_cases h0:i=0
 ·subst h0;rw[aD (by rfl)];show cnd (ine (dep l[0]) 0) _ _=some (if dep l[0]≠0 then(8:Int) else 0)
  by_cases e:dep l[0]=0
  ·rw[aC (cQ e),if_neg (by simpa using e)]
  ·rw[aD (cP e),if_pos e]
 ·obtain⟨k,rfl⟩:∃k,i=k+1:=⟨i-1,by omega⟩
  have hq:=hp _ (mP (by omega))
  rw[aC (dF (by omega)),mP (by omega)]
  have hb:w64 (aJ ((k+1:Nat):Int) 1)=(k:Int):=oF (by omega)
  dsimp only
  have hg:inb (k:Int) (len l)=true:=aZ (by simp only[len]; omega)
  rw[hb,wL (show k<l.length by omega),aG hg,bX,aG hg];show cnd (sne l[k].1 []) (cnd (ilt (dep l[k+1]) 1) (some 8) (cnd (ilt (w64 (aE (dep l[k]) 1)) (dep l[k+1])) (some 8) (cnd (ilt 15 (dep l[k+1])) (some 9) (some 0)))) (cnd (ilt (dep l[k+1]) 1) (some 8) (cnd (ilt (dep l[k]) (dep l[k+1])) (some 8) (cnd (ilt 15 (dep l[k+1])) (some 9) (some 0)))) =
   some (if dep l[k+1]<1 then(8:Int) else if(if l[k].1≠[] then dep l[k]+1 else dep l[k])<dep l[k+1] then 8 else if 15<dep l[k+1] then 9 else 0)
  have hw:w64 (aE (dep l[k]) 1)=dep l[k]+1:=by
   simp only[aE];rw[bU (by omega)]
  rw[hw];simp only[dM]
  by_cases e:l[k].1=[]
  ·rw[aC (by unfold sne; simpa using e)];simp only[e,ne_eq,not_true,if_false]
   repeat' split
   all_goals rfl
  ·rw[aD (by unfold sne; simpa using e)];simp only[e,ne_eq,not_false_eq_true,if_true]
   repeat' split
   all_goals rfl
theorem aJT{l:List Nd}(hl:l.length≤4000000){i:Nat}(hi:i<l.length) (hs:smN l[i]):q60 fuelH (l,(i:Int))=some (txE (prv l i) l[i]):=by
 have fin:∀b:Bool,(cnd b (some (8:Int)) (cnd (seq l[i].2.1 []) (some (4:Int)) (cnd (ilt 0 (len l[i].2.2.1)) (some (4:Int)) (bnd (q13 fuelH l[i].2.1) fun v1=>cnd (bP v1) (some (10:Int)) (some (0:Int)))))) =
   some (if b=true then 8 else if l[i].2.1=[] then 4 else if 0<l[i].2.2.1.length then 4 else if vld l[i].2.1=false then 10 else 0):=fun b=>by
  cases b with
  |true=>rfl
  |false =>
   rw[aC (by rfl),if_neg (by decide)]
   by_cases h1:l[i].2.1=[]
   ·rw[aD (by rw[cJ]; exact h1),if_pos h1]
   rw[aC (by rw[cC]; simpa using h1),if_neg h1]
   by_cases h2:0<l[i].2.2.1.length
   ·rw[aD (aW (by simp only[len]; omega)),if_pos h2]
   rw[aC (aX (by simp only[len]; omega)),if_neg h2,kI _ (by have:=hs.tx; omega),aB];cases vld l[i].2.1<;>rfl
 unfold q60;dsimp only;rw[aG (aZ (by simp only[len]; omega)),bX];simp only[wL hi]
 by_cases h0:i=0
 ·subst h0;rw[aD (by rfl)];refine aZ3 (fin true) ?_;rfl
 ·obtain⟨k,rfl⟩:∃k,i=k+1:=⟨i-1,by omega⟩
  have hb:w64 (aJ ((k+1:Nat):Int) 1)=(k:Int):=oF (by omega)
  have hg:inb (k:Int) (len l)=true:=aZ (by simp only[len]; omega)
  rw[aC (dF (by omega)),mP (by omega),hb,aG hg,aG hg,wL (show k<l.length by omega)];unfold txE
  by_cases e:l[k].1=[]
  ·rw[aD (by rw[cJ]; exact e)];refine aZ3 (fin _) ?_
   have hc:ieq l[k].2.2.2 l[k+1].2.2.2=txP (some l[k]) l[k+1]:=by
    unfold txP;rw[aZE,rG,decide_eq_true_eq];exact⟨fun h=>⟨e,h⟩,fun h=>h.2⟩
   rw[hc]
  ·rw[aC (by rw[cC]; simpa using e)];refine aZ3 (fin _) ?_
   have hc:txP (some l[k]) l[k+1]=false:=by
    unfold txP;exact decide_eq_false fun h=>e h.1
   rw[hc]
theorem OT{p:Option Nd}{n:Nd}(h:uR p n=0):0≤dep n∧dep n≤15:=by
 unfold uR at h
 cases p with
 |none =>
  simp only at h
  split at h
  ·cases h
  ·rename_i k; simp at k; omega
 |some q =>
  simp only at h
  repeat' split at h
  all_goals (first|(cases h; done)|omega)
theorem lG{p:Option Nd}{n:Nd}(h:ndE p n=0):uR p n=0:=by
 unfold ndE at h
 by_cases e:uR p n=0
 ·exact e
 ·rw[if_pos e] at h;exact h
theorem UZ{l:List Nd}(hl:l.length≤4000000) (hs:∀n∈l,smN n):q61 fuelH l=some (mO l):=by
 unfold q61 mO
 by_cases h0:l.length=0
 ·rw[aD (dN (by simp only[len]; omega)),if_pos h0]
 rw[aC (dF (by simp only[len]; omega)),if_neg h0]
 by_cases h1:8192<l.length
 ·rw[aD (aW (by simp only[len]; omega)),if_pos h1]
 rw[aC (aX (by simp only[len]; omega)),if_neg h1,bX]
 have h:=cX (s:=l) (fun (_:Unit) (j:Nat)=>(j:Int)) (fun _ r=>some (ckE (prv l (l.length-r.length)) r)) (fun j _=>∀q,prv l j=some q→0≤dep q∧dep q≤15)
  (F:=fun v2 (v3:Int) =>
    cnd (ilt v3 (len l))
     (grd (inb v3 (len l))
      (bnd (q56 fuelH (l,v3)) fun v4 =>
      cnd (ine v4 (0:Int))
       (some v4)
       (cnd (sne (aA l (toN v3) zN).1 ([]:Y_))
        (bnd (q59 fuelH (aA l (toN v3) zN)) fun v5 =>
        cnd (ine v5 (0:Int))
         (some v5)
         (v2 (w64 (aE v3 (1:Int)))))
        (bnd (q60 fuelH (l,v3)) fun v6 =>
        cnd (ine v6 (0:Int))
         (some v6)
         (v2 (w64 (aE v3 (1:Int))))))))
     (some (0:Int))) ?_ fuelH 0 () (cY hl _) (aZ1 _) (fun q hq=>by simp[prv] at hq)
 ·refine aZ3 h ?_;rw[aZG,aZX];rfl
 ·intro self a j hj hI hself
  by_cases hjl:j<l.length
  ·have hw:w64 (aE (j:Int) 1)=((j+1:Nat):Int):=aS hjl (by omega)
   have hrl:l.length-(l.drop j).length=j:=by rw[aYV]; omega
   have hrl2:l.length-(l.drop (j+1)).length=j+1:=by rw[aYV]; omega
   have hsm:=hs _ (aY2 hjl)
   have hgo:uR (prv l j) l[j]=0→self ((j+1:Nat):Int)=some (ckE (some l[j]) (l.drop (j+1))):=fun hd=>by
    refine aZ3 (hself () (j+1) (by omega) (by omega) (fun q hq=>?_)) ?_
    ·rw[mP hjl] at hq;injection hq with hq;rw[←hq];exact OT hd
    ·rw[hrl2,mP hjl]
   rw[hrl,aW8 hjl];show cnd (ilt (j:Int) (len l)) _ _=some (if ndE (prv l j) l[j]≠0 then ndE (prv l j) l[j] else ckE (some l[j]) (l.drop (j+1)));rw[aD (aW (by simp only[len]; omega)),aG (aZ (by simp only[len]; omega)),aGH hl hjl hI,aB,wL hjl,aJS hsm,aJT hl hjl hsm,aB,aB,hw];unfold ndE
   by_cases e1:uR (prv l j) l[j]=0
   ·rw[aC (cQ e1),if_neg (show ¬uR (prv l j) l[j]≠0 from fun k=>k e1)]
    by_cases e2:l[j].1=[]
    ·rw[aC (by unfold sne; simpa using e2),if_neg (show ¬l[j].1≠[] from fun k=>k e2)]
     by_cases e3:txE (prv l j) l[j]=0
     ·rw[aC (cQ e3),if_neg (fun k=>k e3)];exact hgo e1
     ·rw[aD (cP e3),if_pos e3]
    ·rw[aD (by unfold sne; simpa using e2),if_pos e2]
     by_cases e3:elE l[j]=0
     ·rw[aC (cQ e3),if_neg (fun k=>k e3)];exact hgo e1
     ·rw[aD (cP e3),if_pos e3]
   ·rw[aD (cP e1),if_pos e1,if_pos e1]
  ·obtain rfl:j=l.length:=by omega
   show cnd (ilt (l.length:Int) (len l)) _ _=_;rw[aC (aX (by simp only[len]; omega)),aY1];rfl
end
end Go.Mo
end

section
set_option linter.all false
namespace Go.Mo
open Go Go.W Go.Lib
set_option maxRecDepth 100000
noncomputable section
open Classical
theorem aLW:∀(r:List Nd) (p:Option Nd),ckE p r=0→∀j (h:j<r.length),ndE (if j=0 then p else r[j-1]?) r[j]=0
 | [],_,_,j,h=>by simp at h
 |n::r,p,hc,j,h=>by
  have hc':(if ndE p n≠0 then ndE p n else ckE (some n) r)=0:=hc
  by_cases e:ndE p n=0
  ·rw[if_neg (fun k=>k e)] at hc'
   cases j with
   |zero=>exact e
   |succ j =>
    have:=aLW r (some n) hc' j (by simpa using h)
    rw[if_neg (by omega)]
    cases j with
    |zero=>simpa using this
    |succ j=>simpa using this
  ·rw[if_pos e] at hc';exact absurd hc' e
theorem rN{l:List Nd}(h:mO l=0):0<l.length∧l.length≤8192∧∀j (h:j<l.length),ndE (prv l j) l[j]=0:=by
 unfold mO at h
 by_cases h0:l.length=0
 ·rw[if_pos h0] at h; cases h
 rw[if_neg h0] at h
 by_cases h1:8192<l.length
 ·rw[if_pos h1] at h; cases h
 rw[if_neg h1] at h;exact⟨by omega,by omega,fun j hj=>aLW l none h j hj⟩
structure Deep (l:List Nd):Prop where
 root:∀h:0<l.length,dep l[0]=0
 low:∀i (h:i+1<l.length),1≤dep l[i+1]∧dep l[i+1]≤dep l[i]+1∧(dep l[i]<dep l[i+1]→l[i].1≠[])
 high:∀i (h:i<l.length),0≤dep l[i]∧dep l[i]≤15
theorem OU{l:List Nd}(h:∀j (h:j<l.length),ndE (prv l j) l[j]=0):Deep l:=by
 refine⟨fun h0=>?_,fun i hi=>?_,fun i hi=>OT (lG (h i hi))⟩
 ·have:=lG (h 0 h0)
  have:(if dep l[0]≠0 then(8:Int) else 0)=0:=this
  by_cases e:dep l[0]=0
  ·exact e
  ·rw[if_pos e] at this; cases this
 ·have:=lG (h (i+1) hi)
  rw[mP (by omega)] at this
  have:(if dep l[i+1]<1 then(8:Int) else if(if l[i].1≠[] then dep l[i]+1 else dep l[i])<dep l[i+1] then 8 else if 15<dep l[i+1] then 9 else 0)=0:=this
  by_cases e1:dep l[i+1]<1
  ·rw[if_pos e1] at this; cases this
  rw[if_neg e1] at this
  by_cases e2:(if l[i].1≠[] then dep l[i]+1 else dep l[i])<dep l[i+1]
  ·rw[if_pos e2] at this; cases this
  by_cases e3:l[i].1=[]
  ·rw[if_neg (fun k=>k e3)] at e2;exact⟨by omega,by omega,fun k=>by omega⟩
  ·rw[if_pos e3] at e2;exact⟨by omega,by omega,fun _=>e3⟩
def par(l:List Nd) (i j:Nat):Prop:=i<j∧j<l.length∧(∀m,i<m→m≤j→dep (l.getD i ndz)<dep (l.getD m ndz))∧dep (l.getD j ndz)=dep (l.getD i ndz)+1
theorem gD{l:List Nd}{i:Nat}(h:i<l.length):l.getD i ndz=l[i]:=by simp[List.getD,h]
end
end Go.Mo
end

section
set_option linter.all false
namespace Go.Mo
open Go Go.W Go.Lib
set_option maxRecDepth 100000
noncomputable section
abbrev Ls:=Y_
abbrev Aq:=Y_×Y_
abbrev Tok:=Int×Y_×List Aq×Y_
theorem OV{s:Ls}(hs:s.length≤4000000){i:Nat}(hi:i≤s.length):eN fuelH (s,(i:Int))=some (dI (s.drop i),((i+(dI (s.drop i)).length:Nat):Int)):=by
 unfold eN;dsimp only
 by_cases hl:i<s.length
 ·have g:aA s (toN (i:Int)) (0:UInt8)=s[i]:=bB hl
  rw[aC (kH (by simp only[len]; omega)),aG (aZ (by simp only[len]; omega)),g,IT,aB,aW8 hl,yR]
  by_cases h:oK s[i]=true
  ·rw[h,aC (by rfl),if_pos rfl,bX];refine aZ3 (aGB hs nL (fun x=>q58 fuelH x) (fun x=>W0 fuelH x) _ hi) ?_
   have ht:=kT (P:=nL) (s.drop (i+1))
   rw[aYV] at ht;rw[aW8 hl,aX9,if_pos (aJO h)]
   have hin:in3 (i:Int) ((i+(s[i]::(s.drop (i+1)).takeWhile nL).length:Nat):Int) (len s)=true:=aLV (by simp only[len,aYR]; omega)
   rw[aG hin];simp only[cS,bO,toN,aYP];rw[List.drop_take,show i+(s[i]::(s.drop (i+1)).takeWhile nL).length-i=(s[i]::(s.drop (i+1)).takeWhile nL).length by omega,aW8 hl,aYR,aX5,BN]
  ·have h:oK s[i]=false:=by simpa using h
   rw[h,aD (by rfl),if_neg (by decide)];rfl
 ·obtain rfl:i=s.length:=by omega
  rw[aD (hM (by simp only[len]; omega)),aY1];rfl
theorem sN{s:Ls}(hs:s.length≤4000000){i:Nat}(hi:i≤s.length):q77 fuelH (s,(i:Int))=some ((i+((s.drop i).takeWhile wsB).length:Nat):Int):=by
 unfold q77;dsimp only;rw[bX];exact aGB hs wsB (fun x=>q76 fuelH x) (fun x=>aF3 fuelH x) _ hi
def skp(t:Ls):Ls:=t.drop (t.takeWhile wsB).length
theorem iC(t:Ls):(skp t).length≤t.length:=by unfold skp; rw[aYV]; omega
theorem OW{s:Ls}{i:Nat}:skp (s.drop i)=s.drop (i+((s.drop i).takeWhile wsB).length):=by unfold skp; rw[aZF]
def OX(q:UInt8) (t:Ls):Option (Ls×Ls):=match t.drop (t.takeWhile fun b=>b != q&&b != 60).length with
 | []=>none
 |c::r=>if c=q then some (t.takeWhile fun b=>b != q&&b != 60,r) else none
def gL(t:Ls):Option (Aq×Ls) :=
 if dI t=[] then none else match skp (t.drop (dI t).length) with
 | []=>none
 |b::r2=>if b=61 then(match skp r2 with
  | []=>none
  |q::r4=>if q=34∨q=39 then(match OX q r4 with
   |some (v,r5)=>some ((dI t,v),r5)
   |none=>none) else none) else none
theorem rO(t:Ls):(dI t).length≤t.length:=by
 match t with
 | []=>exact aZ0 _
 |b::l =>
  rw[yR]
  have:=kT (P:=nL) l
  split
  ·simp; omega
  ·simp
theorem FC{q:UInt8}{t v r:Ls}(h:OX q t=some (v,r)):r.length<t.length∧v.length+1+r.length=t.length:=by
 unfold OX at h
 have hl:=congrArg List.length (OO (fun b=>b != q&&b != 60) t)
 rw[aYA] at hl
 split at h
 ·cases h
 ·rename_i c r' hc
  split at h
  ·injection h with h;injection h with h1 h2;rw[hc,aYR] at hl;subst h1;subst h2;exact⟨by omega,by omega⟩
  ·cases h
theorem oO{t r:Ls}{a:Aq}(h:gL t=some (a,r)):r.length<t.length:=by
 unfold gL at h
 split at h
 ·cases h
 split at h
 ·cases h
 rename_i b r2 h2
 split at h
 ·split at h
  ·cases h
  rename_i q r4 h4
  split at h
  ·split at h
   ·rename_i v r5 h5;injection h with h;injection h with _ h;subst h
    have e1:=FC h5
    have e2:=iC r2
    have e3:=iC (t.drop (dI t).length)
    rw[h4,aYR] at e2;rw[h2,aYR,aYV] at e3;omega
   ·cases h
  ·cases h
 ·cases h
theorem BP(t:Ls):∃u,u++skp t=t:=⟨_,aXO _ t⟩
theorem aGI{q:UInt8}{t v r:Ls}(h:OX q t=some (v,r)):t=v++q::r:=by
 unfold OX at h
 have hl:=OO (fun b=>b != q&&b != 60) t
 split at h
 ·cases h
 ·rename_i c r' hc
  split at h
  ·rename_i e;injection h with h;injection h with h1 h2;rw[hc,h1,h2,e] at hl;exact hl.symm
  ·cases h
theorem IZ{t r:Ls}{a:Aq}(h:gL t=some (a,r)):∃u,u++r=t:=by
 unfold gL at h
 split at h
 ·cases h
 split at h
 ·cases h
 rename_i b r2 h2
 split at h
 ·split at h
  ·cases h
  rename_i q r4 h4
  split at h
  ·split at h
   ·rename_i v r5 h5;injection h with h;injection h with _ h;subst h
    have e1:=aGI h5
    obtain⟨u2,e2⟩:=BP r2;obtain⟨u3,e3⟩:=BP (t.drop (dI t).length);refine⟨t.take (dI t).length++(u3++(b::(u2++(q::(v++[q]))))),?_⟩
    conv=>rhs; rw[←aXO (dI t).length t,←e3,h2,←e2,h4,e1]
    simp
   ·cases h
  ·cases h
 ·cases h
def aGJ(s:Ls):Option (Aq×Ls)→Aq×Int×Bool
 |some (a,r)=>(a,((s.length-r.length:Nat):Int),true)
 |none=>((([]:Y_),([]:Y_)),(0:Int),false)
theorem FD(s:Ls) (a:Aq) (r:Ls):aGJ s (some (a,r))=(a,((s.length-r.length:Nat):Int),true):=rfl
theorem aGK{R:Type}{s:Ls}(hs:s.length≤4000000){k2:Nat}(h4:k2<s.length) (K:Int→Option R) :
  bG (fun (v6:Int→Option R) (v7:Int) =>
       cnd (ilt v7 (len s))
        (grd (inb v7 (len s))
         (grd (inb (k2:Int) (len s))
          (cnd (ine (n8 (aA s (toN v7) (0:UInt8))) (n8 s[k2]))
           (grd (inb v7 (len s))
            (cnd (ine (n8 (aA s (toN v7) (0:UInt8))) (n8 (60:UInt8)))
             (v6 (w64 (aE v7 (1:Int))))
             (K v7)))
           (K v7))))
        (K v7)) fuelH ((k2+1:Nat):Int)=K ((k2+1+((s.drop (k2+1)).takeWhile fun b=>b != s[k2]&&b != 60).length:Nat):Int):=by
 have hin2:inb (k2:Int) (len s)=true:=aZ (by simp only[len]; omega)
 refine aOY (s:=s) (fun b=>b != s[k2]&&b != 60) K (fun self k hk=>?_) (fun self=>?_) fuelH (k2+1) (cY hs _) (by omega)
 ·have hink:inb (k:Int) (len s)=true:=aZ (by simp only[len]; omega)
  rw[aD (aW (by simp only[len]; omega)),aG hink,aG hin2,bB hk,aS hk (by omega),aG hink]
  by_cases e1:s[k]=s[k2]
  ·rw[aC (cQ (by rw[e1])),if_neg (by simp[e1])]
  ·rw[aD (cP (fun q=>e1 (fL q)))]
   by_cases e2:s[k]=60
   ·rw[aC (cQ (by rw[e2])),if_neg (by simp[e2])]
   ·rw[aD (cP (fun q=>e2 (fL q))),if_pos (by simp[e1,e2])]
 ·rw[aC (aX (by simp only[len]; omega))]
theorem VA{s:Ls}(hs:s.length≤3999999){i:Nat}(hi:i≤s.length):q78 fuelH (s,(i:Int))=some (aGJ s (gL (s.drop i))):=by
 have hs4:s.length≤4000000:=by omega
 unfold q78 gL;dsimp only;rw[OV hs4 hi,aB]
 have hnl:=rO (s.drop i)
 rw[aYV] at hnl
 by_cases h1:dI (s.drop i)=[]
 ·rw[aD (by rw[cJ]; exact h1),if_pos h1];rfl
 rw[aC (by rw[cC]; simpa using h1),if_neg h1];dsimp only;rw[sN hs4 (show i+(dI (s.drop i)).length≤s.length by omega),aB,aZF,OW]
 have ht1:=kT (P:=wsB) (s.drop (i+(dI (s.drop i)).length))
 rw[aYV] at ht1;generalize hk1:i+(dI (s.drop i)).length+((s.drop (i+(dI (s.drop i)).length)).takeWhile wsB).length=k1 at *
 have hk1l:k1≤s.length:=by omega
 by_cases h2:k1<s.length
 ·have g:aA s (toN (k1:Int)) (0:UInt8)=s[k1]:=bB h2
  rw[aC (kH (by simp only[len]; omega)),aG (aZ (by simp only[len]; omega)),g,aW8 h2];dsimp only
  by_cases h3:s[k1]=61
  ·rw[aC (cQ (by rw[h3])),if_pos h3,aS h2 (by omega),sN hs4 (show k1+1≤s.length by omega),aB,bX,OW]
   have ht2:=kT (P:=wsB) (s.drop (k1+1))
   rw[aYV] at ht2;generalize hk2:k1+1+((s.drop (k1+1)).takeWhile wsB).length=k2 at *
   by_cases h4:k2<s.length
   ·have g2:aA s (toN (k2:Int)) (0:UInt8)=s[k2]:=bB h4
    have hin2:inb (k2:Int) (len s)=true:=aZ (by simp only[len]; omega)
    rw[aC (kH (by simp only[len]; omega)),aG hin2,aW8 h4];dsimp only;rw[bX,aS h4 (by omega)];simp only[g2]
    -- the value
    have hv:(bG (fun v6 (v7:Int) =>
       cnd (ilt v7 (len s))
        (grd (inb v7 (len s))
         (grd (inb (k2:Int) (len s))
          (cnd (ine (n8 (aA s (toN v7) (0:UInt8))) (n8 s[k2]))
           (grd (inb v7 (len s))
            (cnd (ine (n8 (aA s (toN v7) (0:UInt8))) (n8 (60:UInt8)))
             (v6 (w64 (aE v7 (1:Int))))
             ((fun (v4:Int) =>
       cnd (ile (len s) v4)
        (some ((([]:Y_),([]:Y_)),(0:Int),false))
        (grd (inb v4 (len s))
         (grd (inb (k2:Int) (len s))
          (cnd (ine (n8 (aA s (toN v4) (0:UInt8))) (n8 s[k2]))
           (some ((([]:Y_),([]:Y_)),(0:Int),false))
           (grd (in3 ((k2+1:Nat):Int) v4 (len s))
            (some ((dI (s.drop i),cS (toN ((k2+1:Nat):Int)) (bO (toN v4) s)),w64 (aE v4 (1:Int)),true))))))) v7)))
           ((fun (v4:Int) =>
       cnd (ile (len s) v4)
        (some ((([]:Y_),([]:Y_)),(0:Int),false))
        (grd (inb v4 (len s))
         (grd (inb (k2:Int) (len s))
          (cnd (ine (n8 (aA s (toN v4) (0:UInt8))) (n8 s[k2]))
           (some ((([]:Y_),([]:Y_)),(0:Int),false))
           (grd (in3 ((k2+1:Nat):Int) v4 (len s))
            (some ((dI (s.drop i),cS (toN ((k2+1:Nat):Int)) (bO (toN v4) s)),w64 (aE v4 (1:Int)),true))))))) v7))))
        ((fun (v4:Int) =>
       cnd (ile (len s) v4)
        (some ((([]:Y_),([]:Y_)),(0:Int),false))
        (grd (inb v4 (len s))
         (grd (inb (k2:Int) (len s))
          (cnd (ine (n8 (aA s (toN v4) (0:UInt8))) (n8 s[k2]))
           (some ((([]:Y_),([]:Y_)),(0:Int),false))
           (grd (in3 ((k2+1:Nat):Int) v4 (len s))
            (some ((dI (s.drop i),cS (toN ((k2+1:Nat):Int)) (bO (toN v4) s)),w64 (aE v4 (1:Int)),true))))))) v7)) fuelH ((k2+1:Nat):Int))=some (aGJ s (match OX s[k2] (s.drop (k2+1)) with
   |some (v,r5)=>some ((dI (s.drop i),v),r5)
   |none=>none)):=by
     refine aZ3 (aGK hs4 h4 _) ?_
     have htl:=kT (P:=fun b=>b != s[k2]&&b != 60) (s.drop (k2+1))
     rw[aYV] at htl;unfold OX
     have hd:(s.drop (k2+1)).drop ((s.drop (k2+1)).takeWhile fun b=>b != s[k2]&&b != 60).length=s.drop (k2+1+((s.drop (k2+1)).takeWhile fun b=>b != s[k2]&&b != 60).length):=aZF
     have htk:=BN (fun b=>b != s[k2]&&b != 60) (s.drop (k2+1))
     rw[hd];generalize (s.drop (k2+1)).takeWhile (fun b=>b != s[k2]&&b != 60)=v at *
     by_cases h5:k2+1+v.length<s.length
     ·rw[aC (kH (by simp only[len]; omega)),aG (aZ (by simp only[len]; omega)),aG hin2,bB h5,aW8 h5];dsimp only
      by_cases e:s[k2+1+v.length]=s[k2]
      ·rw[aC (cQ (by rw[e])),aG (aLV (by simp only[len]; omega)),if_pos e,aS h5 (by omega)]
       have e1:cS (toN ((k2+1:Nat):Int)) (bO (toN ((k2+1+v.length:Nat):Int)) s)=v:=by
        simp only[cS,bO,toN,aYP];rw[List.drop_take,show k2+1+v.length-(k2+1)=v.length by omega,htk]
       dsimp only;rw[e1,FD,aYV]
       have e2:s.length-(s.length-(k2+1+v.length+1))=k2+1+v.length+1:=by omega
       rw[e2]
      ·rw[aD (cP (fun q=>e (fL q))),if_neg e];rfl
     ·have e:k2+1+v.length=s.length:=by omega
      rw[aD (hM (by simp only[len]; omega)),e,aY1];rfl
    by_cases q1:s[k2]=34
    ·rw[aC (cQ (by rw[q1])),if_pos (Or.inl q1)];exact hv
    ·rw[aD (cP (fun q=>q1 (fL q))),aG hin2]
     by_cases q2:s[k2]=39
     ·rw[aC (cQ (by rw[q2])),if_pos (Or.inr q2)];exact hv
     ·rw[aD (cP (fun q=>q2 (fL q))),if_neg (by simp[q1,q2])];rfl
   ·have e:k2=s.length:=by omega
    rw[aD (hM (by simp only[len]; omega)),e,aY1];rfl
  ·rw[aD (cP (fun q=>h3 (fL q))),if_neg h3];rfl
 ·have e:k1=s.length:=by omega
  rw[aD (hM (by simp only[len]; omega)),e,aY1];rfl
def uS:Nat→Ls→List Aq→Option (Int×List Aq×Ls)
 | 0,_,_=>none
 |n+1,t,l=>match skp t with
  | []=>none
  |b::r=>if b=62 then some (1,l,r) else if b=47∧r.take 1=[62] then some (3,l,r.drop 1) else if(b::r).length=t.length then none else match gL (b::r) with
   |none=>none
   |some (a,r2)=>uS n r2 (l++[a])
theorem JA:∀(n m:Nat) (t:Ls) (l:List Aq),t.length<n→t.length<m→uS n t l=uS m t l
 | 0,_,_,_,h,_=>by omega
 |_+1,0,_,_,_,h=>by omega
 |n+1,m+1,t,l,h1,h2=>by
  have hk:=iC t
  unfold uS;generalize skp t=u at *
  match u with
  | []=>rfl
  |b::r =>
   dsimp only
   split
   ·rfl
   split
   ·rfl
   split
   ·rfl
   cases ha:gL (b::r) with
   |none=>rfl
   |some p =>
    obtain⟨a,r2⟩:=p
    have:=oO ha
    exact JA n m r2 (l++[a]) (by omega) (by omega)
def VB(t:Ls) (l:List Aq):Option (Int×List Aq×Ls):=uS (t.length+1) t l
theorem yT(t:Ls) (l:List Aq):VB t l=match skp t with
  | []=>none
  |b::r=>if b=62 then some (1,l,r) else if b=47∧r.take 1=[62] then some (3,l,r.drop 1) else if(b::r).length=t.length then none else match gL (b::r) with
   |none=>none
   |some (a,r2)=>VB r2 (l++[a]):=by
 have hk:=iC t
 show uS (t.length+1) t l=_;unfold uS;generalize skp t=u at *
 match u with
 | []=>rfl
 |b::r =>
  dsimp only
  split
  ·rfl
  split
  ·rfl
  split
  ·rfl
  cases ha:gL (b::r) with
  |none=>rfl
  |some p =>
   obtain⟨a,r2⟩:=p
   have:=oO ha
   exact JA _ _ r2 (l++[a]) (by omega) (by omega)
theorem rP:∀(n:Nat) (t:Ls) (l:List Aq){k:Int}{m:List Aq}{r:Ls},uS n t l=some (k,m,r)→r.length<t.length∧m.length≤l.length+t.length∧(k=1∨k=3)
 | 0,_,_,_,_,_,h=>by cases h
 |n+1,t,l,k,m,r,h=>by
  have hk:=iC t
  unfold uS at h;generalize skp t=u at *
  match u with
  | []=>cases h
  |b::q =>
   dsimp only at h;rw[aYR] at hk
   split at h
   ·injection h with h;injection h with h1 h;injection h with h2 h3;subst h1 h2 h3;exact⟨by omega,by omega,.inl rfl⟩
   split at h
   ·injection h with h;injection h with h1 h;injection h with h2 h3;subst h1 h2 h3;exact⟨by rw[aYV]; omega,by omega,.inr rfl⟩
   split at h
   ·cases h
   cases ha:gL (b::q) with
   |none=>rw[ha] at h; cases h
   |some p =>
    obtain⟨a,r2⟩:=p;rw[ha] at h
    have h1:=oO ha
    have h2:=rP n r2 (l++[a]) h
    rw[aYA,aYR,aY9] at h2;rw[aYR] at h1;exact⟨by omega,by omega,h2.2.2⟩
def aJU(s name:Ls):Option (Int×List Aq×Ls)→Tok×Int×Bool
 |some (k,l,r)=>((k,name,l,[]),((s.length-r.length:Nat):Int),true)
 |none=>(((0:Int),([]:Y_),([]:List Aq),([]:Y_)),(0:Int),false)
theorem JB(s name:Ls) (k:Int) (l:List Aq) (r:Ls):aJU s name (some (k,l,r))=((k,name,l,[]),((s.length-r.length:Nat):Int),true):=rfl
theorem aGL{s:Ls}(hs:s.length≤3999999) (name:Ls){i:Nat}(hi:i≤s.length) :
  bG (fun v1 (v2:Int×Int×Y_×(List (Y_×Y_))×Y_) =>
   bnd (q77 fuelH (s,v2.1)) fun v3 =>
   jn (fun (v4:Bool) =>
    cnd v4
     (some (v2.2,w64 (aE v3 (1:Int)),true))
     (jn (fun (v5:Bool) =>
      cnd v5
       (some (((3:Int),v2.2.2),w64 (aE v3 (2:Int)),true))
       (cnd (ieq v3 v2.1)
        (some (((0:Int),([]:Y_),([]:List (Y_×Y_)),([]:Y_)),(0:Int),false))
        (bnd (q78 fuelH (s,v3)) fun v6 =>
        cnd (bP v6.2.2)
         (some (((0:Int),([]:Y_),([]:List (Y_×Y_)),([]:Y_)),(0:Int),false))
         (grd (dV (aE (len v2.2.2.2.1) (len ([v6.1]:List (Y_×Y_)))) 32)
          (v1 (v6.2.1,v2.2.1,v2.2.2.1,bH v2.2.2.2.1 ([v6.1]:List (Y_×Y_)),v2.2.2.2.2))))))
     fun v7 =>
     cnd (ilt (w64 (aE v3 (1:Int))) (len s))
      (grd (inb v3 (len s))
       (cnd (ieq (n8 (aA s (toN v3) (0:UInt8))) (n8 (47:UInt8)))
        (grd (inb (w64 (aE v3 (1:Int))) (len s))
         (v7 (ieq (n8 (aA s (toN (w64 (aE v3 (1:Int)))) (0:UInt8))) (n8 (62:UInt8)))))
        (v7 false)))
      (v7 false)))
   fun v8 =>
   cnd (ilt v3 (len s))
    (grd (inb v3 (len s))
     (v8 (ieq (n8 (aA s (toN v3) (0:UInt8))) (n8 (62:UInt8)))))
    (v8 false)) fuelH ((i:Int),(1:Int),name,([]:List (Y_×Y_)),([]:Y_))=some (aJU s name (VB (s.drop i) [])):=by
 have hs4:s.length≤4000000:=by omega
 refine cX (s:=s) (fun (l:List Aq) (i:Nat)=>((i:Int),((1:Int),(name,(l,([]:Y_)))))) (fun l r=>some (aJU s name (VB r l))) (fun i l=>l.length≤i) ?_ fuelH i [] (cY hs4 _) hi (aZ1 _);intro self l i hi hI hself;dsimp only
 have hsk:=OW (s:=s) (i:=i)
 rw[sN hs4 hi,aB,bX,yT]
 have htl:=kT (P:=wsB) (s.drop i)
 rw[aYV] at htl;rw[hsk];generalize hk:i+((s.drop i).takeWhile wsB).length=k at *
 by_cases hkl:k<s.length
 ·have g:aA s (toN (k:Int)) (0:UInt8)=s[k]:=bB hkl
  have hin:inb (k:Int) (len s)=true:=aZ (by simp only[len]; omega)
  have hw:w64 (aE (k:Int) 1)=((k+1:Nat):Int):=aS hkl (by omega)
  rw[aD (aW (by simp only[len]; omega)),aG hin,g,aW8 hkl,hw];dsimp only
  have hrl:(s[k]::s.drop (k+1)).length=s.length-k:=by rw[aYR,aYV]; omega
  by_cases h62:s[k]=62
  ·rw[aD (dN (by rw[h62])),if_pos h62];rw[JB,aYV,show s.length-(s.length-(k+1))=k+1 by omega]
  ·rw[aC (dF (fun q=>h62 (fL q))),if_neg h62,bX]
   -- an attribute
   have fin:∀b:Bool,b=false→¬(s[k]=47∧(s.drop (k+1)).take 1=[62])→(cnd b
       (some (((3:Int),name,l,([]:Y_)),w64 (aE (k:Int) (2:Int)),true))
       (cnd (ieq (k:Int) (i:Int))
        (some (((0:Int),([]:Y_),([]:List (Y_×Y_)),([]:Y_)),(0:Int),false))
        (bnd (q78 fuelH (s,(k:Int))) fun v6 =>
        cnd (bP v6.2.2)
         (some (((0:Int),([]:Y_),([]:List (Y_×Y_)),([]:Y_)),(0:Int),false))
         (grd (dV (aE (len l) (len ([v6.1]:List (Y_×Y_)))) 32)
          (self (v6.2.1,(1:Int),name,bH l ([v6.1]:List (Y_×Y_)),([]:Y_))))))) =
     some (aJU s name (if s[k]=47∧(s.drop (k+1)).take 1=[62] then some (3,l,(s.drop (k+1)).drop 1) else if(s[k]::s.drop (k+1)).length=(s.drop i).length then none else match gL (s[k]::s.drop (k+1)) with
      |none=>none
      |some (a,r2)=>VB r2 (l++[a]))):=by
    intro b hb hno;subst hb;rw[aC (by rfl),if_neg hno,hrl,aYV]
    by_cases hki:k=i
    ·rw[aD (dN (by omega)),if_pos (by omega)];rfl
    ·rw[aC (dF (by omega)),if_neg (by omega),VA hs (by omega),aB,←aW8 hkl]
     cases ha:gL (s.drop k) with
     |none=>rfl
     |some p =>
      obtain⟨a,r2⟩:=p
      have hal:=oO ha
      rw[aYV] at hal;rw[FD,aC (by rfl),aG (eQ (by simp only[len,aE,aYR,aY9]; omega))];dsimp only
      have hsuf:r2=s.drop (s.length-r2.length):=by
       have h1:=IZ ha
       obtain⟨u,hu⟩:=h1;obtain⟨v,hv⟩:∃v,s=v++r2:=⟨s.take k++u,by rw[aYK,hu,aXO]⟩
       conv=>rhs; rw[hv]
       rw[aYA,show v.length+r2.length-r2.length=v.length by omega,List.drop_left]
      have hz:=hself (l++[a]) (s.length-r2.length) (by omega) (by omega) (by simp; omega)
      rw[←hsuf] at hz;exact hz
   have hd1:(s.drop (k+1)).take 1=if h:k+1<s.length then [s[k+1]] else []:=by
    by_cases h:k+1<s.length
    ·rw[dif_pos h,aW8 h];rfl
    ·rw[dif_neg h,aXH (by omega)];rfl
   by_cases h1:k+1<s.length
   ·have g1:aA s (toN ((k+1:Nat):Int)) (0:UInt8)=s[k+1]:=bB h1
    rw[dif_pos h1] at hd1;rw[aD (aW (by simp only[len]; omega)),aG hin]
    by_cases h47:s[k]=47
    ·rw[aD (dN (by rw[h47])),aG (aZ (by simp only[len]; omega)),g1]
     by_cases h2:s[k+1]=62
     ·have hw2:w64 (aE (k:Int) 2)=((k+2:Nat):Int):=by
       simp only[aE];rw[bU (by omega)];omega
      have e62:ieq (n8 s[k+1]) (n8 62)=true:=dN (by rw[h2])
      rw[e62];dsimp only;rw[aD (by rfl),if_pos ⟨h47,by rw[hd1,h2]⟩,hw2];rw[JB,aZF,aYV,show s.length-(s.length-(k+1+1))=k+2 by omega]
     ·refine fin (ieq (n8 s[k+1]) (n8 62)) (dF (fun q=>h2 (fL q))) (fun q=>h2 ?_)
      have:=q.2
      rw[hd1] at this;injection this
    ·rw[aC (dF (fun q=>h47 (fL q)))];exact fin false rfl (fun q=>h47 q.1)
   ·rw[aC (aX (by simp only[len]; omega))];refine fin false rfl (fun q=>?_)
    have:=q.2
    rw[hd1,dif_neg h1] at this;cases this
 ·have e:k=s.length:=by omega
  rw[aC (aX (by simp only[len]; omega))];dsimp only;rw[aC (by rfl),bX]
  have hw:¬(w64 (aE (k:Int) 1)<len s):=by
   simp only[aE,len];rw[bU (by omega)];omega
  rw[aC (aX hw)];dsimp only;rw[aC (by rfl),e,aY1]
  by_cases hki:k=i
  ·rw[aD (dN (by omega))];rfl
  ·have ha:=VA hs (aZ0 s.length)
   rw[aY1] at ha;rw[aC (dF (by omega)),ha];rfl
def gM(b:UInt8):Bool:=b != 60
def kX(s head tail:Ls):Option (Tok×Ls):=if Lib.index (s.drop head.length) tail<0 then none else some ((4,[],[],head),s.drop (head.length+(Lib.index (s.drop head.length) tail).toNat+tail.length))
def OY(s:Ls):Option (Tok×Ls):=if dI (s.drop 2)=[] then none else match skp ((s.drop 2).drop (dI (s.drop 2)).length) with
 | []=>none
 |b::r=>if b=62 then some ((2,dI (s.drop 2),[],[]),r) else none
def AP(s:Ls):Option (Tok×Ls):=if dI (s.drop 1)=[] then none else match VB ((s.drop 1).drop (dI (s.drop 1)).length) [] with
 |none=>none
 |some (k,l,r)=>some ((k,dI (s.drop 1),l,[]),r)
def jB(s:Ls):Option (Tok×Ls):=match s with
 | []=>none
 |b::_=>if b=60 then(if s.take 2=[60,63] then kX s [60,63] [63,62] else if s.take 4=[60,33,45,45] then kX s [60,33,45,45] [45,45,62] else if s.take 2=[60,47] then OY s else AP s)
  else some ((0,[],[],s.takeWhile gM),s.drop (s.takeWhile gM).length)
theorem eX(b:UInt8) (t:Ls):jB (b::t)=if b=60 then(if(b::t).take 2=[60,63] then kX (b::t) [60,63] [63,62] else if(b::t).take 4=[60,33,45,45] then kX (b::t) [60,33,45,45] [45,45,62] else if(b::t).take 2=[60,47] then OY (b::t) else AP (b::t))
  else some ((0,[],[],(b::t).takeWhile gM),(b::t).drop ((b::t).takeWhile gM).length):=rfl
def aGM(s:Ls):Option (Tok×Ls)→Prop
 |some (t,r)=>eP fuelH s=some (t,((s.length-r.length:Nat):Int),true)
 |none=>∃t n,eP fuelH s=some (t,n,false)
theorem aJV{s:Ls}(hs:s.length≤3999999) (h1:1≤s.length):(∀t r,AP s=some (t,r)→q79 fuelH s=some (t,((s.length-r.length:Nat):Int),true))∧(AP s=none→q79 fuelH s=some ((0,[],[],[]),0,false)):=by
 have hw:=OV (s:=s) (by omega) h1
 have hnl:=rO (s.drop 1)
 rw[aYV] at hnl;unfold q79 AP
 have hw':eN fuelH (s,(1:Int))=some (dI (s.drop 1),((1+(dI (s.drop 1)).length:Nat):Int)):=hw
 rw[hw',aB]
 by_cases h:dI (s.drop 1)=[]
 ·rw[aD (by rw[cJ]; exact h),if_pos h];exact⟨fun _ _ k=>(by cases k),fun _=>rfl⟩
 ·rw[aC (by rw[cC]; simpa using h),if_neg h]
  have ht:=aGL hs (dI (s.drop 1)) (i:=1+(dI (s.drop 1)).length) (by omega)
  rw[ht,aZF]
  cases hq:VB (s.drop (1+(dI (s.drop 1)).length)) [] with
  |none=>exact⟨fun _ _ k=>(by cases k),fun _=>rfl⟩
  |some p =>
   obtain⟨k,l,r⟩:=p;refine⟨fun t r' e=>?_,fun e=>(by cases e)⟩;dsimp only at e;injection e with e;injection e with e1 e2;subst e1;subst e2;rfl
theorem ixb(c:UInt8) (s:Ls):Lib.indexByte s c=if(s.takeWhile fun b=>b != c).length=s.length then -1 else((s.takeWhile fun b=>b != c).length:Int):=by
 induction s with
 |nil=>rfl
 |cons b s ih =>
  have ht:=kT (P:=fun b=>b != c) s
  unfold Lib.indexByte;rw[aX9]
  by_cases h:b=c
  ·subst h;simp
  ·have hb:(b==c)=false:=by simpa using h
   have hn:(b != c)=true:=by simpa using h
   rw[hb,if_neg (by decide),if_pos hn,ih]
   by_cases e:(s.takeWhile fun b=>b != c).length=s.length
   ·rw[if_pos e,if_pos (by decide),if_pos (by rw[aYR,aYR,e])]
   ·rw[if_neg e,if_neg (by simp),if_neg (by rw[aYR,aYR]; omega),aYR];omega
theorem aO1{s:Ls}(hs:s.length≤4000000) (sub:Ls):strings_Index fuelH (s,sub)=some (Lib.index s sub):=by
 unfold strings_Index iF;rw[aG (decide_eq_true (by show s.length<_; omega))]
theorem aV2(N:Nat) (x:Ls):eP (N+5) x=grd (inb (0:Int) (len x)) (cnd (ine (n8 (aA x (toN (0:Int)) (0:UInt8))) (n8 (60:UInt8)))
  (bnd (q73 (N+5) (x,(60:UInt8))) fun v0 =>
  cnd (ilt v0 (0:Int))
   (grd (in2 (len x) (len x))
    (some (((0:Int),([]:Y_),([]:List (Y_×Y_)),bO (toN (len x)) x),len x,true)))
   (grd (in2 v0 (len x))
    (some (((0:Int),([]:Y_),([]:List (Y_×Y_)),bO (toN v0) x),v0,true))))
  (jn (fun (v1:Unit) =>
   bnd (q75 (N+5) (x,([60,47]:Y_))) fun v2 =>
   cnd v2
    (bnd (eN (N+5) (x,(2:Int))) fun v3 =>
    bnd (q77 (N+5) (x,v3.2)) fun v4 =>
    cnd (seq v3.1 ([]:Y_))
     (some (((0:Int),([]:Y_),([]:List (Y_×Y_)),([]:Y_)),(0:Int),false))
     (cnd (ile (len x) v4)
      (some (((0:Int),([]:Y_),([]:List (Y_×Y_)),([]:Y_)),(0:Int),false))
      (grd (inb v4 (len x))
       (cnd (ine (n8 (aA x (toN v4) (0:UInt8))) (n8 (62:UInt8)))
        (some (((0:Int),([]:Y_),([]:List (Y_×Y_)),([]:Y_)),(0:Int),false))
        (some (((2:Int),v3.1,([]:List (Y_×Y_)),([]:Y_)),w64 (aE v4 (1:Int)),true))))))
    (bnd (q79 (N+5) x) fun v5 =>
    some v5))
  fun v6=>bnd (q75 (N+5) (x,([60,63]:Y_))) fun b=>cnd b
   (grd (in2 (2:Int) (len x)) (bnd (strings_Index (N+5) (cS (toN (2:Int)) x,([63,62]:Y_))) fun v10=>some (((4:Int),([]:Y_),([]:List (Y_×Y_)),([60,63]:Y_)),w64 (aE (w64 (aE (2:Int) v10)) (2:Int)),ile (0:Int) v10)))
   (bnd (q75 (N+5) (x,([60,33,45,45]:Y_))) fun b=>cnd b
    (grd (in2 (4:Int) (len x)) (bnd (strings_Index (N+5) (cS (toN (4:Int)) x,([45,45,62]:Y_))) fun v10=>some (((4:Int),([]:Y_),([]:List (Y_×Y_)),([60,33,45,45]:Y_)),w64 (aE (w64 (aE (4:Int) v10)) (3:Int)),ile (0:Int) v10)))
    (v6 ())))):=by kernel_rfl
theorem X3{s head tail:Ls}(hs:s.length≤3999999) (hp:s.take head.length=head) (hh:head.length≤4) (ht:tail.length≤3) (ht1:1≤tail.length)
  (he:eP fuelH s=grd (in2 (head.length:Int) (len s)) (bnd (strings_Index fuelH (cS (toN (head.length:Int)) s,tail)) fun v10=>some (((4:Int),([]:Y_),([]:List Aq),head),w64 (aE (w64 (aE (head.length:Int) v10)) (tail.length:Int)),ile (0:Int) v10))):aGM s (kX s head tail):=by
 have hl:head.length≤s.length:=by
  have:=congrArg List.length hp
  rw[aYU] at this;omega
 have hd:cS (toN (head.length:Int)) s=s.drop head.length:=by simp[cS,toN]
 have hr:=Lib.index_room (s.drop head.length) tail
 have hg:=Lib.index_ge (s.drop head.length) tail
 rw[aG (nA (by simp only[len]; omega)),hd,aO1 (by rw[aYV]; omega),aB] at he;unfold kX
 by_cases h:Lib.index (s.drop head.length) tail<0
 ·rw[if_pos h];exact⟨_,_,by rw[he,kH (by omega)]⟩
 ·rw[if_neg h];show eP fuelH s=_;obtain⟨n,hn⟩:∃n:Nat,Lib.index (s.drop head.length) tail=(n:Int):=⟨(Lib.index (s.drop head.length) tail).toNat,by omega⟩;rw[aYV] at hr;rw[he,hn,hM (by omega),aYP,aYV]
  have e1:w64 (aE (w64 (aE (head.length:Int) (n:Int))) (tail.length:Int))=((head.length+n+tail.length:Nat):Int):=by
   simp only[aE];rw[bU (x:=(head.length:Int)+(n:Int)) (by omega),bU (by omega)];omega
  rw[e1]
  have:s.length-(s.length-(head.length+n+tail.length))=head.length+n+tail.length:=by omega
  rw[this]
theorem aJW{s:Ls}(hs:s.length≤3999999) (h0:s≠[]):aGM s (jB s):=by
 have hN:eP fuelH s=_:=aV2 (nB+4995) s
 match s,h0 with
 |b::t,_ =>
  have hin:inb (0:Int) (len (b::t))=true:=aZ (by simp only[len,aYR]; omega)
  have hg:aA (b::t) (toN (0:Int)) (0:UInt8)=b:=rfl
  rw[aG hin,hg] at hN;rw[eX]
  by_cases hb:b=60
  ·rw[if_pos hb];rw[aC (cQ (by rw[hb])),bX] at hN
   have h1:q75 (nB+4995+5) (b::t,([60,63]:Y_))=some (decide ((b::t).take 2=[60,63])):=IU _ _ _
   have h2:q75 (nB+4995+5) (b::t,([60,33,45,45]:Y_))=some (decide ((b::t).take 4=[60,33,45,45])):=IU _ _ _
   have h3:q75 (nB+4995+5) (b::t,([60,47]:Y_))=some (decide ((b::t).take 2=[60,47])):=IU _ _ _
   rw[h1,aB] at hN
   by_cases c1:(b::t).take 2=[60,63]
   ·rw[if_pos c1];rw[aD (decide_eq_true c1)] at hN;exact X3 hs c1 (by decide) (by decide) (by decide) hN
   rw[if_neg c1];rw[aC (decide_eq_false c1),h2,aB] at hN
   by_cases c2:(b::t).take 4=[60,33,45,45]
   ·rw[if_pos c2];rw[aD (decide_eq_true c2)] at hN;exact X3 hs c2 (by decide) (by decide) (by decide) hN
   rw[if_neg c2];rw[aC (decide_eq_false c2),h3,aB] at hN
   by_cases c3:(b::t).take 2=[60,47]
   ·rw[if_pos c3];rw[aD (decide_eq_true c3)] at hN
    have hl2:2≤(b::t).length:=by have:=congrArg List.length c3; rw[aYU] at this; simp at this ⊢; omega
    generalize b::t=s at *
    have hw:eN (nB+4995+5) (s,(2:Int))=some (dI (s.drop 2),((2+(dI (s.drop 2)).length:Nat):Int)):=OV (s:=s) (by omega) hl2
    have hnl:=rO (s.drop 2)
    rw[aYV] at hnl
    have hbl:q77 (nB+4995+5) (s,((2+(dI (s.drop 2)).length:Nat):Int))=_:=sN (s:=s) (by omega) (show 2+(dI (s.drop 2)).length≤s.length by omega)
    have htl:=kT (P:=wsB) (s.drop (2+(dI (s.drop 2)).length))
    rw[aYV] at htl;rw[hw,aB] at hN;dsimp only at hN;rw[hbl,aB] at hN;unfold OY
    by_cases hn:dI (s.drop 2)=[]
    ·rw[if_pos hn];rw[aD (by rw[cJ]; exact hn)] at hN;exact⟨_,_,hN⟩
    rw[if_neg hn,aZF,OW];rw[aC (by rw[cC]; simpa using hn)] at hN;generalize hk:2+(dI (s.drop 2)).length+((s.drop (2+(dI (s.drop 2)).length)).takeWhile wsB).length=k at *
    by_cases hkl:k<s.length
    ·have g:aA s (toN (k:Int)) (0:UInt8)=s[k]:=bB hkl
     rw[aC (kH (by simp only[len]; omega)),aG (aZ (by simp only[len]; omega)),g] at hN;rw[aW8 hkl];dsimp only
     by_cases h62:s[k]=62
     ·rw[if_pos h62];rw[aC (cQ (by rw[h62])),aS hkl (by omega)] at hN;show eP fuelH s=_;rw[hN,aYV]
      have:s.length-(s.length-(k+1))=k+1:=by omega
      rw[this]
     ·rw[if_neg h62];rw[aD (cP (fun q=>h62 (fL q)))] at hN;exact⟨_,_,hN⟩
    ·have e:k=s.length:=by omega
     rw[aD (hM (by simp only[len]; omega))] at hN;rw[e,aY1];exact⟨_,_,hN⟩
   rw[if_neg c3];rw[aC (decide_eq_false c3)] at hN
   have hbt:=aJV hs (by simp)
   cases hq:AP (b::t) with
   |none =>
    have:=hbt.2 hq
    refine⟨(0,[],[],[]),0,aZ3 hN ?_⟩;show bnd (q79 fuelH (b::t)) _=_;rw[this];rfl
   |some p =>
    obtain⟨tk,r⟩:=p
    have:=hbt.1 _ _ hq
    refine aZ3 hN ?_;show bnd (q79 fuelH (b::t)) _=_;rw[this];rfl
  ·rw[if_neg hb];rw[aD (cP (fun q=>hb (fL q)))] at hN;generalize b::t=s at *
   have hi:q73 (nB+4995+5) (s,(60:UInt8))=some (Lib.indexByte s 60):=rfl
   have htl:=kT (P:=gM) s
   have htk:=BN gM s
   have hx:Lib.indexByte s 60=if(s.takeWhile gM).length=s.length then -1 else((s.takeWhile gM).length:Int):=ixb 60 s
   rw[hi,aB,hx] at hN;show eP fuelH s=_;rw[aYV]
   by_cases e:(s.takeWhile gM).length=s.length
   ·rw[if_pos e,aD (by rfl),aG (nA (by simp only[len]; omega))] at hN;rw[hN]
    have e1:bO (toN (len s)) s=s.takeWhile gM:=by
     simp only[bO,toN,len,aYP];rw[←e,htk]
    have e2:len s=((s.length-(s.length-(s.takeWhile gM).length):Nat):Int):=by simp only[len]; omega
    rw[e1,←e2]
   ·rw[if_neg e,aC (aX (by omega)),aG (nA (by simp only[len]; omega))] at hN;rw[hN]
    have e1:bO (toN ((s.takeWhile gM).length:Int)) s=s.takeWhile gM:=by
     simp only[bO,toN,aYP];exact htk
    have e2:s.length-(s.length-(s.takeWhile gM).length)=(s.takeWhile gM).length:=by omega
    rw[e1,e2]
theorem lT{s r:Ls}{t:Tok}(h:jB s=some (t,r)):r.length<s.length:=by
 match s with
 | []=>cases h
 |b::u =>
  rw[eX] at h
  have note:∀head tail:Ls,1≤head.length→kX (b::u) head tail=some (t,r)→r.length<(b::u).length:=fun head tail h1 h=>by
   unfold kX at h
   split at h
   ·cases h
   ·injection h with h;injection h with _ h;rw[←h,aYV];simp;omega
  split at h
  ·split at h
   ·exact note _ _ (by decide) h
   split at h
   ·exact note _ _ (by decide) h
   split at h
   ·unfold OY at h
    split at h
    ·cases h
    have h1:=iC (((b::u).drop 2).drop (dI ((b::u).drop 2)).length)
    split at h
    ·cases h
    ·rename_i c q hq;rw[hq,aYV,aYV,aYR] at h1
     split at h
     ·injection h with h;injection h with _ h;rw[←h];omega
     ·cases h
   ·unfold AP at h
    split at h
    ·cases h
    split at h
    ·cases h
    ·rename_i k l q hq;injection h with h;injection h with _ h
     have:=(rP _ _ _ hq).1
     rw[aYV,aYV] at this;rw[←h];omega
  ·rename_i hb;injection h with h;injection h with _ h;rw[←h,aYV,aX9,if_pos (by simpa [gM] using hb)];simp;omega
def pO(s:Ls):Int:=(s.length:Int)-1-((s.reverse.takeWhile fun b=>b != 10).length:Int)
def atP(s:Ls) (i:Nat) (e:Int):List (Int×Int×Int):=[(1+(((s.take i).count 10:Nat):Int),(i:Int)-pO (s.take i),e)]
theorem AA{s:Ls}(hs:s.length≤4000000):∀(fuel k:Nat),k<fuel→k≤s.length →
  bG (fun v2 (v3:Int) =>
  cnd (ile (0:Int) v3)
   (grd (inb v3 (len s))
    (cnd (ieq (n8 (aA s (toN v3) (0:UInt8))) (n8 (10:UInt8)))
     (some v3)
     (v2 (w64 (aJ v3 (1:Int))))))
   (some (-1:Int))) fuel ((k:Int)-1)=some (pO (s.take k))
 | 0,k,h,_=>by omega
 |fuel+1,k,h,hk=>by
  rw[gT]
  cases k with
  |zero =>
   rw[aC (kH (by omega))];rfl
  |succ k =>
   have e0:((k+1:Nat):Int)-1=(k:Int):=by omega
   have hkl:k<s.length:=by omega
   rw[e0,aD (hM (by omega)),aG (aZ (by simp only[len]; omega)),bB hkl]
   have hr:(s.take (k+1)).reverse=s[k]::(s.take k).reverse:=by
    rw[aWY hkl,List.reverse_append];rfl
   have hl:(s.take (k+1)).length=k+1:=by rw[aYU]; omega
   have hl2:(s.take k).length=k:=by rw[aYU]; omega
   unfold pO;rw[hr,hl,aX9]
   by_cases e:s[k]=10
   ·rw[aD (dN (by rw[e])),if_neg (by simp[e])];congr 1;simp
   ·have e1:w64 (aJ (k:Int) 1)=(k:Int)-1:=by
     simp only[aJ];rw[bU (by omega)]
    rw[aC (dF (fun q=>e (fL q))),e1,AA hs fuel k (by omega) (by omega),if_pos (by simp[e])];unfold pO;rw[hl2,aYR];congr 1;omega
theorem aGN(s:Ls):-1≤pO s∧pO s<(s.length:Int):=by
 unfold pO
 have:=(List.takeWhile_prefix (p:=fun b:UInt8=>b != 10) (l:=s.reverse)).length_le
 rw[List.length_reverse] at this;omega
theorem X4{s:Ls}(hs:s.length≤3999999){i:Nat}(hi:i≤s.length) (e:Int):kO fuelH (s,(i:Int),e)=some (atP s i e):=by
 have hin:in2 (i:Int) (len s)=true:=nA (by simp only[len]; omega)
 have ht:bO (toN (i:Int)) s=s.take i:=by simp[bO,toN]
 have hl:(s.take i).length=i:=by rw[aYU]; omega
 have hc:q67 fuelH (s.take i,([10]:Y_))=some (((s.take i).count 10:Nat):Int):=rfl
 have hlast:q71 fuelH (s.take i,([10]:Y_))=some (pO (s.take i)):=by
  have h1:q71 fuelH (s.take i,([10]:Y_))=bnd (q68 fuelH (s.take i,10)) fun v0=>some v0:=rfl
  rw[h1];unfold q68;dsimp only;rw[bX]
  have e0:w64 (aJ (len (s.take i)) 1)=(((s.take i).length:Nat):Int)-1:=by
   simp only[aJ,len];rw[bU (by omega)]
  rw[e0,AA (s:=s.take i) (by omega) fuelH _ (by have:=bI; omega) (aZ0 _),aB,aYY]
 have hcl:=List.count_le_length (a:=(10:UInt8)) (l:=s.take i)
 have hln:=aGN (s.take i)
 unfold kO atP;dsimp only;rw[aG hin,ht,hc,aB,aG hin,hlast,aB];simp only[aE,aJ];rw[bU (by omega),bU (by omega)]
theorem OZ:∀(n:Nat) (l a:Ls),l.length≤n→(un a l).1.length≤a.length+4*l.length
 | 0,l,a,h=>by
  have:l=[]:=aWZ (by omega)
  subst this;rw[EZ];simp
 |n+1,[],a,_=>by rw[EZ]; simp
 |n+1,b::l,a,h=>by
  rw[aYR] at h;rw[wK]
  split
  ·simp
  split
  ·split
   ·simp
   ·rename_i h60 h38 he
    have he:(kS l).2.2=0:=by simpa using he
    have ho:=OP he
    have hle:(kS l).1.length≤4:=by rw[ho.2.2.1]; exact UT _
    have:=OZ n (l.drop ((l.takeWhile bD).length+1)) (a++(kS l).1) (by rw[aYV]; omega)
    rw[aYA,aYV] at this;rw[aYR];omega
  ·have:=OZ n l (a++[b]) (by omega)
   rw[aYA,aYR,aY9] at this;rw[aYR];omega
def bT(s:Ls):Ls×Int:=if(un [] (s.map flatB)).2≠0 then([],(un [] (s.map flatB)).2) else if vld (un [] (s.map flatB)).1=false then([],10) else((un [] (s.map flatB)).1,0)
theorem sO(s:Ls):(bT s).1.length≤4*s.length:=by
 have:=OZ _ (s.map flatB) [] (aZ0 _)
 rw[aZC,aY9] at this;unfold bT
 split
 ·simp
 split
 ·simp
 ·show(un [] (s.map flatB)).1.length≤_;omega
theorem X5{s:Ls}(hs:s.length≤900000):q84 fuelH s=some (bT s):=by
 have hu:=OZ _ (s.map flatB) [] (aZ0 _)
 have hml:(s.map flatB).length=s.length:=aZC _
 rw[hml,aY9] at hu;unfold q84 rB nI;rw[aG (decide_eq_true (by omega)),aB,aV1 (by omega),aB];unfold bT
 by_cases h:(un [] (s.map flatB)).2=0
 ·rw[aC (cQ h),if_neg (by simpa using h),kI _ (by omega),aB];cases hv:vld (un [] (s.map flatB)).1<;>rfl
 ·rw[aD (cP h),if_pos (by simpa using h)]
abbrev Ps:=List Nd×List Ls×Bool
def gN(p:Ps) (text:Bool):Int:=if p.2.1=[]∧(text=true∨p.1≠[]) then 8 else if 15<p.2.1.length then 9 else if 8192≤p.1.length∧¬(text=true∧p.2.2=true) then 9 else 0
theorem X6(N:Nat) (p:Ps) (text:Bool):q85 N (p,text)=some (gN p text,p):=by
 obtain⟨nodes,stack,joined⟩:=p;unfold q85 gN;dsimp only;rw[bX]
 have tail:∀b:Bool,b=false→(cnd b (some ((8:Int),(nodes,stack,joined)))
   (cnd (ilt (15:Int) (len stack))
    (some ((9:Int),(nodes,stack,joined)))
    (cnd (ile (8192:Int) (len nodes))
     (cnd text
      (cnd (bP joined)
       (some ((9:Int),(nodes,stack,joined)))
       (some ((0:Int),(nodes,stack,joined))))
      (cnd (bP false)
       (some ((9:Int),(nodes,stack,joined)))
       (some ((0:Int),(nodes,stack,joined)))))
     (some ((0:Int),(nodes,stack,joined))))))=some (if 15<stack.length then 9 else if 8192≤nodes.length∧¬(text=true∧joined=true) then 9 else 0,nodes,stack,joined):=by
  intro b hb;subst hb;rw[aC (by rfl)]
  by_cases h1:15<stack.length
  ·rw[aD (aW (by simp only[len]; omega)),if_pos h1]
  rw[aC (aX (by simp only[len]; omega)),if_neg h1]
  by_cases h2:8192≤nodes.length
  ·rw[aD (hM (by simp only[len]; omega))]
   cases text with
   |true =>
    cases joined with
    |true=>rw[if_neg (by simp)]; rfl
    |false=>rw[if_pos ⟨h2,by simp⟩]; rfl
   |false=>rw[if_pos ⟨h2,by simp⟩]; rfl
  ·rw[aC (kH (by simp only[len]; omega)),if_neg (fun k=>h2 k.1)]
 by_cases h0:stack=[]
 ·subst h0;rw[aD (by rfl)]
  cases text with
  |true =>
   rw[aD (by rfl),if_pos ⟨rfl,.inl rfl⟩];rfl
  |false =>
   rw[aC (by rfl)]
   by_cases h1:nodes=[]
   ·subst h1;rw[if_neg (by simp)];exact tail _ rfl
   ·have:ilt 0 (len nodes)=true:=aW (by
     have:0<nodes.length:=aX8.2 h1
     simp only[len]; omega)
    rw[this,if_pos ⟨rfl,.inr h1⟩];rfl
 ·have:ieq (len stack) 0=false:=dF (by
   have:0<stack.length:=aX8.2 h0
   simp only[len]; omega)
  rw[this,aC (by rfl),if_neg (fun k=>h0 k.1)];exact tail _ rfl
def X7(s:Ls):Bool:=s.all wsB
def nlB(s:Ls):Bool:=decide ((s.takeWhile fun b=>b != 10).length≠s.length)
theorem N8{P:UInt8→Bool}(s:Ls):s.dropWhile P=[]↔s.all P=true:=by
 induction s with
 |nil=>simp
 |cons b s ih =>
  rw[List.dropWhile_cons,aZP]
  by_cases h:P b=true
  ·rw[if_pos h,ih,h,aZO]
  ·rw[if_neg h]
   have h:P b=false:=by simpa using h
   rw[h];simp
theorem aO2(b:UInt8):([9,10,13,32]:Ls).contains b=wsB b:=by
 unfold wsB;simp only[List.contains,List.elem];cases (b==9)<;>cases (b==10)<;>cases (b==13)<;>cases (b==32)<;>rfl
theorem FE(s:Ls):Lib.trimS s [9,10,13,32]=[]↔X7 s=true:=by
 have hf:(fun b:UInt8=>([9,10,13,32]:Ls).contains b)=wsB:=by funext b; exact aO2 b
 unfold Lib.trimS Lib.trimLeftS Lib.trimRightS X7;rw[hf,N8,List.all_reverse];constructor
 ·intro h;rw[aY0] at h ⊢;intro x hx
  by_cases e:s.reverse.dropWhile wsB=[]
  ·rw[N8,List.all_reverse] at e;exact aY0.1 e x hx
  ·obtain⟨y,hy⟩:=List.exists_mem_of_ne_nil _ e;exfalso
   have h1:∀l:Ls,(∀z∈l.dropWhile wsB,wsB z=true)→l.dropWhile wsB=[]:=fun l=>by
    induction l with
    |nil=>intro _; rfl
    |cons b l ih =>
     intro hz;rw[List.dropWhile_cons] at hz ⊢
     by_cases hb:wsB b=true
     ·rw[if_pos hb] at hz ⊢;exact ih hz
     ·rw[if_neg hb] at hz;exact absurd (hz b aYE) hb
   exact e (h1 _ h)
 ·intro h
  have:s.reverse.dropWhile wsB=[]:=(N8 _).2 (by rw[List.all_reverse]; exact h)
  rw[this];rfl
theorem VC(s:Ls):Lib.contains s [10]=nlB s:=by
 unfold Lib.contains nlB;rw[Lib.index_one,ixb]
 have:=kT (P:=fun b=>b != 10) s
 by_cases h:(s.takeWhile fun b=>b != 10).length=s.length
 ·rw[if_pos h]; simp[h]
 ·rw[if_neg h]; simp[h]
def mQ(l:List Nd) (t:Ls):List Nd:=match l.getLast? with
 |none=>l
 |some n=>l.dropLast++[(n.1,n.2.1++t,n.2.2)]
def JC(p:Ps) (s:Ls):Int×Ps :=
 if X7 s=true∧(nlB s=true∨p.2.1=[]) then(0,p) else if(bT s).2≠0 then((bT s).2,p) else if gN p true≠0 then(gN p true,p)
 else if p.2.2=true then(0,mQ p.1 (bT s).1,p.2.1,p.2.2) else(0,p.1++[([],(bT s).1,[],(p.2.1.length:Int))],p.2.1,true)
theorem lH{α:Type}{l:List α}(h:l≠[]):∃n,l.getLast?=some n∧l=l.dropLast++[n]∧∃hl:l.length-1<l.length,l[l.length-1]=n:=by
 rcases List.eq_nil_or_concat l with e|⟨m,n,rfl⟩
 ·exact absurd e h
 ·refine⟨n,by simp,by simp,by simp,by simp⟩
theorem aGO{α:Type}{l:List α}(h:l≠[]) (y:α):l.set (l.length-1) y=l.dropLast++[y]:=by
 obtain⟨n,_,h2,_⟩:=lH h
 have hl:l.length-1=l.dropLast.length:=by rw[aXX]
 conv=>lhs; rw[hl,h2]
 rw[List.dropLast_concat,aXQ _ _ (aZ0 _),aZX];rfl
theorem aGP{p:Ps}{s:Ls}(hs:s.length≤300000) (hj:p.2.2=true→p.1≠[]) (hn:p.1.length≤300000) (ht:∀n∈p.1,n.2.1.length≤4000000):q86 fuelH (p,s)=some (JC p s):=by
 have hml:=sO s
 unfold q86 JC;dsimp only;rw[bX]
 have ht1:gI fuelH (s,([9,10,13,32]:Y_))=some (Lib.trimS s [9,10,13,32]):=by
  unfold gI iX;rw[aG (decide_eq_true (by show s.length<_; omega)),aG (by rfl),aG (by rfl)]
 have hc1:strings_Contains fuelH (s,([10]:Y_))=some (nlB s):=by
  unfold strings_Contains fI;rw[aG (decide_eq_true (by show s.length<_; omega)),VC]
 rw[ht1,aB,hc1,aB]
 have rest:(bnd (q84 fuelH s) fun v1 =>
  cnd (ine v1.2 (0:Int))
   (some (v1.2,p))
   (bnd (q85 fuelH (p,true)) fun v2 =>
   cnd (ine v2.1 (0:Int))
    (some v2)
    (cnd v2.2.2.2
     (grd (inb (w64 (aJ (len v2.2.1) (1:Int))) (len v2.2.1))
      (grd (eD (aE (len (aA v2.2.1 (toN (w64 (aJ (len v2.2.1) (1:Int)))) zN).2.1) (len v1.1)))
       (grd (inb (w64 (aJ (len v2.2.1) (1:Int))) (len v2.2.1))
        (some ((0:Int),xC v2.2.1 (toN (w64 (aJ (len v2.2.1) (1:Int)))) ((aA v2.2.1 (toN (w64 (aJ (len v2.2.1) (1:Int)))) zN).1,bH (aA v2.2.1 (toN (w64 (aJ (len v2.2.1) (1:Int)))) zN).2.1 v1.1,(aA v2.2.1 (toN (w64 (aJ (len v2.2.1) (1:Int)))) zN).2.2),v2.2.2)))))
     (grd (dV (aE (len v2.2.1) (len ([(([]:Y_),v1.1,([]:List (Y_×Y_)),len v2.2.2.1)]:List (Y_×Y_×(List (Y_×Y_))×Int)))) 64)
      (some ((0:Int),bH v2.2.1 ([(([]:Y_),v1.1,([]:List (Y_×Y_)),len v2.2.2.1)]:List (Y_×Y_×(List (Y_×Y_))×Int)),v2.2.2.1,true)))))) =
   some (if(bT s).2≠0 then((bT s).2,p) else if gN p true≠0 then(gN p true,p)
 else if p.2.2=true then(0,mQ p.1 (bT s).1,p.2.1,p.2.2) else(0,p.1++[([],(bT s).1,[],(p.2.1.length:Int))],p.2.1,true)):=by
  rw[X5 (by omega),aB,X6,aB];dsimp only
  by_cases h1:(bT s).2=0
  ·rw[aC (cQ h1),if_neg (fun k=>k h1)]
   by_cases h2:gN p true=0
   ·rw[aC (cQ h2),if_neg (fun k=>k h2)]
    by_cases h3:p.2.2=true
    ·have hne:=hj h3
     obtain⟨n,q1,q2,q3,q4⟩:=lH hne
     have hp:0<p.1.length:=aX8.2 hne
     have hw:w64 (aJ (len p.1) 1)=((p.1.length-1:Nat):Int):=rH hp (by omega)
     have hg:aA p.1 (toN ((p.1.length-1:Nat):Int)) zN=n:=by rw[wL q3,q4]
     have htn:=ht n (by rw[q2]; simp)
     rw[aD h3,if_pos h3,hw,hg,aG (aZ (by simp only[len]; omega)),aG (iB (by simp only[len,aE]; omega)),aG (aZ (by simp only[len]; omega))];unfold mQ;rw[q1];dsimp only
     have:xC p.1 (toN ((p.1.length-1:Nat):Int)) (n.1,bH n.2.1 (bT s).1,n.2.2)=p.1.dropLast++[(n.1,n.2.1++(bT s).1,n.2.2)]:=by
      unfold xC;rw[show toN ((p.1.length-1:Nat):Int)=p.1.length-1 by simp[toN]];exact aGO hne _
     rw[this]
    ·rw[aC (by simpa using h3),if_neg h3,aG (eQ (by simp only[len,aE,aYR,aY9]; omega))];rfl
   ·rw[aD (cP h2),if_pos h2]
  ·rw[aD (cP h1),if_pos h1]
 by_cases hb:X7 s=true
 ·rw[aD (by rw[cJ]; exact(FE s).2 hb)]
  by_cases hn2:nlB s=true
  ·rw[aD hn2,if_pos ⟨hb,.inl hn2⟩]
  ·rw[aC (by simpa using hn2)]
   by_cases ho:p.2.1=[]
   ·rw[aD (by rw[ho]; rfl),if_pos ⟨hb,.inr ho⟩]
   ·rw[aC (dF (by have:=aX8.2 ho; simp only[len]; omega)),if_neg (fun k=>by rcases k.2 with k|k; exact hn2 k; exact ho k)];exact rest
 ·rw[aC (by rw[cC]; simpa using fun k=>hb ((FE s).1 k)),if_neg (fun k=>hb k.1)];exact rest
def aCD(p:Ps) (name:Ls):Int×Ps:=if nmX name=false then(5,p) else if p.2.1.getLast?=some name then(0,p.1,p.2.1.dropLast,false) else(8,p)
theorem aO3{p:Ps}{t:Tok}(ho:p.2.1.length≤300000):q87 fuelH (p,t)=some (aCD p t.2.1):=by
 unfold q87 aCD;dsimp only;rw[BO,aB]
 by_cases h1:nmX t.2.1=true
 ·rw[h1,aC (by rfl),if_neg (by decide)]
  by_cases h2:p.2.1=[]
  ·rw[h2,aD (by rfl),if_neg (by simp)]
  ·obtain⟨n,q1,q2,q3,q4⟩:=lH h2
   have hp:0<p.2.1.length:=aX8.2 h2
   have hw:w64 (aJ (len p.2.1) 1)=((p.2.1.length-1:Nat):Int):=rH hp (by omega)
   have hg:aA p.2.1 (toN ((p.2.1.length-1:Nat):Int)) []=n:=by rw[bB q3,q4]
   rw[aC (dF (by simp only[len]; omega)),hw,aG (aZ (by simp only[len]; omega)),hg,q1]
   by_cases h3:n=t.2.1
   ·rw[aC (by unfold sne; simpa using h3),if_pos (by rw[h3]),aG (nA (by simp only[ofN,kN]; omega))]
    have:gO p.2.1 0 (toN ((p.2.1.length-1:Nat):Int))=p.2.1.dropLast:=by
     simp only[gO,toN,aYP,aZG];rw[List.dropLast_eq_take]
    rw[this]
   ·rw[aD (by unfold sne; simpa using h3),if_neg (fun k=>h3 (by injection k))]
 ·have h1:nmX t.2.1=false:=by simpa using h1
  rw[h1,aD (by rfl),if_pos rfl]
def atM:List Ls→List At→List At→Int×List At
 |_,out,[]=>(0,out)
 |seen,out,a::r=>if a.1∈seen then(7,[]) else if(bT a.2).2≠0 then((bT a.2).2,[]) else atM (seen++[a.1]) (out++[(a.1,(bT a.2).1)]) r
def yU(p:Ps) (t:Tok):Int×Ps :=
 if(t.2.1::t.2.2.1.map Prod.fst).all nmX=false then(5,p) else if 16<t.2.2.1.length then(9,p) else if(atM [] [] t.2.2.1).1≠0 then((atM [] [] t.2.2.1).1,p) else if gN p false≠0 then(gN p false,p)
 else(0,p.1++[(t.2.1,[],(atM [] [] t.2.2.1).2,(p.2.1.length:Int))],if t.1=1 then p.2.1++[t.2.1] else p.2.1,false)
theorem N9{R:Type}{l:List At}(hl:l.length≤300000) (n0:Ls) (K:List Ls×Int→Option R) :
  bG (fun v19 (v20:(List Y_)×Int) =>
  cnd (ilt v20.2 (len l))
   (grd (inb v20.2 (len l))
    (grd (dV (aE (len v20.1) (len ([(aA l (toN v20.2) ([],[])).1]:List Y_))) 16)
     (v19 (bH v20.1 ([(aA l (toN v20.2) ([],[])).1]:List Y_),w64 (aE v20.2 (1:Int))))))
   (K v20)) fuelH (([n0]:List Y_),(0:Int))=K (n0::l.map Prod.fst,(l.length:Int)):=by
 have h:=cX (s:=l) (fun (a:List Ls) (j:Nat)=>(a,(j:Int))) (fun a r=>K (a++r.map Prod.fst,(l.length:Int))) (fun j a=>a.length≤j+1)
  (F:=fun v19 (v20:(List Y_)×Int) =>
  cnd (ilt v20.2 (len l))
   (grd (inb v20.2 (len l))
    (grd (dV (aE (len v20.1) (len ([(aA l (toN v20.2) ([],[])).1]:List Y_))) 16)
     (v19 (bH v20.1 ([(aA l (toN v20.2) ([],[])).1]:List Y_),w64 (aE v20.2 (1:Int))))))
   (K v20)) ?_ fuelH 0 [n0] (cY (by omega) _) (aZ1 _) (by simp)
 ·exact h
 ·intro self a j hj hI hself;dsimp only
  by_cases hjl:j<l.length
  ·have hw:w64 (aE (j:Int) 1)=((j+1:Nat):Int):=aS hjl (by omega)
   rw[aD (aW (by simp only[len]; omega)),aG (aZ (by simp only[len]; omega)),bB hjl,aG (eQ (by simp only[len,aE,aYR,aY9]; omega)),hw,aW8 hjl];refine aZ3 (hself (a++[(l[j]).1]) (j+1) (by omega) (by omega) (by simp; omega)) ?_;rw[aZM,aYK];rfl
  ·obtain rfl:j=l.length:=by omega
   rw[aC (aX (by simp only[len]; omega)),aY1];simp
theorem aGQ{R:Type}{l:List Ls}(hl:l.length≤400000) (bad:Option R) (K:Option R) :
  bG (fun v15 (v16:Int) =>
   cnd (ilt v16 (len l))
    (grd (inb v16 (len l))
     (bnd (dZ fuelH (aA l (toN v16) [])) fun v17 =>
     cnd (bP v17)
      bad
      (v15 (w64 (aE v16 (1:Int))))))
    K) fuelH (0:Int)=if l.all nmX=false then bad else K:=by
 have h:=cX (s:=l) (fun (_:Unit) (j:Nat)=>(j:Int)) (fun _ r=>if r.all nmX=false then bad else K) (fun _ _=>True)
  (F:=fun v15 (v16:Int) =>
   cnd (ilt v16 (len l))
    (grd (inb v16 (len l))
     (bnd (dZ fuelH (aA l (toN v16) [])) fun v17 =>
     cnd (bP v17)
      bad
      (v15 (w64 (aE v16 (1:Int))))))
    K) ?_ fuelH 0 () (cY (by omega) _) (aZ1 _) trivial
 ·exact h
 ·intro self a j hj _ hself
  by_cases hjl:j<l.length
  ·have hw:w64 (aE (j:Int) 1)=((j+1:Nat):Int):=aS hjl (by omega)
   rw[aD (aW (by simp only[len]; omega)),aG (aZ (by simp only[len]; omega)),bB hjl,BO,aB,hw,aW8 hjl,aZP]
   by_cases e:nmX l[j]=true
   ·rw[e,aC (by rfl),aZO];exact hself () (j+1) (by omega) (by omega) trivial
   ·have e:nmX l[j]=false:=by simpa using e
    rw[e,aD (by rfl),aZJ,if_pos rfl]
  ·obtain rfl:j=l.length:=by omega
   rw[aC (aX (by simp only[len]; omega)),aY1];rfl
theorem aGR{R:Type}{l:List At}(hl:l.length≤400000) (name:Ls) (bad:Option R) (K:Option R) :
  bG (fun v12 (v13:Int) =>
       cnd (ilt v13 (len l))
        (grd (inb v13 (len l))
         (cnd (seq (aA l (toN v13) ([],[])).1 name)
          bad
          (v12 (w64 (aE v13 (1:Int))))))
        K) fuelH (0:Int)=if name∈l.map Prod.fst then bad else K:=by
 have h:=cX (s:=l) (fun (_:Unit) (j:Nat)=>(j:Int)) (fun _ r=>if name∈r.map Prod.fst then bad else K) (fun _ _=>True)
  (F:=fun v12 (v13:Int) =>
       cnd (ilt v13 (len l))
        (grd (inb v13 (len l))
         (cnd (seq (aA l (toN v13) ([],[])).1 name)
          bad
          (v12 (w64 (aE v13 (1:Int))))))
        K) ?_ fuelH 0 () (cY (by omega) _) (aZ1 _) trivial
 ·exact h
 ·intro self a j hj _ hself
  by_cases hjl:j<l.length
  ·have hw:w64 (aE (j:Int) 1)=((j+1:Nat):Int):=aS hjl (by omega)
   rw[aD (aW (by simp only[len]; omega)),aG (aZ (by simp only[len]; omega)),bB hjl,hw,aW8 hjl,aZM]
   by_cases e:(l[j]).1=name
   ·rw[aD (by rw[cJ]; exact e),if_pos (by rw[e]; exact aYE)]
   ·rw[aC (by rw[cC]; simpa using e)];refine aZ3 (hself () (j+1) (by omega) (by omega) trivial) ?_
    have:(name∈(l[j]).1::(l.drop (j+1)).map Prod.fst)↔(name∈(l.drop (j+1)).map Prod.fst):=by
     rw[aZL];exact⟨fun k=>k.resolve_left (fun q=>e q.symm),.inr⟩
    simp only[this]
  ·obtain rfl:j=l.length:=by omega
   rw[aC (aX (by simp only[len]; omega)),aY1];rfl
theorem vQ{p:Ps}{t:Tok}(hl:t.2.2.1.length≤300000) (hv:∀a∈t.2.2.1,a.2.length≤900000) (hp:p.1.length≤300000) (ho:p.2.1.length≤300000):q88 fuelH (p,t)=some (yU p t):=by
 unfold q88 yU;dsimp only;rw[bX];refine aZ3 (N9 hl t.2.1 _) ?_;dsimp only;rw[bX];refine aZ3 (aGQ (by simp; omega) _ _) ?_
 by_cases h1:(t.2.1::t.2.2.1.map Prod.fst).all nmX=false
 ·rw[if_pos h1,if_pos h1]
 rw[if_neg h1,if_neg h1]
 by_cases h2:16<t.2.2.1.length
 ·rw[aD (aW (by simp only[len]; omega)),if_pos h2]
 rw[aC (aX (by simp only[len]; omega)),if_neg h2,bX];generalize hal:t.2.2.1=l at *
 have h:=cX (s:=l) (fun (out:List At) (j:Nat)=>((j:Int),(t.2.1,(([]:Y_),(out,len p.2.1)))))
  (fun out r=>some (if(atM ((l.take (l.length-r.length)).map Prod.fst) out r).1≠0 then((atM ((l.take (l.length-r.length)).map Prod.fst) out r).1,p) else if gN p false≠0 then(gN p false,p)
   else(0,p.1++[(t.2.1,[],(atM ((l.take (l.length-r.length)).map Prod.fst) out r).2,(p.2.1.length:Int))],if t.1=1 then p.2.1++[t.2.1] else p.2.1,false))) (fun j out=>out.length≤j)
  (F:=fun v5 (v6:Int×Y_×Y_×(List (Y_×Y_))×Int) =>
     cnd (ilt v6.1 (len l))
      (jn (fun (v7:Y_×Y_×(List (Y_×Y_))×Int) =>
       v5 (w64 (aE v6.1 (1:Int)),v7))
      fun v8 =>
      grd (inb v6.1 (len l)) <|
      jn (fun (v9:Unit) =>
       bnd (q84 fuelH (aA l (toN v6.1) ([],[])).2) fun v10 =>
       cnd (ine v10.2 (0:Int))
        (some (v10.2,p))
        (grd (dV (aE (len v6.2.2.2.1) (len ([((aA l (toN v6.1) ([],[])).1,v10.1)]:List (Y_×Y_)))) 32)
         (v8 (v6.2.1,v6.2.2.1,bH v6.2.2.2.1 ([((aA l (toN v6.1) ([],[])).1,v10.1)]:List (Y_×Y_)),v6.2.2.2.2))))
      fun v11 =>
      grd (in2 v6.1 (len l)) <|
      bG (fun v12 (v13:Int) =>
       cnd (ilt v13 (len (bO (toN v6.1) l)))
        (grd (inb v13 (len (bO (toN v6.1) l)))
         (cnd (seq (aA (bO (toN v6.1) l) (toN v13) ([],[])).1 (aA l (toN v6.1) ([],[])).1)
          (some ((7:Int),p))
          (v12 (w64 (aE v13 (1:Int))))))
        (v11 ())) fuelH (0:Int))
      ((fun (v2:Y_×Y_×(List (Y_×Y_))×Int) =>
     bnd (q85 fuelH (p,false)) fun v3 =>
     cnd (ine v3.1 (0:Int))
      (some v3)
      (grd (dV (aE (len v3.2.1) (len ([v2]:List (Y_×Y_×(List (Y_×Y_))×Int)))) 64)
       (cnd (ieq t.1 (1:Int))
        (grd (dV (aE (len v3.2.2.1) (len ([t.2.1]:List Y_))) 16)
         (some ((0:Int),bH v3.2.1 ([v2]:List (Y_×Y_×(List (Y_×Y_))×Int)),bH v3.2.2.1 ([t.2.1]:List Y_),false)))
        (some ((0:Int),bH v3.2.1 ([v2]:List (Y_×Y_×(List (Y_×Y_))×Int)),v3.2.2.1,false))))) v6.2)) ?_ fuelH 0 [] (cY (by omega) _) (aZ1 _) (aZ1 _)
 ·refine aZ3 h ?_;rw[aZG,aZX];rfl
 ·intro self out j hj hI hself;dsimp only
  by_cases hjl:j<l.length
  ·have hw:w64 (aE (j:Int) 1)=((j+1:Nat):Int):=aS hjl (by omega)
   have hva:=hv _ (aY2 hjl)
   have hin:inb (j:Int) (len l)=true:=aZ (by simp only[len]; omega)
   have htk:bO (toN (j:Int)) l=l.take j:=by simp[bO,toN]
   rw[aD (aW (by simp only[len]; omega)),bX,aG hin,bX,aG (nA (by simp only[len]; omega)),htk,bB hjl];refine aZ3 (aGR (by rw[aYU]; omega) _ _ _) ?_
   have hrl:l.length-(l.drop j).length=j:=by rw[aYV]; omega
   have hrl2:l.length-(l.drop (j+1)).length=j+1:=by rw[aYV]; omega
   rw[hrl,aW8 hjl]
   have hat:atM ((l.take j).map Prod.fst) out (l[j]::l.drop (j+1))=if(l[j]).1∈(l.take j).map Prod.fst then(7,[]) else if(bT (l[j]).2).2≠0 then((bT (l[j]).2).2,[]) else atM ((l.take j).map Prod.fst++[(l[j]).1]) (out++[((l[j]).1,(bT (l[j]).2).1)]) (l.drop (j+1)):=rfl
   rw[hat]
   by_cases h3:(l[j]).1∈(l.take j).map Prod.fst
   ·rw[if_pos h3,if_pos h3];rfl
   rw[if_neg h3,if_neg h3,X5 (by omega),aB]
   by_cases h4:(bT (l[j]).2).2=0
   ·rw[aC (cQ h4),if_neg (show ¬(bT (l[j]).2).2≠0 from fun k=>k h4),aG (eQ (by simp only[len,aE,aYR,aY9]; omega)),hw]
    have hseen:(l.take j).map Prod.fst++[(l[j]).1]=(l.take (j+1)).map Prod.fst:=by
     rw[aWY hjl,aZD];rfl
    rw[hseen];refine aZ3 (hself (out++[((l[j]).1,(bT (l[j]).2).1)]) (j+1) (by omega) (by omega) (by simp; omega)) ?_;rw[hrl2]
   ·rw[aD (cP h4),if_pos h4];dsimp only;rw[if_pos h4]
  ·obtain rfl:j=l.length:=by omega
   rw[aC (aX (by simp only[len]; omega)),aY1,aY9,Nat.sub_zero,X6,aB]
   have hat:∀seen out,atM seen out []=(0,out):=fun _ _=>rfl
   rw[hat];dsimp only;rw[if_neg (show ¬(0:Int)≠0 by simp)]
   by_cases h5:gN p false=0
   ·rw[aC (cQ h5),if_neg (fun k=>k h5),aG (eQ (by simp only[len,aE,aYR,aY9]; omega))]
    by_cases h6:t.1=1
    ·rw[aD (dN h6),if_pos h6,aG (eQ (by simp only[len,aE,aYR,aY9]; omega))];rfl
    ·rw[aC (dF h6),if_neg h6];rfl
   ·rw[aD (cP h5),if_pos h5]
def gA(p:Ps) (t:Tok) (first:Bool):Int×Ps:=if t.1=0 then JC p t.2.2.2 else if t.1=2 then aCD p t.2.1 else if t.1=4 then(if t.2.2.2=[60,63]∧first=false then(4,p) else(0,p)) else yU p t
theorem aJX{p:Ps}{t:Tok}(first:Bool) (hx:t.2.2.2.length≤300000) (hl:t.2.2.1.length≤300000) (hv:∀a∈t.2.2.1,a.2.length≤900000) (hp:p.1.length≤300000) (ho:p.2.1.length≤300000) (hj:p.2.2=true→p.1≠[]) (ht:∀n∈p.1,n.2.1.length≤4000000):q89 fuelH (p,t,first)=some (gA p t first):=by
 unfold q89 gA;dsimp only
 by_cases h0:t.1=0
 ·rw[aD (dN h0),if_pos h0,aGP hx hj hp ht];rfl
 rw[aC (dF h0),if_neg h0]
 by_cases h2:t.1=2
 ·rw[aD (dN h2),if_pos h2,aO3 ho];rfl
 rw[aC (dF h2),if_neg h2]
 by_cases h4:t.1=4
 ·rw[aD (dN h4),if_pos h4]
  by_cases h5:t.2.2.2=[60,63]
  ·rw[aD (by rw[cJ]; exact h5)]
   cases first with
   |true=>rw[if_neg (by simp)]; rfl
   |false=>rw[if_pos ⟨h5,rfl⟩]; rfl
  ·rw[aC (by rw[cC]; simpa using h5),if_neg (fun k=>h5 k.1)]
 ·rw[aC (dF h4),if_neg h4,vQ hl hv hp ho];rfl
theorem aCE{t r:Ls}{a:Aq}(h:gL t=some (a,r)):a.2.length≤t.length:=by
 unfold gL at h
 split at h
 ·cases h
 split at h
 ·cases h
 rename_i b r2 h2
 split at h
 ·split at h
  ·cases h
  rename_i q r4 h4
  split at h
  ·split at h
   ·rename_i v r5 h5;injection h with h;injection h with h _;subst h
    have e1:=FC h5
    have e2:=iC r2
    have e3:=iC (t.drop (dI t).length)
    rw[h4,aYR] at e2;rw[h2,aYR,aYV] at e3;show v.length≤_;omega
   ·cases h
  ·cases h
 ·cases h
theorem VD:∀(n:Nat) (t:Ls) (l:List Aq){k:Int}{m:List Aq}{r:Ls},uS n t l=some (k,m,r)→∃u,u++r=t
 | 0,_,_,_,_,_,h=>by cases h
 |n+1,t,l,k,m,r,h=>by
  obtain⟨u0,h0⟩:=BP t;unfold uS at h;generalize skp t=u at *
  match u with
  | []=>cases h
  |b::q =>
   dsimp only at h
   split at h
   ·injection h with h;injection h with h1 h;injection h with h2 h3;subst h3;exact⟨u0++[b],by rw[←h0]; simp⟩
   split at h
   ·injection h with h;injection h with h1 h;injection h with h2 h3;subst h3;exact⟨u0++(b::q.take 1),by rw[←h0,aYK,aYT,aXO]⟩
   split at h
   ·cases h
   cases ha:gL (b::q) with
   |none=>rw[ha] at h; cases h
   |some p =>
    obtain⟨a,r2⟩:=p;rw[ha] at h;obtain⟨u1,h1⟩:=IZ ha;obtain⟨u2,h2⟩:=VD n r2 (l++[a]) h;exact⟨u0++(u1++u2),by rw[←h0,←h1,←h2]; simp⟩
theorem aGS{t r:Ls}(h:∃u,u++r=t):∃k,r=t.drop k:=by
 obtain⟨u,rfl⟩:=h;exact⟨u.length,by rw[List.drop_left]⟩
theorem aCF{s r:Ls}{t:Tok}(h:jB s=some (t,r)):∃k,r=s.drop k:=by
 match s with
 | []=>cases h
 |b::u =>
  rw[eX] at h
  have note:∀head tail:Ls,kX (b::u) head tail=some (t,r)→∃k,r=(b::u).drop k:=fun head tail h=>by
   unfold kX at h
   split at h
   ·cases h
   ·injection h with h;injection h with _ h;exact⟨_,h.symm⟩
  split at h
  ·split at h
   ·exact note _ _ h
   split at h
   ·exact note _ _ h
   split at h
   ·unfold OY at h
    split at h
    ·cases h
    obtain⟨u1,h1⟩:=BP (((b::u).drop 2).drop (dI ((b::u).drop 2)).length)
    split at h
    ·cases h
    ·rename_i c q hq
     split at h
     ·injection h with h;injection h with _ h;subst h;refine aGS ⟨(b::u).take 2++(((b::u).drop 2).take (dI ((b::u).drop 2)).length++(u1++[c])),?_⟩;rw[hq] at h1
      conv=>rhs; rw[←aXO 2 (b::u),←aXO (dI ((b::u).drop 2)).length ((b::u).drop 2),←h1]
      simp
     ·cases h
   ·unfold AP at h
    split at h
    ·cases h
    split at h
    ·cases h
    ·rename_i k l q hq;injection h with h;injection h with _ h;subst h;obtain⟨u1,h1⟩:=VD _ _ _ hq;refine aGS ⟨(b::u).take 1++(((b::u).drop 1).take (dI ((b::u).drop 1)).length++u1),?_⟩;rw[aYK,aYK,h1,aXO,aXO]
  ·injection h with h;injection h with _ h;exact⟨_,h.symm⟩
theorem JD:∀(n:Nat) (t:Ls) (l:List Aq){k:Int}{m:List Aq}{r:Ls},uS n t l=some (k,m,r)→∀a∈m,a∈l∨a.2.length≤t.length
 | 0,_,_,_,_,_,h=>by cases h
 |n+1,t,l,k,m,r,h=>by
  have hk:=iC t
  unfold uS at h;generalize skp t=u at *
  match u with
  | []=>cases h
  |b::q =>
   dsimp only at h
   split at h
   ·injection h with h;injection h with h1 h;injection h with h2 h3;subst h2;exact fun a ha=>.inl ha
   split at h
   ·injection h with h;injection h with h1 h;injection h with h2 h3;subst h2;exact fun a ha=>.inl ha
   split at h
   ·cases h
   cases ha:gL (b::q) with
   |none=>rw[ha] at h; cases h
   |some p =>
    obtain⟨a,r2⟩:=p;rw[ha] at h
    have h1:=oO ha
    have hval:a.2.length≤(b::q).length:=aCE ha
    intro x hx;rcases JD n r2 (l++[a]) h x hx with h2|h2
    ·rcases aY4.1 h2 with h3|h3
     ·exact .inl h3
     ·simp at h3;subst h3;exact .inr (by omega)
    ·exact .inr (by omega)
structure TokOk (n:Nat) (t:Tok):Prop where
 tx:t.2.2.2.length≤n
 al:t.2.2.1.length≤n
 av:∀a∈t.2.2.1,a.2.length≤n
theorem FF{s r:Ls}{t:Tok}(h:jB s=some (t,r)):TokOk s.length t∧(t.1=0→t.2.2.2.length+r.length=s.length):=by
 match s with
 | []=>cases h
 |b::u =>
  rw[eX] at h
  have note:∀head tail:Ls,head.length≤(b::u).length→kX (b::u) head tail=some (t,r)→TokOk (b::u).length t∧(t.1=0→t.2.2.2.length+r.length=(b::u).length):=fun head tail h1 h=>by
   unfold kX at h
   split at h
   ·cases h
   ·injection h with h;injection h with h _;subst h;exact⟨⟨h1,aZ1 _,fun a ha=>(by cases ha)⟩,fun k=>(by cases k)⟩
  split at h
  ·split at h
   ·rename_i hh
    have:=congrArg List.length hh
    rw[aYU] at this;exact note _ _ (by simp at this ⊢; omega) h
   split at h
   ·rename_i hh
    have:=congrArg List.length hh
    rw[aYU] at this;exact note _ _ (by simp at this ⊢; omega) h
   split at h
   ·unfold OY at h
    split at h
    ·cases h
    split at h
    ·cases h
    ·split at h
     ·injection h with h;injection h with h _;subst h;exact⟨⟨aZ1 _,aZ1 _,fun a ha=>(by cases ha)⟩,fun k=>(by cases k)⟩
     ·cases h
   ·unfold AP at h
    split at h
    ·cases h
    split at h
    ·cases h
    ·rename_i k l q hq;injection h with h;injection h with h _;subst h
     have h1:=rP _ _ _ hq
     have h2:=JD _ _ _ hq
     rw[aYV,aYV] at h1;refine⟨⟨aZ1 _,?_,fun a ha=>?_⟩,fun e=>?_⟩
     ·have:=h1.2.1
      simp only[aY9] at this;show l.length≤_;omega
     ·rcases h2 a ha with h3|h3
      ·cases h3
      ·rw[aYV,aYV] at h3;omega
     ·rcases h1.2.2 with h3|h3<;>(have e:k=0:=e; omega)
  ·injection h with h;injection h with h h2;subst h;subst h2
   have:=kT (P:=gM) (b::u)
   refine⟨⟨this,aZ1 _,fun a ha=>(by cases ha)⟩,fun _=>?_⟩;rw[aYV];show((b::u).takeWhile gM).length+_=_;omega
structure PsOk (i:Nat) (p:Ps):Prop where
 jn:p.2.2=true→p.1≠[]
 nl:p.1.length≤i
 sl:p.2.1.length≤i
 tx:∀n∈p.1,n.2.1.length≤4*i
theorem aGT{l:List Nd}{t:Ls}(h:l≠[]):∃n,l=l.dropLast++[n]∧mQ l t=l.dropLast++[(n.1,n.2.1++t,n.2.2)]:=by
 obtain⟨n,q1,q2,_⟩:=lH h;exact⟨n,q2,by unfold mQ; rw[q1]⟩
theorem aJY{s r:Ls}{t:Tok}{i:Nat}{p:Ps}(first:Bool) (hn:jB s=some (t,r)) (hp:PsOk i p) (h0:(gA p t first).1=0):PsOk (i+(s.length-r.length)) (gA p t first).2:=by
 have hl:=lT hn
 have hk:=FF hn
 have mono:PsOk (i+(s.length-r.length)) p:=⟨hp.jn,by have:=hp.nl; omega,by have:=hp.sl; omega,fun n h=>by have:=hp.tx n h; omega⟩
 unfold gA at *
 by_cases c0:t.1=0
 ·rw[if_pos c0] at *
  have htl:=hk.2 c0
  have hml:=sO t.2.2.2
  unfold JC at *
  split
  ·exact mono
  split
  ·exact mono
  split
  ·exact mono
  split
  ·rename_i _ _ _ hj;obtain⟨n,q1,q2⟩:=aGT (t:=(bT t.2.2.2).1) (hp.jn hj)
   have hnl:=hp.nl
   have hdl:p.1.length=p.1.dropLast.length+1:=by
    have h:=congrArg List.length q1
    rw[aYA,aYR,aY9] at h;exact h
   refine⟨fun _=>?_,?_,mono.sl,fun m hm=>?_⟩
   ·show mQ _ _≠[];rw[q2];simp
   ·show(mQ _ _).length≤_;rw[q2,aYA,aYR,aY9];omega
   ·have hm:m∈mQ p.1 (bT t.2.2.2).1:=hm
    rw[q2] at hm;rcases aY4.1 hm with h|h
    ·exact mono.tx m (by rw[q1]; exact aXZ _ h)
    ·simp at h;subst h
     have:=hp.tx n (by rw[q1]; simp)
     rw[aYA];omega
  ·refine⟨fun _=>by simp,?_,mono.sl,fun m hm=>?_⟩
   ·show(p.1++_).length≤_
    have:=hp.nl
    rw[aYA,aYR,aY9];omega
   ·rcases aY4.1 hm with h|h
    ·exact mono.tx m h
    ·simp at h;subst h;show(bT t.2.2.2).1.length≤_;omega
 rw[if_neg c0] at *
 by_cases c2:t.1=2
 ·rw[if_pos c2] at *;unfold aCD at *
  split
  ·exact mono
  split
  ·refine⟨fun k=>(by cases k),mono.nl,?_,mono.tx⟩;show p.2.1.dropLast.length≤_
   have:=hp.sl
   rw[aXX];omega
  ·exact mono
 rw[if_neg c2] at *
 by_cases c4:t.1=4
 ·rw[if_pos c4] at *
  split<;>exact mono
 rw[if_neg c4] at *;unfold yU at *
 split
 ·exact mono
 split
 ·exact mono
 split
 ·exact mono
 split
 ·exact mono
 refine⟨fun k=>(by cases k),?_,?_,fun m hm=>?_⟩
 ·show(p.1++_).length≤_
  have:=hp.nl
  rw[aYA,aYR,aY9];omega
 ·dsimp only
  have:=hp.sl
  split
  ·rw[aYA,aYR,aY9];omega
  ·omega
 ·rcases aY4.1 hm with h|h
  ·exact mono.tx m h
  ·simp at h;subst h;simp
def PA:Nat→Nat→Ps→Ls→List Nd×Option (Nat×Int)
 | 0,_,_,_=>([],none)
 |_+1,n,p,[]=>if p.1=[]∨p.2.1≠[] then([],some (n,4)) else(p.1,none)
 |f+1,n,p,b::u=>match jB (b::u) with
  |none=>([],some (n-(b::u).length,4))
  |some (t,r)=>if(gA p t (decide ((b::u).length=n))).1≠0 then([],some (n-(b::u).length,(gA p t (decide ((b::u).length=n))).1)) else PA f n (gA p t (decide ((b::u).length=n))).2 r
theorem JE:∀(f g n:Nat) (p:Ps) (s:Ls),s.length<f→s.length<g→PA f n p s=PA g n p s
 | 0,_,_,_,_,h,_=>by omega
 |_+1,0,_,_,_,_,h=>by omega
 |f+1,g+1,n,p,[],_,_=>rfl
 |f+1,g+1,n,p,b::u,h1,h2=>by
  unfold PA
  cases hn:jB (b::u) with
  |none=>rfl
  |some q =>
   obtain⟨t,r⟩:=q
   have:=lT hn
   dsimp only;rw[JE f g n _ r (by omega) (by omega)]
def kU(n:Nat) (p:Ps) (s:Ls):List Nd×Option (Nat×Int):=PA (s.length+1) n p s
theorem FG(n:Nat) (p:Ps):kU n p []=if p.1=[]∨p.2.1≠[] then([],some (n,4)) else(p.1,none):=rfl
theorem JF{n:Nat}{p:Ps}{s:Ls}(h0:s≠[]) (h:jB s=none):kU n p s=([],some (n-s.length,4)):=by
 match s,h0 with
 |b::u,_ =>
  show PA (u.length+1+1) n p (b::u)=_;unfold PA;rw[h]
theorem yV{n:Nat}{p:Ps}{s r:Ls}{t:Tok}(h:jB s=some (t,r)):kU n p s=if(gA p t (decide (s.length=n))).1≠0 then([],some (n-s.length,(gA p t (decide (s.length=n))).1)) else kU n (gA p t (decide (s.length=n))).2 r:=by
 match s with
 | []=>cases h
 |b::u =>
  have hl:=lT h
  show PA (u.length+1+1) n p (b::u)=_;unfold PA;rw[h];dsimp only;rw[JE (u.length+1) (r.length+1) n _ r (by rw[aYR] at hl; omega) (by omega)];rfl
def aO4(s:Ls):List Nd×Option (Nat×Int)→List Nd×List (Int×Int×Int)
 |(l,none)=>(l,[])
 |(_,some (i,e))=>([],atP s i e)
def p0:Ps:=([],[],false)
def lI(s:Ls):List Nd×List (Int×Int×Int):=if 262144<s.length then([],atP s 0 9) else aO4 s (kU s.length p0 s)
theorem aGU{s r:Ls}{i:Nat}(hi:i≤s.length) (h:∃k,r=(s.drop i).drop k) (hl:r.length≤s.length):r=s.drop (s.length-r.length):=by
 obtain⟨k,rfl⟩:=h;rw[aZF,aYV]
 by_cases e:i+k≤s.length
 ·rw[show s.length-(s.length-(i+k))=i+k by omega]
 ·rw[aXH (by omega),aXH (by omega)]
theorem VE{s:Ls}(hs:s.length≤3999999):q90 fuelH s=some (lI s):=by
 unfold q90 lI
 have h00:kO fuelH (s,(0:Int),(9:Int))=some (atP s 0 9):=X4 hs (aZ1 _) 9
 by_cases h1:262144<s.length
 ·rw[aD (aW (by simp only[len]; omega)),if_pos h1,h00];rfl
 rw[aC (aX (by simp only[len]; omega)),if_neg h1,bX]
 have hend:kO fuelH (s,len s,(4:Int))=some (atP s s.length 4):=X4 hs (aZ0 _) 4
 refine aZ3 (cX (s:=s) (fun (p:Ps) (i:Nat)=>((i:Int),p)) (fun p r=>some (aO4 s (kU s.length p r))) (fun i p=>PsOk i p) ?_ fuelH 0 p0 (cY (by omega) _) (aZ1 _) ⟨fun k=>(by cases k),aZ1 _,aZ1 _,fun n hn=>(by cases hn)⟩) rfl;intro self p i hi hI hself;dsimp only
 by_cases hil:i<s.length
 ·have hd:cS (toN (i:Int)) s=s.drop i:=by simp[cS,toN]
  have hdl:(s.drop i).length=s.length-i:=aYV
  have hne:s.drop i≠[]:=by
   intro k;rw[k,aY9] at hdl;omega
  have hnx:=aJW (s:=s.drop i) (by omega) hne
  rw[aD (aW (by simp only[len]; omega)),aG (nA (by simp only[len]; omega)),hd]
  cases hn:jB (s.drop i) with
  |none =>
   rw[hn] at hnx;obtain⟨t,n,hnx⟩:=hnx;rw[hnx,aB,aD (by rfl),X4 hs (by omega),aB,JF hne hn,hdl,show s.length-(s.length-i)=i by omega];rfl
  |some q =>
   obtain⟨t,r⟩:=q;rw[hn] at hnx
   have hnx:eP fuelH (s.drop i)=some (t,(((s.drop i).length-r.length:Nat):Int),true):=hnx
   have hl:=lT hn
   have hk:=FF hn
   have hfirst:ieq (i:Int) 0=decide ((s.drop i).length=s.length):=by
    by_cases e:i=0
    ·subst e; simp[ieq]
    ·rw[dF (by omega),decide_eq_false (by omega)]
   rw[hnx,aB,aC (by rfl)];dsimp only;rw[hfirst,aJX _ (by have:=hk.1.tx; omega) (by have:=hk.1.al; omega) (fun a ha=>by have:=hk.1.av a ha; omega) (by have:=hI.nl; omega) (by have:=hI.sl; omega) hI.jn (fun n hm=>by have:=hI.tx n hm; omega),aB,yV hn]
   by_cases e:(gA p t (decide ((s.drop i).length=s.length))).1=0
   ·rw[aC (cQ e),if_neg (fun k=>k e)]
    have hw:w64 (aE (i:Int) (((s.drop i).length-r.length:Nat):Int))=((s.length-r.length:Nat):Int):=by
     simp only[aE];rw[bU (by omega)];omega
    rw[hw]
    have hok:=aJY (decide ((s.drop i).length=s.length)) hn hI e
    have hsuf:r=s.drop (s.length-r.length):=aGU hi (aCF hn) (by omega)
    refine aZ3 (hself _ (s.length-r.length) (by omega) (by omega) ?_) ?_
    ·rw[show s.length-r.length=i+((s.drop i).length-r.length) by omega];exact hok
    ·rw[←hsuf]
   ·rw[aD (cP e),if_pos e,X4 hs (by omega),aB,hdl,show s.length-(s.length-i)=i by omega];rfl
 ·obtain rfl:i=s.length:=by omega
  rw[aC (aX (by simp only[len]; omega)),aY1,FG]
  by_cases e1:p.1=[]
  ·rw[aD (by rw[e1]; rfl),if_pos (.inl e1),hend];rfl
  ·have hp1:0<p.1.length:=aX8.2 e1
   rw[aC (dF (by simp only[len]; omega))]
   by_cases e2:p.2.1=[]
   ·rw[aC (by rw[e2]; rfl),if_neg (fun k=>by rcases k with k|k; exact e1 k; exact k e2)];rfl
   ·have hp2:0<p.2.1.length:=aX8.2 e2
    rw[aD (aW (by simp only[len]; omega)),if_pos (.inr e2),hend];rfl
theorem aJZ{b x:UInt8}(h:x∈GI b):x≠60∧x≠34∧x≠62∧x≠39∧(x=b∨32≤x.toNat):=by
 have key:∀c:Ls,(c.all fun x=>x != 60&&x != 34&&x != 62&&x != 39&&decide (32≤x.toNat))=true→x∈c→x≠60∧x≠34∧x≠62∧x≠39∧(x=b∨32≤x.toNat):=fun c hc hx=>by
  have:=aY0.1 hc x hx
  simp only[aYS,bne_iff_ne,ne_eq,decide_eq_true_eq] at this;exact⟨this.1.1.1.1,this.1.1.1.2,this.1.1.2,this.1.2,.inr this.2⟩
 unfold GI at h
 split at h
 ·exact key _ (by rfl) h
 split at h
 ·exact key _ (by rfl) h
 split at h
 ·exact key _ (by rfl) h
 split at h
 ·exact key _ (by rfl) h
 split at h
 ·exact key _ (by rfl) h
 ·simp at h;subst h;rename_i h2 h3 h4 h5;exact⟨h2,h4,h3,h5,.inl rfl⟩
theorem PB{v:Ls}{x:UInt8}(h:x∈esc v):x≠60∧x≠34∧x≠62∧x≠39∧(x∈v∨32≤x.toNat):=by
 unfold esc at h;obtain⟨b,hb,hx⟩:=List.mem_flatMap.1 h
 have:=aJZ hx
 exact⟨this.1,this.2.1,this.2.2.1,this.2.2.2.1,this.2.2.2.2.elim (fun e=>.inl (by rw[e]; exact hb)) .inr⟩
theorem aJ0{r:Int}(h:dS r=true):((enc r).all fun b=>decide (32≤b.toNat))=true :=
 wD (P:=fun r=>(enc r).all fun b=>decide (32≤b.toNat)) (by kernel_rfl) h
theorem aJ1{v:Ls}(h:vld v=true):∀b∈v,32≤b.toNat:=by
 have h1:=V1 h
 have h2:=aFI h
 intro b hb;rw[←h1] at hb;unfold ofR at hb;obtain⟨r,hr,hx⟩:=List.mem_flatMap.1 hb
 have:=aJ0 (aY0.1 h2 r hr)
 exact of_decide_eq_true (aY0.1 this b hx)
theorem aJ2{s:Ls}(h:∀b∈s,32≤b.toNat):s.map flatB=s:=by
 conv=>rhs; rw[←List.map_id s]
 refine List.map_congr_left fun b hb=>?_
 have:=h b hb
 have h9:(b==9)=false:=by
  simp only[beq_eq_false_iff_ne,ne_eq];intro e; rw[e] at this; revert this; decide
 have h10:(b==10)=false:=by
  simp only[beq_eq_false_iff_ne,ne_eq];intro e; rw[e] at this; revert this; decide
 have h13:(b==13)=false:=by
  simp only[beq_eq_false_iff_ne,ne_eq];intro e; rw[e] at this; revert this; decide
 unfold flatB aQ;rw[h9,h10,h13];rfl
theorem X8{v:Ls}(h:vld v=true):∀b∈esc v,32≤b.toNat:=fun b hb=>(PB hb).2.2.2.2.elim (aJ1 h b) id
theorem VF{v:Ls}(h:vld v=true):bT (esc v)=(v,0):=by
 have e:un [] ((esc v).map flatB)=(v,0):=by rw[aJ2 (X8 h),N4]; rfl
 unfold bT;rw[e];rw[if_neg (by simp),if_neg (by rw[h]; decide)]
theorem PC{P:UInt8→Bool}{v t:Ls}{c:UInt8}(h:∀b∈v,P b=true) (hc:P c=false):(v++c::t).takeWhile P=v:=by
 rw[aW1 h,aX9,hc];simp
theorem oP{s:Ls}(h:nmX s=true):∃b l,s=b::l∧oK b=true∧(∀x∈s,nL x=true)∧s.length≤32:=by
 unfold nmX at h;simp only[aYS] at h
 match s,h with
 | [],h=>simp at h
 |b::l,h =>
  refine⟨b,l,rfl,h.1.2,fun x hx=>aY0.1 h.2 x hx,of_decide_eq_true h.1.1.2⟩
theorem yW{s t:Ls}{c:UInt8}(h:nmX s=true) (hc:nL c=false):dI (s++c::t)=s:=by
 obtain⟨b,l,rfl,h1,h2,_⟩:=oP h;rw[aYT,yR,if_pos h1,PC (fun x hx=>h2 x (aXV _ hx)) hc]
theorem aJ3:((List.range 256).all fun n=>decide (oK (UInt8.ofNat n)=true→(wsB (UInt8.ofNat n)=false∧UInt8.ofNat n≠62∧UInt8.ofNat n≠47∧UInt8.ofNat n≠63∧UInt8.ofNat n≠33)))=true:=by kernel_rfl
theorem X9{x:UInt8}(h:oK x=true):wsB x=false∧x≠62∧x≠47∧x≠63∧x≠33 :=
 of_decide_eq_true (gU (P:=fun x=>decide (oK x=true→(wsB x=false∧x≠62∧x≠47∧x≠63∧x≠33))) aJ3 x) h
theorem yX{b:UInt8}{t:Ls}(h:wsB b=false):skp (b::t)=b::t:=by
 unfold skp;rw[aX9,h];rfl
theorem aJ4{b:UInt8}{t:Ls}(h:wsB b=true):skp (b::t)=skp t:=by
 unfold skp;rw[aX9,h,if_pos rfl,aYR,aX4]
def atT(l:List At):Ls:=l.flatMap fun a=>32::(a.1++(61::34::(esc a.2++[34])))
def tC(l:List At):List At:=l.map fun a=>(a.1,esc a.2)
theorem wM(a:At) (l:List At) (rest:Ls):atT (a::l)++rest=32::(a.1++61::(34::(esc a.2++34::(atT l++rest)))):=by
 unfold atT;rw[List.flatMap_cons];simp
theorem O1{a:At}{rest:Ls}(h:nmX a.1=true):gL (a.1++61::(34::(esc a.2++34::rest)))=some ((a.1,esc a.2),rest):=by
 have hn:=yW (t:=34::(esc a.2++34::rest)) h (show nL 61=false by rfl)
 obtain⟨b,l,he,_⟩:=oP h
 have hv:OX 34 (esc a.2++34::rest)=some (esc a.2,rest):=by
  unfold OX
  have ht:(esc a.2++34::rest).takeWhile (fun b=>b != 34&&b != 60)=esc a.2:=PC (fun x hx=>by have:=PB hx; simp[this.1,this.2.1]) (by rfl)
  rw[ht,List.drop_left];dsimp only;rw[if_pos rfl]
 unfold gL;rw[hn,if_neg (by rw[he]; simp),List.drop_left,yX (by rfl)];dsimp only;rw[if_pos rfl,yX (by rfl)];dsimp only;rw[if_pos (Or.inl rfl),hv]
theorem JG(close:Ls) (k:Int) (hc:close=[62]∧k=1∨close=[47,62]∧k=3) (rest:Ls):∀(l pre:List At),(∀a∈l,nmX a.1=true)→VB (atT l++(close++rest)) pre=some (k,pre++tC l,rest)
 | [],pre,_=>by
  have h0:atT []++(close++rest)=close++rest:=rfl
  have h1:pre++tC []=pre:=by simp[tC]
  rw[h0,h1,yT];rcases hc with⟨rfl,rfl⟩|⟨rfl,rfl⟩
  ·have hs:skp ([62]++rest)=62::rest:=yX (by rfl)
   rw[hs];dsimp only;rw[if_pos rfl]
  ·have hs:skp ([47,62]++rest)=47::62::rest:=yX (by rfl)
   rw[hs];dsimp only;rw[if_neg (by decide),if_pos ⟨rfl,rfl⟩];rfl
 |a::l,pre,h=>by
  have ha:=h a aYE
  obtain⟨b,m,he,hb,_⟩:=oP ha
  have hnot:=X9 hb
  have hr:pre++tC (a::l)=(pre++[(a.1,esc a.2)])++tC l:=by simp[tC]
  have ih:=JG close k hc rest l (pre++[(a.1,esc a.2)]) fun x hx=>h x (aXV _ hx)
  have hap:=O1 (rest:=atT l++(close++rest)) ha
  have hs:skp (atT (a::l)++(close++rest))=a.1++61::(34::(esc a.2++34::(atT l++(close++rest)))):=by
   rw[wM,aJ4 (by rfl),he,aYT,yX hnot.1]
  have hlen:(atT (a::l)++(close++rest)).length=(a.1++61::(34::(esc a.2++34::(atT l++(close++rest))))).length+1:=by rw[wM,aYR]
  rw[yT,hs,hlen,hr,←ih];generalize hu:a.1++61::(34::(esc a.2++34::(atT l++(close++rest))))=u at *
  have hub:∃w,u=b::w:=⟨_,by rw[←hu,he]; rfl⟩
  obtain⟨w,hw⟩:=hub;rw[hw] at hap ⊢;dsimp only;rw[if_neg hnot.2.1,if_neg (fun q=>hnot.2.2.1 q.1),if_neg (by omega),hap]
theorem AB{name rest:Ls}{l:List At}{close:Ls}{k:Int}(hc:close=[62]∧k=1∨close=[47,62]∧k=3) (hn:nmX name=true) (hl:∀a∈l,nmX a.1=true):jB (60::(name++(atT l++(close++rest))))=some ((k,name,tC l,[]),rest):=by
 obtain⟨b,m,he,hb,_⟩:=oP hn
 have hnot:=X9 hb
 have hstop:∃c t,atT l++(close++rest)=c::t∧nL c=false:=by
  match l with
  | [] =>
   rcases hc with⟨rfl,_⟩|⟨rfl,_⟩
   ·exact⟨62,rest,rfl,rfl⟩
   ·exact⟨47,62::rest,rfl,rfl⟩
  |a::l=>exact⟨32,_,wM a l _,rfl⟩
 obtain⟨c,t,hct,hcn⟩:=hstop
 have hname:dI (name++(atT l++(close++rest)))=name:=by rw[hct]; exact yW hn hcn
 have htag:=JG close k hc rest l [] hl
 rw[eX,if_pos rfl,if_neg (by rw[he]; simp[hnot.2.2.2.1]),if_neg (by rw[he]; simp[hnot.2.2.2.2]),if_neg (by rw[he]; simp[hnot.2.2.1])];unfold AP
 have hd:(60::(name++(atT l++(close++rest)))).drop 1=name++(atT l++(close++rest)):=rfl
 rw[hd,hname,if_neg (by rw[he]; simp),List.drop_left,htag];rfl
theorem aCG{name rest:Ls}(hn:nmX name=true):jB (60::47::(name++62::rest))=some ((2,name,[],[]),rest):=by
 obtain⟨b,m,he,hb,_⟩:=oP hn
 have hname:dI (name++62::rest)=name:=yW hn rfl
 rw[eX,if_pos rfl,if_neg (by simp),if_neg (by simp),if_pos (by rfl)];unfold OY
 have hd:(60::47::(name++62::rest)).drop 2=name++62::rest:=rfl
 rw[hd,hname,if_neg (by rw[he]; simp),List.drop_left,yX (by rfl)];dsimp only;rw[if_pos rfl]
theorem O2{v rest:Ls}(hv:v≠[]):jB (esc v++60::rest)=some ((0,[],[],esc v),60::rest):=by
 have ht:(esc v++60::rest).takeWhile gM=esc v:=PC (fun x hx=>by have:=PB hx; simp[gM,this.1]) (by rfl)
 obtain⟨b,m,he⟩:∃b m,esc v=b::m:=by
  match v,hv with
  |c::w,_ =>
   have:=(SU c).1
   rw[UP]
   match hq:GI c with
   | []=>rw[hq] at this; simp at this
   |x::y=>exact⟨x,_,rfl⟩
 have hb:b≠60:=(PB (show b∈esc v by rw[he]; exact aYE)).1
 have hcons:esc v++60::rest=b::(m++60::rest):=by rw[he]; rfl
 rw[hcons,eX,if_neg hb,←hcons,ht,List.drop_left]
theorem Y0:∀(l:List At) (seen:List Ls) (out:List At),(∀a∈l,vld a.2=true)→(l.map Prod.fst).Nodup→(∀a∈l,a.1 ∉ seen)→atM seen out (tC l)=(0,out++l)
 | [],_,out,_,_,_=>by simp[tC,atM]
 |a::l,seen,out,hv,hd,hs=>by
  have h1:tC (a::l)=(a.1,esc a.2)::tC l:=rfl
  rw[aZM,List.nodup_cons] at hd;rw[h1];unfold atM;dsimp only;rw[if_neg (hs a aYE),VF (hv a aYE)];dsimp only;rw[if_neg (by simp),Y0 l _ _ (fun x hx=>hv x (aXV _ hx)) hd.2 (fun x hx=>?_)]
  ·simp
  ·rw[aY4];rintro(k|k)
   ·exact hs x (aXV _ hx) k
   ·simp at k;exact hd.1 (by rw[←k]; exact List.mem_map_of_mem hx)
structure AtOk (l:List At):Prop where
 nm:∀a∈l,nmX a.1=true
 vl:∀a∈l,vld a.2=true
 nd:(l.map Prod.fst).Nodup
 few:l.length≤16
theorem FH{p:Ps}{name:Ls}{l:List At}{k:Int}(first:Bool) (hk:k=1∨k=3) (hn:nmX name=true) (hl:AtOk l) (hr:gN p false=0) :
  gA p (k,name,tC l,[]) first=(0,p.1++[(name,[],l,(p.2.1.length:Int))],if k=1 then p.2.1++[name] else p.2.1,false):=by
 unfold gA;dsimp only;rw[if_neg (show ¬k=0 by omega),if_neg (show ¬k=2 by omega),if_neg (show ¬k=4 by omega)];unfold yU;dsimp only
 have h1:(tC l).map Prod.fst=l.map Prod.fst:=by unfold tC; rw[List.map_map]; rfl
 have h2:(tC l).length=l.length:=by unfold tC; rw[aZC]
 have h3:¬((name::l.map Prod.fst).all nmX=false):=by
  have:(name::l.map Prod.fst).all nmX=true:=by
   rw[aZP,hn,aZO,aY0];intro x hx;obtain⟨a,ha,rfl⟩:=List.mem_map.1 hx;exact hl.nm a ha
  rw[this];decide
 rw[h1,if_neg h3,h2,if_neg (by have:=hl.few; omega),Y0 l [] [] hl.vl hl.nd (fun a _=>by simp)];dsimp only;rw[if_neg (by simp),if_neg (by rw[hr]; simp)];rfl
theorem aGV{p:Ps}{name:Ls}(first:Bool) (hn:nmX name=true) (hl:p.2.1.getLast?=some name):gA p (2,name,[],[]) first=(0,p.1,p.2.1.dropLast,false):=by
 unfold gA;dsimp only;rw[if_neg (show ¬(2:Int)=0 by decide),if_pos rfl];unfold aCD;rw[if_neg (by rw[hn]; decide),if_pos hl]
theorem aCH{p:Ps}{v:Ls}(first:Bool) (hv:vld v=true) (ho:p.2.1≠[]) (hj:p.2.2=false) (hr:gN p true=0):gA p (0,[],[],esc v) first=(0,p.1++[([],v,[],(p.2.1.length:Int))],p.2.1,true):=by
 have hnl:nlB (esc v)=false:=by
  unfold nlB
  have:(esc v).takeWhile (fun b=>b != 10)=esc v:=by
   have:=aW1 (p:=fun b:UInt8=>b != 10) (l₁:=esc v) (l₂:=[]) (fun x hx=>by
    have:=X8 hv x hx
    simp only[bne_iff_ne,ne_eq];intro e;rw[e] at this
    revert this
    decide)
   simpa using this
  rw[this];simp
 unfold gA;rw[if_pos rfl];unfold JC;dsimp only;rw[if_neg (fun k=>by rcases k.2 with q|q; rw[hnl] at q; cases q; exact ho q),VF hv];dsimp only;rw[if_neg (by simp),if_neg (by rw[hr]; simp),if_neg (by rw[hj]; decide)]
theorem BQ{n:Nat}{p q:Ps}{s r:Ls}{t:Tok}(h:jB s=some (t,r)) (ht:∀f,gA p t f=(0,q)):kU n p s=kU n q r:=by
 rw[yV h,ht];dsimp only;rw[if_neg (by simp)]
def clT(name:Ls):Ls:=60::47::(name++[62])
def cls(st:List Ls):Ls:=st.reverse.flatMap clT
def kid(n:Nd):List Nd→Bool
 | []=>false
 |m::_=>decide (dep n<dep m)
def prT:List Ls→List Nd→Ls
 |st,[]=>cls st
 |st,n::r=>cls (st.drop (dep n).toNat)++(if n.1=[] then esc n.2.1++prT (st.take (dep n).toNat) r
   else 60::(n.1++(atT n.2.2.1++(if kid n r=true then 62::prT (st.take (dep n).toNat++[n.1]) r else 47::62::prT (st.take (dep n).toNat) r))))
def O3(l:List Nd):Ls×Int:=if mO l≠0 then([],mO l) else if 262144<(prT [] l).length then([],9) else(prT [] l,0)
theorem BR(a b:List Ls):cls (a++b)=cls b++cls a:=by unfold cls; rw[List.reverse_append,List.flatMap_append]
theorem PD(n:Ls):cls [n]=clT n:=by unfold cls; simp
theorem PE:cls []=[]:=rfl
theorem aCI(st:List Ls) (d:Nat):cls st=cls (st.drop d)++cls (st.take d):=by
 rw[←BR,aXO]
theorem aJ5(l:List At):(atT l).length≤6*bkL wtA l:=by
 induction l with
 |nil=>simp[atT]
 |cons a l ih =>
  have h:=wM a l []
  rw[aY5,aY5] at h
  have he:=OQ a.2
  have hb:bkL wtA (a::l)=a.1.length+1+(a.2.length+1)+bkL wtA l:=rfl
  rw[h,hb];simp only[aYR,aYA];omega
theorem BS:∀(l:List Nd) (st:List Ls),(prT st l).length≤(cls st).length+7*bkL wtN l
 | [],st=>by unfold prT; omega
 |n::r,st=>by
  have hc:=congrArg List.length (aCI st (dep n).toNat)
  rw[aYA] at hc
  have i1:=BS r (st.take (dep n).toNat)
  have i2:=BS r (st.take (dep n).toNat++[n.1])
  have h2:(cls (st.take (dep n).toNat++[n.1])).length=n.1.length+3+(cls (st.take (dep n).toNat)).length:=by
   rw[BR,PD,aYA];unfold clT;simp
  have he:=OQ n.2.1
  have ha:=aJ5 n.2.2.1
  have hb:bkL wtN (n::r)=n.1.length+1+(n.2.1.length+1+(bkL wtA n.2.2.1+1+1))+bkL wtN r:=rfl
  unfold prT;rw[hb]
  split
  ·rw[aYA,aYA];omega
  ·rw[aYA,aYR,aYA,aYA]
   split
   ·rw[aYR];omega
   ·rw[aYR,aYR];omega
theorem aGW{st:List Ls}(h:st≠[]):gO st 0 (toN ((st.length-1:Nat):Int))=st.dropLast:=by
 simp only[gO,toN,aYP,aZG];rw[List.dropLast_eq_take]
theorem VG{R:Type}{d:Int}(hd:0≤d) (K:List Ls×Unit×Ls→Option R):∀(fuel:Nat) (st:List Ls) (a:Ls),st.length<fuel→st.length≤300000→a.length+(cls (st.drop d.toNat)).length≤100000000 →
  bG (fun v27 (v28:(List Y_)×Unit×Y_) =>
     cnd (ilt d (len v28.1))
      (grd (inb (w64 (aJ (len v28.1) (1:Int))) (len v28.1))
       (grd (eD (aE (len ([60,47]:Y_)) (len (aA v28.1 (toN (w64 (aJ (len v28.1) (1:Int)))) []))))
        (grd (eD (aE (len (bH ([60,47]:Y_) (aA v28.1 (toN (w64 (aJ (len v28.1) (1:Int)))) []))) (len ([62]:Y_))))
         (bnd (q31 fuelH (((),v28.2.2),bH (bH ([60,47]:Y_) (aA v28.1 (toN (w64 (aJ (len v28.1) (1:Int)))) [])) ([62]:Y_))) fun v29 =>
         grd (in2 (w64 (aJ (len v28.1) (1:Int))) (ofN (kN v28.1))) <|
         v27 (gO v28.1 0 (toN (w64 (aJ (len v28.1) (1:Int)))),(),v29.2.2.2)))))
      (K v28)) fuel (st,(),a)=K (st.take d.toNat,(),a++cls (st.drop d.toNat))
 | 0,_,_,h,_,_=>by omega
 |fuel+1,st,a,h,hl,hb=>by
  rw[gT];dsimp only
  by_cases e:d.toNat<st.length
  ·have hne:st≠[]:=fun k=>by rw[k] at e; simp at e
   obtain⟨n,q1,q2,q3,q4⟩:=lH hne
   have hp:0<st.length:=aX8.2 hne
   have hw:w64 (aJ (len st) 1)=((st.length-1:Nat):Int):=rH hp (by omega)
   have hg:aA st (toN ((st.length-1:Nat):Int)) []=n:=by rw[bB q3,q4]
   have hdl:st.dropLast.length=st.length-1:=aXX
   have hc:cls (st.drop d.toNat)=clT n++cls (st.dropLast.drop d.toNat):=by
    conv=>lhs; rw[q2]
    rw[List.drop_append_of_le_length (by omega),BR,PD]
   have hcl:=congrArg List.length hc
   rw[aYA] at hcl
   have hT:bH (bH ([60,47]:Y_) n) ([62]:Y_)=clT n:=by unfold clT; simp[bH]
   have hTl:(clT n).length=n.length+3:=by unfold clT; simp
   rw[aD (aW (by simp only[len]; omega)),hw,hg,aG (aZ (by simp only[len]; omega)),aG (iB (by simp only[len,aE,aYR,aY9]; omega)),aG (iB (by simp only[len,aE,bH,aYA,aYR,aY9]; omega)),hT,nD _ _ (by show a.length+_≤_; omega),aB,aG (nA (by simp only[ofN,kN]; omega)),aGW hne];refine aZ3 (VG hd K fuel st.dropLast (a++clT n) (by omega) (by omega) (by rw[aYA]; omega)) ?_
   have ht:st.dropLast.take d.toNat=st.take d.toNat:=by
    conv=>rhs; rw[q2]
    rw[List.take_append_of_le_length (by omega)]
   rw[ht,hc,aYK]
  ·rw[aC (aX (by simp only[len]; omega)),aXG (by omega),aXH (by omega),PE,aY5]
theorem VH{R:Type}{st:List Ls}(hl:st.length≤300000) (K:Int×Unit×Ls→Option R):∀(fuel k:Nat) (a:Ls),k<fuel→k≤st.length→a.length+(cls (st.take k)).length≤100000000 →
  bG (fun v5 (v6:Int×Unit×Y_) =>
    cnd (ile (0:Int) v6.1)
     (grd (inb v6.1 (len st))
      (grd (eD (aE (len ([60,47]:Y_)) (len (aA st (toN v6.1) []))))
       (grd (eD (aE (len (bH ([60,47]:Y_) (aA st (toN v6.1) []))) (len ([62]:Y_))))
        (bnd (q31 fuelH (((),v6.2.2),bH (bH ([60,47]:Y_) (aA st (toN v6.1) [])) ([62]:Y_))) fun v7 =>
        v5 (w64 (aJ v6.1 (1:Int)),(),v7.2.2.2)))))
     (K v6)) fuel ((k:Int)-1,(),a)=K (-1,(),a++cls (st.take k))
 | 0,_,_,h,_,_=>by omega
 |fuel+1,k,a,h,hk,hb=>by
  rw[gT];dsimp only
  cases k with
  |zero =>
   rw[aC (kH (by omega)),aZI,PE,aY5];rfl
  |succ k =>
   have hkl:k<st.length:=by omega
   have e0:((k+1:Nat):Int)-1=(k:Int):=by omega
   have e1:w64 (aJ (k:Int) 1)=(k:Int)-1:=by
    simp only[aJ];rw[bU (by omega)]
   have hc:cls (st.take (k+1))=clT st[k]++cls (st.take k):=by rw[aWY hkl,BR,PD]
   have hcl:=congrArg List.length hc
   rw[aYA] at hcl
   have hT:bH (bH ([60,47]:Y_) st[k]) ([62]:Y_)=clT st[k]:=by unfold clT; simp[bH]
   have hTl:(clT st[k]).length=st[k].length+3:=by unfold clT; simp
   rw[e0,aD (hM (by omega)),aG (aZ (by simp only[len]; omega)),bB hkl,aG (iB (by simp only[len,aE,aYR,aY9]; omega)),aG (iB (by simp only[len,aE,bH,aYA,aYR,aY9]; omega)),hT,nD _ _ (by show a.length+_≤_; omega),aB,e1];refine aZ3 (VH hl K fuel k (a++clT st[k]) (by omega) (by omega) (by rw[aYA]; omega)) ?_;rw[hc,aYK]
theorem O4{R:Type}{l:List At}(hl:l.length≤1100000) (hv:∀a∈l,a.1.length≤1090000∧a.2.length≤1090000) (K:Int×Unit×Ls→Option R) (a0:Ls) (hb:a0.length+(atT l).length≤100000000) :
  bG (fun v22 (v23:Int×Unit×Y_) =>
        cnd (ilt v23.1 (len l))
         (grd (inb v23.1 (len l))
          (grd (eD (aE (len ([32]:Y_)) (len (aA l (toN v23.1) ([],[])).1)))
           (grd (eD (aE (len (bH ([32]:Y_) (aA l (toN v23.1) ([],[])).1)) (len ([61,34]:Y_))))
            (bnd (q63 fuelH (aA l (toN v23.1) ([],[])).2) fun v24 =>
            grd (eD (aE (len (bH (bH ([32]:Y_) (aA l (toN v23.1) ([],[])).1) ([61,34]:Y_))) (len v24))) <|
            grd (eD (aE (len (bH (bH (bH ([32]:Y_) (aA l (toN v23.1) ([],[])).1) ([61,34]:Y_)) v24)) (len ([34]:Y_)))) <|
            bnd (q31 fuelH (((),v23.2.2),bH (bH (bH (bH ([32]:Y_) (aA l (toN v23.1) ([],[])).1) ([61,34]:Y_)) v24) ([34]:Y_))) fun v25 =>
            v22 (w64 (aE v23.1 (1:Int)),(),v25.2.2.2)))))
         (K v23)) fuelH ((0:Int),(),a0)=K ((l.length:Int),(),a0++atT l):=by
 refine cX (s:=l) (fun (a:Ls) (j:Nat)=>((j:Int),((),a))) (fun a r=>K ((l.length:Int),((),a++atT r))) (fun j a=>a.length+(atT (l.drop j)).length≤100000000) ?_ fuelH 0 a0 (cY (by omega) _) (aZ1 _) hb;intro self a j hj hI hself;dsimp only
 by_cases hjl:j<l.length
 ·have hw:w64 (aE (j:Int) 1)=((j+1:Nat):Int):=aS hjl (by omega)
  have hva:=hv _ (aY2 hjl)
  have hel:=OQ (l[j]).2
  have hT:bH (bH (bH (bH ([32]:Y_) (l[j]).1) ([61,34]:Y_)) (esc (l[j]).2)) ([34]:Y_)=32::((l[j]).1++(61::34::(esc (l[j]).2++[34]))):=by simp[bH]
  have hc:atT (l.drop j)=(32::((l[j]).1++(61::34::(esc (l[j]).2++[34]))))++atT (l.drop (j+1)):=by
   rw[aW8 hjl];unfold atT;rw[List.flatMap_cons]
  have hcl:=congrArg List.length hc
  rw[aYA] at hcl;rw[aD (aW (by simp only[len]; omega)),aG (aZ (by simp only[len]; omega)),bB hjl,aG (iB (by simp only[len,aE,aYR,aY9]; omega)),aG (iB (by simp only[len,aE,bH,aYA,aYR,aY9]; omega)),aF4 (by omega),aB,aG (iB (by simp only[len,aE,bH,aYA,aYR,aY9]; omega)),aG (iB (by simp only[len,aE,bH,aYA,aYR,aY9]; omega)),hT,nD _ _ (by show a.length+_≤_; omega),aB,hw];refine aZ3 (hself (a++(32::((l[j]).1++(61::34::(esc (l[j]).2++[34]))))) (j+1) (by omega) (by omega) (by rw[aYA]; omega)) ?_;rw[hc,aYK]
 ·obtain rfl:j=l.length:=by omega
  rw[aC (aX (by simp only[len]; omega)),aY1]
  have:a++atT []=a:=by simp[atT]
  rw[this]
def VI(s:Ls):Option (Ls×Int):=some (if 262144<s.length then([],9) else(s,0))
theorem JH{n:Nd}(h:elE n=0):nmX n.1=true∧n.2.1=[]∧n.2.2.1.length≤16∧atE [] n.2.2.1=0:=by
 unfold elE at h
 by_cases h1:nmX n.1=false
 ·rw[if_pos h1] at h; cases h
 rw[if_neg h1] at h
 by_cases h2:n.2.1≠[]
 ·rw[if_pos h2] at h; cases h
 rw[if_neg h2] at h
 by_cases h3:16<n.2.2.1.length
 ·rw[if_pos h3] at h; cases h
 rw[if_neg h3] at h;exact⟨by simpa using h1,by simpa using h2,by omega,h⟩
theorem yY{p:Option Nd}{n:Nd}(h:txE p n=0):(∃q,p=some q∧¬(q.1=[]∧dep q=dep n))∧n.2.1≠[]∧n.2.2.1=[]∧vld n.2.1=true:=by
 unfold txE at h
 by_cases h1:txP p n=true
 ·rw[if_pos h1] at h; cases h
 rw[if_neg h1] at h
 by_cases h2:n.2.1=[]
 ·rw[if_pos h2] at h; cases h
 rw[if_neg h2] at h
 by_cases h3:0<n.2.2.1.length
 ·rw[if_pos h3] at h; cases h
 rw[if_neg h3] at h
 by_cases h4:vld n.2.1=false
 ·rw[if_pos h4] at h; cases h
 refine⟨?_,h2,aWZ (by omega),by simpa using h4⟩
 cases p with
 |none=>exact absurd rfl h1
 |some q=>exact⟨q,rfl,fun k=>h1 (decide_eq_true k)⟩
theorem aGX{p:Option Nd}{n:Nd}(h:ndE p n=0) (hn:n.1≠[]):elE n=0:=by
 have hd:=lG h
 unfold ndE at h;rw[if_neg (by rw[hd]; simp),if_pos hn] at h;exact h
theorem FI{p:Option Nd}{n:Nd}(h:ndE p n=0) (hn:n.1=[]):txE p n=0:=by
 have hd:=lG h
 unfold ndE at h;rw[if_neg (by rw[hd]; simp),if_neg (by rw[hn]; simp)] at h;exact h
theorem aGY{l:List Nd}(hsm:∀n∈l,smN n) (hs:bkL wtN l≤3000000):q65 fuelH l=some (O3 l):=by
 have hll:l.length≤3000000:=aZR (M8 (f:=wtN) (fun n=>by unfold wtN; omega) l) hs
 unfold q65 O3;rw[UZ (by omega) hsm,aB]
 by_cases hc:mO l=0
 ·obtain⟨h0,h8,hat⟩:=rN hc
  have hd:=OU hat
  have htot:=BS l []
  have hc0:(cls []).length=0:=rfl
  rw[aC (cQ hc),if_neg (fun k=>k hc),bX]
  have hfin:∀s:Ls,VI s=some (if 262144<s.length then([],9) else(s,0)):=fun _=>rfl
  have hgoal:(some (if 262144<(prT [] l).length then(([]:Ls),(9:Int)) else(prT [] l,0)))=VI ([]++prT [] l):=rfl
  rw[hgoal];refine cX (s:=l) (fun (p:List Ls×Ls) (i:Nat)=>(p.1,((i:Int),((),p.2)))) (fun p r=>VI (p.2++prT p.1 r)) (fun i p=>p.1.length≤i∧p.2.length+(prT p.1 (l.drop i)).length≤100000000) ?_ fuelH 0 ([],[]) (cY (by omega) _) (aZ1 _) ⟨aZ1 _,by rw[aZG]; simp; omega⟩;intro self p i hi hI hself;obtain⟨st,a⟩:=p;dsimp only at hI ⊢
  by_cases hil:i<l.length
  ·have hw:w64 (aE (i:Int) 1)=((i+1:Nat):Int):=aS hil (by omega)
   have hin:inb (i:Int) (len l)=true:=aZ (by simp only[len]; omega)
   have hn:=hsm _ (aY2 hil)
   have hdi:0≤(l[i]).2.2.2∧(l[i]).2.2.2≤15:=hd.high i hil
   have hb:=hI.2
   rw[aW8 hil] at hb ⊢
   have hpr:prT st (l[i]::l.drop (i+1))=cls (st.drop (dep l[i]).toNat)++(if(l[i]).1=[] then esc (l[i]).2.1++prT (st.take (dep l[i]).toNat) (l.drop (i+1))
   else 60::((l[i]).1++(atT (l[i]).2.2.1++(if kid l[i] (l.drop (i+1))=true then 62::prT (st.take (dep l[i]).toNat++[(l[i]).1]) (l.drop (i+1)) else 47::62::prT (st.take (dep l[i]).toNat) (l.drop (i+1)))))):=rfl
   have hbl:=hb
   rw[hpr,aYA] at hbl;rw[aD (aW (by simp only[len]; omega)),bX,aG hin,bX];simp only[wL hil];refine aZ3 (VG hdi.1 _ fuelH st a (by have:=bI; have:=hI.1; omega) (by have:=hI.1; omega) (by have:dep l[i]=(l[i]).2.2.2:=rfl; rw[this] at hbl; omega)) ?_;dsimp only
   have hdd:(l[i]).2.2.2=dep l[i]:=rfl
   rw[hdd,hpr];generalize hst:st.take (dep l[i]).toNat=s2 at *
   have hs2:s2.length≤i:=by rw[←hst,aYU]; have:=hI.1; omega
   generalize cls (st.drop (dep l[i]).toNat)=c at *
   by_cases he:(l[i]).1=[]
   ·rw[if_pos he] at hbl ⊢;rw[aYA] at hbl;rw[aD (by rw[cJ]; exact he),aF4 (by have:=hn.tx; omega),aB,nD _ _ (by rw[aYA]; omega),aB];dsimp only;rw[hw];refine aZ3 (hself (s2,a++c++esc (l[i]).2.1) (i+1) (by omega) (by omega) ⟨by show s2.length≤_; omega,?_⟩) ?_
    ·show(a++c++esc (l[i]).2.1).length+(prT s2 (l.drop (i+1))).length≤100000000;rw[aYA,aYA];omega
    ·show VI (a++c++esc (l[i]).2.1++prT s2 (l.drop (i+1)))=_;rw[aYK,aYK]
   ·rw[if_neg he] at hbl ⊢;rw[aYR,aYA,aYA] at hbl
    have hnm:=hn.nm
    rw[aC (by rw[cC]; simpa using he),aG (iB (by simp only[len,aE,aYR,aY9]; omega))]
    have hl60:bH ([60]:Y_) (l[i]).1=60::(l[i]).1:=rfl
    rw[hl60,nD _ _ (by rw[aYA,aYR]; omega),aB,bX];refine aZ3 (O4 (by have:=hn.asz; omega) hn.an _ _ (by rw[aYA,aYA,aYR]; omega)) ?_;dsimp only
    -- whether there are children
    have leaf:kid l[i] (l.drop (i+1))=false→(bnd (q31 fuelH (((),a++c++(60::(l[i]).1)++atT (l[i]).2.2.1),([47,62]:Y_))) fun v19=>self (s2,w64 (aE (i:Int) 1),(),v19.2.2.2))=VI (a++(c++(60::((l[i]).1++(atT (l[i]).2.2.1++(if kid l[i] (l.drop (i+1))=true then 62::prT (s2++[(l[i]).1]) (l.drop (i+1)) else 47::62::prT s2 (l.drop (i+1)))))))):=fun hk=>by
     rw[hk,if_neg (by decide)] at hbl ⊢;rw[aYR,aYR] at hbl;rw[nD _ _ (by rw[aYA,aYA,aYA,aYR,aYR,aYR,aY9]; omega),aB,hw];dsimp only;refine aZ3 (hself (s2,a++c++(60::(l[i]).1)++atT (l[i]).2.2.1++[47,62]) (i+1) (by omega) (by omega) ⟨by show s2.length≤_; omega,?_⟩) ?_
     ·show(a++c++(60::(l[i]).1)++atT (l[i]).2.2.1++[47,62]).length+(prT s2 (l.drop (i+1))).length≤100000000;rw[aYA,aYA,aYA,aYA,aYR,aYR,aYR,aY9];omega
     ·show VI (a++c++(60::(l[i]).1)++atT (l[i]).2.2.1++[47,62]++prT s2 (l.drop (i+1)))=_;congr 1;simp
    by_cases h1:i+1<l.length
    ·have hin1:inb ((i+1:Nat):Int) (len l)=true:=aZ (by simp only[len]; omega)
     have hkd:kid l[i] (l.drop (i+1))=decide (dep l[i]<dep l[i+1]):=by
      rw[aW8 h1];rfl
     rw[hw,aD (aW (by simp only[len]; omega)),aG hin1,wL h1]
     by_cases h2:dep l[i]<dep l[i+1]
     ·have hk:kid l[i] (l.drop (i+1))=true:=by rw[hkd]; exact decide_eq_true h2
      rw[hk,if_pos rfl] at hbl ⊢;rw[aYR] at hbl;rw[aD (aW (show dep l[i]<(l[i+1]).2.2.2 from h2)),nD _ _ (by rw[aYA,aYA,aYA,aYR,aYR,aY9]; omega),aB,aG (eQ (by simp only[len,aE,aYR,aY9]; omega))];dsimp only;refine aZ3 (hself (s2++[(l[i]).1],a++c++(60::(l[i]).1)++atT (l[i]).2.2.1++[62]) (i+1) (by omega) (by omega) ⟨by show(s2++[(l[i]).1]).length≤_; rw[aYA,aYR,aY9]; omega,?_⟩) ?_
      ·show(a++c++(60::(l[i]).1)++atT (l[i]).2.2.1++[62]).length+(prT (s2++[(l[i]).1]) (l.drop (i+1))).length≤100000000;rw[aYA,aYA,aYA,aYA,aYR,aYR,aY9];omega
      ·show VI (a++c++(60::(l[i]).1)++atT (l[i]).2.2.1++[62]++prT (s2++[(l[i]).1]) (l.drop (i+1)))=_;congr 1;simp
     ·rw[aC (aX (show ¬dep l[i]<(l[i+1]).2.2.2 from h2)),←hw];exact leaf (by rw[hkd]; exact decide_eq_false h2)
    ·have hkd:kid l[i] (l.drop (i+1))=false:=by
      rw[aXH (by omega)];rfl
     rw[aC (aX (by rw[hw]; simp only[len]; omega))];exact leaf hkd
  ·obtain rfl:i=l.length:=by omega
   have hb:=hI.2
   rw[aY1] at hb ⊢
   have hpr:prT st []=cls st:=rfl
   rw[hpr] at hb ⊢
   have e1:w64 (aJ (len st) 1)=(st.length:Int)-1:=by
    have:=hI.1
    simp only[aJ,len];rw[bU (by omega)]
   rw[aC (aX (by simp only[len]; omega)),bX,e1];refine aZ3 (VH (by have:=hI.1; omega) _ fuelH st.length a (by have:=bI; have:=hI.1; omega) (aZ0 _) (by rw[aYY]; omega)) ?_;rw[aYY]
   have hlen:q64 fuelH ((),a++cls st)=some (len (a++cls st),(),a++cls st):=rfl
   dsimp only;rw[hlen,aB];unfold VI
   by_cases h9:262144<(a++cls st).length
   ·rw[aD (aW (by simp only[len]; omega)),if_pos h9]
   ·rw[aC (aX (by simp only[len]; omega)),if_neg h9]
 ·rw[aD (cP hc),if_pos hc]
theorem aGZ:∀(l:List At) (seen:List Ls),atE seen l=0→(∀a∈l,nmX a.1=true∧vld a.2=true∧a.1 ∉ seen)∧(l.map Prod.fst).Nodup
 | [],_,_=>⟨fun a ha=>(by cases ha),by simp⟩
 |a::l,seen,h=>by
  unfold atE at h
  by_cases h1:nmX a.1=false
  ·rw[if_pos h1] at h; cases h
  rw[if_neg h1] at h
  by_cases h2:a.1∈seen
  ·rw[if_pos h2] at h; cases h
  rw[if_neg h2] at h
  by_cases h3:vld a.2=false
  ·rw[if_pos h3] at h; cases h
  rw[if_neg h3] at h;obtain⟨i1,i2⟩:=aGZ l _ h;refine⟨fun b hb=>?_,?_⟩
  ·rcases aZL.1 hb with rfl|hb
   ·exact⟨by simpa using h1,by simpa using h3,h2⟩
   ·obtain⟨q1,q2,q3⟩:=i1 b hb;exact⟨q1,q2,fun k=>q3 (aXZ _ k)⟩
  ·rw[aZM,List.nodup_cons];refine⟨fun k=>?_,i2⟩;obtain⟨b,hb,e⟩:=List.mem_map.1 k;exact(i1 b hb).2.2 (by rw[e]; simp)
theorem aJ6{n:Nd}(h:elE n=0):AtOk n.2.2.1:=by
 obtain⟨_,_,h3,h4⟩:=JH h;obtain⟨i1,i2⟩:=aGZ _ _ h4;exact⟨fun a ha=>(i1 a ha).1,fun a ha=>(i1 a ha).2.1,i2,h3⟩
theorem JI{n:Nat}{nodes:List Nd}{X:Ls}:∀(qs s1:List Ls) (j:Bool),(∀x∈qs,nmX x=true) →
  kU n (nodes,s1++qs.reverse,j) (qs.flatMap clT++X)=kU n (nodes,s1,if qs=[] then j else false) X
 | [],s1,j,_=>by simp
 |q::qs,s1,j,h=>by
  have hq:=h q aYE
  have e1:(q::qs).flatMap clT++X=60::47::(q++62::(qs.flatMap clT++X)):=by
   rw[List.flatMap_cons];unfold clT;simp
  have e2:s1++(q::qs).reverse=(s1++qs.reverse)++[q]:=by simp
  rw[e1,e2,BQ (aCG hq) (fun f=>aGV f hq (by simp))]
  have e3:((s1++qs.reverse)++[q]).dropLast=s1++qs.reverse:=List.dropLast_concat
  show kU n (nodes,((s1++qs.reverse)++[q]).dropLast,false) _=_
  have e5:(if qs=[] then false else false)=false:=by split<;>rfl
  rw[e3,JI qs s1 false fun x hx=>h x (aXV _ hx),e5,if_neg (aY3 _ _)]
theorem FJ{n:Nat}{nodes:List Nd}{X:Ls}(s1 ps:List Ls) (j:Bool) (h:∀x∈ps,nmX x=true) :
  kU n (nodes,s1++ps,j) (cls ps++X)=kU n (nodes,s1,if ps=[] then j else false) X:=by
 have:=JI (n:=n) (nodes:=nodes) (X:=X) ps.reverse s1 j (fun x hx=>h x (List.mem_reverse.1 hx))
 rw[List.reverse_reverse] at this;unfold cls;rw[this];simp
structure BK (p:Ps) (prev:Option Nd) (r:List Nd):Prop where
 ck:ckE prev r=0
 nm:∀x∈p.2.1,nmX x=true
 lo:∀m r',r=m::r'→dep m≤(p.2.1.length:Int)
 jn:p.2.2=true→∃q,prev=some q∧q.1=[]∧dep q=(p.2.1.length:Int)∧1≤dep q
 no:prev=none→p.1=[]∧p.2.1=[]
 ro:p.1.length+r.length≤8192
theorem nE{p:Option Nd}{n:Nd}{r:List Nd}(h:ckE p (n::r)=0):ndE p n=0∧ckE (some n) r=0:=by
 have h:(if ndE p n≠0 then ndE p n else ckE (some n) r)=0:=h
 by_cases e:ndE p n=0
 ·rw[if_neg (fun k=>k e)] at h;exact⟨e,h⟩
 ·rw[if_pos e] at h;exact absurd h e
theorem rQ{q n:Nd}(h:ndE (some q) n=0):1≤dep n∧dep n≤15∧(q.1=[]→dep n≤dep q)∧dep n≤dep q+1:=by
 have h:=lG h
 have h:(if dep n<1 then(8:Int) else if(if q.1≠[] then dep q+1 else dep q)<dep n then 8 else if 15<dep n then 9 else 0)=0:=h
 by_cases e1:dep n<1
 ·rw[if_pos e1] at h; cases h
 rw[if_neg e1] at h
 by_cases e2:(if q.1≠[] then dep q+1 else dep q)<dep n
 ·rw[if_pos e2] at h; cases h
 rw[if_neg e2] at h
 by_cases e3:15<dep n
 ·rw[if_pos e3] at h; cases h
 by_cases e4:q.1=[]
 ·rw[if_neg (fun k=>k e4)] at e2;exact⟨by omega,by omega,fun _=>by omega,by omega⟩
 ·rw[if_pos e4] at e2;exact⟨by omega,by omega,fun k=>absurd k e4,by omega⟩
theorem aG0{n:Nd}(h:ndE none n=0):dep n=0:=by
 have h:=lG h
 have h:(if dep n≠0 then(8:Int) else 0)=0:=h
 by_cases e:dep n=0
 ·exact e
 ·rw[if_pos e] at h; cases h
theorem aG1{st:List Ls}(h:st≠[]):∃t,cls st=60::t:=by
 unfold cls
 match hq:st.reverse with
 | []=>exact absurd (List.reverse_eq_nil_iff.1 hq) h
 |q::qs=>exact⟨_,by rw[List.flatMap_cons]; rfl⟩
theorem aO5{n:Nd}{r:List Nd}{st:List Ls}{tail:Ls}(hc:ckE (some n) r=0) (hn:n.1=[]) (hst:(st.length:Int)=dep n) (h1:1≤dep n):∃t,prT st r++tail=60::t:=by
 have hne:st≠[]:=fun k=>by rw[k] at hst; simp at hst; omega
 match r with
 | [] =>
  obtain⟨t,ht⟩:=aG1 hne;exact⟨_,by show cls st++tail=_; rw[ht]; rfl⟩
 |m::r =>
  obtain⟨k1,_⟩:=nE hc
  have hd:=rQ k1
  have hdm:=hd.2.2.1 hn
  unfold prT
  by_cases e:dep m=dep n
  ·have hm:m.1≠[]:=fun q=>by
    obtain⟨⟨q',e1,e2⟩,_⟩:=yY (FI k1 q);injection e1 with e1;exact e2 ⟨by rw[←e1]; exact hn,by rw[←e1]; exact e.symm⟩
   have hnil:st.drop (dep m).toNat=[]:=aXH (by omega)
   rw[hnil,PE,if_neg hm];exact⟨_,rfl⟩
  ·have hne2:st.drop (dep m).toNat≠[]:=fun k=>by
    have:=congrArg List.length k
    rw[aYV,aY9] at this;omega
   obtain⟨t,ht⟩:=aG1 hne2;rw[ht];exact⟨_,rfl⟩
theorem wN{n:Nat}{tail:Ls}:∀(r:List Nd) (p:Ps) (prev:Option Nd),BK p prev r→kU n p (prT p.2.1 r++tail)=kU n (p.1++r,[],false) tail
 | [],p,prev,hB=>by
  obtain⟨nodes,st,j⟩:=p
  have h:=FJ (n:=n) (nodes:=nodes) (X:=tail) [] st j hB.nm
  rw[aZA] at h;refine aZ3 h ?_;rw[aY5]
  have hj:(if st=[] then j else false)=false:=by
   by_cases e:st=[]
   ·rw[if_pos e]
    cases hj:j with
    |false=>rfl
    |true =>
     obtain⟨q,_,_,h3,h4⟩:=hB.jn hj;rw[e] at h3;simp at h3;omega
   ·rw[if_neg e]
  rw[hj]
 |m::r,p,prev,hB=>by
  obtain⟨nodes,st,j⟩:=p;obtain⟨k1,k2⟩:=nE hB.ck
  have hlo:dep m≤(st.length:Int):=hB.lo m r rfl
  have hdm:=OT (lG k1)
  have hro:nodes.length+(m::r).length≤8192:=hB.ro
  rw[aYR] at hro
  have hnm:∀x∈st,nmX x=true:=hB.nm
  have hcl:=FJ (n:=n) (nodes:=nodes) (X:=((if m.1=[] then esc m.2.1++prT (st.take (dep m).toNat) r
   else 60::(m.1++(atT m.2.2.1++(if kid m r=true then 62::prT (st.take (dep m).toNat++[m.1]) r else 47::62::prT (st.take (dep m).toNat) r))))++tail)) (st.take (dep m).toNat) (st.drop (dep m).toNat) j (fun x hx=>hnm x (aX0 hx))
  rw[aXO] at hcl
  have hpr:prT st (m::r)++tail=cls (st.drop (dep m).toNat)++((if m.1=[] then esc m.2.1++prT (st.take (dep m).toNat) r
   else 60::(m.1++(atT m.2.2.1++(if kid m r=true then 62::prT (st.take (dep m).toNat++[m.1]) r else 47::62::prT (st.take (dep m).toNat) r))))++tail):=by
   rw[←aYK];rfl
  show kU n (nodes,st,j) (prT st (m::r)++tail)=kU n (nodes++m::r,[],false) tail;rw[hpr,hcl]
  have hs2l:(st.take (dep m).toNat).length=(dep m).toNat:=by rw[aYU]; omega
  have hs2n:∀x∈st.take (dep m).toNat,nmX x=true:=fun x hx=>hnm x (aXY hx)
  have hdrop:st.drop (dep m).toNat=[]↔dep m=(st.length:Int):=by
   rw[List.drop_eq_nil_iff];omega
  generalize hj2:(if st.drop (dep m).toNat=[] then j else false)=j2;generalize st.take (dep m).toNat=s2 at *
  have hfin:nodes++m::r=(nodes++[m])++r:=by simp
  rw[hfin]
  by_cases he:m.1=[]
  ·obtain⟨⟨q,hq,hnot⟩,ht1,ht2,ht3⟩:=yY (FI k1 he)
   have hds:=rQ (by rw[←hq]; exact k1)
   have hj3:j2=false:=by
    cases hjj:j2 with
    |false=>rfl
    |true =>
     rw[hjj] at hj2
     by_cases hdr:st.drop (dep m).toNat=[]
     ·rw[if_pos hdr] at hj2;obtain⟨q',e1,e2,e3,_⟩:=hB.jn hj2;rw[hq] at e1;injection e1 with e1;subst e1
      have hdl:=hdrop.1 hdr
      exact absurd ⟨e2,by have e3:dep q=(st.length:Int):=e3; omega⟩ hnot
     ·rw[if_neg hdr] at hj2;cases hj2
   have hs2:s2≠[]:=fun k=>by rw[k] at hs2l; simp at hs2l; omega
   rw[hj3,if_pos he];obtain⟨t,ht⟩:=aO5 (tail:=tail) k2 he (st:=s2) (by omega) hds.1
   have hcat:esc m.2.1++prT s2 r++tail=esc m.2.1++60::t:=by rw[aYK,ht]
   have hroom:gN (nodes,s2,false) true=0:=by
    unfold gN;dsimp only;rw[if_neg (fun k=>hs2 k.1),if_neg (by omega),if_neg (by omega)]
   rw[hcat,BQ (O2 ht1) (fun f=>aCH (p:=(nodes,s2,false)) f ht3 hs2 rfl hroom),←ht]
   have hnode:(([]:Ls),m.2.1,([]:List At),(s2.length:Int))=m:=by
    obtain⟨a,b,c,d⟩:=m
    have e1:a=[]:=he
    have e2:c=[]:=ht2
    have e3:(s2.length:Int)=d:=by
     have:dep (a,b,c,d)=d:=rfl
     omega
    rw[e1,e2,e3]
   show kU n (nodes++[(([]:Ls),m.2.1,([]:List At),(s2.length:Int))],s2,true) (prT s2 r++tail)=_;rw[hnode];refine wN r (nodes++[m],s2,true) (some m) ⟨k2,hs2n,fun m' r' hr=>?_,fun _=>⟨m,rfl,he,by show dep m=(s2.length:Int); omega,hds.1⟩,fun k=>(by cases k),?_⟩
   ·subst hr
    have:=(rQ (nE k2).1).2.2.1 he
    show dep m'≤(s2.length:Int);omega
   ·show(nodes++[m]).length+r.length≤_;rw[aYA,aYR,aY9];omega
  ·have hel:=aGX k1 he
   obtain⟨hn1,hn2,_,_⟩:=JH hel
   have hat:=aJ6 hel
   rw[if_neg he]
   have hroom:gN (nodes,s2,j2) false=0:=by
    unfold gN;dsimp only
    have c1:¬(s2=[]∧(false=true∨nodes≠[])):=fun k=>by
     rcases k.2 with q|q
     ·cases q
     ·cases hp:prev with
      |none=>exact q (hB.no hp).1
      |some q' =>
       have:=(rQ (by rw[←hp]; exact k1)).1
       have h0:=k.1
       rw[h0] at hs2l;simp at hs2l;omega
    rw[if_neg c1,if_neg (by omega),if_neg (by omega)]
   have hnode:((m.1,([]:Ls),m.2.2.1,(s2.length:Int)):Nd)=m:=by
    obtain⟨a,b,c,d⟩:=m
    have e1:b=[]:=hn2
    have e3:(s2.length:Int)=d:=by
     have:dep (a,b,c,d)=d:=rfl
     omega
    rw[e1,e3]
   by_cases hk:kid m r=true
   ·rw[if_pos hk]
    have hcat:60::(m.1++(atT m.2.2.1++62::prT (s2++[m.1]) r))++tail=60::(m.1++(atT m.2.2.1++([62]++(prT (s2++[m.1]) r++tail)))):=by simp
    rw[hcat,BQ (AB (.inl ⟨rfl,rfl⟩) hn1 hat.nm) (fun f=>FH (p:=(nodes,s2,j2)) f (.inl rfl) hn1 hat hroom)];show kU n (nodes++[(m.1,([]:Ls),m.2.2.1,(s2.length:Int))],if(1:Int)=1 then s2++[m.1] else s2,false) _=_;rw[hnode,if_pos rfl];refine wN r (nodes++[m],s2++[m.1],false) (some m) ⟨k2,fun x hx=>?_,fun m' r' hr=>?_,fun k=>(by cases k),fun k=>(by cases k),?_⟩
    ·rcases aY4.1 hx with h|h
     ·exact hs2n x h
     ·simp at h;rw[h];exact hn1
    ·subst hr
     have:=(rQ (nE k2).1).2.2.2
     show dep m'≤((s2++[m.1]).length:Int);rw[aYA,aYR,aY9];omega
    ·show(nodes++[m]).length+r.length≤_;rw[aYA,aYR,aY9];omega
   ·rw[if_neg hk]
    have hcat:60::(m.1++(atT m.2.2.1++47::62::prT s2 r))++tail=60::(m.1++(atT m.2.2.1++([47,62]++(prT s2 r++tail)))):=by simp
    rw[hcat,BQ (AB (.inr ⟨rfl,rfl⟩) hn1 hat.nm) (fun f=>FH (p:=(nodes,s2,j2)) f (.inr rfl) hn1 hat hroom)];show kU n (nodes++[(m.1,([]:Ls),m.2.2.1,(s2.length:Int))],if(3:Int)=1 then s2++[m.1] else s2,false) _=_;rw[hnode,if_neg (by decide)];refine wN r (nodes++[m],s2,false) (some m) ⟨k2,hs2n,fun m' r' hr=>?_,fun k=>(by cases k),fun k=>(by cases k),?_⟩
    ·subst hr
     have:¬dep m<dep m':=fun q=>hk (decide_eq_true q)
     show dep m'≤(s2.length:Int);omega
    ·show(nodes++[m]).length+r.length≤_;rw[aYA,aYR,aY9];omega
theorem aCJ{n:Nat}{tail:Ls}{l:List Nd}(h:mO l=0):kU n p0 (prT [] l++tail)=kU n (l,[],false) tail:=by
 obtain⟨h0,h8,_⟩:=rN h
 have hc:ckE none l=0:=by
  unfold mO at h;rw[if_neg (by omega),if_neg (by omega)] at h;exact h
 have:=wN (n:=n) (tail:=tail) l p0 none ⟨hc,fun x hx=>(by cases hx),fun m r hr=>?_,fun k=>(by cases k),fun _=>⟨rfl,rfl⟩,by show 0+l.length≤_; omega⟩
 ·exact this
 ·subst hr
  have:=aG0 (nE hc).1
  rw[this];exact Int.le_refl _
theorem VJ{l:List Nd}(h:mO l=0) (hl:(prT [] l).length≤262144):lI (prT [] l)=(l,[]):=by
 have hb:=aCJ (n:=(prT [] l).length) (tail:=[]) h
 rw[aY5,FG] at hb;unfold lI;rw[if_neg (by omega),hb]
 have hne:¬(l=[]∨([]:List Ls)≠[]):=fun k=>by
  rcases k with k|k
  ·have:=(rN h).1
   rw[k] at this;simp at this
  ·exact k rfl
 rw[if_neg hne];rfl
theorem Z0{base:Int}{most:Nat}{d:Ls}(h:(oL base most d).2=0):(oL base most d).1≠[]:=by
 unfold oL at *
 split at h
 ·cases h
 ·rename_i h1;rw[if_neg h1]
  split at h
  ·cases h
  ·rename_i h2;rw[if_neg h2];exact V9 (by simpa using h2)
theorem aJ7{c:Ls}(h:(wI c).2=0):(wI c).1≠[]:=by
 rw[ON] at *
 split at h
 ·rename_i e; rw[if_pos e]; simp
 rename_i e1; rw[if_neg e1]
 split at h
 ·rename_i e; rw[if_pos e]; simp
 rename_i e2; rw[if_neg e2]
 split at h
 ·rename_i e; rw[if_pos e]; simp
 rename_i e3; rw[if_neg e3]
 split at h
 ·rename_i e; rw[if_pos e]; simp
 rename_i e4; rw[if_neg e4]
 split at h
 ·rename_i e; rw[if_pos e]; simp
 rename_i e5; rw[if_neg e5];unfold EX at *
 split at h
 ·rename_i e; rw[if_pos e]; exact Z0 h
 rename_i e6; rw[if_neg e6]
 split at h
 ·rename_i e; rw[if_pos e]; exact Z0 h
 ·cases h
theorem PF:∀(n:Nat) (l a:Ls),l.length≤n→(un a l).2=0→a.length+(if l=[] then 0 else 1)≤(un a l).1.length
 | 0,l,a,h,_=>by
  have:l=[]:=aWZ (by omega)
  subst this;rw[EZ,if_pos rfl];exact aZ0 _
 |n+1,[],a,_,_=>by rw[EZ,if_pos rfl]; exact aZ0 _
 |n+1,b::l,a,h,h0=>by
  rw[aYR] at h;rw[wK] at *;rw[if_neg (aY3 _ _)]
  split at h0
  ·cases h0
  rename_i h60;rw[if_neg h60]
  split at h0
  ·rename_i h38;rw[if_pos h38]
   split at h0
   ·rename_i he;exact absurd h0 he
   ·rename_i he;rw[if_neg he]
    have he:(kS l).2.2=0:=by simpa using he
    have ho:=OP he
    have hne:=aJ7 ho.2.2.2
    have hl:0<(kS l).1.length:=by rw[ho.2.2.1]; exact aX8.2 hne
    have:=PF n (l.drop ((l.takeWhile bD).length+1)) (a++(kS l).1) (by rw[aYV]; omega) h0
    rw[aYA] at this;omega
  ·rename_i h38;rw[if_neg h38]
   have:=PF n l (a++[b]) (by omega) h0
   rw[aYA,aYR,aY9] at this;omega
theorem Z1{s:Ls}(h:(bT s).2=0) (h0:s≠[]):(bT s).1≠[]∧vld (bT s).1=true:=by
 unfold bT at *
 split at h
 ·rename_i e;exact absurd h e
 rename_i e;rw[if_neg e]
 split at h
 ·cases h
 rename_i e2;rw[if_neg e2]
 have e:(un [] (s.map flatB)).2=0:=by simpa using e
 have:=PF _ (s.map flatB) [] (aZ0 _) e
 have hne:s.map flatB≠[]:=fun k=>h0 (List.map_eq_nil_iff.1 k)
 rw[if_neg hne,aY9] at this;refine⟨fun k=>?_,by simpa using e2⟩
 have k:(un [] (s.map flatB)).1=[]:=k
 rw[k] at this;simp at this
theorem aG2{s:Ls}(h:(bT s).2=0):vld (bT s).1=true:=by
 by_cases h0:s=[]
 ·subst h0; rfl
 ·exact(Z1 h h0).2
theorem aG3{t r:Ls}{a:Aq}(h:gL t=some (a,r)):wtA a+r.length≤t.length:=by
 unfold gL at h
 split at h
 ·cases h
 split at h
 ·cases h
 rename_i b r2 h2
 split at h
 ·split at h
  ·cases h
  rename_i q r4 h4
  split at h
  ·split at h
   ·rename_i v r5 h5;injection h with h;injection h with h h';subst h;subst h'
    have e1:=FC h5
    have e2:=iC r2
    have e3:=iC (t.drop (dI t).length)
    have e4:=rO t
    rw[h4,aYR] at e2;rw[h2,aYR,aYV] at e3;unfold wtA;dsimp only;omega
   ·cases h
  ·cases h
 ·cases h
theorem sP{α:Type}(f:α→Nat):∀(a b:List α),bkL f (a++b)=bkL f a+bkL f b
 | [],b=>by simp[bkL]
 |x::a,b=>by
  have:=sP f a b
  show f x+bkL f (a++b)=f x+bkL f a+bkL f b;omega
theorem Z2:∀(n:Nat) (t:Ls) (l:List Aq){k:Int}{m:List Aq}{r:Ls},uS n t l=some (k,m,r)→bkL wtA m+r.length<bkL wtA l+t.length
 | 0,_,_,_,_,_,h=>by cases h
 |n+1,t,l,k,m,r,h=>by
  have hk:=iC t
  unfold uS at h;generalize skp t=u at *
  match u with
  | []=>cases h
  |b::q =>
   dsimp only at h;rw[aYR] at hk
   split at h
   ·injection h with h;injection h with h1 h;injection h with h2 h3;subst h2 h3;omega
   split at h
   ·injection h with h;injection h with h1 h;injection h with h2 h3;subst h2 h3;rw[aYV];omega
   split at h
   ·cases h
   cases ha:gL (b::q) with
   |none=>rw[ha] at h; cases h
   |some p =>
    obtain⟨a,r2⟩:=p;rw[ha] at h
    have h1:=aG3 ha
    have h2:=Z2 n r2 (l++[a]) h
    rw[sP] at h2
    have h3:bkL wtA [a]=wtA a:=by show wtA a+0=_; omega
    rw[aYR] at h1;omega
theorem O5{s r:Ls}{t:Tok}(h:jB s=some (t,r)) (c0:t.1≠0) (c2:t.1≠2) (c4:t.1≠4):t.1=1∨t.1=3:=by
 match s with
 | []=>cases h
 |b::u =>
  rw[eX] at h
  have note:∀head tail:Ls,kX (b::u) head tail=some (t,r)→t.1=4:=fun head tail h=>by
   unfold kX at h
   split at h
   ·cases h
   ·injection h with h;injection h with h _;rw[←h]
  split at h
  ·split at h
   ·exact absurd (note _ _ h) c4
   split at h
   ·exact absurd (note _ _ h) c4
   split at h
   ·unfold OY at h
    split at h
    ·cases h
    split at h
    ·cases h
    ·split at h
     ·injection h with h;injection h with h _;subst h;exact absurd rfl c2
     ·cases h
   ·unfold AP at h
    split at h
    ·cases h
    split at h
    ·cases h
    ·rename_i k l q hq;injection h with h;injection h with h h';subst h;exact(rP _ _ _ hq).2.2
  ·injection h with h;injection h with h _;subst h;exact absurd rfl c0
theorem aG4{s r:Ls}{t:Tok}(h:jB s=some (t,r)):(t.1=1∨t.1=3→t.2.1.length+bkL wtA t.2.2.1+r.length≤s.length)∧(t.1=0→t.2.2.2≠[]):=by
 match s with
 | []=>cases h
 |b::u =>
  rw[eX] at h
  have note:∀head tail:Ls,kX (b::u) head tail=some (t,r)→t.1=4:=fun head tail h=>by
   unfold kX at h
   split at h
   ·cases h
   ·injection h with h;injection h with h _;rw[←h]
  have n4:t.1=4→(t.1=1∨t.1=3→t.2.1.length+bkL wtA t.2.2.1+r.length≤(b::u).length)∧(t.1=0→t.2.2.2≠[]):=fun e=>⟨fun k=>by omega,fun k=>by omega⟩
  split at h
  ·split at h
   ·exact n4 (note _ _ h)
   split at h
   ·exact n4 (note _ _ h)
   split at h
   ·unfold OY at h
    split at h
    ·cases h
    split at h
    ·cases h
    ·split at h
     ·injection h with h;injection h with h _;subst h;exact⟨fun k=>(by rcases k with k|k<;>cases k),fun k=>(by cases k)⟩
     ·cases h
   ·unfold AP at h
    split at h
    ·cases h
    split at h
    ·cases h
    ·rename_i k l q hq;injection h with h;injection h with h h';subst h;subst h'
     have h1:=Z2 _ _ _ hq
     have h2:=rP _ _ _ hq
     have h3:=rO ((b::u).drop 1)
     have h4:bkL wtA ([]:List Aq)=0:=rfl
     have h5:((b::u).drop 1).length=u.length:=rfl
     rw[aYV,h4,h5] at h1;rw[h5] at h3;refine⟨fun _=>?_,fun e=>?_⟩
     ·show(dI ((b::u).drop 1)).length+bkL wtA l+_≤_;rw[aYR];omega
     ·rcases h2.2.2 with h3|h3<;>(have e:k=0:=e; omega)
  ·rename_i hb;injection h with h;injection h with h _;subst h;refine⟨fun k=>(by rcases k with k|k<;>cases k),fun _=>?_⟩;show(b::u).takeWhile gM≠[];rw[aX9,if_pos (by simpa [gM] using hb)];simp
theorem JJ:∀(l:List At) (seen:List Ls) (out:List At),(atM seen out l).1=0→(∀a∈l,nmX a.1=true) →
  ∃m,(atM seen out l).2=out++m∧m.length=l.length∧atE seen m=0∧bkL wtA m≤4*bkL wtA l
 | [],seen,out,_,_=>⟨[],by simp[atM],rfl,rfl,by simp[bkL]⟩
 |a::l,seen,out,h,hn=>by
  unfold atM at *
  split at h
  ·cases h
  rename_i h1
  split at h
  ·rename_i h2;exact absurd h h2
  rename_i h2;rw[if_neg h1,if_neg h2]
  have h2:(bT a.2).2=0:=by simpa using h2
  obtain⟨m,e1,e2,e3,e4⟩:=JJ l _ _ h fun x hx=>hn x (aXV _ hx)
  refine⟨(a.1,(bT a.2).1)::m,by rw[e1]; simp,by simp[e2],?_,?_⟩
  ·unfold atE;dsimp only;rw[if_neg (by rw[hn a aYE]; decide),if_neg h1,if_neg (by rw[aG2 h2]; decide)];exact e3
  ·have h3:=sO a.2
   have b1:bkL wtA ((a.1,(bT a.2).1)::m)=a.1.length+1+((bT a.2).1.length+1)+bkL wtA m:=rfl
   have b2:bkL wtA (a::l)=a.1.length+1+(a.2.length+1)+bkL wtA l:=rfl
   omega
theorem BT:∀(l:List Nd) (p:Option Nd) (n:Nd),ckE p l=0→ndE (match l.getLast? with|some q=>some q|none=>p) n=0→ckE p (l++[n])=0
 | [],p,n,_,h=>by
  show(if ndE p n≠0 then ndE p n else ckE (some n) [])=0
  have h:ndE p n=0:=h
  rw[if_neg (fun k=>k h)];rfl
 |m::l,p,n,h,hn=>by
  obtain⟨h1,h2⟩:=nE h;show(if ndE p m≠0 then ndE p m else ckE (some m) (l++[n]))=0;rw[if_neg (fun k=>k h1)];refine BT l (some m) n h2 ?_
  match l,hn with
  | [],hn=>exact hn
  |a::l,hn =>
   have e:(m::a::l).getLast?=(a::l).getLast?:=by simp[List.getLast?_cons]
   rw[e] at hn;obtain⟨q,hq,_⟩:=lH (aY3 a l);rw[hq] at hn ⊢;exact hn
theorem Z3:∀(l:List Nd) (p:Option Nd) (n:Nd),ckE p (l++[n])=0→ckE p l=0∧ndE (match l.getLast? with|some q=>some q|none=>p) n=0
 | [],p,n,h=>⟨rfl,(nE h).1⟩
 |m::l,p,n,h=>by
  obtain⟨h1,h2⟩:=nE (r:=l++[n]) h;obtain⟨h3,h4⟩:=Z3 l (some m) n h2;refine⟨?_,?_⟩
  ·show(if ndE p m≠0 then ndE p m else ckE (some m) l)=0;rw[if_neg (fun k=>k h1)];exact h3
  ·match l,h4 with
   | [],h4=>exact h4
   |a::l,h4 =>
    have e:(m::a::l).getLast?=(a::l).getLast?:=by simp[List.getLast?_cons]
    rw[e];obtain⟨q,hq,_⟩:=lH (aY3 a l);rw[hq] at h4 ⊢;exact h4
structure Vp (i:Nat) (p:Ps):Prop where
 ck:ckE none p.1=0
 ln:p.1.length≤8192
 em:p.1=[]→p.2.1=[]∧p.2.2=false
 la:∀q,p.1.getLast?=some q→(p.2.1.length:Int)≤(if q.1≠[] then dep q+1 else dep q)∧((q.1=[]∧dep q=(p.2.1.length:Int))↔p.2.2=true)
 wt:bkL wtN p.1≤10*i
theorem FK{p:Ps}{text:Bool}(h:gN p text=0):¬(p.2.1=[]∧(text=true∨p.1≠[]))∧p.2.1.length≤15∧(p.1.length<8192∨(text=true∧p.2.2=true)):=by
 unfold gN at h
 split at h
 ·cases h
 rename_i h1
 split at h
 ·cases h
 rename_i h2
 split at h
 ·cases h
 rename_i h3;refine⟨h1,by omega,?_⟩
 by_cases e:p.1.length<8192
 ·exact .inl e
 ·refine .inr ?_
  by_cases e2:text=true∧p.2.2=true
  ·exact e2
  ·exact absurd ⟨by omega,e2⟩ h3
theorem VK{p:Ps} {i:Nat} (hp:Vp i p) (n:Nd) (hd:dep n=(p.2.1.length:Int)) (h15:p.2.1.length≤15) (h0:p.2.1=[]→p.1=[]):uR (match p.1.getLast? with|some q=>some q|none=>none) n=0:=by
 cases hl:p.1.getLast? with
 |none =>
  have he:p.1=[]:=List.getLast?_eq_none_iff.1 hl
  have:=(hp.em he).1
  rw[this] at hd;show(if dep n≠0 then(8:Int) else 0)=0;rw[if_neg (by rw[hd]; simp)]
 |some q =>
  have hne:p.1≠[]:=fun k=>by rw[k] at hl; cases hl
  have hs:p.2.1≠[]:=fun k=>hne (h0 k)
  have hpos:=aX8.2 hs
  have:=(hp.la q hl).1
  show(if dep n<1 then(8:Int) else if(if q.1≠[] then dep q+1 else dep q)<dep n then 8 else if 15<dep n then 9 else 0)=0;rw[if_neg (by omega),if_neg (by omega),if_neg (by omega)]
theorem O6{p:Option Nd}{n:Nd}(h:uR p n=0) (h2:if n.1≠[] then elE n=0 else txE p n=0):ndE p n=0:=by
 unfold ndE;rw[if_neg (fun k=>k h)]
 by_cases e:n.1≠[]
 ·rw[if_pos e] at *; exact h2
 ·rw[if_neg e] at *; exact h2
theorem Vp.mono{i j:Nat}{p:Ps}(h:Vp i p) (hj:i≤j):Vp j p:=⟨h.ck,h.ln,h.em,h.la,by have:=h.wt; omega⟩
theorem FL{α:Type}(l:List α) (x:α):(l++[x]).getLast?=some x:=by simp
theorem O7{s r:Ls}{t:Tok}{i:Nat}{p:Ps}(first:Bool) (hn:jB s=some (t,r)) (hp:Vp i p) (h0:(gA p t first).1=0):Vp (i+(s.length-r.length)) (gA p t first).2:=by
 have hl:=lT hn
 have hk:=FF hn
 have hw:=aG4 hn
 have mono:Vp (i+(s.length-r.length)) p:=hp.mono (Nat.le_add_right _ _)
 unfold gA at *
 by_cases c0:t.1=0
 ·rw[if_pos c0] at *
  have htl:=hk.2 c0
  have hne:=hw.2 c0
  unfold JC at *
  split at h0
  ·rename_i e; rw[if_pos e]; exact mono
  rename_i e; rw[if_neg e]
  split at h0
  ·rename_i e2; exact absurd h0 e2
  rename_i e2; rw[if_neg e2]
  split at h0
  ·rename_i e3; exact absurd h0 e3
  rename_i e3; rw[if_neg e3]
  have e2:(bT t.2.2.2).2=0:=by simpa using e2
  have e3:gN p true=0:=by simpa using e3
  have hm:=Z1 e2 hne
  have hml:=sO t.2.2.2
  have hr:=FK e3
  have hst:p.2.1≠[]:=fun k=>hr.1 ⟨k,.inl rfl⟩
  split
  ·rename_i hj
   have hpn:p.1≠[]:=fun k=>by have:=(hp.em k).2; rw[hj] at this; cases this
   obtain⟨n,q1,q2,_⟩:=lH hpn
   have hjt:mQ p.1 (bT t.2.2.2).1=p.1.dropLast++[(n.1,n.2.1++(bT t.2.2.2).1,n.2.2)]:=by unfold mQ; rw[q1]
   have hla:=hp.la n q1
   have hck:=hp.ck
   rw[q2] at hck;obtain⟨k1,k2⟩:=Z3 _ _ _ hck
   have hn1:=(hla.2.2 hj).1
   obtain⟨t1,t2,t3,t4⟩:=yY (FI k2 hn1)
   have hdn:ndE (match p.1.dropLast.getLast? with|some q=>some q|none=>none) (n.1,n.2.1++(bT t.2.2.2).1,n.2.2)=0:=by
    have hd:=lG k2
    refine O6 hd ?_;rw[if_neg (show ¬n.1≠[] from fun k=>k hn1)];obtain⟨q,hq,hq2⟩:=t1;rw[hq];unfold txE
    have hx:txP (some q) (n.1,n.2.1++(bT t.2.2.2).1,n.2.2)=false:=decide_eq_false hq2
    rw[if_neg (by rw[hx]; decide),if_neg (fun k=>t2 (List.append_eq_nil_iff.1 k).1),if_neg (by show ¬0<n.2.2.1.length; rw[t3]; simp),if_neg (by show ¬vld (n.2.1++_)=false; rw[aJH t4,hm.2]; decide)]
   have hlen:p.1.length=p.1.dropLast.length+1:=by
    have h:=congrArg List.length q2
    rw[aYA,aYR,aY9] at h;exact h
   refine⟨?_,?_,fun k=>?_,fun q hq=>?_,?_⟩
   ·show ckE none (mQ _ _)=0;rw[hjt];exact BT _ _ _ k1 hdn
   ·show(mQ _ _).length≤_;rw[hjt,aYA,aYR,aY9]
    have:=hp.ln
    omega
   ·have k:mQ p.1 (bT t.2.2.2).1=[]:=k
    rw[hjt] at k;simp at k
   ·have hq:(mQ p.1 (bT t.2.2.2).1).getLast?=some q:=hq
    rw[hjt,FL] at hq;injection hq with hq;subst hq;exact hla
   ·show bkL wtN (mQ _ _)≤_
    have hwt:=hp.wt
    rw[q2,sP] at hwt
    have b1:bkL wtN [n]=n.1.length+1+(n.2.1.length+1+(bkL wtA n.2.2.1+1+1))+0:=rfl
    have b2:bkL wtN [((n.1,n.2.1++(bT t.2.2.2).1,n.2.2):Nd)]=n.1.length+1+((n.2.1++(bT t.2.2.2).1).length+1+(bkL wtA n.2.2.1+1+1))+0:=rfl
    rw[aYA] at b2;rw[hjt,sP];omega
  ·rename_i hj
   have hj:p.2.2=false:=by simpa using hj
   have hln:p.1.length<8192:=hr.2.2.elim id fun k=>by rw[hj] at k; cases k.2
   have hpn:p.1≠[]:=fun k=>hst (hp.em k).1
   obtain⟨q,q1,q2,_⟩:=lH hpn
   have hd:=VK hp (([],(bT t.2.2.2).1,[],(p.2.1.length:Int)):Nd) rfl hr.2.1 (fun k=>absurd k hst)
   refine⟨?_,?_,fun k=>?_,fun q' hq'=>?_,?_⟩
   ·show ckE none (p.1++[_])=0;refine BT _ _ _ hp.ck (O6 hd ?_);rw[if_neg (by simp)];rw[q1];unfold txE
    have hx:txP (some q) (([],(bT t.2.2.2).1,[],(p.2.1.length:Int)):Nd)=false:=decide_eq_false fun k=>by
     have:=(hp.la q q1).2.1 k
     rw[hj] at this;cases this
    rw[if_neg (by rw[hx]; decide),if_neg hm.1,if_neg (by simp),if_neg (by show ¬vld (bT t.2.2.2).1=false; rw[hm.2]; decide)]
   ·show(p.1++[_]).length≤_;rw[aYA,aYR,aY9];omega
   ·have k:p.1++[_]=[]:=k
    simp at k
   ·have hq':(p.1++[_]).getLast?=some q':=hq'
    rw[FL] at hq';injection hq' with hq';subst hq';exact⟨Int.le_refl _,⟨fun _=>rfl,fun _=>⟨rfl,rfl⟩⟩⟩
   ·show bkL wtN (p.1++[_])≤_
    have hwt:=hp.wt
    rw[sP]
    have b2:bkL wtN [(([],(bT t.2.2.2).1,[],(p.2.1.length:Int)):Nd)]=0+1+((bT t.2.2.2).1.length+1+(0+1+1))+0:=rfl
    omega
 rw[if_neg c0] at *
 by_cases c2:t.1=2
 ·rw[if_pos c2] at *;unfold aCD at *
  split at h0
  ·cases h0
  rename_i e1; rw[if_neg e1]
  split at h0
  ·rename_i e2;rw[if_pos e2]
   have hst:p.2.1≠[]:=fun k=>by rw[k] at e2; cases e2
   have hpos:=aX8.2 hst
   refine⟨mono.ck,mono.ln,fun k=>absurd (hp.em k).1 hst,fun q hq=>?_,mono.wt⟩
   have hla:=hp.la q hq
   show(p.2.1.dropLast.length:Int)≤_∧((q.1=[]∧dep q=(p.2.1.dropLast.length:Int))↔false=true);rw[aXX];refine⟨by have:=hla.1; omega,⟨fun k=>?_,fun k=>(by cases k)⟩⟩
   have h1:=hla.1
   rw[if_neg (fun z=>z k.1)] at h1;omega
  ·cases h0
 rw[if_neg c2] at *
 by_cases c4:t.1=4
 ·rw[if_pos c4] at *
  split<;>exact mono
 rw[if_neg c4] at *;unfold yU at *
 split at h0
 ·cases h0
 rename_i e1; rw[if_neg e1]
 split at h0
 ·cases h0
 rename_i e2; rw[if_neg e2]
 split at h0
 ·rename_i e3; exact absurd h0 e3
 rename_i e3; rw[if_neg e3]
 split at h0
 ·rename_i e4; exact absurd h0 e4
 rename_i e4; rw[if_neg e4]
 have e1:(t.2.1::t.2.2.1.map Prod.fst).all nmX=true:=by simpa using e1
 rw[aZP,aYS] at e1
 have e3:(atM [] [] t.2.2.1).1=0:=by simpa using e3
 have e4:gN p false=0:=by simpa using e4
 have hr:=FK e4
 have hln:p.1.length<8192:=hr.2.2.elim id fun k=>by cases k.1
 obtain⟨m,m1,m2,m3,m4⟩:=JJ _ _ _ e3 (fun a ha=>aY0.1 e1.2 a.1 (List.mem_map_of_mem ha));rw[aZA] at m1
 have hnm:t.2.1≠[]:=fun k=>by have:=e1.1; rw[k] at this; cases this
 have hkind:t.1=1∨t.1=3:=O5 hn c0 c2 c4
 have hwt1:=hw.1 hkind
 have hd:=VK hp ((t.2.1,[],m,(p.2.1.length:Int)):Nd) rfl hr.2.1 (fun k=>by
  by_cases e:p.1=[]
  ·exact e
  ·exact absurd ⟨k,.inr e⟩ hr.1)
 refine⟨?_,?_,fun k=>?_,fun q' hq'=>?_,?_⟩
 ·show ckE none (p.1++[(t.2.1,[],(atM [] [] t.2.2.1).2,(p.2.1.length:Int))])=0;rw[m1];refine BT _ _ _ hp.ck (O6 hd ?_);rw[if_pos hnm];unfold elE;dsimp only;rw[if_neg (by rw[e1.1]; decide),if_neg (by simp),if_neg (by omega)];exact m3
 ·show(p.1++[_]).length≤_;rw[aYA,aYR,aY9];omega
 ·have k:p.1++[_]=[]:=k
  simp at k
 ·have hq':(p.1++[_]).getLast?=some q':=hq'
  rw[FL] at hq';injection hq' with hq';subst hq';dsimp only;rw[if_pos hnm];refine⟨?_,⟨fun k=>absurd k.1 hnm,fun k=>(by cases k)⟩⟩
  have hdd:dep ((t.2.1,[],(atM [] [] t.2.2.1).2,(p.2.1.length:Int)):Nd)=(p.2.1.length:Int):=rfl
  rw[hdd]
  split
  ·rw[aYA,aYR,aY9];omega
  ·omega
 ·show bkL wtN (p.1++[(t.2.1,[],(atM [] [] t.2.2.1).2,(p.2.1.length:Int))])≤_
  have hwt:=hp.wt
  rw[m1,sP]
  have b2:bkL wtN [((t.2.1,[],m,(p.2.1.length:Int)):Nd)]=t.2.1.length+1+(0+1+(bkL wtA m+1+1))+0:=rfl
  omega
theorem FM{n:Nat}{l:List Nd}:∀(k:Nat) (s:Ls) (p:Ps) (i:Nat),s.length≤k→i+s.length=n→Vp i p→kU n p s=(l,none)→mO l=0∧bkL wtN l≤10*n
 |k,[],p,i,_,hi,hV,h=>by
  rw[FG] at h
  split at h
  ·injection h with _ h; cases h
  rename_i e;injection h with h _;subst h
  have hne:p.1≠[]:=fun q=>e (.inl q)
  have hl:=aX8.2 hne
  refine⟨?_,by have:=hV.wt; rw[aY9] at hi; omega⟩;unfold mO;rw[if_neg (by omega),if_neg (by have:=hV.ln; omega)];exact hV.ck
 | 0,b::u,_,_,hk,_,_,_=>by simp at hk
 |k+1,b::u,p,i,hk,hi,hV,h=>by
  cases hn:jB (b::u) with
  |none =>
   rw[JF (aY3 _ _) hn] at h;injection h with _ h;cases h
  |some q =>
   obtain⟨t,r⟩:=q
   have hl:=lT hn
   rw[yV hn] at h
   split at h
   ·injection h with _ h; cases h
   rename_i e
   have e:(gA p t (decide ((b::u).length=n))).1=0:=by simpa using e
   exact FM k r _ (i+((b::u).length-r.length)) (by omega) (by omega) (O7 _ hn hV e) h
structure TokNm (s:Ls) (t:Tok) (r:Ls):Prop where
 nm:t.2.1.length≤s.length
 an:∀a∈t.2.2.1,a.1.length≤s.length
 tx:t.1=0→t.2.2.2=s.take (s.length-r.length)
 kd:t.1=0∨t.1=1∨t.1=2∨t.1=3∨t.1=4
structure NdOk (p:Ps):Prop where
 nl:p.1.length≤8192
 al:∀n∈p.1,n.2.2.1.length≤16
 st:p.2.1≠[]→p.1≠[]
 jn:p.2.2=true→p.1≠[]
end
end Go.Mo
end
