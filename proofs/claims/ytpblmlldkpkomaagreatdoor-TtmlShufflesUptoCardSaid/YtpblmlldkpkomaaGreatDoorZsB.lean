/-
  Texts put together, in build order: XB XC XD XE XF TA TB TC XG XH XI XJ XK XL XM XN XP XQ XR XS XU XV XT XW XX XY XZ XZa XZb TD TE TF TG TH TI TJ TK TL TM TN TO TP TQ TR TS TU TBa TBb.
-/
import Derived.Test.YtpblmlldkpkomaaGreatDoorZsA
import Derived.Test.YtpblmlldkpkomaaGreatDoorYsC
import Derived.KernelRfl
import Derived.Lib.ValidLaws
import Derived.Lib.TrimUEq
import Derived.Lib.MapLaws
import Derived.Lib.IndexMore
import Derived.Lib.ParseIntBCases
set_option linter.all false

section
set_option linter.all false
section
namespace Go.Mo
open Go Go.W
theorem aG{α:Type}{b:Bool}{k:Option α}(h:b=true):grd b k=k:=by subst h; rfl
theorem aE{α:Type}{b:Bool}{x y:Option α}(h:b=true):cnd b x y=x:=by subst h; rfl
theorem aD{α:Type}{b:Bool}{x y:Option α}(h:b=false):cnd b x y=y:=by subst h; rfl
theorem bG{α β:Type}{x:Option α}{a:α}{k:α→Option β}(h:x=some a):bnd x k=k a:=by subst h; rfl
theorem cI{F α:Type}{k:F}{t:F→Option α}:jn k t=t k:=rfl
theorem eU{V R:Type}{F:(V→Option R)→V→Option R}{n:Nat}{v:V}:bN F (n+1) v=F (bN F n) v:=rfl
theorem cR{x:Int}(h:-9223372036854775808≤x∧x≤9223372036854775807):w64 x=x:=by
 show IntKind.wrap .i64 x=x;unfold IntKind.wrap;simp only[IntKind.bits,IntKind.signed,aPU,decide_eq_true_eq,show(2:Int)^64=18446744073709551616 from rfl,show(2:Int)^(64-1)=9223372036854775808 from rfl]
 split<;>omega
theorem bC{a b:Int}(h:a<b):ilt a b=true:=decide_eq_true h
theorem bB{a b:Int}(h:¬a<b):ilt a b=false:=decide_eq_false h
theorem BW{a b:Int}(h:a≤b):ile a b=true:=decide_eq_true h
theorem aCZ{a b:Int}(h:¬a≤b):ile a b=false:=decide_eq_false h
theorem iN{a b:Int}(h:a=b):ieq a b=true:=by subst h; simp[ieq]
theorem lS{a b:Int}(h:a≠b):ieq a b=false:=by simp[ieq,h]
theorem dF{a b:Int}(h:a≠b):ine a b=true:=by simp[ine,h]
theorem fB{a b:Int}(h:a=b):ine a b=false:=by simp[ine,h]
theorem bH{i n:Int}(h:0≤i∧i<n):inb i n=true:=decide_eq_true h
theorem yX{i n:Int}(h:0≤i∧i≤n):in2 i n=true:=decide_eq_true h
theorem dW{n:Int}{b:Nat}(h:n*b≤140737488355328):cW n b=true:=decide_eq_true h
theorem UA{a b:UInt8}(h:n8 a=n8 b):a=b:=by
 unfold n8 at h;apply UInt8.toNat_inj.1;omega
end Go.Mo
end
section
namespace Go.Mo
open Go Go.W
set_option maxRecDepth 100000
theorem eE{P:UInt8→Bool}(h:((List.range 256).all fun n=>P (UInt8.ofNat n))=true) (x:UInt8):P x=true:=by
 have h1:x.toNat<256:=x.toNat_lt
 have:=aO6.1 h x.toNat (List.mem_range.2 h1)
 simpa using this
noncomputable def P3:Nat:=Classical.choose (⟨7995000,rfl⟩:∃n:Nat,n=7995000)
noncomputable def fuelH:Nat:=P3+5000
theorem bA:fuelH=8000000:=by
 have h:P3=7995000:=Classical.choose_spec (⟨7995000,rfl⟩:∃n:Nat,n=7995000)
 unfold fuelH;rw[h]
def hM:List Int:=[161,162,163,164,165,166,167,169,171,174,176,183,187,189,191,192,193,194,195,196,197,198,199,200,201,202,203,204,205,206,207,209,210,211,212,213,214,216,217,218,219,220,223,224,225,226,227,228,229,230,231,232,233,234,235,236,237,238,239,241,242,243,244,245,246,248,249,250,251,252,338,339,8212,8216,8217,8220,8221,8226,8230,8482,9834]
def gJ:List Int:=(List.range 95).map fun n=>((n+32:Nat):Int)
def vN:List Int→Int→Int→Option Int
 | [],_,_=>some (-1)
 |c::l,i,r=>cnd (ieq c r) (some i) (vN l (aF i 1) r)
def rep:Y_:=[32,33,34,35,36,37,38,39,40,41,42,43,44,45,46,47,48,49,50,51,52,53,54,55,56,57,58,59,60,61,62,63,64,65,66,67,68,69,70,71,72,73,74,75,76,77,78,79,80,81,82,83,84,85,86,87,88,89,90,91,92,93,94,95,96,97,98,99,100,101,102,103,104,105,106,107,108,109,110,111,112,113,114,115,116,117,118,119,120,121,122,123,124,125,126,194,161,194,162,194,163,194,164,194,165,194,166,194,167,194,169,194,171,194,174,194,176,194,183,194,187,194,189,194,191,195,128,195,129,195,130,195,131,195,132,195,133,195,134,195,135,195,136,195,137,195,138,195,139,195,140,195,141,195,142,195,143,195,145,195,146,195,147,195,148,195,149,195,150,195,152,195,153,195,154,195,155,195,156,195,159,195,160,195,161,195,162,195,163,195,164,195,165,195,166,195,167,195,168,195,169,195,170,195,171,195,172,195,173,195,174,195,175,195,177,195,178,195,179,195,180,195,181,195,182,195,184,195,185,195,186,195,187,195,188,197,146,197,147,226,128,148,226,128,152,226,128,153,226,128,156,226,128,157,226,128,162,226,128,166,226,132,162,226,153,170]
theorem C6(N:Nat) (r:Int):q11 (N+300) (rep,r)=vN (gJ++hM) 0 r:=by kernel_rfl
theorem P4(r:Int):q11 fuelH (rep,r)=vN (gJ++hM) 0 r:=C6 (P3+4700) r
theorem C7(N:Nat) (r:Int):q12 N r=cnd (ile 32 r) (cnd (ile r 126) (some (w64 (wr .i32 (aJ r 32)))) (bnd (q11 N (rep,r)) fun v=>some v)) (bnd (q11 N (rep,r)) fun v=>some v):=by kernel_rfl
theorem P5(r:Int):q12 fuelH r=cnd (ile 32 r) (cnd (ile r 126) (some (w64 (wr .i32 (aJ r 32)))) (bnd (q11 fuelH (rep,r)) fun v=>some v)) (bnd (q11 fuelH (rep,r)) fun v=>some v):=C7 fuelH r
theorem KL:∀(l:List Int) (i r:Int),0≤i→∃k,vN l i r=some k∧(k<0↔l.contains r=false)
 | [],i,r,_=>⟨-1,rfl,by simp⟩
 |c::l,i,r,h=>by
  by_cases hc:c=r
  ·exact⟨i,by simp only[vN]; rw[aE (iN hc)],by subst hc; simp; omega⟩
  ·obtain⟨k,h1,h2⟩:=KL l (aF i 1) r (by show 0≤i+1; omega);refine⟨k,by simp only[vN]; rw[aD (lS hc)]; exact h1,?_⟩;rw[h2];simp only[List.contains_cons,Bool.or_eq_false_iff];exact⟨fun h=>⟨by simpa using fun e=>hc e.symm,h⟩,fun h=>h.2⟩
def iO(r:Int):Bool:=(decide (32≤r)&&decide (r≤126))||hM.contains r
theorem aAZ{x:Int}(h:0≤x∧x<1000):wr .i32 x=x:=by
 show IntKind.wrap .i32 x=x;unfold IntKind.wrap;simp only[IntKind.bits,IntKind.signed,aPU,decide_eq_true_eq,show(2:Int)^32=4294967296 from rfl,show(2:Int)^(32-1)=2147483648 from rfl]
 split<;>omega
theorem P6(r:Int):gJ.contains r=(decide (32≤r)&&decide (r≤126)):=by
 rw[aPK];simp only[gJ,aNY,List.mem_map,List.mem_range,aOY,decide_eq_true_eq];constructor
 ·rintro⟨n,hn,rfl⟩; omega
 ·intro h; exact⟨(r-32).toNat,by omega,by omega⟩
theorem C8(r:Int):∃i,q12 fuelH r=some i∧(i<0↔iO r=false):=by
 rw[P5,P4];obtain⟨k,h1,h2⟩:=KL (gJ++hM) 0 r (Int.le_refl _)
 have hin:(gJ++hM).contains r=iO r:=by
  unfold iO;rw[←P6];simp[List.contains_eq_mem,aPA]
 rw[hin] at h2
 by_cases ha:32≤r
 ·rw[aE (BW ha)]
  by_cases hb:r≤126
  ·rw[aE (BW hb)];refine⟨_,rfl,?_⟩
   have:w64 (wr .i32 (aJ r 32))=r-32:=by
    simp only[aJ];rw[aAZ (by omega),cR (by omega)]
   rw[this];simp[iO,ha,hb]
  ·rw[aD (aCZ hb)];exact⟨k,by rw[bG h1],h2⟩
 ·rw[aD (aCZ ha)];exact⟨k,by rw[bG h1],h2⟩
end Go.Mo
end
section
namespace Go.Mo
open Go Go.W Go.Lib
set_option maxRecDepth 100000
theorem kX(l:Y_):1≤(decodeL l).2:=by
 unfold decodeL Utf8.decode;simp only
 repeat' split
 all_goals first|exact aP6 _|(show 1≤_; omega)
theorem WU(s:Y_) (p:Nat):tL s p=((decodeL (s.drop p)).1:Int):=by
 have:=decodeL_drop (bst s) p
 have e:(bst s).data.toList=s:=rfl
 rw[e] at this;unfold tL;rw[this]
theorem GE(s:Y_) (p:Nat):tM s p=(decodeL (s.drop p)).2:=by
 have:=decodeL_drop (bst s) p
 have e:(bst s).data.toList=s:=rfl
 rw[e] at this;unfold tM;rw[this]
def rok:Nat→Y_→Bool
 | 0,_=>true
 |n+1,l=>if l=[] then true else if iO ((decodeL l).1:Int)=true then rok n (l.drop (decodeL l).2) else false
def vld(l:Y_):Bool:=rok l.length l
theorem pC:∀n,rok n []=true
 | 0=>rfl
 |n+1=>by simp[rok]
theorem KM:∀(n m:Nat) (l:Y_),l.length≤n→l.length≤m→rok n l=rok m l
 | 0,m,l,h,_=>by
  have:l=[]:=aM5 (by omega)
  subst this;rw[pC,pC]
 |n+1,0,l,_,h=>by
  have:l=[]:=aM5 (by omega)
  subst this;rw[pC,pC]
 |n+1,m+1,l,h1,h2=>by
  by_cases hl:l=[]
  ·subst hl; rw[pC,pC]
  ·have hp:=kX l
   have hlen:0<l.length:=aOE.2 hl
   simp only[rok,hl,if_false]
   split
   ·exact KM n m _ (by simp; omega) (by simp; omega)
   ·rfl
theorem yY(l:Y_) (hl:l≠[]):vld l=if iO ((decodeL l).1:Int)=true then vld (l.drop (decodeL l).2) else false:=by
 have hp:=kX l
 have hlen:0<l.length:=aOE.2 hl
 unfold vld;obtain⟨n,hn⟩:∃n,l.length=n+1:=⟨l.length-1,by omega⟩;rw[hn];simp only[rok,hl,if_false]
 split
 ·exact KM _ _ _ (by simp; omega) (aP6 _)
 ·rfl
theorem BX:∀(n:Nat) (l:Y_),l.length≤n→vld l=true→validD l=true
 |n,l,h,hv=>by
  by_cases hl:l=[]
  ·subst hl; rfl
  ·have hlen:0<l.length:=aOE.2 hl
   have hp:=kX l
   rw[yY l hl] at hv
   split at hv
   ·rename_i hr;rw[validD_step l hl,if_neg ?_]
    ·cases n with
     |zero=>omega
     |succ n=>exact BX n _ (by simp; omega) hv
    ·rintro⟨e,_⟩;rw[e] at hr;exact absurd hr (by decide)
   ·cases hv
theorem yZ{s:Y_}(hs:s.length≤100000000) (Ix:Int→Option Int) (hI:∀r:Int,∃i,Ix r=some i∧(i<0↔iO r=false)):∀(fuel p:Nat),s.length-p<fuel→p≤s.length →
  bN (fun v2 (v3:Y_×Int) =>
  cnd (nlt (toN v3.2) (kQ v3.1))
   (bnd (Ix (tL v3.1 (toN v3.2))) fun v4 =>
   cnd (ilt v4 (0:Int))
    (some false)
    (v2 (v3.1,ofN (lF (toN v3.2) (tM v3.1 (toN v3.2))))))
   (some true)) fuel (s,ofN p)=some (vld (s.drop p))
 | 0,p,h,_=>by omega
 |fuel+1,p,h,hp=>by
  rw[eU]
  have et:toN (ofN p)=p:=by simp[toN,ofN]
  simp only[et]
  by_cases hl:p<s.length
  ·have hne:s.drop p≠[]:=by intro e; have:=congrArg List.length e; simp at this; omega
   have hw:=kX (s.drop p)
   have hle:=decodeL_le (s.drop p) hne
   rw[aO1] at hle;rw[aE (show nlt p (kQ s)=true from decide_eq_true hl)];obtain⟨i,h1,h2⟩:=hI (tL s p);rw[bG h1];rw[yY _ hne,←WU]
   by_cases hi:i<0
   ·rw[aE (bC hi),if_neg (by rw[h2.1 hi]; decide)]
   ·rw[aD (bB hi)]
    have hin:iO (tL s p)=true:=by
     cases hq:iO (tL s p) with
     |true=>rfl
     |false=>exact absurd (h2.2 hq) hi
    rw[if_pos hin,GE,aPL];show bN _ fuel (s,ofN (p+(decodeL (s.drop p)).2))=_;exact yZ hs Ix hI fuel _ (by omega) (by omega)
  ·rw[aD (show nlt p (kQ s)=false from decide_eq_false hl)]
   have:s.drop p=[]:=by simp; omega
   rw[this];rfl
theorem kI(s:Y_) (hs:s.length≤4000000):q13 fuelH s=some (vld s):=by
 unfold q13
 have hv:utf8_ValidString fuelH s=some (validD s):=by
  show grd (gQ (len s)) (some (validD s))=_;exact aG (decide_eq_true (by simp only[len]; omega))
 rw[bG hv];simp only[cI]
 cases hd:validD s with
 |false =>
  rw[aE (show bS false=true from rfl)]
  cases hq:vld s with
  |false=>rfl
  |true=>rw[BX _ s (aP6 _) hq] at hd; cases hd
 |true =>
  rw[aD (show bS true=false from rfl)]
  have:=yZ (s:=s) (by omega) (q12 fuelH) (fun r=>by obtain⟨i,h2,h3⟩:=C8 r; exact⟨i,h2,h3⟩) fuelH 0 (by have:=bA; omega) (aP7 _)
  simpa using this
theorem jH{α:Type}{p:Prop} [Decidable p] {x y:Option α}:cnd (decide p) x y=if p then x else y:=by
 by_cases h:p
 ·rw[aE (decide_eq_true h),if_pos h]
 ·rw[aD (decide_eq_false h),if_neg h]
theorem cS{α:Type}{a b:Int}{x y:Option α}:cnd (ilt a b) x y=if a<b then x else y:=jH
theorem wP{α:Type}{a b:Int}{x y:Option α}:cnd (ile a b) x y=if a≤b then x else y:=jH
theorem wQ{α:Type}{a b:Int}{x y:Option α}:cnd (ieq a b) x y=if a=b then x else y:=by
 by_cases h:a=b
 ·rw[aE (iN h),if_pos h]
 ·rw[aD (lS h),if_neg h]
theorem sV{α:Type}{a b:Int}{x y:Option α}:cnd (ine a b) x y=if a≠b then x else y:=by
 by_cases h:a=b
 ·rw[aD (fB h),if_neg (by simp[h])]
 ·rw[aE (dF h),if_pos h]
def okc(c:Int):Bool:=decide ((65≤c∧c≤90)∨(48≤c∧c≤57)∨c=95∨c=45)
theorem aA0(c:Int) (X:Option Bool) :
  (cnd (ilt c (n8 (65:UInt8)))
          (cnd (ilt c (n8 (48:UInt8)))
           (cnd (ine c (n8 (95:UInt8)))
            (cnd (ine c (n8 (45:UInt8)))
             (some false)
             X)
            X)
           (cnd (ilt (n8 (57:UInt8)) c)
            (cnd (ine c (n8 (95:UInt8)))
             (cnd (ine c (n8 (45:UInt8)))
              (some false)
              X)
             X)
            X))
          (cnd (ilt (n8 (90:UInt8)) c)
           (cnd (ilt c (n8 (48:UInt8)))
            (cnd (ine c (n8 (95:UInt8)))
             (cnd (ine c (n8 (45:UInt8)))
              (some false)
              X)
             X)
            (cnd (ilt (n8 (57:UInt8)) c)
             (cnd (ine c (n8 (95:UInt8)))
              (cnd (ine c (n8 (45:UInt8)))
               (some false)
               X)
              X)
             X))
           X))=cnd (okc c) X (some false):=by
 have e1:n8 (65:UInt8)=65:=rfl
 have e2:n8 (48:UInt8)=48:=rfl
 have e3:n8 (95:UInt8)=95:=rfl
 have e4:n8 (45:UInt8)=45:=rfl
 have e5:n8 (57:UInt8)=57:=rfl
 have e6:n8 (90:UInt8)=90:=rfl
 rw[e1,e2,e3,e4,e5,e6];simp only[cS,sV,okc,jH]
 repeat' split
 all_goals first|rfl|(exfalso; omega)
def upc(c:Int):Bool:=decide (65≤c∧c≤90)
def nm(s:Y_):Bool:=decide (1≤s.length∧s.length≤16)&&upc (n8 (s.getD 0 0))&&s.all fun c=>okc (n8 c)
theorem P7{s:Y_}{i:Nat}(h:i<s.length) (P:UInt8→Bool):(s.drop i).all P=(P s[i]&&(s.drop (i+1)).all P):=by
 rw[aNE h,List.all_cons]
theorem WW{s:Y_}(hs:s.length≤16):∀(fuel i:Nat),s.length-i<fuel→i≤s.length →
  bN (fun v2 (v3:Int) =>
        cnd (ilt v3 (len s))
         (grd (inb v3 (len s)) (cnd (okc (n8 (aA s (toN v3) (0:UInt8)))) (v2 (w64 (aF v3 (1:Int)))) (some false)))
         (some true)) fuel (i:Int)=some ((s.drop i).all fun c=>okc (n8 c))
 | 0,i,h,_=>by omega
 |fuel+1,i,h,hi=>by
  rw[eU]
  by_cases hl:i<s.length
  ·have g:aA s (toN (i:Int)) 0=s[i]:=by simp[aA,toN,hl]
   rw[aE (bC (by simp only[len]; omega)),aG (bH (by simp only[len]; omega)),g,P7 hl]
   have hw:w64 (aF (i:Int) 1)=((i+1:Nat):Int):=by
    simp only[aF]; rw[cR (by omega)]; omega
   rw[hw,WW hs fuel (i+1) (by omega) (by omega)];cases okc (n8 s[i])<;>rfl
  ·rw[aD (bB (by simp only[len]; omega))]
   have:s.drop i=[]:=by simp; omega
   rw[this];rfl
theorem mM(s:Y_):q14 fuelH s=some (nm s):=by
 unfold q14;simp only[cI,aA0]
 by_cases h1:s.length<1
 ·rw[aE (bC (by simp only[len]; omega))];simp[nm]; omega
 ·rw[aD (bB (by simp only[len]; omega))]
  by_cases h2:16<s.length
  ·rw[aE (bC (by simp only[len]; omega))];simp[nm]; omega
  ·rw[aD (bB (by simp only[len]; omega)),aG (bH (by simp only[len]; omega))]
   have e0:aA s (toN 0) 0=s.getD 0 0:=rfl
   have e1:n8 (65:UInt8)=65:=rfl
   have e2:n8 (90:UInt8)=90:=rfl
   rw[e0,e1,e2,cS]
   have hd:decide (1≤s.length∧s.length≤16)=true:=decide_eq_true (by omega)
   split
   ·rename_i h3
    have:upc (n8 (s.getD 0 0))=false:=decide_eq_false (by omega)
    simp only[nm,this,Bool.and_false,aPP]
   ·rw[aG (bH (by simp only[len]; omega)),cS]
    split
    ·rename_i h4
     have:upc (n8 (s.getD 0 0))=false:=decide_eq_false (by omega)
     simp only[nm,this,Bool.and_false,aPP]
    ·have hu:upc (n8 (s.getD 0 0))=true:=decide_eq_true (by omega)
     have:=WW (s:=s) (by omega) fuelH 0 (by have:=bA; omega) (aP7 _)
     simp only[nm,hu,hd,aPU]
     simpa using this
abbrev Lbl:=Int×Int×Int×Int×Bool
abbrev Hdr:=UInt8×Y_×Y_×Int×Int×Lbl×Lbl×Int×Int
theorem oG{α:Type}{p:Prop} [Decidable p] {x y:Option α}:cnd (bS (decide p)) x y=if p then y else x:=by
 by_cases hp:p<;>simp[hp,bS,cnd]
theorem aB{α β:Type}{a:α}{k:α→Option β}:bnd (some a) k=k a:=rfl
def KN:Nat→Y_→List Int
 | 0,_=>[]
 |n+1,l=>if l=[] then [] else((decodeL l).1:Int)::KN n (l.drop (decodeL l).2)
def rns(l:Y_):List Int:=KN l.length l
def ofR(l:List Int):Y_:=l.flatMap enc
theorem lT:∀n,KN n []=[]
 | 0=>rfl
 |n+1=>by simp[KN]
theorem BY:∀(n m:Nat) (l:Y_),l.length≤n→l.length≤m→KN n l=KN m l
 | 0,m,l,h,_=>by
  have:l=[]:=aM5 (by omega)
  subst this;rw[lT,lT]
 |n+1,0,l,_,h=>by
  have:l=[]:=aM5 (by omega)
  subst this;rw[lT,lT]
 |n+1,m+1,l,h1,h2=>by
  by_cases hl:l=[]
  ·subst hl; rw[lT,lT]
  ·have hp:=kX l
   have hlen:0<l.length:=aOE.2 hl
   simp only[KN,hl,if_false];rw[BY n m _ (by simp; omega) (by simp; omega)]
theorem KO(l:Y_) (hl:l≠[]):rns l=((decodeL l).1:Int)::rns (l.drop (decodeL l).2):=by
 have hp:=kX l
 have hlen:0<l.length:=aOE.2 hl
 unfold rns;obtain⟨n,hn⟩:∃n,l.length=n+1:=⟨l.length-1,by omega⟩;rw[hn];simp only[KN,hl,if_false];rw[BY n _ _ (by simp; omega) (aP6 _)]
theorem aA1{r:Int}(h:iO r=true):r∈gJ++hM:=by
 unfold iO at h;rw[←P6,Bool.or_eq_true] at h;rw[aPA];rcases h with h|h
 ·exact .inl (aNY.1 h)
 ·exact .inr (aNY.1 h)
theorem WX{P:Int→Bool}(h:((gJ++hM).all P)=true){r:Int}(hr:iO r=true):P r=true :=
 aO6.1 h r (aA1 hr)
theorem GF:∀(n:Nat) (l:Y_),l.length≤n→(rns l).length≤l.length
 |n,l,h=>by
  by_cases hl:l=[]
  ·subst hl; exact aP6 _
  ·have hlen:0<l.length:=aOE.2 hl
   have hp:=kX l
   rw[KO l hl]
   cases n with
   |zero=>omega
   |succ n =>
    have:=GF n (l.drop (decodeL l).2) (by simp; omega)
    simp at this ⊢;omega
def KP{σ R:Type}(g:Int→σ→(σ→Option R)→Option R) (e:σ→Option R):List Int→σ→Option R
 | [],a=>e a
 |r::l,a=>g r a fun a'=>KP g e l a'
theorem KQ{V R σ:Type}{F:(V→Option R)→V→Option R}{s:Y_}(st:σ→Nat→V) (g:Int→σ→(σ→Option R)→Option R) (e:σ→Option R)
  (hstep:∀self a p,p<s.length→F self (st a p)=g (tL s p) a fun a'=>self (st a' (p+tM s p)))
  (hend:∀self a p,s.length≤p→F self (st a p)=e a):∀(fuel p:Nat) (a:σ),s.length-p<fuel→bN F fuel (st a p)=KP g e (rns (s.drop p)) a
 | 0,p,a,h=>by omega
 |fuel+1,p,a,h=>by
  rw[eU]
  by_cases hp:p<s.length
  ·have hne:s.drop p≠[]:=by intro e; have:=congrArg List.length e; simp at this; omega
   have hw:=kX (s.drop p)
   rw[hstep _ _ _ hp,KO _ hne,←WU,KP,aPL,←GE];congr 1;funext a';rw[GE]
   have:=KQ st g e hstep hend fuel (p+(decodeL (s.drop p)).2) a' (by omega)
   exact this
  ·rw[hend _ _ _ (by omega)]
   have:s.drop p=[]:=by simp; omega
   rw[this];rfl
def KR{α σ R:Type}(g:Nat→α→σ→(σ→Option R)→Option R) (e:σ→Option R):Nat→List α→σ→Option R
 |_,[],a=>e a
 |i,x::l,a=>g i x a fun a'=>KR g e (i+1) l a'
theorem KS{V R σ α:Type}{F:(V→Option R)→V→Option R}{l:List α}(st:σ→Nat→V) (g:Nat→α→σ→(σ→Option R)→Option R) (e:σ→Option R)
  (hstep:∀self a i (h:i<l.length),F self (st a i)=g i l[i] a fun a'=>self (st a' (i+1)))
  (hend:∀self a,F self (st a l.length)=e a):∀(fuel i:Nat) (a:σ),i≤l.length→l.length-i<fuel→bN F fuel (st a i)=KR g e i (l.drop i) a
 | 0,i,a,_,h=>by omega
 |fuel+1,i,a,hi,h=>by
  rw[eU]
  by_cases hl:i<l.length
  ·rw[hstep _ _ _ hl,aNE hl,KR];congr 1;funext a';exact KS st g e hstep hend fuel (i+1) a' (by omega) (by omega)
  ·obtain rfl:i=l.length:=by omega
   rw[hend,aO7];rfl
theorem aX{i n:Nat}(h:i<n) (hn:n≤9223372036854775807):w64 (aF (i:Int) 1)=((i+1:Nat):Int):=by
 simp only[aF]; rw[cR (by omega)]; omega
theorem bJ{α:Type}{l:List α}{i:Nat}{d:α}(h:i<l.length):aA l (toN (i:Int)) d=l[i]:=by simp[aA,toN,h]
theorem aL5{a b:Nat}(h:a<b):nlt a b=true:=decide_eq_true h
theorem aL6{a b:Nat}(h:¬a<b):nlt a b=false:=decide_eq_false h
theorem WY(n:Nat):toN (ofN n)=n:=by simp[toN,ofN]
def ixE(r:Int):Option Int:=cnd (ile 32 r) (cnd (ile r 126) (some (w64 (wr .i32 (aJ r 32)))) (vN (gJ++hM) 0 r)) (vN (gJ++hM) 0 r)
def ix(r:Int):Int:=(ixE r).getD 0
def aMY:List Int:=[33,99,76,36,89,124,83,67,34,82,111,46,34,50,63,65,65,65,65,65,65,65,67,69,69,69,69,73,73,73,73,78,79,79,79,79,79,79,85,85,85,85,115,97,97,97,97,97,97,97,99,101,101,101,101,105,105,105,105,110,111,111,111,111,111,111,117,117,117,117,79,111,45,39,39,34,34,46,46,84,35]
def bas(r:Int):Int:=if r<127 then r else aMY.getD ((ix r).toNat-95) 0
def aMZ:List (UInt8×Y_×List Int):=[(193,[195,128,195,136,195,140,195,146,195,153],[192,200,204,210,217]),(194,[195,129,195,137,195,141,195,147,195,154],[193,201,205,211,218]),(195,[195,130,195,138,195,142,195,148,195,155],[194,202,206,212,219]),(196,[195,131,195,145,195,149],[195,209,213]),(197,[],[]),(198,[],[]),(199,[],[]),(200,[195,132,195,139,195,143,195,150,195,156],[196,203,207,214,220]),(201,[],[]),(202,[195,133],[197]),(203,[195,135],[199])]
def sgs:List (Int×UInt8):=[(161,161),(162,162),(163,163),(164,164),(165,165),(166,166),(167,167),(169,168),(8216,169),(8220,170),(171,171),(174,172),(8212,173),(8226,174),(8230,175),(176,176),(8482,180),(183,183),(8217,185),(8221,186),(187,187),(189,189),(191,191),(9834,213),(198,225),(216,233),(338,234),(230,241),(248,249),(339,250),(223,251)]
end Go.Mo
end
section
end
section
namespace Go.Mo
open Go Go.W Go.Lib
set_option maxRecDepth 100000
noncomputable section
theorem WZ{n:Int}(h:n≤9223372036854775807):gQ n=true:=decide_eq_true h
theorem cY(x y:Y_):seq x y=decide (x=y):=by
 unfold seq
 by_cases h:x=y
 ·subst h; simp
 ·rw[decide_eq_false h]
  simpa using h
def low(r:Int):Int:=if(65≤r∧r≤90)∨(192≤r∧r<223) then r+32 else if r=338 then 339 else r
def aM0(a:UInt8):List Int:=match aMZ.find? fun x=>x.1==a with
 |some x=>x.2.2
 |none=>[]
def acG:List Int→UInt8→Option (Int×Int)
 | [],_=>some (0,0)
 |r::l,b=>cnd (ieq (bas r) (n8 b)) (some (r,(2:Int))) (cnd (ieq (bas (low r)) (n8 b)) (some (low r,(2:Int))) (acG l b))
def sgF(a:UInt8):Option (Int×UInt8):=sgs.find? fun x=>n8 x.2==n8 a
end
end Go.Mo
end
section
namespace Go.Mo
open Go Go.W Go.Lib
set_option maxRecDepth 100000
abbrev Sty:=UInt8×Bool×Bool
abbrev Run:=Y_×Sty×Y_
abbrev Row:=List Run
theorem wR{α:Type}{b:Bool}{x y:Option α}:cnd b x y=if b=true then x else y:=by cases b<;>rfl
theorem lC{b:Bool}:(bS b=true)=(b=false):=by cases b<;>simp[bS]
theorem dL{a b:Y_}:(seq a b=true)=(a=b):=by rw[cY]; simp
theorem oH{a b:Int}:(ieq a b=true)=(a=b):=by simp[ieq]
theorem aE8{a b:Int}:(ilt a b=true)=(a<b):=by simp[ilt]
theorem zA{a b:Bool}:(nA a b=true)=(a=b):=by simp[nA]
theorem pD{a b:Bool}:(cZ a b=true)=(a=true∧b=true):=by simp[cZ]
theorem P8{a b:UInt8}:(n8 a=n8 b)=(a=b):=propext ⟨UA,fun h=>by rw[h]⟩
theorem KT{i:Nat}(h:0<i) (hn:i≤9223372036854775807):w64 (aJ (i:Int) 1)=((i-1:Nat):Int):=by
 simp only[aJ]; rw[cR (by omega)]; omega
theorem lU{i:Nat}(hn:i<9223372036854775807):w64 (aJ ((i+1:Nat):Int) 1)=(i:Int):=by
 rw[KT (Nat.succ_pos i) (by omega)]; rfl
theorem UB{a b:Sty}:(a=b)=(a.1=b.1∧a.2.1=b.2.1∧a.2.2=b.2.2):=by
 obtain⟨a1,a2,a3⟩:=a; obtain⟨b1,b2,b3⟩:=b; simp
def rE(a b:Run):Prop:=a.2.1=b.2.1∧a.2.2=[]∧b.2.2=[]
instance (a b:Run):Decidable (rE a b):=by unfold rE; infer_instance
def kJ(p:Option Run) (x:Run):Int :=
 if vld x.1=false then 10 else if x.1=[] then 4 else if ¬n8 x.2.1.1≤6 then 12 else if vld x.2.2=false then 10 else match p with
  |none=>0
  |some p=>if rE p x then 8 else 0
def C9:Option Run→List Run→Int
 |_,[]=>0
 |p,x::r=>if kJ p x≠0 then kJ p x else C9 (some x) r
def lD(l:Row):Int:=if 16<l.length then 9 else C9 none l
def UC(l:Row):Prop:=∀x∈l,x.1.length≤4000000∧x.2.2.length≤4000000
def before{α:Type}(l:List α):Nat→Option α
 | 0=>none
 |i+1=>l[i]?
theorem BZ(l:Row):∀(r:List Run) (i:Nat),l.drop i=r→i≤l.length→KR (fun i (x:Run) (_:Unit) self=>if kJ (before l i) x≠0 then some (kJ (before l i) x) else self ()) (fun _=>some (0:Int)) i r ()=some (C9 (before l i) r)
 | [],i,_,_=>rfl
 |x::r,i,h,hi=>by
  have hx:l[i]?=some x:=by rw[←List.head?_drop,h]; rfl
  have hr:l.drop (i+1)=r:=by rw[←aPL,h]; rfl
  have hl:i<l.length:=(aNC.1 hx).1
  simp only[KR,C9];rw[BZ l r (i+1) hr (by omega)]
  have e:before l (i+1)=some x:=hx
  rw[e]
  by_cases hc:kJ (before l i) x≠0
  ·rw[if_pos hc,if_pos hc]
  ·rw[if_neg hc,if_neg hc]
theorem zB(N:Nat) (a b:Run):q29 N (a,b)=some (decide (rE a b)):=by
 unfold q29;simp only[wR,pD,oH,zA,P8,cY,decide_eq_true_eq]
 by_cases h1:a.2.1.1=b.2.1.1∧a.2.1.2.1=b.2.1.2.1∧a.2.1.2.2=b.2.1.2.2
 ·rw[if_pos h1]
  have:a.2.1=b.2.1:=by rw[UB]; exact h1
  by_cases h2:a.2.2=[]
  ·rw[if_pos h2]; simp[rE,this,h2]
  ·rw[if_neg h2]; simp[rE,h2]
 ·rw[if_neg h1]
  have:¬a.2.1=b.2.1:=by rw[UB]; exact h1
  simp[rE,this]
theorem KU{l:Row}(hl:UC l):q30 fuelH l=some (lD l):=by
 unfold q30
 by_cases h:16<l.length
 ·rw[aE (bC (by simp only[len]; omega))]; simp[lD,h]
 ·rw[aD (bB (by simp only[len]; omega)),cI];refine aP9 (KS (l:=l) (fun (_:Unit) (p:Nat)=>(p:Int)) (fun i (x:Run) (_:Unit) self=>if kJ (before l i) x≠0 then some (kJ (before l i) x) else self ()) (fun _=>some (0:Int)) (fun self a i hi=>?_) (fun self a=>?_) fuelH 0 () (aP7 _) (by have:=bA; omega)) ?_
  ·rw[aE (bC (by simp only[len]; omega)),aG (bH (by simp only[len]; omega)),bJ hi];obtain⟨b1,b2⟩:=hl l[i] (aO8 hi);rw[bG (kI _ b1),bG (show q28 fuelH l[i].2.1=some (ile (n8 l[i].2.1.1) 6) from rfl),bG (kI _ b2)];simp only[wR,lC,dL,ile,decide_eq_false_iff_not];rw[aX hi (by omega)]
   cases i with
   |zero =>
    have e0:before l 0=none:=rfl
    rw[e0,if_neg (show ¬ilt (0:Int) ((0:Nat):Int)=true by decide)];simp only[kJ]
    repeat' split
    all_goals first|rfl|(exfalso; omega)|simp_all
   |succ i =>
    have e0:before l (i+1)=some l[i]:=by simp only[before]; exact aNH (by omega)
    rw[e0,if_pos (show ilt (0:Int) ((i+1:Nat):Int)=true from bC (by omega)),lU (by omega),aG (bH (by simp only[len]; omega)),bJ (show i<l.length by omega),bG (zB _ _ _)];simp only[kJ,decide_eq_true_eq]
    repeat' split
    all_goals first|rfl|(exfalso; omega)|simp_all
  ·rw[aD (bB (by simp only[len]; omega))]
  ·rw[aPM,BZ l l 0 rfl (aP7 _)];simp[lD,h,before]
def itI{α σ R:Type}(f:Nat→α→σ→Option R ⊕ σ) (e:σ→Option R):Nat→List α→σ→Option R
 |_,[],a=>e a
 |i,x::l,a=>match f i x a with
  | .inl r=>r
  | .inr a'=>itI f e (i+1) l a'
def Rnd{V R σ:Type}(X:Option R) (self:V→Option R) (next:σ→V) (I:σ→Prop):Option R ⊕ σ→Prop
 | .inl r=>X=r
 | .inr a=>X=self (next a)∧I a
theorem rF{V R σ α:Type}{F:(V→Option R)→V→Option R}{l:List α}(st:σ→Nat→V) (f:Nat→α→σ→Option R ⊕ σ) (e:σ→Option R) (I:Nat→σ→Prop)
  (hstep:∀self a i (h:i<l.length),I i a→Rnd (F self (st a i)) self (fun a=>st a (i+1)) (I (i+1)) (f i l[i] a))
  (hend:∀self a,I l.length a→F self (st a l.length)=e a):∀(fuel i:Nat) (a:σ),i≤l.length→l.length-i<fuel→I i a→bN F fuel (st a i)=itI f e i (l.drop i) a
 | 0,i,a,_,h,_=>by omega
 |fuel+1,i,a,hi,h,hI=>by
  rw[eU]
  by_cases hl:i<l.length
  ·rw[aNE hl,itI]
   have hs:=hstep (bN F fuel) a i hl hI
   cases hf:f i l[i] a with
   |inl r=>rw[hf] at hs; exact hs
   |inr a' =>
    rw[hf] at hs;rw[hs.1];exact rF st f e I hstep hend fuel (i+1) a' (by omega) (by omega) hs.2
  ·obtain rfl:i=l.length:=by omega
   rw[hend _ _ hI,aO7];rfl
def tot:Row→Nat
 | []=>0
 |x::r=>x.1.length+tot r
theorem wS(a b:Row):tot (a++b)=tot a+tot b:=by
 induction a with
 |nil=>simp[tot]
 |cons x a ih=>simp only[aOZ,tot,ih]; omega
theorem aA2{l:Row}{p:Run}(h:l.getLast?=some p):l=l.dropLast++[p]:=by
 cases l with
 |nil=>cases h
 |cons x l =>
  rw[List.getLast?_eq_some_getLast (List.cons_ne_nil x l)] at h;injection h with h;rw[←h];exact(List.dropLast_concat_getLast (List.cons_ne_nil x l)).symm
theorem jN{out:Row}{p:Run}(h:out.getLast?=some p) (y:Run):pI out (out.length-1) y=out.dropLast++[y]:=by
 have e:=aA2 h
 have hl:out.length-1=out.dropLast.length:=by simp
 rw[hl]
 conv=>lhs; rw[e]
 unfold pI;rw[aNW _ _ (by simp)];simp
end Go.Mo
end
section
namespace Go.Mo
open Go Go.W Go.Lib
set_option maxRecDepth 100000
noncomputable section
theorem XO:∀(l:List Run) (p:Option Run),C9 p l=0→∀x∈l,vld x.1=true∧x.1≠[]∧n8 x.2.1.1≤6∧vld x.2.2=true
 | [],_,_,x,hx=>by cases hx
 |y::l,p,h,x,hx=>by
  simp only[C9] at h
  split at h
  ·rename_i hc; exact absurd h hc
  ·rename_i hc;rcases aPR.1 hx with rfl|hx
   ·have hc:kJ p x=0:=by simpa using hc
    unfold kJ at hc
    split at hc
    ·cases hc
    ·split at hc
     ·cases hc
     ·split at hc
      ·cases hc
      ·split at hc
       ·cases hc
       ·rename_i h1 h2 h3 h4;exact⟨by simpa using h1,h2,by omega,by simpa using h4⟩
   ·exact XO l _ h x hx
theorem uR{l:Row}(h:lD l=0):l.length≤16∧∀x∈l,vld x.1=true∧x.1≠[]∧n8 x.2.1.1≤6∧vld x.2.2=true:=by
 unfold lD at h
 split at h
 ·cases h
 ·exact⟨by omega,XO l _ h⟩
def D0:Row→Nat
 | []=>0
 |x::r=>3+x.1.length+D0 r
theorem aA3(l:Row):D0 l=3*l.length+tot l:=by
 induction l with
 |nil=>rfl
 |cons x l ih=>simp only[D0,tot,aOX,ih]; omega
def aE9(l:List Row):Prop:=∀r∈l,UC r
def g1(a:UInt8):Option Int:=if 32≤n8 a∧n8 a<127 then some (n8 a) else(sgF a).map (·.1)
def g2(a b:UInt8):Int×Int:=(acG (aM0 a) b).getD (0,0)
theorem aFA{a b:Run}:(a=b)=(a.1=b.1∧a.2.1=b.2.1∧a.2.2=b.2.2):=by
 obtain⟨a1,a2,a3⟩:=a; obtain⟨b1,b2,b3⟩:=b; simp
theorem CA{α:Type}:∀(l m:List α) [DecidableEq α],l.length=m.length→∀i,itI (fun i (x:α) (_:Unit)=>if some x=m[i]? then(.inr ():Option Bool ⊕ Unit) else .inl (some false)) (fun _=>some true) i (l.drop i) ()=some (decide (l.drop i=m.drop i)):=by
 intro l m _ hl i;generalize hr:l.drop i=r
 induction r generalizing i with
 |nil =>
  have h1:l.length≤i:=by have:=congrArg List.length hr; simp at this; omega
  have:m.drop i=[]:=by rw[List.drop_eq_nil_iff]; omega
  rw[this]; simp[itI]
 |cons x r ih =>
  have hx:l[i]?=some x:=by rw[←List.head?_drop,hr]; rfl
  have hi:=(aNC.1 hx).1
  have hr':l.drop (i+1)=r:=by rw[←aPL,hr]; rfl
  have hm:m.drop i=m[i]::m.drop (i+1):=aNE (by omega)
  rw[hm];simp only[itI]
  by_cases h:some x=m[i]?
  ·rw[if_pos h];simp only;rw[ih (i+1) hr'];rw[aNH (by omega)] at h;injection h with h;exact congrArg some (decide_eq_decide.2 ⟨fun e=>by rw[h,e],fun e=>by injection e⟩)
  ·rw[if_neg h];rw[aNH (by omega)] at h
   have:x≠m[i]:=fun e=>h (by rw[e])
   exact congrArg some (decide_eq_false fun e=>this (by injection e)).symm
theorem aFB(a b:Row) (hl:a.length≤4000000):B8 fuelH (a,b)=some (decide (a=b)):=by
 unfold B8
 by_cases h:a.length=b.length
 ·rw[aD (fB (by simp only[len]; omega)),cI];refine aP9 (rF (l:=a) (fun (_:Unit) (p:Nat)=>(p:Int)) (fun i (x:Run) (_:Unit)=>if some x=b[i]? then .inr () else .inl (some false)) (fun _=>some true) (fun _ _=>True) (fun self _ i hi _=>?_) (fun self _ _=>?_) fuelH 0 () (aP7 _) (by have:=bA; omega) trivial) ?_
  ·have hb:i<b.length:=by omega
   have e:cnd (ilt (i:Int) (len a)) (grd (inb (i:Int) (len a)) (grd (inb (i:Int) (len b)) (cnd (bS (cZ (seq (aA a (toN (i:Int)) zU).1 (aA b (toN (i:Int)) zU).1) (cZ (cZ (ieq (n8 (aA a (toN (i:Int)) zU).2.1.1) (n8 (aA b (toN (i:Int)) zU).2.1.1)) (cZ (nA (aA a (toN (i:Int)) zU).2.1.2.1 (aA b (toN (i:Int)) zU).2.1.2.1) (nA (aA a (toN (i:Int)) zU).2.1.2.2 (aA b (toN (i:Int)) zU).2.1.2.2))) (seq (aA a (toN (i:Int)) zU).2.2 (aA b (toN (i:Int)) zU).2.2)))) (some false) (self (w64 (aF (i:Int) 1)))))) (some true)=if a[i]=b[i] then self ((i+1:Nat):Int) else some false:=by
    rw[aE (bC (by simp only[len]; omega)),aG (bH (by simp only[len]; omega)),aG (bH (by simp only[len]; omega)),bJ hi,bJ hb,aX hi (by omega),wR];simp only[lC,Bool.eq_false_iff,ne_eq,pD,dL,oH,zA,P8,←UB,←aFA]
    by_cases hc:a[i]=b[i]
    ·rw[if_neg (by simpa using hc),if_pos hc]
    ·rw[if_pos hc,if_neg hc]
   rw[aNH hb]
   by_cases hc:a[i]=b[i]
   ·rw[if_pos (by rw[hc])];exact⟨e.trans (if_pos hc),trivial⟩
   ·rw[if_neg (fun h=>hc (by injection h))];exact e.trans (if_neg hc)
  ·simp only;rw[aD (bB (by simp only[len]; omega))]
  ·exact CA a b h 0
 ·rw[aE (dF (by simp only[len]; omega))]
  have:a≠b:=fun e=>h (by rw[e])
  simp[this]
theorem P9(a b:Row) (hl:a.length≤4000000):KC fuelH (a,b)=some (decide (a=b)):=by
 unfold KC;rw[aFB a b hl,aB]
theorem D8(a b:List Row) (hl:a.length≤4000000) (h:∀r∈a,r.length≤4000000):B9 fuelH (a,b)=some (decide (a=b)):=by
 unfold B9 O4
 by_cases hab:a.length=b.length
 ·rw[aD (fB (by simp only[len]; omega)),cI]
  have:∀X:Option Bool,(bnd X fun v0=>some v0)=X:=fun X=>by cases X<;>rfl
  rw[this];refine aP9 (rF (l:=a) (fun (_:Unit) (p:Nat)=>(p:Int)) (fun i (x:Row) (_:Unit)=>if some x=b[i]? then .inr () else .inl (some false)) (fun _=>some true) (fun _ _=>True) (fun self _ i hi _=>?_) (fun self _ _=>?_) fuelH 0 () (aP7 _) (by have:=bA; omega) trivial) ?_
  ·have hb:i<b.length:=by omega
   have e:cnd (ilt (i:Int) (len a)) (grd (inb (i:Int) (len a)) (grd (inb (i:Int) (len b)) (bnd (KC fuelH (aA a (toN (i:Int)) [],aA b (toN (i:Int)) [])) fun v4=>cnd (bS v4) (some false) (self (w64 (aF (i:Int) 1)))))) (some true)=if a[i]=b[i] then self ((i+1:Nat):Int) else some false:=by
    rw[aE (bC (by simp only[len]; omega)),aG (bH (by simp only[len]; omega)),aG (bH (by simp only[len]; omega)),bJ hi,bJ hb,aX hi (by omega),P9 _ _ (h _ (aO8 hi)),aB,oG]
   rw[aNH hb]
   by_cases hc:a[i]=b[i]
   ·rw[if_pos (by rw[hc])];exact⟨e.trans (if_pos hc),trivial⟩
   ·rw[if_neg (fun h=>hc (by injection h))];exact e.trans (if_neg hc)
  ·simp only;rw[aD (bB (by simp only[len]; omega))]
  ·exact CA a b hab 0
 ·rw[aE (dF (by simp only[len]; omega))]
  have:a≠b:=fun e=>hab (by rw[e])
  simp[this,aB]
theorem eV{V R σ:Type}{F:(V→Option R)→V→Option R}{n:Nat}(st:σ→Nat→V) (I:Nat→σ→Prop) (r:Option R)
  (hstep:∀self a i,i<n→I i a→∃a',F self (st a i)=self (st a' (i+1))∧I (i+1) a') (hend:∀self a,I n a→F self (st a n)=r):∀(fuel i:Nat) (a:σ),i≤n→n-i<fuel→I i a→bN F fuel (st a i)=r
 | 0,i,a,_,h,_=>by omega
 |fuel+1,i,a,hi,h,hI=>by
  rw[eU]
  by_cases hl:i<n
  ·obtain⟨a',h1,h2⟩:=hstep (bN F fuel) a i hl hI;rw[h1];exact eV st I r hstep hend fuel (i+1) a' (by omega) (by omega) h2
  ·obtain rfl:i=n:=by omega
   exact hend _ _ hI
theorem rG{α:Type}{f:α→Nat}{l:List α}{x:α}(h:x∈l):f x≤bkL f l:=by
 induction l with
 |nil=>cases h
 |cons y l ih =>
  simp only[bkL];rcases aPR.1 h with rfl|h
  ·omega
  ·have:=ih h; omega
theorem UD{α:Type}{f:α→Nat}(hf:∀x,1≤f x) (l:List α):l.length≤bkL f l:=by
 induction l with
 |nil=>exact aP6 _
 |cons y l ih=>have:=hf y; simp only[bkL,aOX]; omega
theorem wT{α:Type}{f:α→Nat}:∀(n:Nat) (l:List α),bkL f (l.take n)≤bkL f l
 | 0,_=>aP7 _
 |n+1,[]=>aP6 _
 |n+1,x::l=>by have:=wT (f:=f) n l; simp only[aOB,bkL]; omega
def wtU(x:Run):Nat:=x.1.length+1+(1+(1+1)+(x.2.2.length+1))
def wtR(r:Row):Nat:=bkL wtU r+1
theorem aA4(r:Row):D0 r≤bkL wtU r:=by
 induction r with
 |nil=>exact aP6 _
 |cons x r ih=>simp only[D0,bkL,wtU]; omega
theorem Q0{l:List Row}{B:Nat}(h:bkL wtR l≤B) (hB:B≤4000000):aE9 l:=fun r hr x hx=>by
 have h1:bkL wtU r+1≤bkL wtR l:=rG (f:=wtR) hr
 have h2:x.1.length+1+(1+(1+1)+(x.2.2.length+1))≤bkL wtU r:=rG (f:=wtU) hx
 omega
theorem UE{l:List Row}(h:l.length≤4000000):q97 fuelH l=some l:=by
 have h1:grd (cW (aF (len ([]:List Row)) (len l)) 24) (some (bR ([]:List Row) l))=some l:=by
  rw[aG (dW (by simp only[aF,len,aPF]; omega))]; rfl
 unfold q97
 cases l with
 |nil =>
  rw[aD (by rfl)];exact rR rfl h1
 |cons r l =>
  rw[aE (dF (by simp only[len,aOX]; omega))];exact h1
theorem zD{α:Type}(l:List α) (n:Nat):cJ (toN (iA (len l) (n:Int))) l=l.take n∧in2 (iA (len l) (n:Int)) (len l)=true:=by
 have e:toN (iA (len l) (n:Int))=min l.length n:=by simp only[toN,iA,len]; omega
 refine⟨?_,yX (by simp only[iA,len]; omega)⟩;rw[e];unfold cJ
 by_cases h:l.length≤n
 ·rw[Nat.min_eq_left h,aO4,aNM h]
 ·rw[Nat.min_eq_right (by omega)]
theorem Q1(l:Row):tot l≤D0 l:=by rw[aA3]; omega
abbrev Reg:=Y_×Int×Int×Int×Int×UInt8×Bool
abbrev GG:=Int×Int×Int
theorem aA5(N:Nat) (a b c:Int):q20 N (a,b,c)=some (decide (b≤a∧a≤c)):=by
 unfold q20;rw[wP]
 by_cases h:b≤a
 ·simp[h,ile]
 ·simp[h]
def dJ(r:Reg):Int :=
 if nm r.1=false then 5 else
 if ¬(0≤r.2.1∧r.2.1≤14) then 2 else
 if ¬(1≤r.2.2.1∧r.2.2.1≤15-r.2.1) then 2 else
 if ¬(0≤r.2.2.2.1∧r.2.2.2.1≤31) then 2 else
 if ¬(1≤r.2.2.2.2.1∧r.2.2.2.2.1≤32-r.2.2.2.1) then 2 else
 if ¬(1≤n8 r.2.2.2.2.2.1∧n8 r.2.2.2.2.2.1≤3) then 3 else 0
theorem aL7{p:Prop} [Decidable p]:(decide p=false)=¬p:=by by_cases h:p<;>simp[h]
theorem sW(r:Reg):q21 fuelH r=some (dJ r):=by
 unfold q21 dJ;rw[mM,aB];simp only[aA5,aB,wR,lC,aL7,aE8]
 have e1:n8 (1:UInt8)=1:=rfl
 have e3:n8 (3:UInt8)=3:=rfl
 rw[e1,e3]
 by_cases h0:nm r.1=false
 ·rw[if_pos h0,if_pos h0]
 rw[if_neg h0,if_neg h0]
 by_cases h1:0≤r.2.1∧r.2.1≤14
 ·rw[if_neg (not_not_intro h1),if_neg (not_not_intro h1)]
  have w1:w64 (aJ 15 r.2.1)=15-r.2.1:=by unfold aJ; rw[cR (by omega)]
  rw[w1]
  by_cases h2:1≤r.2.2.1∧r.2.2.1≤15-r.2.1
  ·rw[if_neg (not_not_intro h2),if_neg (not_not_intro h2)]
   by_cases h3:0≤r.2.2.2.1∧r.2.2.2.1≤31
   ·rw[if_neg (not_not_intro h3),if_neg (not_not_intro h3)]
    have w2:w64 (aJ 32 r.2.2.2.1)=32-r.2.2.2.1:=by unfold aJ; rw[cR (by omega)]
    rw[w2]
    by_cases h4:1≤r.2.2.2.2.1∧r.2.2.2.2.1≤32-r.2.2.2.1
    ·rw[if_neg (not_not_intro h4),if_neg (not_not_intro h4)]
     by_cases h5:n8 r.2.2.2.2.2.1<1
     ·rw[if_pos h5,if_pos (by omega)]
     ·rw[if_neg h5]
      by_cases h6:3<n8 r.2.2.2.2.2.1
      ·rw[if_pos h6,if_pos (by omega)]
      ·rw[if_neg h6,if_neg (by omega)]
    ·rw[if_pos h4,if_pos h4]
   ·rw[if_pos h3,if_pos h3]
  ·rw[if_pos h2,if_pos h2]
 ·rw[if_pos h1,if_pos h1]
def kY:Option Reg→List Reg→Int
 |_,[]=>0
 |p,r::l=>if dJ r≠0 then dJ r else match p with
  |none=>kY (some r) l
  |some q=>if r.1=q.1 then 7 else if slt r.1 q.1=true then 8 else kY (some r) l
def hY(l:List Reg):Int:=if 16<l.length then 9 else kY none l
def GH(p:Option Reg) (r:Reg):Option Int ⊕ Unit:=if dJ r≠0 then .inl (some (dJ r)) else match p with
  |none=>.inr ()
  |some q=>if r.1=q.1 then .inl (some 7) else if slt r.1 q.1=true then .inl (some 8) else .inr ()
theorem KV(l:List Reg):∀(r:List Reg) (i:Nat),l.drop i=r→i≤l.length→itI (fun i x (_:Unit)=>GH (before l i) x) (fun _=>some (0:Int)) i r ()=some (kY (before l i) r)
 | [],i,_,_=>rfl
 |x::r,i,h,hi=>by
  have hx:l[i]?=some x:=by rw[←List.head?_drop,h]; rfl
  have hr:l.drop (i+1)=r:=by rw[←aPL,h]; rfl
  have hl:i<l.length:=(aNC.1 hx).1
  simp only[itI,kY,GH]
  have e:before l (i+1)=some x:=hx
  have ih:=KV l r (i+1) hr (by omega)
  rw[e] at ih
  by_cases hc:dJ x≠0
  ·rw[if_pos hc,if_pos hc]
  ·rw[if_neg hc,if_neg hc]
   cases before l i with
   |none=>exact ih
   |some q =>
    simp only
    by_cases h7:x.1=q.1
    ·rw[if_pos h7,if_pos h7]
    ·rw[if_neg h7,if_neg h7]
     by_cases h8:slt x.1 q.1=true
     ·rw[if_pos h8,if_pos h8]
     ·rw[if_neg h8,if_neg h8];exact ih
theorem KW(l:List Reg):q22 fuelH l=some (hY l):=by
 unfold q22
 by_cases h:16<l.length
 ·rw[aE (bC (by simp only[len]; omega))]; simp[hY,h]
 ·rw[aD (bB (by simp only[len]; omega)),cI];refine aP9 (rF (l:=l) (fun (_:Unit) (p:Nat)=>(p:Int)) (fun i x (_:Unit)=>GH (before l i) x) (fun _=>some (0:Int)) (fun _ _=>True) (fun self a i hi _=>?_) (fun self a _=>?_) fuelH 0 () (aP7 _) (by have:=bA; omega) trivial) ?_
  ·rw[aE (bC (by simp only[len]; omega)),aG (bH (by simp only[len]; omega)),bJ hi,bG (sW _)];unfold GH
   by_cases hc:dJ l[i]≠0
   ·rw[if_pos hc,aE (dF hc)]; rfl
   ·rw[if_neg hc,aD (fB (by simpa using hc)),cI,aX hi (by omega)]
    cases i with
    |zero =>
     rw[aD (by rfl),aD (by rfl)];exact⟨rfl,trivial⟩
    |succ i =>
     have e0:before l (i+1)=some l[i]:=by simp only[before]; exact aNH (by omega)
     have hin:inb ((i:Nat):Int) (len l)=true:=bH (by simp only[len]; omega)
     have hp:ilt (0:Int) ((i+1:Nat):Int)=true:=bC (by omega)
     rw[e0,aE hp,lU (by omega),aG hin,bJ (show i<l.length by omega),aE hp,aG hin];simp only
     by_cases h7:l[i+1].1=l[i].1
     ·rw[if_pos h7,aE (by rw[dL]; exact h7)]; rfl
     ·rw[if_neg h7,aD (by rw[←aO5,dL]; exact h7)]
      by_cases h8:slt l[i+1].1 l[i].1=true
      ·rw[if_pos h8,aE h8]; rfl
      ·rw[if_neg h8,aD (by simpa using h8)];exact⟨rfl,trivial⟩
  ·rw[aD (bB (by simp only[len]; omega))]
  ·rw[aPM,KV l l 0 rfl (aP7 _)];simp[hY,h,before]
def wA:Reg:=([],11,4,0,32,2,true)
def noR:Reg:=([],0,0,0,0,0,false)
def CB(l:List Reg) (n:Y_):Option Reg:=if n=[] then some wA else l.find? fun r=>decide (r.1=n)
def Q2(l:List Reg) (n:Y_):Reg×Bool:=match CB l n with
 |some r=>(r,true)
 |none=>(noR,false)
theorem KX(n:Y_):∀(l:List Reg) (i:Nat),itI (fun _ (x:Reg) (_:Unit)=>if x.1=n then(.inl (some (x,true)):Option (Reg×Bool) ⊕ Unit) else .inr ()) (fun _=>some (noR,false)) i l ()=some (match l.find? fun r=>decide (r.1=n) with|some r=>(r,true)|none=>(noR,false))
 | [],_=>rfl
 |x::l,i=>by
  simp only[itI,List.find?_cons]
  by_cases h:x.1=n
  ·rw[if_pos h,decide_eq_true h]
  ·rw[if_neg h,decide_eq_false h];exact KX n l (i+1)
theorem KY(l:List Reg) (hl:l.length≤4000000) (n:Y_):q24 fuelH (l,n)=some (Q2 l n):=by
 unfold q24 Q2 CB;simp only
 by_cases h:n=[]
 ·rw[aE (by rw[dL]; exact h),if_pos h]; rfl
 ·rw[aD (by rw[←aO5,dL]; exact h),if_neg h,cI];refine aP9 (rF (l:=l) (fun (_:Unit) (p:Nat)=>(p:Int)) (fun _ (x:Reg) (_:Unit)=>if x.1=n then .inl (some (x,true)) else .inr ()) (fun _=>some (noR,false)) (fun _ _=>True) (fun self a i hi _=>?_) (fun self a _=>?_) fuelH 0 () (aP7 _) (by have:=bA; omega) trivial) (KX n l 0)
  ·have hin:inb (i:Int) (len l)=true:=bH (by simp only[len]; omega)
   rw[aE (bC (by simp only[len]; omega)),aG hin,bJ hi]
   by_cases hc:l[i].1=n
   ·rw[if_pos hc,aE (by rw[dL]; exact hc)]; rfl
   ·rw[if_neg hc,aD (by rw[←aO5,dL]; exact hc),aX hi (by omega)];exact⟨rfl,trivial⟩
  ·rw[aD (bB (by simp only[len]; omega))];rfl
def hZ(r:Reg):Prop:=r=wA∨dJ r=0
instance (r:Reg):Decidable (hZ r):=by unfold hZ; infer_instance
theorem aFC{a b:Reg}:(a=b)=(a.1=b.1∧a.2.1=b.2.1∧a.2.2.1=b.2.2.1∧a.2.2.2.1=b.2.2.2.1∧a.2.2.2.2.1=b.2.2.2.2.1∧a.2.2.2.2.2.1=b.2.2.2.2.2.1∧a.2.2.2.2.2.2=b.2.2.2.2.2.2):=by
 obtain⟨a1,a2,a3,a4,a5,a6,a7⟩:=a; obtain⟨b1,b2,b3,b4,b5,b6,b7⟩:=b; simp
theorem KZ(x:Reg):(cZ (seq x.1 wA.1) (cZ (ieq x.2.1 wA.2.1) (cZ (ieq x.2.2.1 wA.2.2.1) (cZ (ieq x.2.2.2.1 wA.2.2.2.1) (cZ (ieq x.2.2.2.2.1 wA.2.2.2.2.1) (cZ (ieq (n8 x.2.2.2.2.2.1) (n8 wA.2.2.2.2.2.1)) (nA x.2.2.2.2.2.2 wA.2.2.2.2.2.2))))))=true)=(x=wA):=by
 simp only[pD,dL,oH,zA,P8];exact aFC.symm
theorem uS(r:Reg):q38 fuelH r=some (decide (hZ r)):=by
 unfold q38;rw[bG (show q23 fuelH ()=some wA from rfl),sW,aB]
 by_cases h:r=wA
 ·rw[aE ((KZ r).mpr h),@decide_eq_true (hZ r) _ (.inl h)]
 ·rw[aD (by rw[←aO5]; exact fun k=>h ((KZ r).mp k))];congr 1
  by_cases h2:dJ r=0
  ·rw[iN h2,@decide_eq_true (hZ r) _ (.inr h2)]
  ·rw[lS h2,@decide_eq_false (hZ r) _ (fun k=>k.elim h h2)]
theorem CC{r:Reg}(h:hZ r):0≤r.2.1∧1≤r.2.2.1∧r.2.1+r.2.2.1≤15∧0≤r.2.2.2.1∧1≤r.2.2.2.2.1∧r.2.2.2.1+r.2.2.2.2.1≤32∧1≤n8 r.2.2.2.2.2.1∧n8 r.2.2.2.2.2.1≤3:=by
 rcases h with rfl|h
 ·decide
 ·unfold dJ at h
  split at h
  ·cases h
  split at h
  ·cases h
  split at h
  ·cases h
  split at h
  ·cases h
  split at h
  ·cases h
  split at h
  ·cases h
  omega
def Q3(r:Reg) (n:Int):Int:=if n8 r.2.2.2.2.2.1=3 then r.2.2.2.1+(r.2.2.2.2.1-n) else if n8 r.2.2.2.2.2.1=2 then r.2.2.2.1+(r.2.2.2.2.1-n).tdiv 2 else r.2.2.2.1
def zF(r:Reg) (k:Nat):Int:=if r.2.2.2.2.2.2=true then r.2.1+(r.2.2.1-(k:Int)) else r.2.1
def YA(r:Reg) (k:Nat) (i:Nat) (n:Int) (out:List GG):Option (List GG×Int) ⊕ List GG :=
 if n<0 then .inl (some ([],2)) else if r.2.2.2.2.1<n then .inl (some ([],11)) else .inr (out++[(zF r k+(i:Int),Q3 r n,n)])
def GI(r:Reg) (k:Nat):Nat→List Int→List GG→List GG×Int
 |_,[],out=>(out,0)
 |i,n::l,out=>if n<0 then([],2) else if r.2.2.2.2.1<n then([],11) else GI r k (i+1) l (out++[(zF r k+(i:Int),Q3 r n,n)])
def GJ(r:Reg) (l:List Int):List GG×Int:=if ¬hZ r then([],1) else if r.2.2.1<(l.length:Int) then([],9) else GI r l.length 0 l []
theorem CD(r:Reg) (k:Nat):∀(l:List Int) (i:Nat) (out:List GG),itI (YA r k) (fun a=>some (a,(0:Int))) i l out=some (GI r k i l out)
 | [],i,out=>rfl
 |n::l,i,out=>by
  simp only[itI,GI,YA]
  by_cases h1:n<0
  ·rw[if_pos h1,if_pos h1]
  ·rw[if_neg h1,if_neg h1]
   by_cases h2:r.2.2.2.2.1<n
   ·rw[if_pos h2,if_pos h2]
   ·rw[if_neg h2,if_neg h2];exact CD r k l (i+1) _
theorem aFD{α β:Type}(K:α→Option β) (b:Bool) (x y:α):jn K (fun v=>cnd b (v x) (v y))=K (if b=true then x else y):=by
 rw[cI]; cases b<;>rfl
theorem aA6{x:Int}(h:0≤x):0≤x.tdiv 2∧x.tdiv 2≤x:=by
 rw[Int.tdiv_eq_ediv_of_nonneg h]; omega
theorem aFE{r:Reg}(hu:hZ r){k i:Nat}{n:Int}(hk:(k:Int)≤r.2.2.1) (hi:i<k) (h0:0≤n) (hn:n≤r.2.2.2.2.1) :
  w64 (aF (zF r k) (i:Int))=zF r k+(i:Int)∧w64 (aJ r.2.2.2.2.1 n)=r.2.2.2.2.1-n∧w64 (aF r.2.2.2.1 (r.2.2.2.2.1-n))=r.2.2.2.1+(r.2.2.2.2.1-n)∧w64 (YY (r.2.2.2.2.1-n) 2)=(r.2.2.2.2.1-n).tdiv 2∧w64 (aF r.2.2.2.1 ((r.2.2.2.2.1-n).tdiv 2))=r.2.2.2.1+(r.2.2.2.2.1-n).tdiv 2:=by
 have hb:=CC hu
 have hd:=aA6 (x:=r.2.2.2.2.1-n) (by omega)
 refine⟨?_,?_,?_,?_,?_⟩
 ·unfold aF zF;rw[cR]
  split<;>omega
 ·unfold aJ; rw[cR (by omega)]
 ·unfold aF; rw[cR (by omega)]
 ·unfold YY; rw[cR (by omega)]
 ·unfold aF; rw[cR (by omega)]
theorem GK(r:Reg) (l:List Int):q39 fuelH (r,l)=some (GJ r l):=by
 unfold q39 GJ;simp only;rw[uS,aB,oG]
 by_cases hu:hZ r
 ·rw[if_pos hu,if_neg (not_not_intro hu)]
  have hb:=CC hu
  by_cases hk:r.2.2.1<(l.length:Int)
  ·rw[aE (bC (show r.2.2.1<len l from hk)),if_pos hk]
  ·rw[aD (bB (show ¬r.2.2.1<len l from hk)),if_neg hk,aFD]
   have et:(if r.2.2.2.2.2.2=true then w64 (aF r.2.1 (w64 (aJ r.2.2.1 (len l)))) else r.2.1)=zF r l.length:=by
    unfold zF
    have e1:w64 (aJ r.2.2.1 (len l))=r.2.2.1-(l.length:Int):=by unfold aJ len; rw[cR (by omega)]
    rw[e1];unfold aF;rw[cR (by omega)]
   rw[et,cI];refine aP9 (rF (l:=l) (fun (a:List GG) (p:Nat)=>(a,(p:Int))) (YA r l.length) (fun a=>some (a,(0:Int))) (fun i a=>a.length≤i) (fun self a i hi ha=>?_) (fun self a _=>?_) fuelH 0 [] (aP7 _) (by have:=bA; omega) (aP6 _)) (CD r l.length l 0 [])
   ·have hin:inb (i:Int) (len l)=true:=bH (by simp only[len]; omega)
    simp only;rw[aE (bC (by simp only[len]; omega)),aG hin,bJ hi,aX hi (by omega)];unfold YA
    by_cases h1:l[i]<0
    ·rw[if_pos h1,aE (bC h1)]; rfl
    ·rw[if_neg h1,aD (bB h1)]
     by_cases h2:r.2.2.2.2.1<l[i]
     ·rw[if_pos h2,aE (bC h2)]; rfl
     ·rw[if_neg h2,aD (bB h2)];obtain⟨q1,q2,q3,q4,q5⟩:=aFE hu (k:=l.length) (i:=i) (n:=l[i]) (by omega) hi (by omega) (by omega)
      have hroom:∀s:GG,cW (aF (len a) (len [s])) 24=true:=fun s=>dW (by simp only[aF,len,List.length_singleton]; omega)
      rw[q1,q2,q3,q4,q5];rw[aG (hroom _),aG (hroom _),aG (hroom _)];refine⟨?_,by simp only[aOG,List.length_singleton]; omega⟩;unfold Q3
      have e3:n8 (3:UInt8)=3:=rfl
      have e2:n8 (2:UInt8)=2:=rfl
      rw[wQ,wQ,e3,e2]
      by_cases c3:n8 r.2.2.2.2.2.1=3
      ·rw[if_pos c3,if_pos c3]; rfl
      ·rw[if_neg c3,if_neg c3]
       by_cases c2:n8 r.2.2.2.2.2.1=2
       ·rw[if_pos c2,if_pos c2]; rfl
       ·rw[if_neg c2,if_neg c2]; rfl
   ·simp only;rw[aD (bB (by simp only[len]; omega))]
 ·rw[if_neg hu,if_pos hu]
abbrev Ev:=Int×(Int×Int)×Y_×UInt8×Y_×List Row
theorem UF{s:Y_}(hs:s.length≤4000000):q33 fuelH s=some ((rns s).length:Int):=by
 unfold q33;rw[cI]
 have hf:∀(l:List Int) (n:Nat),n+l.length≤100000000→KP (fun (_:Int) (a:Int) self=>self (w64 (aF a 1))) (fun a=>some a) l (n:Int)=some ((n+l.length:Nat):Int):=by
  intro l
  induction l with
  |nil=>intro n _; rfl
  |cons r l ih =>
   intro n hn;simp only[aOX] at hn;simp only[KP];rw[aX (show n<n+1 by omega) (by omega),ih (n+1) (by omega)];simp only[aOX];congr 2;omega
 refine(KQ (s:=s) (fun (a:Int) (p:Nat)=>(a,s,ofN p)) (fun _ a self=>self (w64 (aF a 1))) (fun a=>some a) (fun self a p hp=>?_) (fun self a p hp=>?_) fuelH 0 (0:Int) (by have:=bA; omega)).trans ?_
 ·simp only[WY];rw[aE (aL5 (show p<kQ s from hp))];rfl
 ·simp only[WY];rw[aD (aL6 (show ¬p<kQ s by unfold kQ; omega))]
 ·have:=GF _ s (aP6 _)
  have h:=hf (rns s) 0 (by omega)
  rw[aPM]
  simpa using h
theorem aFF{s:Y_}(hs:s.length≤4000000) (hv:vld s=true):q34 fuelH s=some ((rns s).length:Int):=by
 unfold q34;rw[kI _ hs,aB,hv,aD (by rfl),UF hs];rfl
def iP:Row→Nat
 | []=>0
 |x::l=>(rns x.1).length+iP l
def cN(l:Row):Y_:=l.flatMap (·.1)
def okR(l:Row):Prop:=l.length≤16∧(∀x∈l,vld x.1=true∧x.1.length≤4000000)∧tot l≤4000000
def GL(l:Row):Prop:=UC l∧tot l≤4000000
def Q4(l:List Row):Prop:=∀r∈l,GL r
theorem Q5{l:Row}(hs:GL l) (h:lD l=0):okR l:=by
 obtain⟨h1,h2⟩:=uR h;exact⟨h1,fun x hx=>⟨(h2 x hx).1,(hs.1 x hx).1⟩,hs.2⟩
theorem GM:∀(l:Row),(∀x∈l,x.1.length≤4000000)→iP l≤4000000*l.length
 | [],_=>aP6 _
 |x::l,h=>by
  have h1:=GF _ x.1 (aP6 _)
  have h2:=h x aOK
  have h3:=GM l fun y hy=>h y (aN1 _ hy)
  simp only[iP,aOX];omega
theorem uT:∀(l:Row) (i:Nat) (h:i<l.length),iP (l.take (i+1))=iP (l.take i)+(rns l[i].1).length
 |x::l,0,_=>by simp[iP]
 |x::l,i+1,h=>by
  have:=uT l i (by simpa using h)
  simp only[aOB,iP,this,List.getElem_cons_succ];omega
theorem GN(l:Row) (i:Nat):iP (l.take i)≤iP l:=by
 induction l generalizing i with
 |nil=>simp[iP]
 |cons x l ih=>cases i with
  |zero=>simp[iP]
  |succ i=>simp only[aOB,iP]; have:=ih i; omega
theorem Q6{l:Row}(h:okR l) (L:Y_→Option Int) (hL:∀s:Y_,s.length≤4000000→vld s=true→L s=some ((rns s).length:Int)) :
  bN (fun (v2:Int×Int→Option Int) (v3:Int×Int) =>
  cnd (ilt v3.2 (len l))
   (grd (inb v3.2 (len l))
    (bnd (L (aA l (toN v3.2) zU).1) fun v4 =>
    cnd (ilt v4 (0:Int))
     (some (-1:Int))
     (v2 (w64 (aF v3.1 v4),w64 (aF v3.2 (1:Int))))))
   (some v3.1)) fuelH ((0:Int),(0:Int))=some (iP l:Int):=by
 have hb:=GM l fun x hx=>(h.2.1 x hx).2
 have hl:=h.1
 refine eV (n:=l.length) (fun (a:Nat) (i:Nat)=>((a:Int),(i:Int))) (fun i a=>a=iP (l.take i)) _ (fun self a i hi hI=>?_) (fun self a hI=>?_) fuelH 0 0 (aP7 _) (by have:=bA; omega) rfl
 ·refine⟨a+(rns l[i].1).length,?_,?_⟩
  ·have ht:=uT l i hi
   have ht2:=GN l (i+1)
   simp only;rw[aE (bC (by simp only[len]; omega)),aG (bH (by simp only[len]; omega)),bJ hi,hL _ (h.2.1 _ (aO8 hi)).2 (h.2.1 _ (aO8 hi)).1,aB,aD (bB (by omega)),aX hi (by omega)]
   have e:w64 (aF (a:Int) ((rns l[i].1).length:Int))=((a+(rns l[i].1).length:Nat):Int):=by
    unfold aF; rw[cR (by omega)]; omega
   rw[e]
  ·rw[uT l i hi,hI]
 ·simp only;rw[aD (bB (by simp only[len]; omega)),hI,aO4]
theorem CE{l:Row}(h:okR l):q35 fuelH l=some (iP l:Int):=by
 unfold q35;rw[cI];exact Q6 h (q34 fuelH) fun s=>aFF
theorem LA(l:Row) (i:Nat) (h:i<l.length):cN (l.take (i+1))=cN (l.take i)++l[i].1:=by
 unfold cN;rw[aM4 h,List.flatMap_append];simp
theorem zH:∀(l:Row),(cN l).length=tot l
 | []=>rfl
 |x::l=>by
  have h3:=zH l
  unfold cN at h3 ⊢;simp only[List.flatMap_cons,aOG,tot,h3]
theorem Q7(l:Row) (i:Nat):tot (l.take i)≤tot l:=by
 have h:=wS (l.take i) (l.drop i)
 rw[aNU] at h;omega
theorem CF{l:Row}(h:okR l) (i:Nat):(cN (l.take i)).length≤4000000:=by
 rw[zH]
 have:=Q7 l i
 have:=h.2.2
 omega
theorem D9{N:Nat}{a b:Y_}(h:a.length+b.length≤100000000):q31 N (((),a),b)=some ((b.length:Int),false,(),a++b):=by
 unfold q31;show(grd (cW (aF (len a) (len b)) 1) (some (len b,false,(),bR a b)))=_;rw[aG (dW (by simp only[aF,len]; omega))];rfl
theorem LB{l:Row}(h:okR l):q32 fuelH l=some (cN l):=by
 unfold q32;rw[cI]
 have hl:=h.1
 refine eV (n:=l.length) (fun (a:Y_) (i:Nat)=>((i:Int),(),a)) (fun i a=>a=cN (l.take i)) _ (fun self a i hi hI=>?_) (fun self a hI=>?_) fuelH 0 [] (aP7 _) (by have:=bA; omega) rfl
 ·refine⟨a++l[i].1,?_,?_⟩
  ·have h1:=CF h i
   have h2:=(h.2.1 _ (aO8 hi)).2
   simp only;rw[aE (bC (by simp only[len]; omega)),aG (bH (by simp only[len]; omega)),bJ hi,D9 (by rw[hI]; omega),aB,aX hi (by omega)]
  ·rw[LA l i hi,hI]
 ·simp only;rw[aD (bB (by simp only[len]; omega)),hI,aO4]
def sp2:Y_→Bool
 | []=>false
 | [_]=>false
 |a::b::t=>([32,32]:Y_).isPrefixOf (a::b::t)||sp2 (b::t)
theorem CG:∀t:Y_,decide (0≤index t [32,32])=sp2 t
 | []=>rfl
 | [a]=>by
  have e:index [a] [32,32]=if([32,32]:Y_).isPrefixOf [a]=true then 0 else if(index [] [32,32] == -1)=true then -1 else index [] [32,32]+1:=rfl
  have hp:([32,32]:Y_).isPrefixOf [a]=false:=by cases h:((32:UInt8)==a)<;>simp[List.isPrefixOf,h]
  rw[e,hp];rfl
 |a::b::t=>by
  have ih:=CG (b::t)
  have hg:=index_ge (b::t) [32,32]
  have e:index (a::b::t) [32,32]=if([32,32]:Y_).isPrefixOf (a::b::t)=true then 0 else if(index (b::t) [32,32] == -1)=true then -1 else index (b::t) [32,32]+1:=rfl
  have e2:sp2 (a::b::t)=(([32,32]:Y_).isPrefixOf (a::b::t)||sp2 (b::t)):=rfl
  rw[e,e2,←ih];generalize index (b::t) [32,32]=m at hg ⊢
  cases ([32,32]:Y_).isPrefixOf (a::b::t) with
  |true=>rfl
  |false =>
   rw[if_neg (by decide),aPT]
   by_cases h1:m=-1
   ·subst h1; rfl
   ·rw[if_neg (by simpa using h1),decide_eq_true (by omega),decide_eq_true (by omega)]
theorem GO(t:Y_):contains t [32,32]=sp2 t:=CG t
def aC0(t:Y_):Bool:=if t=[] then false else if n8 (aA t (toN (0:Int)) 0)=n8 (32:UInt8) then false else if n8 (aA t (toN (w64 (aJ (len t) 1))) 0)=n8 (32:UInt8) then false else !sp2 t
def oI(l:Row):Int:=if lD l≠0 then lD l else if aC0 (cN l)=false then 4 else if 32<iP l then 11 else 0
theorem GP{l:Row}(hs:GL l):q36 fuelH l=some (oI l):=by
 unfold q36 oI;rw[bG (KU hs.1)]
 by_cases hk:lD l≠0
 ·rw[aE (dF hk),if_pos hk]
 ·rw[aD (fB (by simpa using hk)),if_neg hk]
  have hr:=Q5 hs (by simpa using hk)
  have hp:=CF hr l.length
  rw[aO4] at hp;rw[bG (LB hr)];generalize cN l=t at hp ⊢;unfold aC0
  by_cases h0:t=[]
  ·rw[aE (by rw[dL]; exact h0),if_pos h0,if_pos rfl]
  ·have hl:0<t.length:=aOE.2 h0
   have e1:w64 (aJ (len t) 1)=((t.length-1:Nat):Int):=KT hl (by omega)
   have hin:inb (w64 (aJ (len t) 1)) (len t)=true:=by rw[e1]; exact bH (by simp only[len]; omega)
   rw[aD (by rw[←aO5,dL]; exact h0),if_neg h0,aG (bH (by simp only[len]; omega)),wQ]
   by_cases h1:n8 (aA t (toN (0:Int)) 0)=n8 (32:UInt8)
   ·rw[if_pos h1,if_pos h1,if_pos rfl]
   ·rw[if_neg h1,if_neg h1,aG hin,wQ]
    by_cases h2:n8 (aA t (toN (w64 (aJ (len t) 1))) 0)=n8 (32:UInt8)
    ·rw[if_pos h2,if_pos h2,if_pos rfl]
    ·rw[if_neg h2,if_neg h2]
     have hc:strings_Contains fuelH (t,[32,32])=some (sp2 t):=by
      show grd (decide (t.length<4294967281)) (some (contains t [32,32]))=_;rw[aG (decide_eq_true (by omega)),GO]
     rw[bG hc]
     by_cases h3:sp2 t=true
     ·rw[aE h3,h3,if_pos (by decide)]
     ·rw[aD (by simpa using h3),Bool.eq_false_iff.2 h3,if_neg (by simp),bG (CE hr),cS]
      by_cases h4:32<iP l
      ·rw[if_pos (by omega),if_pos h4]
      ·rw[if_neg (by omega),if_neg h4]
theorem Q8(N:Nat) (s:Int×Int):q25 N s=some (decide (0≤s.1∧s.1<s.2∧s.2≤5184000)):=by
 unfold q25;rw[wP,cS]
 by_cases h1:0≤s.1
 ·rw[if_pos h1]
  by_cases h2:s.1<s.2
  ·rw[if_pos h2]; simp[h1,h2,ile]
  ·rw[if_neg h2]; simp[h2]
 ·rw[if_neg h1]; simp[h1]
def Q9(k:UInt8):Bool:=match q27 fuelH k with
 |some s=>decide (seq s []=decide (¬(1≤n8 k∧n8 k≤4)))
 |none=>false
theorem R0(k:UInt8):∃s,q27 fuelH k=some s∧seq s []=decide (¬(1≤n8 k∧n8 k≤4)):=by
 have h:Q9 k=true:=eE (P:=Q9) (by kernel_rfl) k
 unfold Q9 at h
 split at h
 ·rename_i s hs;exact⟨s,hs,of_decide_eq_true h⟩
 ·cases h
theorem aL8{β:Type}(K:Bool→Option β) (s:Y_) (X:Option Bool) (hX:X=some (nm s)):jn K (fun v=>cnd (sne s ([]:Y_)) (bnd X fun w=>v (bS w)) (v false))=K (decide (s≠[]∧nm s=false)):=by
 rw[cI,hX,aB]
 by_cases h:s=[]
 ·subst h; rfl
 ·rw[aE (by simp[sne,h])];congr 1;cases hn:nm s<;>simp[bS,h]
def CH:List Row→Int→Int
 | [],k=>k
 |l::r,k=>if oI l≠0 then oI l else CH r k
def zI(l:List Row):List Int:=l.map fun r=>(iP r:Int)
def lV(x:Ev) (rs:List Reg):Int :=
 if x.1<1 then 2 else if 1099511627776<x.1 then 2 else
 if ¬(0≤x.2.1.1∧x.2.1.1<x.2.1.2∧x.2.1.2≤5184000) then 2 else
 match CB rs x.2.2.1 with
 |none=>6
 |some r =>
  if ¬(1≤n8 x.2.2.2.1∧n8 x.2.2.2.1≤4) then 3 else
  if x.2.2.2.2.1≠[]∧nm x.2.2.2.2.1=false then 5 else
  if x.2.2.2.2.2.length=0 then 9 else if 4<x.2.2.2.2.2.length then 9 else
  CH x.2.2.2.2.2 (GJ r (zI x.2.2.2.2.2)).2
theorem YB{l:Row}(hs:GL l) (h:oI l=0):okR l:=by
 unfold oI at h
 split at h
 ·rename_i hc; exact absurd h hc
 ·rename_i hc; exact Q5 hs (by simpa using hc)
theorem pZ{x:Ev}(h:∀l∈x.2.2.2.2.2,okR l) (hl:x.2.2.2.2.2.length≤1000000):q37 fuelH x=some (zI x.2.2.2.2.2):=by
 unfold q37;rw[cI];generalize x.2.2.2.2.2=l at h hl ⊢;refine eV (n:=l.length) (fun (a:List Int) (i:Nat)=>(a,(i:Int))) (fun i a=>a=zI (l.take i)) _ (fun self a i hi hI=>?_) (fun self a hI=>?_) fuelH 0 [] (aP7 _) (by have:=bA; omega) rfl
 ·refine⟨a++[(iP l[i]:Int)],?_,?_⟩
  ·have ha:a.length≤i:=by rw[hI]; unfold zI; rw[aPI,aO0]; omega
   simp only;rw[aE (bC (by simp only[len]; omega)),aG (bH (by simp only[len]; omega)),bJ hi,CE (h _ (aO8 hi)),aB,aG (dW (by simp only[aF,len,List.length_singleton]; omega)),aX hi (by omega)];rfl
  ·rw[hI]; unfold zI; rw[aM4 hi,aPJ]; rfl
 ·simp only;rw[aD (bB (by simp only[len]; omega)),hI,aO4]
theorem LC(K:Option Int) (k:Int):∀(l:List Row) (i:Nat),((∀r∈l,oI r=0)→K=some k)→itI (fun _ (r:Row) (_:Unit)=>if oI r≠0 then(.inl (some (oI r)):Option Int ⊕ Unit) else .inr ()) (fun _=>K) i l ()=some (CH l k)
 | [],i,h=>h fun r hr=>by cases hr
 |r::l,i,h=>by
  simp only[itI,CH]
  by_cases hc:oI r≠0
  ·rw[if_pos hc,if_pos hc]
  ·rw[if_neg hc,if_neg hc];refine LC K k l (i+1) fun hl=>h fun q hq=>?_
   rcases aPR.1 hq with rfl|hq
   ·simpa using hc
   ·exact hl q hq
theorem zJ{x:Ev}{rs:List Reg}(hs:Q4 x.2.2.2.2.2) (hr:rs.length≤4000000):q40 fuelH (x,rs)=some (lV x rs):=by
 unfold q40 lV;simp only;rw[KY _ hr,aB,cS]
 by_cases c1:x.1<1
 ·rw[if_pos c1,if_pos c1]
 rw[if_neg c1,if_neg c1,cS]
 by_cases c2:1099511627776<x.1
 ·rw[if_pos c2,if_pos c2]
 rw[if_neg c2,if_neg c2,Q8,aB,oG]
 by_cases c3:0≤x.2.1.1∧x.2.1.1<x.2.1.2∧x.2.1.2≤5184000
 ·rw[if_pos c3,if_neg (not_not_intro c3)];unfold Q2
  cases hf:CB rs x.2.2.1 with
  |none=>rfl
  |some r =>
   simp only;rw[aD (by rfl)];obtain⟨s,k1,k2⟩:=R0 x.2.2.2.1;rw[bG k1,k2,jH]
   by_cases c4:1≤n8 x.2.2.2.1∧n8 x.2.2.2.1≤4
   ·rw[if_neg (not_not_intro c4),if_neg (not_not_intro c4),aL8 _ _ _ (mM _),jH]
    by_cases c5:x.2.2.2.2.1≠[]∧nm x.2.2.2.2.1=false
    ·rw[if_pos c5,if_pos c5]
    rw[if_neg c5,if_neg c5]
    by_cases c6:x.2.2.2.2.2.length=0
    ·rw[aE (iN (by simp only[len]; omega)),if_pos c6]
    rw[aD (lS (by simp only[len]; omega)),if_neg c6]
    by_cases c7:4<x.2.2.2.2.2.length
    ·rw[aE (bC (by simp only[len]; omega)),if_pos c7]
    rw[aD (bB (by simp only[len]; omega)),if_neg c7,cI]
    have hlen:=@pZ x
    generalize x.2.2.2.2.2=l at hs c6 c7 hlen ⊢;refine aP9 (rF (l:=l) (fun (_:Unit) (p:Nat)=>(p:Int)) (fun _ (r:Row) (_:Unit)=>if oI r≠0 then .inl (some (oI r)) else .inr ()) (fun _=>bnd (q37 fuelH x) fun v5=>bnd (q39 fuelH (r,v5)) fun v6=>some v6.2) (fun _ _=>True) (fun self a i hi _=>?_) (fun self a _=>?_) fuelH 0 () (aP7 _) (by have:=bA; omega) trivial) (LC _ _ l 0 fun hl=>?_)
    ·rw[aE (bC (by simp only[len]; omega)),aG (bH (by simp only[len]; omega)),bJ hi,bG (GP (hs _ (aO8 hi))),aX hi (by omega)]
     by_cases hc:oI l[i]≠0
     ·rw[if_pos hc,aE (dF hc)]; rfl
     ·rw[if_neg hc,aD (fB (by simpa using hc))];exact⟨rfl,trivial⟩
    ·rw[aD (bB (by simp only[len]; omega))]
    ·rw[bG (hlen (fun q hq=>YB (hs q hq) (hl q hq)) (by omega)),bG (GK _ _)]
   ·rw[if_pos c4,if_pos c4]
 ·rw[if_neg c3,if_pos c3]
abbrev Cmt:=Int×Int×Int×Int×Y_×Y_×Bool×Bool
abbrev Doc:=Y_×Y_×UInt8×Bool×Int×List Reg×List Ev×List Cmt
def tvB(r:UInt8):Bool:=(q16 fuelH r).getD false
def cdB(r:UInt8):Bool:=(q17 fuelH r).getD false
theorem aL9(r:UInt8):q16 fuelH r=some (tvB r)∧q17 fuelH r=some (cdB r) :=
 of_decide_eq_true (eE (P:=fun r=>decide (q16 fuelH r=some (tvB r)∧q17 fuelH r=some (cdB r))) (by kernel_rfl) r)
def gK(r:UInt8) (drop:Bool):Prop:=tvB r=false∨(drop=true∧cdB r=false)
instance (r:UInt8) (drop:Bool):Decidable (gK r drop):=by unfold gK; infer_instance
def gL(d:Doc):Int :=
 if vld d.1=false then 10 else if 400<d.1.length then 9 else if d.2.1≠[]∧nm d.2.1=false then 5 else
 if gK d.2.2.1 d.2.2.2.1 then 13 else if d.2.2.2.2.1<0 then 2 else if 1099511627776<d.2.2.2.2.1 then 2 else 0
theorem R1(r:UInt8) (b:Bool):q18 fuelH (r,b)=some (if gK r b then 13 else 0):=by
 unfold q18;obtain⟨h1,h2⟩:=aL9 r;simp only;rw[h1,aB]
 by_cases c1:tvB r=false
 ·rw[aE (by rw[c1]; rfl),if_pos (show gK r b from .inl c1)]
 ·rw[aD (by rw[←aO5,lC]; exact c1)]
  cases b with
  |false =>
   rw[aD rfl,if_neg];rintro(h|h)
   ·exact c1 h
   ·cases h.1
  |true =>
   rw[aE rfl,h2,aB]
   by_cases c2:cdB r=false
   ·rw[aE (by rw[c2]; rfl),if_pos (show gK r true from .inr ⟨rfl,c2⟩)]
   ·rw[aD (by rw[←aO5,lC]; exact c2),if_neg];rintro(h|h)
    ·exact c1 h
    ·exact c2 h.2
theorem E0{d:Doc}(hd:d.1.length≤4000000):q19 fuelH d=some (gL d):=by
 unfold q19 gL;rw[cI,kI _ hd,aB]
 by_cases c1:vld d.1=false
 ·rw[aE (by rw[c1]; rfl),if_pos c1]
 rw[aD (by rw[←aO5,lC]; exact c1),if_neg c1]
 by_cases c2:400<d.1.length
 ·rw[aE (bC (by simp only[len]; omega)),if_pos c2]
 rw[aD (bB (by simp only[len]; omega)),if_neg c2,mM,aB,R1,aB]
 have hrest:cnd (ine (if gK d.2.2.1 d.2.2.2.1 then(13:Int) else 0) 0) (some (if gK d.2.2.1 d.2.2.2.1 then(13:Int) else 0)) (cnd (ilt d.2.2.2.2.1 0) (some (2:Int)) (cnd (ilt 1099511627776 d.2.2.2.2.1) (some 2) (some 0)))=some (if gK d.2.2.1 d.2.2.2.1 then 13 else if d.2.2.2.2.1<0 then 2 else if 1099511627776<d.2.2.2.2.1 then 2 else 0):=by
  by_cases c4:gK d.2.2.1 d.2.2.2.1
  ·rw[if_pos c4,if_pos c4]; rfl
  ·rw[if_neg c4,if_neg c4,aD (by rfl),cS,cS]
   by_cases c5:d.2.2.2.2.1<0
   ·rw[if_pos c5,if_pos c5]
   rw[if_neg c5,if_neg c5]
   by_cases c6:1099511627776<d.2.2.2.2.1
   ·rw[if_pos c6,if_pos c6]
   ·rw[if_neg c6,if_neg c6]
 rw[hrest];generalize (if gK d.2.2.1 d.2.2.2.1 then(13:Int) else if d.2.2.2.2.1<0 then 2 else if 1099511627776<d.2.2.2.2.1 then 2 else 0)=R
 by_cases c3:d.2.1=[]
 ·rw[aD (by simp[sne,c3]),if_neg fun h=>h.1 c3]
 ·rw[aE (by simp[sne,c3])]
  by_cases c4:nm d.2.1=false
  ·rw[aE (by rw[c4]; rfl),if_pos ⟨c3,c4⟩]
  ·rw[aD (by rw[←aO5,lC]; exact c4),if_neg fun h=>c4 h.2]
def lW:Nat→List Ev→List (Int×Int)
 |_,[]=>[]
 |i,x::l=>(x.1,(i:Int))::lW (i+1) l
def qA:Nat→List Ev→Int→Int
 |_,[],_=>-1
 |i,x::l,k=>if x.1=k then(i:Int) else qA (i+1) l k
def lX(l:List Ev) (k:Int):Prop:=∃x∈l,x.1=k
instance (l:List Ev) (k:Int):Decidable (lX l k):=by unfold lX; infer_instance
theorem LD:∀(a b:List Ev) (i:Nat),lW i (a++b)=lW i a++lW (i+a.length) b
 | [],b,i=>by simp[lW]
 |x::a,b,i=>by
  simp only[aOZ,lW,LD a b (i+1),aOX];congr 3; omega
theorem jP:∀(l:List Ev) (i:Nat) (k:Int),gU ieq (lW i l) k=decide (lX l k)
 | [],i,k=>by simp[lW,gU,lX]
 |x::l,i,k=>by
  simp only[lW,gU,jP l (i+1) k]
  by_cases h:k=x.1
  ·rw[iN h,decide_eq_true (show lX (x::l) k from⟨x,aOK,h.symm⟩)]; rfl
  ·rw[lS h];show(false||_)=_;rw[aPT];exact decide_eq_decide.2 ⟨fun ⟨y,h1,h2⟩=>⟨y,aN1 _ h1,h2⟩,fun ⟨y,h1,h2⟩=>by
    rcases aPR.1 h1 with rfl|h1
    ·exact absurd h2.symm h
    ·exact⟨y,h1,h2⟩⟩
theorem nL{k v:Int}:∀(m:List (Int×Int)),gU ieq m k=false→nB ieq m k v=m++[(k,v)]
 | [],_=>rfl
 |x::m,h=>by
  simp only[gU,bor,Bool.or_eq_false_iff] at h;simp only[nB,h.1,nL m h.2];rfl
theorem CI:∀(l:List Ev) (i:Nat) (k:Int),lX l k→lG ieq 0 (lW i l) k=qA i l k
 | [],i,k,h=>by obtain⟨x,h,_⟩:=h; cases h
 |x::l,i,k,h=>by
  simp only[lW,lG,qA]
  by_cases hc:x.1=k
  ·rw[iN hc.symm,if_pos hc]; rfl
  ·rw[lS (fun e=>hc e.symm),if_neg hc];obtain⟨y,h1,h2⟩:=h;rcases aPR.1 h1 with rfl|h1
   ·exact absurd h2 hc
   ·exact CI l (i+1) k ⟨y,h1,h2⟩
theorem CJ:∀(l:List Ev) (i:Nat) (k:Int),lX l k→∃j,∃h:j<l.length,qA i l k=((i+j:Nat):Int)∧l[j].1=k∧¬lX (l.take j) k
 | [],i,k,h=>by obtain⟨x,h,_⟩:=h; cases h
 |x::l,i,k,h=>by
  simp only[qA]
  by_cases hc:x.1=k
  ·exact⟨0,by simp,by rw[if_pos hc]; rfl,hc,fun ⟨y,h1,_⟩=>by cases h1⟩
  ·obtain⟨y,h1,h2⟩:=h;rcases aPR.1 h1 with rfl|h1
   ·exact absurd h2 hc
   ·obtain⟨j,hj,e1,e2,e3⟩:=CJ l (i+1) k ⟨y,h1,h2⟩;refine⟨j+1,by simpa using hj,?_,by simpa using e2,?_⟩
    ·rw[if_neg hc,e1]; congr 1; omega
    ·rintro⟨z,h3,h4⟩;rw[aOB] at h3;rcases aPR.1 h3 with rfl|h3
     ·exact hc h4
     ·exact e3 ⟨z,h3,h4⟩
def lY(a b:Ev):Prop:=a.2.1.1<b.2.1.1∨(a.2.1.1=b.2.1.1∧a.1<b.1)
instance (a b:Ev):Decidable (lY a b):=by unfold lY; infer_instance
theorem R2(N:Nat) (a b:Int):q42 N (a,b)=some (if a<b then -1 else if b<a then 1 else 0):=by
 unfold q42
 have h:∀x:Int,q41 N x=some false:=fun x=>by
  show some (ine x x)=_;rw[fB rfl]
 simp only;rw[h,h,aB,aB,aD rfl,aD rfl,cS,cS]
 by_cases h1:a<b
 ·rw[if_pos h1,if_pos h1]
 ·rw[if_neg h1,if_neg h1]
  by_cases h2:b<a
  ·rw[if_pos h2,if_pos h2]
  ·rw[if_neg h2,if_neg h2]
theorem aMA(a b:Int):q43 fuelH [a,b]=some (if a≠0 then a else b):=by
 have h:q43 fuelH [a,b]=cnd (ine a 0) (some a) (cnd (ine b 0) (some b) (some 0)):=by kernel_rfl
 rw[h,sV,sV]
 by_cases h1:a≠0
 ·rw[if_pos h1,if_pos h1]
 ·rw[if_neg h1,if_neg h1]
  by_cases h2:b≠0
  ·rw[if_pos h2]
  ·rw[if_neg h2]; congr 1; omega
theorem UG(a b:Ev):q44 fuelH (a,b)=some (decide (lY a b)):=by
 unfold q44;simp only;rw[R2,aB,R2,aB,aMA,aB];congr 1
 by_cases h1:a.2.1.1<b.2.1.1
 ·rw[if_pos h1,if_pos (by decide),@decide_eq_true (lY a b) _ (.inl h1)]; rfl
 ·rw[if_neg h1]
  by_cases h2:b.2.1.1<a.2.1.1
  ·rw[if_pos h2,if_pos (by decide),@decide_eq_false (lY a b) _ (by unfold lY; omega)]; rfl
  ·rw[if_neg h2,if_neg (by decide)]
   by_cases h3:a.1<b.1
   ·rw[if_pos h3,@decide_eq_true (lY a b) _ (by unfold lY; omega)]; rfl
   ·rw[if_neg h3,@decide_eq_false (lY a b) _ (by unfold lY; omega)]
    split<;>rfl
def AN{α:Type}(R:List α→α→Int):List α→List α→Int
 |_,[]=>0
 |pre,x::l=>if R pre x≠0 then R pre x else AN R (pre++[x]) l
theorem CK{α:Type}{R:List α→α→Int}:∀(l pre:List α),AN R pre l=0→∀j (h:j<l.length),R (pre++l.take j) l[j]=0
 | [],_,_,j,h=>by simp at h
 |x::l,pre,h0,j,h=>by
  simp only[AN] at h0
  split at h0
  ·rename_i hc; exact absurd h0 hc
  ·rename_i hc
   cases j with
   |zero=>simpa using hc
   |succ j =>
    have:=CK l (pre++[x]) h0 j (by simpa using h)
    simpa using this
theorem zK{V σ α ρ:Type}{F:(V→Option ρ)→V→Option ρ}{l:List α}(st:σ→Nat→V) (g:List α→σ) (R:List α→α→Int) (w:Int→ρ) (K:Option ρ)
  (hstep:∀self i (h:i<l.length),F self (st (g (l.take i)) i)=if R (l.take i) l[i]≠0 then some (w (R (l.take i) l[i])) else self (st (g (l.take (i+1))) (i+1)))
  (hend:(∀j (h:j<l.length),R (l.take j) l[j]=0)→∀self,F self (st (g l) l.length)=K) :
  ∀(fuel i:Nat),i≤l.length→l.length-i<fuel→(∀j (h:j<l.length),j<i→R (l.take j) l[j]=0) →
  bN F fuel (st (g (l.take i)) i)=if AN R (l.take i) (l.drop i)≠0 then some (w (AN R (l.take i) (l.drop i))) else K
 | 0,i,_,h,_=>by omega
 |fuel+1,i,hi,h,hp=>by
  rw[eU]
  by_cases hl:i<l.length
  ·rw[hstep _ i hl,aNE hl,AN]
   by_cases hc:R (l.take i) l[i]≠0
   ·rw[if_pos hc,if_pos hc,if_pos hc]
   ·rw[if_neg hc,if_neg hc]
    have ih:=zK st g R w K hstep hend fuel (i+1) (by omega) (by omega) (fun j hj hji=>by
     by_cases e:j=i
     ·subst e; simpa using hc
     ·exact hp j hj (by omega))
    rw[ih,aM4 hl]
  ·obtain rfl:i=l.length:=by omega
   rw[aO4,hend (fun j hj=>hp j hj hj),aO7];rfl
def zL:List Row→Nat
 | []=>0
 |r::l=>iP r+zL l
def LE(x:Ev):Int:=((x.2.2.2.2.2.length-1+zL x.2.2.2.2.2:Nat):Int)
theorem CL:∀(l:List Row) (i:Nat) (h:i<l.length),zL (l.take (i+1))=zL (l.take i)+iP l[i]
 |x::l,0,_=>by simp[zL]
 |x::l,i+1,h=>by
  have:=CL l i (by simpa using h)
  simp only[aOB,zL,this,List.getElem_cons_succ];omega
theorem LF{l:Row}(h:okR l):iP l≤64000000:=by
 have h1:=GM l fun x hx=>(h.2.1 x hx).2
 have h2:=h.1
 omega
theorem YC:∀(l:List Row),(∀r∈l,okR r)→zL l≤64000000*l.length
 | [],_=>aP6 _
 |r::l,h=>by
  have h1:=LF (h r aOK)
  have h2:=YC l fun q hq=>h q (aN1 _ hq)
  simp only[zL,aOX];omega
theorem GQ(l:List Row) (h:∀r∈l,okR r) (i:Nat):zL (l.take i)≤64000000*l.length:=by
 have h1:=YC (l.take i) fun r hr=>h r (List.mem_of_mem_take hr)
 have:(l.take i).length≤l.length:=by rw[aO0]; omega
 omega
theorem GR{x:Ev}(h:∀l∈x.2.2.2.2.2,okR l) (hl:x.2.2.2.2.2.length≤1000):q45 fuelH x=some (LE x):=by
 unfold q45 LE;rw[cI,bG (pZ h (by omega))];generalize x.2.2.2.2.2=l at h hl ⊢
 have hll:(zI l).length=l.length:=by unfold zI; rw[aPI]
 have e0:HM (w64 (aJ (len l) 1)) 0=((l.length-1:Nat):Int):=by
  simp only[aJ,HM,len];rw[cR (by omega)];omega
 rw[e0];refine eV (n:=l.length) (fun (a:Nat) (i:Nat)=>((a:Int),(i:Int))) (fun i a=>a=l.length-1+zL (l.take i)) _ (fun self a i hi hI=>?_) (fun self a hI=>?_) fuelH 0 (l.length-1) (aP7 _) (by have:=bA; omega) (by simp[zL])
 ·refine⟨a+iP l[i],?_,?_⟩
  ·have ht:=GQ l h i
   have hb:=LF (h _ (aO8 hi))
   have hin:inb (i:Int) (len (zI l))=true:=bH (by simp only[len,hll]; omega)
   have hg:aA (zI l) (toN (i:Int)) (0:Int)=(iP l[i]:Int):=by
    rw[bJ (by omega)];simp[zI]
   simp only;rw[aE (bC (by simp only[len,hll]; omega)),aG hin,hg,aD (bB (by omega)),aX hi (by omega)]
   have e:w64 (aF (a:Int) (iP l[i]:Int))=((a+iP l[i]:Nat):Int):=by
    unfold aF; rw[cR (by omega)]; omega
   rw[e]
  ·rw[CL l i hi,hI]; omega
 ·simp only;rw[aD (bB (by simp only[len,hll]; omega)),hI,aO4]
theorem zM:∀(l:List Row) (k:Int),CH l k=0→(∀r∈l,oI r=0)∧k=0
 | [],k,h=>⟨fun r hr=>(by cases hr),h⟩
 |r::l,k,h=>by
  simp only[CH] at h
  split at h
  ·rename_i hc; exact absurd h hc
  ·rename_i hc;obtain⟨h1,h2⟩:=zM l k h;refine⟨fun q hq=>?_,h2⟩;rcases aPR.1 hq with rfl|hq
   ·simpa using hc
   ·exact h1 q hq
theorem R3{x:Ev}{rs:List Reg}(h:lV x rs=0):1≤x.1∧x.1≤1099511627776∧(0≤x.2.1.1∧x.2.1.1<x.2.1.2∧x.2.1.2≤5184000)∧0<x.2.2.2.2.2.length∧x.2.2.2.2.2.length≤4∧(∀r∈x.2.2.2.2.2,oI r=0)∧∃r,CB rs x.2.2.1=some r∧(GJ r (zI x.2.2.2.2.2)).2=0:=by
 unfold lV at h
 split at h
 ·cases h
 split at h
 ·cases h
 split at h
 ·cases h
 rename_i c1 c2 c3
 split at h
 ·cases h
 rename_i r hr
 split at h
 ·cases h
 split at h
 ·cases h
 split at h
 ·cases h
 split at h
 ·cases h
 rename_i c6 c7;obtain⟨h1,h2⟩:=zM _ _ h;exact⟨by omega,by omega,by omega,by omega,by omega,h1,r,hr,h2⟩
def aA7(p:Option Ev) (x:Ev):Bool:=match p with
 |some q=>decide (lY q x)
 |none=>true
def CM(rs:List Reg) (last:Int) (pre:List Ev) (x:Ev):Int :=
 if lV x rs≠0 then lV x rs else if last<x.1 then 2 else if aA7 pre.getLast? x=false then 8 else if lX pre x.1 then 7 else 0
def rH(d:Doc):Int:=AN (CM d.2.2.2.2.2.1 d.2.2.2.2.1) [] d.2.2.2.2.2.2.1
theorem LG{rs:List Reg}{last:Int}{pre:List Ev}{x:Ev}(h:CM rs last pre x=0):lV x rs=0∧x.1≤last∧aA7 pre.getLast? x=true∧¬lX pre x.1:=by
 unfold CM at h
 split at h
 ·rename_i hc; exact absurd h hc
 rename_i c1
 split at h
 ·cases h
 rename_i c2
 split at h
 ·cases h
 rename_i c3
 split at h
 ·cases h
 rename_i c4;exact⟨by simpa using c1,by omega,by simpa using c3,c4⟩
theorem CN{α:Type}{l:List α}{i:Nat}(h:i<l.length):(l.take (i+1)).getLast?=some l[i]:=by
 rw[aM4 h,List.getLast?_concat]
theorem aM1{α:Type}{K:Unit→Option α}{X:Option α}(h:K ()=X) (T:(Unit→Option α)→Option α):jn K T=T fun _=>X:=by
 rw[cI,show K=fun _=>X from funext fun _=>h]
def aFG(p:Option Cmt) (c:Cmt):Bool:=match p with
 |some q=>decide (q.1<c.1)
 |none=>true
def evZ:Ev:=(0,(0,0),[],0,[],[])
def E1(l:List Ev) (k:Int):Ev:=aA l (toN (qA 0 l k)) evZ
def R4(d:Doc) (c:Cmt):Int :=
 if c.2.1<1 then 2 else if d.2.2.2.2.1<c.2.1 then 2 else
 if c.2.2.2.2.2.2.2=true then(if c.2.2.1≠0 then 2 else if c.2.2.2.1≠0 then 2 else 0) else
 if ¬lX d.2.2.2.2.2.2.1 c.2.1 then 6 else if c.2.2.1<0 then 2 else if c.2.2.2.1≤c.2.2.1 then 2 else
 if LE (E1 d.2.2.2.2.2.2.1 c.2.1)<c.2.2.2.1 then 2 else 0
def aMB(c:Cmt):Int:=if nm c.2.2.2.2.1=false then 5 else if vld c.2.2.2.2.2.1=false then 10 else if c.2.2.2.2.2.1=[] then 4 else if 400<c.2.2.2.2.2.1.length then 9 else 0
def YD(d:Doc) (c:Cmt):Int:=if R4 d c≠0 then R4 d c else aMB c
def zO(d:Doc) (pre:List Cmt) (c:Cmt):Int :=
 if c.1<1 then 2 else if d.2.2.2.2.1<c.1 then 2 else if aFG pre.getLast? c=false then 8 else if lX d.2.2.2.2.2.2.1 c.1 then 7 else YD d c
def pE(d:Doc):Int:=if 64<d.2.2.2.2.2.2.2.length then 9 else AN (zO d) [] d.2.2.2.2.2.2.2
def YE(d:Doc):Prop:=(∀x∈d.2.2.2.2.2.2.1,(∀r∈x.2.2.2.2.2,okR r)∧x.2.2.2.2.2.length≤4)∧d.2.2.2.2.2.2.1.length≤400∧∀c∈d.2.2.2.2.2.2.2,c.2.2.2.2.2.1.length≤4000000
theorem E2{d:Doc}(hg:YE d){k:Int}(h:lX d.2.2.2.2.2.2.1 k):inb (qA 0 d.2.2.2.2.2.2.1 k) (len d.2.2.2.2.2.2.1)=true∧0≤qA 0 d.2.2.2.2.2.2.1 k∧q45 fuelH (E1 d.2.2.2.2.2.2.1 k)=some (LE (E1 d.2.2.2.2.2.2.1 k)):=by
 obtain⟨j,hj,e1,e2,e3⟩:=CJ _ 0 k h
 have he:E1 d.2.2.2.2.2.2.1 k=d.2.2.2.2.2.2.1[j]:=by
  unfold E1;rw[e1,aPY,bJ hj]
 obtain⟨h1,h2⟩:=hg.1 _ (aO8 hj);rw[he];refine⟨by rw[e1]; exact bH (by simp only[len]; omega),by omega,GR h1 (by omega)⟩
theorem LH{d:Doc}(hg:YE d) (c:Cmt):q46 fuelH (d,c,lW 0 d.2.2.2.2.2.2.1)=some (R4 d c,lW 0 d.2.2.2.2.2.2.1):=by
 unfold q46 R4;simp only;rw[cS]
 by_cases c1:c.2.1<1
 ·rw[if_pos c1,if_pos c1]
 rw[if_neg c1,if_neg c1,cS]
 by_cases c2:d.2.2.2.2.1<c.2.1
 ·rw[if_pos c2,if_pos c2]
 rw[if_neg c2,if_neg c2]
 by_cases c3:c.2.2.2.2.2.2.2=true
 ·rw[aE c3,if_pos c3,sV,sV]
  by_cases c4:c.2.2.1≠0
  ·rw[if_pos c4,if_pos c4]
  rw[if_neg c4,if_neg c4]
  by_cases c5:c.2.2.2.1≠0
  ·rw[if_pos c5,if_pos c5]
  ·rw[if_neg c5,if_neg c5]
 ·rw[aD (by simpa using c3),if_neg c3,jP,oG]
  by_cases c4:lX d.2.2.2.2.2.2.1 c.2.1
  ·rw[if_pos c4,if_neg (not_not_intro c4),cS]
   by_cases c5:c.2.2.1<0
   ·rw[if_pos c5,if_pos c5]
   rw[if_neg c5,if_neg c5,wP]
   by_cases c6:c.2.2.2.1≤c.2.2.1
   ·rw[if_pos c6,if_pos c6]
   obtain⟨q1,q2,q3⟩:=E2 hg c4
   have hm:lG ieq (0:Int) (lW 0 d.2.2.2.2.2.2.1) c.2.1=qA 0 d.2.2.2.2.2.2.1 c.2.1:=CI _ _ _ c4
   rw[if_neg c6,if_neg c6,hm,aG q1];refine aP9 (bG (show q45 fuelH (aA d.2.2.2.2.2.2.1 (toN (qA 0 d.2.2.2.2.2.2.1 c.2.1)) evZ)=_ from q3)) ?_;rw[cS]
   by_cases c7:LE (E1 d.2.2.2.2.2.2.1 c.2.1)<c.2.2.2.1
   ·rw[if_pos c7,if_pos c7]
   ·rw[if_neg c7,if_neg c7]
  ·rw[if_neg c4,if_pos c4]
theorem LI{d:Doc}(hg:YE d):q47 fuelH (d,lW 0 d.2.2.2.2.2.2.1)=some (pE d,lW 0 d.2.2.2.2.2.2.1):=by
 unfold q47 pE;simp only
 by_cases h:64<d.2.2.2.2.2.2.2.length
 ·rw[aE (bC (by simp only[len]; omega)),if_pos h]
 rw[aD (bB (by simp only[len]; omega)),if_neg h,cI]
 have hanc:=fun c=>LH hg c
 have hvl:=hg.2.2
 generalize hm:lW 0 d.2.2.2.2.2.2.1=m at hanc ⊢
 have hmh:∀k,gU ieq m k=decide (lX d.2.2.2.2.2.2.1 k):=fun k=>by rw[←hm]; exact jP _ _ _
 generalize hl:d.2.2.2.2.2.2.2=l at h hvl ⊢;refine aP9 (zK (l:=l) (fun (_:Unit) (p:Nat)=>((p:Int),m)) (fun _=>()) (zO d) (fun e=>(e,m)) (some (0,m)) (fun self i hi=>?_) (fun _ self=>?_) fuelH 0 (aP7 _) (by have:=bA; omega) (fun j _ hj=>by omega)) ?_
 ·have hin:inb (i:Int) (len l)=true:=bH (by simp only[len]; omega)
  have hv:=hvl _ (aO8 hi)
  simp only;rw[aE (bC (by simp only[len]; omega)),aG hin,bJ hi];refine aP9 (aM1 (X:=if YD d l[i]≠0 then some (YD d l[i],m) else self (((i+1:Nat):Int),m)) ?_ _) ?_
  ·skip
   rw[hanc,aB];unfold YD
   by_cases c1:R4 d l[i]≠0
   ·rw[if_pos c1,if_pos c1,aE (dF c1)]
   ·rw[if_neg c1,aD (fB (by simpa using c1)),mM,aB];unfold aMB
    by_cases c2:nm l[i].2.2.2.2.1=false
    ·rw[aE (by rw[c2]; rfl),if_pos c2,if_pos (by decide)]
    rw[aD (by rw[←aO5,lC]; exact c2),if_neg c2,kI _ hv,aB]
    by_cases c3:vld l[i].2.2.2.2.2.1=false
    ·rw[aE (by rw[c3]; rfl),if_pos c3,if_pos (by decide)]
    rw[aD (by rw[←aO5,lC]; exact c3),if_neg c3]
    by_cases c4:l[i].2.2.2.2.2.1=[]
    ·rw[aE (by rw[dL]; exact c4),if_pos c4,if_pos (by decide)]
    rw[aD (by rw[←aO5,dL]; exact c4),if_neg c4]
    by_cases c5:400<l[i].2.2.2.2.2.1.length
    ·rw[aE (bC (by simp only[len]; omega)),if_pos c5,if_pos (by decide)]
    ·rw[aD (bB (by simp only[len]; omega)),if_neg c5,if_neg (by decide),aX hi (by omega)]
  ·simp only;rw[cS,cS];unfold zO
   by_cases c1:l[i].1<1
   ·rw[if_pos c1,if_pos c1,if_pos (by decide)]
   rw[if_neg c1,if_neg c1]
   by_cases c2:d.2.2.2.2.1<l[i].1
   ·rw[if_pos c2,if_pos c2,if_pos (by decide)]
   rw[if_neg c2,if_neg c2,hmh]
   cases i with
   |zero =>
    rw[aD (by rfl)]
    have e0:aFG (l.take 0).getLast? l[0]=true:=rfl
    rw[e0,if_neg (show ¬true=false by decide),jH]
    by_cases c3:lX d.2.2.2.2.2.2.1 l[0].1
    ·rw[if_pos c3,if_pos c3,if_pos (by decide)]
    ·rw[if_neg c3,if_neg c3]
   |succ i =>
    rw[aE (bC (by omega)),lU (by omega),aG (bH (by simp only[len]; omega)),bJ (show i<l.length by omega),wP,jH]
    have e0:aFG (l.take (i+1)).getLast? l[i+1]=decide (l[i].1<l[i+1].1):=by rw[CN (show i<l.length by omega)]; rfl
    rw[e0]
    by_cases c4:l[i+1].1≤l[i].1
    ·rw[if_pos c4,decide_eq_false (by omega),if_pos rfl,if_pos (by decide)]
    rw[if_neg c4,decide_eq_true (by omega),if_neg (show ¬true=false by decide)]
    by_cases c3:lX d.2.2.2.2.2.2.1 l[i+1].1
    ·rw[if_pos c3,if_pos c3,if_pos (by decide)]
    ·rw[if_neg c3,if_neg c3]
 ·simp only;rw[aD (bB (by simp only[len]; omega))]
 ·rw[List.take_zero,aPM]
  by_cases hc:AN (zO d) [] l≠0
  ·rw[if_pos hc]
  ·rw[if_neg hc]
   have hc:AN (zO d) [] l=0:=by simpa using hc
   rw[hc]
def bW(d:Doc):Int :=
 if gL d≠0 then gL d else if hY d.2.2.2.2.2.1≠0 then hY d.2.2.2.2.2.1 else
 if 400<d.2.2.2.2.2.2.1.length then 9 else if rH d≠0 then rH d else pE d
def rI(d:Doc):Prop:=d.1.length≤4000000∧d.2.2.2.2.2.1.length≤4000000∧(∀x∈d.2.2.2.2.2.2.1,Q4 x.2.2.2.2.2)∧∀c∈d.2.2.2.2.2.2.2,c.2.2.2.2.2.1.length≤4000000
theorem aA8{d:Doc}(hs:rI d) (hn:d.2.2.2.2.2.2.1.length≤400) (h:∀j (h:j<d.2.2.2.2.2.2.1.length),CM d.2.2.2.2.2.1 d.2.2.2.2.1 (d.2.2.2.2.2.2.1.take j) d.2.2.2.2.2.2.1[j]=0):YE d:=by
 refine⟨fun x hx=>?_,hn,hs.2.2.2⟩;obtain⟨j,hj,rfl⟩:=List.mem_iff_getElem.1 hx;obtain⟨h1,_⟩:=LG (h j hj);obtain⟨_,_,_,_,h4,h5,_⟩:=R3 h1;exact⟨fun r hr=>YB (hs.2.2.1 _ hx r hr) (h5 r hr),h4⟩
theorem E3{l:List Ev}{i:Nat}(hi:i<l.length) (hn:¬lX (l.take i) l[i].1):nB ieq (lW 0 (l.take i)) l[i].1 (i:Int)=lW 0 (l.take (i+1)):=by
 rw[nL _ (by rw[jP,decide_eq_false hn]),aM4 hi,LD]
 have:(l.take i).length=i:=by rw[aO0]; omega
 rw[this,aPY];rfl
theorem gM{d:Doc}(hs:rI d):q48 fuelH d=some (bW d):=by
 unfold q48 bW;rw[bG (E0 hs.1)]
 by_cases c1:gL d≠0
 ·rw[aE (dF c1),if_pos c1]
 rw[aD (fB (by simpa using c1)),if_neg c1,bG (KW _)]
 by_cases c2:hY d.2.2.2.2.2.1≠0
 ·rw[aE (dF c2),if_pos c2]
 rw[aD (fB (by simpa using c2)),if_neg c2]
 by_cases c3:400<d.2.2.2.2.2.2.1.length
 ·rw[aE (bC (by simp only[len]; omega)),if_pos c3]
 rw[aD (bB (by simp only[len]; omega)),if_neg c3,cI]
 have hgood:=@aA8 d hs (by omega)
 have hcm:=@LI d
 unfold rH
 have hev:=hs.2.2.1
 generalize hl:d.2.2.2.2.2.2.1=l at c3 hgood hcm hev ⊢;refine aP9 (zK (l:=l) (fun (a:List (Int×Int)) (p:Nat)=>((p:Int),a)) (fun pre=>lW 0 pre) (CM d.2.2.2.2.2.1 d.2.2.2.2.1) (fun e=>e) (some (pE d)) (fun self i hi=>?_) (fun hz self=>?_) fuelH 0 (aP7 _) (by have:=bA; omega) (fun j _ hj=>by omega)) ?_
 ·have hin:inb (i:Int) (len l)=true:=bH (by simp only[len]; omega)
  have hx:=hev _ (aO8 hi)
  simp only;rw[aE (bC (by simp only[len]; omega)),aG hin,bJ hi,bG (zJ hx hs.2.1),cS,aX hi (by omega)];unfold CM
  by_cases e1:lV l[i] d.2.2.2.2.2.1≠0
  ·rw[if_pos e1,if_pos e1,aE (dF e1)]
  rw[if_neg e1,aD (fB (by simpa using e1))]
  by_cases e2:d.2.2.2.2.1<l[i].1
  ·rw[if_pos e2,if_pos e2,if_pos (by decide)]
  rw[if_neg e2,if_neg e2]
  have hput:=fun h=>E3 hi h
  cases i with
  |zero =>
   rw[aD (by rfl),jP,jH]
   have e0:aA7 (l.take 0).getLast? l[0]=true:=rfl
   rw[e0,if_neg (show ¬true=false by decide)]
   by_cases e3:lX (l.take 0) l[0].1
   ·rw[if_pos e3,if_pos e3,if_pos (by decide)]
   ·rw[if_neg e3,if_neg e3,hput e3,if_neg (by decide)]
  |succ i =>
   rw[aE (bC (by omega)),lU (by omega),aG (bH (by simp only[len]; omega)),bJ (show i<l.length by omega),bG (UG _ _),jP,jH,oG]
   have e0:aA7 (l.take (i+1)).getLast? l[i+1]=decide (lY l[i] l[i+1]):=by rw[CN (show i<l.length by omega)]; rfl
   rw[e0]
   by_cases e4:lY l[i] l[i+1]
   ·rw[if_pos e4,decide_eq_true e4,if_neg (show ¬true=false by decide)]
    by_cases e3:lX (l.take (i+1)) l[i+1].1
    ·rw[if_pos e3,if_pos e3,if_pos (by decide)]
    ·rw[if_neg e3,if_neg e3,hput e3,if_neg (by decide)]
   ·rw[if_neg e4,decide_eq_false e4,if_pos rfl,if_pos (by decide)]
 ·simp only;rw[aD (bB (by simp only[len]; omega)),bG (hcm (hgood hz))]
 ·rw[List.take_zero,aPM]
  split<;>rfl
theorem E4{l:List Reg}(hl:l.length≤1000000):B7 fuelH (l,l)=some true:=by
 unfold B7;simp only;rw[aD (fB rfl),cI];refine eV (n:=l.length) (fun (_:Unit) (i:Nat)=>(i:Int)) (fun _ _=>True) _ (fun self a i hi _=>⟨(),?_,trivial⟩) (fun self a _=>?_) fuelH 0 () (aP7 _) (by have:=bA; omega) trivial
 ·have hin:inb (i:Int) (len l)=true:=bH (by simp only[len]; omega)
  rw[aE (bC (by simp only[len]; omega)),aG hin,aG hin,bJ hi,aX hi (by omega),aD];rw[←aO5,lC,Bool.eq_false_iff];intro h;refine h ?_;simp only[pD,dL,oH,zA];simp
 ·rw[aD (bB (by simp only[len]; omega))]
theorem aA9{x:Ev}(h1:x.2.2.2.2.2.length≤4000000) (h2:∀r∈x.2.2.2.2.2,r.length≤4000000):SX fuelH (x,x)=some true:=by
 unfold SX;simp only;rw[aE (iN rfl),aE (by simp[pD,oH]),aE (by rw[dL]),aE (iN rfl),aE (by rw[dL]),D8 _ _ h1 h2,aB];simp
theorem R5{l:List Ev}(hl:l.length≤1000000) (h:∀x∈l,x.2.2.2.2.2.length≤4000000∧∀r∈x.2.2.2.2.2,r.length≤4000000):C0 fuelH (l,l)=some true:=by
 unfold C0;simp only;rw[aD (fB rfl),cI];refine eV (n:=l.length) (fun (_:Unit) (i:Nat)=>(i:Int)) (fun _ _=>True) _ (fun self a i hi _=>⟨(),?_,trivial⟩) (fun self a _=>?_) fuelH 0 () (aP7 _) (by have:=bA; omega) trivial
 ·have hin:inb (i:Int) (len l)=true:=bH (by simp only[len]; omega)
  obtain⟨h1,h2⟩:=h _ (aO8 hi);rw[aE (bC (by simp only[len]; omega)),aG hin,aG hin,bJ hi,aX hi (by omega),bG (aA9 h1 h2),aD (by rfl)]
 ·rw[aD (bB (by simp only[len]; omega))]
theorem R6{d:Doc}(h1:d.2.2.2.2.2.1.length≤1000000) (h2:d.2.2.2.2.2.2.1.length≤1000000) (h3:∀x∈d.2.2.2.2.2.2.1,x.2.2.2.2.2.length≤4000000∧∀r∈x.2.2.2.2.2,r.length≤4000000) (h4:d.2.2.2.2.2.2.2=[]):KD fuelH (d,d)=some true:=by
 unfold KD
 have hh:B6 fuelH d=some (d.1,d.2.1,d.2.2.1,d.2.2.2.1,d.2.2.2.2.1):=rfl
 simp only;rw[hh,aB,aB,aE (by simp[pD,oH,dL,zA]),E4 h1,aB,aE rfl,R5 h2 h3,aB,aE rfl,h4]
 have:O5 fuelH ([],[])=some true:=by kernel_rfl
 rw[this];rfl
def wtG(r:Reg):Nat:=r.1.length+1+(1+(1+(1+(1+(1+1)))))
def wtX(x:Ev):Nat:=1+(1+1+(x.2.2.1.length+1+(1+(x.2.2.2.2.1.length+1+(bkL wtR x.2.2.2.2.2+1)))))
def wtC(c:Cmt):Nat:=1+(1+(1+(1+(c.2.2.2.2.1.length+1+(c.2.2.2.2.2.1.length+1+(1+1))))))
def wtD(d:Doc):Nat:=d.1.length+1+(d.2.1.length+1+(1+(1+(1+(bkL wtG d.2.2.2.2.2.1+1+(bkL wtX d.2.2.2.2.2.2.1+1+(bkL wtC d.2.2.2.2.2.2.2+1)))))))
def aFH(t:Y_) (r:Int):Bool:=ieq ((decodeL (enc r++t)).1:Int) r&&decide ((decodeL (enc r++t)).2=(enc r).length)
theorem aBA(t:Y_):((gJ++hM).all (aFH t))=true:=by kernel_rfl
theorem aBB{r:Int}(hr:iO r=true) (t:Y_):((decodeL (enc r++t)).1:Int)=r∧(decodeL (enc r++t)).2=(enc r).length:=by
 have h:aFH t r=true:=WX (aBA t) hr
 unfold aFH at h;rw[aOY,oH,decide_eq_true_eq] at h;exact h
theorem aBC{r:Int}(hr:iO r=true):enc r≠[]:=by
 have h:=WX (P:=fun r=>!(enc r).isEmpty) (by kernel_rfl) hr
 intro e;simp[e] at h
theorem YF:∀(l:List Int) (t:Y_),l.all iO=true→vld (ofR l++t)=vld t
 | [],t,_=>rfl
 |r::l,t,h=>by
  rw[List.all_cons,aOY] at h
  have e:ofR (r::l)++t=enc r++(ofR l++t):=by unfold ofR; rw[List.flatMap_cons,aOQ]
  obtain⟨d1,d2⟩:=aBB h.1 (ofR l++t);rw[e,yY _ (by simp[aBC h.1]),d1,d2,List.drop_left,if_pos h.1,YF l t h.2]
theorem jQ{d:Doc}(h:bW d=0):gL d=0∧d.2.2.2.2.2.2.1.length≤400∧rH d=0:=by
 unfold bW at h
 split at h
 ·rename_i hc; exact absurd h hc
 rename_i c1
 split at h
 ·rename_i hc; exact absurd h hc
 split at h
 ·cases h
 rename_i hn
 split at h
 ·rename_i hc; exact absurd h hc
 rename_i hc;exact⟨by simpa using c1,by omega,by simpa using hc⟩
end
end Go.Mo
end
section
end
section
namespace Go.Mo
open Go Go.W Go.Lib
set_option maxRecDepth 100000
noncomputable section
def aC1(l:Lbl):Prop:=(0≤l.1∧l.1≤23)∧(0≤l.2.1∧l.2.1≤59)∧(0≤l.2.2.1∧l.2.2.1≤59)∧(0≤l.2.2.2.1∧l.2.2.2.1≤59)
structure HdrOk (h:Hdr):Prop where
 rate:h.1=3∨h.1=5
 lang:h.2.1=[]∨nm h.2.1=true
 ttl:vld h.2.2.1=true
 ttlL:h.2.2.1.length≤400
 blocks:0≤h.2.2.2.1∧h.2.2.2.1≤99999
 groups:0≤h.2.2.2.2.1∧h.2.2.2.2.1≤99999
 start:aC1 h.2.2.2.2.2.1
 first:aC1 h.2.2.2.2.2.2.1
 rows:0≤h.2.2.2.2.2.2.2.1∧h.2.2.2.2.2.2.2.1≤99
 cols:0≤h.2.2.2.2.2.2.2.2∧h.2.2.2.2.2.2.2.2≤99
 d1:h.2.2.2.2.2.1.2.2.2.2=false
 d2:h.2.2.2.2.2.2.1.2.2.2.2=false
def hz:Hdr:=((0:UInt8),([]:Y_),([]:Y_),(0:Int),(0:Int),((0:Int),(0:Int),(0:Int),(0:Int),false),((0:Int),(0:Int),(0:Int),(0:Int),false),(0:Int),(0:Int))
def aC2(x:Ev):Prop:=x.2.2.2.2.2.length≤1000000∧∀r∈x.2.2.2.2.2,r.length≤1000000
theorem E5{l:Row}(h:l.length≤4000000):q98 fuelH l=some l:=by
 have h1:grd (cW (aF (len ([]:Row)) (len l)) 40) (some (bR ([]:Row) l))=some l:=by
  rw[aG (dW (by simp only[aF,len,aPF]; omega))]; rfl
 unfold q98
 cases l with
 |nil =>
  rw[aD (by rfl)];exact rR rfl h1
 |cons r l =>
  rw[aE (dF (by simp only[len,aOX]; omega))];exact h1
theorem LJ{l:List Row}(hl:l.length≤1000000) (h:∀r∈l,r.length≤1000000):q99 fuelH l=some l:=by
 unfold q99;rw[UE (by omega),aB,cI];refine eV (n:=l.length) (fun (a:List Row) (i:Nat)=>((i:Int),a)) (fun _ a=>a=l) _ (fun self a i hi hI=>?_) (fun self a hI=>?_) fuelH 0 l (aP7 _) (by have:=bA; omega) rfl
 ·subst hI
  have hin:inb (i:Int) (len a)=true:=bH (by simp only[len]; omega)
  have hr:=h _ (aO8 hi)
  refine⟨a,?_,rfl⟩
  have ht:toN (i:Int)=i:=by simp[toN]
  simp only;rw[aE (bC (by simp only[len]; omega)),aG hin,bJ hi,E5 (by omega),aB,aG hin,aX hi (by omega),ht];unfold pI;rw[List.set_getElem_self]
 ·simp only;rw[aD (bB (by simp only[len]; omega)),hI]
theorem LK{x:Ev}(h:aC2 x):B4 fuelH x=some x:=by
 unfold B4;rw[LJ h.1 h.2];rfl
end
end Go.Mo
end
end

section
set_option linter.all false
namespace Go.Mo
open Go Go.W Go.Lib
set_option maxRecDepth 100000
noncomputable section
theorem jR{V R σ α:Type}{F:(V→Option R)→V→Option R}{s:List α}(st:σ→Nat→V) (spec:σ→List α→Option R) (I:Nat→σ→Prop)
  (hstep:∀self a i,i≤s.length→I i a→(∀a' j,i<j→j≤s.length→I j a'→self (st a' j)=spec a' (s.drop j))→F self (st a i)=spec a (s.drop i)) :
  ∀(fuel i:Nat) (a:σ),s.length-i<fuel→i≤s.length→I i a→bN F fuel (st a i)=spec a (s.drop i)
 | 0,i,a,h,_,_=>by omega
 |fuel+1,i,a,h,hi,hI=>by
  rw[eU];exact hstep _ a i hi hI fun a' j hj hj2 hI2=>jR st spec I hstep fuel j a' (by omega) hj2 hI2
theorem uU{α:Type}{s:List α}(h:s.length≤4000000) (i:Nat):s.length-i<fuelH:=by have:=bA; omega
def zP(x:UInt8):Bool:=(decide (97≤x.toNat)&&decide (x.toNat≤122))||(decide (65≤x.toNat)&&decide (x.toNat≤90))
def aBD(x:UInt8):Bool:=decide (48≤x.toNat)&&decide (x.toNat≤57)
def UH(x:UInt8):Bool:=zP x||aBD x||x==45
def wsB(x:UInt8):Bool:=x==9||x==10||x==13||x==32
theorem LL:((List.range 256).all fun n=>decide (q57 0 (UInt8.ofNat n)=some (zP (UInt8.ofNat n))∧aD7 0 (UInt8.ofNat n)=some (zP (UInt8.ofNat n))∧q58 0 (UInt8.ofNat n)=some (UH (UInt8.ofNat n))∧aAT 0 (UInt8.ofNat n)=some (aBD (UInt8.ofNat n))∧aD8 0 (UInt8.ofNat n)=some (wsB (UInt8.ofNat n))))=true:=by kernel_rfl
theorem YG(x:UInt8):q57 0 x=some (zP x)∧aD7 0 x=some (zP x)∧q58 0 x=some (UH x)∧aAT 0 x=some (aBD x)∧aD8 0 x=some (wsB x) :=
 of_decide_eq_true (eE (P:=fun x=>decide (q57 0 x=some (zP x)∧aD7 0 x=some (zP x)∧q58 0 x=some (UH x)∧aAT 0 x=some (aBD x)∧aD8 0 x=some (wsB x))) LL x)
theorem E6(N:Nat) (x:UInt8):q57 N x=some (zP x):=(YG x).1
theorem aBE(N:Nat) (x:UInt8):q58 N x=some (UH x):=(YG x).2.2.1
def kv(v:Int):Option (Y_×Int):=cnd (ilt v (0:Int)) (some (([]:Y_),(4:Int))) (bnd (aGG fuelH (wr .i32 v)) fun v2=>cnd (ilt v2 (0:Int)) (some (([]:Y_),(10:Int))) (bnd (aD9 fuelH ([wr .i32 v]:List Int)) fun v3=>some (v3,(0:Int))))
def v8(x:Y_) (b:Bool):Option (Y_×Int):=cnd b (grd (in2 (2:Int) (len x)) (bnd (KE fuelH (iW (toN (2:Int)) x,(16:Int),(5:Int))) kv))
 (cnd (ilt (0:Int) (len x)) (grd (inb (0:Int) (len x)) (cnd (ieq (n8 (aA x (toN (0:Int)) (0:UInt8))) (n8 (35:UInt8))) (grd (in2 (1:Int) (len x)) (bnd (KE fuelH (iW (toN (1:Int)) x,(10:Int),(6:Int))) kv)) (kv (-1:Int)))) (kv (-1:Int)))
def k2N(N:Nat) (s:Y_) (at':Int) (most:Int) (v2:Int×Int):Option (Y_×Int×Int) :=
    cnd (ieq v2.1 at')
     (some (([]:Y_),(0:Int),(4:Int)))
     (cnd (ilt most (w64 (aJ v2.1 at')))
      (some (([]:Y_),(0:Int),(4:Int)))
      (cnd (ieq v2.1 (len s))
       (some (([]:Y_),(0:Int),(4:Int)))
       (grd (inb v2.1 (len s))
        (cnd (ine (n8 (aA s (toN v2.1) (0:UInt8))) (n8 (59:UInt8)))
         (some (([]:Y_),(0:Int),(4:Int)))
         (bnd (q12 N (wr .i32 v2.2)) fun v3 =>
         cnd (ilt v3 (0:Int))
          (some (([]:Y_),(0:Int),(10:Int)))
          (some (enc (wr .i32 v2.2),w64 (aF v2.1 (1:Int)),(0:Int))))))))
def k2(s:Y_) (at':Int) (most:Int) (v2:Int×Int):Option (Y_×Int×Int):=k2N fuelH s at' most v2
def nmX(s:Y_):Bool:=decide (1≤s.length)&&decide (s.length≤32)&&zP (s.getD 0 0)&&s.all UH
theorem CO{s:Y_}(hs:s.length≤4000000):∀(fuel i:Nat),s.length-i<fuel→i≤s.length →
  bN (fun v3 (v4:Int)=>cnd (ilt v4 (len s)) (grd (inb v4 (len s)) (bnd (q58 fuelH (aA s (toN v4) (0:UInt8))) fun v5=>cnd (bS v5) (some false) (v3 (w64 (aF v4 (1:Int)))))) (some true)) fuel (i:Int)=some ((s.drop i).all UH)
 | 0,i,h,_=>by omega
 |fuel+1,i,h,hi=>by
  rw[eU]
  by_cases hl:i<s.length
  ·rw[aE (bC (by simp only[len]; omega)),aG (bH (by simp only[len]; omega)),bJ hl,aBE,aB,aX hl (by omega),CO hs fuel (i+1) (by omega) (by omega),aNE hl,List.all_cons];cases UH s[i]<;>rfl
  ·obtain rfl:i=s.length:=by omega
   rw[aD (bB (by simp only[len]; omega)),aO7];rfl
theorem YH(s:Y_):iM fuelH s=some (nmX s):=by
 unfold iM nmX
 by_cases h0:1≤s.length
 ·rw[aD (bB (by simp only[len]; omega)),decide_eq_true h0]
  by_cases h1:s.length≤32
  ·have hg:aA s (toN (0:Int)) (0:UInt8)=s.getD 0 0:=rfl
   rw[aD (bB (by simp only[len]; omega)),decide_eq_true h1,aG (bH (by simp only[len]; omega)),E6,aB,hg]
   by_cases h2:zP (s.getD 0 0)=true
   ·rw[h2,aD (by rfl),cI];exact CO (by omega) fuelH 0 (uU (by omega) 0) (aP7 _)
   ·have h2:zP (s.getD 0 0)=false:=by simpa using h2
    rw[h2,aE (by rfl)];rfl
  ·rw[aE (bC (by simp only[len]; omega)),decide_eq_false h1];rfl
 ·rw[aE (bC (by simp only[len]; omega)),decide_eq_false h0];rfl
abbrev Ln:=Y_
abbrev At:=Y_×Y_
abbrev Nd:=Y_×Y_×List At×Int
def ndz:Nd:=zN
def dep(n:Nd):Int:=n.2.2.2
def i64(x:Int):Prop:=-9223372036854775808≤x∧x≤9223372036854775807
theorem CP{l:List Nd}{i:Nat}(h:i<l.length):aA l (toN (i:Int)) zN=l[i]:=bJ h
def wtA(a:At):Nat:=a.1.length+1+(a.2.length+1)
def wtN(n:Nd):Nat:=n.1.length+1+(n.2.1.length+1+(bkL wtA n.2.2.1+1+1))
structure smN (n:Nd):Prop where
 nm:n.1.length≤1090000
 tx:n.2.1.length≤1090000
 asz:n.2.2.1.length≤1090000
 an:∀a∈n.2.2.1,a.1.length≤1090000∧a.2.length≤1090000
theorem aC3{l:List Nd}(h:bkL wtN l≤1090000):∀n∈l,smN n:=fun n hn=>by
 have h1:n.1.length+1+(n.2.1.length+1+(bkL wtA n.2.2.1+1+1))≤bkL wtN l:=rG (f:=wtN) hn
 have h2:=UD (f:=wtA) (fun a=>by unfold wtA; omega) n.2.2.1
 refine⟨by omega,by omega,by omega,fun a ha=>?_⟩
 have h3:a.1.length+1+(a.2.length+1)≤bkL wtA n.2.2.1:=rG (f:=wtA) ha
 omega
def bI(name:Ln):List At→Ln×Bool
 | []=>([],false)
 |a::r=>if a.1=name then(a.2,true) else bI name r
theorem lZ{V R α β:Type}{F:(V→Option R)→V→Option R}{l:List α}(st:List β→Nat→V) (g:α→List β) (K:List β→Option R) (a0:List β){fuel:Nat}(hf:l.length<fuel)
  (hstep:∀self a i (h:i<l.length),(a++g l[i]).length≤(a0++l.flatMap g).length→F self (st a i)=self (st (a++g l[i]) (i+1)))
  (hend:∀self a,F self (st a l.length)=K a):bN F fuel (st a0 0)=K (a0++l.flatMap g):=by
 refine eV (n:=l.length) st (fun i a=>a=a0++(l.take i).flatMap g) _ (fun self a i h hI=>?_) (fun self a hI=>?_) fuel 0 a0 (aP7 _) (by omega) (by simp)
 ·have e:a++g l[i]=a0++(l.take (i+1)).flatMap g:=by
   rw[hI,aM4 h,List.flatMap_append];simp
  refine⟨_,hstep self a i h ?_,e⟩;rw[e]
  have:l=l.take (i+1)++l.drop (i+1):=(aNU _ _).symm
  conv=>rhs; rw[this,List.flatMap_append,←aOQ,aOG]
  omega
 ·rw[hend,hI,aO4]
theorem zQ{n:Int}(h0:0≤n) (h1:n≤9223372036854775807):q52 fuelH n=some (dI n):=by
 have e:q52 fuelH n=bnd (bnd (cG fuelH (n,10)) fun v0=>some v0) fun v0=>some v0:=rfl
 have e2:cG fuelH (n,10)=some (dI n):=by
  show cM fuelH (n,10)=_;unfold cM;rw[aG (by rfl),aG (BW (by omega)),aG (BW (by omega))]
 rw[e,e2];rfl
theorem uV:∀(n u:Nat) (l:Y_),eI n u l=eI n u []++l
 | 0,_,_=>rfl
 |n+1,u,l=>by
  unfold eI aO
  split
  ·rw[uV n _ (_::l),uV n _ [_]];simp
  ·rfl
def jA(a:At):List At:=if a.2=[] then [] else [a]
def eJ(l:List At):List At:=l.flatMap jA
def GS(b:Bool):Y_:=if b then [49] else []
theorem GT(N:Nat) (n:Y_) (b:Bool):q50 N (n,b)=some (n,GS b):=by cases b<;>rfl
theorem jS{n:Y_}{k:Int}(h0:0≤k) (h1:k≤9223372036854775807):q53 fuelH (n,k)=some (n,dI k):=by
 unfold q53;rw[bG (zQ h0 h1)]
def elQ(depth:Int) (name:Y_) (l:List At):Nd:=(name,[],eJ l,depth)
theorem LM(l:List At):(eJ l).length≤l.length:=by
 unfold eJ
 induction l with
 |nil=>simp
 |cons a l ih =>
  rw[List.flatMap_cons,aOG,aOX]
  have:(jA a).length≤1:=by unfold jA; split<;>simp
  omega
theorem kK{t:List Nd}{depth:Int}{name:Y_}{l:List At}(ht:t.length≤1000000) (hl:l.length≤1000):q54 fuelH (t,depth,name,l)=some (t++[elQ depth name l]):=by
 unfold q54;rw[cI]
 have hk:=LM l
 refine aP9 (lZ (l:=l) (fun a i=>((i:Int),name,([]:Y_),a,depth)) jA (fun a=>some (t++[(name,[],a,depth)])) [] (by have:=bA; omega) (fun self a i hi hle=>?_) (fun self a=>?_)) ?_
 ·have h2:(a++jA l[i]).length≤1000:=aPX hle (by simpa [eJ] using aPX hk hl)
  rw[aOG] at h2;simp only;rw[aE (bC (by simp only[len]; omega)),aG (bH (by simp only[len]; omega)),bJ hi];unfold jA at h2 ⊢
  by_cases hv:l[i].2=[]
  ·rw[aD (by rw[hv]; rfl),if_pos hv,aPB,aX hi (by omega)]
  ·rw[aE (by simp[sne,hv]),if_neg hv,aG (dW (by rw[if_neg hv] at h2; simp only[aF,len,aOX,aPF] at h2 ⊢; omega)),aX hi (by omega)];rfl
 ·simp only;rw[aD (bB (by simp only[len]; omega)),aG (dW (by simp only[aF,len,aOX,aPF]; omega))];rfl
 ·rfl
def zR(c:UInt8):Y_:=if c=0 then [] else aA gl1 c.toNat []
def pQ(k:UInt8):Y_:=if k=1 then [68,73,65,76,79,71,85,69] else if k=2 then [83,79,85,78,68] else if k=3 then [84,73,84,76,69] else if k=4 then [77,85,83,73,67] else []
def mA(r:UInt8):Y_:=if r=1 then [50,51,46,57,55,54] else if r=2 then [50,52] else if r=3 then [50,53] else if r=4 then [50,57,46,57,55] else if r=5 then [51,48] else if r=6 then [53,48] else if r=7 then [53,57,46,57,52] else []
def pR(a:UInt8):Y_:=if a=1 then [76,69,70,84] else if a=2 then [67,69,78,84,69,82] else [82,73,71,72,84]
theorem E7:((List.range 256).all fun n=>decide (q27 0 (UInt8.ofNat n)=some (pQ (UInt8.ofNat n))∧aEA 0 (UInt8.ofNat n)=some (pQ (UInt8.ofNat n))∧q49 0 (UInt8.ofNat n)=some (mA (UInt8.ofNat n))∧yW 0 (UInt8.ofNat n)=some (mA (UInt8.ofNat n))))=true:=by kernel_rfl
theorem LN(x:UInt8):q27 0 x=some (pQ x)∧aEA 0 x=some (pQ x)∧q49 0 x=some (mA x)∧yW 0 x=some (mA x) :=
 of_decide_eq_true (eE (P:=fun x=>decide (q27 0 x=some (pQ x)∧aEA 0 x=some (pQ x)∧q49 0 x=some (mA x)∧yW 0 x=some (mA x))) E7 x)
theorem aBF(N:Nat) (x:UInt8):q27 N x=some (pQ x):=(LN x).1
theorem CQ(N:Nat) (x:UInt8):q49 N x=some (mA x):=(LN x).2.2.1
def iU(u:Run):List At:=[([99,111,108,111,114],zR u.2.1.1),([105,116,97,108,105,99],GS u.2.1.2.1),([117,110,100,101,114,108,105,110,101],GS u.2.1.2.2),([114,117,98,121],u.2.2)]
def runN(u:Run):List Nd:=[elQ 3 [114,117,110] (iU u),([],u.1,[],4)]
def rowN(r:Row):List Nd:=elQ 2 [114,111,119] []::r.flatMap runN
def evA(e:Ev):List At:=[([105,100],dI e.1),([105,110],dI e.2.1.1++[102]),([111,117,116],dI e.2.1.2++[102]),([114,101,103,105,111,110],e.2.2.1),([107,105,110,100],pQ e.2.2.2.1),([115,112,101,97,107,101,114],e.2.2.2.2.1)]
def evN(e:Ev):List Nd:=elQ 1 [112] (evA e)::e.2.2.2.2.2.flatMap rowN
def iV(r:Reg):List At:=[([110,97,109,101],r.1),([116,111,112],dI r.2.1),([104,101,105,103,104,116],dI r.2.2.1),([108,101,102,116],dI r.2.2.2.1),([119,105,100,116,104],dI r.2.2.2.2.1),([97,108,105,103,110],pR r.2.2.2.2.2.1),([97,110,99,104,111,114],if r.2.2.2.2.2.2 then [66,79,84,84,79,77] else [84,79,80])]
def oJ(r:Reg):List Nd:=[elQ 1 [114,101,103,105,111,110] (iV r)]
def kL(d:Doc):List At:=[([116,105,116,108,101],d.1),([108,97,110,103],d.2.1),([114,97,116,101],mA d.2.2.1),([100,114,111,112],GS d.2.2.2.1),([108,97,115,116],dI d.2.2.2.2.1)]
def jI(d:Doc):List Nd:=[elQ 0 [116,116] (kL d)]++d.2.2.2.2.2.1.flatMap oJ++d.2.2.2.2.2.2.1.flatMap evN
structure NodOk (d:Doc):Prop where
 last:0≤d.2.2.2.2.1∧d.2.2.2.2.1≤1099511627776
 nreg:d.2.2.2.2.2.1.length≤16
 reg:∀r∈d.2.2.2.2.2.1,dJ r=0
 nev:d.2.2.2.2.2.2.1.length≤400
 ev:∀e∈d.2.2.2.2.2.2.1,1≤e.1∧e.1≤1099511627776∧(0≤e.2.1.1∧e.2.1.1<e.2.1.2∧e.2.1.2≤5184000)∧e.2.2.2.2.2.length≤4∧∀l∈e.2.2.2.2.2,l.length≤16∧∀u∈l,n8 u.2.1.1≤6
theorem vO:∀(l:List Reg) (p:Option Reg),kY p l=0→∀r∈l,dJ r=0
 | [],_,_,r,hr=>by cases hr
 |x::l,p,h,r,hr=>by
  simp only[kY] at h
  split at h
  ·rename_i hc; exact absurd h hc
  ·rename_i hc
   have hx:dJ x=0:=by simpa using hc
   have tl:kY (some x) l=0:=by
    cases p with
    |none=>exact h
    |some q =>
     simp only at h
     split at h
     ·cases h
     ·split at h
      ·cases h
      ·exact h
   rcases aPR.1 hr with rfl|hr
   ·exact hx
   ·exact vO l _ tl r hr
theorem mB{r:Reg}(h:dJ r=0):nm r.1=true∧(0≤r.2.1∧r.2.1≤14)∧(1≤r.2.2.1∧r.2.2.1≤15-r.2.1)∧(0≤r.2.2.2.1∧r.2.2.2.1≤31)∧(1≤r.2.2.2.2.1∧r.2.2.2.2.1≤32-r.2.2.2.1)∧(1≤n8 r.2.2.2.2.2.1∧n8 r.2.2.2.2.2.1≤3):=by
 unfold dJ at h
 split at h
 ·cases h
 rename_i c1
 split at h
 ·cases h
 rename_i c2
 split at h
 ·cases h
 rename_i c3
 split at h
 ·cases h
 rename_i c4
 split at h
 ·cases h
 rename_i c5
 split at h
 ·cases h
 rename_i c6;exact⟨by simpa using c1,Decidable.of_not_not c2,Decidable.of_not_not c3,Decidable.of_not_not c4,Decidable.of_not_not c5,Decidable.of_not_not c6⟩
theorem LO{l:Row}(h:oI l=0):lD l=0:=by
 unfold oI at h
 split at h
 ·rename_i hc; exact absurd h hc
 ·rename_i hc; simpa using hc
theorem R7{d:Doc}(h:bW d=0):hY d.2.2.2.2.2.1=0:=by
 unfold bW at h
 split at h
 ·rename_i hc; exact absurd h hc
 split at h
 ·rename_i hc; exact absurd h hc
 ·rename_i hc; simpa using hc
theorem zS{d:Doc}(h:bW d=0):0≤d.2.2.2.2.1∧d.2.2.2.2.1≤1099511627776:=by
 have h:=(jQ h).1
 unfold gL at h
 split at h
 ·cases h
 split at h
 ·cases h
 split at h
 ·cases h
 split at h
 ·cases h
 split at h
 ·cases h
 split at h
 ·cases h
 omega
theorem GU{d:Doc}(h:rH d=0):∀e∈d.2.2.2.2.2.2.1,lV e d.2.2.2.2.2.1=0:=by
 intro e he;obtain⟨j,hj,rfl⟩:=List.mem_iff_getElem.1 he;exact(LG (CK _ [] h j hj)).1
theorem zT{d:Doc}(h:bW d=0):NodOk d:=by
 obtain⟨h1,h2,h3⟩:=jQ h
 have h4:=R7 h
 refine⟨zS h,?_,?_,h2,fun e he=>?_⟩
 ·unfold hY at h4
  split at h4
  ·cases h4
  ·omega
 ·unfold hY at h4
  split at h4
  ·cases h4
  ·exact vO _ _ h4
 ·obtain⟨q1,q2,q3,_,q4,q5,_⟩:=R3 (GU h3 e he);refine⟨q1,q2,q3,q4,fun l hl=>?_⟩;obtain⟨r1,r2⟩:=uR (LO (q5 l hl));exact⟨r1,fun u hu=>(r2 u hu).2.2.1⟩
theorem kM{α β:Type}{g:α→List β}{c:Nat}:∀(l:List α),(∀x∈l,(g x).length≤c)→(l.flatMap g).length≤l.length*c
 | [],_=>by simp
 |x::l,h=>by
  rw[List.flatMap_cons,aOG,aOX,aP4,aP5]
  have:=h x aOK
  have:=kM l fun y hy=>h y (aN1 _ hy)
  omega
theorem R8{r:Row}(h:r.length≤16):(rowN r).length≤33:=by
 have:=kM (g:=runN) (c:=2) r (fun _ _=>aP6 _)
 simp only[rowN,aOX];omega
theorem aBG{e:Ev}(h1:e.2.2.2.2.2.length≤4) (h2:∀l∈e.2.2.2.2.2,l.length≤16):(evN e).length≤133:=by
 have:=kM (g:=rowN) (c:=33) e.2.2.2.2.2 (fun l hl=>R8 (h2 l hl))
 simp only[evN,aOX];omega
theorem R9{d:Doc}(h:NodOk d):(jI d).length≤53217:=by
 have h1:=kM (g:=oJ) (c:=1) d.2.2.2.2.2.1 (fun _ _=>aP6 _)
 have h2:=kM (g:=evN) (c:=133) d.2.2.2.2.2.2.1 (fun e he=>aBG (h.ev e he).2.2.2.1 fun l hl=>((h.ev e he).2.2.2.2 l hl).1)
 have:=h.nreg
 have:=h.nev
 simp only[jI,aOG,aOX,aPF];omega
theorem E8:((List.range 256).all fun n=>!(decide (1≤n)&&decide (n≤3))||(decide (inb (n8 (b8 (aJ (n8 (UInt8.ofNat n)) (n8 (1:UInt8))))) (ofN 3)=true)&&decide (aA gl0 (toN (n8 (b8 (aJ (n8 (UInt8.ofNat n)) (n8 (1:UInt8)))))) []=pR (UInt8.ofNat n))&&decide (aA [[],[76,69,70,84],[67,69,78,84,69,82],[82,73,71,72,84]] (toN (n8 (UInt8.ofNat n))) []=pR (UInt8.ofNat n))))=true:=by kernel_rfl
theorem S1{a:UInt8}(h1:1≤n8 a) (h2:n8 a≤3):inb (n8 (b8 (aJ (n8 a) (n8 (1:UInt8))))) (ofN 3)=true∧aA gl0 (toN (n8 (b8 (aJ (n8 a) (n8 (1:UInt8)))))) []=pR a∧aA [[],[76,69,70,84],[67,69,78,84,69,82],[82,73,71,72,84]] (toN (n8 a)) []=pR a:=by
 have h:=aO6.1 E8 a.toNat (List.mem_range.2 a.toNat_lt)
 have e:UInt8.ofNat a.toNat=a:=UInt8.ofNat_toNat
 rw[e] at h;unfold n8 at h1 h2
 have c1:decide (1≤a.toNat)=true:=decide_eq_true (by omega)
 have c2:decide (a.toNat≤3)=true:=decide_eq_true (by omega)
 rw[c1,c2] at h;simp only[Bool.and_self,Bool.not_true,aPT,aOY,decide_eq_true_eq] at h;exact⟨h.1.1,h.1.2,h.2⟩
theorem fO{n:Int}(h0:0≤n):(dI n).length≤20:=by
 obtain⟨m,rfl⟩:∃m:Nat,n=m:=⟨n.toNat,by omega⟩
 have key:∀(k u:Nat) (l:Y_),(eI k u l).length≤k+l.length:=by
  intro k
  induction k with
  |zero=>intro u l; simp[eI]
  |succ k ih =>
   intro u l;unfold eI aO
   split
   ·have:=ih (u / 10) (UInt8.ofNat (48+u%10)::l)
    simp only[aOX] at this;omega
   ·simp only[aOX]; omega
 have:=key 20 m []
 exact this
theorem S2{c:UInt8}(h:n8 c≤6){R:Type}(K:Y_→Option R):(jn K fun v=>cnd (ine (n8 c) (n8 (0:UInt8))) (grd (inb (n8 c) (ofN 7)) (v (aA gl1 (toN (n8 c)) []))) (v []))=K (zR c):=by
 rw[cI]
 by_cases hc:c=0
 ·subst hc;rw[aD (by rfl)];rfl
 ·have hn:n8 c≠0:=fun e=>hc (UA (by rw[e]; rfl))
  rw[aE (dF (show n8 c≠n8 0 from hn)),aG (bH (by have:=MP c; simp only[ofN]; omega))];unfold zR;rw[if_neg hc];rfl
def S3(d:Doc):List Nd×Int:=if 8192<(jI d).length then([],9) else(jI d,0)
theorem UI{d:Doc}(hd:NodOk d) (hc:q48 fuelH d=some 0):q55 fuelH d=some (S3 d):=by
 have hN:=R9 hd
 have hfu:=bA
 have hl:=hd.last
 unfold q55;rw[bG hc,aD (by rfl),bG (CQ _ _),bG (GT _ _ _),bG (jS hl.1 (by omega)),bG (kK (t:=[]) (by simp) (by simp)),cI];refine(lZ (l:=d.2.2.2.2.2.1) (fun a i=>((i:Int),a)) oJ ?K [elQ 0 [116,116] (kL d)] (by have:=hd.nreg; omega) ?hs ?he).trans ?_
 case he =>
  intro self a;dsimp only;rw[aD (bB (by simp only[len]; omega))]
 case hs =>
  intro self a i hi hle
  have hr:=mB (hd.reg _ (aO8 hi))
  have ha:(a++oJ (d.2.2.2.2.2.1)[i]).length≤53217:=by
   refine aPX hle (aPX ?_ hN);unfold jI;simp only[aOG];omega
  rw[aOG] at ha
  have hnr:=hd.nreg
  dsimp only;rw[aE (bC (by simp only[len]; omega)),aG (bH (by simp only[len]; omega)),bJ hi];obtain⟨al1,al2,_⟩:=S1 hr.2.2.2.2.2.1 hr.2.2.2.2.2.2
  have key:∀an:Y_,(if(d.2.2.2.2.2.1)[i].2.2.2.2.2.2 then [66,79,84,84,79,77] else [84,79,80])=an →
   (bnd (q53 fuelH ([116,111,112],(d.2.2.2.2.2.1)[i].2.1)) fun v33=>bnd (q53 fuelH ([104,101,105,103,104,116],(d.2.2.2.2.2.1)[i].2.2.1)) fun v34=>bnd (q53 fuelH ([108,101,102,116],(d.2.2.2.2.2.1)[i].2.2.2.1)) fun v35=>bnd (q53 fuelH ([119,105,100,116,104],(d.2.2.2.2.2.1)[i].2.2.2.2.1)) fun v36 =>
    grd (inb (n8 (b8 (aJ (n8 (d.2.2.2.2.2.1)[i].2.2.2.2.2.1) (n8 (1:UInt8))))) (ofN 3)) (bnd (q54 fuelH (a,(1:Int),[114,101,103,105,111,110],[([110,97,109,101],(d.2.2.2.2.2.1)[i].1),v33,v34,v35,v36,([97,108,105,103,110],aA gl0 (toN (n8 (b8 (aJ (n8 (d.2.2.2.2.2.1)[i].2.2.2.2.2.1) (n8 (1:UInt8)))))) []),([97,110,99,104,111,114],an)])) fun v37=>self (w64 (aF (i:Int) 1),v37)))=self (((i+1:Nat):Int),a++oJ (d.2.2.2.2.2.1)[i]):=fun an han=>by
   rw[bG (jS hr.2.1.1 (by omega)),bG (jS (by omega) (by omega)),bG (jS hr.2.2.2.1.1 (by omega)),bG (jS (by omega) (by omega)),aG al1,al2,bG (kK (by omega) (by simp)),aX hi (by omega),←han];rfl
  rw[cI]
  cases hb:(d.2.2.2.2.2.1)[i].2.2.2.2.2.2 with
  |true=>exact key _ (by rw[hb]; rfl)
  |false=>exact key _ (by rw[hb]; rfl)
 rw[cI];refine(lZ (l:=d.2.2.2.2.2.2.1) (fun a i=>((i:Int),a)) evN ?K2 _ (by have:=hd.nev; omega) ?hs2 ?he2).trans ?_
 case he2 =>
  intro self a;dsimp only;rw[aD (bB (by simp only[len]; omega))]
 case hs2 =>
  intro self a i hi hle;obtain⟨q1,q2,q3,q4,q5⟩:=hd.ev _ (aO8 hi)
  have ha:(a++evN (d.2.2.2.2.2.2.1)[i]).length≤53217:=aPX hle hN
  rw[aOG] at ha
  have hnr:=hd.nev
  have hL1:=fO q3.1
  have hL2:=fO (n:=(d.2.2.2.2.2.2.1)[i].2.1.2) (by omega)
  dsimp only;rw[aE (bC (by simp only[len]; omega)),cI,aG (bH (by simp only[len]; omega)),bJ hi,
   bG (jS (by omega) (by omega)),bG (zQ q3.1 (by omega)),aG (WZ (by simp only[aF,len,aOX,aPF]; omega)),bG (zQ (by omega) (by omega)),aG (WZ (by simp only[aF,len,aOX,aPF]; omega)),bG (aBF _ _),bG (kK (by omega) (by simp))]
  generalize hx:(d.2.2.2.2.2.2.1)[i]=x at *;refine(lZ (l:=x.2.2.2.2.2) (fun a i=>((i:Int),a)) rowN ?K3 _ (by omega) ?hs3 ?he3).trans ?_
  case he3 =>
   intro self2 a2;dsimp only;rw[aD (bB (by simp only[len]; omega))]
  case hs3 =>
   intro self2 a2 i2 hi2 hle2;obtain⟨r1,r2⟩:=q5 _ (aO8 hi2)
   have ha2:(a2++rowN (x.2.2.2.2.2)[i2]).length≤53217:=by
    refine aPX hle2 (aPX ?_ ha);simp only[evN,aOG,aOX,aPF];omega
   rw[aOG] at ha2;dsimp only;rw[aE (bC (by simp only[len]; omega)),cI,aG (bH (by simp only[len]; omega)),bG (kK (by omega) (by simp)),bJ hi2];generalize hy:(x.2.2.2.2.2)[i2]=y at *;refine(lZ (l:=y) (fun a i=>((i:Int),a)) runN ?K4 _ (by omega) ?hs4 ?he4).trans ?_
   case he4 =>
    intro self3 a3;dsimp only;rw[aD (bB (by simp only[len]; omega))]
   case hs4 =>
    intro self3 a3 i3 hi3 hle3
    have hu:=r2 _ (aO8 hi3)
    have ha3:(a3++runN y[i3]).length≤53217:=by
     refine aPX hle3 (aPX ?_ ha2);simp only[rowN,aOG,aOX,aPF];omega
    rw[aOG] at ha3;dsimp only;rw[aE (bC (by simp only[len]; omega)),aG (bH (by simp only[len]; omega)),bJ hi3,S2 hu]
    have hlen:∀e:Nd,(a3++[e]).length=a3.length+1:=fun e=>by simp
    rw[bG (GT _ _ _),bG (GT _ _ _),bG (kK (by omega) (by simp)),aG (dW (by simp only[aF,len,hlen,aOX,aPF]; omega)),aX hi3 (by omega)];show self3 (_,(a3++[elQ 3 [114,117,110] (iU y[i3])])++[([],y[i3].1,[],4)])=_;rw[aOQ];rfl
   rw[aX hi2 (by omega),aOQ];rfl
  rw[aX hi (by omega),aOQ];rfl
 show cnd (ilt 8192 (len (jI d))) _ _=_;unfold S3
 by_cases h8:8192<(jI d).length
 ·rw[aE (bC (by simp only[len]; omega)),if_pos h8]
 ·rw[aD (bB (by simp only[len]; omega)),if_neg h8];rfl
def atE:List Ln→List At→Int
 |_,[]=>0
 |seen,a::r=>if nmX a.1=false then 5 else if a.1∈seen then 7 else if vld a.2=false then 10 else atE (seen++[a.1]) r
def elE(n:Nd):Int:=if nmX n.1=false then 5 else if n.2.1≠[] then 4 else if 16<n.2.2.1.length then 9 else atE [] n.2.2.1
def mX(p:Option Nd) (n:Nd):Int:=match p with
 |none=>if dep n≠0 then 8 else 0
 |some q=>if dep n<1 then 8 else if(if q.1≠[] then dep q+1 else dep q)<dep n then 8 else if 15<dep n then 9 else 0
def txP(p:Option Nd) (n:Nd):Bool:=match p with
 |none=>true
 |some q=>decide (q.1=[]∧dep q=dep n)
def txE(p:Option Nd) (n:Nd):Int :=
 if txP p n=true then 8 else if n.2.1=[] then 4 else if 0<n.2.2.1.length then 4 else if vld n.2.1=false then 10 else 0
def ndE(p:Option Nd) (n:Nd):Int:=if mX p n≠0 then mX p n else if n.1≠[] then elE n else txE p n
def ckE:Option Nd→List Nd→Int
 |_,[]=>0
 |p,n::r=>if ndE p n≠0 then ndE p n else ckE (some n) r
def rJ(l:List Nd):Int:=if l.length=0 then 6 else if 8192<l.length then 9 else ckE none l
theorem UJ{m:List (Ln×Bool)}(h:∀x∈m,x.2=true) (k:Ln):lG seq false m k=decide (k∈m.map Prod.fst):=by
 induction m with
 |nil=>rfl
 |cons x m ih =>
  have ih:=ih fun y hy=>h y (aN1 _ hy)
  have hx:=h x aOK
  unfold lG;rw[ih,hx,cY]
  by_cases e:k=x.1
  ·subst e; simp
  ·simp[e]
theorem UK{m:List (Ln×Bool)}{k:Ln}(h:k ∉ m.map Prod.fst):nB seq m k true=m++[(k,true)]:=by
 induction m with
 |nil=>rfl
 |cons x m ih =>
  simp only[aPS,aPR,not_or] at h;unfold nB
  have:seq k x.1=false:=by rw[cY]; simpa using h.1
  rw[this,ih h.2];rfl
theorem aBH{n:Nd}(hs:smN n):q59 fuelH n=some (elE n):=by
 unfold q59 elE;rw[YH,aB]
 by_cases h1:nmX n.1=true
 ·rw[h1,aD (by rfl),if_neg (by decide)]
  by_cases h2:n.2.1=[]
  ·rw[aD (by unfold sne; simpa using h2),if_neg (by simpa using h2)]
   by_cases h3:16<n.2.2.1.length
   ·rw[aE (bC (by simp only[len]; omega)),if_pos h3]
   rw[aD (bB (by simp only[len]; omega)),if_neg h3,cI];generalize ha:n.2.2.1=l at *
   have h:=jR (s:=l) (fun (m:List (Ln×Bool)) (j:Nat)=>((j:Int),m)) (fun m r=>some (atE (m.map Prod.fst) r)) (fun _ m=>∀x∈m,x.2=true)
    (F:=fun v3 (v4:Int×List (Y_×Bool)) =>
     cnd (ilt v4.1 (len l))
      (grd (inb v4.1 (len l))
       (bnd (iM fuelH (aA l (toN v4.1) ([],[])).1) fun v5 =>
       cnd (bS v5)
        (some (5:Int))
        (cnd (lG seq false v4.2 (aA l (toN v4.1) ([],[])).1)
         (some (7:Int))
         (bnd (q13 fuelH (aA l (toN v4.1) ([],[])).2) fun v6 =>
         cnd (bS v6)
          (some (10:Int))
          (v3 (w64 (aF v4.1 (1:Int)),nB seq v4.2 (aA l (toN v4.1) ([],[])).1 true))))))
      (some (0:Int))) ?_ fuelH 0 [] (uU (by omega) _) (aP7 _) (by simp)
   ·exact h
   ·intro self m j hj hI hself
    by_cases hjl:j<l.length
    ·have hw:w64 (aF (j:Int) 1)=((j+1:Nat):Int):=aX hjl (by omega)
     have hsa:=hs.an l[j] (by rw[ha]; exact aO8 hjl)
     rw[aNE hjl];show cnd (ilt (j:Int) (len l)) _ _=some (if nmX (l[j]).1=false then _ else _);rw[aE (bC (by simp only[len]; omega)),aG (bH (by simp only[len]; omega)),bJ hjl,YH,aB,hw]
     by_cases e1:nmX (l[j]).1=true
     ·rw[e1,aD (by rfl),if_neg (by decide),UJ hI]
      by_cases e2:(l[j]).1∈m.map Prod.fst
      ·rw[aE (by simpa using e2),if_pos e2]
      ·rw[aD (by simpa using e2),if_neg e2,kI _ (by omega),aB]
       by_cases e3:vld (l[j]).2=true
       ·rw[e3,aD (by rfl),if_neg (by decide),UK e2];refine aP9 (hself (m++[((l[j]).1,true)]) (j+1) (by omega) (by omega) ?_) ?_
        ·intro x hx;rcases aPA.1 hx with hx|hx
         ·exact hI x hx
         ·simp at hx; rw[hx]
        ·simp
       ·have e3:vld (l[j]).2=false:=by simpa using e3
        rw[e3,aE (by rfl),if_pos rfl]
     ·have e1:nmX (l[j]).1=false:=by simpa using e1
      rw[e1,aE (by rfl),if_pos rfl]
    ·obtain rfl:j=l.length:=by omega
     show cnd (ilt (l.length:Int) (len l)) _ _=_;rw[aD (bB (by simp only[len]; omega)),aO7];rfl
  ·rw[aE (by unfold sne; simpa using h2),if_pos h2]
 ·have h1:nmX n.1=false:=by simpa using h1
  rw[h1,aE (by rfl),if_pos rfl]
def prv(l:List Nd) (i:Nat):Option Nd:=if i=0 then none else l[i-1]?
theorem kN{l:List Nd}{i:Nat}(hi:i<l.length):prv l (i+1)=some l[i]:=by
 unfold prv;rw[if_neg (by omega)];simp[hi]
theorem S4{l:List Nd}(hl:l.length≤4000000){i:Nat}(hi:i<l.length) (hp:∀q,prv l i=some q→0≤dep q∧dep q≤15):q56 fuelH (l,(i:Int))=some (mX (prv l i) l[i]):=by
 unfold q56;show grd (inb (i:Int) (len l)) (cnd (ieq (i:Int) 0) (cnd (ine (aA l (toN (i:Int)) zN).2.2.2 0) _ _) _)=_;rw[aG (bH (by simp only[len]; omega)),CP hi]
 by_cases h0:i=0
 ·subst h0;rw[aE (by rfl)];show cnd (ine (dep l[0]) 0) _ _=some (if dep l[0]≠0 then(8:Int) else 0)
  by_cases e:dep l[0]=0
  ·rw[aD (fB e),if_neg (by simpa using e)]
  ·rw[aE (dF e),if_pos e]
 ·obtain⟨k,rfl⟩:∃k,i=k+1:=⟨i-1,by omega⟩
  have hq:=hp _ (kN (by omega))
  rw[aD (lS (by omega)),kN (by omega)]
  have hb:w64 (aJ ((k+1:Nat):Int) 1)=(k:Int):=lU (by omega)
  dsimp only
  have hg:inb (k:Int) (len l)=true:=bH (by simp only[len]; omega)
  rw[hb,CP (show k<l.length by omega),aG hg,cI,aG hg];show cnd (sne l[k].1 []) (cnd (ilt (dep l[k+1]) 1) (some 8) (cnd (ilt (w64 (aF (dep l[k]) 1)) (dep l[k+1])) (some 8) (cnd (ilt 15 (dep l[k+1])) (some 9) (some 0)))) (cnd (ilt (dep l[k+1]) 1) (some 8) (cnd (ilt (dep l[k]) (dep l[k+1])) (some 8) (cnd (ilt 15 (dep l[k+1])) (some 9) (some 0)))) =
   some (if dep l[k+1]<1 then(8:Int) else if(if l[k].1≠[] then dep l[k]+1 else dep l[k])<dep l[k+1] then 8 else if 15<dep l[k+1] then 9 else 0)
  have hw:w64 (aF (dep l[k]) 1)=dep l[k]+1:=by
   simp only[aF];rw[cR (by omega)]
  rw[hw];simp only[cS]
  by_cases e:l[k].1=[]
  ·rw[aD (by unfold sne; simpa using e)];simp only[e,ne_eq,not_true,if_false]
   repeat' split
   all_goals rfl
  ·rw[aE (by unfold sne; simpa using e)];simp only[e,ne_eq,not_false_eq_true,if_true]
   repeat' split
   all_goals rfl
theorem aBI{l:List Nd}(hl:l.length≤4000000){i:Nat}(hi:i<l.length) (hs:smN l[i]):q60 fuelH (l,(i:Int))=some (txE (prv l i) l[i]):=by
 have fin:∀b:Bool,(cnd b (some (8:Int)) (cnd (seq l[i].2.1 []) (some (4:Int)) (cnd (ilt 0 (len l[i].2.2.1)) (some (4:Int)) (bnd (q13 fuelH l[i].2.1) fun v1=>cnd (bS v1) (some (10:Int)) (some (0:Int)))))) =
   some (if b=true then 8 else if l[i].2.1=[] then 4 else if 0<l[i].2.2.1.length then 4 else if vld l[i].2.1=false then 10 else 0):=fun b=>by
  cases b with
  |true=>rfl
  |false =>
   rw[aD (by rfl),if_neg (by decide)]
   by_cases h1:l[i].2.1=[]
   ·rw[aE (by rw[dL]; exact h1),if_pos h1]
   rw[aD (by rw[cY]; simpa using h1),if_neg h1]
   by_cases h2:0<l[i].2.2.1.length
   ·rw[aE (bC (by simp only[len]; omega)),if_pos h2]
   rw[aD (bB (by simp only[len]; omega)),if_neg h2,kI _ (by have:=hs.tx; omega),aB];cases vld l[i].2.1<;>rfl
 unfold q60;dsimp only;rw[aG (bH (by simp only[len]; omega)),cI];simp only[CP hi]
 by_cases h0:i=0
 ·subst h0;rw[aE (by rfl)];refine aP9 (fin true) ?_;rfl
 ·obtain⟨k,rfl⟩:∃k,i=k+1:=⟨i-1,by omega⟩
  have hb:w64 (aJ ((k+1:Nat):Int) 1)=(k:Int):=lU (by omega)
  have hg:inb (k:Int) (len l)=true:=bH (by simp only[len]; omega)
  rw[aD (lS (by omega)),kN (by omega),hb,aG hg,aG hg,CP (show k<l.length by omega)];unfold txE
  by_cases e:l[k].1=[]
  ·rw[aE (by rw[dL]; exact e)];refine aP9 (fin _) ?_
   have hc:ieq l[k].2.2.2 l[k+1].2.2.2=txP (some l[k]) l[k+1]:=by
    unfold txP;rw[aPK,oH,decide_eq_true_eq];exact⟨fun h=>⟨e,h⟩,fun h=>h.2⟩
   rw[hc]
  ·rw[aD (by rw[cY]; simpa using e)];refine aP9 (fin _) ?_
   have hc:txP (some l[k]) l[k+1]=false:=by
    unfold txP;exact decide_eq_false fun h=>e h.1
   rw[hc]
theorem YI{p:Option Nd}{n:Nd}(h:mX p n=0):0≤dep n∧dep n≤15:=by
 unfold mX at h
 cases p with
 |none =>
  simp only at h
  split at h
  ·cases h
  ·rename_i k; simp at k; omega
 |some q =>
  simp only at h
  repeat' split at h
  all_goals (first|(cases h; done)|omega)
theorem sX{p:Option Nd}{n:Nd}(h:ndE p n=0):mX p n=0:=by
 unfold ndE at h
 by_cases e:mX p n=0
 ·exact e
 ·rw[if_pos e] at h;exact h
theorem S5{l:List Nd}(hl:l.length≤4000000) (hs:∀n∈l,smN n):q61 fuelH l=some (rJ l):=by
 unfold q61 rJ
 by_cases h0:l.length=0
 ·rw[aE (iN (by simp only[len]; omega)),if_pos h0]
 rw[aD (lS (by simp only[len]; omega)),if_neg h0]
 by_cases h1:8192<l.length
 ·rw[aE (bC (by simp only[len]; omega)),if_pos h1]
 rw[aD (bB (by simp only[len]; omega)),if_neg h1,cI]
 have h:=jR (s:=l) (fun (_:Unit) (j:Nat)=>(j:Int)) (fun _ r=>some (ckE (prv l (l.length-r.length)) r)) (fun j _=>∀q,prv l j=some q→0≤dep q∧dep q≤15)
  (F:=fun v2 (v3:Int) =>
    cnd (ilt v3 (len l))
     (grd (inb v3 (len l))
      (bnd (q56 fuelH (l,v3)) fun v4 =>
      cnd (ine v4 (0:Int))
       (some v4)
       (cnd (sne (aA l (toN v3) zN).1 ([]:Y_))
        (bnd (q59 fuelH (aA l (toN v3) zN)) fun v5 =>
        cnd (ine v5 (0:Int))
         (some v5)
         (v2 (w64 (aF v3 (1:Int)))))
        (bnd (q60 fuelH (l,v3)) fun v6 =>
        cnd (ine v6 (0:Int))
         (some v6)
         (v2 (w64 (aF v3 (1:Int))))))))
     (some (0:Int))) ?_ fuelH 0 () (uU hl _) (aP7 _) (fun q hq=>by simp[prv] at hq)
 ·refine aP9 h ?_;rw[aPM,aP3];rfl
 ·intro self a j hj hI hself
  by_cases hjl:j<l.length
  ·have hw:w64 (aF (j:Int) 1)=((j+1:Nat):Int):=aX hjl (by omega)
   have hrl:l.length-(l.drop j).length=j:=by rw[aO1]; omega
   have hrl2:l.length-(l.drop (j+1)).length=j+1:=by rw[aO1]; omega
   have hsm:=hs _ (aO8 hjl)
   have hgo:mX (prv l j) l[j]=0→self ((j+1:Nat):Int)=some (ckE (some l[j]) (l.drop (j+1))):=fun hd=>by
    refine aP9 (hself () (j+1) (by omega) (by omega) (fun q hq=>?_)) ?_
    ·rw[kN hjl] at hq;injection hq with hq;rw[←hq];exact YI hd
    ·rw[hrl2,kN hjl]
   rw[hrl,aNE hjl];show cnd (ilt (j:Int) (len l)) _ _=some (if ndE (prv l j) l[j]≠0 then ndE (prv l j) l[j] else ckE (some l[j]) (l.drop (j+1)));rw[aE (bC (by simp only[len]; omega)),aG (bH (by simp only[len]; omega)),S4 hl hjl hI,aB,CP hjl,aBH hsm,aBI hl hjl hsm,aB,aB,hw];unfold ndE
   by_cases e1:mX (prv l j) l[j]=0
   ·rw[aD (fB e1),if_neg (show ¬mX (prv l j) l[j]≠0 from fun k=>k e1)]
    by_cases e2:l[j].1=[]
    ·rw[aD (by unfold sne; simpa using e2),if_neg (show ¬l[j].1≠[] from fun k=>k e2)]
     by_cases e3:txE (prv l j) l[j]=0
     ·rw[aD (fB e3),if_neg (fun k=>k e3)];exact hgo e1
     ·rw[aE (dF e3),if_pos e3]
    ·rw[aE (by unfold sne; simpa using e2),if_pos e2]
     by_cases e3:elE l[j]=0
     ·rw[aD (fB e3),if_neg (fun k=>k e3)];exact hgo e1
     ·rw[aE (dF e3),if_pos e3]
   ·rw[aE (dF e1),if_pos e1,if_pos e1]
  ·obtain rfl:j=l.length:=by omega
   show cnd (ilt (l.length:Int) (len l)) _ _=_;rw[aD (bB (by simp only[len]; omega)),aO7];rfl
end
end Go.Mo
end

section
set_option linter.all false
namespace Go.Mo
open Go Go.W Go.Lib
set_option maxRecDepth 100000
noncomputable section
open Classical
theorem aC4:∀(r:List Nd) (p:Option Nd),ckE p r=0→∀j (h:j<r.length),ndE (if j=0 then p else r[j-1]?) r[j]=0
 | [],_,_,j,h=>by simp at h
 |n::r,p,hc,j,h=>by
  have hc':(if ndE p n≠0 then ndE p n else ckE (some n) r)=0:=hc
  by_cases e:ndE p n=0
  ·rw[if_neg (fun k=>k e)] at hc'
   cases j with
   |zero=>exact e
   |succ j =>
    have:=aC4 r (some n) hc' j (by simpa using h)
    rw[if_neg (by omega)]
    cases j with
    |zero=>simpa using this
    |succ j=>simpa using this
  ·rw[if_pos e] at hc';exact absurd hc' e
theorem GV{l:List Nd}(h:rJ l=0):0<l.length∧l.length≤8192∧∀j (h:j<l.length),ndE (prv l j) l[j]=0:=by
 unfold rJ at h
 by_cases h0:l.length=0
 ·rw[if_pos h0] at h; cases h
 rw[if_neg h0] at h
 by_cases h1:8192<l.length
 ·rw[if_pos h1] at h; cases h
 rw[if_neg h1] at h;exact⟨by omega,by omega,fun j hj=>aC4 l none h j hj⟩
structure Deep (l:List Nd):Prop where
 root:∀h:0<l.length,dep l[0]=0
 low:∀i (h:i+1<l.length),1≤dep l[i+1]∧dep l[i+1]≤dep l[i]+1∧(dep l[i]<dep l[i+1]→l[i].1≠[])
 high:∀i (h:i<l.length),0≤dep l[i]∧dep l[i]≤15
theorem YJ{l:List Nd}(h:∀j (h:j<l.length),ndE (prv l j) l[j]=0):Deep l:=by
 refine⟨fun h0=>?_,fun i hi=>?_,fun i hi=>YI (sX (h i hi))⟩
 ·have:=sX (h 0 h0)
  have:(if dep l[0]≠0 then(8:Int) else 0)=0:=this
  by_cases e:dep l[0]=0
  ·exact e
  ·rw[if_pos e] at this; cases this
 ·have:=sX (h (i+1) hi)
  rw[kN (by omega)] at this
  have:(if dep l[i+1]<1 then(8:Int) else if(if l[i].1≠[] then dep l[i]+1 else dep l[i])<dep l[i+1] then 8 else if 15<dep l[i+1] then 9 else 0)=0:=this
  by_cases e1:dep l[i+1]<1
  ·rw[if_pos e1] at this; cases this
  rw[if_neg e1] at this
  by_cases e2:(if l[i].1≠[] then dep l[i]+1 else dep l[i])<dep l[i+1]
  ·rw[if_pos e2] at this; cases this
  by_cases e3:l[i].1=[]
  ·rw[if_neg (fun k=>k e3)] at e2;exact⟨by omega,by omega,fun k=>by omega⟩
  ·rw[if_pos e3] at e2;exact⟨by omega,by omega,fun _=>e3⟩
def par(l:List Nd) (i j:Nat):Prop:=i<j∧j<l.length∧(∀m,i<m→m≤j→dep (l.getD i ndz)<dep (l.getD m ndz))∧dep (l.getD j ndz)=dep (l.getD i ndz)+1
theorem gD{l:List Nd}{i:Nat}(h:i<l.length):l.getD i ndz=l[i]:=by simp[List.getD,h]
end
end Go.Mo
end

section
set_option linter.all false
namespace Go.Mo
open Go Go.W Go.Lib
set_option maxRecDepth 100000
noncomputable section
abbrev Ls:=Y_
abbrev Aq:=Y_×Y_
abbrev Tok:=Int×Y_×List Aq×Y_
abbrev Ps:=List Nd×List Ls×Bool
structure TokOk (n:Nat) (t:Tok):Prop where
 tx:t.2.2.2.length≤n
 al:t.2.2.1.length≤n
 av:∀a∈t.2.2.1,a.2.length≤n
structure PsOk (i:Nat) (p:Ps):Prop where
 jn:p.2.2=true→p.1≠[]
 nl:p.1.length≤i
 sl:p.2.1.length≤i
 tx:∀n∈p.1,n.2.1.length≤4*i
structure AtOk (l:List At):Prop where
 nm:∀a∈l,nmX a.1=true
 vl:∀a∈l,vld a.2=true
 nd:(l.map Prod.fst).Nodup
 few:l.length≤16
theorem aFI{p:Option Nd}{n:Nd}(h:ndE p n=0) (hn:n.1≠[]):elE n=0:=by
 have hd:=sX h
 unfold ndE at h;rw[if_neg (by rw[hd]; simp),if_pos hn] at h;exact h
theorem S6{p:Option Nd}{n:Nd}(h:ndE p n=0) (hn:n.1=[]):txE p n=0:=by
 have hd:=sX h
 unfold ndE at h;rw[if_neg (by rw[hd]; simp),if_neg (by rw[hn]; simp)] at h;exact h
structure BK (p:Ps) (prev:Option Nd) (r:List Nd):Prop where
 ck:ckE prev r=0
 nm:∀x∈p.2.1,nmX x=true
 lo:∀m r',r=m::r'→dep m≤(p.2.1.length:Int)
 jn:p.2.2=true→∃q,prev=some q∧q.1=[]∧dep q=(p.2.1.length:Int)∧1≤dep q
 no:prev=none→p.1=[]∧p.2.1=[]
 ro:p.1.length+r.length≤8192
theorem YK{p:Option Nd}{n:Nd}{r:List Nd}(h:ckE p (n::r)=0):ndE p n=0∧ckE (some n) r=0:=by
 have h:(if ndE p n≠0 then ndE p n else ckE (some n) r)=0:=h
 by_cases e:ndE p n=0
 ·rw[if_neg (fun k=>k e)] at h;exact⟨e,h⟩
 ·rw[if_pos e] at h;exact absurd h e
structure Vp (i:Nat) (p:Ps):Prop where
 ck:ckE none p.1=0
 ln:p.1.length≤8192
 em:p.1=[]→p.2.1=[]∧p.2.2=false
 la:∀q,p.1.getLast?=some q→(p.2.1.length:Int)≤(if q.1≠[] then dep q+1 else dep q)∧((q.1=[]∧dep q=(p.2.1.length:Int))↔p.2.2=true)
 wt:bkL wtN p.1≤10*i
structure TokNm (s:Ls) (t:Tok) (r:Ls):Prop where
 nm:t.2.1.length≤s.length
 an:∀a∈t.2.2.1,a.1.length≤s.length
 tx:t.1=0→t.2.2.2=s.take (s.length-r.length)
 kd:t.1=0∨t.1=1∨t.1=2∨t.1=3∨t.1=4
structure NdOk (p:Ps):Prop where
 nl:p.1.length≤8192
 al:∀n∈p.1,n.2.2.1.length≤16
 st:p.2.1≠[]→p.1≠[]
 jn:p.2.2=true→p.1≠[]
def sY(d:Doc):Doc:=(d.1,d.2.1,d.2.2.1,d.2.2.2.1,d.2.2.2.2.1,d.2.2.2.2.2.1.take 6,d.2.2.2.2.2.2.1.take 5,d.2.2.2.2.2.2.2.take 4)
theorem aFJ(d:Doc):jF fuelH d=some (sY d):=by
 unfold jF sY;obtain⟨e1,e2⟩:=zD d.2.2.2.2.2.2.1 5;obtain⟨e3,e4⟩:=zD d.2.2.2.2.2.2.2 4;obtain⟨e5,e6⟩:=zD d.2.2.2.2.2.1 6
 have e1:cJ (toN (iA (len d.2.2.2.2.2.2.1) (5:Int))) d.2.2.2.2.2.2.1=_:=e1
 have e3:cJ (toN (iA (len d.2.2.2.2.2.2.2) (4:Int))) d.2.2.2.2.2.2.2=_:=e3
 have e5:cJ (toN (iA (len d.2.2.2.2.2.1) (6:Int))) d.2.2.2.2.2.1=_:=e5
 rw[aG (show in2 (iA (len d.2.2.2.2.2.2.1) (5:Int)) (len d.2.2.2.2.2.2.1)=true from e2),aG (show in2 (iA (len d.2.2.2.2.2.2.2) (4:Int)) (len d.2.2.2.2.2.2.2)=true from e4),aG (show in2 (iA (len d.2.2.2.2.2.1) (6:Int)) (len d.2.2.2.2.2.1)=true from e6),e1,e3,e5]
structure FewD (d:Doc):Prop where
 reg:d.2.2.2.2.2.1.length≤6
 ev:d.2.2.2.2.2.2.1.length≤5
 cm:d.2.2.2.2.2.2.2.length≤4
 wt:wtD d≤1048576
theorem aBJ{d:Doc}(hb:wtD d≤1048576):FewD (sY d):=by
 have h1:bkL wtG (d.2.2.2.2.2.1.take 6)≤_:=wT 6 _
 have h2:bkL wtX (d.2.2.2.2.2.2.1.take 5)≤_:=wT 5 _
 have h3:bkL wtC (d.2.2.2.2.2.2.2.take 4)≤_:=wT 4 _
 unfold wtD at hb;refine⟨?_,?_,?_,?_⟩
 ·show(d.2.2.2.2.2.1.take 6).length≤6; rw[aO0]; omega
 ·show(d.2.2.2.2.2.2.1.take 5).length≤5; rw[aO0]; omega
 ·show(d.2.2.2.2.2.2.2.take 4).length≤4; rw[aO0]; omega
 ·show d.1.length+1+(d.2.1.length+1+(1+(1+(1+(bkL wtG (d.2.2.2.2.2.1.take 6)+1+(bkL wtX (d.2.2.2.2.2.2.1.take 5)+1+(bkL wtC (d.2.2.2.2.2.2.2.take 4)+1)))))))≤1048576;omega
theorem UL{d:Doc}(hb:wtD d≤1048576):rI d:=by
 unfold wtD at hb
 have hg:d.2.2.2.2.2.1.length≤bkL wtG d.2.2.2.2.2.1:=UD (fun x=>by unfold wtG; omega) _
 refine⟨by omega,by omega,fun x hx=>?_,fun c hc=>?_⟩
 ·have h1:1+(1+1+(x.2.2.1.length+1+(1+(x.2.2.2.2.1.length+1+(bkL wtR x.2.2.2.2.2+1)))))≤bkL wtX d.2.2.2.2.2.2.1:=rG (f:=wtX) hx
  intro r hr
  have h2:bkL wtU r+1≤bkL wtR x.2.2.2.2.2:=rG (f:=wtR) hr
  have h3:=aA4 r
  have h4:=Q1 r
  exact⟨Q0 (l:=x.2.2.2.2.2) (B:=1048576) (by omega) (by omega) r hr,by omega⟩
 ·have h1:1+(1+(1+(1+(c.2.2.2.2.1.length+1+(c.2.2.2.2.2.1.length+1+(1+1))))))≤bkL wtC d.2.2.2.2.2.2.2:=rG (f:=wtC) hc
  omega
theorem oK{α:Type}(f:α→Nat):∀a b:List α,bkL f (a++b)=bkL f a+bkL f b
 | [],b=>by simp[bkL]
 |x::a,b=>by simp only[aOZ,bkL,oK f a b]; omega
theorem sZ{α β:Type}{f:β→Nat}{w:α→Nat}{g:α→List β}{c:Nat}:∀l:List α,(∀x∈l,bkL f (g x)≤c+w x)→bkL f (l.flatMap g)≤l.length*c+bkL w l
 | [],_=>by simp[bkL]
 |x::l,h=>by
  rw[List.flatMap_cons,oK,aOX,aP4,aP5]
  have:=h x aOK
  have:=sZ (w:=w) l fun y hy=>h y (aN1 _ hy)
  simp only[bkL];omega
theorem YL:∀l:List At,bkL wtA (eJ l)≤bkL wtA l
 | []=>aP6 _
 |a::l=>by
  have:=YL l
  show bkL wtA (jA a++eJ l)≤_;rw[oK];unfold jA;simp only[bkL]
  split<;>simp only[bkL]<;>omega
theorem LP(k:Int) (n:Y_) (l:List At):bkL wtN [elQ k n l]≤n.length+4+bkL wtA l:=by
 have:=YL l
 simp only[bkL,elQ,wtN,aPF];omega
theorem S7(c:UInt8) (h:n8 c≤6):(zR c).length≤7:=by
 have:=eE (P:=fun c=>decide (n8 c≤6→(zR c).length≤7)) (by rfl) c
 exact of_decide_eq_true this h
theorem S8(c:UInt8):(pQ c).length≤8:=of_decide_eq_true (eE (P:=fun c=>decide ((pQ c).length≤8)) (by rfl) c)
theorem S9(c:UInt8):(mA c).length≤6:=of_decide_eq_true (eE (P:=fun c=>decide ((mA c).length≤6)) (by rfl) c)
theorem T0(c:UInt8):(pR c).length≤6:=of_decide_eq_true (eE (P:=fun c=>decide ((pR c).length≤6)) (by rfl) c)
theorem zV(b:Bool):(GS b).length≤1:=by cases b<;>simp[GS]
theorem aBK{u:Run}(h:n8 u.2.1.1≤6):bkL wtN (runN u)≤60+wtU u:=by
 have h1:=LP 3 [114,117,110] (iU u)
 have h2:=S7 _ h
 have h3:=zV u.2.1.2.1
 have h4:=zV u.2.1.2.2
 have e:runN u=[elQ 3 [114,117,110] (iU u)]++[([],u.1,[],4)]:=rfl
 rw[e,oK];simp only[bkL,iU,wtA,wtN,wtU,aPF,aOX] at h1 ⊢;omega
theorem aBL{r:Row}(h:r.length≤16) (hu:∀u∈r,n8 u.2.1.1≤6):bkL wtN (rowN r)≤980+wtR r:=by
 have h1:=LP 2 [114,111,119] []
 have h2:=sZ (f:=wtN) (w:=wtU) (g:=runN) (c:=60) r fun u h=>aBK (hu u h)
 have e:rowN r=[elQ 2 [114,111,119] []]++r.flatMap runN:=rfl
 rw[e,oK];simp only[wtR,bkL,aOX,aPF] at h1 ⊢;omega
theorem aFK{x:Ev}(h:0≤x.1) (ha:0≤x.2.1.1) (hb:0≤x.2.1.2) (h1:x.2.2.2.2.2.length≤4) (hl:∀l∈x.2.2.2.2.2,l.length≤16∧∀u∈l,n8 u.2.1.1≤6):bkL wtN (evN x)≤4200+wtX x:=by
 have h2:=LP 1 [112] (evA x)
 have h3:=sZ (f:=wtN) (w:=wtR) (g:=rowN) (c:=980) x.2.2.2.2.2 fun r h=>aBL (hl r h).1 (hl r h).2
 have e:evN x=[elQ 1 [112] (evA x)]++x.2.2.2.2.2.flatMap rowN:=rfl
 have i1:=fO h
 have i2:=fO ha
 have i3:=fO hb
 have i4:=S8 x.2.2.2.1
 rw[e,oK];simp only[wtX,bkL,evA,wtA,aOX,aPF,aOG] at h2 ⊢;omega
theorem aBM{r:Reg}(h1:0≤r.2.1) (h2:0≤r.2.2.1) (h3:0≤r.2.2.2.1) (h4:0≤r.2.2.2.2.1):bkL wtN (oJ r)≤200+wtG r:=by
 have h:=LP 1 [114,101,103,105,111,110] (iV r)
 have i1:=fO h1
 have i2:=fO h2
 have i3:=fO h3
 have i4:=fO h4
 have i5:=T0 r.2.2.2.2.2.1
 have i6:(if r.2.2.2.2.2.2 then [66,79,84,84,79,77] else [84,79,80]:Y_).length≤6:=by split<;>simp
 unfold oJ;simp only[wtG,bkL,iV,wtA,aOX,aPF] at h ⊢;omega
theorem aBN{d:Doc}(hd:NodOk d) (hf:FewD d):bkL wtN (jI d)≤1090000:=by
 have h:=LP 0 [116,116] (kL d)
 have h1:=sZ (f:=wtN) (w:=wtG) (g:=oJ) (c:=200) d.2.2.2.2.2.1 fun r hr=>by
  have:=mB (hd.reg r hr)
  exact aBM (by omega) (by omega) (by omega) (by omega)
 have h2:=sZ (f:=wtN) (w:=wtX) (g:=evN) (c:=4200) d.2.2.2.2.2.2.1 fun x hx=>by
  obtain⟨q1,q2,q3,q4,q5⟩:=hd.ev x hx;exact aFK (by omega) (by omega) (by omega) q4 q5
 have i1:=fO hd.last.1
 have i2:=S9 d.2.2.1
 have i3:=zV d.2.2.2.1
 have h3:=hf.reg
 have h4:=hf.ev
 have h5:=hf.wt
 unfold wtD at h5;unfold jI;rw[oK,oK];simp only[bkL,kL,wtA,aOX,aPF] at h ⊢;omega
def GW(d:Doc):List Nd×Int:=if bW d≠0 then([],bW d) else S3 d
theorem T7{d:Doc}(hs:rI d):q55 fuelH d=some (GW d):=by
 by_cases h:bW d=0
 ·unfold GW;rw[if_neg (by simpa using h)];exact UI (zT h) (by rw[gM hs,h])
 ·unfold GW q55;rw[if_pos h,bG (gM hs),aE (dF h)]
theorem E9{l:List Reg}(h:l.length≤4000000):q94 fuelH l=some l:=by
 have h1:grd (cW (aF (len ([]:List Reg)) (len l)) 56) (some (bR ([]:List Reg) l))=some l:=by
  rw[aG (dW (by simp only[aF,len,aPF]; omega))]; rfl
 unfold q94
 cases l with
 |nil =>
  rw[aD (by rfl)];exact rR rfl h1
 |cons r l =>
  rw[aE (dF (by simp only[len,aOX]; omega))];exact h1
theorem F0{l:List Cmt}(h:l.length≤4000000):q95 fuelH l=some l:=by
 have h1:grd (cW (aF (len ([]:List Cmt)) (len l)) 72) (some (bR ([]:List Cmt) l))=some l:=by
  rw[aG (dW (by simp only[aF,len,aPF]; omega))]; rfl
 unfold q95
 cases l with
 |nil =>
  rw[aD (by rfl)];exact rR rfl h1
 |cons r l =>
  rw[aE (dF (by simp only[len,aOX]; omega))];exact h1
theorem T8{l:List Ev}(h:l.length≤1000000):q96 fuelH l=some l:=by
 have h1:grd (cW (aF (len ([]:List Ev)) (len l)) 88) (some (bR ([]:List Ev) l))=some l:=by
  rw[aG (dW (by simp only[aF,len,aPF]; omega))]; rfl
 unfold q96
 cases l with
 |nil =>
  rw[aD (by rfl)];exact rR rfl h1
 |cons r l =>
  rw[aE (dF (by simp only[len,aOX]; omega))];exact h1
def wB(d:Doc):Doc:=(d.1,d.2.1,d.2.2.1,d.2.2.2.1,d.2.2.2.2.1,d.2.2.2.2.2.1,d.2.2.2.2.2.2.1,[])
structure ThinD (d:Doc):Prop where
 reg:d.2.2.2.2.2.1.length≤1000000
 ev:d.2.2.2.2.2.2.1.length≤1000000
 tiny:∀x∈d.2.2.2.2.2.2.1,aC2 x
 cm:d.2.2.2.2.2.2.2.length≤1000000
theorem YM{d:Doc}(h:bW d=0) (hc:d.2.2.2.2.2.2.2.length≤1000000):ThinD d:=by
 have hd:=zT h
 refine⟨by have:=hd.nreg; omega,by have:=hd.nev; omega,fun x hx=>?_,hc⟩;obtain⟨_,_,_,q4,q5⟩:=hd.ev x hx;exact⟨by omega,fun r hr=>by have:=(q5 r hr).1; omega⟩
theorem F1{d:Doc}(h:ThinD d):B5 fuelH d=some d:=by
 have h2:=h.ev
 unfold B5;rw[bG (E9 (by have:=h.reg; omega)),bG (F0 (by have:=h.cm; omega)),bG (T8 h2),cI];refine eV (n:=d.2.2.2.2.2.2.1.length) (fun (a:List Ev) (i:Nat)=>((i:Int),a)) (fun _ a=>a=d.2.2.2.2.2.2.1) _ (fun self a i hi hI=>?_) (fun self a hI=>?_) fuelH 0 d.2.2.2.2.2.2.1 (aP7 _) (by have:=bA; omega) rfl
 ·subst hI
  have hin:inb (i:Int) (len d.2.2.2.2.2.2.1)=true:=bH (by simp only[len]; omega)
  refine⟨d.2.2.2.2.2.2.1,?_,rfl⟩
  have ht:toN (i:Int)=i:=by simp[toN]
  simp only;rw[aE (bC (by simp only[len]; omega)),aG hin,bJ hi,LK (h.tiny _ (aO8 hi)),aB,aG hin,aX hi (by omega),ht];unfold pI;rw[List.set_getElem_self]
 ·simp only;rw[aD (bB (by simp only[len]; omega)),hI]
def noD:Doc:=([],[],0,false,0,[],[],[])
def aBO(d:Doc):Doc:=if bW d≠0 then noD else wB d
theorem F2{d:Doc}(hs:rI d) (hc:d.2.2.2.2.2.2.2.length≤1000000):SW fuelH d=some (aBO d):=by
 unfold SW aBO;rw[bG (gM hs)]
 by_cases h:bW d=0
 ·rw[aD (fB h),if_neg (by simpa using h),bG (F1 (YM h hc))];rfl
 ·rw[aE (dF h),if_pos h];rfl
theorem F3{d:Doc}(h:ThinD d) (hc:d.2.2.2.2.2.2.2=[]):KD fuelH (d,d)=some true :=
 R6 h.reg h.ev (fun x hx=>⟨by have:=(h.tiny x hx).1; omega,fun r hr=>by have:=(h.tiny x hx).2 r hr; omega⟩) hc
theorem YN:lR fuelH ()=some true:=by kernel_rfl
def eK{α R:Type}(p:α→Bool) (f:Nat→α→R) (K:R):Nat→List α→R
 |_,[]=>K
 |i,a::l=>if p a then f i a else eK p f K (i+1) l
theorem gZ{V R α:Type}{F:(V→Option R)→V→Option R}{l:List α}(st:Nat→V) (p:α→Bool) (f:Nat→α→Option R) (K:Option R){fuel:Nat}(hf:l.length<fuel)
  (hs:∀self i (h:i<l.length),F self (st i)=if p l[i] then f i l[i] else self (st (i+1))) (he:∀self,F self (st l.length)=K):bN F fuel (st 0)=eK p f K 0 l:=by
 have key:∀(n i fu:Nat),l.length-i=n→l.length-i<fu→i≤l.length→bN F fu (st i)=eK p f K i (l.drop i):=by
  intro n
  induction n with
  |zero =>
   intro i fu h1 h2 h3;obtain rfl:i=l.length:=by omega
   obtain⟨fu,rfl⟩:∃k,fu=k+1:=⟨fu-1,by omega⟩;rw[eU,he,aO7];rfl
  |succ n ih =>
   intro i fu h1 h2 h3
   have hi:i<l.length:=by omega
   obtain⟨fu,rfl⟩:∃k,fu=k+1:=⟨fu-1,by omega⟩;rw[eU,hs _ _ hi,aNE hi];unfold eK;rw[ih (i+1) fu (by omega) (by omega) (by omega)]
 have:=key _ 0 fuel rfl (by omega) (aP7 _)
 rw[this,aPM]
theorem zW{α R:Type}(p:α→Bool) (b K:R):∀(i:Nat) (l:List α),eK p (fun _ _=>b) K i l=if l.any p then b else K
 |_,[]=>rfl
 |i,a::l=>by
  unfold eK;rw[zW p b K (i+1) l]
  by_cases h:p a=true<;>simp[h]
def pS(c:UInt8):Bool:=decide (48≤n8 c∧n8 c≤57)
def dgS(a:Nat) (c:UInt8):Nat:=a*10+(c.toNat-48)
def gP(a:Nat) (l:Y_):Nat:=l.foldl dgS a
theorem zX(a:Nat):gP a []=a:=by unfold gP; rw[List.foldl_nil]
theorem uW(a:Nat) (c:UInt8) (r:Y_):gP a (c::r)=gP (a*10+(c.toNat-48)) r:=by unfold gP; rw[List.foldl_cons]; unfold dgS; rfl
theorem T9(a b n:Nat) (h:a*10≤b):a*10^(n+1)≤b*10^n:=by
 have e:a*10^(n+1)=(a*10)*10^n:=by rw[Nat.pow_succ,Nat.mul_comm (10^n) 10,Nat.mul_assoc]
 rw[e];exact aN2 _ h
theorem YO(l:Y_):∀a:Nat,a*10^l.length≤gP a l:=by
 induction l with
 |nil=>intro a; rw[zX,aPF,Nat.pow_zero,Nat.mul_one]; exact aP6 _
 |cons c l ih =>
  intro a
  have h:=ih (a*10+(c.toNat-48))
  have h2:=T9 a (a*10+(c.toNat-48)) l.length (by omega)
  rw[aOX,uW];exact aPX h2 h
def U0(neg:Bool) (r:Y_) (hi:Int):Int×Int :=
 if r=[] then(0,4) else if r.headD 0=48∧(1<r.length∨neg=true) then(0,4) else if r.any (fun c=>!pS c) then(0,4) else
 if neg=true then(0,2) else if hi<(gP 0 r:Int) then(0,2) else((gP 0 r:Int),0)
def F4(s:Y_) (hi:Int):Int×Int:=if s.head?=some 45 then U0 true s.tail hi else U0 false s hi
theorem aC5:∀(l:Y_) (a:Nat),a≤2^64-1→(∀c∈l,pS c=true)→parseUintM (2^64-1) a l=if 2^64-1<gP a l then .range else .ok (gP a l)
 | [],a,ha,_=>by
  unfold parseUintM;rw[zX,if_neg (by omega)]
 |c::l,a,ha,hd=>by
  have hc:=of_decide_eq_true (hd c aOK)
  have hl:=fun x hx=>hd x (aN1 _ hx)
  unfold n8 at hc
  have hge:=YO l (a*10+(c.toNat-48))
  have hp:1≤10^l.length:=Nat.one_le_pow _ _ (by omega)
  have hge2:a*10+(c.toNat-48)≤gP (a*10+(c.toNat-48)) l:=aPX (by have:=Nat.mul_le_mul_left (a*10+(c.toNat-48)) hp; omega) hge
  unfold parseUintM;rw[uW,if_pos (by omega)]
  by_cases h1:1844674407370955162≤a
  ·rw[if_pos h1,if_pos (by omega)]
  rw[if_neg h1]
  by_cases h2:2^64-1<a*10+(c.toNat-48)
  ·rw[if_pos h2,if_pos (by omega)]
  rw[if_neg h2];exact aC5 l _ (by omega) hl
theorem aBP{l:Y_}(h:l.any (fun c=>!pS c)=false):∀c∈l,pS c=true:=fun c hc=>by
 have:=List.any_eq_false.1 h c hc
 simpa using this
theorem U1{l:Y_}(h0:l≠[]) (h:∀c∈l,pS c=true) (h48:l.headD 0≠48):10^(l.length-1)≤gP 0 l∧1≤gP 0 l:=by
 obtain⟨c,r,rfl⟩:∃c r,l=c::r:=by cases l with|nil=>exact absurd rfl h0|cons c r=>exact⟨c,r,rfl⟩
 have hc:=of_decide_eq_true (h c aOK)
 unfold n8 at hc
 have hne:c.toNat≠48:=fun k=>h48 (UInt8.toNat_inj.1 k)
 have:=YO r (0*10+(c.toNat-48))
 have hp:1≤10^r.length:=Nat.one_le_pow _ _ (by omega)
 have h3:1*10^r.length≤(0*10+(c.toNat-48))*10^r.length:=aN2 _ (by omega)
 rw[uW,aOX,aOO];omega
theorem aBQ{neg:Bool}{r:Y_}(h0:r≠[]) (h:∀c∈r,pS c=true) (h48:neg=true→r.headD 0≠48){hi:Int}(hh:hi≤4611686018427387904) :
  (cnd (vY (if neg=true then 45::r else r)).2 (some ((0:Int),(2:Int))) (cnd (ilt (vY (if neg=true then 45::r else r)).1 0) (some (0,2)) (cnd (ilt hi (vY (if neg=true then 45::r else r)).1) (some (0,2)) (some ((vY (if neg=true then 45::r else r)).1,0)))))
  = some (if neg=true then(0,2) else if hi<(gP 0 r:Int) then(0,2) else((gP 0 r:Int),0)):=by
 have hu:parseUintB 64 r=if 2^64-1<gP 0 r then .range else .ok (gP 0 r):=by
  unfold parseUintB;rw[if_neg h0];exact aC5 r 0 (by omega) h
 cases neg with
 |true =>
  have hp:vY (45::r)=match signedC (2^63) (parseUintB 64 r) with|NumEnd.ok v=>(v,false) | .range=>(Lib.intSat 64 (45::r),true)|_=>(0,true):=by
   unfold vY;rw[parseIntB_minus];rfl
  have h1:=(U1 h0 h (h48 rfl)).2
  simp only[if_true];rw[hp,hu]
  by_cases c1:2^64-1<gP 0 r
  ·rw[if_pos c1]; rfl
  ·rw[if_neg c1];simp only[signedC]
   by_cases c2:2^63<gP 0 r
   ·rw[if_pos c2]; rfl
   ·rw[if_neg c2];simp only;rw[aD rfl,aE (bC (by omega))]
 |false =>
  obtain⟨c,t,rfl⟩:∃c t,r=c::t:=by cases r with|nil=>exact absurd rfl h0|cons c t=>exact⟨c,t,rfl⟩
  have hc:=of_decide_eq_true (h c aOK)
  unfold n8 at hc
  have hp:vY (c::t)=match signlessC (2^63) (parseUintB 64 (c::t)) with|NumEnd.ok v=>(v,false) | .range=>(Lib.intSat 64 (c::t),true)|_=>(0,true):=by
   unfold vY;rw[parseIntB_plain 64 c t (by omega) (by omega)];rfl
  simp only[aOL,if_false];rw[hp,hu]
  by_cases c1:2^64-1<gP 0 (c::t)
  ·rw[if_pos c1,if_pos (by omega)]; rfl
  ·rw[if_neg c1];simp only[signlessC]
   by_cases c2:2^63≤gP 0 (c::t)
   ·rw[if_pos c2,if_pos (by omega)]; rfl
   ·rw[if_neg c2];simp only;rw[aD rfl,aD (bB (by omega))]
    by_cases c3:hi<(gP 0 (c::t):Int)
    ·rw[aE (bC c3),if_pos c3]
    ·rw[aD (bB c3),if_neg c3]
theorem aBR(N:Nat) (s:Y_) (b:UInt8):q81 N (s,[b])=some (if s.head?=some b then(s.tail,true) else(s,false)):=by
 unfold q81 q80 q79
 cases s with
 |nil=>rfl
 |cons c s =>
  have h1:in2 (len [b]) (len (c::s))=true:=yX (by simp only[len,aOX,aPF]; omega)
  rw[aE (BW (by simp only[len,aOX,aPF]; omega)),aG h1]
  have e:cJ (toN (len [b])) (c::s)=[c]:=rfl
  rw[e,aB]
  by_cases h:c=b
  ·subst h
   have:seq [c] [c]=true:=by rw[dL]
   rw[this,aD (by rfl),aG h1,aB,if_pos (by rfl)];rfl
  ·have:seq [c] [b]=false:=by rw[cY]; simpa using h
   rw[this,aE (by rfl),aB,if_neg (by simpa using h)]
theorem LQ{s:Y_}(hs:s.length≤4000000){hi:Int}(hh:hi≤4611686018427387904):q82 fuelH (s,0,hi)=some (F4 s hi):=by
 have key:∀(neg:Bool) (r:Y_),s=(if neg=true then 45::r else r)→r.length≤s.length→q81 fuelH (s,[45])=some (r,neg)→q82 fuelH (s,0,hi)=some (U0 neg r hi):=by
  intro neg r hsr hrl hcut;unfold q82 U0;dsimp only;rw[bG hcut];dsimp only;rw[cI]
  by_cases h0:r=[]
  ·subst h0;rw[aE (by rw[dL]),if_pos rfl]
  ·have hr0:1≤r.length:=by cases r with|nil=>exact absurd rfl h0|cons _ _=>simp
   have hget:aA r (toN (0:Int)) 0=r.headD 0:=by cases r with|nil=>exact absurd rfl h0|cons _ _=>rfl
   rw[aD (by rw[cY]; simpa using h0),if_neg h0,aG (bH (by simp only[len]; omega)),hget]
   have main:(¬(r.headD 0=48∧(1<r.length∨neg=true)))→(jn (fun (v2:Unit)=>bnd (cH fuelH (s,10,64)) fun v3=>cnd v3.2 (some ((0:Int),(2:Int))) (cnd (ilt v3.1 0) (some (0,2)) (cnd (ilt hi v3.1) (some (0,2)) (some (v3.1,0))))) fun v4 =>
     bN (fun v5 (v6:Int) =>
      cnd (ilt v6 (len r))
       (grd (inb v6 (len r))
        (cnd (ilt (n8 (aA r (toN v6) (0:UInt8))) (n8 (48:UInt8)))
         (some (0,4))
         (grd (inb v6 (len r))
          (cnd (ilt (n8 (57:UInt8)) (n8 (aA r (toN v6) (0:UInt8))))
           (some (0,4))
           (v5 (w64 (aF v6 1)))))))
       (v4 ())) fuelH 0)=some (if r.any (fun c=>!pS c) then(0,4) else if neg=true then(0,2) else if hi<(gP 0 r:Int) then(0,2) else((gP 0 r:Int),0)):=by
    intro hz;rw[cI];refine(gZ (l:=r) (fun i=>(i:Int)) (fun c=>!pS c) (fun _ _=>some (0,4)) (bnd (cH fuelH (s,10,64)) fun v3=>cnd v3.2 (some ((0:Int),(2:Int))) (cnd (ilt v3.1 0) (some (0,2)) (cnd (ilt hi v3.1) (some (0,2)) (some (v3.1,0))))) (by have:=bA; omega) (fun self i h=>?_) (fun self=>?_)).trans ?_
    ·have hin:inb (i:Int) (len r)=true:=bH (by simp only[len]; omega)
     dsimp only;rw[aE (bC (by simp only[len]; omega)),aG hin,aG hin,bJ h,aX h (by omega)]
     have n48:n8 (48:UInt8)=48:=rfl
     have n57:n8 (57:UInt8)=57:=rfl
     rw[n48,n57]
     by_cases c1:n8 r[i]<48
     ·rw[aE (bC c1),if_pos (by simp only[pS,aOR,decide_eq_false_iff_not]; omega)]
     ·rw[aD (bB c1)]
      by_cases c2:57<n8 r[i]
      ·rw[aE (bC c2),if_pos (by simp only[pS,aOR,decide_eq_false_iff_not]; omega)]
      ·rw[aD (bB c2),if_neg (by simp only[pS,aOR,decide_eq_false_iff_not]; omega)]
    ·dsimp only;rw[aD (bB (by simp only[len]; omega))]
    ·rw[zW]
     by_cases ha:r.any (fun c=>!pS c)=true
     ·rw[if_pos ha,if_pos ha]
     ·rw[if_neg ha,if_neg ha]
      have hd:=aBP (by simpa using ha)
      have hpi:cH fuelH (s,10,64)=some (vY s):=by
       show grd (ieq (10:Int) 10) (grd (ieq (64:Int) 64) (grd (decide (s.length≤281474976710656)) (some (vY s))))=_;rw[aG (iN rfl),aG (iN rfl),aG (decide_eq_true (by omega))]
      rw[bG hpi,hsr];exact aBQ h0 hd (fun hn k=>hz ⟨k,Or.inr hn⟩) hh
   by_cases hz:r.headD 0=48
   ·rw[aE (iN (by rw[hz]))]
    by_cases h1:1<r.length
    ·rw[aE (bC (by simp only[len]; omega)),if_pos ⟨hz,Or.inl h1⟩]
    ·rw[aD (bB (by simp only[len]; omega))]
     cases neg with
     |true=>rw[aE rfl,if_pos ⟨hz,Or.inr rfl⟩]
     |false =>
      have hn:¬(r.headD 0=48∧(1<r.length∨(false:Bool)=true)):=fun k=>k.2.elim h1 (fun k=>by cases k)
      rw[aD rfl,if_neg hn];exact main hn
   ·have hn:¬(r.headD 0=48∧(1<r.length∨neg=true)):=fun k=>hz k.1
    rw[aD (lS (fun k=>hz (UA k))),if_neg hn];exact main hn
 have hc:=aBR fuelH s 45
 unfold F4
 by_cases h:s.head?=some 45
 ·rw[if_pos h] at hc ⊢
  cases s with
  |nil=>cases h
  |cons c s =>
   have:c=45:=by simpa using h
   subst this;exact key true s rfl (by simp) hc
 ·rw[if_neg h] at hc ⊢;exact key false s rfl (aP6 _) hc
def rK(n:Nd):List At:=n.2.2.1
def dU(n:Nd) (name:Ln):Ln:=(bI name (rK n)).1
def rL(n:Nd) (name:Ln):Bool:=(bI name (rK n)).2
theorem uX{R:Type}(name:Ln) (f:Ln→R) (K:R):∀(i:Nat) (l:List At),eK (fun a:At=>seq a.1 name) (fun _ a=>f a.2) K i l=if(bI name l).2 then f (bI name l).1 else K
 |_,[]=>rfl
 |i,a::l=>by
  unfold eK bI;rw[uX name f K (i+1) l]
  by_cases h:seq a.1 name=true
  ·rw[if_pos h];rw[dL] at h;rw[if_pos h];rfl
  ·have h2:¬a.1=name:=fun k=>h (by rw[dL]; exact k)
   rw[if_neg h,if_neg h2]
theorem zY(name:Ln):∀l:List At,(bI name l).2=false→(bI name l).1=[]
 | [],_=>rfl
 |a::l,h=>by
  unfold bI at h ⊢
  by_cases e:a.1=name
  ·rw[if_pos e] at h; cases h
  ·rw[if_neg e] at h ⊢; exact zY name l h
theorem uY{n:Nd}{name:Ln}(h:rL n name=false):dU n name=[]:=zY name _ h
theorem CR(name:Ln):∀l:List At,(bI name l).2=true→(name,(bI name l).1)∈l
 | [],h=>by cases h
 |a::l,h=>by
  unfold bI at h ⊢
  by_cases e:a.1=name
  ·rw[if_pos e] at h ⊢; subst e; exact aOK
  ·rw[if_neg e] at h ⊢; exact aN1 _ (CR name l h)
theorem uZ(name:Ln):∀l:List At,(bI name l).2=true↔name∈l.map Prod.fst
 | []=>by simp[bI]
 |a::l=>by
  unfold bI
  by_cases e:a.1=name
  ·rw[if_pos e]; simp[e]
  ·rw[if_neg e,aPS,aPR,uZ name l];exact⟨fun k=>Or.inr k,fun k=>k.resolve_left (fun q=>e q.symm)⟩
theorem tA{n:Nd}(hs:smN n) (name:Ln):(dU n name).length≤1090000:=by
 cases h:rL n name with
 |false=>rw[uY h]; simp
 |true=>exact(hs.an _ (CR name _ h)).2
theorem dY{n:Nd}(hs:smN n) (e:Int) (name:Ln):q74 fuelH ((n,e),name)=some (dU n name,n,e):=by
 have hl:=hs.asz
 have hfu:=bA
 unfold q74;dsimp only;rw[cI];refine(gZ (l:=n.2.2.1) (fun i=>(i:Int)) (fun a:At=>seq a.1 name) (fun _ a=>some (a.2,n,e)) (some ([],n,e)) (by omega) (fun self i h=>?_) (fun self=>?_)).trans ?_
 ·have hin:inb (i:Int) (len n.2.2.1)=true:=bH (by simp only[len]; omega)
  rw[aE (bC (by simp only[len]; omega)),aG hin,bJ h,aX h (by omega)];cases seq n.2.2.1[i].1 name<;>rfl
 ·rw[aD (bB (by simp only[len]; omega))]
 ·rw[uX name (fun v=>some (v,n,e))]
  by_cases h:(bI name n.2.2.1).2=true
  ·rw[if_pos h]; rfl
  ·rw[if_neg h]
   have:dU n name=[]:=uY (by simpa [rL,rK] using h)
   rw[this]
def fZ(a b:Int):Int:=if a=0 then b else a
theorem mN(N:Nat) (n:Nd) (a b:Int):q77 N ((n,a),b)=some (n,fZ a b):=by
 unfold q77 fZ;dsimp only
 by_cases h:a=0
 ·rw[aE (iN h),if_pos h]
 ·rw[aD (lS h),if_neg h]
def fK(n:Nd) (name:Ln) (hi:Int):Int×Int:=F4 (dU n name) hi
theorem GX{n:Nd}(hs:smN n) (e:Int) (name:Ln){hi:Int}(hh:hi≤4611686018427387904):q84 fuelH ((n,e),name,hi)=some ((fK n name hi).1,n,fZ e (fK n name hi).2):=by
 have:=tA hs name
 unfold q84 q83;dsimp only;rw[dY hs,aB];dsimp only;rw[LQ (by omega) hh,aB]
 try dsimp only
 rw[mN];rfl
theorem tB{n:Nd}(hs:smN n) (e:Int) (name:Ln):q85 fuelH ((n,e),name)=some ((fK n name 32).1,n,fZ e (fK n name 32).2):=by
 unfold q85;dsimp only;rw[GX hs e name (by omega),aB]
def aBS(s:Ln):Int×Int:=if s.getLast?=some 102 then F4 s.dropLast 5184000 else(0,4)
def mY(n:Nd) (name:Ln):Int×Int:=aBS (dU n name)
theorem aBT{s:Ln}(hs:s.length≤4000000):q89 fuelH (s,[102])=some (if s.getLast?=some 102 then(s.dropLast,true) else(s,false)):=by
 unfold q89 q88 q87;dsimp only;rcases List.eq_nil_or_concat s with rfl|⟨t,c,rfl⟩
 ·rfl
 ·rw[List.concat_eq_append] at hs ⊢;rw[aOG,aOX,aPF] at hs
  have hl:len (t++[c])=((t.length+1:Nat):Int):=by simp[len]
  have h1:len [(102:UInt8)]=1:=rfl
  have hw:w64 (aJ (len (t++[c])) (len [(102:UInt8)]))=(t.length:Int):=by
   rw[hl,h1];simp only[aJ];rw[cR (by omega)];omega
  have hd:iW (toN (t.length:Int)) (t++[c])=[c]:=by
   show(t++[c]).drop _=_
   have:toN (t.length:Int)=t.length:=by simp[toN]
   rw[this,List.drop_append_of_le_length (aP6 _),aO7];rfl
  have ht:cJ (toN (t.length:Int)) (t++[c])=t:=by
   show(t++[c]).take _=_
   have:toN (t.length:Int)=t.length:=by simp[toN]
   rw[this,List.take_append_of_le_length (aP6 _),aO4]
  have hin:in2 (t.length:Int) (len (t++[c]))=true:=yX (by rw[hl]; omega)
  rw[aE (BW (by rw[hl,h1]; omega)),hw,aG hin,hd,aB,List.getLast?_concat,List.dropLast_concat]
  by_cases h:c=102
  ·subst h
   have:seq [(102:UInt8)] [102]=true:=by rw[dL]
   rw[this,aD (by rfl),aG hin,ht,aB,if_pos rfl]
  ·have:seq [c] [102]=false:=by rw[cY]; simpa using h
   rw[this,aE (by rfl),aB,if_neg (by simpa using h)]
theorem YP{n:Nd}(hs:smN n) (e:Int) (name:Ln):q90 fuelH ((n,e),name)=some ((mY n name).1,n,fZ e (mY n name).2):=by
 have hl:=tA hs name
 unfold q90 q83 mY aBS;rw[dY hs,aB];dsimp only;rw[aBT (by omega),aB]
 by_cases h:(dU n name).getLast?=some 102
 ·rw[if_pos h,if_pos h,aD (by rfl)];dsimp only;rw[LQ (by rw[aN3]; omega) (by omega),aB]
  try dsimp only
  rw[mN];rfl
 ·rw[if_neg h,if_neg h,aE (by rfl)];dsimp only;rw[mN];rfl
def F5(tab:List Ln) (s:Ln):Option Nat:=eK (fun x:Ln=>seq x s) (fun i _=>some i) none 0 tab
theorem LR{R:Type} (f:Nat→R) (K:R) (s:Ln):∀(k:Nat) (tab:List Ln),eK (fun x:Ln=>seq x s) (fun i _=>f i) K k tab=match(eK (fun x:Ln=>seq x s) (fun i _=>some i) none k tab:Option Nat) with|some i=>f i|none=>K
 |_,[]=>rfl
 |k,x::tab=>by
  unfold eK;rw[LR f K s (k+1) tab]
  by_cases h:seq x s=true
  ·rw[if_pos h,if_pos h]
  ·rw[if_neg h,if_neg h]
def chT(tab:List Ln) (n:Nd) (name:Ln):Int×Int:=if rL n name=false then(0,0) else match F5 tab (dU n name) with|some i=>((i:Int),0)|none=>(0,4)
theorem UM{n:Nd}(hs:smN n) (e:Int){name:Ln}{tab:List Ln}(ht:tab.length≤100) (hh:rL n name=true):q86 fuelH ((n,e),name,tab)=some ((chT tab n name).1,n,fZ e (chT tab n name).2):=by
 have hfu:=bA
 unfold q86 chT;rw[if_neg (by rw[hh]; simp)];dsimp only;rw[dY hs,aB,cI,mN,aB];dsimp only;refine(gZ (l:=tab) (fun i=>(i:Int)) (fun x:Ln=>seq x (dU n name)) (fun i _=>some ((i:Int),n,e)) (some (0,n,fZ e 4)) (by omega) (fun self i h=>?_) (fun self=>?_)).trans ?_
 ·have hin:inb (i:Int) (len tab)=true:=bH (by simp only[len]; omega)
  rw[aE (bC (by simp only[len]; omega)),aG hin,bJ h,aX h (by omega)];cases seq tab[i] (dU n name)<;>rfl
 ·rw[aD (bB (by simp only[len]; omega))]
 ·rw[LR (fun i=>some ((i:Int),n,e))]
  have:(eK (fun x:Ln=>seq x (dU n name)) (fun i _=>some i) none 0 tab:Option Nat)=F5 tab (dU n name):=rfl
  rw[this]
  cases F5 tab (dU n name) with
  |none=>rfl
  |some i=>unfold fZ; by_cases h:e=0<;>simp[h]
def flT(n:Nd) (name:Ln):Bool×Int:=(ieq (chT [[48],[49]] n name).1 1,(chT [[48],[49]] n name).2)
theorem YQ(e:Int):fZ e 0=e:=by unfold fZ; by_cases h:e=0<;>simp[h]
def vP(n:Nd):Prop:=((rK n).map Prod.fst).Nodup
def flE(name:Ln):Int→List At→Int
 |e,[]=>e
 |e,a::r=>flE name (if a.1=name∧a.2≠[48]∧a.2≠[49] then fZ e 4 else e) r
theorem YR(name:Ln):∀(l:List At) (e:Int),name ∉ l.map Prod.fst→flE name e l=e
 | [],_,_=>rfl
 |a::l,e,h=>by
  simp only[aPS,aPR,not_or] at h;unfold flE;rw[if_neg (fun k=>h.1 k.1.symm)];exact YR name l e h.2
theorem U2(name:Ln):∀(l:List At) (e:Int),(l.map Prod.fst).Nodup→flE name e l=fZ e (if(bI name l).2=true∧(bI name l).1≠[48]∧(bI name l).1≠[49] then 4 else 0)
 | [],e,_=>by simp[flE,bI,YQ]
 |a::l,e,h=>by
  rw[aPS,List.nodup_cons] at h;unfold flE bI
  by_cases ha:a.1=name
  ·subst ha;rw[YR _ _ _ h.1,if_pos rfl]
   by_cases c:a.2≠[48]∧a.2≠[49]
   ·rw[if_pos ⟨rfl,c⟩,if_pos ⟨rfl,c⟩]
   ·rw[if_neg (fun k=>c k.2),if_neg (fun k=>c k.2),YQ]
  ·rw[if_neg (fun k=>ha k.1),if_neg ha];exact U2 name l e h.2
theorem aMC(s:Ln):F5 [[48],[49]] s=if s=[48] then some 0 else if s=[49] then some 1 else none:=by
 unfold F5 eK eK eK
 by_cases h:s=[48]
 ·subst h; rfl
 ·rw[if_neg h]
  have h1:seq [48] s=false:=by rw[cY]; simpa using fun k=>h k.symm
  rw[if_neg (by rw[h1]; simp)]
  by_cases h2:s=[49]
  ·subst h2; rfl
  ·rw[if_neg h2]
   have h3:seq [49] s=false:=by rw[cY]; simpa using fun k=>h2 k.symm
   rw[if_neg (by rw[h3]; simp)]
theorem UN{n:Nd}(hs:smN n) (hu:vP n) (e:Int) (name:Ln):q78 fuelH ((n,e),name)=some ((flT n name).1,n,fZ e (flT n name).2):=by
 have hl:=hs.asz
 have hfu:=bA
 unfold q78;dsimp only;rw[cI]
 have h:=jR (R:=Bool×Nd×Int) (s:=n.2.2.1) (F:=fun v3 (v4:Int×Nd×Int) =>
   cnd (ilt v4.1 (len n.2.2.1))
    (grd (inb v4.1 (len n.2.2.1))
     (cnd (seq (aA n.2.2.1 (toN v4.1) ([],[])).1 name)
      (cnd (sne (aA n.2.2.1 (toN v4.1) ([],[])).2 ([48]:Y_))
       (cnd (sne (aA n.2.2.1 (toN v4.1) ([],[])).2 ([49]:Y_))
        (bnd (q77 fuelH (v4.2,(4:Int))) fun v5 =>
        v3 (w64 (aF v4.1 (1:Int)),v5))
        (v3 (w64 (aF v4.1 (1:Int)),v4.2)))
       (v3 (w64 (aF v4.1 (1:Int)),v4.2)))
      (v3 (w64 (aF v4.1 (1:Int)),v4.2))))
    (bnd (q74 fuelH (v4.2,name)) fun v1 =>
     some (seq v1.1 ([49]:Y_),v1.2)))
  (fun (e:Int) (j:Nat)=>((j:Int),n,e)) (fun e r=>some (seq (dU n name) [49],n,flE name e r)) (fun _ _=>True) ?_ fuelH 0 e (by omega) (aP7 _) trivial
 ·refine aP9 h ?_;rw[aPM,U2 name n.2.2.1 e hu];unfold flT chT;rw[aMC]
  have hv:(bI name n.2.2.1).1=dU n name:=rfl
  have hh:(bI name n.2.2.1).2=rL n name:=rfl
  rw[hv,hh]
  cases c:rL n name with
  |false =>
   have:=uY c
   rw[this,if_neg (by simp),if_pos rfl];rfl
  |true =>
   rw[if_neg (show ¬(true=false) by simp)]
   by_cases c0:dU n name=[48]
   ·rw[if_pos c0,if_neg (fun k=>k.2.1 c0),c0]; rfl
   ·rw[if_neg c0]
    by_cases c1:dU n name=[49]
    ·rw[if_pos c1,if_neg (fun k=>k.2.2 c1),c1]; rfl
    ·rw[if_neg c1,if_pos ⟨rfl,c0,c1⟩]
     have:seq (dU n name) [49]=false:=by rw[cY]; simpa using c1
     rw[this]; rfl
 ·intro self a j hj _ hself
  by_cases hjl:j<n.2.2.1.length
  ·have hin:inb (j:Int) (len n.2.2.1)=true:=bH (by simp only[len]; omega)
   have hw:w64 (aF (j:Int) 1)=((j+1:Nat):Int):=aX hjl (by omega)
   dsimp only;rw[aE (bC (by simp only[len]; omega)),aG hin,bJ hjl,hw,aNE hjl];unfold flE
   have nx:=fun e'=>hself e' (j+1) (by omega) (by omega) trivial
   by_cases c:n.2.2.1[j].1=name
   ·rw[aE (by rw[dL]; exact c)]
    by_cases c0:n.2.2.1[j].2=[48]
    ·rw[aD (by simpa [sne] using c0),if_neg (fun k=>k.2.1 c0)];exact nx a
    ·rw[aE (by simpa [sne] using c0)]
     by_cases c1:n.2.2.1[j].2=[49]
     ·rw[aD (by simpa [sne] using c1),if_neg (fun k=>k.2.2 c1)];exact nx a
     ·rw[aE (by simpa [sne] using c1),if_pos ⟨c,c0,c1⟩,mN,aB];exact nx _
   ·rw[aD (by rw[cY]; simpa using c),if_neg (fun k=>c k.1)];exact nx a
  ·obtain rfl:j=n.2.2.1.length:=by omega
   dsimp only;rw[aD (bB (by simp only[len]; omega)),dY hs,aB,aO7];rfl
def AO(n:Nd):UInt8×Int:=(b8 (chT gl1 n [99,111,108,111,114]).1,(chT gl1 n [99,111,108,111,114]).2)
theorem aBU{n:Nd}(hs:smN n) (e:Int):q92 fuelH (n,e)=some ((AO n).1,n,fZ e (AO n).2):=by
 have hl:=hs.asz
 have hfu:=bA
 unfold q92;dsimp only;rw[cI];refine(gZ (l:=n.2.2.1) (fun i=>(i:Int)) (fun a:At=>seq a.1 [99,111,108,111,114]) (fun _ _=>bnd (q86 fuelH ((n,e),[99,111,108,111,114],gl1)) fun v4=>some (b8 v4.1,v4.2)) (some ((0:UInt8),n,e)) (by omega) (fun self i h=>?_) (fun self=>?_)).trans ?_
 ·have hin:inb (i:Int) (len n.2.2.1)=true:=bH (by simp only[len]; omega)
  rw[aE (bC (by simp only[len]; omega)),aG hin,bJ h,aX h (by omega)];cases seq n.2.2.1[i].1 [99,111,108,111,114]<;>rfl
 ·rw[aD (bB (by simp only[len]; omega))]
 ·rw[uX [99,111,108,111,114] (fun _=>bnd (q86 fuelH ((n,e),[99,111,108,111,114],gl1)) fun v4=>some (b8 v4.1,v4.2))]
  have hh:(bI [99,111,108,111,114] n.2.2.1).2=rL n [99,111,108,111,114]:=rfl
  rw[hh];unfold AO
  cases c:rL n [99,111,108,111,114] with
  |true =>
   rw[if_pos rfl,UM hs e (by decide) c,aB]
  |false =>
   unfold chT;rw[if_neg (by simp),c,if_pos rfl,YQ];rfl
def UO(s:Ln):UInt8×Int:=eK (fun r:UInt8=>seq (mA r) s) (fun _ r=>(r,0)) (0,4) 0 [1,2,3,4,5,6,7]
def wC(s:Ln):UInt8×Int:=eK (fun k:Ln=>seq k s) (fun i _=>(b8 (w64 (aF (i:Int) 1)),0)) (0,4) 0 [[68,73,65,76,79,71,85,69],[83,79,85,78,68],[84,73,84,76,69],[77,85,83,73,67]]
theorem vA{α R:Type}(p:α→Bool) (f:Nat→α→R) (K:R):∀(i:Nat) (l:List α),eK p (fun i a=>some (f i a)) (some K) i l=some (eK p f K i l)
 |_,[]=>rfl
 |i,a::l=>by
  unfold eK;rw[vA p f K (i+1) l]
  by_cases h:p a=true
  ·rw[if_pos h,if_pos h]
  ·rw[if_neg h,if_neg h]
theorem U3(s:Ln):q76 fuelH s=some (UO s):=by
 have hfu:=bA
 unfold q76;rw[cI]
 have hr:q75 fuelH ()=some [1,2,3,4,5,6,7]:=rfl
 rw[bG hr];unfold UO;rw[←vA (fun r:UInt8=>seq (mA r) s) (fun _ r=>((r,0):UInt8×Int)) (0,4) 0];refine gZ (l:=([1,2,3,4,5,6,7]:Y_)) (fun i=>(i:Int)) (fun r=>seq (mA r) s) (fun _ r=>some (r,0)) (some (0,4)) (by simp only[aOX,aPF]; omega) (fun self i h=>?_) (fun self=>?_)
 ·have hin:inb (i:Int) (len ([1,2,3,4,5,6,7]:Y_))=true:=bH (by simp only[len]; omega)
  rw[aE (bC (by simp only[len]; omega)),aG hin,bJ h,CQ,aB,aX h (by simp only[aOX,aPF] at h ⊢; omega)];cases seq (mA ([1,2,3,4,5,6,7]:Y_)[i]) s<;>rfl
 ·rw[aD (bB (by simp only[len]; omega))]
theorem U4(s:Ln):q91 fuelH s=some (wC s):=by
 have hfu:=bA
 unfold q91;rw[cI]
 have hr:q26 fuelH ()=some [[68,73,65,76,79,71,85,69],[83,79,85,78,68],[84,73,84,76,69],[77,85,83,73,67]]:=rfl
 rw[bG hr];unfold wC;rw[←vA (fun k:Ln=>seq k s) (fun i _=>((b8 (w64 (aF (i:Int) 1)),0):UInt8×Int)) (0,4) 0];refine gZ (l:=([[68,73,65,76,79,71,85,69],[83,79,85,78,68],[84,73,84,76,69],[77,85,83,73,67]]:List Ln)) (fun i=>(i:Int)) (fun k=>seq k s) (fun i _=>some (b8 (w64 (aF (i:Int) 1)),0)) (some (0,4)) (by simp only[aOX,aPF]; omega) (fun self i h=>?_) (fun self=>?_)
 ·have hin:inb (i:Int) (len ([[68,73,65,76,79,71,85,69],[83,79,85,78,68],[84,73,84,76,69],[77,85,83,73,67]]:List Ln))=true:=bH (by simp only[len]; omega)
  rw[aE (bC (by simp only[len]; omega)),aG hin,bJ h,aX h (by simp only[aOX,aPF] at h ⊢; omega)];cases seq ([[68,73,65,76,79,71,85,69],[83,79,85,78,68],[84,73,84,76,69],[77,85,83,73,67]]:List Ln)[i] s<;>rfl
 ·rw[aD (bB (by simp only[len]; omega))]
def gN(n:Ln):List Ln:=if n=[116,116] then [[114,97,116,101],[108,97,115,116]] else if n=[114,101,103,105,111,110] then [[110,97,109,101],[116,111,112],[104,101,105,103,104,116],[108,101,102,116],[119,105,100,116,104],[97,108,105,103,110],[97,110,99,104,111,114]] else if n=[112] then [[105,100],[105,110],[111,117,116],[107,105,110,100]] else []
def oL(n:Ln):List Ln:=if n=[116,116] then [[116,105,116,108,101],[108,97,110,103],[100,114,111,112]] else if n=[114,101,103,105,111,110] then [] else if n=[112] then [[114,101,103,105,111,110],[115,112,101,97,107,101,114]] else if n=[114,117,110] then [[99,111,108,111,114],[105,116,97,108,105,99],[117,110,100,101,114,108,105,110,101],[114,117,98,121]] else []
def rM(n:Ln):List Ln:=if n=[116,116] then [[116,105,116,108,101],[108,97,110,103],[114,97,116,101],[100,114,111,112],[108,97,115,116]] else if n=[114,101,103,105,111,110] then [[110,97,109,101],[116,111,112],[104,101,105,103,104,116],[108,101,102,116],[119,105,100,116,104],[97,108,105,103,110],[97,110,99,104,111,114]] else if n=[112] then [[105,100],[105,110],[111,117,116],[114,101,103,105,111,110],[107,105,110,100],[115,112,101,97,107,101,114]] else if n=[114,117,110] then [[99,111,108,111,114],[105,116,97,108,105,99],[117,110,100,101,114,108,105,110,101],[114,117,98,121]] else []
theorem aMD{P:Ln→Prop}(h1:P [116,116]) (h2:P [114,101,103,105,111,110]) (h3:P [112]) (h4:P [114,117,110]) (h5:∀n,n≠[116,116]→n≠[114,101,103,105,111,110]→n≠[112]→n≠[114,117,110]→P n) (n:Ln):P n:=by
 by_cases c1:n=[116,116]
 ·rw[c1]; exact h1
 by_cases c2:n=[114,101,103,105,111,110]
 ·rw[c2]; exact h2
 by_cases c3:n=[112]
 ·rw[c3]; exact h3
 by_cases c4:n=[114,117,110]
 ·rw[c4]; exact h4
 exact h5 n c1 c2 c3 c4
theorem AP(N:Nat) (n:Ln):q71 N n=some (gN n,oL n):=by
 refine aMD (P:=fun n=>q71 N n=some (gN n,oL n)) rfl rfl rfl rfl (fun n c1 c2 c3 c4=>?_) n;unfold q71 gN oL;rw[aD (by rw[cY]; simpa using c1),aD (by rw[cY]; simpa using c2),aD (by rw[cY]; simpa using c3),aD (by rw[cY]; simpa using c4),if_neg c1,if_neg c2,if_neg c3,if_neg c1,if_neg c2,if_neg c3,if_neg c4]
theorem YS(n:Ln):(∀w,w∈rM n↔w∈gN n∨w∈oL n)∧(gN n).Nodup∧(gN n).length≤7∧(oL n).length≤4∧(rM n).length≤7:=by
 refine aMD (P:=fun n=>(∀w,w∈rM n↔w∈gN n∨w∈oL n)∧(gN n).Nodup∧(gN n).length≤7∧(oL n).length≤4∧(rM n).length≤7) ?_ ?_ ?_ ?_ (fun n c1 c2 c3 c4=>?_) n
 ·refine⟨fun w=>?_,by decide,by decide,by decide,by decide⟩
  have e1:rM [116,116]=[[116,105,116,108,101],[108,97,110,103],[114,97,116,101],[100,114,111,112],[108,97,115,116]]:=rfl
  have e2:gN [116,116]=[[114,97,116,101],[108,97,115,116]]:=rfl
  have e3:oL [116,116]=[[116,105,116,108,101],[108,97,110,103],[100,114,111,112]]:=rfl
  rw[e1,e2,e3];simp only[aPR,List.not_mem_nil,or_false];constructor
  ·rintro(h|h|h|h|h)
   ·exact Or.inr (Or.inl h)
   ·exact Or.inr (Or.inr (Or.inl h))
   ·exact Or.inl (Or.inl h)
   ·exact Or.inr (Or.inr (Or.inr h))
   ·exact Or.inl (Or.inr h)
  ·rintro((h|h)|h|h|h)
   ·exact Or.inr (Or.inr (Or.inl h))
   ·exact Or.inr (Or.inr (Or.inr (Or.inr h)))
   ·exact Or.inl h
   ·exact Or.inr (Or.inl h)
   ·exact Or.inr (Or.inr (Or.inr (Or.inl h)))
 ·refine⟨fun w=>?_,by decide,by decide,by decide,by decide⟩
  have e3:oL [114,101,103,105,111,110]=[]:=rfl
  have e1:rM [114,101,103,105,111,110]=gN [114,101,103,105,111,110]:=rfl
  rw[e1,e3];simp
 ·refine⟨fun w=>?_,by decide,by decide,by decide,by decide⟩
  have e1:rM [112]=[[105,100],[105,110],[111,117,116],[114,101,103,105,111,110],[107,105,110,100],[115,112,101,97,107,101,114]]:=rfl
  have e2:gN [112]=[[105,100],[105,110],[111,117,116],[107,105,110,100]]:=rfl
  have e3:oL [112]=[[114,101,103,105,111,110],[115,112,101,97,107,101,114]]:=rfl
  rw[e1,e2,e3];simp only[aPR,List.not_mem_nil,or_false];constructor
  ·rintro(h|h|h|h|h|h)
   ·exact Or.inl (Or.inl h)
   ·exact Or.inl (Or.inr (Or.inl h))
   ·exact Or.inl (Or.inr (Or.inr (Or.inl h)))
   ·exact Or.inr (Or.inl h)
   ·exact Or.inl (Or.inr (Or.inr (Or.inr h)))
   ·exact Or.inr (Or.inr h)
  ·rintro((h|h|h|h)|h|h)
   ·exact Or.inl h
   ·exact Or.inr (Or.inl h)
   ·exact Or.inr (Or.inr (Or.inl h))
   ·exact Or.inr (Or.inr (Or.inr (Or.inr (Or.inl h))))
   ·exact Or.inr (Or.inr (Or.inr (Or.inl h)))
   ·exact Or.inr (Or.inr (Or.inr (Or.inr (Or.inr h))))
 ·refine⟨fun w=>?_,by decide,by decide,by decide,by decide⟩
  have e1:rM [114,117,110]=oL [114,117,110]:=rfl
  have e2:gN [114,117,110]=[]:=rfl
  rw[e1,e2];simp
 ·unfold gN oL rM;simp only[if_neg c1,if_neg c2,if_neg c3,if_neg c4];simp
def tC(n:Nd):Bool:=(rK n).all (fun a=>(rM n.1).contains a.1)&&(gN n.1).all (fun w=>((rK n).map Prod.fst).contains w)
theorem LS{l:List Ln}(hl:l.length≤1000) (s:Ln):q72 fuelH (l,s)=some (l.contains s):=by
 have hfu:=bA
 unfold q72;dsimp only;rw[cI];refine(gZ (l:=l) (fun i=>(i:Int)) (fun x:Ln=>seq x s) (fun _ _=>some true) (some false) (by omega) (fun self i h=>?_) (fun self=>?_)).trans ?_
 ·have hin:inb (i:Int) (len l)=true:=bH (by simp only[len]; omega)
  rw[aE (bC (by simp only[len]; omega)),aG hin,bJ h,aX h (by omega)];cases seq l[i] s<;>rfl
 ·rw[aD (bB (by simp only[len]; omega))]
 ·rw[zW]
  have:l.any (fun x=>seq x s)=l.contains s:=by
   rw[aPK,List.any_eq_true,aNY];exact⟨fun ⟨x,hx,h⟩=>by rw[dL] at h; exact h ▸ hx,fun h=>⟨s,h,by rw[dL]⟩⟩
  rw[this];cases l.contains s<;>rfl
theorem nft:¬(false=true):=by simp
def tD(A l:List Ln):Nat:=(l.filter (fun w=>A.contains w)).length
theorem F6(w:Ln) (A l:List Ln) (h:w ∉ A):tD (w::A) l=l.count w+tD A l:=by
 unfold tD
 induction l with
 |nil=>rfl
 |cons x l ih =>
  rw[List.filter_cons,List.filter_cons,aPH]
  by_cases e:x=w
  ·subst e
   have h1:(x::A).contains x=true:=by simp
   have h2:A.contains x=false:=by simpa using h
   have h3:(x==x)=true:=by simp
   rw[h1,h2,h3,if_pos rfl,if_neg nft,if_pos rfl,aOX,ih];omega
  ·have h1:(w::A).contains x=A.contains x:=by
    rw[List.contains_cons]
    have:(x==w)=false:=by simpa using e
    rw[this,aPT]
   have h3:(x==w)=false:=by simpa using e
   rw[h1,h3,if_neg nft,aP1]
   cases A.contains x with
   |true=>rw[if_pos rfl,if_pos rfl,aOX,aOX,ih]; omega
   |false=>rw[if_neg nft,if_neg nft,ih]
theorem aFL{l:List Ln}(h:l.Nodup) (w:Ln):l.count w≤1:=by
 induction l with
 |nil=>simp
 |cons x l ih =>
  rw[List.nodup_cons] at h;rw[aPH]
  by_cases e:x=w
  ·subst e;rw[if_pos (by simp),List.count_eq_zero_of_not_mem h.1];omega
  ·have:=ih h.2
   rw[if_neg (by simpa using e)];omega
theorem U5{A l:List Ln}(hA:A.Nodup) (hl:l.Nodup):tD A l≤A.length∧(tD A l=A.length↔∀w∈A,w∈l):=by
 induction A with
 |nil =>
  have:tD [] l=0:=by unfold tD; simp
  rw[this];simp
 |cons w A ih =>
  rw[List.nodup_cons] at hA;obtain⟨h1,h2⟩:=ih hA.2;rw[F6 w A l hA.1,aOX]
  have hc:=aFL hl w
  refine⟨by omega,fun h=>?_,fun h=>?_⟩
  ·have e1:l.count w=1:=by omega
   have e2:tD A l=A.length:=by omega
   intro v hv;rcases aPR.1 hv with rfl|hv
   ·exact aON.1 (by omega)
   ·exact h2.1 e2 v hv
  ·have e1:0<l.count w:=aON.2 (h w aOK)
   have e2:=h2.2 fun v hv=>h v (aN1 _ hv)
   omega
def GY(A M:List Ln):Nat→List At→Option Nat
 |c,[]=>some c
 |c,a::r=>if A.contains a.1 then GY A M (c+1) r else if M.contains a.1 then GY A M c r else none
theorem GZ(A M:List Ln):∀(l:List At) (c:Nat),GY A M c l=if l.all (fun a=>A.contains a.1||M.contains a.1) then some (c+tD A (l.map Prod.fst)) else none
 | [],c=>by simp[GY,tD]
 |a::l,c=>by
  unfold GY
  have e:tD A ((a::l).map Prod.fst)=(if A.contains a.1 then 1 else 0)+tD A (l.map Prod.fst):=by
   unfold tD;rw[aPS,List.filter_cons]
   cases A.contains a.1 with
   |true=>rw[if_pos rfl,if_pos rfl,aOX]; omega
   |false=>rw[if_neg nft,if_neg nft]; omega
  rw[e,List.all_cons,GZ A M l (c+1),GZ A M l c]
  cases A.contains a.1 with
  |true =>
   rw[if_pos rfl,if_pos rfl,Bool.true_or,aPU]
   by_cases h:(l.all fun a=>A.contains a.1||M.contains a.1)=true
   ·rw[if_pos h,if_pos h]; congr 1; omega
   ·rw[if_neg h,if_neg h]
  |false =>
   rw[if_neg nft,if_neg nft,aPT]
   cases M.contains a.1 with
   |true=>rw[if_pos rfl,aPU,aPY]
   |false=>rw[if_neg nft,aPP,if_neg nft]
theorem U6{n:Nd} (hu:vP n):tC n=(match GY (gN n.1) (oL n.1) 0 n.2.2.1 with|some c=>decide (c=(gN n.1).length)|none=>false):=by
 obtain⟨t1,t2,_⟩:=YS n.1;rw[GZ]
 have e1:(n.2.2.1.all fun a=>(gN n.1).contains a.1||(oL n.1).contains a.1)=((rK n).all fun a=>(rM n.1).contains a.1):=by
  show _=n.2.2.1.all _;congr 1;funext a;rw[aPK,Bool.or_eq_true,aNY,aNY,aNY];exact(t1 a.1).symm
 rw[e1];unfold tC
 cases (rK n).all fun a=>(rM n.1).contains a.1 with
 |false=>rw[aPP,if_neg nft]
 |true =>
  rw[aPU,if_pos rfl,aPY]
  have h:=(U5 (l:=n.2.2.1.map Prod.fst) t2 hu).2
  show _=decide (tD (gN n.1) (n.2.2.1.map Prod.fst)=(gN n.1).length);rw[aPK,aO6,decide_eq_true_eq,h];exact⟨fun k w hw=>by have:=k w hw; rwa [aNY] at this,fun k w hw=>by rw[aNY]; exact k w hw⟩
theorem AQ{n:Nd}(hs:smN n) (hu:vP n):q73 fuelH n=some (tC n):=by
 have hl:=hs.asz
 have hfu:=bA
 obtain⟨_,_,t3,t4,_⟩:=YS n.1;unfold q73;rw[AP,aB,cI]
 have h:=jR (R:=Bool) (s:=n.2.2.1) (F:=fun v3 (v4:(List Ln)×(List Ln)×Int×Int) =>
   cnd (ilt v4.2.2.2 (len n.2.2.1))
    (grd (inb v4.2.2.2 (len n.2.2.1))
     (bnd (q72 fuelH (v4.1,(aA n.2.2.1 (toN v4.2.2.2) ([],[])).1)) fun v5 =>
     cnd v5
      (v3 (v4.1,v4.2.1,w64 (aF v4.2.2.1 (1:Int)),w64 (aF v4.2.2.2 (1:Int))))
      (bnd (q72 fuelH (v4.2.1,(aA n.2.2.1 (toN v4.2.2.2) ([],[])).1)) fun v6 =>
      cnd (bS v6)
       (some false)
       (v3 (v4.1,v4.2.1,v4.2.2.1,w64 (aF v4.2.2.2 (1:Int)))))))
    (some (ieq v4.2.2.1 (len v4.1))))
  (fun (c:Nat) (j:Nat)=>(gN n.1,oL n.1,(c:Int),(j:Int))) (fun c r=>some (match GY (gN n.1) (oL n.1) c r with|some c=>decide (c=(gN n.1).length)|none=>false)) (fun j c=>c≤j) ?_ fuelH 0 0 (by omega) (aP7 _) (aP6 _)
 ·refine aP9 h ?_;rw[U6 hu,aPM]
 ·intro self c j hj hc hself
  by_cases hjl:j<n.2.2.1.length
  ·have hin:inb (j:Int) (len n.2.2.1)=true:=bH (by simp only[len]; omega)
   have hw:w64 (aF (j:Int) 1)=((j+1:Nat):Int):=aX hjl (by omega)
   have hwc:w64 (aF (c:Int) 1)=((c+1:Nat):Int):=aX (n:=n.2.2.1.length) (by omega) (by omega)
   dsimp only;rw[aE (bC (by simp only[len]; omega)),aG hin,bJ hjl,hw,hwc,aNE hjl,LS (by omega),aB,LS (by omega),aB];unfold GY
   cases (gN n.1).contains n.2.2.1[j].1 with
   |true =>
    rw[aE rfl,if_pos rfl];exact hself (c+1) (j+1) (by omega) (by omega) (by omega)
   |false =>
    rw[aD rfl,if_neg nft]
    cases (oL n.1).contains n.2.2.1[j].1 with
    |true =>
     rw[aD (by rfl),if_pos rfl];exact hself c (j+1) (by omega) (by omega) (by omega)
    |false =>
     rw[aE (by rfl),if_neg nft]
  ·obtain rfl:j=n.2.2.1.length:=by omega
   dsimp only;rw[aD (bB (by simp only[len]; omega)),aO7];unfold GY;dsimp only;congr 1;rw[aPK,decide_eq_true_eq];constructor
   ·intro h
    by_cases e:(c:Int)=len (gN n.1)
    ·simp only[len] at e; omega
    ·rw[lS e] at h; cases h
   ·intro h;exact iN (by simp only[len]; omega)
theorem U7{α β:Type}(p:α×β):(p.1,p.2)=p:=rfl
theorem U8{α:Type}(xs:List α) (d:α):bK xs (aK xs d)=xs:=by
 unfold bK aK
 cases xs with
 |nil=>rfl
 |cons x xs =>
  have h:(x::xs).length-1<(x::xs).length:=by simp
  rw[aNA,aNH h,Option.getD_some];exact List.set_getElem_self _
theorem UP{α:Type}{xs:List α}(h:xs≠[]) (hl:xs.length≤4000000):inb (w64 (aJ (len xs) 1)) (len xs)=true∧ieq (w64 (aJ (len xs) 1)) (aJ (len xs) 1)=true∧ieq (ofN (toN (w64 (aJ (len xs) 1)))) (aJ (len xs) 1)=true∧toN (w64 (aJ (len xs) 1))=xs.length-1:=by
 have h1:1≤xs.length:=by cases xs with|nil=>exact absurd rfl h|cons _ _=>simp
 have e:w64 (aJ (len xs) 1)=((xs.length-1:Nat):Int):=by
  simp only[aJ,len];rw[cR (by omega)];omega
 have e2:aJ (len xs) 1=((xs.length-1:Nat):Int):=by simp only[aJ,len]; omega
 rw[e,e2];refine⟨bH (by simp only[len]; omega),iN rfl,iN ?_,by simp[toN]⟩;simp[toN,ofN]
theorem U9{α:Type}{xs:List α}(h:xs≠[]) (d:α):aA xs (xs.length-1) d=aK xs d:=by
 unfold aA aK;rfl
theorem V1{α:Type}(xs:List α) (x:α):pI xs (xs.length-1) x=bK xs x:=rfl
def evY:Ev:=(0,(0,0),[],0,[],[])
def cT(d:Doc):List Row:=(aK d.2.2.2.2.2.2.1 evY).2.2.2.2.2
def fP(d:Doc):Row:=aK (cT d) []
def HA:Run:=([],(0,false,false),[])
def rN(d:Doc) (rows:List Row):Doc:=(d.1,d.2.1,d.2.2.1,d.2.2.2.1,d.2.2.2.2.1,d.2.2.2.2.2.1,bK d.2.2.2.2.2.2.1 ((aK d.2.2.2.2.2.2.1 evY).1,(aK d.2.2.2.2.2.2.1 evY).2.1,(aK d.2.2.2.2.2.2.1 evY).2.2.1,(aK d.2.2.2.2.2.2.1 evY).2.2.2.1,(aK d.2.2.2.2.2.2.1 evY).2.2.2.2.1,rows),d.2.2.2.2.2.2.2)
def vQ:Int:=1099511627776
def tE(d:Doc) (n:Nd):Int×Doc :=
 (fZ (fZ (UO (dU n [114,97,116,101])).2 (flT n [100,114,111,112]).2) (fK n [108,97,115,116] vQ).2,(dU n [116,105,116,108,101],dU n [108,97,110,103],(UO (dU n [114,97,116,101])).1,(flT n [100,114,111,112]).1,(fK n [108,97,115,116] vQ).1,d.2.2.2.2.2.1,d.2.2.2.2.2.2.1,d.2.2.2.2.2.2.2))
def aBV(n:Nd):Reg:=(dU n [110,97,109,101],(fK n [116,111,112] 32).1,(fK n [104,101,105,103,104,116] 32).1,(fK n [108,101,102,116] 32).1,(fK n [119,105,100,116,104] 32).1,b8 (w64 (aF (chT gl0 n [97,108,105,103,110]).1 1)),ieq (chT [[84,79,80],[66,79,84,84,79,77]] n [97,110,99,104,111,114]).1 1)
def vR(d:Doc) (n:Nd):Int×Doc :=
 (fZ (fZ (fZ (fZ (fZ (fK n [116,111,112] 32).2 (fK n [104,101,105,103,104,116] 32).2) (fK n [108,101,102,116] 32).2) (fK n [119,105,100,116,104] 32).2) (chT gl0 n [97,108,105,103,110]).2) (chT [[84,79,80],[66,79,84,84,79,77]] n [97,110,99,104,111,114]).2,
  (d.1,d.2.1,d.2.2.1,d.2.2.2.1,d.2.2.2.2.1,d.2.2.2.2.2.1++[aBV n],d.2.2.2.2.2.2.1,d.2.2.2.2.2.2.2))
def evT(n:Nd):Ev:=((fK n [105,100] vQ).1,((mY n [105,110]).1,(mY n [111,117,116]).1),dU n [114,101,103,105,111,110],(wC (dU n [107,105,110,100])).1,dU n [115,112,101,97,107,101,114],[])
def qB(d:Doc) (n:Nd):Int×Doc :=
 (fZ (fZ (fZ (fK n [105,100] vQ).2 (mY n [105,110]).2) (mY n [111,117,116]).2) (wC (dU n [107,105,110,100])).2,
  (d.1,d.2.1,d.2.2.1,d.2.2.2.1,d.2.2.2.2.1,d.2.2.2.2.2.1,d.2.2.2.2.2.2.1++[evT n],d.2.2.2.2.2.2.2))
def LT(n:Nd):Run:=([],((AO n).1,(flT n [105,116,97,108,105,99]).1,(flT n [117,110,100,101,114,108,105,110,101]).1),dU n [114,117,98,121])
def CS(d:Doc) (n:Nd):Int×Doc :=
 (fZ (fZ (AO n).2 (flT n [105,116,97,108,105,99]).2) (flT n [117,110,100,101,114,108,105,110,101]).2,rN d (bK (cT d) (fP d++[LT n])))
def CT(d:Doc) (n:Nd):Int×Doc:=(0,rN d (bK (cT d) (bK (fP d) (n.2.1,(aK (fP d) HA).2))))
def dP(d:Doc) (n:Nd):Int×Doc :=
 if n.1=[116,116] then tE d n else if n.1=[114,101,103,105,111,110] then vR d n else if n.1=[112] then qB d n else if n.1=[114,111,119] then(0,rN d (cT d++[[]])) else if n.1=[114,117,110] then CS d n else CT d n
structure HasR (d:Doc) (n:Nd):Prop where
 rg:d.2.2.2.2.2.1.length≤1000000
 ev:d.2.2.2.2.2.2.1.length≤1000000
 row:n.1≠[116,116]→n.1≠[114,101,103,105,111,110]→n.1≠[112]→d.2.2.2.2.2.2.1≠[]∧(cT d).length≤1000000
 run:n.1≠[116,116]→n.1≠[114,101,103,105,111,110]→n.1≠[112]→n.1≠[114,111,119]→cT d≠[]∧(fP d).length≤1000000
 tx:n.1≠[116,116]→n.1≠[114,101,103,105,111,110]→n.1≠[112]→n.1≠[114,111,119]→n.1≠[114,117,110]→fP d≠[]
theorem kO{α:Type}(xs:List α) (y v:α):bK (xs++[y]) v=xs++[v]:=by
 unfold bK;rw[aOG,aOX,aPF,aOO,aNW _ _ (aP6 _),aP3];rfl
theorem V2{n:Nd}(ha:tC n=true){w:Ln}(hw:(gN n.1).contains w=true):rL n w=true:=by
 unfold tC at ha;rw[aOY,aO6,aO6] at ha;rw[aNY] at hw
 have:=ha.2 w hw
 rw[aNY] at this;exact(uZ w _).2 this
theorem aBW(s:Ln):(wC s).2=0∨(wC s).2=4:=by
 unfold wC
 have:∀(l:List Ln) (k:Nat),(eK (fun k:Ln=>seq k s) (fun i _=>(b8 (w64 (aF (i:Int) 1)),(0:Int))) ((0:UInt8),(4:Int)) k l).2=0∨(eK (fun k:Ln=>seq k s) (fun i _=>(b8 (w64 (aF (i:Int) 1)),(0:Int))) ((0:UInt8),(4:Int)) k l).2=4:=by
  intro l
  induction l with
  |nil=>intro k; exact Or.inr rfl
  |cons x l ih =>
   intro k;unfold eK
   by_cases h:seq x s=true
   ·rw[if_pos h]; exact Or.inl rfl
   ·rw[if_neg h]; exact ih (k+1)
 exact this _ 0
theorem sq{a b:Ln}(h:a=b):seq a b=true:=by rw[dL]; exact h
theorem sqf{a b:Ln}(h:¬a=b):seq a b=false:=by rw[cY]; simpa using h
theorem aFM{d:Doc}{n:Nd}(hs:smN n) (hu:vP n) (ha:tC n=true) (hr:HasR d n):kH fuelH (d,n)=some (dP d n):=by
 have hMax:(1099511627776:Int)≤4611686018427387904:=by omega
 unfold kH dP;dsimp only;simp only[U8,U7];rw[cI]
 by_cases c1:n.1=[116,116]
 ·rw[aE (sq c1),if_pos c1,dY hs,aB];dsimp only;rw[dY hs,aB];dsimp only;rw[dY hs,aB];dsimp only;rw[U3,aB];rw[mN,aB,UN hs hu,aB];dsimp only;rw[GX hs _ _ hMax,aB];rfl
 rw[aD (sqf c1),if_neg c1]
 by_cases c2:n.1=[114,101,103,105,111,110]
 ·have h1:rL n [97,108,105,103,110]=true:=V2 ha (by rw[c2]; rfl)
  have h2:rL n [97,110,99,104,111,114]=true:=V2 ha (by rw[c2]; rfl)
  rw[aE (sq c2),if_pos c2,dY hs,aB];dsimp only;rw[tB hs,aB];dsimp only;rw[tB hs,aB];dsimp only;rw[tB hs,aB];dsimp only;rw[tB hs,aB];dsimp only;rw[UM hs _ (by decide) h1,aB];dsimp only;rw[UM hs _ (by simp) h2,aB];dsimp only;rw[aG (dW (by have:=hr.rg; simp only[aF,len,aOX,aPF]; omega))];rfl
 rw[aD (sqf c2),if_neg c2]
 by_cases c3:n.1=[112]
 ·rw[aE (sq c3),if_pos c3,GX hs _ _ hMax,aB];dsimp only;rw[YP hs,aB];dsimp only;rw[YP hs,aB];dsimp only;rw[dY hs,aB];dsimp only;rw[dY hs,aB];dsimp only;rw[U4,aB,cI]
  have key:∀e:Int,e=fZ (fZ (fZ (fZ 0 (fK n [105,100] 1099511627776).2) (mY n [105,110]).2) (mY n [111,117,116]).2) (wC (dU n [107,105,110,100])).2 →
    (bnd (q74 fuelH ((n,e),[115,112,101,97,107,101,114])) fun v23 =>
     grd (cW (aF (len d.2.2.2.2.2.2.1) (len ([zE]:List Ev))) 88)
     (some (v23.2.2,d.1,d.2.1,d.2.2.1,d.2.2.2.1,d.2.2.2.2.1,d.2.2.2.2.2.1,bK (bR d.2.2.2.2.2.2.1 ([zE]:List Ev)) ((fK n [105,100] 1099511627776).1,((mY n [105,110]).1,(mY n [111,117,116]).1),dU n [114,101,103,105,111,110],(wC (dU n [107,105,110,100])).1,v23.1,([]:List Row)),d.2.2.2.2.2.2.2)))=some (qB d n):=by
   intro e he;rw[dY hs,aB,aG (dW (by have:=hr.ev; simp only[aF,len,aOX,aPF]; omega))]
   have:∀x:Ev,bR d.2.2.2.2.2.2.1 [x]=d.2.2.2.2.2.2.1++[x]:=fun _=>rfl
   rw[this,kO,he];rfl
  rcases aBW (dU n [107,105,110,100]) with h|h
  ·rw[aD (fB h)];exact key _ (by rw[h,YQ])
  ·rw[aE (dF (by rw[h]; decide)),mN,aB];exact key _ (by rw[h])
 rw[aD (sqf c3),if_neg c3];obtain⟨r1,r2⟩:=hr.row c1 c2 c3;obtain⟨g1,g2,g3,g4⟩:=UP r1 (by have:=hr.ev; omega)
 have hz:zE=evY:=rfl
 rw[hz]
 by_cases c4:n.1=[114,111,119]
 ·rw[aE (sq c4),if_pos c4,aG g1,aG g2,aG g3]
  have hl:(aK d.2.2.2.2.2.2.1 evY).2.2.2.2.2.length≤1000000:=r2
  rw[aG (dW (by simp only[aF,len,aOX,aPF]; omega)),aG g1,aG g2,aG g3]
  have:∀(l:List Row) (x:Row),bR l [x]=l++[x]:=fun _ _=>rfl
  rw[this,kO];rfl
 rw[aD (sqf c4),if_neg c4];obtain⟨s1,s2⟩:=hr.run c1 c2 c3 c4
 have s1:(aK d.2.2.2.2.2.2.1 evY).2.2.2.2.2≠[]:=s1
 have hl:(aK d.2.2.2.2.2.2.1 evY).2.2.2.2.2.length≤1000000:=r2
 obtain⟨k1,k2,k3,k4⟩:=UP s1 (by omega)
 have hl2:(aK (aK d.2.2.2.2.2.2.1 evY).2.2.2.2.2 []).length≤1000000:=s2
 by_cases c5:n.1=[114,117,110]
 ·rw[aE (sq c5),if_pos c5,dY hs,aB];dsimp only;rw[aBU hs,aB];dsimp only;rw[UN hs hu,aB];dsimp only;rw[UN hs hu,aB];dsimp only;rw[aG g1,aG g2,aG g3,aG g1,aG g2,aG g3,aG k1,aG k2,aG k3,aG (dW (by simp only[aF,len,aOX,aPF]; omega)),aG k3];rfl
 rw[aD (sqf c5),if_neg c5]
 have t1:aK (aK d.2.2.2.2.2.2.1 evY).2.2.2.2.2 []≠[]:=hr.tx c1 c2 c3 c4 c5
 obtain⟨m1,m2,m3,m4⟩:=UP t1 (by omega);rw[aG g1,aG g2,aG g3,aG g1,aG g2,aG g3,aG k1,aG k2,aG k3,aG k3,aG m1,m4,V1,U9 t1];rfl
def HE(n:Nd) (parent:Ln) (reg:Bool):Bool :=
 if parent=[] then decide (n.1=[116,116]) else if parent=[116,116] then(if n.1=[112] then true else if n.1=[114,101,103,105,111,110] then reg else false) else
 if parent=[112] then decide (n.1=[114,111,119]) else if parent=[114,111,119] then decide (n.1=[114,117,110]) else if parent=[114,117,110] then decide (n.1=[]) else false
def noE(d:Doc):Bool:=decide (d.2.2.2.2.2.2.1.length=0)
def oM(op:List Ln) (n:Nd):Ln:=if 0<dep n then op.getD ((dep n).toNat-1) [] else []
def okN(op:List Ln) (d:Doc) (n:Nd):Bool:=HE n (oM op n) (noE d)&&tC n
def oN:Doc:=([],[],0,false,0,[],[],[])
def aFN(d:Doc):Doc×Int×Int:=if bW d≠0 then(oN,0,bW d) else(d,0,0)
def goS:Nat→List Ln→Doc→List Nd→Doc×Int×Int
 |_,_,d,[]=>aFN d
 |i,op,d,n::r=>if okN op d n=false then(oN,(i:Int),4) else if(dP d n).1≠0 then(oN,(i:Int),(dP d n).1) else goS (i+1) (op.take (dep n).toNat++[n.1]) (dP d n).2 r
def rO(l:List Nd):Doc×Int×Int:=if rJ l≠0 then(oN,0,rJ l) else goS 0 [] oN l
def eL(d:Doc):List Ev:=d.2.2.2.2.2.2.1
def Sh(op:List Ln) (d:Doc):Prop :=
 (op=[]∧eL d=[])∨(op=[[116,116]]∧eL d=[])∨(op=[[116,116],[114,101,103,105,111,110]]∧eL d=[])∨(op=[[116,116],[112]]∧eL d≠[])∨(op=[[116,116],[112],[114,111,119]]∧eL d≠[]∧cT d≠[]) ∨
 (op=[[116,116],[112],[114,111,119],[114,117,110]]∧eL d≠[]∧cT d≠[]∧fP d≠[]∧(aK (fP d) HA).1=[])∨(op=[[116,116],[112],[114,111,119],[114,117,110],[]]∧eL d≠[]∧cT d≠[]∧fP d≠[])
structure Inv (l:List Nd) (i:Nat) (op:List Ln) (d:Doc):Prop where
 sh:Sh op d
 zero:i=0→op=[]
 one:1≤i→(op.length:Int)=dep (l.getD (i-1) ndz)+1
 path:∀k,k<op.length→∃j,j<i∧dep (l.getD j ndz)=(k:Int)∧(l.getD j ndz).1=op.getD k []∧∀m,j<m→m<i→(k:Int)<dep (l.getD m ndz)
 rg:d.2.2.2.2.2.1.length≤i
 ev:(eL d).length≤i
 rw:(cT d).length≤i
 rn:(fP d).length≤i
 ti:d.1.length≤1090000
 small:∀x∈eL d,∀r∈x.2.2.2.2.2,(∀u∈r,u.1.length≤1090000∧u.2.2.length≤1090000)∧tot r≤bkL wtN (l.take i)
 cm:d.2.2.2.2.2.2.2=[]
theorem aM2(l:List Nd):Inv l 0 [] oN :=
 ⟨Or.inl ⟨rfl,rfl⟩,fun _=>rfl,fun h=>absurd h (by omega),fun k h=>by simp at h,aP6 _,aP6 _,aP6 _,aP6 _,aP7 _,(fun x hx=>by cases hx),rfl⟩
inductive Nx (i:Nat) (op:List Ln) (d:Doc) (n:Nd):Prop
 |tt (h0:i=0) (hk:dep n=0) (ho:op=[]) (hn:n.1=[116,116]) (he:eL d=[])
 |p (hk:dep n=1) (ho:op.take 1=[[116,116]]) (hn:n.1=[112])
 |rg (hk:dep n=1) (ho:op.take 1=[[116,116]]) (hn:n.1=[114,101,103,105,111,110]) (he:eL d=[])
 |row (hk:dep n=2) (ho:op.take 2=[[116,116],[112]]) (hn:n.1=[114,111,119]) (he:eL d≠[])
 |run (hk:dep n=3) (ho:op.take 3=[[116,116],[112],[114,111,119]]) (hn:n.1=[114,117,110]) (he:eL d≠[]) (hr:cT d≠[])
 |tx (hk:dep n=4) (ho:op=[[116,116],[112],[114,111,119],[114,117,110]]) (hn:n.1=[]) (he:eL d≠[]) (hr:cT d≠[]) (hu:fP d≠[]) (ht:(aK (fP d) HA).1=[])
theorem aBX{n:Nd}{q:Ln}{b:Bool}(h:HE n q b=true) (h1:q≠[]) (h2:q≠[116,116]) (h3:q≠[112]) (h4:q≠[114,111,119]) (h5:q≠[114,117,110]):False:=by
 unfold HE at h;rw[if_neg h1,if_neg h2,if_neg h3,if_neg h4,if_neg h5] at h;cases h
theorem YT{l:List Nd}(hd:Deep l){i:Nat}(hi:i<l.length){op:List Ln}{d:Doc}(hI:Inv l i op d):(i=0∧dep l[i]=0)∨(1≤i∧1≤dep l[i]∧dep l[i]≤(op.length:Int)∧(dep l[i]=(op.length:Int)→(l.getD (i-1) ndz).1≠[])):=by
 by_cases h0:i=0
 ·subst h0; exact Or.inl ⟨rfl,hd.root hi⟩
 ·have h1:=hI.one (by omega)
  have h2:=hd.low (i-1) (by omega)
  have e:l.getD (i-1) ndz=l[i-1]:=gD (by omega)
  have e2:l[i-1+1]'(by omega)=l[i]:=by congr 1; omega
  rw[e2] at h2;rw[e] at h1 ⊢;exact Or.inr ⟨by omega,h2.1,by omega,fun k=>h2.2.2 (by omega)⟩
theorem aME{l:List Nd}(hc:rJ l=0){i:Nat}(hi:i<l.length){op:List Ln}{d:Doc}(hI:Inv l i op d) (hf:HE l[i] (oM op l[i]) (noE d)=true):Nx i op d l[i]:=by
 have hck:=(GV hc).2.2
 have hd:=YJ hck
 have hnoE:noE d=true→eL d=[]:=fun h=>aNL.1 (of_decide_eq_true h)
 rcases YT hd hi hI with⟨h0,hk⟩|⟨h1,k1,k2,k3⟩
 ·have ho:=hI.zero h0
  have hp:oM op l[i]=[]:=by unfold oM; rw[if_neg (by omega)]
  rw[hp] at hf
  have he:eL d=[]:=by
   have:=hI.ev
   exact aNL.1 (by omega)
  exact Nx.tt h0 hk ho (of_decide_eq_true hf) he
 ·have hp:oM op l[i]=op.getD ((dep l[i]).toNat-1) []:=by unfold oM; rw[if_pos (by omega)]
  rw[hp] at hf
  have at1:op.take 1=[[116,116]]→dep l[i]=1→Nx i op d l[i]:=by
   intro ho hk
   have:op.getD ((dep l[i]).toNat-1) []=[116,116]:=by
    rw[hk]
    cases op with
    |nil=>cases ho
    |cons a t=>injection ho with e _
   rw[this] at hf
   have hf:(if l[i].1=[112] then true else if l[i].1=[114,101,103,105,111,110] then noE d else false)=true:=hf
   by_cases c1:l[i].1=[112]
   ·exact Nx.p hk ho c1
   rw[if_neg c1] at hf
   by_cases c2:l[i].1=[114,101,103,105,111,110]
   ·rw[if_pos c2] at hf;exact Nx.rg hk ho c2 (hnoE hf)
   ·rw[if_neg c2] at hf; cases hf
  have at2:op.take 2=[[116,116],[112]]→dep l[i]=2→eL d≠[]→Nx i op d l[i]:=by
   intro ho hk he
   have:op.getD ((dep l[i]).toNat-1) []=[112]:=by
    rw[hk]
    match op,ho with
    |a::b::t,ho=>injection ho with _ e; injection e with e _
   rw[this] at hf;exact Nx.row hk ho (of_decide_eq_true (show decide (l[i].1=[114,111,119])=true from hf)) he
  have at3:op.take 3=[[116,116],[112],[114,111,119]]→dep l[i]=3→eL d≠[]→cT d≠[]→Nx i op d l[i]:=by
   intro ho hk he hr
   have:op.getD ((dep l[i]).toNat-1) []=[114,111,119]:=by
    rw[hk]
    match op,ho with
    |a::b::c::t,ho=>injection ho with _ e; injection e with _ e; injection e with e _
   rw[this] at hf;exact Nx.run hk ho (of_decide_eq_true (show decide (l[i].1=[114,117,110])=true from hf)) he hr
  rcases hI.sh with⟨ho,he⟩|⟨ho,he⟩|⟨ho,he⟩|⟨ho,he⟩|⟨ho,he,hr⟩|⟨ho,he,hr,hu,ht⟩|⟨ho,he,hr,hu⟩
  ·rw[ho] at k2; simp at k2; omega
  ·have hk:dep l[i]=1:=by rw[ho] at k2; simp at k2; omega
   exact at1 (by rw[ho]; rfl) hk
  ·have hl:dep l[i]=1∨dep l[i]=2:=by rw[ho] at k2; simp at k2; omega
   rcases hl with hk|hk
   ·exact at1 (by rw[ho]; rfl) hk
   ·exfalso;rw[ho,hk] at hf;exact aBX (q:=[114,101,103,105,111,110]) hf (by decide) (by decide) (by decide) (by decide) (by decide)
  ·have hl:dep l[i]=1∨dep l[i]=2:=by rw[ho] at k2; simp at k2; omega
   rcases hl with hk|hk
   ·exact at1 (by rw[ho]; rfl) hk
   ·exact at2 (by rw[ho]; rfl) hk he
  ·have hl:dep l[i]=1∨dep l[i]=2∨dep l[i]=3:=by rw[ho] at k2; simp at k2; omega
   rcases hl with hk|hk|hk
   ·exact at1 (by rw[ho]; rfl) hk
   ·exact at2 (by rw[ho]; rfl) hk he
   ·exact at3 (by rw[ho]; rfl) hk he hr
  ·have hl:dep l[i]=1∨dep l[i]=2∨dep l[i]=3∨dep l[i]=4:=by rw[ho] at k2; simp at k2; omega
   rcases hl with hk|hk|hk|hk
   ·exact at1 (by rw[ho]; rfl) hk
   ·exact at2 (by rw[ho]; rfl) hk he
   ·exact at3 (by rw[ho]; rfl) hk he hr
   ·rw[ho,hk] at hf;exact Nx.tx hk ho (of_decide_eq_true (show decide (l[i].1=[])=true from hf)) he hr hu ht
  ·
   have hlast:(l.getD (i-1) ndz).1=[]:=by
    obtain⟨j,j1,j2,j3,j4⟩:=hI.path 4 (by rw[ho]; simp)
    have h1':=hI.one h1
    rw[ho] at h1' j3;simp only[aOX,aPF] at h1'
    have:j=i-1:=by
     by_cases e:j=i-1
     ·exact e
     ·have:=j4 (i-1) (by omega) (by omega)
      omega
    rw[this] at j3;exact j3
   have hl:dep l[i]=1∨dep l[i]=2∨dep l[i]=3∨dep l[i]=4∨dep l[i]=5:=by rw[ho] at k2; simp at k2; omega
   rcases hl with hk|hk|hk|hk|hk
   ·exact at1 (by rw[ho]; rfl) hk
   ·exact at2 (by rw[ho]; rfl) hk he
   ·exact at3 (by rw[ho]; rfl) hk he hr
   ·exfalso;rw[ho,hk] at hf
    have hn:l[i].1=[]:=of_decide_eq_true (show decide (l[i].1=[])=true from hf)
    have htx:=S6 (hck i hi) hn
    have e:l.getD (i-1) ndz=l[i-1]:=gD (by omega)
    have h1':=hI.one h1
    rw[ho,e] at h1';simp only[aOX,aPF] at h1';rw[e] at hlast
    have hpv:prv l i=some l[i-1]:=by
     have:=kN (l:=l) (i:=i-1) (by omega)
     have e3:i-1+1=i:=by omega
     rwa [e3] at this
    rw[hpv] at htx;unfold txE txP at htx;rw[if_pos (decide_eq_true ⟨hlast,by omega⟩)] at htx;cases htx
   ·exfalso;exact k3 (by rw[ho]; simp only[aOX,aPF]; omega) hlast
theorem HF{p:Option Nd}{n:Nd}(h:ndE p n=0):vP n:=by
 unfold vP rK
 by_cases hn:n.1=[]
 ·have:=S6 h hn
  unfold txE at this
  split at this
  ·cases this
  split at this
  ·cases this
  split at this
  ·cases this
  ·rename_i _ _ h0
   have:n.2.2.1=[]:=aNL.1 (by omega)
   rw[this];exact List.nodup_nil
 ·have he:=aFI h hn
  unfold elE at he
  split at he
  ·cases he
  split at he
  ·cases he
  split at he
  ·cases he
  have key:∀(r:List At) (seen:List Ln),seen.Nodup→atE seen r=0→(seen++r.map Prod.fst).Nodup:=by
   intro r
   induction r with
   |nil=>intro seen hs _; simpa using hs
   |cons a r ih =>
    intro seen hs h;unfold atE at h
    split at h
    ·cases h
    split at h
    ·cases h
    split at h
    ·cases h
    rename_i _ hm _
    have:=ih (seen++[a.1]) (by
     rw[List.nodup_append];refine⟨hs,by simp,?_⟩;intro x hx y hy;rw[aOM] at hy;subst hy;intro e;exact hm (e ▸ hx)) h
    rw[aOQ] at this;exact this
  exact key _ [] List.nodup_nil he
theorem aBY{l:List Nd}{i:Nat}(hi:i≤1000000){op:List Ln}{d:Doc}{n:Nd}(hI:Inv l i op d) (hx:Nx i op d n):HasR d n:=by
 have h1:=hI.rg
 have h2:=hI.ev
 have h3:=hI.rw
 have h4:=hI.rn
 have h2':d.2.2.2.2.2.2.1.length≤i:=h2
 cases hx with
 |tt h0 hk ho hn he=>exact⟨by omega,by omega,fun k=>absurd hn k,fun k=>absurd hn k,fun k=>absurd hn k⟩
 |p hk ho hn=>exact⟨by omega,by omega,fun _ _ k=>absurd hn k,fun _ _ k=>absurd hn k,fun _ _ k=>absurd hn k⟩
 |rg hk ho hn he=>exact⟨by omega,by omega,fun _ k=>absurd hn k,fun _ k=>absurd hn k,fun _ k=>absurd hn k⟩
 |row hk ho hn he=>exact⟨by omega,by omega,fun _ _ _=>⟨he,by omega⟩,fun _ _ _ k=>absurd hn k,fun _ _ _ k=>absurd hn k⟩
 |run hk ho hn he hr=>exact⟨by omega,by omega,fun _ _ _=>⟨he,by omega⟩,fun _ _ _ _=>⟨hr,by omega⟩,fun _ _ _ _ k=>absurd hn k⟩
 |tx hk ho hn he hr hu ht=>exact⟨by omega,by omega,fun _ _ _=>⟨he,by omega⟩,fun _ _ _ _=>⟨hr,by omega⟩,fun _ _ _ _ _=>hu⟩
theorem tF{α:Type}{xs:List α}(h:xs≠[]) (d:α):aK xs d∈xs:=by
 have h1:xs.length-1<xs.length:=by cases xs with|nil=>exact absurd rfl h|cons _ _=>simp
 unfold aK;rw[aNA,aNH h1,Option.getD_some];exact aO8 h1
theorem wU{α:Type}{xs:List α}{v x:α}(h:x∈bK xs v):x∈xs∨x=v:=List.mem_or_eq_of_mem_set h
theorem mO{α:Type}(xs:List α) (v:α):(bK xs v).length=xs.length:=by unfold bK; rw[List.length_set]
theorem HH{α:Type}{xs:List α}(h:xs≠[]) (v:α):bK xs v≠[]:=fun k=>h (aNL.1 (by rw[←mO xs v,k]; rfl))
theorem UQ{α:Type}(xs:List α) (v:α):xs++[v]≠[]:=by simp
theorem iQ{α:Type}(xs:List α) (v d:α):aK (xs++[v]) d=v:=by
 unfold aK;rw[aOG,aOX,aPF,aOO,aNA,aNB (aP6 _),aP3];rfl
theorem vB{d:Doc}(h:eL d≠[]) (rows:List Row):cT (rN d rows)=rows:=by
 unfold cT rN;dsimp only
 have h:d.2.2.2.2.2.2.1≠[]:=h
 rw[Go.W.jN _ _ _ h]
theorem zZ{d:Doc}(h:eL d≠[]) (rows:List Row):eL (rN d rows)≠[]:=HH h _
theorem aBZ{row:Row}(h:row≠[]) (t:Ln) (s:Sty×Ln):tot (bK row (t,s))≤tot row+t.length:=by
 obtain⟨r,u,rfl⟩:∃r u,row=r++[u]:=by
  rcases List.eq_nil_or_concat row with k|⟨r,u,k⟩
  ·exact absurd k h
  ·exact⟨r,u,by rw[k,List.concat_eq_append]⟩
 rw[kO,wS,wS];simp only[tot];omega
theorem V3{l:List Nd}{i:Nat}(hi:i<l.length):bkL wtN (l.take (i+1))=bkL wtN (l.take i)+wtN l[i]:=by
 rw[aM4 hi];generalize l.take i=a
 induction a with
 |nil=>simp[bkL]
 |cons x a ih=>simp only[aOZ,bkL,ih]; omega
def smR(W:Nat) (r:Row):Prop:=(∀u∈r,u.1.length≤1090000∧u.2.2.length≤1090000)∧tot r≤W
theorem vC{W:Nat}{d:Doc}(he:eL d≠[]){rows:List Row}(h1:∀x∈eL d,∀r∈x.2.2.2.2.2,smR W r) (h2:∀r∈rows,smR W r):∀x∈eL (rN d rows),∀r∈x.2.2.2.2.2,smR W r:=by
 intro x hx r hr
 have hx:x∈bK (eL d) _:=hx
 rcases wU hx with hx|hx
 ·exact h1 x hx r hr
 ·subst hx; exact h2 r hr
theorem tG{W:Nat}{d:Doc}(he:eL d≠[]) (h1:∀x∈eL d,∀r∈x.2.2.2.2.2,smR W r):∀r∈cT d,smR W r:=fun r hr=>h1 _ (tF he evY) r hr
theorem V4{l:List Nd}(hs:∀n∈l,smN n){i:Nat}(hi:i<l.length){op:List Ln}{d:Doc}(hI:Inv l i op d) (hx:Nx i op d l[i]):Inv l (i+1) (op.take (dep l[i]).toNat++[l[i].1]) (dP d l[i]).2:=by
 have hn:=hs _ (aO8 hi)
 have hW:=V3 hi
 have hwt:l[i].2.1.length+1≤wtN l[i]:=by unfold wtN; omega
 have gi:l.getD i ndz=l[i]:=gD hi
 have h1:=hI.rg
 have h2:=hI.ev
 have h3:=hI.rw
 have h4:=hI.rn
 have hsm:∀x∈eL d,∀r∈x.2.2.2.2.2,smR (bkL wtN (l.take (i+1))) r:=fun x hx r hr=>⟨(hI.small x hx r hr).1,by have:=(hI.small x hx r hr).2; omega⟩
 have path:∀k:Nat,dep l[i]=(k:Int)→k≤op.length→(∀q,q<(op.take k++[l[i].1]).length→∃j,j<i+1∧dep (l.getD j ndz)=(q:Int)∧(l.getD j ndz).1=(op.take k++[l[i].1]).getD q []∧∀m,j<m→m<i+1→(q:Int)<dep (l.getD m ndz))∧((op.take k++[l[i].1]).length:Int)=dep (l.getD i ndz)+1:=by
  intro k hk hko
  have hlt:(op.take k).length=k:=by rw[aO0]; omega
  refine⟨fun q hq=>?_,by rw[gi,hk,aOG,hlt]; simp⟩;rw[aOG,hlt] at hq;simp only[aOX,aPF] at hq
  by_cases e:q=k
  ·subst e;refine⟨i,by omega,by rw[gi,hk],?_,fun m h1 h2=>by omega⟩;rw[gi,aNA,aNB (by omega),hlt,aP3];rfl
  ·obtain⟨j,j1,j2,j3,j4⟩:=hI.path q (by omega);refine⟨j,by omega,j2,?_,fun m m1 m2=>?_⟩
   ·rw[j3,aNA,aNA,aND (by omega),List.getElem?_take_of_lt (by omega)]
   ·by_cases e2:m=i
    ·subst e2; rw[gi,hk]; omega
    ·exact j4 m m1 (by omega)
 have tl:∀k:Nat,∀z:List Ln,z.length=k→op.take k=z→k≤op.length:=by
  intro k z hz ho
  have:=congrArg List.length ho
  rw[aO0,hz] at this;omega
 cases hx with
 |tt h0 hk ho hn1 he =>
  have e:(dep l[i]).toNat=0:=by rw[hk]; rfl
  rw[e];obtain⟨p1,p2⟩:=path 0 (by rw[hk]; rfl) (aP7 _)
  have ea:(dP d l[i]).2=(tE d l[i]).2:=by unfold dP; rw[if_pos hn1]
  have ee:eL (tE d l[i]).2=[]:=he
  have er:cT (tE d l[i]).2=cT d:=rfl
  rw[ea];refine⟨Or.inr (Or.inl ⟨by rw[hn1]; simp,ee⟩),fun k=>by omega,fun _=>by rw[aOO]; exact p2,p1,?_,?_,?_,?_,?_,?_,hI.cm⟩
  ·exact aOW h1
  ·rw[ee]; exact aP7 _
  ·rw[er]; omega
  ·exact aOW h4
  ·exact tA hn _
  ·intro x hx; rw[ee] at hx; cases hx
 |p hk ho hn1 =>
  have e:(dep l[i]).toNat=1:=by rw[hk]; rfl
  rw[e];obtain⟨p1,p2⟩:=path 1 (by rw[hk]; rfl) (tl 1 _ rfl ho)
  have ea:(dP d l[i]).2=(qB d l[i]).2:=by unfold dP; rw[if_neg (by rw[hn1]; decide),if_neg (by rw[hn1]; decide),if_pos hn1]
  have ee:eL (qB d l[i]).2=eL d++[evT l[i]]:=rfl
  have er:cT (qB d l[i]).2=[]:=by
   show(aK (eL d++[evT l[i]]) evY).2.2.2.2.2=[];rw[iQ]; rfl
  rw[ea];refine⟨Or.inr (Or.inr (Or.inr (Or.inl ⟨by rw[ho,hn1]; rfl,by rw[ee]; exact UQ _ _⟩))),fun k=>by omega,fun _=>by rw[aOO]; exact p2,p1,?_,?_,?_,?_,?_,?_,hI.cm⟩
  ·exact aOW h1
  ·rw[ee,aOG]; simp only[aOX,aPF]; omega
  ·rw[er]; exact aP7 _
  ·unfold fP; rw[er]; exact aP7 _
  ·exact hI.ti
  ·intro x hx r hr;rw[ee,aPA,aOM] at hx;rcases hx with hx|rfl
   ·exact hsm x hx r hr
   ·cases hr
 |rg hk ho hn1 he =>
  have e:(dep l[i]).toNat=1:=by rw[hk]; rfl
  rw[e];obtain⟨p1,p2⟩:=path 1 (by rw[hk]; rfl) (tl 1 _ rfl ho)
  have ea:(dP d l[i]).2=(vR d l[i]).2:=by unfold dP; rw[if_neg (by rw[hn1]; decide),if_pos hn1]
  have ee:eL (vR d l[i]).2=[]:=he
  rw[ea];refine⟨Or.inr (Or.inr (Or.inl ⟨by rw[ho,hn1]; rfl,ee⟩)),fun k=>by omega,fun _=>by rw[aOO]; exact p2,p1,?_,?_,?_,?_,?_,?_,hI.cm⟩
  ·show(d.2.2.2.2.2.1++[aBV l[i]]).length≤i+1;rw[aOG]; simp only[aOX,aPF]; omega
  ·rw[ee]; exact aP7 _
  ·exact aOW h3
  ·exact aOW h4
  ·exact hI.ti
  ·intro x hx; rw[ee] at hx; cases hx
 |row hk ho hn1 he =>
  have e:(dep l[i]).toNat=2:=by rw[hk]; rfl
  rw[e];obtain⟨p1,p2⟩:=path 2 (by rw[hk]; rfl) (tl 2 _ rfl ho)
  have ea:(dP d l[i]).2=rN d (cT d++[[]]):=by unfold dP; rw[if_neg (by rw[hn1]; decide),if_neg (by rw[hn1]; decide),if_neg (by rw[hn1]; decide),if_pos hn1]
  have er:=vB he (cT d++[[]])
  rw[ea];refine⟨Or.inr (Or.inr (Or.inr (Or.inr (Or.inl ⟨by rw[ho,hn1]; rfl,zZ he _,by rw[er]; exact UQ _ _⟩)))),fun k=>by omega,fun _=>by rw[aOO]; exact p2,p1,?_,?_,?_,?_,?_,?_,hI.cm⟩
  ·exact aOW h1
  ·show(bK (eL d) _).length≤_; rw[mO]; omega
  ·rw[er,aOG]; simp only[aOX,aPF]; omega
  ·unfold fP; rw[er,iQ]; exact aP7 _
  ·exact hI.ti
  ·refine vC he hsm fun r hr=>?_
   rw[aPA,aOM] at hr;rcases hr with hr|rfl
   ·exact tG he hsm r hr
   ·exact⟨(fun u hu=>by cases hu),aP7 _⟩
 |run hk ho hn1 he hr =>
  have e:(dep l[i]).toNat=3:=by rw[hk]; rfl
  rw[e];obtain⟨p1,p2⟩:=path 3 (by rw[hk]; rfl) (tl 3 _ rfl ho)
  have ea:(dP d l[i]).2=rN d (bK (cT d) (fP d++[LT l[i]])):=by unfold dP; rw[if_neg (by rw[hn1]; decide),if_neg (by rw[hn1]; decide),if_neg (by rw[hn1]; decide),if_neg (by rw[hn1]; decide),if_pos hn1]; rfl
  have er:=vB he (bK (cT d) (fP d++[LT l[i]]))
  have el:fP (rN d (bK (cT d) (fP d++[LT l[i]])))=fP d++[LT l[i]]:=by
   show aK (cT _) []=_;rw[er,Go.W.jN _ _ _ hr]
  rw[ea];refine⟨Or.inr (Or.inr (Or.inr (Or.inr (Or.inr (Or.inl ⟨by rw[ho,hn1]; rfl,zZ he _,by rw[er]; exact HH hr _,by rw[el]; exact UQ _ _,by rw[el,iQ]; rfl⟩))))),fun k=>by omega,fun _=>by rw[aOO]; exact p2,p1,?_,?_,?_,?_,?_,?_,hI.cm⟩
  ·exact aOW h1
  ·show(bK (eL d) _).length≤_; rw[mO]; omega
  ·rw[er,mO]; omega
  ·rw[el,aOG]; simp only[aOX,aPF]; omega
  ·exact hI.ti
  ·refine vC he hsm fun r hr2=>?_
   rcases wU hr2 with hr2|hr2
   ·exact tG he hsm r hr2
   ·subst hr2
    have ho':smR (bkL wtN (l.take (i+1))) (fP d):=tG he hsm _ (tF hr [])
    refine⟨fun u hu=>?_,?_⟩
    ·rw[aPA,aOM] at hu;rcases hu with hu|rfl
     ·exact ho'.1 u hu
     ·exact⟨aP7 _,tA hn _⟩
    ·rw[wS]
     have:tot [LT l[i]]=0:=rfl
     rw[this];exact ho'.2
 |tx hk ho hn1 he hr hu ht =>
  have e:(dep l[i]).toNat=4:=by rw[hk]; rfl
  rw[e];obtain⟨p1,p2⟩:=path 4 (by rw[hk]; rfl) (by rw[ho]; simp)
  have ea:(dP d l[i]).2=rN d (bK (cT d) (bK (fP d) (l[i].2.1,(aK (fP d) HA).2))):=by unfold dP; rw[if_neg (by rw[hn1]; decide),if_neg (by rw[hn1]; decide),if_neg (by rw[hn1]; decide),if_neg (by rw[hn1]; decide),if_neg (by rw[hn1]; decide)]; rfl
  have er:=vB he (bK (cT d) (bK (fP d) (l[i].2.1,(aK (fP d) HA).2)))
  have el:fP (rN d (bK (cT d) (bK (fP d) (l[i].2.1,(aK (fP d) HA).2))))=bK (fP d) (l[i].2.1,(aK (fP d) HA).2):=by
   show aK (cT _) []=_;rw[er,Go.W.jN _ _ _ hr]
  rw[ea];refine⟨Or.inr (Or.inr (Or.inr (Or.inr (Or.inr (Or.inr ⟨by rw[ho,hn1]; rfl,zZ he _,by rw[er]; exact HH hr _,by rw[el]; exact HH hu _⟩))))),fun k=>by omega,fun _=>by rw[aOO]; exact p2,p1,?_,?_,?_,?_,?_,?_,hI.cm⟩
  ·exact aOW h1
  ·show(bK (eL d) _).length≤_; rw[mO]; omega
  ·rw[er,mO]; omega
  ·rw[el,mO]; omega
  ·exact hI.ti
  ·refine vC he hsm fun r hr2=>?_
   rcases wU hr2 with hr2|hr2
   ·exact tG he hsm r hr2
   ·subst hr2
    have hmem:fP d∈cT d:=tF hr []
    have ho':=hI.small _ (tF he evY) _ hmem
    refine⟨fun u hu2=>?_,?_⟩
    ·rcases wU hu2 with hu2|rfl
     ·exact ho'.1 u hu2
     ·exact⟨hn.tx,(ho'.1 _ (tF hu HA)).2⟩
    ·have:=aBZ hu l[i].2.1 (aK (fP d) HA).2
     have h5:=ho'.2
     omega
theorem F7{l:List Nd}{i:Nat}{op:List Ln}{d:Doc}(hI:Inv l i op d) (hi:i≤4000000) (hb:bkL wtN (l.take i)≤4000000):rI d:=by
 have h1:=hI.rg
 have h2:=hI.ti
 refine⟨by omega,by omega,fun x hx r hr=>?_,fun c hc=>by rw[hI.cm] at hc; cases hc⟩
 have h:=hI.small x hx r hr
 exact⟨fun u hu=>by have:=h.1 u hu; omega,by have:=h.2; omega⟩
theorem V5(N:Nat) (n:Nd) (q:Ln) (b:Bool):q70 N (n,q,b)=some (HE n q b):=by
 unfold q70 HE;dsimp only
 by_cases h1:q=[]
 ·rw[aE (sq h1),if_pos h1]
  by_cases h:n.1=[116,116]
  ·rw[sq h,decide_eq_true h]
  ·rw[sqf h,decide_eq_false h]
 rw[aD (sqf h1),if_neg h1]
 by_cases h2:q=[116,116]
 ·rw[aE (sq h2),if_pos h2]
  by_cases c1:n.1=[112]
  ·rw[aE (sq c1),if_pos c1]
  ·rw[aD (sqf c1),if_neg c1]
   by_cases c2:n.1=[114,101,103,105,111,110]
   ·rw[aE (sq c2),if_pos c2]
   ·rw[aD (sqf c2),if_neg c2]
 rw[aD (sqf h2),if_neg h2]
 by_cases h3:q=[112]
 ·rw[aE (sq h3),if_pos h3]
  by_cases h:n.1=[114,111,119]
  ·rw[sq h,decide_eq_true h]
  ·rw[sqf h,decide_eq_false h]
 rw[aD (sqf h3),if_neg h3]
 by_cases h4:q=[114,111,119]
 ·rw[aE (sq h4),if_pos h4]
  by_cases h:n.1=[114,117,110]
  ·rw[sq h,decide_eq_true h]
  ·rw[sqf h,decide_eq_false h]
 rw[aD (sqf h4),if_neg h4]
 by_cases h5:q=[114,117,110]
 ·rw[aE (sq h5),if_pos h5]
  by_cases h:n.1=[]
  ·rw[sq h,decide_eq_true h]
  ·rw[sqf h,decide_eq_false h]
 rw[aD (sqf h5),if_neg h5]
theorem aB0(a b:Int):ieq a b=decide (a=b):=by
 by_cases h:a=b
 ·rw[iN h,decide_eq_true h]
 ·rw[lS h,decide_eq_false h]
theorem aFO(d:Doc):ieq (len d.2.2.2.2.2.2.1) 0=noE d:=by
 rw[aB0];unfold noE;rw[aPK,decide_eq_true_eq,decide_eq_true_eq];simp only[len];omega
theorem UR{l:List Nd}(hs:∀n∈l,smN n) (hb:bkL wtN l≤4000000):q93 fuelH l=some (rO l):=by
 have hfu:=bA
 have hl:l.length≤4000000:=aPX (UD (f:=wtN) (fun n=>by unfold wtN; omega) l) hb
 unfold q93 rO;rw[bG (S5 hl hs)]
 by_cases hc:rJ l=0
 ·have hck:=(GV hc).2.2
  have h8:=(GV hc).2.1
  have hd:=YJ hck
  rw[aD (fB hc),if_neg (by simpa using hc)];simp only[U8,U7];rw[cI]
  have h:=jR (R:=Doc×Int×Int) (s:=l) (F:=fun v4 (v5:(List Ln)×Int×Doc) =>
   cnd (ilt v5.2.1 (len l))
    (grd (inb v5.2.1 (len l))
     (grd (in2 (aA l (toN v5.2.1) zN).2.2.2 (ofN (kQ v5.1)))
      (jn (fun (v6:Ln) =>
       bnd (q70 fuelH (aA l (toN v5.2.1) zN,v6,ieq (len v5.2.2.2.2.2.2.2.2.1) (0:Int))) fun v7 =>
       cnd (bS v7)
        (some ((([]:Ln),([]:Ln),(0:UInt8),false,(0:Int),([]:List Reg),([]:List Ev),([]:List Cmt)),v5.2.1,(4:Int)))
        (bnd (q73 fuelH (aA l (toN v5.2.1) zN)) fun v8 =>
        cnd (bS v8)
         (some ((([]:Ln),([]:Ln),(0:UInt8),false,(0:Int),([]:List Reg),([]:List Ev),([]:List Cmt)),v5.2.1,(4:Int)))
         (bnd (kH fuelH (v5.2.2,aA l (toN v5.2.1) zN)) fun v9 =>
         cnd (ine v9.1 (0:Int))
          (some ((([]:Ln),([]:Ln),(0:UInt8),false,(0:Int),([]:List Reg),([]:List Ev),([]:List Cmt)),v5.2.1,v9.1))
          (grd (cW (aF (ofN (toN (aA l (toN v5.2.1) zN).2.2.2)) (len ([(aA l (toN v5.2.1) zN).1]:List Ln))) 16)
           (v4 (bR (cJ (toN (aA l (toN v5.2.1) zN).2.2.2) v5.1) ([(aA l (toN v5.2.1) zN).1]:List Ln),w64 (aF v5.2.1 (1:Int)),v9.2))))))
      fun v10 =>
      cnd (ilt (0:Int) (aA l (toN v5.2.1) zN).2.2.2)
       (grd (inb (w64 (aJ (aA l (toN v5.2.1) zN).2.2.2 (1:Int))) (ofN (toN (aA l (toN v5.2.1) zN).2.2.2)))
        (v10 (aA v5.1 (lF 0 (toN (w64 (aJ (aA l (toN v5.2.1) zN).2.2.2 (1:Int))))) [])))
       (v10 ([]:Ln)))))
    (bnd (q48 fuelH v5.2.2) fun v2 =>
     cnd (ine v2 (0:Int))
      (some ((([]:Ln),([]:Ln),(0:UInt8),false,(0:Int),([]:List Reg),([]:List Ev),([]:List Cmt)),(0:Int),v2))
      (some (v5.2.2,(0:Int),(0:Int)))))
   (fun (a:List Ln×Doc) (j:Nat)=>(a.1,(j:Int),a.2)) (fun a r=>some (goS (l.length-r.length) a.1 a.2 r)) (fun j a=>Inv l j a.1 a.2) ?_ fuelH 0 ([],oN) (by omega) (aP7 _) (aM2 l)
  ·refine aP9 h ?_;rw[aPM,aP3]
  ·intro self a j hj hI hself
   by_cases hjl:j<l.length
   ·have hin:inb (j:Int) (len l)=true:=bH (by simp only[len]; omega)
    have hw:w64 (aF (j:Int) 1)=((j+1:Nat):Int):=aX hjl (by omega)
    have hn:=hs _ (aO8 hjl)
    have hu:=HF (hck j hjl)
    have hdep:=YT hd hjl hI
    have hdle:0≤dep l[j]∧dep l[j]≤(a.1.length:Int)∧dep l[j]≤15:=by
     have:=hd.high j hjl
     rcases hdep with⟨_,k⟩|⟨_,k1,k2,_⟩
     ·omega
     ·omega
    dsimp only;rw[aE (bC (by simp only[len]; omega)),aG hin,CP hjl,hw]
    have hdd:l[j].2.2.2=dep l[j]:=rfl
    rw[hdd]
    have hon:ofN (kQ a.1)=(a.1.length:Int):=rfl
    rw[hon,aG (yX (by omega)),aNE hjl]
    have e1:l.length-(l[j]::l.drop (j+1)).length=j:=by rw[aOX,aO1]; omega
    rw[e1];unfold goS
    have hofN:ofN (toN (dep l[j]))=dep l[j]:=by simp[ofN,toN]; omega
    have par:∀k:Ln→Option (Doc×Int×Int),jn k (fun k=>cnd (ilt 0 (dep l[j])) (grd (inb (w64 (aJ (dep l[j]) 1)) (ofN (toN (dep l[j])))) (k (aA a.1 (lF 0 (toN (w64 (aJ (dep l[j]) 1)))) []))) (k []))=k (oM a.1 l[j]):=by
     intro k;rw[cI];unfold oM
     by_cases h0:0<dep l[j]
     ·have hw2:w64 (aJ (dep l[j]) 1)=dep l[j] - 1:=by simp only[aJ]; rw[cR (by omega)]
      rw[aE (bC h0),if_pos h0,hw2,hofN,aG (bH (by omega))];congr 1
      have e2:lF 0 (toN (dep l[j] - 1))=(dep l[j]).toNat-1:=by
       have:toN (dep l[j] - 1)=(dep l[j]).toNat-1:=by simp only[toN]; omega
       rw[this];show 0+_=_;omega
      rw[e2];rfl
     ·rw[aD (bB h0),if_neg h0]
    rw[par];rw[aFO,V5,aB];unfold okN
    cases hf:HE l[j] (oM a.1 l[j]) (noE a.2) with
    |false=>rw[aE (by rfl),aPP,if_pos rfl]; rfl
    |true =>
     have hx:=aME hc hjl hI hf
     rw[aD (by rfl),AQ hn hu,aB,aPU]
     cases ha:tC l[j] with
     |false=>rw[aE (by rfl),if_pos rfl]; rfl
     |true =>
      rw[aD (by rfl),if_neg (by simp),aFM hn hu ha (aBY (by omega) hI hx),aB]
      by_cases he:(dP a.2 l[j]).1=0
      ·have htk:toN (dep l[j])=(dep l[j]).toNat:=rfl
       rw[aD (fB he),if_neg (by simpa using he),hofN,aG (dW (by simp only[aF,len,aOX,aPF]; omega)),htk];refine(hself (a.1.take (dep l[j]).toNat++[l[j].1],(dP a.2 l[j]).2) (j+1) (by omega) (by omega) (V4 hs hjl hI hx)).trans ?_
       have e3:l.length-(l.drop (j+1)).length=j+1:=by rw[aO1]; omega
       rw[e3]
      ·rw[aE (dF he),if_pos (by simpa using he)];rfl
   ·obtain rfl:j=l.length:=by omega
    have hsm:=F7 hI hl (by rw[aO4]; exact hb)
    dsimp only;rw[aD (bB (by simp only[len]; omega)),aO7,bG (gM hsm)];unfold goS aFN
    by_cases h:bW a.2=0
    ·rw[aD (fB h),if_neg (by simpa using h)]
    ·rw[aE (dF h),if_pos h];rfl
 ·rw[aE (dF hc),if_pos hc];rfl
theorem CU(a:Nat) (l:Y_) (c:UInt8):gP a (l++[c])=gP a l*10+(c.toNat-48):=by
 unfold gP;rw[List.foldl_append,List.foldl_cons,List.foldl_nil];rfl
theorem tH{k:Nat}(h:k<10):(UInt8.ofNat (48+k)).toNat=48+k:=by
 rw[UInt8.toNat_ofNat'];exact Nat.mod_eq_of_lt (by omega)
theorem LU{k:Nat}(h:k<10):pS (UInt8.ofNat (48+k))=true:=by
 unfold pS n8;rw[tH h];exact decide_eq_true ⟨by omega,by omega⟩
theorem US(n u:Nat):eI (n+1) u []=if 10≤u then eI n (u / 10) []++[UInt8.ofNat (48+u%10)] else [UInt8.ofNat (48+u)]:=by
 show aO (Nat.ble 10 u) (eI n (u / 10) [UInt8.ofNat (48+u%10)]) [UInt8.ofNat (48+u)]=_
 by_cases h:10≤u
 ·rw[if_pos h,Nat.ble_eq_true_of_le h,uV n (u / 10) [UInt8.ofNat (48+u%10)]];rfl
 ·have:Nat.ble 10 u=false:=by
   cases e:Nat.ble 10 u with
   |false=>rfl
   |true=>exact absurd (aNR e) h
  rw[if_neg h,this];rfl
theorem vD:∀(n u:Nat),0<n→u<10^n→gP 0 (eI n u [])=u∧(∀c∈eI n u [],pS c=true)∧eI n u []≠[]∧(1≤u→(eI n u []).headD 0≠48):=by
 intro n
 induction n with
 |zero=>intro u h; omega
 |succ n ih =>
  intro u _ hu;rw[US]
  by_cases h:10≤u
  ·rw[if_pos h]
   have hn:0<n:=by
    cases n with
    |zero=>simp at hu; omega
    |succ n=>omega
   obtain⟨i1,i2,i3,i4⟩:=ih (u / 10) hn (by rw[Nat.pow_succ] at hu; omega)
   have hm:u%10<10:=Nat.mod_lt _ (by omega)
   refine⟨?_,?_,by simp,fun _=>?_⟩
   ·rw[CU,i1,tH hm]; omega
   ·intro c hc;rw[aPA,aOM] at hc;rcases hc with hc|rfl
    ·exact i2 c hc
    ·exact LU hm
   ·have:=i4 (by omega)
    cases e:eI n (u / 10) [] with
    |nil=>exact absurd e i3
    |cons c t=>rw[e] at this; exact this
  ·rw[if_neg h]
   have hlt:u<10:=by omega
   refine⟨?_,?_,by simp,fun h1=>?_⟩
   ·have:=CU 0 [] (UInt8.ofNat (48+u))
    rw[aPG,zX,tH hlt] at this;omega
   ·intro c hc;rw[aOM] at hc;rw[hc];exact LU hlt
   ·show UInt8.ofNat (48+u)≠48;intro k
    have:=congrArg UInt8.toNat k
    rw[tH hlt] at this
    have e48:(48:UInt8).toNat=48:=rfl
    omega
theorem AA{n:Int}(h0:0≤n):dI n=eI 20 n.toNat []:=by
 obtain⟨k,rfl⟩:∃k:Nat,n=(k:Int):=⟨n.toNat,by omega⟩;rfl
theorem pF{n:Int}(h0:0≤n) (h1:n≤9223372036854775807):dI n≠[]:=by
 rw[AA h0];exact(vD 20 n.toNat (by omega) (by omega)).2.2.1
theorem kP{n hi:Int}(h0:0≤n) (h1:n≤9223372036854775807) (h2:n≤hi):F4 (dI n) hi=(n,0):=by
 rw[AA h0];obtain⟨e1,e2,e3,e4⟩:=vD 20 n.toNat (by omega) (by omega)
 have hz:n.toNat=0→eI 20 n.toNat []=[48]:=fun h=>by rw[h]; rfl
 generalize eI 20 n.toNat []=s at *
 have hh:s.head?≠some 45:=by
  intro k
  cases s with
  |nil=>cases k
  |cons c t =>
   have:c=45:=by simpa using k
   have hd:=e2 c aOK
   rw[this] at hd;exact absurd hd (by decide)
 unfold F4 U0;rw[if_neg hh,if_neg e3]
 have h48:¬(s.headD 0=48∧(1<s.length∨(false:Bool)=true)):=by
  intro k
  have hl:1<s.length:=k.2.resolve_right (by simp)
  by_cases hn:n.toNat=0
  ·rw[hz hn] at hl; simp at hl
  ·exact e4 (by omega) k.1
 have hany:s.any (fun c=>!pS c)=false:=by
  rw[List.any_eq_false];intro c hc;rw[e2 c hc];simp
 rw[if_neg h48,hany,if_neg nft,if_neg nft,e1,if_neg (by omega)]
 have:((n.toNat:Nat):Int)=n:=by omega
 rw[this]
theorem LV{n:Int}(h0:0≤n) (h2:n≤5184000):aBS (dI n++[102])=(n,0):=by
 unfold aBS;rw[List.getLast?_concat,if_pos rfl,List.dropLast_concat];exact kP h0 (by omega) h2
theorem CV(name:Ln):∀l:List At,name ∉ l.map Prod.fst→bI name l=([],false)
 | [],_=>rfl
 |a::l,h=>by
  simp only[aPS,aPR,not_or] at h;unfold bI;rw[if_neg (fun k=>h.1 k.symm)];exact CV name l h.2
theorem mP:∀(l:List At) (x:Ln),x∈(eJ l).map Prod.fst→x∈l.map Prod.fst
 | [],x,h=>h
 |a::l,x,h=>by
  have e:eJ (a::l)=jA a++eJ l:=rfl
  rw[e,aPJ,aPA] at h;rw[aPS,aPR];rcases h with h|h
  ·unfold jA at h
   split at h
   ·cases h
   ·exact Or.inl (by simpa using h)
  ·exact Or.inr (mP l x h)
theorem AB(name:Ln):∀l:List At,(l.map Prod.fst).Nodup→bI name (eJ l)=if(bI name l).1=[] then([],false) else((bI name l).1,true)
 | [],_=>rfl
 |a::l,h=>by
  rw[aPS,List.nodup_cons] at h
  have ih:=AB name l h.2
  have e:eJ (a::l)=jA a++eJ l:=rfl
  rw[e];unfold jA
  by_cases h1:a.2=[]
  ·rw[if_pos h1,aPG]
   by_cases h2:a.1=name
   ·have:name ∉ (eJ l).map Prod.fst:=fun k=>h.1 (h2 ▸ mP l name k)
    have e2:bI name (a::l)=(a.2,true):=by unfold bI; rw[if_pos h2]
    rw[CV name _ this,e2,h1,if_pos rfl]
   ·have e2:bI name (a::l)=bI name l:=by
     show(if a.1=name then _ else _)=_;rw[if_neg h2]
    rw[e2];exact ih
  ·rw[if_neg h1]
   by_cases h2:a.1=name
   ·have e2:bI name (a::l)=(a.2,true):=by unfold bI; rw[if_pos h2]
    rw[e2,if_neg h1];show(if a.1=name then _ else _)=_;rw[if_pos h2]
   ·have e2:bI name (a::l)=bI name l:=by
     show(if a.1=name then _ else _)=_;rw[if_neg h2]
    rw[e2,←ih];show(if a.1=name then _ else bI name (eJ l))=_;rw[if_neg h2]
theorem AC:∀l:List At,(l.map Prod.fst).Nodup→((eJ l).map Prod.fst).Nodup
 | [],h=>h
 |a::l,h=>by
  rw[aPS,List.nodup_cons] at h
  have ih:=AC l h.2
  have e:eJ (a::l)=jA a++eJ l:=rfl
  rw[e];unfold jA
  split
  ·exact ih
  ·show(a.1::(eJ l).map Prod.fst).Nodup;rw[List.nodup_cons];exact⟨fun k=>h.1 (mP l _ k),ih⟩
theorem rP{k:Int}{n:Ln}{l:List At}(h:(l.map Prod.fst).Nodup) (name:Ln):dU (elQ k n l) name=(bI name l).1∧rL (elQ k n l) name=decide ((bI name l).1≠[]):=by
 have:=AB name l h
 constructor
 ·show(bI name (eJ l)).1=_;rw[this]
  by_cases e:(bI name l).1=[]
  ·rw[if_pos e,e]
  ·rw[if_neg e]
 ·show(bI name (eJ l)).2=_;rw[this]
  by_cases e:(bI name l).1=[]
  ·rw[if_pos e,decide_eq_false (by simpa using e)]
  ·rw[if_neg e,decide_eq_true e]
theorem HI{k:Int}{n:Ln}{l:List At}(h:(l.map Prod.fst).Nodup) (h1:∀x∈l.map Prod.fst,x∈rM n) (h2:∀w∈gN n,(bI w l).1≠[]):tC (elQ k n l)=true:=by
 unfold tC;rw[aOY,aO6,aO6];refine⟨fun a ha=>?_,fun w hw=>?_⟩
 ·rw[aNY];exact h1 _ (mP l _ (List.mem_map_of_mem ha))
 ·rw[aNY];refine(uZ w _).1 ?_
  have:=(rP (k:=k) (n:=n) h w).2
  rw[decide_eq_true (h2 w hw)] at this;exact this
theorem F8{r:UInt8}(h:1≤n8 r∧n8 r≤7):UO (mA r)=(r,0)∧mA r≠[]:=by
 have:=of_decide_eq_true (eE (P:=fun r=>decide (1≤n8 r∧n8 r≤7→UO (mA r)=(r,0)∧mA r≠[])) (by rfl) r)
 exact this h
theorem F9{k:UInt8}(h:1≤n8 k∧n8 k≤4):wC (pQ k)=(k,0)∧pQ k≠[]:=by
 have:=of_decide_eq_true (eE (P:=fun r=>decide (1≤n8 r∧n8 r≤4→wC (pQ r)=(r,0)∧pQ r≠[])) (by rfl) k)
 exact this h
def chV(tab:List Ln) (v:Ln):Int×Int:=if v=[] then(0,0) else match F5 tab v with|some i=>((i:Int),0)|none=>(0,4)
theorem CW{k:Int}{n:Ln}{l:List At}(h:(l.map Prod.fst).Nodup) (tab:List Ln) (name:Ln):chT tab (elQ k n l) name=chV tab (bI name l).1:=by
 unfold chT chV;rw[(rP h name).1,(rP h name).2]
 by_cases e:(bI name l).1=[]
 ·rw[if_pos (by simpa using e),if_pos e]
 ·rw[if_neg (by simpa using e),if_neg e]<;>rfl
theorem UT{c:UInt8}(h:n8 c≤6):b8 (chV gl1 (zR c)).1=c∧(chV gl1 (zR c)).2=0:=by
 have:=of_decide_eq_true (eE (P:=fun c=>decide (n8 c≤6→b8 (chV gl1 (zR c)).1=c∧(chV gl1 (zR c)).2=0)) (by rfl) c)
 exact this h
theorem UU{a:UInt8}(h:1≤n8 a∧n8 a≤3):b8 (w64 (aF (chV gl0 (pR a)).1 1))=a∧(chV gl0 (pR a)).2=0∧pR a≠[]:=by
 have:=of_decide_eq_true (eE (P:=fun a=>decide (1≤n8 a∧n8 a≤3→b8 (w64 (aF (chV gl0 (pR a)).1 1))=a∧(chV gl0 (pR a)).2=0∧pR a≠[])) (by rfl) a)
 exact this h
theorem LW(b:Bool):ieq (chV [[84,79,80],[66,79,84,84,79,77]] (if b then [66,79,84,84,79,77] else [84,79,80])).1 1=b∧(chV [[84,79,80],[66,79,84,84,79,77]] (if b then [66,79,84,84,79,77] else [84,79,80])).2=0∧(if b then [66,79,84,84,79,77] else [84,79,80]:Ln)≠[]:=by
 cases b
 ·exact⟨by rfl,by rfl,by decide⟩
 ·exact⟨by rfl,by rfl,by decide⟩
theorem vE(b:Bool):ieq (chV [[48],[49]] (GS b)).1 1=b∧(chV [[48],[49]] (GS b)).2=0:=by cases b<;>exact⟨by rfl,by rfl⟩
abbrev Hd5:=Ln×Ln×UInt8×Bool×Int
def mkD(h:Hd5) (rs:List Reg) (evs:List Ev):Doc:=(h.1,h.2.1,h.2.2.1,h.2.2.2.1,h.2.2.2.2,rs,evs,[])
def dE(h:Hd5) (rs:List Reg) (es:List Ev) (e:Ev) (rows:List Row):Doc:=mkD h rs (es++[(e.1,e.2.1,e.2.2.1,e.2.2.2.1,e.2.2.2.2.1,rows)])
theorem AD(h:Hd5) (rs:List Reg) (es:List Ev) (e:Ev) (rows:List Row):cT (dE h rs es e rows)=rows:=by
 show(aK (es++[_]) evY).2.2.2.2.2=rows;rw[iQ]
theorem HJ(h:Hd5) (rs:List Reg) (es:List Ev) (e:Ev) (rows rows':List Row):rN (dE h rs es e rows) rows'=dE h rs es e rows':=by
 unfold rN dE mkD;dsimp only;rw[iQ,kO]
theorem pG{i:Nat}{op:List Ln}{d d':Doc}{n:Nd}{r:List Nd}(h1:okN op d n=true) (h2:dP d n=(0,d')):goS i op d (n::r)=goS (i+1) (op.take (dep n).toNat++[n.1]) d' r:=by
 have e:goS i op d (n::r)=if okN op d n=false then(oN,(i:Int),4) else if(dP d n).1≠0 then(oN,(i:Int),(dP d n).1) else goS (i+1) (op.take (dep n).toNat++[n.1]) (dP d n).2 r:=rfl
 rw[e,h1,if_neg (by simp),h2,if_neg (by simp)]
theorem tI{α:Type}{P:List Ln→Prop}{Q:α→Prop}{g:α→List Nd}{D:List α→Doc}(hs:∀x i op acc r,Q x→P op→∃i' op',P op'∧goS i op (D acc) (g x++r)=goS i' op' (D (acc++[x])) r) :
  ∀(l:List α) (acc:List α) (i:Nat) (op:List Ln) (r:List Nd),(∀x∈l,Q x)→P op→∃i' op',P op'∧goS i op (D acc) (l.flatMap g++r)=goS i' op' (D (acc++l)) r
 | [],acc,i,op,r,_,hp=>⟨i,op,hp,by simp⟩
 |x::l,acc,i,op,r,hq,hp=>by
  obtain⟨i1,op1,p1,e1⟩:=hs x i op acc (l.flatMap g++r) (hq x aOK) hp;obtain⟨i2,op2,p2,e2⟩:=tI hs l (acc++[x]) i1 op1 r (fun y hy=>hq y (aN1 _ hy)) p1;refine⟨i2,op2,p2,?_⟩;rw[List.flatMap_cons,aOQ,e1,e2,aOQ];rfl
theorem LX{op:List Ln}{d:Doc}{n:Nd}(h1:HE n (oM op n) (noE d)=true) (h2:tC n=true):okN op d n=true:=by unfold okN; rw[h1,h2]; rfl
theorem pH{op z:List Ln}{k:Nat}(h:op.take (k+1)=z) (hz:z.length=k+1):op.getD k []=z.getD k []:=by
 rw[←h,aNA,aNA,List.getElem?_take_of_lt (by omega)]
theorem CX(u:Run):((iU u).map Prod.fst).Nodup:=(by decide:([[99,111,108,111,114],[105,116,97,108,105,99],[117,110,100,101,114,108,105,110,101],[114,117,98,121]]:List Ln).Nodup)
theorem aFP(h:Hd5) (rs:List Reg) (es:List Ev) (e:Ev) (rows:List Row) (u:Run) (i:Nat) (op:List Ln) (acc:List Run) (r:List Nd) (hu:n8 u.2.1.1≤6) (hp:op.take 3=[[116,116],[112],[114,111,119]]) :
  ∃i' op',op'.take 3=[[116,116],[112],[114,111,119]]∧goS i op (dE h rs es e (rows++[acc])) (runN u++r)=goS i' op' (dE h rs es e (rows++[acc++[u]])) r:=by
 have hn:=CX u
 have e1:runN u++r=elQ 3 [114,117,110] (iU u)::(([],u.1,[],4):Nd)::r:=rfl
 have a1:okN op (dE h rs es e (rows++[acc])) (elQ 3 [114,117,110] (iU u))=true:=by
  refine LX ?_ (HI hn (fun x hx=>hx) (fun w hw=>by cases hw))
  have:oM op (elQ 3 [114,117,110] (iU u))=[114,111,119]:=(pH (k:=2) hp rfl)
  rw[this];rfl
 have v:∀w,dU (elQ 3 [114,117,110] (iU u)) w=(bI w (iU u)).1:=fun w=>(rP hn w).1
 have hc:=UT hu
 have hi:=vE u.2.1.2.1
 have hud:=vE u.2.1.2.2
 have fc:AO (elQ 3 [114,117,110] (iU u))=(u.2.1.1,0):=by
  unfold AO;rw[CW hn];exact Prod.ext hc.1 hc.2
 have fi:flT (elQ 3 [114,117,110] (iU u)) [105,116,97,108,105,99]=(u.2.1.2.1,0):=by
  unfold flT;rw[CW hn];exact Prod.ext hi.1 hi.2
 have fu:flT (elQ 3 [114,117,110] (iU u)) [117,110,100,101,114,108,105,110,101]=(u.2.1.2.2,0):=by
  unfold flT;rw[CW hn];exact Prod.ext hud.1 hud.2
 have a2:dP (dE h rs es e (rows++[acc])) (elQ 3 [114,117,110] (iU u))=(0,dE h rs es e (rows++[acc++[([],u.2.1,u.2.2)]])):=by
  have:dP (dE h rs es e (rows++[acc])) (elQ 3 [114,117,110] (iU u))=CS (dE h rs es e (rows++[acc])) (elQ 3 [114,117,110] (iU u)):=rfl
  rw[this];unfold CS LT;rw[fc,fi,fu,v,HJ];unfold fP;rw[AD,iQ,kO];rfl
 rw[e1,pG a1 a2]
 have ho:op.take (dep (elQ 3 [114,117,110] (iU u))).toNat++[(elQ 3 [114,117,110] (iU u)).1]=[[116,116],[112],[114,111,119],[114,117,110]]:=by
  show op.take 3++[[114,117,110]]=_;rw[hp]; rfl
 rw[ho]
 have b2:dP (dE h rs es e (rows++[acc++[([],u.2.1,u.2.2)]])) (([],u.1,[],4):Nd)=(0,dE h rs es e (rows++[acc++[u]])):=by
  have:dP (dE h rs es e (rows++[acc++[([],u.2.1,u.2.2)]])) (([],u.1,[],4):Nd)=CT (dE h rs es e (rows++[acc++[([],u.2.1,u.2.2)]])) (([],u.1,[],4):Nd):=rfl
  rw[this];unfold CT fP;rw[HJ,AD,iQ,iQ,kO,kO]
 exact⟨i+1+1,_,by rfl,pG (by rfl) b2⟩
theorem aFQ(h:Hd5) (rs:List Reg) (es:List Ev) (e:Ev) (row:Row) (i:Nat) (op:List Ln) (acc:List Row) (r:List Nd) (hu:∀u∈row,n8 u.2.1.1≤6) (hp:op.take 2=[[116,116],[112]]) :
  ∃i' op',op'.take 2=[[116,116],[112]]∧goS i op (dE h rs es e acc) (rowN row++r)=goS i' op' (dE h rs es e (acc++[row])) r:=by
 have e1:rowN row++r=elQ 2 [114,111,119] []::(row.flatMap runN++r):=rfl
 have a1:okN op (dE h rs es e acc) (elQ 2 [114,111,119] [])=true:=by
  refine LX ?_ (by rfl)
  have:oM op (elQ 2 [114,111,119] [])=[112]:=(pH (k:=1) hp rfl)
  rw[this];rfl
 have a2:dP (dE h rs es e acc) (elQ 2 [114,111,119] [])=(0,dE h rs es e (acc++[[]])):=by
  have:dP (dE h rs es e acc) (elQ 2 [114,111,119] [])=(0,rN (dE h rs es e acc) (cT (dE h rs es e acc)++[[]])):=rfl
  rw[this,HJ,AD]
 rw[e1,pG a1 a2]
 have ho:op.take (dep (elQ 2 [114,111,119] [])).toNat++[(elQ 2 [114,111,119] []).1]=[[116,116],[112],[114,111,119]]:=by
  show op.take 2++[[114,111,119]]=_;rw[hp]; rfl
 rw[ho];obtain⟨i',op',p',e'⟩:=tI (P:=fun op=>op.take 3=[[116,116],[112],[114,111,119]]) (Q:=fun u:Run=>n8 u.2.1.1≤6) (g:=runN) (D:=fun us=>dE h rs es e (acc++[us])) (fun u i op us r hq hp=>aFP h rs es e acc u i op us r hq hp) row [] (i+1) [[116,116],[112],[114,111,119]] r hu rfl;refine⟨i',op',?_,e'⟩
 have:=congrArg (List.take 2) p'
 rw[List.take_take] at this;exact this
theorem aB1{x:Ev}{rs:List Reg}(h:lV x rs=0):1≤n8 x.2.2.2.1∧n8 x.2.2.2.1≤4:=by
 unfold lV at h
 split at h
 ·cases h
 split at h
 ·cases h
 split at h
 ·cases h
 split at h
 ·cases h
 split at h
 ·cases h
 ·rename_i hk;exact Decidable.of_not_not hk
structure EvQ (e:Ev):Prop where
 id:1≤e.1∧e.1≤1099511627776
 sp:0≤e.2.1.1∧e.2.1.1≤5184000∧0≤e.2.1.2∧e.2.1.2≤5184000
 kd:1≤n8 e.2.2.2.1∧n8 e.2.2.2.1≤4
 co:∀l∈e.2.2.2.2.2,∀u∈l,n8 u.2.1.1≤6
theorem LY(e:Ev):((evA e).map Prod.fst).Nodup:=(by decide:([[105,100],[105,110],[111,117,116],[114,101,103,105,111,110],[107,105,110,100],[115,112,101,97,107,101,114]]:List Ln).Nodup)
theorem aMF(h:Hd5) (rs:List Reg) (e:Ev) (i:Nat) (op:List Ln) (acc:List Ev) (r:List Nd) (he:EvQ e) (hp:op.take 1=[[116,116]]) :
  ∃i' op',op'.take 1=[[116,116]]∧goS i op (mkD h rs acc) (evN e++r)=goS i' op' (mkD h rs (acc++[e])) r:=by
 have hn:=LY e
 obtain⟨i1,i2⟩:=he.id;obtain⟨s1,s2,s3,s4⟩:=he.sp
 have hk:=F9 he.kd
 have e1:evN e++r=elQ 1 [112] (evA e)::(e.2.2.2.2.2.flatMap rowN++r):=rfl
 have v:∀w,dU (elQ 1 [112] (evA e)) w=(bI w (evA e)).1:=fun w=>(rP hn w).1
 have a1:okN op (mkD h rs acc) (elQ 1 [112] (evA e))=true:=by
  refine LX ?_ (HI hn (fun x hx=>hx) (fun w hw=>?_))
  ·have:oM op (elQ 1 [112] (evA e))=[116,116]:=(pH (k:=0) hp rfl)
   rw[this];rfl
  ·have hw:w∈[[105,100],[105,110],[111,117,116],[107,105,110,100]]:=hw
   simp only[aPR,List.not_mem_nil,or_false] at hw;rcases hw with rfl|rfl|rfl|rfl
   ·exact pF (by omega) (by omega)
   ·show dI e.2.1.1++[102]≠[]; simp
   ·show dI e.2.1.2++[102]≠[]; simp
   ·exact hk.2
 have n1:fK (elQ 1 [112] (evA e)) [105,100] vQ=(e.1,0):=by
  unfold fK; rw[v]; exact kP (by omega) (by omega) (by unfold vQ; omega)
 have n2:mY (elQ 1 [112] (evA e)) [105,110]=(e.2.1.1,0):=by
  unfold mY; rw[v]; exact LV s1 s2
 have n3:mY (elQ 1 [112] (evA e)) [111,117,116]=(e.2.1.2,0):=by
  unfold mY; rw[v]; exact LV s3 s4
 have n4:wC (dU (elQ 1 [112] (evA e)) [107,105,110,100])=(e.2.2.2.1,0):=by rw[v]; exact hk.1
 have a2:dP (mkD h rs acc) (elQ 1 [112] (evA e))=(0,dE h rs acc e []):=by
  have:dP (mkD h rs acc) (elQ 1 [112] (evA e))=qB (mkD h rs acc) (elQ 1 [112] (evA e)):=rfl
  rw[this];unfold qB evT;rw[n1,n2,n3,n4,v,v];rfl
 rw[e1,pG a1 a2]
 have ho:op.take (dep (elQ 1 [112] (evA e))).toNat++[(elQ 1 [112] (evA e)).1]=[[116,116],[112]]:=by
  show op.take 1++[[112]]=_;rw[hp]; rfl
 rw[ho];obtain⟨i',op',p',e'⟩:=tI (P:=fun op=>op.take 2=[[116,116],[112]]) (Q:=fun l:Row=>∀u∈l,n8 u.2.1.1≤6) (g:=rowN) (D:=fun rows=>dE h rs acc e rows) (fun l i op rows r hq hp=>aFQ h rs acc e l i op rows r hq hp) e.2.2.2.2.2 [] (i+1) [[116,116],[112]] r he.co rfl;refine⟨i',op',?_,e'⟩
 have:=congrArg (List.take 1) p'
 rw[List.take_take] at this;exact this
theorem CY(g:Reg):((iV g).map Prod.fst).Nodup:=(by decide:([[110,97,109,101],[116,111,112],[104,101,105,103,104,116],[108,101,102,116],[119,105,100,116,104],[97,108,105,103,110],[97,110,99,104,111,114]]:List Ln).Nodup)
theorem aFR(h:Hd5) (g:Reg) (i:Nat) (op:List Ln) (acc:List Reg) (r:List Nd) (hg:dJ g=0) (hp:op.take 1=[[116,116]]) :
  ∃i' op',op'.take 1=[[116,116]]∧goS i op (mkD h acc []) (oJ g++r)=goS i' op' (mkD h (acc++[g]) []) r:=by
 have hn:=CY g
 obtain⟨q1,q2,q3,q4,q5,q6,q7⟩:=mB hg
 have e1:oJ g++r=elQ 1 [114,101,103,105,111,110] (iV g)::r:=rfl
 have v:∀w,dU (elQ 1 [114,101,103,105,111,110] (iV g)) w=(bI w (iV g)).1:=fun w=>(rP hn w).1
 have hal:=UU (a:=g.2.2.2.2.2.1) ⟨q6,q7⟩
 have han:=LW g.2.2.2.2.2.2
 have hnm:g.1≠[]:=fun k=>by rw[k] at q1; cases q1
 have a1:okN op (mkD h acc []) (elQ 1 [114,101,103,105,111,110] (iV g))=true:=by
  refine LX ?_ (HI hn (fun x hx=>hx) (fun w hw=>?_))
  ·have:oM op (elQ 1 [114,101,103,105,111,110] (iV g))=[116,116]:=(pH (k:=0) hp rfl)
   rw[this];rfl
  ·have hw:w∈[[110,97,109,101],[116,111,112],[104,101,105,103,104,116],[108,101,102,116],[119,105,100,116,104],[97,108,105,103,110],[97,110,99,104,111,114]]:=hw
   simp only[aPR,List.not_mem_nil,or_false] at hw;rcases hw with rfl|rfl|rfl|rfl|rfl|rfl|rfl
   ·exact hnm
   ·exact pF (by omega) (by omega)
   ·exact pF (by omega) (by omega)
   ·exact pF (by omega) (by omega)
   ·exact pF (by omega) (by omega)
   ·exact hal.2.2
   ·exact han.2.2
 have n1:fK (elQ 1 [114,101,103,105,111,110] (iV g)) [116,111,112] 32=(g.2.1,0):=by unfold fK; rw[v]; exact kP (by omega) (by omega) (by omega)
 have n2:fK (elQ 1 [114,101,103,105,111,110] (iV g)) [104,101,105,103,104,116] 32=(g.2.2.1,0):=by unfold fK; rw[v]; exact kP (by omega) (by omega) (by omega)
 have n3:fK (elQ 1 [114,101,103,105,111,110] (iV g)) [108,101,102,116] 32=(g.2.2.2.1,0):=by unfold fK; rw[v]; exact kP (by omega) (by omega) (by omega)
 have n4:fK (elQ 1 [114,101,103,105,111,110] (iV g)) [119,105,100,116,104] 32=(g.2.2.2.2.1,0):=by unfold fK; rw[v]; exact kP (by omega) (by omega) (by omega)
 have c1:chT gl0 (elQ 1 [114,101,103,105,111,110] (iV g)) [97,108,105,103,110]=chV gl0 (pR g.2.2.2.2.2.1):=CW hn gl0 [97,108,105,103,110]
 have c2:chT [[84,79,80],[66,79,84,84,79,77]] (elQ 1 [114,101,103,105,111,110] (iV g)) [97,110,99,104,111,114]=chV [[84,79,80],[66,79,84,84,79,77]] (if g.2.2.2.2.2.2 then [66,79,84,84,79,77] else [84,79,80]):=CW hn _ [97,110,99,104,111,114]
 have a2:dP (mkD h acc []) (elQ 1 [114,101,103,105,111,110] (iV g))=(0,mkD h (acc++[g]) []):=by
  have:dP (mkD h acc []) (elQ 1 [114,101,103,105,111,110] (iV g))=vR (mkD h acc []) (elQ 1 [114,101,103,105,111,110] (iV g)):=rfl
  rw[this];unfold vR aBV;rw[n1,n2,n3,n4,c1,c2,hal.1,hal.2.1,han.1,han.2.1,v];rfl
 rw[e1,pG a1 a2];refine⟨i+1,_,?_,rfl⟩;show(op.take 1++[[114,101,103,105,111,110]]).take 1=_;rw[hp]; rfl
theorem AE{d:Doc}(h:gL d=0):vld d.1=true∧d.1.length≤400∧(d.2.1=[]∨nm d.2.1=true)∧tvB d.2.2.1=true:=by
 unfold gL at h
 split at h
 ·cases h
 rename_i c1
 split at h
 ·cases h
 rename_i c2
 split at h
 ·cases h
 rename_i c3
 split at h
 ·cases h
 rename_i c4;refine⟨by simpa using c1,by omega,?_,?_⟩
 ·by_cases e:d.2.1=[]
  ·exact Or.inl e
  ·refine Or.inr ?_
   cases hn:nm d.2.1 with
   |true=>rfl
   |false=>exact absurd ⟨e,hn⟩ c3
 ·cases ht:tvB d.2.2.1 with
  |true=>rfl
  |false=>exact absurd (Or.inl ht) c4
theorem aFS:((List.range 256).all fun n=>decide (tvB (UInt8.ofNat n)=true→1≤n8 (UInt8.ofNat n)∧n8 (UInt8.ofNat n)≤7))=true:=by kernel_rfl
theorem aMG{r:UInt8}(h:tvB r=true):1≤n8 r∧n8 r≤7 :=
 of_decide_eq_true (eE (P:=fun r=>decide (tvB r=true→1≤n8 r∧n8 r≤7)) aFS r) h
theorem LZ(d:Doc):((kL d).map Prod.fst).Nodup:=(by decide:([[116,105,116,108,101],[108,97,110,103],[114,97,116,101],[100,114,111,112],[108,97,115,116]]:List Ln).Nodup)
def hdO(d:Doc):Hd5:=(d.1,d.2.1,d.2.2.1,d.2.2.2.1,d.2.2.2.2.1)
theorem aB2{d:Doc}(h:bW d=0) (r:List Nd):goS 0 [] oN (elQ 0 [116,116] (kL d)::r)=goS 1 [[116,116]] (mkD (hdO d) [] []) r:=by
 have hn:=LZ d
 obtain⟨_,_,_,h4⟩:=AE (jQ h).1;obtain⟨l1,l2⟩:=zS h
 have hr:=F8 (aMG h4)
 have hf:=vE d.2.2.2.1
 have v:∀w,dU (elQ 0 [116,116] (kL d)) w=(bI w (kL d)).1:=fun w=>(rP hn w).1
 have a1:okN [] oN (elQ 0 [116,116] (kL d))=true:=by
  refine LX (by rfl) (HI hn (fun x hx=>hx) (fun w hw=>?_))
  have hw:w∈([[114,97,116,101],[108,97,115,116]]:List Ln):=hw
  simp only[aPR,List.not_mem_nil,or_false] at hw;rcases hw with rfl|rfl
  ·exact hr.2
  ·exact pF l1 (by omega)
 have n1:fK (elQ 0 [116,116] (kL d)) [108,97,115,116] vQ=(d.2.2.2.2.1,0):=by
  unfold fK; rw[v]; exact kP l1 (by omega) (by unfold vQ; omega)
 have n2:UO (dU (elQ 0 [116,116] (kL d)) [114,97,116,101])=(d.2.2.1,0):=by rw[v]; exact hr.1
 have n3:flT (elQ 0 [116,116] (kL d)) [100,114,111,112]=(d.2.2.2.1,0):=by
  unfold flT;rw[CW hn];exact Prod.ext hf.1 hf.2
 have a2:dP oN (elQ 0 [116,116] (kL d))=(0,mkD (hdO d) [] []):=by
  have:dP oN (elQ 0 [116,116] (kL d))=tE oN (elQ 0 [116,116] (kL d)):=rfl
  rw[this];unfold tE;rw[n1,n2,n3,v,v];rfl
 exact pG a1 a2
theorem YU{d:Doc}(h:bW d=0):bW (wB d)=0:=by
 unfold bW at h
 split at h
 ·rename_i hc; exact absurd h hc
 rename_i c1
 split at h
 ·rename_i hc; exact absurd h hc
 rename_i c2
 split at h
 ·cases h
 rename_i c3
 split at h
 ·rename_i hc; exact absurd h hc
 rename_i c4
 have e1:gL (wB d)=gL d:=rfl
 have e2:rH (wB d)=rH d:=rfl
 have e3:pE (wB d)=0:=by
  unfold pE;rw[if_neg (by simp[wB])];rfl
 unfold bW;rw[e1,e2,e3,if_neg c1,if_neg (show ¬hY (wB d).2.2.2.2.2.1≠0 from c2),if_neg (show ¬400<(wB d).2.2.2.2.2.2.1.length from c3),if_neg c4]
theorem aFT{d:Doc}(h:bW d=0):∀e∈d.2.2.2.2.2.2.1,EvQ e:=fun e he=>by
 obtain⟨q1,q2,q3,q4,q5⟩:=(zT h).ev e he
 have hk:=aB1 (GU (jQ h).2.2 e he)
 exact⟨⟨q1,q2⟩,⟨q3.1,by omega,by omega,q3.2.2⟩,hk,fun l hl u hu=>(q5 l hl).2 u hu⟩
theorem aMH{d:Doc}(h:bW d=0) (hk:rJ (jI d)=0):rO (jI d)=(wB d,0,0):=by
 unfold rO;rw[if_neg (by simpa using hk)]
 have e0:jI d=elQ 0 [116,116] (kL d)::(d.2.2.2.2.2.1.flatMap oJ++(d.2.2.2.2.2.2.1.flatMap evN++[])):=by
  unfold jI;rw[aPB,aOQ];rfl
 rw[e0,aB2 h];obtain⟨i1,op1,p1,e1⟩:=tI (P:=fun op=>op.take 1=[[116,116]]) (Q:=fun g:Reg=>dJ g=0) (g:=oJ) (D:=fun rs=>mkD (hdO d) rs []) (fun g i op acc r hq hp=>aFR (hdO d) g i op acc r hq hp) d.2.2.2.2.2.1 [] 1 [[116,116]] (d.2.2.2.2.2.2.1.flatMap evN++[]) (zT h).reg rfl;obtain⟨i2,op2,p2,e2⟩:=tI (P:=fun op=>op.take 1=[[116,116]]) (Q:=EvQ) (g:=evN) (D:=fun es=>mkD (hdO d) d.2.2.2.2.2.1 es) (fun e i op acc r hq hp=>aMF (hdO d) d.2.2.2.2.2.1 e i op acc r hq hp) d.2.2.2.2.2.2.1 [] i1 op1 [] (aFT h) p1
 have e1:goS 1 [[116,116]] (mkD (hdO d) [] []) (d.2.2.2.2.2.1.flatMap oJ++(d.2.2.2.2.2.2.1.flatMap evN++[]))=goS i1 op1 (mkD (hdO d) d.2.2.2.2.2.1 []) (d.2.2.2.2.2.2.1.flatMap evN++[]):=e1
 have e2:goS i1 op1 (mkD (hdO d) d.2.2.2.2.2.1 []) (d.2.2.2.2.2.2.1.flatMap evN++[])=goS i2 op2 (mkD (hdO d) d.2.2.2.2.2.1 d.2.2.2.2.2.2.1) []:=e2
 rw[e1,e2]
 have:mkD (hdO d) d.2.2.2.2.2.1 d.2.2.2.2.2.2.1=wB d:=rfl
 rw[this];unfold goS aFN;rw[if_neg (by simpa using YU h)]
theorem aB3:((List.range 256).all fun n=>decide (32≤n8 (UInt8.ofNat n)∧n8 (UInt8.ofNat n)≤126→iO (n8 (UInt8.ofNat n))=true∧ofR [n8 (UInt8.ofNat n)]=[UInt8.ofNat n]))=true:=by kernel_rfl
theorem jJ:∀s:Ln,(∀c∈s,32≤n8 c∧n8 c≤126)→vld s=true
 | [],_=>rfl
 |c::s,h=>by
  have ih:=jJ s fun x hx=>h x (aN1 _ hx)
  obtain⟨h1,h2⟩:=of_decide_eq_true (eE (P:=fun c=>decide (32≤n8 c∧n8 c≤126→iO (n8 c)=true∧ofR [n8 c]=[c])) aB3 c) (h c aOK)
  have:=YF [n8 c] s (by rw[List.all_cons,h1]; rfl)
  rw[h2] at this;exact this.trans ih
theorem HK{s:Ln}(h:nm s=true):vld s=true:=by
 refine jJ s fun c hc=>?_
 unfold nm at h;rw[aOY,aO6] at h
 have:=of_decide_eq_true (h.2 c hc)
 omega
theorem iR{n:Int}(h0:0≤n) (h1:n≤9223372036854775807):∀c∈dI n,32≤n8 c∧n8 c≤126:=fun c hc=>by
 rw[AA h0] at hc
 have:=of_decide_eq_true ((vD 20 n.toNat (by omega) (by omega)).2.1 c hc)
 omega
theorem V6(c:UInt8):vld (pQ c)=true:=of_decide_eq_true (eE (P:=fun c=>decide (vld (pQ c)=true)) (by kernel_rfl) c)
theorem V7(c:UInt8):vld (mA c)=true:=of_decide_eq_true (eE (P:=fun c=>decide (vld (mA c)=true)) (by kernel_rfl) c)
theorem V8(c:UInt8):vld (pR c)=true:=of_decide_eq_true (eE (P:=fun c=>decide (vld (pR c)=true)) (by kernel_rfl) c)
theorem V9(c:UInt8) (h:n8 c≤6):vld (zR c)=true:=of_decide_eq_true (eE (P:=fun c=>decide (n8 c≤6→vld (zR c)=true)) (by kernel_rfl) c) h
theorem AF(b:Bool):vld (GS b)=true:=by cases b<;>rfl
theorem AG:∀(l:List At) (seen:List Ln),(∀a∈l,nmX a.1=true∧vld a.2=true∧a.1 ∉ seen)→(l.map Prod.fst).Nodup→atE seen l=0
 | [],_,_,_=>rfl
 |a::l,seen,h,hn=>by
  obtain⟨h1,h2,h3⟩:=h a aOK;rw[aPS,List.nodup_cons] at hn;unfold atE;rw[h1,h2,if_neg (by simp),if_neg h3,if_neg (by simp)];refine AG l (seen++[a.1]) (fun b hb=>?_) hn.2;obtain⟨q1,q2,q3⟩:=h b (aN1 _ hb);refine⟨q1,q2,fun k=>?_⟩;rw[aPA,aOM] at k;rcases k with k|k
  ·exact q3 k
  ·exact hn.1 (k ▸ List.mem_map_of_mem hb)
theorem AH:∀(l:List At) (a:At),a∈eJ l→a∈l
 | [],a,h=>h
 |b::l,a,h=>by
  have e:eJ (b::l)=jA b++eJ l:=rfl
  rw[e,aPA] at h;rcases h with h|h
  ·unfold jA at h
   split at h
   ·cases h
   ·rw[aOM] at h; rw[h]; exact aOK
  ·exact aN1 _ (AH l a h)
theorem tJ{k:Int}{n:Ln}{l:List At}(hn:nmX n=true) (hl:l.length≤16) (hd:(l.map Prod.fst).Nodup) (h:∀a∈l,nmX a.1=true∧vld a.2=true):elE (elQ k n l)=0:=by
 have h1:¬nmX (elQ k n l).1=false:=by
  show ¬nmX n=false;rw[hn]; simp
 have h2:¬(elQ k n l).2.1≠[]:=by show ¬([]:Ln)≠[]; simp
 have h3:¬16<(elQ k n l).2.2.1.length:=by
  show ¬16<(eJ l).length
  have:=LM l
  omega
 unfold elE;rw[if_neg h1,if_neg h2,if_neg h3];exact AG _ _ (fun a ha=>⟨(h a (AH l a ha)).1,(h a (AH l a ha)).2,by simp⟩) (AC l hd)
def mC(q:Nd):Int:=if q.1≠[] then dep q+1 else dep q
theorem W0{q n:Nd}(h1:1≤dep n) (h2:dep n≤mC q) (h3:dep n≤15):mX (some q) n=0:=by
 have e:mX (some q) n=if dep n<1 then 8 else if mC q<dep n then 8 else if 15<dep n then 9 else 0:=rfl
 rw[e,if_neg (by omega),if_neg (by omega),if_neg (by omega)]
theorem YV{q n:Nd}(h1:1≤dep n) (h2:dep n≤mC q) (h3:dep n≤15) (hn:n.1≠[]) (he:elE n=0):ndE (some q) n=0:=by
 unfold ndE;rw[if_neg (by rw[W0 h1 h2 h3]; simp),if_pos hn,he]
theorem aMI{q n:Nd}(h1:1≤dep n) (h2:dep n≤mC q) (h3:dep n≤15) (hq:q.1≠[]) (hn:n.1=[]) (ht:n.2.1≠[]) (ha:n.2.2.1=[]) (hv:vld n.2.1=true):ndE (some q) n=0:=by
 unfold ndE;rw[if_neg (by rw[W0 h1 h2 h3]; simp),if_neg (by simpa using hn)]
 have hp:txP (some q) n=false:=by
  show decide (q.1=[]∧dep q=dep n)=false;exact decide_eq_false fun k=>hq k.1
 unfold txE;rw[hp,if_neg nft,if_neg ht,ha,if_neg (by simp),hv,if_neg (by simp)]
theorem mQ{p:Option Nd}{n:Nd}{r:List Nd}(h:ndE p n=0):ckE p (n::r)=ckE (some n) r:=by
 have e:ckE p (n::r)=if ndE p n≠0 then ndE p n else ckE (some n) r:=rfl
 rw[e,h,if_neg (by simp)]
theorem tK{α:Type}{Q:α→Prop}{g:α→List Nd}{c:Int}(hs:∀x q r,Q x→c≤mC q→∃q',c≤mC q'∧ckE (some q) (g x++r)=ckE (some q') r) :
  ∀(l:List α) (q:Nd) (r:List Nd),(∀x∈l,Q x)→c≤mC q→∃q',c≤mC q'∧ckE (some q) (l.flatMap g++r)=ckE (some q') r
 | [],q,r,_,hc=>⟨q,hc,rfl⟩
 |x::l,q,r,hq,hc=>by
  obtain⟨q1,c1,e1⟩:=hs x q (l.flatMap g++r) (hq x aOK) hc;obtain⟨q2,c2,e2⟩:=tK hs l q1 r (fun y hy=>hq y (aN1 _ hy)) c1;refine⟨q2,c2,?_⟩;rw[List.flatMap_cons,aOQ,e1,e2]
def X0(u:Run):Prop:=vld u.1=true∧u.1≠[]∧n8 u.2.1.1≤6∧vld u.2.2=true
theorem aFU(u:Run) (q:Nd) (r:List Nd) (h:X0 u) (hc:3≤mC q):∃q',3≤mC q'∧ckE (some q) (runN u++r)=ckE (some q') r:=by
 obtain⟨h1,h2,h3,h4⟩:=h
 have he:elE (elQ 3 [114,117,110] (iU u))=0:=by
  refine tJ (by rfl) (by simp[iU]) (CX u) fun a ha=>?_
  simp only[iU,aPR,List.not_mem_nil,or_false] at ha;rcases ha with rfl|rfl|rfl|rfl
  ·exact⟨by rfl,V9 _ h3⟩
  ·exact⟨by rfl,AF _⟩
  ·exact⟨by rfl,AF _⟩
  ·exact⟨by rfl,h4⟩
 have e1:runN u++r=elQ 3 [114,117,110] (iU u)::(([],u.1,[],4):Nd)::r:=rfl
 have d3:dep (elQ 3 [114,117,110] (iU u))=3:=rfl
 have d4:dep (([],u.1,[],4):Nd)=4:=rfl
 have c4:mC (elQ 3 [114,117,110] (iU u))=4:=rfl
 refine⟨([],u.1,[],4),by show(3:Int)≤4; omega,?_⟩;rw[e1,mQ (YV (by omega) (by omega) (by omega) (by show [114,117,110]≠[]; simp) he),mQ (aMI (by omega) (by omega) (by omega) (by show [114,117,110]≠[]; simp) rfl h2 rfl h1)]
theorem aFV(l:Row) (q:Nd) (r:List Nd) (h:∀u∈l,X0 u) (hc:2≤mC q):∃q',2≤mC q'∧ckE (some q) (rowN l++r)=ckE (some q') r:=by
 have he:elE (elQ 2 [114,111,119] [])=0:=tJ (by rfl) (by simp) (by simp) fun a ha=>by cases ha
 have e1:rowN l++r=elQ 2 [114,111,119] []::(l.flatMap runN++r):=rfl
 have d2:dep (elQ 2 [114,111,119] [])=2:=rfl
 have c3:mC (elQ 2 [114,111,119] [])=3:=rfl
 obtain⟨q',c',e'⟩:=tK (Q:=X0) (g:=runN) (c:=3) aFU l (elQ 2 [114,111,119] []) r h (by omega);refine⟨q',by omega,?_⟩;rw[e1,mQ (YV (by omega) (by omega) (by omega) (by show [114,111,119]≠[]; simp) he),e']
structure EvV (e:Ev):Prop where
 id:1≤e.1∧e.1≤1099511627776
 sp:0≤e.2.1.1∧e.2.1.1≤5184000∧0≤e.2.1.2∧e.2.1.2≤5184000
 rg:vld e.2.2.1=true
 sk:vld e.2.2.2.2.1=true
 co:∀l∈e.2.2.2.2.2,∀u∈l,X0 u
theorem aC6{s:Ln}(h:∀c∈s,32≤n8 c∧n8 c≤126):vld (s++[102])=true:=jJ _ fun c hc=>by
 rw[aPA,aOM] at hc;rcases hc with hc|rfl
 ·exact h c hc
 ·decide
theorem aMJ(e:Ev) (q:Nd) (r:List Nd) (h:EvV e) (hc:1≤mC q):∃q',1≤mC q'∧ckE (some q) (evN e++r)=ckE (some q') r:=by
 obtain⟨i1,i2⟩:=h.id;obtain⟨s1,s2,s3,s4⟩:=h.sp
 have he:elE (elQ 1 [112] (evA e))=0:=by
  refine tJ (by rfl) (by simp[evA]) (LY e) fun a ha=>?_
  simp only[evA,aPR,List.not_mem_nil,or_false] at ha;rcases ha with rfl|rfl|rfl|rfl|rfl|rfl
  ·exact⟨by rfl,jJ _ (iR (by omega) (by omega))⟩
  ·exact⟨by rfl,aC6 (iR (by omega) (by omega))⟩
  ·exact⟨by rfl,aC6 (iR (by omega) (by omega))⟩
  ·exact⟨by rfl,h.rg⟩
  ·exact⟨by rfl,V6 _⟩
  ·exact⟨by rfl,h.sk⟩
 have e1:evN e++r=elQ 1 [112] (evA e)::(e.2.2.2.2.2.flatMap rowN++r):=rfl
 have d1:dep (elQ 1 [112] (evA e))=1:=rfl
 have c2:mC (elQ 1 [112] (evA e))=2:=rfl
 obtain⟨q',c',e'⟩:=tK (Q:=fun l:Row=>∀u∈l,X0 u) (g:=rowN) (c:=2) aFV e.2.2.2.2.2 (elQ 1 [112] (evA e)) r h.co (by omega);refine⟨q',by omega,?_⟩;rw[e1,mQ (YV (by omega) (by omega) (by omega) (by show [112]≠[]; simp) he),e']
theorem aFW(g:Reg) (q:Nd) (r:List Nd) (h:dJ g=0) (hc:1≤mC q):∃q',1≤mC q'∧ckE (some q) (oJ g++r)=ckE (some q') r:=by
 obtain⟨q1,q2,q3,q4,q5,q6,q7⟩:=mB h
 have he:elE (elQ 1 [114,101,103,105,111,110] (iV g))=0:=by
  refine tJ (by rfl) (by simp[iV]) (CY g) fun a ha=>?_
  simp only[iV,aPR,List.not_mem_nil,or_false] at ha;rcases ha with rfl|rfl|rfl|rfl|rfl|rfl|rfl
  ·exact⟨by rfl,HK q1⟩
  ·exact⟨by rfl,jJ _ (iR (by omega) (by omega))⟩
  ·exact⟨by rfl,jJ _ (iR (by omega) (by omega))⟩
  ·exact⟨by rfl,jJ _ (iR (by omega) (by omega))⟩
  ·exact⟨by rfl,jJ _ (iR (by omega) (by omega))⟩
  ·exact⟨by rfl,V8 _⟩
  ·refine⟨by rfl,?_⟩;show vld (if g.2.2.2.2.2.2 then [66,79,84,84,79,77] else [84,79,80])=true;cases g.2.2.2.2.2.2<;>rfl
 have e1:oJ g++r=elQ 1 [114,101,103,105,111,110] (iV g)::r:=rfl
 have d1:dep (elQ 1 [114,101,103,105,111,110] (iV g))=1:=rfl
 have c2:mC (elQ 1 [114,101,103,105,111,110] (iV g))=2:=rfl
 refine⟨elQ 1 [114,101,103,105,111,110] (iV g),by omega,?_⟩;rw[e1,mQ (YV (by omega) (by omega) (by omega) (by show [114,101,103,105,111,110]≠[]; simp) he)]
theorem X1{x:Ev}{rs:List Reg}(hr:∀g∈rs,dJ g=0) (h:lV x rs=0):vld x.2.2.1=true∧vld x.2.2.2.2.1=true:=by
 unfold lV at h
 split at h
 ·cases h
 split at h
 ·cases h
 split at h
 ·cases h
 split at h
 ·cases h
 rename_i r hf
 split at h
 ·cases h
 split at h
 ·cases h
 rename_i hk;constructor
 ·by_cases e:x.2.2.1=[]
  ·rw[e]; rfl
  ·unfold CB at hf;rw[if_neg e] at hf
   have h1:=List.find?_some hf
   have h2:=List.mem_of_find?_eq_some hf
   have h3:r.1=x.2.2.1:=by simpa using h1
   rw[←h3];exact HK (mB (hr r h2)).1
 ·by_cases e:x.2.2.2.2.1=[]
  ·rw[e]; rfl
  ·refine HK ?_
   cases hn:nm x.2.2.2.2.1 with
   |true=>rfl
   |false=>exact absurd ⟨e,hn⟩ hk
theorem aFX{d:Doc}(h:bW d=0):∀e∈d.2.2.2.2.2.2.1,EvV e:=fun e he=>by
 obtain⟨h1,h2,h3⟩:=jQ h
 have hc:=GU h3 e he
 obtain⟨q1,q2,q3,q4,q5,q6,_⟩:=R3 hc;obtain⟨n1,n2⟩:=X1 (zT h).reg hc;exact⟨⟨q1,q2⟩,⟨q3.1,by omega,by omega,q3.2.2⟩,n1,n2,fun l hl u hu=>(uR (LO (q6 l hl))).2 u hu⟩
theorem YW{d:Doc}(h:bW d=0) (h8:(jI d).length≤8192):rJ (jI d)=0:=by
 obtain⟨h1,h2,h3,h4⟩:=AE (jQ h).1;obtain⟨l1,l2⟩:=zS h
 have he:elE (elQ 0 [116,116] (kL d))=0:=by
  refine tJ (by rfl) (by simp[kL]) (LZ d) fun a ha=>?_
  simp only[kL,aPR,List.not_mem_nil,or_false] at ha;rcases ha with rfl|rfl|rfl|rfl|rfl
  ·exact⟨by rfl,h1⟩
  ·refine⟨by rfl,?_⟩;rcases h3 with e|e
   ·show vld d.2.1=true;rw[e]; rfl
   ·exact HK e
  ·exact⟨by rfl,V7 _⟩
  ·exact⟨by rfl,AF _⟩
  ·exact⟨by rfl,jJ _ (iR (by omega) (by omega))⟩
 have e0:jI d=elQ 0 [116,116] (kL d)::(d.2.2.2.2.2.1.flatMap oJ++(d.2.2.2.2.2.2.1.flatMap evN++[])):=by
  unfold jI;rw[aPB,aOQ];rfl
 have hlen:(jI d).length≠0:=by rw[e0]; simp
 have hroot:ndE none (elQ 0 [116,116] (kL d))=0:=by
  have hd:mX none (elQ 0 [116,116] (kL d))=0:=rfl
  unfold ndE;rw[hd,if_neg (by simp),if_pos (by show [116,116]≠[]; simp),he]
 unfold rJ;rw[if_neg hlen,if_neg (by omega),e0,mQ hroot];obtain⟨q1,c1,e1⟩:=tK (Q:=fun g:Reg=>dJ g=0) (g:=oJ) (c:=1) aFW d.2.2.2.2.2.1 (elQ 0 [116,116] (kL d)) (d.2.2.2.2.2.2.1.flatMap evN++[]) (zT h).reg (by show(1:Int)≤1; omega);obtain⟨q2,c2,e2⟩:=tK (Q:=EvV) (g:=evN) (c:=1) aMJ d.2.2.2.2.2.2.1 q1 [] (aFX h) c1;rw[e1,e2];rfl
theorem AI{a b:List At}(h:a.Perm b) (hn:(b.map Prod.fst).Nodup):(a.map Prod.fst).Nodup:=(h.map Prod.fst).nodup_iff.2 hn
theorem UV(name:Ln){a b:List At}(h:a.Perm b):(b.map Prod.fst).Nodup→bI name a=bI name b:=by
 induction h with
 |nil=>exact fun _=>rfl
 |cons x h ih =>
  intro hn;rw[aPS,List.nodup_cons] at hn;unfold bI;rw[ih hn.2]
 |swap x y l =>
  intro hn;rw[aPS,aPS,List.nodup_cons,aPR,not_or] at hn
  have hne:x.1≠y.1:=hn.1.1
  show(if y.1=name then(y.2,true) else if x.1=name then(x.2,true) else bI name l)=(if x.1=name then(x.2,true) else if y.1=name then(y.2,true) else bI name l)
  by_cases h1:y.1=name
  ·have h2:¬x.1=name:=fun k=>hne (k.trans h1.symm)
   rw[if_pos h1,if_neg h2,if_pos h1]
  ·rw[if_neg h1,if_neg h1]
 |trans h1 h2 i1 i2=>exact fun hn=>(i1 (AI h2 hn)).trans (i2 hn)
structure Shf (n m:Nd):Prop where
 nm:m.1=n.1
 tx:m.2.1=n.2.1
 dp:m.2.2.2=n.2.2.2
 at_:(m.2.2.1).Perm n.2.2.1
def shL:List Nd→List Nd→Prop
 | [],[]=>True
 |n::l,m::r=>Shf n m∧shL l r
 |_,_=>False
theorem X2:∀ {l r:List Nd},shL l r→r.length=l.length
 | [],[],_=>rfl
 |n::l,m::r,h=>by rw[aOX,aOX,X2 h.2]
 | [],_::_,h=>h.elim
 |_::_,[],h=>h.elim
theorem aFY{n m:Nd}(h:Shf n m):tC m=tC n:=by
 have h1:(rK m).all (fun a=>(rM n.1).contains a.1)=(rK n).all (fun a=>(rM n.1).contains a.1):=by
  rw[aPK,aO6,aO6];exact⟨fun k a ha=>k a (h.at_.mem_iff.2 ha),fun k a ha=>k a (h.at_.mem_iff.1 ha)⟩
 have h2:(gN n.1).all (fun w=>((rK m).map Prod.fst).contains w)=(gN n.1).all (fun w=>((rK n).map Prod.fst).contains w):=by
  have hp:=h.at_.map Prod.fst
  rw[aPK,aO6,aO6];exact⟨fun k w hw=>by have:=k w hw; rw[aNY] at this ⊢; exact hp.mem_iff.1 this,fun k w hw=>by have:=k w hw; rw[aNY] at this ⊢; exact hp.mem_iff.2 this⟩
 unfold tC;rw[h.nm,h1,h2]
theorem aFZ{n m:Nd}(h:Shf n m) (hu:vP n) (d:Doc):dP d m=dP d n:=by
 have hF:∀w,bI w (rK m)=bI w (rK n):=fun w=>UV w h.at_ hu
 have v:∀w,dU m w=dU n w:=fun w=>congrArg Prod.fst (hF w)
 have hh:∀w,rL m w=rL n w:=fun w=>congrArg Prod.snd (hF w)
 have c:∀tab w,chT tab m w=chT tab n w:=fun tab w=>by unfold chT; rw[v,hh]
 have nu:∀w hi,fK m w hi=fK n w hi:=fun w hi=>by unfold fK; rw[v]
 have fr:∀w,mY m w=mY n w:=fun w=>by unfold mY; rw[v]
 have fl:∀w,flT m w=flT n w:=fun w=>by unfold flT; rw[c]
 have co:AO m=AO n:=by unfold AO; rw[c]
 have e1:tE d m=tE d n:=by unfold tE; rw[v,v,v,fl,nu]
 have e2:vR d m=vR d n:=by unfold vR aBV; rw[v,nu,nu,nu,nu,c,c]
 have e3:qB d m=qB d n:=by unfold qB evT; rw[v,v,v,fr,fr,nu]
 have e4:CS d m=CS d n:=by unfold CS LT; rw[v,fl,fl,co]
 have e5:CT d m=CT d n:=by unfold CT; rw[h.tx]
 unfold dP;rw[h.nm,e1,e2,e3,e4,e5]
theorem X3:∀(l:List At) (seen:List Ln),atE seen l=0→∀a∈l,nmX a.1=true∧vld a.2=true
 | [],_,_,a,ha=>by cases ha
 |b::l,seen,h,a,ha=>by
  unfold atE at h
  by_cases h1:nmX b.1=false
  ·rw[if_pos h1] at h; cases h
  rw[if_neg h1] at h
  by_cases h2:b.1∈seen
  ·rw[if_pos h2] at h; cases h
  rw[if_neg h2] at h
  by_cases h3:vld b.2=false
  ·rw[if_pos h3] at h; cases h
  rw[if_neg h3] at h;rcases aPR.1 ha with rfl|ha
  ·exact⟨by simpa using h1,by simpa using h3⟩
  ·exact X3 l _ h a ha
theorem aMK{n m:Nd}(h:Shf n m) (hu:vP n) (he:elE n=0):elE m=0:=by
 have hl:m.2.2.1.length=n.2.2.1.length:=h.at_.length_eq
 unfold elE at he ⊢;rw[h.nm,h.tx,hl]
 by_cases h1:nmX n.1=false
 ·rw[if_pos h1] at he; cases he
 rw[if_neg h1] at he ⊢
 by_cases h2:n.2.1≠[]
 ·rw[if_pos h2] at he; cases he
 rw[if_neg h2] at he ⊢
 by_cases h3:16<n.2.2.1.length
 ·rw[if_pos h3] at he; cases he
 rw[if_neg h3] at he ⊢
 have:=X3 _ _ he
 exact AG _ _ (fun a ha=>⟨(this a (h.at_.mem_iff.1 ha)).1,(this a (h.at_.mem_iff.1 ha)).2,by simp⟩) (AI h.at_ hu)
def pSh:Option Nd→Option Nd→Prop
 |none,none=>True
 |some n,some m=>Shf n m
 |_,_=>False
theorem aML{n m:Nd}(h:Shf n m){p q:Option Nd}(hp:pSh p q) (he:ndE p n=0):ndE q m=0:=by
 have hu:=HF he
 have hd:dep m=dep n:=h.dp
 have hl:m.2.2.1.length=n.2.2.1.length:=h.at_.length_eq
 have h1:mX q m=mX p n:=by
  cases p with
  |none=>cases q with
   |none=>unfold mX; rw[hd]
   |some q=>exact hp.elim
  |some p=>cases q with
   |none=>exact hp.elim
   |some q =>
    have hp:Shf p q:=hp
    have hdp:dep q=dep p:=hp.dp
    unfold mX;dsimp only;rw[hd,hdp,hp.nm]
 have h2:txP q m=txP p n:=by
  cases p with
  |none=>cases q with
   |none=>rfl
   |some q=>exact hp.elim
  |some p=>cases q with
   |none=>exact hp.elim
   |some q =>
    have hp:Shf p q:=hp
    have hdp:dep q=dep p:=hp.dp
    unfold txP;dsimp only;rw[hd,hdp,hp.nm]
 have h3:txE q m=txE p n:=by unfold txE; rw[h2,h.tx,hl]
 unfold ndE at he ⊢;rw[h1,h3,h.nm]
 by_cases c1:mX p n≠0
 ·rw[if_pos c1] at he; exact absurd he c1
 rw[if_neg c1] at he ⊢
 by_cases c2:n.1≠[]
 ·rw[if_pos c2] at he ⊢;exact aMK h hu he
 ·rw[if_neg c2] at he ⊢;exact he
theorem aC7:∀ {l r:List Nd}{p q:Option Nd},shL l r→pSh p q→ckE p l=0→ckE q r=0
 | [],[],_,_,_,_,_=>rfl
 |n::l,m::r,p,q,h,hp,hc=>by
  obtain⟨h1,h2⟩:=YK hc;rw[mQ (aML h.1 hp h1)];exact aC7 (p:=some n) (q:=some m) h.2 h.1 h2
 | [],_::_,_,_,h,_,_=>h.elim
 |_::_,[],_,_,h,_,_=>h.elim
theorem aC8:∀ {l r:List Nd}{p:Option Nd}(i:Nat) (op:List Ln) (d:Doc),shL l r→ckE p l=0→goS i op d r=goS i op d l
 | [],[],_,_,_,_,_,_=>rfl
 |n::l,m::r,p,i,op,d,h,hc=>by
  obtain⟨h1,h2⟩:=YK hc
  have hu:=HF h1
  have hd:dep m=dep n:=h.1.dp
  have hpo:oM op m=oM op n:=by unfold oM; rw[hd]
  have hok:okN op d m=okN op d n:=by unfold okN HE; rw[hpo,h.1.nm,aFY h.1]
  have e:∀(n:Nd) (r:List Nd),goS i op d (n::r)=if okN op d n=false then(oN,(i:Int),4) else if(dP d n).1≠0 then(oN,(i:Int),(dP d n).1) else goS (i+1) (op.take (dep n).toNat++[n.1]) (dP d n).2 r:=fun _ _=>rfl
  rw[e,e,hok,aFZ h.1 hu,hd,h.1.nm,aC8 (p:=some n) (i+1) _ _ h.2 h2]
 | [],_::_,_,_,_,_,h,_=>h.elim
 |_::_,[],_,_,_,_,h,_=>h.elim
theorem X4{l r:List Nd}(h:shL l r) (hc:rJ l=0):rO r=rO l:=by
 have hl:=X2 h
 have hr:rJ r=0:=by
  unfold rJ at hc ⊢;rw[hl]
  by_cases c1:l.length=0
  ·rw[if_pos c1] at hc; cases hc
  rw[if_neg c1] at hc ⊢
  by_cases c2:8192<l.length
  ·rw[if_pos c2] at hc; cases hc
  rw[if_neg c2] at hc ⊢;exact aC7 (p:=none) (q:=none) h True.intro hc
 have hc0:ckE none l=0:=by
  unfold rJ at hc
  by_cases c1:l.length=0
  ·rw[if_pos c1] at hc; cases hc
  rw[if_neg c1] at hc
  by_cases c2:8192<l.length
  ·rw[if_pos c2] at hc; cases hc
  rwa [if_neg c2] at hc
 unfold rO;rw[hc,hr,if_neg (by simp),if_neg (by simp)];exact aC8 0 [] oN h hc0
theorem aB4{a b:List At}(h:a.Perm b):bkL wtA a=bkL wtA b:=by
 induction h with
 |nil=>rfl
 |cons x h ih=>simp only[bkL,ih]
 |swap x y l=>simp only[bkL]; omega
 |trans h1 h2 i1 i2=>rw[i1,i2]
theorem aC9:∀ {l r:List Nd},shL l r→bkL wtN r=bkL wtN l
 | [],[],_=>rfl
 |n::l,m::r,h=>by
  have:=aB4 h.1.at_
  simp only[bkL,wtN,aC9 h.2,this,h.1.nm,h.1.tx]
 | [],_::_,h=>h.elim
 |_::_,[],h=>h.elim
def AR(c:Nat) (n:Nd):Nd:=(n.1,n.2.1,n.2.2.1.drop c++n.2.2.1.take c,n.2.2.2)
theorem aF0(c:Nat) (n:Nd):Shf n (AR c n):=⟨rfl,rfl,rfl,by
 have:(n.2.2.1.drop c++n.2.2.1.take c).Perm (n.2.2.1.take c++n.2.2.1.drop c):=List.perm_append_comm
 rw[aNU] at this;exact this⟩
def mZ(f:Nat→Nat):Nat→List Nd→List Nd
 |_,[]=>[]
 |i,n::l=>AR (f i) n::mZ f (i+1) l
theorem YX(f:Nat→Nat):∀(i:Nat) (l:List Nd),shL l (mZ f i l)
 |_,[]=>True.intro
 |i,n::l=>⟨aF0 _ n,YX f (i+1) l⟩
theorem aB5{n:Int}(h0:0≤n) (h1:n≤4000000):q68 fuelH n=some []:=by
 have hw:w64 (aJ n (w64 (aJ 0 0)))=n:=by
  have:w64 (aJ 0 0)=0:=rfl
  rw[this];simp only[aJ];rw[cR (by omega)];omega
 unfold q68;rw[aD (bB (by omega)),hw]
 by_cases h:0<n
 ·rw[aE (bC h),aG (by rfl),aG (show ZA 1 n 32=true from decide_eq_true (by omega)),aG (yX (by simp only[ofN]; omega))];simp[gA,toN]
 ·rw[aD (bB h)]
theorem aF1{a b:List At}(h:a.length+b.length≤4000000):q69 fuelH [a,b]=some (a++b):=by
 have hfu:=bA
 obtain⟨q,hq⟩:∃q,fuelH=q+3:=⟨fuelH-3,by omega⟩
 have hg:=aB5 (n:=((a.length+b.length:Nat):Int)) (by omega) (by omega)
 have hl:len [a,b]=2:=rfl
 have g0:aA [a,b] (toN 0) []=a:=rfl
 have g1:aA [a,b] (toN 1) []=b:=rfl
 have s0:w64 (aF (0:Int) 1)=1:=rfl
 have s1:w64 (aF (1:Int) 1)=2:=rfl
 have wa:w64 (aF 0 (len a))=(a.length:Int):=by simp only[aF,len]; rw[cR (by omega)]; omega
 have wb:w64 (aF (a.length:Int) (len b))=((a.length+b.length:Nat):Int):=by simp only[aF,len]; rw[cR (by omega)]; omega
 unfold q69;rw[cI,hl];rw[hq] at hg ⊢;rw[eU];dsimp only;rw[aE (by rfl),aG (by rfl),g0,s0,wa,aD (bB (by omega)),eU];dsimp only;rw[aE (by rfl),aG (by rfl),g1,s1,wb,aD (bB (by omega)),eU];dsimp only;rw[aD (by rfl),hg,aB,cI,eU];dsimp only;rw[aE (by rfl),aG (by rfl),g0,s0,aG (dW (by simp only[aF,len,aPF]; omega)),eU];dsimp only;rw[aE (by rfl),aG (by rfl),g1,s1,aG (dW (by simp only[aF,len,bR,aPG]; omega)),eU];dsimp only;rw[aD (by rfl)];rfl
theorem X5(a b:Nat):rQ (a:Int) (b:Int)=((a%b:Nat):Int):=by
 show(a:Int).tmod b=_;rw[Int.tmod_eq_emod_of_nonneg (by omega)];rfl
def shF(l:List Nd) (n:UInt8) (K:List Nd→Option Bool) (v9:Int×List Nd→Option Bool) (v10:Int×List Nd):Option Bool :=
 cnd (ilt v10.1 (len l))
  (grd (inb v10.1 (len l))
   (cnd (ilt (0:Int) (len (aA l (toN v10.1) zN).2.2.1))
    (grd (ine (len (aA l (toN v10.1) zN).2.2.1) (0:Int))
     (grd (in2 (rQ (w64 (aF (w64 (n8 n)) v10.1)) (len (aA l (toN v10.1) zN).2.2.1)) (len (aA l (toN v10.1) zN).2.2.1))
      (grd (in2 (rQ (w64 (aF (w64 (n8 n)) v10.1)) (len (aA l (toN v10.1) zN).2.2.1)) (len (aA l (toN v10.1) zN).2.2.1))
       (bnd (q69 fuelH ([iW (toN (rQ (w64 (aF (w64 (n8 n)) v10.1)) (len (aA l (toN v10.1) zN).2.2.1))) (aA l (toN v10.1) zN).2.2.1,cJ (toN (rQ (w64 (aF (w64 (n8 n)) v10.1)) (len (aA l (toN v10.1) zN).2.2.1))) (aA l (toN v10.1) zN).2.2.1]:List (List (Y_×Y_)))) fun v11 =>
       grd (inb v10.1 (len v10.2)) <|
       v9 (w64 (aF v10.1 (1:Int)),pI v10.2 (toN v10.1) ((aA v10.2 (toN v10.1) zN).1,(aA v10.2 (toN v10.1) zN).2.1,v11,(aA v10.2 (toN v10.1) zN).2.2.2))))))
    (v9 (w64 (aF v10.1 (1:Int)),v10.2))))
  (K v10.2)
def shK(d:Doc) (v4:List Nd):Option Bool :=
 bnd (q93 fuelH v4) fun v5 =>
 cnd (ieq v5.2.2 (0:Int))
  (bnd (SW fuelH d) fun v6 =>
  bnd (KD fuelH (v5.1,v6)) fun v7 =>
  some v7)
  (some false)
theorem MA{x:Doc×UInt8}{d:Doc}{e:Int}(h1:jF fuelH x.1=some d) (h2:q55 fuelH d=some ([],e)) (he:e≠0):bY fuelH x=some true:=by
 unfold bY;rw[YN,aB,aD (by rfl),h1,aB,h2,aB,aE (dF he)];rfl
theorem UW{x:Doc×UInt8}{d:Doc}{l:List Nd}(h1:jF fuelH x.1=some d) (h2:q55 fuelH d=some (l,0)) (h3:l.length≤8192) (h4:0<l.length):bY fuelH x=bN (shF l x.2 (shK d)) fuelH ((0:Int),l):=by
 have hc:q67 fuelH l=some l:=by
  unfold q67;rw[aE (dF (by simp only[len]; omega)),aG (dW (by simp only[aF,len,aPF]; omega))];rfl
 unfold bY;rw[YN,aB,aD (by rfl),h1,aB,h2,aB,aD (by rfl)];dsimp only;rw[hc,aB,cI];rfl
theorem MB(f:Nat→Nat):∀(k:Nat) (l:List Nd),(mZ f k l).length=l.length
 |_,[]=>rfl
 |k,n::l=>by
  show(mZ f (k+1) l).length+1=l.length+1;rw[MB f (k+1) l]
theorem CZ(f:Nat→Nat) (n:Nd):∀(k:Nat) (l:List Nd),mZ f k (l++[n])=mZ f k l++[AR (f (k+l.length)) n]
 |_,[]=>rfl
 |k,m::l=>by
  show AR (f k) m::mZ f (k+1) (l++[n])=AR (f k) m::(mZ f (k+1) l++[AR (f (k+(l.length+1))) n]);rw[CZ f n (k+1) l,show k+1+l.length=k+(l.length+1) by omega]
theorem X6{n:Nd}(h:n.2.2.1.length=0) (c:Nat):AR c n=n:=by
 obtain⟨a,b,at_,e⟩:=n
 have h:at_=[]:=aNL.1 h
 subst h;simp[AR]
def lE(l:List Nd) (n:UInt8) (i:Nat):Nat:=(n.toNat+i)%(l.getD i ndz).2.2.1.length
theorem G0{l:List Nd}(n:UInt8) (K:List Nd→Option Bool) (h3:l.length≤8192) (hs:∀m∈l,m.2.2.1.length≤1090000):bN (shF l n K) fuelH ((0:Int),l)=K (mZ (lE l n) 0 l):=by
 have hfu:=bA
 refine eV (n:=l.length) (fun (a:List Nd) i=>((i:Int),a)) (fun i a=>a=mZ (lE l n) 0 (l.take i)++l.drop i) _ (fun self a i h hI=>?_) (fun self a hI=>?_) fuelH 0 l (aP7 _) (by omega) (by simp[mZ])
 ·have hm:=hs _ (aO8 h)
  have hn:(n8 n:Int)=((n.toNat:Nat):Int):=rfl
  have hn2:n.toNat<256:=n.toNat_lt
  have hw:w64 (aF (i:Int) 1)=((i+1:Nat):Int):=aX h (by omega)
  have hg:aA l (toN (i:Int)) zN=l[i]:=bJ h
  have hP:(mZ (lE l n) 0 (l.take i)).length=i:=by rw[MB,aO0]; omega
  have hd:l.drop i=l[i]::l.drop (i+1):=aNE h
  have ht:mZ (lE l n) 0 (l.take (i+1))=mZ (lE l n) 0 (l.take i)++[AR (lE l n i) l[i]]:=by
   rw[aM4 h,CZ,aO0,aPY,Nat.min_eq_left (by omega)]
  have hal:a.length=l.length:=by rw[hI,aOG,hP,aO1]; omega
  refine⟨mZ (lE l n) 0 (l.take (i+1))++l.drop (i+1),?_,rfl⟩;unfold shF;dsimp only;rw[aE (bC (by simp only[len]; omega)),aG (bH (by simp only[len]; omega)),hg,hw]
  by_cases hk:l[i].2.2.1.length=0
  ·rw[aD (bB (by simp only[len]; omega)),ht,X6 hk,hI,hd,aOQ];rfl
  ·have hkp:0<l[i].2.2.1.length:=by omega
   have hw2:w64 (aF (w64 (n8 n)) (i:Int))=((n.toNat+i:Nat):Int):=by
    have hz:w64 (n8 n)=((n.toNat:Nat):Int):=by rw[hn,cR (by omega)]
    rw[hz];simp only[aF];rw[cR (by omega)];omega
   have hi:rQ (w64 (aF (w64 (n8 n)) (i:Int))) (len l[i].2.2.1)=((lE l n i:Nat):Int):=by
    rw[hw2]
    have e:l.getD i ndz=l[i]:=gD h
    unfold lE;rw[e];exact X5 _ _
   have hlt:lE l n i<l[i].2.2.1.length:=by
    have e:l.getD i ndz=l[i]:=gD h
    unfold lE;rw[e];exact Nat.mod_lt _ hkp
   have hga:aA a (toN (i:Int)) zN=l[i]:=by
    rw[bJ (by omega)];simp only[hI,hd];rw[List.getElem_append_right (by omega)];simp[hP]
   have htn:toN ((lE l n i:Nat):Int)=lE l n i:=by simp[toN]
   rw[aE (bC (by simp only[len]; omega)),aG (dF (by simp only[len]; omega)),hi,aG (yX (by simp only[len]; omega)),aG (yX (by simp only[len]; omega)),htn]
   have hcat:q69 fuelH [iW (lE l n i) l[i].2.2.1,cJ (lE l n i) l[i].2.2.1]=some (l[i].2.2.1.drop (lE l n i)++l[i].2.2.1.take (lE l n i)):=aF1 (by
    show(l[i].2.2.1.drop _).length+(l[i].2.2.1.take _).length≤_;rw[aO1,aO0]; omega)
   rw[hcat,aB,aG (bH (by simp only[len]; omega)),hga];congr 1;refine congrArg (Prod.mk _) ?_
   have hset:pI a (toN (i:Int)) (AR (lE l n i) l[i])=mZ (lE l n) 0 (l.take (i+1))++l.drop (i+1):=by
    have:toN (i:Int)=(mZ (lE l n) 0 (l.take i)).length:=by rw[hP]; simp[toN]
    rw[this,hI,hd,ht,aOQ];show(mZ (lE l n) 0 (l.take i)++l[i]::l.drop (i+1)).set _ _=_;rw[aNW _ _ (aP6 _),aP3];rfl
   exact hset
 ·unfold shF;dsimp only;rw[aD (bB (by simp only[len]; omega)),hI,aO4,aO7,aPB]
theorem X7{d:Doc}{l m:List Nd}(hc:bW d=0) (hs:rI d) (hcm:d.2.2.2.2.2.2.2.length≤1000000) (h8:(jI d).length≤8192) (hb:bkL wtN (jI d)≤1090000) (hm:shL (jI d) m):shK d m=some true:=by
 have hk:=YW hc h8
 have hbm:bkL wtN m≤1090000:=by rw[aC9 hm]; exact hb
 have hcc:=YU hc
 have hred:aBO d=wB d:=by unfold aBO; rw[if_neg (by simpa using hc)]
 unfold shK;rw[UR (aC3 hbm) (by omega),aB,X4 hm hk,aMH hc hk,aE (by rfl),F2 hs hcm,aB,hred];dsimp only;rw[F3 (YM hcc (by simp[wB])) rfl,aB]
theorem AS{x:Doc×UInt8}(hb:wtD x.1≤1048576):bY fuelH x=some true:=by
 have hf:=aBJ hb
 have hs:=UL hf.wt
 have h1:jF fuelH x.1=some (sY x.1):=aFJ x.1
 have h2:=T7 hs
 by_cases hc:bW (sY x.1)=0
 ·by_cases h8:8192<(jI (sY x.1)).length
  ·have hn:GW (sY x.1)=([],9):=by
    unfold GW S3;rw[if_neg (show ¬bW (sY x.1)≠0 by simpa using hc),if_pos h8]
   rw[hn] at h2;exact MA h1 h2 (by decide)
  ·have hn:GW (sY x.1)=(jI (sY x.1),0):=by
    unfold GW S3;rw[if_neg (show ¬bW (sY x.1)≠0 by simpa using hc),if_neg h8]
   rw[hn] at h2
   have h0:=(GV (YW hc (by omega))).1
   have hbk:=aBN (zT hc) hf
   refine(UW h1 h2 (by omega) h0).trans ((G0 x.2 _ (by omega) fun m hm=>(aC3 hbk m hm).asz).trans ?_);exact X7 (l:=jI (sY x.1)) hc hs (by have:=hf.cm; omega) (by omega) hbk (YX _ 0 _)
 ·have hn:GW (sY x.1)=([],bW (sY x.1)):=by
   unfold GW;rw[if_pos hc]
  rw[hn] at h2;exact MA h1 h2 hc
end
end Go.Mo
end
