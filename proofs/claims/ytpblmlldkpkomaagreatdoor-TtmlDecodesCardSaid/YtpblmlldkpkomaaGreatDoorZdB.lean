/-
  Texts put together, in build order: WXc WXd WXe WXf WK XA XB XC XD XE XF TA TB TC XG XH XI XJ XK.
-/
import Derived.Test.YtpblmlldkpkomaaGreatDoorZdA
import Derived.Lib.Replace
import Derived.Lib.CountLaws
import Derived.Lib.IndexMore
import Derived.Test.YtpblmlldkpkomaaGreatDoorYdC
import Derived.KernelRfl
import Derived.Lib.ValidLaws
import Derived.Lib.TrimUEq
import Derived.Lib.MapLaws
set_option linter.all false

section
namespace Go.Mo
open Go Go.W Go.Proofs
noncomputable section
set_option maxRecDepth 100000
theorem bD7(N:Nat):aK E [⟨166,lC,lD,dW N⟩] N Tryz.f185 .lf aAE aAF=q87 N:=by kernel_rfl
def bD8:Ann:=(.sq .lf (.sq .lf (.jn ⟨[0,3],[3,1,2,5],[.s 5],[.v (.slice (.str)) [0]]⟩ (.sq .lf (.lp ⟨[0,3,22,23],[3,1,2,5],[.s 5,.s 24],[.v (.slice (.str)) [0],.v (.int .i64) []]⟩ .lf)) (.jn ⟨[0,3],[3,1,2,5],[],[]⟩ (.sq .lf (.lp ⟨[0,3,34,35],[3,1,2,13,5],[.s 36],[.v (.int .i64) []]⟩ .lf)) (.sq .lf (.sq .lf (.jn ⟨[0,3,10],[3,1,2,5],[.o 28],[.b 47 Y2 [2]]⟩ (.sq .lf (.lp ⟨[0,3,10,57,58],[3,1,2,5],[.s 59,.o 28],[.v (.int .i64) [],.b 47 Y2 [2]]⟩ (.sq .lf (.sq .lf (.jn ⟨[0,3,10,57,58,59],[3,1,2,5],[.o 28],[.b 47 Y2 [2]]⟩ (.sq .lf (.jn ⟨[0,3,10,12,57,58,59],[3,1,2,41,28,35,5],[],[]⟩ (.sq .lf (.lp ⟨[0,3,10,12,57,58,59,67,68],[3,1,2,41,28,35,5],[.s 69],[.v (.int .i64) []]⟩ .lf)) .lf)) .lf))))) .lf)))))))
theorem bD9(N:Nat):aK E [⟨166,lC,lD,dW N⟩,⟨236,QA,QB,q84 N⟩,⟨237,QC,QD,q85 N⟩] N Tryz.f186 bD8 aAG aAH=q88 N:=by kernel_rfl
theorem bEA(N:Nat):aK E [⟨184,aAC,aAD,q86 N⟩,⟨185,aAE,aAF,q87 N⟩,⟨186,aAG,aAH,q88 N⟩] N Tryz.f130 .lf aAI aAJ=q89 N:=by kernel_rfl
def bEB:Ann:=(.sq .lf (.sq .lf (.sq .lf (.jn ⟨[0,4],[],[.o 8],[.b 174 (.st (.pair (.slice Y2) (.pair (.slice (.str)) (.bool)))) [0,1]]⟩ (.sq .lf (.lp ⟨[0,4],[],[.s 5,.o 8],[.v (.int .i64) [],.b 174 (.st (.pair (.slice Y2) (.pair (.slice (.str)) (.bool)))) [0,1]]⟩ .lf)) .lf))))
theorem bEC(N:Nat):aK E [⟨128,BG,BH,lR N⟩,⟨129,sI,sJ,eM N⟩,⟨130,aAI,aAJ,q89 N⟩] N Tryz.f72 bEB aAK aAL=q90 N:=by kernel_rfl
theorem bED(N:Nat):aK E [] N Tryz.f61 .lf aAM aAN=q91 N:=by kernel_rfl
theorem bEE(N:Nat):aK E [] N Tryz.f104 .lf aAO aAP=q92 N:=by kernel_rfl
def bEF:Ann:=(.sq .lf (.jn ⟨[],[],[],[]⟩ (.sq .lf (.lp ⟨[1,7,8],[],[.s 9],[.v (.int .i64) []]⟩ .lf)) .lf))
theorem bEG(N:Nat):aK E [] N Tryz.f105 bEF aAQ aAR=q93 N:=by kernel_rfl
def bEH:Ann:=(.sq .lf (.sq .lf (.sq .lf (.jn ⟨[],[],[.s 3,.s 5],[.v (.slice (.str)) [],.v (.int .i64) []]⟩ (.sq .lf (.lp ⟨[15,16],[],[.s 3,.s 4,.s 5,.s 17],[.v (.slice (.str)) [],.v (.slice (.str)) [],.v (.int .i64) [],.v (.int .i64) []]⟩ .lf)) .lf))))
theorem bEI(N:Nat):aK E [⟨104,aAO,aAP,q92 N⟩,⟨105,aAQ,aAR,q93 N⟩] N Tryz.f62 bEH aAS aAT=q94 N:=by kernel_rfl
def bEJ:Ann:=(.sq .lf (.jn ⟨[],[1],[],[]⟩ (.sq .lf (.lp ⟨[1,11,12],[1],[.s 13],[.v (.int .i64) []]⟩ .lf)) .lf))
theorem bEK(N:Nat):aK E [] N Tryz.f106 bEJ wE wF=q95 N:=by kernel_rfl
theorem bEL(N:Nat):aK E [] N Tryz.f167 .lf aAU aAV=q96 N:=by kernel_rfl
def bEM:Ann:=(.sq .lf (.jn ⟨[],[],[],[]⟩ (.sq .lf (.lp ⟨[0,6,7],[],[.s 8],[.v (.int .i64) []]⟩ .lf)) .lf))
theorem bEN(N:Nat):aK E [⟨167,aAU,aAV,q96 N⟩,⟨34,PO,PP,q49 N⟩] N Tryz.f107 bEM aAW aAX=q97 N:=by kernel_rfl
theorem bEO(N:Nat):aK E [] N Tryz.f108 .lf wG wH=q98 N:=by kernel_rfl
def bEP:Ann:=(.sq .lf (.jn ⟨[0,1],[],[.o 1],[.b 160 Y9 []]⟩ (.sq .lf (.lp ⟨[0,1,11,12],[],[.s 13,.o 1],[.v (.int .i64) [],.b 160 Y9 []]⟩ .lf)) .lf))
theorem bEQ(N:Nat):aK E [⟨108,wG,wH,q98 N⟩,⟨106,wE,wF,q95 N⟩] N Tryz.f109 bEP aAY aAZ=q99 N:=by kernel_rfl
theorem aT9(N:Nat):aK E [⟨231,PW,PX,q74 N⟩] N Tryz.f281 .lf QE QF=aLY N:=by kernel_rfl
theorem aUA(N:Nat):aK E [⟨281,QE,QF,aLY N⟩] N Tryz.f255 .lf QG QH=aA0 N:=by kernel_rfl
def aUB:Ann:=(.sq .lf (.sq .lf (.jn ⟨[0,1,2,8],[],[],[]⟩ .lf (.jn ⟨[0,1,2],[],[],[]⟩ (.sq .lf (.lp ⟨[0,1,2,8,34],[],[.s 35],[.v (.int .i64) []]⟩ .lf)) .lf))))
theorem aUC(N:Nat):aK E [⟨255,QG,QH,aA0 N⟩,⟨256,hZ,iA,dD N⟩] N Tryz.f222 aUB QI QJ=aA1 N:=by kernel_rfl
theorem aUD(N:Nat):aK E [⟨222,QI,QJ,aA1 N⟩,⟨108,wG,wH,q98 N⟩] N Tryz.f168 .lf DU DV=B9 N:=by kernel_rfl
theorem aUE(N:Nat):aK E [⟨106,wE,wF,q95 N⟩,⟨168,DU,DV,B9 N⟩] N Tryz.f110 .lf DW DX=QK N:=by kernel_rfl
theorem aUF(N:Nat):aK E [⟨110,DW,DX,QK N⟩] N Tryz.f111 .lf QL QM=QN N:=by kernel_rfl
def aUG:Ann:=(.sq .lf (.sq .lf (.jn ⟨[0],[1],[],[]⟩ (.sq .lf (.lp ⟨[0,7,13,14],[1],[.s 15],[.v (.int .i64) []]⟩ .lf)) .lf)))
theorem aUH(N:Nat):aK E [⟨106,wE,wF,q95 N⟩,⟨108,wG,wH,q98 N⟩] N Tryz.f112 aUG DY DZ=IK N:=by kernel_rfl
theorem aUI(N:Nat):aK E [] N Tryz.f257 .lf QO QP=aLZ N:=by kernel_rfl
theorem aUJ(N:Nat):aK E [⟨257,QO,QP,aLZ N⟩] N Tryz.f223 .lf QQ QR=aL0 N:=by kernel_rfl
theorem aUK(N:Nat):aK E [⟨223,QQ,QR,aL0 N⟩] N Tryz.f169 .lf QS QT=aG6 N:=by kernel_rfl
theorem aUL(N:Nat):aK E [⟨106,wE,wF,q95 N⟩,⟨169,QS,QT,aG6 N⟩,⟨108,wG,wH,q98 N⟩,⟨168,DU,DV,B9 N⟩] N Tryz.f113 .lf QU QV=aA2 N:=by kernel_rfl
def aUM:Ann:=(.sq .lf (.jn ⟨[],[],[],[]⟩ (.sq .lf (.lp ⟨[0,6,7],[4],[.s 8],[.v (.int .i64) []]⟩ .lf)) .lf))
theorem aUN(N:Nat):aK E [⟨85,PB,PC,q26 N⟩] N Tryz.f114 aUM QW QX=aA3 N:=by kernel_rfl
def aUO:Ann:=(.sq .lf (.jn ⟨[],[1],[],[]⟩ (.sq .lf (.lp ⟨[0,9,10],[1],[.s 11],[.v (.int .i64) []]⟩ .lf)) .lf))
theorem aUP(N:Nat):aK E [⟨112,DY,DZ,IK N⟩] N Tryz.f115 aUO QY QZ=aG7 N:=by kernel_rfl
def aBK:Ann:=(.sq .lf (.sq .lf (.sq .lf (.jn ⟨[5],[],[.o 6,.o 13],[.d 27 Y1,.b 160 Y9 []]⟩ (.sq .lf (.sq .lf (.sq .lf (.sq .lf (.sq .lf (.sq .lf (.sq (.sq .lf (.sq .lf (.sq .lf (.sq .lf (.sq .lf (.jn ⟨[0,5,10,11],[6,1,2,5,3,4,34],[.o 13],[.b 160 Y9 []]⟩ .lf (.sq .lf (.cl [3,2])))))))) (.sq .lf (.sq (.cl [3]) .lf))))))))) .lf))))
theorem aBL(N:Nat):aK (E.wop ops) [⟨106,wE,wF,q95 N⟩,⟨107,aAW,aAX,q97 N⟩,⟨108,wG,wH,q98 N⟩,⟨109,aAY,aAZ,q99 N⟩,⟨110,DW,DX,QK N⟩,⟨111,QL,QM,QN N⟩,⟨112,DY,DZ,IK N⟩,⟨113,QU,QV,aA2 N⟩,⟨114,QW,QX,aA3 N⟩,⟨115,QY,QZ,aG7 N⟩] N Tryz.f63 aBK sN sO=nK N:=by kernel_rfl
def aUQ:Ann:=(.sq .lf (.sq .lf (.sq .lf (.sq .lf (.jn ⟨[2,6],[2],[.o 11],[.d 27 Y1]⟩ (.sq .lf (.lp ⟨[2,6,19,20],[2],[.s 7,.s 21,.o 11],[.v (.slice (.str)) [0],.v (.int .i64) [],.d 27 Y1]⟩ (.sq .lf (.sq .lf (.sq (.sq .lf (.sq .lf (.sq .lf (.jn ⟨[2,6,7,8,9,19,20,21],[28,17,11,18,19,22,20,21,2],[.s 10],[.v (.str) []]⟩ .lf .lf)))) .lf))))) (.sq (.sq (.cl [16,15]) .lf) .lf))))))
theorem aUR(N:Nat):aK (E.wop ops) [⟨60,PU,PV,q61 N⟩,⟨61,aAM,aAN,q91 N⟩,⟨62,aAS,aAT,q94 N⟩,⟨63,sN,sO,nK N⟩,⟨30,PM,PN,q48 N⟩] N Tryz.f22 aUQ RA RB=aG8 N:=by kernel_rfl
theorem aUS(N:Nat):aK E [⟨72,aAK,aAL,q90 N⟩,⟨22,RA,RB,aG8 N⟩] N Tryz.f27 .lf RC RD=aG9 N:=by kernel_rfl
def aBM:Ann:=(.sq .lf (.sq .lf (.jn ⟨[7],[],[.o 5],[.b 58 Y6 []]⟩ (.sq .lf (.lp ⟨[0,1,7],[],[.s 8,.o 5],[.v (.int .i64) [],.b 58 Y6 []]⟩ .lf)) .lf)))
theorem aBN(N:Nat):aK E [] N Tryz.f131 aBM sP sQ=iH N:=by kernel_rfl
def aBO:Ann:=(.sq .lf (.jn ⟨[],[],[],[]⟩ (.sq .lf (.lp ⟨[0,1],[],[.s 7],[.v (.int .i64) []]⟩ .lf)) .lf))
theorem aBP(N:Nat):aK E [] N Tryz.f187 aBO lG lH=cS N:=by kernel_rfl
theorem aUT(N:Nat):aK E [] N Tryz.f188 .lf yM yN=yO N:=by kernel_rfl
theorem aUU(N:Nat):aK E [] N Tryz.f258 .lf RE RF=IL N:=by kernel_rfl
theorem aUV(N:Nat):aK E [] N Tryz.f259 .lf EA EB=IM N:=by kernel_rfl
def aUW:Ann:=(.sq .lf (.sq .lf (.sq .lf (.jn ⟨[0],[],[.s 3],[.v (.int .i64) []]⟩ (.lp ⟨[0],[],[.s 3],[.v (.int .i64) []]⟩ .lf) .lf))))
theorem aUX(N:Nat):aK E [⟨258,RE,RF,IL N⟩,⟨259,EA,EB,IM N⟩] N Tryz.f224 aUW yP yQ=KM N:=by kernel_rfl
theorem aUY(N:Nat):aK E [] N Tryz.f274 .lf EC ED=KN N:=by kernel_rfl
def aBQ:Ann:=(.sq .lf (.jn ⟨[],[],[.s 0],[.v (.str) []]⟩ (.lp ⟨[],[],[.s 0],[.v (.str) []]⟩ .lf) .lf))
theorem aBR(N:Nat):aK E [⟨274,EC,ED,KN N⟩] N Tryz.f239 aBQ lI lJ=fF N:=by kernel_rfl
def aUZ:Ann:=(.sq .lf (.sq .lf (.sq .lf (.sq .lf (.sq .lf (.sq .lf (.sq .lf (.jn ⟨[0,2,5,6],[2],[],[]⟩ .lf .lf))))))))
theorem aU0(N:Nat):aK E [⟨239,lI,lJ,fF N⟩,⟨224,yP,yQ,KM N⟩,⟨188,yM,yN,yO N⟩,⟨187,lG,lH,cS N⟩] N Tryz.f238 aUZ RG RH=aA4 N:=by kernel_rfl
def aH8:Ann:=(.sq .lf (.sq .lf (.sq .lf (.jn ⟨[0,2,3],[2],[.s 4,.o 5],[.v (.str) [],.b 184 Y7 [3]]⟩ .lf (.sq .lf (.sq .lf (.sq .lf (.jn ⟨[0,2,3],[2],[.s 4,.o 5],[.v (.str) [],.b 184 Y7 [3]]⟩ (.lp ⟨[0,2,3],[2],[.s 4,.o 5],[.v (.str) [],.b 184 Y7 [3]]⟩ .lf) (.sq .lf (.jn ⟨[0,2,3],[2],[.s 4,.o 5],[.v (.str) [],.b 184 Y7 [3]]⟩ .lf .lf))))))))))
theorem aH9(N:Nat):aK E [⟨188,yM,yN,yO N⟩,⟨224,yP,yQ,KM N⟩,⟨238,RG,RH,aA4 N⟩,⟨239,lI,lJ,fF N⟩] N Tryz.f189 aH8 wI wJ=uH N:=by kernel_rfl
theorem aBS(N:Nat):aK E [⟨187,lG,lH,cS N⟩,⟨188,yM,yN,yO N⟩,⟨189,wI,wJ,uH N⟩] N Tryz.f132 .lf sR sS=pI N:=by kernel_rfl
def aU1:Ann:=(.sq .lf (.sq .lf (.jn ⟨[3],[],[.o 4],[.r 4 (.u8)]⟩ (.sq .lf (.lp ⟨[3,8,9],[],[.s 10,.o 4],[.v (.int .i64) [],.r 4 (.u8)]⟩ .lf)) .lf)))
theorem aU2(N:Nat):aK E [⟨274,EC,ED,KN N⟩] N Tryz.f276 aU1 RI RJ=aHA N:=by kernel_rfl
def aIA:Ann:=(.sq .lf (.sq (.sq .lf (.sq .lf (.jn ⟨[0],[],[.s 9],[.v (.bool) []]⟩ .lf .lf))) .lf))
theorem aIB(N:Nat):aK E [⟨259,EA,EB,IM N⟩] N Tryz.f315 aIA wK wL=mG N:=by kernel_rfl
def aBT:Ann:=(.sq .lf (.sq .lf (.sq .lf (.jn ⟨[],[],[.s 7],[.v (.int .i64) []]⟩ (.sq .lf (.lp ⟨[0,1],[],[.s 7,.s 8],[.v (.int .i64) [],.v (.int .i64) []]⟩ .lf)) .lf))))
theorem aBU(N:Nat):aK E [⟨315,wK,wL,mG N⟩] N Tryz.f304 aBT sT sU=fG N:=by kernel_rfl
theorem aU3(N:Nat):aK E [] N Tryz.f225 .lf RK RL=aP8 N:=by kernel_rfl
def aU4:Ann:=(.sq .lf (.jn ⟨[0],[],[],[]⟩ .lf (.sq .lf (.jn ⟨[],[],[],[]⟩ (.sq .lf (.lp ⟨[0,16],[],[.s 3,.o 6],[.v (.int .i64) [],.i]⟩ .lf)) .lf))))
theorem aU5(N:Nat):aK E [⟨225,RK,RL,aP8 N⟩] N Tryz.f171 aU4 yR yS=uZ N:=by kernel_rfl
def aMC:Ann:=(.sq .lf (.sq .lf (.jn ⟨[],[],[.s 3],[.v (.str) []]⟩ (.sq .lf (.lp ⟨[6,7],[],[.s 3,.s 8],[.v (.str) [],.v (.int .i64) []]⟩ .lf)) .lf)))
theorem aMD(N:Nat):aK E [⟨171,yR,yS,uZ N⟩] N Tryz.f305 aMC BI BJ=qJ N:=by kernel_rfl
def aU6:Ann:=(.sq .lf (.sq .lf (.jn ⟨[0],[],[],[]⟩ (.sq .lf (.lp ⟨[0,5,11,12],[4,6],[.s 13],[.v (.int .i64) []]⟩ .lf)) (.sq .lf (.jn ⟨[],[],[.s 8],[.v (.int .i64) []]⟩ (.jn ⟨[0,8],[],[.s 38],[.v (.bool) []]⟩ .lf .lf) .lf)))))
theorem aU7(N:Nat):aK E [⟨304,sT,sU,fG N⟩,⟨171,yR,yS,uZ N⟩,⟨305,BI,BJ,qJ N⟩] N Tryz.f292 aU6 RM RN=C0 N:=by kernel_rfl
def aU8:Ann:=(.sq .lf (.sq .lf (.jn ⟨[],[],[.s 4],[.v (.str) []]⟩ (.sq .lf (.lp ⟨[0],[],[.s 4,.s 5],[.v (.str) [],.v (.int .i64) []]⟩ (.sq .lf (.jn ⟨[0],[],[.s 4,.s 5],[.v (.str) [],.v (.int .i64) []]⟩ (.sq .lf (.sq .lf (.sq .lf (.jn ⟨[0,4,5],[],[.s 6],[.v (.int .i64) []]⟩ (.lp ⟨[0,4,5],[],[.s 6],[.v (.int .i64) []]⟩ .lf) .lf)))) .lf)))) .lf)))
theorem aU9(N:Nat):aK E [⟨292,RM,RN,C0 N⟩] N Tryz.f275 aU8 RO RP=aHB N:=by kernel_rfl
def aVA:Ann:=(.sq .lf (.jn ⟨[],[],[],[]⟩ (.sq .lf (.lp ⟨[6],[],[.o 4],[.i]⟩ .lf)) .lf))
theorem aVB(N:Nat):aK E [⟨171,yR,yS,uZ N⟩] N Tryz.f117 aVA mH mI=nT N:=by kernel_rfl
def aVC:Ann:=(.sq .lf (.sq .lf (.jn ⟨[4],[],[.s 5],[.v (.int .i64) []]⟩ .lf .lf)))
theorem aVD(N:Nat):aK E [⟨276,RI,RJ,aHA N⟩,⟨275,RO,RP,aHB N⟩,⟨117,mH,mI,nT N⟩] N Tryz.f240 aVC EE EF=KO N:=by kernel_rfl
def aVE:Ann:=(.sq .lf (.sq (.jn ⟨[0,1],[3,1,2],[.s 5],[.v (.bool) []]⟩ .lf .lf) .lf))
theorem aVF(N:Nat):aK E [] N Tryz.f241 aVE EG EH=DG N:=by kernel_rfl
def aVG:Ann:=(.sq .lf (.jn ⟨[0,1],[3,1,2],[],[]⟩ .lf .lf))
theorem aVH(N:Nat):aK E [⟨239,lI,lJ,fF N⟩,⟨187,lG,lH,cS N⟩,⟨240,EE,EF,KO N⟩,⟨241,EG,EH,DG N⟩] N Tryz.f190 aVG RQ RR=aHC N:=by kernel_rfl
theorem aBV(N:Nat):aK E [⟨224,yP,yQ,KM N⟩] N Tryz.f170 .lf lK lL=eN N:=by kernel_rfl
theorem aVI(N:Nat):aK E [] N Tryz.f191 .lf RS RT=aHD N:=by kernel_rfl
def aVJ:Ann:=(.sq .lf (.sq .lf (.jn ⟨[0,3,5],[3,1,2,16,5],[],[]⟩ (.sq .lf (.lp ⟨[0,3,5,24,25],[3,1,2,16,5],[.s 26],[.v (.int .i64) []]⟩ .lf)) (.sq .lf (.jn ⟨[0,3,5],[3,1,2,5],[.o 16],[.b 47 Y2 [2]]⟩ (.sq .lf (.lp ⟨[0,3,5,40,41],[3,1,2,5],[.s 42,.o 16],[.v (.int .i64) [],.b 47 Y2 [2]]⟩ (.sq .lf (.sq .lf (.jn ⟨[0,3,5,40,41,42],[3,1,2,5],[.o 16],[.b 47 Y2 [2]]⟩ (.sq .lf (.jn ⟨[0,3,5,9,40,41,42],[3,1,2,34,16,28,5],[],[]⟩ (.sq .lf (.lp ⟨[0,3,5,9,40,41,42,50,51],[3,1,2,34,16,28,5],[.s 52],[.v (.int .i64) []]⟩ .lf)) .lf)) .lf))))) .lf)))))
theorem aVK(N:Nat):aK E [⟨170,lK,lL,eN N⟩,⟨240,EE,EF,KO N⟩,⟨241,EG,EH,DG N⟩] N Tryz.f192 aVJ RU RV=aHE N:=by kernel_rfl
def aVL:Ann:=(.sq .lf (.sq (.sq .lf (.sq .lf (.sq .lf (.sq .lf (.sq .lf (.sq .lf (.sq .lf (.jn ⟨[0,7],[3,1,2,5],[.s 28],[.v (.bool) []]⟩ .lf .lf)))))))) .lf))
theorem aVM(N:Nat):aK E [⟨190,RQ,RR,aHC N⟩,⟨170,lK,lL,eN N⟩,⟨191,RS,RT,aHD N⟩,⟨192,RU,RV,aHE N⟩] N Tryz.f133 aVL RW RX=C1 N:=by kernel_rfl
def aVN:Ann:=(.sq .lf (.sq .lf (.sq .lf (.jn ⟨[0,4],[],[.o 8],[.b 182 Y12 [0,1]]⟩ (.sq .lf (.lp ⟨[0,4],[],[.s 5,.o 8],[.v (.int .i64) [],.b 182 Y12 [0,1]]⟩ .lf)) .lf))))
theorem aVO(N:Nat):aK E [⟨131,sP,sQ,iH N⟩,⟨132,sR,sS,pI N⟩,⟨133,RW,RX,C1 N⟩] N Tryz.f73 aVN RY RZ=aHF N:=by kernel_rfl
def aVP:Ann:=(.sq .lf (.sq .lf (.jn ⟨[],[],[],[]⟩ (.sq .lf (.lp ⟨[1,22,23],[2],[.s 24],[.v (.int .i64) []]⟩ (.sq .lf (.sq .lf (.jn ⟨[1,22,23,24],[2],[],[]⟩ (.sq .lf (.sq .lf (.jn ⟨[1,4,22,23,24],[28,2],[],[]⟩ (.sq .lf (.lp ⟨[1,4,22,23,24,36,37],[28,2],[.s 38],[.v (.int .i64) []]⟩ .lf)) .lf))) .lf))))) .lf)))
theorem aVQ(N:Nat):aK E [⟨170,lK,lL,eN N⟩,⟨117,mH,mI,nT N⟩] N Tryz.f116 aVP SA SB=aA5 N:=by kernel_rfl
def aVR:Ann:=(.sq .lf (.sq .lf (.sq .lf (.jn ⟨[],[],[],[]⟩ (.sq .lf (.lp ⟨[0,13,14],[],[.s 15],[.v (.int .i64) []]⟩ (.sq .lf (.sq .lf (.sq (.sq .lf (.jn ⟨[0,3,4,13,14,15],[17],[],[]⟩ .lf (.jn ⟨[0,3,4,13,14,15],[17],[],[]⟩ .lf (.sq .lf (.sq .lf (.jn ⟨[0,4,13,14,15],[17],[.s 68],[.v (.bool) []]⟩ .lf .lf)))))) .lf))))) .lf))))
theorem aVS(N:Nat):aK E [⟨116,SA,SB,aA5 N⟩,⟨117,mH,mI,nT N⟩] N Tryz.f64 aVR SC SD=aHG N:=by kernel_rfl
def aVT:Ann:=(.sq .lf (.sq .lf (.sq .lf (.jn ⟨[0,1,5,6],[10,3],[],[]⟩ .lf (.sq .lf (.sq .lf (.jn ⟨[0,5,6],[10,3],[.s 7],[.v (.int .i64) []]⟩ (.lp ⟨[0,5,6],[10,3],[.s 7],[.v (.int .i64) []]⟩ .lf) .lf)))))))
theorem aVU(N:Nat):aK E [] N Tryz.f65 aVT SE SG=aHH N:=by kernel_rfl
theorem aVV(N:Nat):aK E [] N Tryz.f118 .lf SH SI=aA6 N:=by kernel_rfl
def aVW:Ann:=(.sq .lf (.jn ⟨[],[],[],[]⟩ (.sq .lf (.lp ⟨[1,7,8],[],[.s 9],[.v (.int .i64) []]⟩ .lf)) .lf))
theorem aVX(N:Nat):aK E [] N Tryz.f172 aVW EI EJ=C2 N:=by kernel_rfl
theorem aIC(N:Nat):aK E [⟨172,EI,EJ,C2 N⟩] N Tryz.f119 .lf wM wN=kP N:=by kernel_rfl
def aBW:Ann:=(.sq .lf (.sq .lf (.sq .lf (.jn ⟨[4],[8],[.s 5],[.v (.slice (.str)) [0]]⟩ (.sq .lf (.lp ⟨[4,18,19],[8],[.s 3,.s 5,.s 20],[.v (.slice (.str)) [],.v (.slice (.str)) [0],.v (.int .i64) []]⟩ .lf)) (.jn ⟨[],[],[],[]⟩ (.sq .lf (.lp ⟨[35,36],[8],[.s 5,.s 37],[.v (.slice (.str)) [],.v (.int .i64) []]⟩ .lf)) .lf)))))
theorem aBX(N:Nat):aK E [⟨118,SH,SI,aA6 N⟩,⟨119,wM,wN,kP N⟩] N Tryz.f66 aBW sV sW=pJ N:=by kernel_rfl
def aBY:Ann:=(.sq .lf (.sq .lf (.jn ⟨[],[],[],[]⟩ (.sq .lf (.lp ⟨[2,22,23],[],[.s 24],[.v (.int .i64) []]⟩ .lf)) .lf)))
theorem aBZ(N:Nat):aK E [] N Tryz.f173 aBY oD oE=lM N:=by kernel_rfl
theorem aVY(N:Nat):aK (E.wop ops) [⟨173,oD,oE,lM N⟩] N Tryz.f120 .lf oF oG=pK N:=by kernel_rfl
theorem aVZ(N:Nat):aK E [] N Tryz.f174 .lf SJ SK=aL1 N:=by kernel_rfl
theorem aV0(N:Nat):aK E [] N Tryz.f92 .lf EK EL=KP N:=by kernel_rfl
theorem aB0(N:Nat):aK E [⟨92,EK,EL,KP N⟩] N Tryz.f42 .lf sX sY=lN N:=by kernel_rfl
def aV1:Ann:=(.sq .lf (.jn ⟨[],[],[],[]⟩ (.sq .lf (.lp ⟨[0,6,7],[],[.s 8],[.v (.int .i64) []]⟩ .lf)) .lf))
theorem aV2(N:Nat):aK E [⟨174,SJ,SK,aL1 N⟩,⟨42,sX,sY,lN N⟩] N Tryz.f121 aV1 SL SM=aHI N:=by kernel_rfl
theorem aV3(N:Nat):aK (E.wop ops) [] N Tryz.f122 .lf qK qL=wO N:=by kernel_rfl
theorem aV4(N:Nat):aK (E.wop ops) [⟨173,oD,oE,lM N⟩,⟨172,EI,EJ,C2 N⟩,⟨122,qK,qL,wO N⟩] N Tryz.f125 .lf yT yU=IN N:=by kernel_rfl
theorem aV5(N:Nat):aK (E.wop ops) [⟨125,yT,yU,IN N⟩] N Tryz.f123 .lf EM EN=SN N:=by kernel_rfl
theorem aV6(N:Nat):aK E [] N Tryz.f212 .lf EO EP=wP N:=by kernel_rfl
def aV7:Ann:=(.sq .lf (.sq .lf (.jn ⟨[0,1,2,8],[],[.s 9],[.v (.bool) []]⟩ .lf (.jn ⟨[1,2,9],[],[.s 8],[.v (.str) []]⟩ .lf (.jn ⟨[1,2,8,9],[],[],[]⟩ .lf (.jn ⟨[1,2,8,9],[],[],[]⟩ (.sq .lf (.lp ⟨[1,2,8,9],[],[.s 10],[.v (.int .i64) []]⟩ .lf)) (.sq .lf (.sq .lf (.jn ⟨[1,2,9],[],[.s 11],[.v (.int .u64) []]⟩ (.sq .lf (.lp ⟨[1,2,8,9],[],[.s 11,.s 12],[.v (.int .u64) [],.v (.int .i64) []]⟩ .lf)) (.jn ⟨[1,2,9,11],[],[],[]⟩ .lf (.sq .lf (.jn ⟨[1,2],[],[.s 13],[.v (.int .i64) []]⟩ .lf .lf))))))))))))
theorem aV8(N:Nat):aK E [⟨212,EO,EP,wP N⟩] N Tryz.f175 aV7 EQ ER=SO N:=by kernel_rfl
theorem aV9(N:Nat):aK (E.wop ops) [⟨120,oF,oG,pK N⟩,⟨175,EQ,ER,SO N⟩,⟨122,qK,qL,wO N⟩] N Tryz.f124 .lf yV yW=BL N:=by kernel_rfl
theorem aWA(N:Nat):aK (E.wop ops) [⟨120,oF,oG,pK N⟩,⟨121,SL,SM,aHI N⟩,⟨122,qK,qL,wO N⟩,⟨123,EM,EN,SN N⟩,⟨124,yV,yW,BL N⟩] N Tryz.f67 .lf SP SQ=aHJ N:=by kernel_rfl
theorem aWB(N:Nat):aK E [] N Tryz.f45 .lf SR SS=aL2 N:=by kernel_rfl
theorem aWC(N:Nat):aK (E.wop ops) [⟨120,oF,oG,pK N⟩,⟨124,yV,yW,BL N⟩,⟨45,SR,SS,aL2 N⟩,⟨125,yT,yU,IN N⟩] N Tryz.f68 .lf ST SU=aHK N:=by kernel_rfl
theorem aWD(N:Nat):aK (E.wop ops) [⟨120,oF,oG,pK N⟩,⟨122,qK,qL,wO N⟩,⟨175,EQ,ER,SO N⟩] N Tryz.f126 .lf SW SX=aA7 N:=by kernel_rfl
theorem aWE(N:Nat):aK E [] N Tryz.f93 .lf SY SZ=aL3 N:=by kernel_rfl
def aWF:Ann:=(.sq .lf (.jn ⟨[],[],[],[]⟩ (.sq .lf (.lp ⟨[0,6,7],[4],[.s 8],[.v (.int .i64) []]⟩ .lf)) .lf))
theorem aWG(N:Nat):aK E [⟨93,SY,SZ,aL3 N⟩] N Tryz.f127 aWF TP TQ=aHL N:=by kernel_rfl
def aWH:Ann:=(.sq .lf (.sq .lf (.sq .lf (.sq .lf (.sq .lf (.sq .lf (.sq .lf (.cl [3,2]))))))))
theorem aWI(N:Nat):aK (E.wop ops) [⟨124,yV,yW,BL N⟩,⟨126,SW,SX,aA7 N⟩,⟨120,oF,oG,pK N⟩,⟨127,TP,TQ,aHL N⟩,⟨122,qK,qL,wO N⟩] N Tryz.f69 aWH TR TS=aHM N:=by kernel_rfl
theorem aWJ(N:Nat):aK E [] N Tryz.f48 .lf TT TU=aL4 N:=by kernel_rfl
theorem aWK(N:Nat):aK (E.wop ops) [⟨48,TT,TU,aL4 N⟩,⟨125,yT,yU,IN N⟩,⟨123,EM,EN,SN N⟩,⟨120,oF,oG,pK N⟩] N Tryz.f70 .lf TV TW=aHN N:=by kernel_rfl
def aB1:Ann:=(.sq .lf (.sq .lf (.jn ⟨[],[],[],[]⟩ (.sq .lf (.lp ⟨[0],[],[.s 3],[.v (.int .i64) []]⟩ (.sq .lf (.sq (.jn ⟨[0,3],[],[.s 4],[.v (.bool) []]⟩ .lf .lf) .lf)))) .lf)))
theorem aB2(N:Nat):aK E [⟨212,EO,EP,wP N⟩] N Tryz.f149 aB1 iX iY=fH N:=by kernel_rfl
theorem aWL(N:Nat):aK E [] N Tryz.f150 .lf TX TY=C3 N:=by kernel_rfl
def aWM:Ann:=(.sq .lf (.sq (.sq .lf (.sq .lf (.sq .lf (.sq .lf (.jn ⟨[1],[2],[.s 13],[.v (.bool) []]⟩ .lf (.sq .lf (.jn ⟨[1],[2],[.s 23],[.v (.bool) []]⟩ .lf .lf))))))) .lf))
theorem aWN(N:Nat):aK E [⟨117,mH,mI,nT N⟩,⟨149,iX,iY,fH N⟩,⟨92,EK,EL,KP N⟩,⟨150,TX,TY,C3 N⟩] N Tryz.f86 aWM TZ UA=aHO N:=by kernel_rfl
theorem aWO(N:Nat):aK E [⟨149,iX,iY,fH N⟩] N Tryz.f151 .lf ES ET=UB N:=by kernel_rfl
def aWP:Ann:=(.sq .lf (.sq .lf (.jn ⟨[],[],[],[]⟩ (.sq .lf (.lp ⟨[0,9,10],[],[.s 11],[.v (.int .i64) []]⟩ (.sq .lf (.sq .lf (.sq (.sq .lf (.sq .lf (.jn ⟨[0,3,4,9,10,11],[14],[],[]⟩ .lf .lf))) .lf))))) .lf)))
theorem aWQ(N:Nat):aK E [⟨151,ES,ET,UB N⟩] N Tryz.f87 aWP UC UD=aHP N:=by kernel_rfl
theorem aWR(N:Nat):aK E [] N Tryz.f152 .lf UE UF=aL5 N:=by kernel_rfl
theorem aWS(N:Nat):aK E [] N Tryz.f213 .lf EU EV=aA8 N:=by kernel_rfl
def aB3:Ann:=(.sq .lf (.sq .lf (.jn ⟨[4],[2],[],[]⟩ (.sq .lf (.lp ⟨[1,4,11,12],[2],[.s 13],[.v (.int .i64) []]⟩ .lf)) .lf)))
theorem aB4(N:Nat):aK E [⟨213,EU,EV,aA8 N⟩] N Tryz.f153 aB3 sZ tA=tB N:=by kernel_rfl
theorem aWT(N:Nat):aK E [] N Tryz.f214 .lf UG UH=aL6 N:=by kernel_rfl
def aWU:Ann:=(.sq .lf (.sq .lf (.jn ⟨[],[],[],[]⟩ (.sq .lf (.lp ⟨[1,10,11],[2],[.s 12],[.v (.int .i64) []]⟩ .lf)) .lf)))
theorem aWV(N:Nat):aK E [⟨117,mH,mI,nT N⟩,⟨214,UG,UH,aL6 N⟩] N Tryz.f154 aWU UI UJ=aHQ N:=by kernel_rfl
def aWW:Ann:=(.sq .lf (.sq .lf (.jn ⟨[],[],[.s 3],[.v (.str) []]⟩ (.sq .lf (.lp ⟨[7,8],[],[.s 3,.s 9],[.v (.str) [],.v (.int .i64) []]⟩ .lf)) .lf)))
theorem aWX(N:Nat):aK E [] N Tryz.f156 aWW UK UL=aHR N:=by kernel_rfl
def aB5:Ann:=(.sq .lf (.sq .lf (.jn ⟨[],[],[],[]⟩ (.sq .lf (.lp ⟨[0],[],[.s 3],[.v (.int .i64) []]⟩ .lf)) .lf)))
theorem aB6(N:Nat):aK E [] N Tryz.f155 aB5 tC tD=pL N:=by kernel_rfl
def aWY:Ann:=(.sq .lf (.sq .lf (.jn ⟨[],[],[.s 3],[.v (.slice (.int .i32)) [0]]⟩ (.sq .lf (.lp ⟨[7],[],[.s 3,.o 5],[.v (.slice (.int .i32)) [0],.i]⟩ .lf)) .lf)))
theorem aWZ(N:Nat):aK E [] N Tryz.f254 aWY UM UN=aHS N:=by kernel_rfl
theorem aID(N:Nat):aK E [⟨117,mH,mI,nT N⟩,⟨254,UM,UN,aHS N⟩] N Tryz.f215 .lf wQ wR=qM N:=by kernel_rfl
def aIE:Ann:=(.sq .lf (.sq .lf (.jn ⟨[],[],[.s 3],[.v (.int .i64) []]⟩ (.sq .lf (.lp ⟨[8,9],[],[.s 3,.s 10],[.v (.int .i64) [],.v (.int .i64) []]⟩ .lf)) .lf)))
theorem aIF(N:Nat):aK E [⟨215,wQ,wR,qM N⟩] N Tryz.f157 aIE qN qO=mJ N:=by kernel_rfl
theorem aW0(N:Nat):aK E [⟨151,ES,ET,UB N⟩,⟨213,EU,EV,aA8 N⟩] N Tryz.f216 .lf UO UP=aHT N:=by kernel_rfl
def aW1:Ann:=(.sq .lf (.sq .lf (.sq .lf (.sq .lf (.jn ⟨[],[],[.s 6],[.v (.slice Y6) [0]]⟩ (.sq .lf (.lp ⟨[1,2,18,19],[2],[.s 6,.s 20],[.v (.slice Y6) [0],.v (.int .i64) []]⟩ (.sq .lf (.sq .lf (.sq (.sq .lf (.sq .lf (.sq .lf (.sq .lf (.jn ⟨[1,2,6,8,9,18,19,20],[18,2],[.o 40],[.b 238 Y6 []]⟩ .lf .lf))))) .lf))))) .lf)))))
theorem aW2(N:Nat):aK E [⟨216,UO,UP,aHT N⟩] N Tryz.f158 aW1 UQ UR=aA9 N:=by kernel_rfl
def aW3:Ann:=(.sq .lf (.sq .lf (.sq .lf (.sq (.sq .lf (.sq .lf (.sq .lf (.sq .lf (.jn ⟨[2,5],[33,2],[.s 46],[.v (.bool) []]⟩ .lf .lf))))) (.sq .lf (.jn ⟨[5],[33],[.s 7],[.v (.slice (.int .i64)) [0]]⟩ (.sq .lf (.lp ⟨[5,68,69],[33],[.s 7,.s 70],[.v (.slice (.int .i64)) [0],.v (.int .i64) []]⟩ .lf)) .lf))))))
theorem aW4(N:Nat):aK E [⟨152,UE,UF,aL5 N⟩,⟨153,sZ,tA,tB N⟩,⟨149,iX,iY,fH N⟩,⟨154,UI,UJ,aHQ N⟩,⟨156,UK,UL,aHR N⟩,⟨155,tC,tD,pL N⟩,⟨157,qN,qO,mJ N⟩,⟨158,UQ,UR,aA9 N⟩] N Tryz.f88 aW3 US UT=aHU N:=by kernel_rfl
theorem aB7(N:Nat):aK E [] N Tryz.f89 .lf tE tF=pM N:=by kernel_rfl
def aB8:Ann:=(.sq .lf (.jn ⟨[],[],[],[]⟩ (.sq .lf (.lp ⟨[1,8,9],[],[.s 10],[.v (.int .i64) []]⟩ .lf)) .lf))
theorem aB9(N:Nat):aK E [] N Tryz.f90 aB8 oH oI=iI N:=by kernel_rfl
def aIG:Ann:=(.sq .lf (.sq .lf (.jn ⟨[],[],[.s 3],[.v (.int .i64) []]⟩ (.sq .lf (.lp ⟨[8,9],[],[.s 3,.s 10],[.v (.int .i64) [],.v (.int .i64) []]⟩ .lf)) .lf)))
theorem aIH(N:Nat):aK E [⟨157,qN,qO,mJ N⟩] N Tryz.f159 aIG wS wT=oJ N:=by kernel_rfl
def aW5:Ann:=(.sq .lf (.sq .lf (.sq .lf (.jn ⟨[2,5],[10,2],[],[]⟩ .lf (.sq .lf (.sq .lf (.jn ⟨[5],[10],[],[]⟩ .lf .lf)))))))
theorem aW6(N:Nat):aK E [⟨90,oH,oI,iI N⟩,⟨159,wS,wT,oJ N⟩,⟨149,iX,iY,fH N⟩,⟨117,mH,mI,nT N⟩] N Tryz.f91 aW5 UU UV=aHV N:=by kernel_rfl
def aW7:Ann:=(.sq .lf (.sq .lf (.sq .lf (.sq .lf (.jn ⟨[1],[2],[],[]⟩ (.sq .lf (.lp ⟨[1,26,27],[2],[.s 28],[.v (.int .i64) []]⟩ .lf)) (.sq .lf (.jn ⟨[],[],[],[]⟩ (.sq .lf (.lp ⟨[1,71],[2],[.s 72],[.v (.int .i64) []]⟩ .lf)) .lf)))))))
theorem aW8(N:Nat):aK E [⟨86,TZ,UA,aHO N⟩,⟨87,UC,UD,aHP N⟩,⟨88,US,UT,aHU N⟩,⟨89,tE,tF,pM N⟩,⟨90,oH,oI,iI N⟩,⟨91,UU,UV,aHV N⟩] N Tryz.f39 aW7 UW UX=aHW N:=by kernel_rfl
def aW9:Ann:=(.sq .lf (.sq .lf (.sq .lf (.jn ⟨[2,6],[2],[.o 11],[.d 27 Y1]⟩ (.sq .lf (.lp ⟨[0,2,6,20,21],[2],[.s 22,.o 11],[.v (.int .i64) [],.d 27 Y1]⟩ (.sq .lf (.sq .lf (.sq (.sq .lf (.sq .lf (.sq .lf (.jn ⟨[0,2,6,7,9,20,21,22],[2],[.o 44,.o 11],[.b 114 Y9 [],.d 27 Y1]⟩ (.sq .lf (.sq .lf (.sq .lf (.sq .lf (.sq .lf (.sq .lf (.sq .lf (.sq .lf (.sq (.sq .lf (.cl [18])) .lf))))))))) .lf)))) .lf))))) (.sq (.sq (.cl [15,14]) .lf) .lf)))))
theorem aXA(N:Nat):aK (E.wop ops) [⟨64,SC,SD,aHG N⟩,⟨65,SE,SG,aHH N⟩,⟨66,sV,sW,pJ N⟩,⟨67,SP,SQ,aHJ N⟩,⟨68,ST,SU,aHK N⟩,⟨69,TR,TS,aHM N⟩,⟨70,TV,TW,aHN N⟩,⟨39,UW,UX,aHW N⟩] N Tryz.f23 aW9 UY UZ=aHX N:=by kernel_rfl
theorem aXB(N:Nat):aK E [⟨73,RY,RZ,aHF N⟩,⟨23,UY,UZ,aHX N⟩] N Tryz.f28 .lf VA VB=aHY N:=by kernel_rfl
theorem aXC(N:Nat):aK E [] N Tryz.f53 .lf VC VD=aHZ N:=by kernel_rfl
def aXD:Ann:=(.sq .lf (.sq .lf (.jn ⟨[],[],[],[]⟩ (.sq .lf (.lp ⟨[0,1,12],[],[.s 13],[.v (.int .i64) []]⟩ .lf)) .lf)))
theorem aXE(N:Nat):aK E [] N Tryz.f54 aXD VE VF=aH0 N:=by kernel_rfl
def aXF:Ann:=(.sq .lf (.sq .lf (.jn ⟨[],[],[],[]⟩ (.sq .lf (.lp ⟨[0,1,12],[],[.s 13],[.v (.int .i64) []]⟩ .lf)) .lf)))
theorem aXG(N:Nat):aK E [] N Tryz.f217 aXF VG VH=aH1 N:=by kernel_rfl
theorem aXH(N:Nat):aK E [⟨217,VG,VH,aH1 N⟩] N Tryz.f163 .lf EW EX=C4 N:=by kernel_rfl
def aXI:Ann:=(.sq .lf (.sq .lf (.jn ⟨[],[],[],[]⟩ (.sq .lf (.lp ⟨[1,2,15,16],[],[.s 17],[.v (.int .i64) []]⟩ .lf)) .lf)))
theorem aXJ(N:Nat):aK E [⟨163,EW,EX,C4 N⟩] N Tryz.f162 aXI VI VJ=aL7 N:=by kernel_rfl
theorem aXK(N:Nat):aK E [⟨162,VI,VJ,aL7 N⟩,⟨163,EW,EX,C4 N⟩] N Tryz.f95 .lf VK VL=aH2 N:=by kernel_rfl
theorem aXL(N:Nat):aK E [⟨95,VK,VL,aH2 N⟩] N Tryz.f56 .lf EY EZ=aBA N:=by kernel_rfl
def aXM:Ann:=(.sq .lf (.sq .lf (.jn ⟨[],[],[],[]⟩ (.sq .lf (.lp ⟨[1,2,15,16],[],[.s 17],[.v (.int .i64) []]⟩ .lf)) .lf)))
theorem aXN(N:Nat):aK E [⟨56,EY,EZ,aBA N⟩] N Tryz.f55 aXM VM VN=aH3 N:=by kernel_rfl
def aXO:Ann:=(.sq .lf (.sq .lf (.jn ⟨[],[],[],[]⟩ (.sq .lf (.lp ⟨[0,1,12],[],[.s 13],[.v (.int .i64) []]⟩ .lf)) .lf)))
theorem aXP(N:Nat):aK E [] N Tryz.f57 aXO VO VP=aL8 N:=by kernel_rfl
theorem aXQ(N:Nat):aK E [⟨53,VC,VD,aHZ N⟩,⟨54,VE,VF,aH0 N⟩,⟨55,VM,VN,aH3 N⟩,⟨56,EY,EZ,aBA N⟩,⟨57,VO,VP,aL8 N⟩] N Tryz.f18 .lf VQ VR=aBB N:=by kernel_rfl
def aXR:Ann:=(.sq .lf (.sq .lf (.jn ⟨[],[],[],[]⟩ (.sq .lf (.lp ⟨[0,1,12],[],[.s 13],[.v (.int .i64) []]⟩ .lf)) .lf)))
theorem aXS(N:Nat):aK E [] N Tryz.f29 aXR VS VT=aH4 N:=by kernel_rfl
theorem yX(N:Nat):aK E [⟨10,qF,qG,pH N⟩,⟨26,qH,qI,mU N⟩,⟨27,RC,RD,aG9 N⟩,⟨28,VA,VB,aHY N⟩,⟨18,VQ,VR,aBB N⟩,⟨29,VS,VT,aH4 N⟩] N Tryz.f6 .lf nL nM=fI N:=by kernel_rfl
theorem wV(N:Nat):aG E ⟨193,hP,hY,utf8_ValidString N⟩:=vA N
theorem bER(N:Nat):aG E ⟨243,N1,N2,q11 N⟩:=aM aJ (bA3 N) trivial Tryz.func243 (by kernel_rfl)
theorem aSD(N:Nat):aG E ⟨194,OV,OW,q12 N⟩:=aM aJ (bA4 N) ⟨bER N,trivial⟩ Tryz.func194 (by kernel_rfl)
theorem aaIO(N:Nat):aG E ⟨134,qD,qE,q13 N⟩:=aM aJ (bA6 N) ⟨wV N,aSD N,trivial⟩ Tryz.func134 (by kernel_rfl)
theorem aET(N:Nat):aG E ⟨135,BE,BF,q14 N⟩:=aM aJ (bA8 N) trivial Tryz.func135 (by kernel_rfl)
theorem aME(N:Nat):aG E ⟨83,IC,ID,q15 N⟩:=aM aJ (bA9 N) trivial Tryz.func83 (by kernel_rfl)
theorem bES(N:Nat):aG E ⟨195,N3,N4,q16 N⟩:=aM aJ (bBA N) ⟨aME N,trivial⟩ Tryz.func195 (by kernel_rfl)
theorem bET(N:Nat):aG E ⟨196,N5,N6,q17 N⟩:=aM aJ (bBB N) ⟨aME N,trivial⟩ Tryz.func196 (by kernel_rfl)
theorem bEU(N:Nat):aG E ⟨136,N7,N8,q18 N⟩:=aM aJ (bBC N) ⟨bES N,bET N,trivial⟩ Tryz.func136 (by kernel_rfl)
theorem bEV(N:Nat):aG E ⟨74,N9,O1,q19 N⟩:=aM aJ (bBE N) ⟨aaIO N,aET N,bEU N,trivial⟩ Tryz.func74 (by kernel_rfl)
theorem bEW(N:Nat):aG E ⟨197,O2,O3,q20 N⟩:=aM aJ (bBF N) trivial Tryz.func197 (by kernel_rfl)
theorem aSE(N:Nat):aG E ⟨137,OX,OY,q21 N⟩:=aM aJ (bBG N) ⟨aET N,bEW N,trivial⟩ Tryz.func137 (by kernel_rfl)
theorem bEX(N:Nat):aG E ⟨75,O4,O5,q22 N⟩:=aM aJ (bBI N) ⟨aSE N,trivial⟩ Tryz.func75 (by kernel_rfl)
theorem aSF(N:Nat):aG E ⟨198,OZ,PA,q23 N⟩:=aM aJ (bBJ N) trivial Tryz.func198 (by kernel_rfl)
theorem bEY(N:Nat):aG E ⟨138,O6,O7,q24 N⟩:=aM aJ (bBL N) ⟨aSF N,trivial⟩ Tryz.func138 (by kernel_rfl)
theorem bEZ(N:Nat):aG E ⟨139,O8,O9,q25 N⟩:=aM aJ (bBM N) trivial Tryz.func139 (by kernel_rfl)
theorem aSG(N:Nat):aG E ⟨85,PB,PC,q26 N⟩:=aM aJ (bBN N) trivial Tryz.func85 (by kernel_rfl)
theorem aSH(N:Nat):aG E ⟨38,PD,PE,q27 N⟩:=aM aJ (bBO N) ⟨aSG N,trivial⟩ Tryz.func38 (by kernel_rfl)
theorem bE0(N:Nat):aG E ⟨244,P0,P1,q28 N⟩:=aM aJ (bBP N) trivial Tryz.func244 (by kernel_rfl)
theorem bE1(N:Nat):aG E ⟨245,P2,P3,q29 N⟩:=aM aJ (bBQ N) trivial Tryz.func245 (by kernel_rfl)
theorem bE2(N:Nat):aG E ⟨199,P4,P5,q30 N⟩:=aM aJ (bBS N) ⟨aaIO N,bE0 N,bE1 N,trivial⟩ Tryz.func199 (by kernel_rfl)
theorem fY(N:Nat):aG E ⟨146,cO,cP,bQ N⟩:=lU N
theorem aMF(N:Nat):aG E ⟨79,IE,IF,q31 N⟩:=aM aJ (bBT N) ⟨fY N,trivial⟩ Tryz.func79 (by kernel_rfl)
theorem bE3(N:Nat):aG E ⟨200,P6,P7,q32 N⟩:=aM aJ (bBV N) ⟨aMF N,trivial⟩ Tryz.func200 (by kernel_rfl)
theorem nO(N:Nat):aG E ⟨201,eE,eF,strings_Contains N⟩:=vB N
theorem aSI(N:Nat):aG E ⟨226,PF,PG,q33 N⟩:=aM aJ (bBX N) trivial Tryz.func226 (by kernel_rfl)
theorem bE4(N:Nat):aG E ⟨246,P8,P9,q34 N⟩:=aM aJ (bBY N) ⟨aaIO N,aSI N,trivial⟩ Tryz.func246 (by kernel_rfl)
theorem aSJ(N:Nat):aG E ⟨202,PH,PI,q35 N⟩:=aM aJ (bB0 N) ⟨bE4 N,trivial⟩ Tryz.func202 (by kernel_rfl)
theorem bE5(N:Nat):aG E ⟨140,Q0,Q1,q36 N⟩:=aM aJ (bB1 N) ⟨bE2 N,bE3 N,nO N,aSJ N,trivial⟩ Tryz.func140 (by kernel_rfl)
theorem aSK(N:Nat):aG E ⟨142,PJ,PL,q37 N⟩:=aM aJ (bB3 N) ⟨aSJ N,trivial⟩ Tryz.func142 (by kernel_rfl)
theorem bE6(N:Nat):aG E ⟨203,Q2,Q3,q38 N⟩:=aM aJ (bB4 N) ⟨aSF N,aSE N,trivial⟩ Tryz.func203 (by kernel_rfl)
theorem bE7(N:Nat):aG E ⟨141,Q4,Q5,q39 N⟩:=aM aJ (bB6 N) ⟨bE6 N,trivial⟩ Tryz.func141 (by kernel_rfl)
theorem bE8(N:Nat):aG E ⟨76,Q6,Q7,q40 N⟩:=aM aJ (bB8 N) ⟨bEY N,bEZ N,aSH N,aET N,bE5 N,aSK N,bE7 N,trivial⟩ Tryz.func76 (by kernel_rfl)
theorem bE9(N:Nat):aG E ⟨204,Q8,Q9,q41 N⟩:=aM aJ (bB9 N) trivial Tryz.func204 (by kernel_rfl)
theorem bFA(N:Nat):aG E ⟨144,R0,R1,q42 N⟩:=aM aJ (bCA N) ⟨bE9 N,trivial⟩ Tryz.func144 (by kernel_rfl)
theorem bFB(N:Nat):aG E ⟨143,R2,R3,q43 N⟩:=aM aJ (bCC N) trivial Tryz.func143 (by kernel_rfl)
theorem bFC(N:Nat):aG E ⟨77,R4,R5,q44 N⟩:=aM aJ (bCD N) ⟨bFA N,bFB N,trivial⟩ Tryz.func77 (by kernel_rfl)
theorem bFD(N:Nat):aG E ⟨205,R6,R7,q45 N⟩:=aM aJ (bCF N) ⟨aSK N,trivial⟩ Tryz.func205 (by kernel_rfl)
theorem bFE(N:Nat):aG E ⟨145,R8,R9,q46 N⟩:=aM aJ (bCG N) ⟨bFD N,trivial⟩ Tryz.func145 (by kernel_rfl)
theorem bFF(N:Nat):aG E ⟨78,S1,S2,q47 N⟩:=aM aJ (bCI N) ⟨bFE N,aET N,aaIO N,trivial⟩ Tryz.func78 (by kernel_rfl)
theorem aSL(N:Nat):aG E ⟨30,PM,PN,q48 N⟩:=aM aJ (bCK N) ⟨bEV N,bEX N,bE8 N,bFC N,bFF N,trivial⟩ Tryz.func30 (by kernel_rfl)
theorem aSM(N:Nat):aG E ⟨34,PO,PP,q49 N⟩:=aM aJ (bCL N) ⟨aME N,trivial⟩ Tryz.func34 (by kernel_rfl)
theorem bFG(N:Nat):aG E ⟨35,S3,S4,q50 N⟩:=aM aJ (bCM N) trivial Tryz.func35 (by kernel_rfl)
theorem tG(N:Nat):aG E ⟨148,fS,fT,eW N⟩:=rE N
theorem bFH(N:Nat):aG E ⟨84,S5,S6,q51 N⟩:=aM aJ (bCN N) ⟨tG N,trivial⟩ Tryz.func84 (by kernel_rfl)
theorem aSN(N:Nat):aG E ⟨37,PQ,PR,q52 N⟩:=aM aJ (bCO N) ⟨bFH N,trivial⟩ Tryz.func37 (by kernel_rfl)
theorem bFI(N:Nat):aG E ⟨36,S7,S8,q53 N⟩:=aM aJ (bCP N) ⟨aSN N,trivial⟩ Tryz.func36 (by kernel_rfl)
theorem bFJ(N:Nat):aG E ⟨33,S9,T0,q54 N⟩:=aM aJ (bCR N) trivial Tryz.func33 (by kernel_rfl)
theorem bFK(N:Nat):aG E ⟨12,T7,T8,q55 N⟩:=aM aJ (bCT N) ⟨aSL N,aSM N,bFG N,bFI N,bFJ N,aSN N,aSH N,trivial⟩ Tryz.func12 (by kernel_rfl)
theorem bFL(N:Nat):aG E ⟨101,T9,U0,q56 N⟩:=aM aJ (bCV N) trivial Tryz.func101 (by kernel_rfl)
theorem aMG(N:Nat):aG E ⟨220,IG,IH,q57 N⟩:=aM aJ (bCW N) trivial Tryz.func220 (by kernel_rfl)
theorem aSO(N:Nat):aG E ⟨221,PS,PT,q58 N⟩:=aM aJ (bCX N) ⟨aMG N,trivial⟩ Tryz.func221 (by kernel_rfl)
theorem wW(N:Nat):aG E ⟨166,lC,lD,dW N⟩:=aM aJ (aBF N) ⟨aMG N,aSO N,trivial⟩ Tryz.func166 (by kernel_rfl)
theorem bFM(N:Nat):aG E ⟨102,U1,U2,q59 N⟩:=aM aJ (bCZ N) ⟨wW N,aaIO N,trivial⟩ Tryz.func102 (by kernel_rfl)
theorem bFN(N:Nat):aG E ⟨103,U3,U4,q60 N⟩:=aM aJ (bC1 N) ⟨aaIO N,trivial⟩ Tryz.func103 (by kernel_rfl)
theorem aSP(N:Nat):aG E ⟨60,PU,PV,q61 N⟩:=aM aJ (bC3 N) ⟨bFL N,bFM N,bFN N,trivial⟩ Tryz.func60 (by kernel_rfl)
theorem yY(N:Nat):aG E ⟨207,iQ,iR,strings_Replace N⟩:=wU N
theorem bFO(N:Nat):aG E ⟨147,U5,U6,q62 N⟩:=aM aJ (bC4 N) ⟨yY N,trivial⟩ Tryz.func147 (by kernel_rfl)
theorem bFP(N:Nat):aG E ⟨80,U7,U8,q63 N⟩:=aM aJ (bC6 N) ⟨bFO N,trivial⟩ Tryz.func80 (by kernel_rfl)
theorem bFQ(N:Nat):aG E ⟨81,U9,V1,q64 N⟩:=aM aJ (bC7 N) trivial Tryz.func81 (by kernel_rfl)
theorem bFR(N:Nat):aG E ⟨31,V2,V3,q65 N⟩:=aM aJ (bC9 N) ⟨aSP N,aMF N,bFP N,bFQ N,trivial⟩ Tryz.func31 (by kernel_rfl)
theorem bFS(N:Nat):aG E ⟨14,V4,V5,q66 N⟩:=aM aJ (bDA N) ⟨bFK N,bFR N,trivial⟩ Tryz.func14 (by kernel_rfl)
theorem D0(N:Nat):aG E ⟨10,qF,qG,pH N⟩:=aM aJ (C8 N) ⟨bFS N,trivial⟩ Tryz.func10 (by kernel_rfl)
theorem D9(N:Nat):aG E ⟨26,qH,qI,mU N⟩:=aM aJ (C9 N) trivial Tryz.func26 (by kernel_rfl)
theorem rF(N:Nat):aG E ⟨227,eX,eY,eG N⟩:=qP N
theorem rB(N:Nat):aG E ⟨180,gX,gY,strings_Index N⟩:=BM N
theorem bFT(N:Nat):aG E ⟨176,V6,V7,q67 N⟩:=aM aJ (bDC N) ⟨aSI N,rF N,rB N,trivial⟩ Tryz.func176 (by kernel_rfl)
theorem bFU(N:Nat):aG E ⟨228,V8,V9,q68 N⟩:=aM aJ (bDE N) trivial Tryz.func228 (by kernel_rfl)
theorem bFV(N:Nat):aG E ⟨260,W0,X0,q69 N⟩:=aM aJ (bDG N) trivial Tryz.func260 (by kernel_rfl)
theorem bFW(N:Nat):aG E ⟨229,X1,X2,q70 N⟩:=aM aJ (bDI N) ⟨bFV N,trivial⟩ Tryz.func229 (by kernel_rfl)
theorem bFX(N:Nat):aG E ⟨177,X3,X4,q71 N⟩:=aM aJ (bDJ N) ⟨bFU N,bFW N,trivial⟩ Tryz.func177 (by kernel_rfl)
theorem aMH(N:Nat):aG E ⟨128,BG,BH,lR N⟩:=aM aJ (aMB N) ⟨bFT N,bFX N,trivial⟩ Tryz.func128 (by kernel_rfl)
theorem nU(N:Nat):aG E ⟨261,dM,dN,dF N⟩:=nN N
theorem bFY(N:Nat):aG E ⟨230,X5,X6,q72 N⟩:=aM aJ (bDK N) ⟨nU N,trivial⟩ Tryz.func230 (by kernel_rfl)
theorem bFZ(N:Nat):aG E ⟨178,X7,X8,q73 N⟩:=aM aJ (bDL N) ⟨bFY N,trivial⟩ Tryz.func178 (by kernel_rfl)
theorem aSQ(N:Nat):aG E ⟨231,PW,PX,q74 N⟩:=aM aJ (bDM N) trivial Tryz.func231 (by kernel_rfl)
theorem aSR(N:Nat):aG E ⟨179,PY,PZ,q75 N⟩:=aM aJ (bDN N) ⟨aSQ N,trivial⟩ Tryz.func179 (by kernel_rfl)
theorem wX(N:Nat):aG E ⟨181,lE,lF,eL N⟩:=aM aJ (aBH N) ⟨aMG N,aSO N,trivial⟩ Tryz.func181 (by kernel_rfl)
theorem bF0(N:Nat):aG E ⟨233,X9,Y0,q76 N⟩:=aM aJ (bDO N) trivial Tryz.func233 (by kernel_rfl)
theorem aMI(N:Nat):aG E ⟨182,II,IJ,q77 N⟩:=aM aJ (bDQ N) ⟨bF0 N,trivial⟩ Tryz.func182 (by kernel_rfl)
theorem bF1(N:Nat):aG E ⟨234,Z0,Z1,q78 N⟩:=aM aJ (bDS N) ⟨wX N,aMI N,trivial⟩ Tryz.func234 (by kernel_rfl)
theorem bF2(N:Nat):aG E ⟨183,Z2,Z3,q79 N⟩:=aM aJ (bDU N) ⟨wX N,aMI N,bF1 N,trivial⟩ Tryz.func183 (by kernel_rfl)
theorem aCA(N:Nat):aG E ⟨129,sI,sJ,eM N⟩:=aM aJ (aBJ N) ⟨bFZ N,aSR N,rB N,wX N,aMI N,bF2 N,trivial⟩ Tryz.func129 (by kernel_rfl)
theorem IP(N:Nat):aG E ⟨235,lS,lT,gZ N⟩:=DH N
theorem aCB(N:Nat):aG E ⟨273,sK,sL,sM N⟩:=C7 N
theorem bF3(N:Nat):aG E ⟨301,Z4,Z5,q80 N⟩:=aM aJ (bDW N) trivial Tryz.func301 (by kernel_rfl)
theorem bF4(N:Nat):aG E ⟨288,Z6,Z7,q81 N⟩:=aM aJ (bDY N) ⟨aSR N,bF3 N,aSD N,trivial⟩ Tryz.func288 (by kernel_rfl)
theorem bF5(N:Nat):aG E ⟨289,Z8,Z9,q82 N⟩:=aM aJ (bDZ N) ⟨fY N,trivial⟩ Tryz.func289 (by kernel_rfl)
theorem bF6(N:Nat):aG E ⟨272,aAA,aAB,q83 N⟩:=aM aJ (bD1 N) ⟨bF4 N,aMF N,bF5 N,trivial⟩ Tryz.func272 (by kernel_rfl)
theorem aSS(N:Nat):aG E ⟨236,QA,QB,q84 N⟩:=aM aJ (bD2 N) ⟨aCB N,bF6 N,aaIO N,trivial⟩ Tryz.func236 (by kernel_rfl)
theorem aST(N:Nat):aG E ⟨237,QC,QD,q85 N⟩:=aM aJ (bD4 N) trivial Tryz.func237 (by kernel_rfl)
theorem bF7(N:Nat):aG E ⟨184,aAC,aAD,q86 N⟩:=aM aJ (bD6 N) ⟨IP N,nO N,aSS N,aST N,trivial⟩ Tryz.func184 (by kernel_rfl)
theorem bF8(N:Nat):aG E ⟨185,aAE,aAF,q87 N⟩:=aM aJ (bD7 N) ⟨wW N,trivial⟩ Tryz.func185 (by kernel_rfl)
theorem bF9(N:Nat):aG E ⟨186,aAG,aAH,q88 N⟩:=aM aJ (bD9 N) ⟨wW N,aSS N,aST N,trivial⟩ Tryz.func186 (by kernel_rfl)
theorem bGA(N:Nat):aG E ⟨130,aAI,aAJ,q89 N⟩:=aM aJ (bEA N) ⟨bF7 N,bF8 N,bF9 N,trivial⟩ Tryz.func130 (by kernel_rfl)
theorem bGB(N:Nat):aG E ⟨72,aAK,aAL,q90 N⟩:=aM aJ (bEC N) ⟨aMH N,aCA N,bGA N,trivial⟩ Tryz.func72 (by kernel_rfl)
theorem bGC(N:Nat):aG E ⟨61,aAM,aAN,q91 N⟩:=aM aJ (bED N) trivial Tryz.func61 (by kernel_rfl)
theorem bGD(N:Nat):aG E ⟨104,aAO,aAP,q92 N⟩:=aM aJ (bEE N) trivial Tryz.func104 (by kernel_rfl)
theorem bGE(N:Nat):aG E ⟨105,aAQ,aAR,q93 N⟩:=aM aJ (bEG N) trivial Tryz.func105 (by kernel_rfl)
theorem bGF(N:Nat):aG E ⟨62,aAS,aAT,q94 N⟩:=aM aJ (bEI N) ⟨bGD N,bGE N,trivial⟩ Tryz.func62 (by kernel_rfl)
theorem E0(N:Nat):aG E ⟨106,wE,wF,q95 N⟩:=aM aJ (bEK N) trivial Tryz.func106 (by kernel_rfl)
theorem bGG(N:Nat):aG E ⟨167,aAU,aAV,q96 N⟩:=aM aJ (bEL N) trivial Tryz.func167 (by kernel_rfl)
theorem bGH(N:Nat):aG E ⟨107,aAW,aAX,q97 N⟩:=aM aJ (bEN N) ⟨bGG N,aSM N,trivial⟩ Tryz.func107 (by kernel_rfl)
theorem E1(N:Nat):aG E ⟨108,wG,wH,q98 N⟩:=aM aJ (bEO N) trivial Tryz.func108 (by kernel_rfl)
theorem bGI(N:Nat):aG E ⟨109,aAY,aAZ,q99 N⟩:=aM aJ (bEQ N) ⟨E1 N,E0 N,trivial⟩ Tryz.func109 (by kernel_rfl)
theorem aXT(N:Nat):aG E ⟨281,QE,QF,aLY N⟩:=aM aJ (aT9 N) ⟨aSQ N,trivial⟩ Tryz.func281 (by kernel_rfl)
theorem aXU(N:Nat):aG E ⟨255,QG,QH,aA0 N⟩:=aM aJ (aUA N) ⟨aXT N,trivial⟩ Tryz.func255 (by kernel_rfl)
theorem wY(N:Nat):aG E ⟨256,hZ,iA,dD N⟩:=vC N
theorem aXV(N:Nat):aG E ⟨222,QI,QJ,aA1 N⟩:=aM aJ (aUC N) ⟨aXU N,wY N,trivial⟩ Tryz.func222 (by kernel_rfl)
theorem aMJ(N:Nat):aG E ⟨168,DU,DV,B9 N⟩:=aM aJ (aUD N) ⟨aXV N,E1 N,trivial⟩ Tryz.func168 (by kernel_rfl)
theorem aMK(N:Nat):aG E ⟨110,DW,DX,QK N⟩:=aM aJ (aUE N) ⟨E0 N,aMJ N,trivial⟩ Tryz.func110 (by kernel_rfl)
theorem aXW(N:Nat):aG E ⟨111,QL,QM,QN N⟩:=aM aJ (aUF N) ⟨aMK N,trivial⟩ Tryz.func111 (by kernel_rfl)
theorem aML(N:Nat):aG E ⟨112,DY,DZ,IK N⟩:=aM aJ (aUH N) ⟨E0 N,E1 N,trivial⟩ Tryz.func112 (by kernel_rfl)
theorem aXX(N:Nat):aG E ⟨257,QO,QP,aLZ N⟩:=aM aJ (aUI N) trivial Tryz.func257 (by kernel_rfl)
theorem aXY(N:Nat):aG E ⟨223,QQ,QR,aL0 N⟩:=aM aJ (aUJ N) ⟨aXX N,trivial⟩ Tryz.func223 (by kernel_rfl)
theorem aXZ(N:Nat):aG E ⟨169,QS,QT,aG6 N⟩:=aM aJ (aUK N) ⟨aXY N,trivial⟩ Tryz.func169 (by kernel_rfl)
theorem aX0(N:Nat):aG E ⟨113,QU,QV,aA2 N⟩:=aM aJ (aUL N) ⟨E0 N,aXZ N,E1 N,aMJ N,trivial⟩ Tryz.func113 (by kernel_rfl)
theorem aX1(N:Nat):aG E ⟨114,QW,QX,aA3 N⟩:=aM aJ (aUN N) ⟨aSG N,trivial⟩ Tryz.func114 (by kernel_rfl)
theorem aX2(N:Nat):aG E ⟨115,QY,QZ,aG7 N⟩:=aM aJ (aUP N) ⟨aML N,trivial⟩ Tryz.func115 (by kernel_rfl)
theorem aCC(N:Nat):aG E ⟨63,sN,sO,nK N⟩:=kJ aJ kK (aBL N) ⟨E0 N,bGH N,E1 N,bGI N,aMK N,aXW N,aML N,aX0 N,aX1 N,aX2 N,trivial⟩ Tryz.func63 (by kernel_rfl)
theorem aX3(N:Nat):aG E ⟨22,RA,RB,aG8 N⟩:=kJ aJ kK (aUR N) ⟨aSP N,bGC N,bGF N,aCC N,aSL N,trivial⟩ Tryz.func22 (by kernel_rfl)
theorem aX4(N:Nat):aG E ⟨27,RC,RD,aG9 N⟩:=aM aJ (aUS N) ⟨bGB N,aX3 N,trivial⟩ Tryz.func27 (by kernel_rfl)
theorem aCD(N:Nat):aG E ⟨131,sP,sQ,iH N⟩:=aM aJ (aBN N) trivial Tryz.func131 (by kernel_rfl)
theorem wZ(N:Nat):aG E ⟨187,lG,lH,cS N⟩:=aM aJ (aBP N) trivial Tryz.func187 (by kernel_rfl)
theorem aCE(N:Nat):aG E ⟨188,yM,yN,yO N⟩:=aM aJ (aUT N) trivial Tryz.func188 (by kernel_rfl)
theorem aX5(N:Nat):aG E ⟨258,RE,RF,IL N⟩:=aM aJ (aUU N) trivial Tryz.func258 (by kernel_rfl)
theorem aMM(N:Nat):aG E ⟨259,EA,EB,IM N⟩:=aM aJ (aUV N) trivial Tryz.func259 (by kernel_rfl)
theorem aCF(N:Nat):aG E ⟨224,yP,yQ,KM N⟩:=aM aJ (aUX N) ⟨aX5 N,aMM N,trivial⟩ Tryz.func224 (by kernel_rfl)
theorem aMN(N:Nat):aG E ⟨274,EC,ED,KN N⟩:=aM aJ (aUY N) trivial Tryz.func274 (by kernel_rfl)
theorem xB(N:Nat):aG E ⟨239,lI,lJ,fF N⟩:=aM aJ (aBR N) ⟨aMN N,trivial⟩ Tryz.func239 (by kernel_rfl)
theorem aX6(N:Nat):aG E ⟨238,RG,RH,aA4 N⟩:=aM aJ (aU0 N) ⟨xB N,aCF N,aCE N,wZ N,trivial⟩ Tryz.func238 (by kernel_rfl)
theorem aII(N:Nat):aG E ⟨189,wI,wJ,uH N⟩:=aM aJ (aH9 N) ⟨aCE N,aCF N,aX6 N,xB N,trivial⟩ Tryz.func189 (by kernel_rfl)
theorem aCG(N:Nat):aG E ⟨132,sR,sS,pI N⟩:=aM aJ (aBS N) ⟨wZ N,aCE N,aII N,trivial⟩ Tryz.func132 (by kernel_rfl)
theorem aX7(N:Nat):aG E ⟨276,RI,RJ,aHA N⟩:=aM aJ (aU2 N) ⟨aMN N,trivial⟩ Tryz.func276 (by kernel_rfl)
theorem aIJ(N:Nat):aG E ⟨315,wK,wL,mG N⟩:=aM aJ (aIB N) ⟨aMM N,trivial⟩ Tryz.func315 (by kernel_rfl)
theorem aCH(N:Nat):aG E ⟨304,sT,sU,fG N⟩:=aM aJ (aBU N) ⟨aIJ N,trivial⟩ Tryz.func304 (by kernel_rfl)
theorem aX8(N:Nat):aG E ⟨225,RK,RL,aP8 N⟩:=aM aJ (aU3 N) trivial Tryz.func225 (by kernel_rfl)
theorem aCI(N:Nat):aG E ⟨171,yR,yS,uZ N⟩:=aM aJ (aU5 N) ⟨aX8 N,trivial⟩ Tryz.func171 (by kernel_rfl)
theorem aMO(N:Nat):aG E ⟨305,BI,BJ,qJ N⟩:=aM aJ (aMD N) ⟨aCI N,trivial⟩ Tryz.func305 (by kernel_rfl)
theorem aX9(N:Nat):aG E ⟨292,RM,RN,C0 N⟩:=aM aJ (aU7 N) ⟨aCH N,aCI N,aMO N,trivial⟩ Tryz.func292 (by kernel_rfl)
theorem aYA(N:Nat):aG E ⟨275,RO,RP,aHB N⟩:=aM aJ (aU9 N) ⟨aX9 N,trivial⟩ Tryz.func275 (by kernel_rfl)
theorem xC(N:Nat):aG E ⟨117,mH,mI,nT N⟩:=aM aJ (aVB N) ⟨aCI N,trivial⟩ Tryz.func117 (by kernel_rfl)
theorem aMP(N:Nat):aG E ⟨240,EE,EF,KO N⟩:=aM aJ (aVD N) ⟨aX7 N,aYA N,xC N,trivial⟩ Tryz.func240 (by kernel_rfl)
theorem aMQ(N:Nat):aG E ⟨241,EG,EH,DG N⟩:=aM aJ (aVF N) trivial Tryz.func241 (by kernel_rfl)
theorem aYB(N:Nat):aG E ⟨190,RQ,RR,aHC N⟩:=aM aJ (aVH N) ⟨xB N,wZ N,aMP N,aMQ N,trivial⟩ Tryz.func190 (by kernel_rfl)
theorem xD(N:Nat):aG E ⟨170,lK,lL,eN N⟩:=aM aJ (aBV N) ⟨aCF N,trivial⟩ Tryz.func170 (by kernel_rfl)
theorem aYC(N:Nat):aG E ⟨191,RS,RT,aHD N⟩:=aM aJ (aVI N) trivial Tryz.func191 (by kernel_rfl)
theorem aYD(N:Nat):aG E ⟨192,RU,RV,aHE N⟩:=aM aJ (aVK N) ⟨xD N,aMP N,aMQ N,trivial⟩ Tryz.func192 (by kernel_rfl)
theorem aYE(N:Nat):aG E ⟨133,RW,RX,C1 N⟩:=aM aJ (aVM N) ⟨aYB N,xD N,aYC N,aYD N,trivial⟩ Tryz.func133 (by kernel_rfl)
theorem aYF(N:Nat):aG E ⟨73,RY,RZ,aHF N⟩:=aM aJ (aVO N) ⟨aCD N,aCG N,aYE N,trivial⟩ Tryz.func73 (by kernel_rfl)
theorem aYG(N:Nat):aG E ⟨116,SA,SB,aA5 N⟩:=aM aJ (aVQ N) ⟨xD N,xC N,trivial⟩ Tryz.func116 (by kernel_rfl)
theorem aYH(N:Nat):aG E ⟨64,SC,SD,aHG N⟩:=aM aJ (aVS N) ⟨aYG N,xC N,trivial⟩ Tryz.func64 (by kernel_rfl)
theorem aYI(N:Nat):aG E ⟨65,SE,SG,aHH N⟩:=aM aJ (aVU N) trivial Tryz.func65 (by kernel_rfl)
theorem aYJ(N:Nat):aG E ⟨118,SH,SI,aA6 N⟩:=aM aJ (aVV N) trivial Tryz.func118 (by kernel_rfl)
theorem aMR(N:Nat):aG E ⟨172,EI,EJ,C2 N⟩:=aM aJ (aVX N) trivial Tryz.func172 (by kernel_rfl)
theorem aIK(N:Nat):aG E ⟨119,wM,wN,kP N⟩:=aM aJ (aIC N) ⟨aMR N,trivial⟩ Tryz.func119 (by kernel_rfl)
theorem aCJ(N:Nat):aG E ⟨66,sV,sW,pJ N⟩:=aM aJ (aBX N) ⟨aYJ N,aIK N,trivial⟩ Tryz.func66 (by kernel_rfl)
theorem IQ(N:Nat):aG E ⟨173,oD,oE,lM N⟩:=aM aJ (aBZ N) trivial Tryz.func173 (by kernel_rfl)
theorem BN(N:Nat):aG E ⟨120,oF,oG,pK N⟩:=kJ aJ kK (aVY N) ⟨IQ N,trivial⟩ Tryz.func120 (by kernel_rfl)
theorem aYK(N:Nat):aG E ⟨174,SJ,SK,aL1 N⟩:=aM aJ (aVZ N) trivial Tryz.func174 (by kernel_rfl)
theorem aMS(N:Nat):aG E ⟨92,EK,EL,KP N⟩:=aM aJ (aV0 N) trivial Tryz.func92 (by kernel_rfl)
theorem aCK(N:Nat):aG E ⟨42,sX,sY,lN N⟩:=aM aJ (aB0 N) ⟨aMS N,trivial⟩ Tryz.func42 (by kernel_rfl)
theorem aYL(N:Nat):aG E ⟨121,SL,SM,aHI N⟩:=aM aJ (aV2 N) ⟨aYK N,aCK N,trivial⟩ Tryz.func121 (by kernel_rfl)
theorem IR(N:Nat):aG E ⟨122,qK,qL,wO N⟩:=kJ aJ kK (aV3 N) trivial Tryz.func122 (by kernel_rfl)
theorem aCL(N:Nat):aG E ⟨125,yT,yU,IN N⟩:=kJ aJ kK (aV4 N) ⟨IQ N,aMR N,IR N,trivial⟩ Tryz.func125 (by kernel_rfl)
theorem aMT(N:Nat):aG E ⟨123,EM,EN,SN N⟩:=kJ aJ kK (aV5 N) ⟨aCL N,trivial⟩ Tryz.func123 (by kernel_rfl)
theorem aMU(N:Nat):aG E ⟨212,EO,EP,wP N⟩:=aM aJ (aV6 N) trivial Tryz.func212 (by kernel_rfl)
theorem aMV(N:Nat):aG E ⟨175,EQ,ER,SO N⟩:=aM aJ (aV8 N) ⟨aMU N,trivial⟩ Tryz.func175 (by kernel_rfl)
theorem aCM(N:Nat):aG E ⟨124,yV,yW,BL N⟩:=kJ aJ kK (aV9 N) ⟨BN N,aMV N,IR N,trivial⟩ Tryz.func124 (by kernel_rfl)
theorem aYM(N:Nat):aG E ⟨67,SP,SQ,aHJ N⟩:=kJ aJ kK (aWA N) ⟨BN N,aYL N,IR N,aMT N,aCM N,trivial⟩ Tryz.func67 (by kernel_rfl)
theorem aYN(N:Nat):aG E ⟨45,SR,SS,aL2 N⟩:=aM aJ (aWB N) trivial Tryz.func45 (by kernel_rfl)
theorem aYO(N:Nat):aG E ⟨68,ST,SU,aHK N⟩:=kJ aJ kK (aWC N) ⟨BN N,aCM N,aYN N,aCL N,trivial⟩ Tryz.func68 (by kernel_rfl)
theorem aYP(N:Nat):aG E ⟨126,SW,SX,aA7 N⟩:=kJ aJ kK (aWD N) ⟨BN N,IR N,aMV N,trivial⟩ Tryz.func126 (by kernel_rfl)
theorem aYQ(N:Nat):aG E ⟨93,SY,SZ,aL3 N⟩:=aM aJ (aWE N) trivial Tryz.func93 (by kernel_rfl)
theorem aYR(N:Nat):aG E ⟨127,TP,TQ,aHL N⟩:=aM aJ (aWG N) ⟨aYQ N,trivial⟩ Tryz.func127 (by kernel_rfl)
theorem aYS(N:Nat):aG E ⟨69,TR,TS,aHM N⟩:=kJ aJ kK (aWI N) ⟨aCM N,aYP N,BN N,aYR N,IR N,trivial⟩ Tryz.func69 (by kernel_rfl)
theorem aYT(N:Nat):aG E ⟨48,TT,TU,aL4 N⟩:=aM aJ (aWJ N) trivial Tryz.func48 (by kernel_rfl)
theorem aYU(N:Nat):aG E ⟨70,TV,TW,aHN N⟩:=kJ aJ kK (aWK N) ⟨aYT N,aCL N,aMT N,BN N,trivial⟩ Tryz.func70 (by kernel_rfl)
theorem qQ(N:Nat):aG E ⟨149,iX,iY,fH N⟩:=aM aJ (aB2 N) ⟨aMU N,trivial⟩ Tryz.func149 (by kernel_rfl)
theorem aYV(N:Nat):aG E ⟨150,TX,TY,C3 N⟩:=aM aJ (aWL N) trivial Tryz.func150 (by kernel_rfl)
theorem aYW(N:Nat):aG E ⟨86,TZ,UA,aHO N⟩:=aM aJ (aWN N) ⟨xC N,qQ N,aMS N,aYV N,trivial⟩ Tryz.func86 (by kernel_rfl)
theorem aMW(N:Nat):aG E ⟨151,ES,ET,UB N⟩:=aM aJ (aWO N) ⟨qQ N,trivial⟩ Tryz.func151 (by kernel_rfl)
theorem aYX(N:Nat):aG E ⟨87,UC,UD,aHP N⟩:=aM aJ (aWQ N) ⟨aMW N,trivial⟩ Tryz.func87 (by kernel_rfl)
theorem aYY(N:Nat):aG E ⟨152,UE,UF,aL5 N⟩:=aM aJ (aWR N) trivial Tryz.func152 (by kernel_rfl)
theorem aMX(N:Nat):aG E ⟨213,EU,EV,aA8 N⟩:=aM aJ (aWS N) trivial Tryz.func213 (by kernel_rfl)
theorem aCN(N:Nat):aG E ⟨153,sZ,tA,tB N⟩:=aM aJ (aB4 N) ⟨aMX N,trivial⟩ Tryz.func153 (by kernel_rfl)
theorem aYZ(N:Nat):aG E ⟨214,UG,UH,aL6 N⟩:=aM aJ (aWT N) trivial Tryz.func214 (by kernel_rfl)
theorem aY0(N:Nat):aG E ⟨154,UI,UJ,aHQ N⟩:=aM aJ (aWV N) ⟨xC N,aYZ N,trivial⟩ Tryz.func154 (by kernel_rfl)
theorem aY1(N:Nat):aG E ⟨156,UK,UL,aHR N⟩:=aM aJ (aWX N) trivial Tryz.func156 (by kernel_rfl)
theorem aCO(N:Nat):aG E ⟨155,tC,tD,pL N⟩:=aM aJ (aB6 N) trivial Tryz.func155 (by kernel_rfl)
theorem aY2(N:Nat):aG E ⟨254,UM,UN,aHS N⟩:=aM aJ (aWZ N) trivial Tryz.func254 (by kernel_rfl)
theorem aIL(N:Nat):aG E ⟨215,wQ,wR,qM N⟩:=aM aJ (aID N) ⟨xC N,aY2 N,trivial⟩ Tryz.func215 (by kernel_rfl)
theorem MB(N:Nat):aG E ⟨157,qN,qO,mJ N⟩:=aM aJ (aIF N) ⟨aIL N,trivial⟩ Tryz.func157 (by kernel_rfl)
theorem aY3(N:Nat):aG E ⟨216,UO,UP,aHT N⟩:=aM aJ (aW0 N) ⟨aMW N,aMX N,trivial⟩ Tryz.func216 (by kernel_rfl)
theorem aY4(N:Nat):aG E ⟨158,UQ,UR,aA9 N⟩:=aM aJ (aW2 N) ⟨aY3 N,trivial⟩ Tryz.func158 (by kernel_rfl)
theorem aY5(N:Nat):aG E ⟨88,US,UT,aHU N⟩:=aM aJ (aW4 N) ⟨aYY N,aCN N,qQ N,aY0 N,aY1 N,aCO N,MB N,aY4 N,trivial⟩ Tryz.func88 (by kernel_rfl)
theorem aCP(N:Nat):aG E ⟨89,tE,tF,pM N⟩:=aM aJ (aB7 N) trivial Tryz.func89 (by kernel_rfl)
theorem IS(N:Nat):aG E ⟨90,oH,oI,iI N⟩:=aM aJ (aB9 N) trivial Tryz.func90 (by kernel_rfl)
theorem aIM(N:Nat):aG E ⟨159,wS,wT,oJ N⟩:=aM aJ (aIH N) ⟨MB N,trivial⟩ Tryz.func159 (by kernel_rfl)
theorem aY6(N:Nat):aG E ⟨91,UU,UV,aHV N⟩:=aM aJ (aW6 N) ⟨IS N,aIM N,qQ N,xC N,trivial⟩ Tryz.func91 (by kernel_rfl)
theorem aY7(N:Nat):aG E ⟨39,UW,UX,aHW N⟩:=aM aJ (aW8 N) ⟨aYW N,aYX N,aY5 N,aCP N,IS N,aY6 N,trivial⟩ Tryz.func39 (by kernel_rfl)
theorem aY8(N:Nat):aG E ⟨23,UY,UZ,aHX N⟩:=kJ aJ kK (aXA N) ⟨aYH N,aYI N,aCJ N,aYM N,aYO N,aYS N,aYU N,aY7 N,trivial⟩ Tryz.func23 (by kernel_rfl)
theorem aY9(N:Nat):aG E ⟨28,VA,VB,aHY N⟩:=aM aJ (aXB N) ⟨aYF N,aY8 N,trivial⟩ Tryz.func28 (by kernel_rfl)
theorem aZA(N:Nat):aG E ⟨53,VC,VD,aHZ N⟩:=aM aJ (aXC N) trivial Tryz.func53 (by kernel_rfl)
theorem aZB(N:Nat):aG E ⟨54,VE,VF,aH0 N⟩:=aM aJ (aXE N) trivial Tryz.func54 (by kernel_rfl)
theorem aZC(N:Nat):aG E ⟨217,VG,VH,aH1 N⟩:=aM aJ (aXG N) trivial Tryz.func217 (by kernel_rfl)
theorem aMY(N:Nat):aG E ⟨163,EW,EX,C4 N⟩:=aM aJ (aXH N) ⟨aZC N,trivial⟩ Tryz.func163 (by kernel_rfl)
theorem aZD(N:Nat):aG E ⟨162,VI,VJ,aL7 N⟩:=aM aJ (aXJ N) ⟨aMY N,trivial⟩ Tryz.func162 (by kernel_rfl)
theorem aZE(N:Nat):aG E ⟨95,VK,VL,aH2 N⟩:=aM aJ (aXK N) ⟨aZD N,aMY N,trivial⟩ Tryz.func95 (by kernel_rfl)
theorem aMZ(N:Nat):aG E ⟨56,EY,EZ,aBA N⟩:=aM aJ (aXL N) ⟨aZE N,trivial⟩ Tryz.func56 (by kernel_rfl)
theorem aZF(N:Nat):aG E ⟨55,VM,VN,aH3 N⟩:=aM aJ (aXN N) ⟨aMZ N,trivial⟩ Tryz.func55 (by kernel_rfl)
theorem aZG(N:Nat):aG E ⟨57,VO,VP,aL8 N⟩:=aM aJ (aXP N) trivial Tryz.func57 (by kernel_rfl)
theorem aZH(N:Nat):aG E ⟨18,VQ,VR,aBB N⟩:=aM aJ (aXQ N) ⟨aZA N,aZB N,aZF N,aMZ N,aZG N,trivial⟩ Tryz.func18 (by kernel_rfl)
theorem aZI(N:Nat):aG E ⟨29,VS,VT,aH4 N⟩:=aM aJ (aXS N) trivial Tryz.func29 (by kernel_rfl)
theorem yZ(N:Nat):aG E ⟨6,nL,nM,fI N⟩:=aM aJ (yX N) ⟨D0 N,D9 N,aX4 N,aY9 N,aZH N,aZI N,trivial⟩ Tryz.func6 (by kernel_rfl)
end
end Go.Mo
end

section
end

section
set_option linter.all false
section
namespace Go.Mo
open Go Go.W
theorem aF{α:Type}{b:Bool}{k:Option α}(h:b=true):grd b k=k:=by subst h; rfl
theorem aD{α:Type}{b:Bool}{x y:Option α}(h:b=true):cnd b x y=x:=by subst h; rfl
theorem aC{α:Type}{b:Bool}{x y:Option α}(h:b=false):cnd b x y=y:=by subst h; rfl
theorem cC{α β:Type}{x:Option α}{a:α}{k:α→Option β}(h:x=some a):bnd x k=k a:=by subst h; rfl
theorem bF{F α:Type}{k:F}{t:F→Option α}:jn k t=t k:=rfl
theorem eP{V R:Type}{F:(V→Option R)→V→Option R}{n:Nat}{v:V}:aY F (n+1) v=F (aY F n) v:=rfl
theorem bG{x:Int}(h:-9223372036854775808≤x∧x≤9223372036854775807):w64 x=x:=by
 show IntKind.wrap .i64 x=x;unfold IntKind.wrap;simp only[IntKind.bits,IntKind.signed,bJ0,decide_eq_true_eq,show(2:Int)^64=18446744073709551616 from rfl,show(2:Int)^(64-1)=9223372036854775808 from rfl]
 split<;>omega
theorem aP{a b:Int}(h:a<b):ilt a b=true:=decide_eq_true h
theorem aQ{a b:Int}(h:¬a<b):ilt a b=false:=decide_eq_false h
theorem eA{a b:Int}(h:a≤b):ile a b=true:=decide_eq_true h
theorem fZ{a b:Int}(h:¬a≤b):ile a b=false:=decide_eq_false h
theorem cB{a b:Int}(h:a=b):ieq a b=true:=by subst h; simp[ieq]
theorem bS{a b:Int}(h:a≠b):ieq a b=false:=by simp[ieq,h]
theorem bX{a b:Int}(h:a≠b):ine a b=true:=by simp[ine,h]
theorem bW{a b:Int}(h:a=b):ine a b=false:=by simp[ine,h]
theorem aS{i n:Int}(h:0≤i∧i<n):inb i n=true:=decide_eq_true h
theorem dG{i n:Int}(h:0≤i∧i≤n):in2 i n=true:=decide_eq_true h
theorem cU{n:Int}{b:Nat}(h:n*b≤140737488355328):cL n b=true:=decide_eq_true h
theorem cH{a b:UInt8}(h:n8 a=n8 b):a=b:=by
 unfold n8 at h;apply UInt8.toNat_inj.1;omega
end Go.Mo
end
section
namespace Go.Mo
open Go Go.W
set_option maxRecDepth 100000
theorem xE{P:UInt8→Bool}(h:((List.range 256).all fun n=>P (UInt8.ofNat n))=true) (x:UInt8):P x=true:=by
 have h1:x.toNat<256:=x.toNat_lt
 have:=bJC.1 h x.toNat (List.mem_range.2 h1)
 simpa using this
noncomputable def lZ:Nat:=Classical.choose (⟨7995000,rfl⟩:∃n:Nat,n=7995000)
noncomputable def fuelH:Nat:=lZ+5000
theorem aZ:fuelH=8000000:=by
 have h:lZ=7995000:=Classical.choose_spec (⟨7995000,rfl⟩:∃n:Nat,n=7995000)
 unfold fuelH;rw[h]
def iM:List Int:=[161,162,163,164,165,166,167,169,171,174,176,183,187,189,191,192,193,194,195,196,197,198,199,200,201,202,203,204,205,206,207,209,210,211,212,213,214,216,217,218,219,220,223,224,225,226,227,228,229,230,231,232,233,234,235,236,237,238,239,241,242,243,244,245,246,248,249,250,251,252,338,339,8212,8216,8217,8220,8221,8226,8230,8482,9834]
def hJ:List Int:=(List.range 95).map fun n=>((n+32:Nat):Int)
def CQ:List Int→Int→Int→Option Int
 | [],_,_=>some (-1)
 |c::l,i,r=>cnd (ieq c r) (some i) (CQ l (aE i 1) r)
def rep:Y_:=[32,33,34,35,36,37,38,39,40,41,42,43,44,45,46,47,48,49,50,51,52,53,54,55,56,57,58,59,60,61,62,63,64,65,66,67,68,69,70,71,72,73,74,75,76,77,78,79,80,81,82,83,84,85,86,87,88,89,90,91,92,93,94,95,96,97,98,99,100,101,102,103,104,105,106,107,108,109,110,111,112,113,114,115,116,117,118,119,120,121,122,123,124,125,126,194,161,194,162,194,163,194,164,194,165,194,166,194,167,194,169,194,171,194,174,194,176,194,183,194,187,194,189,194,191,195,128,195,129,195,130,195,131,195,132,195,133,195,134,195,135,195,136,195,137,195,138,195,139,195,140,195,141,195,142,195,143,195,145,195,146,195,147,195,148,195,149,195,150,195,152,195,153,195,154,195,155,195,156,195,159,195,160,195,161,195,162,195,163,195,164,195,165,195,166,195,167,195,168,195,169,195,170,195,171,195,172,195,173,195,174,195,175,195,177,195,178,195,179,195,180,195,181,195,182,195,184,195,185,195,186,195,187,195,188,197,146,197,147,226,128,148,226,128,152,226,128,153,226,128,156,226,128,157,226,128,162,226,128,166,226,132,162,226,153,170]
theorem aIN(N:Nat) (r:Int):q11 (N+300) (rep,r)=CQ (hJ++iM) 0 r:=by kernel_rfl
theorem E2(r:Int):q11 fuelH (rep,r)=CQ (hJ++iM) 0 r:=aIN (lZ+4700) r
theorem aCQ(N:Nat) (r:Int):uZ N r=cnd (ile 32 r) (cnd (ile r 126) (some (w64 (wr .i32 (aH r 32)))) (q11 N (rep,r))) (q11 N (rep,r)):=by kernel_rfl
theorem aIO(r:Int):uZ fuelH r=cnd (ile 32 r) (cnd (ile r 126) (some (w64 (wr .i32 (aH r 32)))) (q11 fuelH (rep,r))) (q11 fuelH (rep,r)):=aCQ fuelH r
theorem aIP(N:Nat) (r:Int):q12 N r=cnd (ile 32 r) (cnd (ile r 126) (some (w64 (wr .i32 (aH r 32)))) (bnd (q11 N (rep,r)) fun v=>some v)) (bnd (q11 N (rep,r)) fun v=>some v):=by kernel_rfl
theorem E3(r:Int):q12 fuelH r=cnd (ile 32 r) (cnd (ile r 126) (some (w64 (wr .i32 (aH r 32)))) (bnd (q11 fuelH (rep,r)) fun v=>some v)) (bnd (q11 fuelH (rep,r)) fun v=>some v):=aIP fuelH r
theorem IT:∀(l:List Int) (i r:Int),0≤i→∃k,CQ l i r=some k∧(k<0↔l.contains r=false)
 | [],i,r,_=>⟨-1,rfl,by simp⟩
 |c::l,i,r,h=>by
  by_cases hc:c=r
  ·exact⟨i,by simp only[CQ]; rw[aD (cB hc)],by subst hc; simp; omega⟩
  ·obtain⟨k,h1,h2⟩:=IT l (aE i 1) r (by show 0≤i+1; omega);refine⟨k,by simp only[CQ]; rw[aC (bS hc)]; exact h1,?_⟩;rw[h2];simp only[List.contains_cons,Bool.or_eq_false_iff];exact⟨fun h=>⟨by simpa using fun e=>hc e.symm,h⟩,fun h=>h.2⟩
def dO(r:Int):Bool:=(decide (32≤r)&&decide (r≤126))||iM.contains r
theorem aEU{x:Int}(h:0≤x∧x<1000):wr .i32 x=x:=by
 show IntKind.wrap .i32 x=x;unfold IntKind.wrap;simp only[IntKind.bits,IntKind.signed,bJ0,decide_eq_true_eq,show(2:Int)^32=4294967296 from rfl,show(2:Int)^(32-1)=2147483648 from rfl]
 split<;>omega
theorem aCR(r:Int):hJ.contains r=(decide (32≤r)&&decide (r≤126)):=by
 rw[bJQ];simp only[hJ,bH4,List.mem_map,List.mem_range,bI4,decide_eq_true_eq];constructor
 ·rintro⟨n,hn,rfl⟩; omega
 ·intro h; exact⟨(r-32).toNat,by omega,by omega⟩
theorem qR(r:Int):∃i,q12 fuelH r=some i∧uZ fuelH r=some i∧(i<0↔dO r=false):=by
 rw[E3,aIO,E2];obtain⟨k,h1,h2⟩:=IT (hJ++iM) 0 r (Int.le_refl _)
 have hin:(hJ++iM).contains r=dO r:=by
  unfold dO;rw[←aCR];simp[List.contains_eq_mem,bJG]
 rw[hin] at h2
 by_cases ha:32≤r
 ·rw[aD (eA ha),aD (eA ha)]
  by_cases hb:r≤126
  ·rw[aD (eA hb),aD (eA hb)];refine⟨_,rfl,rfl,?_⟩
   have:w64 (wr .i32 (aH r 32))=r-32:=by
    simp only[aH];rw[aEU (by omega),bG (by omega)]
   rw[this];simp[dO,ha,hb]
  ·rw[aC (fZ hb),aC (fZ hb)];exact⟨k,by rw[cC h1],h1,h2⟩
 ·rw[aC (fZ ha),aC (fZ ha)];exact⟨k,by rw[cC h1],h1,h2⟩
theorem aIQ(r:Int):∃i,q12 fuelH r=some i∧(i<0↔dO r=false):=by
 rw[E3,E2];obtain⟨k,h1,h2⟩:=IT (hJ++iM) 0 r (Int.le_refl _)
 have hin:(hJ++iM).contains r=dO r:=by
  unfold dO;rw[←aCR];simp[List.contains_eq_mem,bJG]
 rw[hin] at h2
 by_cases ha:32≤r
 ·rw[aD (eA ha)]
  by_cases hb:r≤126
  ·rw[aD (eA hb)];refine⟨_,rfl,?_⟩
   have:w64 (wr .i32 (aH r 32))=r-32:=by
    simp only[aH];rw[aEU (by omega),bG (by omega)]
   rw[this];simp[dO,ha,hb]
  ·rw[aC (fZ hb)];exact⟨k,by rw[cC h1],h2⟩
 ·rw[aC (fZ ha)];exact⟨k,by rw[cC h1],h2⟩
end Go.Mo
end
section
namespace Go.Mo
open Go Go.W Go.Lib
set_option maxRecDepth 100000
theorem mK(l:Y_):1≤(decodeL l).2:=by
 unfold decodeL Utf8.decode;simp only
 repeat' split
 all_goals first|exact bKC _|(show 1≤_; omega)
theorem aEV(s:Y_) (p:Nat):uV s p=((decodeL (s.drop p)).1:Int):=by
 have:=decodeL_drop (bst s) p
 have e:(bst s).data.toList=s:=rfl
 rw[e] at this;unfold uV;rw[this]
theorem VV(s:Y_) (p:Nat):vN s p=(decodeL (s.drop p)).2:=by
 have:=decodeL_drop (bst s) p
 have e:(bst s).data.toList=s:=rfl
 rw[e] at this;unfold vN;rw[this]
def rok:Nat→Y_→Bool
 | 0,_=>true
 |n+1,l=>if l=[] then true else if dO ((decodeL l).1:Int)=true then rok n (l.drop (decodeL l).2) else false
def vld(l:Y_):Bool:=rok l.length l
theorem uI:∀n,rok n []=true
 | 0=>rfl
 |n+1=>by simp[rok]
theorem E4:∀(n m:Nat) (l:Y_),l.length≤n→l.length≤m→rok n l=rok m l
 | 0,m,l,h,_=>by
  have:l=[]:=bHB (by omega)
  subst this;rw[uI,uI]
 |n+1,0,l,_,h=>by
  have:l=[]:=bHB (by omega)
  subst this;rw[uI,uI]
 |n+1,m+1,l,h1,h2=>by
  by_cases hl:l=[]
  ·subst hl; rw[uI,uI]
  ·have hp:=mK l
   have hlen:0<l.length:=bIK.2 hl
   simp only[rok,hl,if_false]
   split
   ·exact E4 n m _ (by simp; omega) (by simp; omega)
   ·rfl
theorem zA(l:Y_) (hl:l≠[]):vld l=if dO ((decodeL l).1:Int)=true then vld (l.drop (decodeL l).2) else false:=by
 have hp:=mK l
 have hlen:0<l.length:=bIK.2 hl
 unfold vld;obtain⟨n,hn⟩:∃n,l.length=n+1:=⟨l.length-1,by omega⟩;rw[hn];simp only[rok,hl,if_false]
 split
 ·exact E4 _ _ _ (by simp; omega) (bKC _)
 ·rfl
theorem MC:∀(n:Nat) (l:Y_),l.length≤n→vld l=true→validD l=true
 |n,l,h,hv=>by
  by_cases hl:l=[]
  ·subst hl; rfl
  ·have hlen:0<l.length:=bIK.2 hl
   have hp:=mK l
   rw[zA l hl] at hv
   split at hv
   ·rename_i hr;rw[validD_step l hl,if_neg ?_]
    ·cases n with
     |zero=>omega
     |succ n=>exact MC n _ (by simp; omega) hv
    ·rintro⟨e,_⟩;rw[e] at hr;exact absurd hr (by decide)
   ·cases hv
theorem xF{s:Y_}(hs:s.length≤100000000) (Ix:Int→Option Int) (hI:∀r:Int,∃i,Ix r=some i∧(i<0↔dO r=false)):∀(fuel p:Nat),s.length-p<fuel→p≤s.length →
  aY (fun v2 (v3:Y_×Int) =>
  cnd (nlt (toN v3.2) (gE v3.1))
   (bnd (Ix (uV v3.1 (toN v3.2))) fun v4 =>
   cnd (ilt v4 (0:Int))
    (some false)
    (v2 (v3.1,ofN (nR (toN v3.2) (vN v3.1 (toN v3.2))))))
   (some true)) fuel (s,ofN p)=some (vld (s.drop p))
 | 0,p,h,_=>by omega
 |fuel+1,p,h,hp=>by
  rw[eP]
  have et:toN (ofN p)=p:=by simp[toN,ofN]
  simp only[et]
  by_cases hl:p<s.length
  ·have hne:s.drop p≠[]:=by intro e; have:=congrArg List.length e; simp at this; omega
   have hw:=mK (s.drop p)
   have hle:=decodeL_le (s.drop p) hne
   rw[bI7] at hle;rw[aD (show nlt p (gE s)=true from decide_eq_true hl)];obtain⟨i,h1,h2⟩:=hI (uV s p);rw[cC h1];rw[zA _ hne,←aEV]
   by_cases hi:i<0
   ·rw[aD (aP hi),if_neg (by rw[h2.1 hi]; decide)]
   ·rw[aC (aQ hi)]
    have hin:dO (uV s p)=true:=by
     cases hq:dO (uV s p) with
     |true=>rfl
     |false=>exact absurd (h2.2 hq) hi
    rw[if_pos hin,VV,bJR];show aY _ fuel (s,ofN (p+(decodeL (s.drop p)).2))=_;exact xF hs Ix hI fuel _ (by omega) (by omega)
  ·rw[aC (show nlt p (gE s)=false from decide_eq_false hl)]
   have:s.drop p=[]:=by simp; omega
   rw[this];rfl
theorem iZ(s:Y_) (hs:s.length≤4000000):nT fuelH s=some (vld s):=by
 unfold nT;simp only[bF]
 have:=xF (s:=s) (by omega) (uZ fuelH) (fun r=>by obtain⟨i,_,h2,h3⟩:=qR r; exact⟨i,h2,h3⟩) fuelH 0 (by have:=aZ; omega) (bKD _)
 simpa using this
theorem lO(s:Y_) (hs:s.length≤4000000):q13 fuelH s=some (vld s):=by
 unfold q13
 have hv:utf8_ValidString fuelH s=some (validD s):=by
  show grd (dQ (len s)) (some (validD s))=_;exact aF (decide_eq_true (by simp only[len]; omega))
 rw[cC hv];simp only[bF]
 cases hd:validD s with
 |false =>
  rw[aD (show bA false=true from rfl)]
  cases hq:vld s with
  |false=>rfl
  |true=>rw[MC _ s (bKC _) hq] at hd; cases hd
 |true =>
  rw[aC (show bA true=false from rfl)]
  have:=xF (s:=s) (by omega) (q12 fuelH) (fun r=>by obtain⟨i,h2,h3⟩:=aIQ r; exact⟨i,h2,h3⟩) fuelH 0 (by have:=aZ; omega) (bKD _)
  simpa using this
theorem gA{α:Type}{p:Prop} [Decidable p] {x y:Option α}:cnd (decide p) x y=if p then x else y:=by
 by_cases h:p
 ·rw[aD (decide_eq_true h),if_pos h]
 ·rw[aC (decide_eq_false h),if_neg h]
theorem bY{α:Type}{a b:Int}{x y:Option α}:cnd (ilt a b) x y=if a<b then x else y:=gA
theorem mL{α:Type}{a b:Int}{x y:Option α}:cnd (ile a b) x y=if a≤b then x else y:=gA
theorem gB{α:Type}{a b:Int}{x y:Option α}:cnd (ieq a b) x y=if a=b then x else y:=by
 by_cases h:a=b
 ·rw[aD (cB h),if_pos h]
 ·rw[aC (bS h),if_neg h]
theorem jP{α:Type}{a b:Int}{x y:Option α}:cnd (ine a b) x y=if a≠b then x else y:=by
 by_cases h:a=b
 ·rw[aC (bW h),if_neg (by simp[h])]
 ·rw[aD (bX h),if_pos h]
def okc(c:Int):Bool:=decide ((65≤c∧c≤90)∨(48≤c∧c≤57)∨c=95∨c=45)
theorem aQE(c:Int) (X:Option Bool) :
  (cnd (ilt c (n8 (65:UInt8)))
          (cnd (ilt c (n8 (48:UInt8)))
           (cnd (ine c (n8 (95:UInt8)))
            (cnd (ine c (n8 (45:UInt8)))
             (some false)
             X)
            X)
           (cnd (ilt (n8 (57:UInt8)) c)
            (cnd (ine c (n8 (95:UInt8)))
             (cnd (ine c (n8 (45:UInt8)))
              (some false)
              X)
             X)
            X))
          (cnd (ilt (n8 (90:UInt8)) c)
           (cnd (ilt c (n8 (48:UInt8)))
            (cnd (ine c (n8 (95:UInt8)))
             (cnd (ine c (n8 (45:UInt8)))
              (some false)
              X)
             X)
            (cnd (ilt (n8 (57:UInt8)) c)
             (cnd (ine c (n8 (95:UInt8)))
              (cnd (ine c (n8 (45:UInt8)))
               (some false)
               X)
              X)
             X))
           X))=cnd (okc c) X (some false):=by
 have e1:n8 (65:UInt8)=65:=rfl
 have e2:n8 (48:UInt8)=48:=rfl
 have e3:n8 (95:UInt8)=95:=rfl
 have e4:n8 (45:UInt8)=45:=rfl
 have e5:n8 (57:UInt8)=57:=rfl
 have e6:n8 (90:UInt8)=90:=rfl
 rw[e1,e2,e3,e4,e5,e6];simp only[bY,jP,okc,gA]
 repeat' split
 all_goals first|rfl|(exfalso; omega)
def upc(c:Int):Bool:=decide (65≤c∧c≤90)
def nm(s:Y_):Bool:=decide (1≤s.length∧s.length≤16)&&upc (n8 (s.getD 0 0))&&s.all fun c=>okc (n8 c)
theorem IU{s:Y_}{i:Nat}(h:i<s.length) (P:UInt8→Bool):(s.drop i).all P=(P s[i]&&(s.drop (i+1)).all P):=by
 rw[bHK h,bJ1]
theorem aEW{s:Y_}(hs:s.length≤16):∀(fuel i:Nat),s.length-i<fuel→i≤s.length →
  aY (fun v2 (v3:Int) =>
        cnd (ilt v3 (len s))
         (grd (inb v3 (len s)) (cnd (okc (n8 (aA s (toN v3) (0:UInt8)))) (v2 (w64 (aE v3 (1:Int)))) (some false)))
         (some true)) fuel (i:Int)=some ((s.drop i).all fun c=>okc (n8 c))
 | 0,i,h,_=>by omega
 |fuel+1,i,h,hi=>by
  rw[eP]
  by_cases hl:i<s.length
  ·have g:aA s (toN (i:Int)) 0=s[i]:=by simp[aA,toN,hl]
   rw[aD (aP (by simp only[len]; omega)),aF (aS (by simp only[len]; omega)),g,IU hl]
   have hw:w64 (aE (i:Int) 1)=((i+1:Nat):Int):=by
    simp only[aE]; rw[bG (by omega)]; omega
   rw[hw,aEW hs fuel (i+1) (by omega) (by omega)];cases okc (n8 s[i])<;>rfl
  ·rw[aC (aQ (by simp only[len]; omega))]
   have:s.drop i=[]:=by simp; omega
   rw[this];rfl
theorem qS(s:Y_):q14 fuelH s=some (nm s):=by
 unfold q14;simp only[bF,aQE]
 by_cases h1:s.length<1
 ·rw[aD (aP (by simp only[len]; omega))];simp[nm]; omega
 ·rw[aC (aQ (by simp only[len]; omega))]
  by_cases h2:16<s.length
  ·rw[aD (aP (by simp only[len]; omega))];simp[nm]; omega
  ·rw[aC (aQ (by simp only[len]; omega)),aF (aS (by simp only[len]; omega))]
   have e0:aA s (toN 0) 0=s.getD 0 0:=rfl
   have e1:n8 (65:UInt8)=65:=rfl
   have e2:n8 (90:UInt8)=90:=rfl
   rw[e0,e1,e2,bY]
   have hd:decide (1≤s.length∧s.length≤16)=true:=decide_eq_true (by omega)
   split
   ·rename_i h3
    have:upc (n8 (s.getD 0 0))=false:=decide_eq_false (by omega)
    simp only[nm,this,Bool.and_false,bJV]
   ·rw[aF (aS (by simp only[len]; omega)),bY]
    split
    ·rename_i h4
     have:upc (n8 (s.getD 0 0))=false:=decide_eq_false (by omega)
     simp only[nm,this,Bool.and_false,bJV]
    ·have hu:upc (n8 (s.getD 0 0))=true:=decide_eq_true (by omega)
     have:=aEW (s:=s) (by omega) fuelH 0 (by have:=aZ; omega) (bKD _)
     simp only[nm,hu,hd,bJ0]
     simpa using this
abbrev Lbl:=Int×Int×Int×Int×Bool
abbrev Hdr:=UInt8×Y_×Y_×Int×Int×Lbl×Lbl×Int×Int
theorem lP{α:Type}{p:Prop} [Decidable p] {x y:Option α}:cnd (bA (decide p)) x y=if p then y else x:=by
 by_cases hp:p<;>simp[hp,bA,cnd]
theorem aB{α β:Type}{a:α}{k:α→Option β}:bnd (some a) k=k a:=rfl
def E5:Nat→Y_→List Int
 | 0,_=>[]
 |n+1,l=>if l=[] then [] else((decodeL l).1:Int)::E5 n (l.drop (decodeL l).2)
def rns(l:Y_):List Int:=E5 l.length l
def ofR(l:List Int):Y_:=l.flatMap enc
theorem pN:∀n,E5 n []=[]
 | 0=>rfl
 |n+1=>by simp[E5]
theorem MD:∀(n m:Nat) (l:Y_),l.length≤n→l.length≤m→E5 n l=E5 m l
 | 0,m,l,h,_=>by
  have:l=[]:=bHB (by omega)
  subst this;rw[pN,pN]
 |n+1,0,l,_,h=>by
  have:l=[]:=bHB (by omega)
  subst this;rw[pN,pN]
 |n+1,m+1,l,h1,h2=>by
  by_cases hl:l=[]
  ·subst hl; rw[pN,pN]
  ·have hp:=mK l
   have hlen:0<l.length:=bIK.2 hl
   simp only[E5,hl,if_false];rw[MD n m _ (by simp; omega) (by simp; omega)]
theorem IV(l:Y_) (hl:l≠[]):rns l=((decodeL l).1:Int)::rns (l.drop (decodeL l).2):=by
 have hp:=mK l
 have hlen:0<l.length:=bIK.2 hl
 unfold rns;obtain⟨n,hn⟩:∃n,l.length=n+1:=⟨l.length-1,by omega⟩;rw[hn];simp only[E5,hl,if_false];rw[MD n _ _ (by simp; omega) (bKC _)]
theorem aQF{r:Int}(h:dO r=true):r∈hJ++iM:=by
 unfold dO at h;rw[←aCR,Bool.or_eq_true] at h;rw[bJG];rcases h with h|h
 ·exact .inl (bH4.1 h)
 ·exact .inr (bH4.1 h)
theorem FA{P:Int→Bool}(h:((hJ++iM).all P)=true){r:Int}(hr:dO r=true):P r=true :=
 bJC.1 h r (aQF hr)
theorem aQG{r:Int}(hr:dO r=true):enc r=encodeRune r :=
 of_decide_eq_true (FA (P:=fun r=>decide (enc r=encodeRune r)) (by kernel_rfl) hr)
theorem aQH(l:Y_) (hl:l≠[]) (hr:dO ((decodeL l).1:Int)=true):enc ((decodeL l).1:Int)=l.take (decodeL l).2:=by
 rw[aQG hr];refine encode_decode l hl ?_;rintro⟨e,_⟩;rw[e] at hr;exact absurd hr (by decide)
theorem VW:∀(n:Nat) (l:Y_),l.length≤n→vld l=true→(rns l).all dO=true∧ofR (rns l)=l
 |n,l,h,hv=>by
  by_cases hl:l=[]
  ·subst hl; exact⟨rfl,rfl⟩
  ·have hlen:0<l.length:=bIK.2 hl
   have hp:=mK l
   rw[zA l hl] at hv
   split at hv
   ·rename_i hr
    cases n with
    |zero=>omega
    |succ n =>
     obtain⟨h1,h2⟩:=VW n _ (by simp; omega) hv;rw[IV l hl];refine⟨by rw[bJ1,hr,h1]; rfl,?_⟩;unfold ofR at h2 ⊢;rw[List.flatMap_cons,h2,aQH l hl hr,bH0]
   ·cases hv
theorem aZJ{l:Y_}(h:vld l=true):(rns l).all dO=true:=(VW _ l (bKC _) h).1
theorem aQI{l:Y_}(h:vld l=true):ofR (rns l)=l:=(VW _ l (bKC _) h).2
theorem FB:∀(n:Nat) (l:Y_),l.length≤n→(rns l).length≤l.length
 |n,l,h=>by
  by_cases hl:l=[]
  ·subst hl; exact bKC _
  ·have hlen:0<l.length:=bIK.2 hl
   have hp:=mK l
   rw[IV l hl]
   cases n with
   |zero=>omega
   |succ n =>
    have:=FB n (l.drop (decodeL l).2) (by simp; omega)
    simp at this ⊢;omega
def zB{σ R:Type}(g:Int→σ→(σ→Option R)→Option R) (e:σ→Option R):List Int→σ→Option R
 | [],a=>e a
 |r::l,a=>g r a fun a'=>zB g e l a'
theorem IW{V R σ:Type}{F:(V→Option R)→V→Option R}{s:Y_}(st:σ→Nat→V) (g:Int→σ→(σ→Option R)→Option R) (e:σ→Option R)
  (hstep:∀self a p,p<s.length→F self (st a p)=g (uV s p) a fun a'=>self (st a' (p+vN s p)))
  (hend:∀self a p,s.length≤p→F self (st a p)=e a):∀(fuel p:Nat) (a:σ),s.length-p<fuel→aY F fuel (st a p)=zB g e (rns (s.drop p)) a
 | 0,p,a,h=>by omega
 |fuel+1,p,a,h=>by
  rw[eP]
  by_cases hp:p<s.length
  ·have hne:s.drop p≠[]:=by intro e; have:=congrArg List.length e; simp at this; omega
   have hw:=mK (s.drop p)
   rw[hstep _ _ _ hp,IV _ hne,←aEV,zB,bJR,←VV];congr 1;funext a';rw[VV]
   have:=IW st g e hstep hend fuel (p+(decodeL (s.drop p)).2) a' (by omega)
   exact this
  ·rw[hend _ _ _ (by omega)]
   have:s.drop p=[]:=by simp; omega
   rw[this];rfl
def E6{α σ R:Type}(g:Nat→α→σ→(σ→Option R)→Option R) (e:σ→Option R):Nat→List α→σ→Option R
 |_,[],a=>e a
 |i,x::l,a=>g i x a fun a'=>E6 g e (i+1) l a'
theorem IX{V R σ α:Type}{F:(V→Option R)→V→Option R}{l:List α}(st:σ→Nat→V) (g:Nat→α→σ→(σ→Option R)→Option R) (e:σ→Option R)
  (hstep:∀self a i (h:i<l.length),F self (st a i)=g i l[i] a fun a'=>self (st a' (i+1)))
  (hend:∀self a,F self (st a l.length)=e a):∀(fuel i:Nat) (a:σ),i≤l.length→l.length-i<fuel→aY F fuel (st a i)=E6 g e i (l.drop i) a
 | 0,i,a,_,h=>by omega
 |fuel+1,i,a,hi,h=>by
  rw[eP]
  by_cases hl:i<l.length
  ·rw[hstep _ _ _ hl,bHK hl,E6];congr 1;funext a';exact IX st g e hstep hend fuel (i+1) a' (by omega) (by omega)
  ·obtain rfl:i=l.length:=by omega
   rw[hend,bJD];rfl
theorem aO{i n:Nat}(h:i<n) (hn:n≤9223372036854775807):w64 (aE (i:Int) 1)=((i+1:Nat):Int):=by
 simp only[aE]; rw[bG (by omega)]; omega
theorem aU{α:Type}{l:List α}{i:Nat}{d:α}(h:i<l.length):aA l (toN (i:Int)) d=l[i]:=by simp[aA,toN,h]
theorem aSU{a b:Nat}(h:a<b):nlt a b=true:=decide_eq_true h
theorem aSV{a b:Nat}(h:¬a<b):nlt a b=false:=decide_eq_false h
theorem FC(n:Nat):toN (ofN n)=n:=by simp[toN,ofN]
def ixE(r:Int):Option Int:=cnd (ile 32 r) (cnd (ile r 126) (some (w64 (wr .i32 (aH r 32)))) (CQ (hJ++iM) 0 r)) (CQ (hJ++iM) 0 r)
def ix(r:Int):Int:=(ixE r).getD 0
def bG5:List Int:=[33,99,76,36,89,124,83,67,34,82,111,46,34,50,63,65,65,65,65,65,65,65,67,69,69,69,69,73,73,73,73,78,79,79,79,79,79,79,85,85,85,85,115,97,97,97,97,97,97,97,99,101,101,101,101,105,105,105,105,110,111,111,111,111,111,111,117,117,117,117,79,111,45,39,39,34,34,46,46,84,35]
def bas(r:Int):Int:=if r<127 then r else bG5.getD ((ix r).toNat-95) 0
def bG6:List (UInt8×Y_×List Int):=[(193,[195,128,195,136,195,140,195,146,195,153],[192,200,204,210,217]),(194,[195,129,195,137,195,141,195,147,195,154],[193,201,205,211,218]),(195,[195,130,195,138,195,142,195,148,195,155],[194,202,206,212,219]),(196,[195,131,195,145,195,149],[195,209,213]),(197,[],[]),(198,[],[]),(199,[],[]),(200,[195,132,195,139,195,143,195,150,195,156],[196,203,207,214,220]),(201,[],[]),(202,[195,133],[197]),(203,[195,135],[199])]
def sgs:List (Int×UInt8):=[(161,161),(162,162),(163,163),(164,164),(165,165),(166,166),(167,167),(169,168),(8216,169),(8220,170),(171,171),(174,172),(8212,173),(8226,174),(8230,175),(176,176),(8482,180),(183,183),(8217,185),(8221,186),(187,187),(189,189),(191,191),(9834,213),(198,225),(216,233),(338,234),(230,241),(248,249),(339,250),(223,251)]
theorem ME{R:Type}(k:List Int→Option R):∀(l out:List Int),out.length+l.length≤100000000 →
  zB (fun r out self=>grd (cL (aE (len out) (len [r])) 4) (self (bL out [r]))) k l out=k (out++l)
 | [],out,_=>by simp[zB]
 |r::l,out,h=>by
  simp only[bI3] at h;rw[zB,aF (cU (by simp[aE,len]; omega))];show zB _ _ _ (bL out [r])=_;rw[ME k l _ (by simp[bL]; omega)];simp[bL]
theorem VX{s:Y_}(hs:s.length≤4000000):aHS fuelH s=some (rns s):=by
 unfold aHS;rw[bF];rw[show(([]:List Int),s,ofN 0)=(fun (a:List Int) (p:Nat)=>(a,s,ofN p)) [] 0 from rfl];refine(IW (s:=s) (fun (a:List Int) (p:Nat)=>(a,s,ofN p)) (fun r out self=>grd (cL (aE (len out) (len [r])) 4) (self (bL out [r]))) (fun out=>some out) (fun self a p hp=>?_) (fun self a p hp=>?_) fuelH 0 [] (by have:=aZ; omega)).trans ?_
 ·simp only[FC];rw[aD (aSU (show p<gE s from hp))];rfl
 ·simp only[FC];rw[aC (aSV (show ¬p<gE s by unfold gE; omega))]
 ·have:=FB _ s (bKC _)
  rw[bJS,ME _ _ _ (by simp; omega)];rfl
end Go.Mo
end
section
namespace Go.Mo
open Go Go.W Go.Lib
set_option maxRecDepth 100000
noncomputable section
theorem oK{n:Int}(h:n≤9223372036854775807):dQ n=true:=decide_eq_true h
theorem aEX{r:Int}(hr:dO r=true):(enc r).length≤4 :=
 of_decide_eq_true (FA (P:=fun r=>decide ((enc r).length≤4)) (by kernel_rfl) hr)
theorem bO(x y:Y_):seq x y=decide (x=y):=by
 unfold seq
 by_cases h:x=y
 ·subst h; simp
 ·rw[decide_eq_false h]
  simpa using h
def low(r:Int):Int:=if(65≤r∧r≤90)∨(192≤r∧r<223) then r+32 else if r=338 then 339 else r
def bG7(a:UInt8):List Int:=match bG6.find? fun x=>x.1==a with
 |some x=>x.2.2
 |none=>[]
def acG:List Int→UInt8→Option (Int×Int)
 | [],_=>some (0,0)
 |r::l,b=>cnd (ieq (bas r) (n8 b)) (some (r,(2:Int))) (cnd (ieq (bas (low r)) (n8 b)) (some (low r,(2:Int))) (acG l b))
def sgF(a:UInt8):Option (Int×UInt8):=sgs.find? fun x=>n8 x.2==n8 a
theorem aIR:((List.range 256).all fun n=>decide (q16 0 (UInt8.ofNat n)=KP 0 (UInt8.ofNat n)∧q17 0 (UInt8.ofNat n)=C3 0 (UInt8.ofNat n)∧True))=true:=by kernel_rfl
theorem aQJ(N:Nat) (r:UInt8):q16 N r=KP N r∧q17 N r=C3 N r∧True :=
 of_decide_eq_true (xE (P:=fun r=>decide (q16 0 r=KP 0 r∧q17 0 r=C3 0 r∧True)) aIR r)
theorem aM0(N:Nat) (c:UInt8):wP N c=some (decide (48≤n8 c∧n8 c≤57)):=by
 unfold wP
 have e1:n8 (48:UInt8)=48:=rfl
 have e2:n8 (57:UInt8)=57:=rfl
 rw[e1,e2,mL]
 split
 ·simp only[ile,Option.some.injEq,decide_eq_decide]; omega
 ·simp only[Option.some.injEq]; exact(decide_eq_false (by omega)).symm
theorem aM1{s:Y_}{i:Nat}(h:i<s.length) (X:Option Bool) (N:Nat) :
  (grd (inb (i:Int) (len s)) <|
     cnd (ile (n8 (65:UInt8)) (n8 (aA s (toN (i:Int)) (0:UInt8))))
      (grd (inb (i:Int) (len s))
       ((fun (v4:Bool) =>
      cnd (bA v4)
       (cnd (ieq (i:Int) (0:Int))
        (some false)
        (grd (inb (i:Int) (len s))
         (bnd (wP N (aA s (toN (i:Int)) (0:UInt8))) fun v5 =>
         cnd (bA v5)
          (grd (inb (i:Int) (len s))
           (cnd (ine (n8 (aA s (toN (i:Int)) (0:UInt8))) (n8 (95:UInt8)))
            (grd (inb (i:Int) (len s))
             (cnd (ine (n8 (aA s (toN (i:Int)) (0:UInt8))) (n8 (45:UInt8)))
              (some false)
              X))
            X))
          X)))
       X) (ile (n8 (aA s (toN (i:Int)) (0:UInt8))) (n8 (90:UInt8)))))
      ((fun (v4:Bool) =>
      cnd (bA v4)
       (cnd (ieq (i:Int) (0:Int))
        (some false)
        (grd (inb (i:Int) (len s))
         (bnd (wP N (aA s (toN (i:Int)) (0:UInt8))) fun v5 =>
         cnd (bA v5)
          (grd (inb (i:Int) (len s))
           (cnd (ine (n8 (aA s (toN (i:Int)) (0:UInt8))) (n8 (95:UInt8)))
            (grd (inb (i:Int) (len s))
             (cnd (ine (n8 (aA s (toN (i:Int)) (0:UInt8))) (n8 (45:UInt8)))
              (some false)
              X))
            X))
          X)))
       X) false))=if upc (n8 s[i])=true then X else if i=0 then some false else if okc (n8 s[i])=true then X else some false:=by
 have hb:inb (i:Int) (len s)=true:=aS (by simp only[len]; omega)
 have g:aA s (toN (i:Int)) 0=s[i]:=by simp[aA,toN,h]
 have e1:n8 (65:UInt8)=65:=rfl
 have e2:n8 (90:UInt8)=90:=rfl
 have e3:n8 (95:UInt8)=95:=rfl
 have e4:n8 (45:UInt8)=45:=rfl
 simp only[aF hb,g,e1,e2,e3,e4];rw[cC (aM0 N s[i])];generalize n8 s[i]=c
 have hi:((i:Int)=0)↔i=0:=by omega
 have b1:∀(p:Prop) [Decidable p] (x y:Option Bool),cnd (bA (decide p)) x y=if p then y else x:=fun p _ x y=>by
  by_cases hp:p<;>simp[hp,bA,cnd]
 have b2:∀x y:Option Bool,cnd (bA false) x y=x:=fun _ _=>rfl
 simp only[mL,gB,jP,gA,ile,b1,b2,upc,okc,decide_eq_true_eq,hi]
 repeat' split
 all_goals first|rfl|(exfalso; omega)
theorem zD(s:Y_):fH fuelH s=some (nm s):=by
 unfold fH
 by_cases h1:s.length<1
 ·rw[aD (aP (by simp only[len]; omega))];simp[nm]; omega
 ·rw[aC (aQ (by simp only[len]; omega))]
  by_cases h2:16<s.length
  ·rw[aD (aP (by simp only[len]; omega))];simp[nm]; omega
  ·rw[aC (aQ (by simp only[len]; omega))];simp only[bF]
   have hd:decide (1≤s.length∧s.length≤16)=true:=decide_eq_true (by omega)
   have loop:∀(fuel i:Nat),s.length-i<fuel→i≤s.length→aY (fun v2 (v3:Int) =>
    cnd (ilt v3 (len s))
     (grd (inb v3 (len s)) <|
     cnd (ile (n8 (65:UInt8)) (n8 (aA s (toN v3) (0:UInt8))))
      (grd (inb v3 (len s))
       ((fun (v4:Bool) =>
      cnd (bA v4)
       (cnd (ieq v3 (0:Int))
        (some false)
        (grd (inb v3 (len s))
         (bnd (wP fuelH (aA s (toN v3) (0:UInt8))) fun v5 =>
         cnd (bA v5)
          (grd (inb v3 (len s))
           (cnd (ine (n8 (aA s (toN v3) (0:UInt8))) (n8 (95:UInt8)))
            (grd (inb v3 (len s))
             (cnd (ine (n8 (aA s (toN v3) (0:UInt8))) (n8 (45:UInt8)))
              (some false)
              (v2 (w64 (aE v3 (1:Int))))))
            (v2 (w64 (aE v3 (1:Int))))))
          (v2 (w64 (aE v3 (1:Int)))))))
       (v2 (w64 (aE v3 (1:Int))))) (ile (n8 (aA s (toN v3) (0:UInt8))) (n8 (90:UInt8)))))
      ((fun (v4:Bool) =>
      cnd (bA v4)
       (cnd (ieq v3 (0:Int))
        (some false)
        (grd (inb v3 (len s))
         (bnd (wP fuelH (aA s (toN v3) (0:UInt8))) fun v5 =>
         cnd (bA v5)
          (grd (inb v3 (len s))
           (cnd (ine (n8 (aA s (toN v3) (0:UInt8))) (n8 (95:UInt8)))
            (grd (inb v3 (len s))
             (cnd (ine (n8 (aA s (toN v3) (0:UInt8))) (n8 (45:UInt8)))
              (some false)
              (v2 (w64 (aE v3 (1:Int))))))
            (v2 (w64 (aE v3 (1:Int))))))
          (v2 (w64 (aE v3 (1:Int)))))))
       (v2 (w64 (aE v3 (1:Int))))) false))
     (some true)) fuel (i:Int)=some (bif decide (i=0) then upc (n8 (s.getD 0 0))&&s.all (fun c=>okc (n8 c)) else(s.drop i).all fun c=>okc (n8 c)):=by
    intro fuel
    induction fuel with
    |zero=>intro i h; omega
    |succ fuel ih =>
     intro i h hi;rw[eP]
     by_cases hl:i<s.length
     ·rw[aD (aP (by simp only[len]; omega)),aM1 hl]
      have hw:w64 (aE (i:Int) 1)=((i+1:Nat):Int):=by
       simp only[aE]; rw[bG (by omega)]; omega
      rw[hw,ih (i+1) (by omega) (by omega)]
      have hup:upc (n8 s[i])=true→okc (n8 s[i])=true:=fun h=>by
       have:=of_decide_eq_true h
       exact decide_eq_true (.inl this)
      have e0:decide (i+1=0)=false:=decide_eq_false (by omega)
      simp only[e0,cond_false]
      by_cases hz:i=0
      ·subst hz
       have g0:s.getD 0 0=s[0]:=by simp[hl]
       have hs:s.all (fun c=>okc (n8 c))=(okc (n8 s[0])&&(s.drop 1).all fun c=>okc (n8 c)):=by
        have:=IU (s:=s) (i:=0) hl (fun c=>okc (n8 c))
        simpa using this
       simp only[decide_true,cond_true,if_true,g0,hs]
       cases hu:upc (n8 s[0]) with
       |true=>simp[hup hu]
       |false=>simp
      ·have:decide (i=0)=false:=decide_eq_false hz
       simp only[this,cond_false,hz,if_false,IU hl]
       cases hu:upc (n8 s[i]) with
       |true=>simp[hup hu]
       |false=>cases okc (n8 s[i])<;>simp
     ·rw[aC (aQ (by simp only[len]; omega))]
      have hz:decide (i=0)=false:=decide_eq_false (by omega)
      have:s.drop i=[]:=by simp; omega
      rw[hz,this];rfl
   have:=loop fuelH 0 (by have:=aZ; omega) (bKD _)
   simp only[decide_true,cond_true] at this;simp only[nm,hd,bJ0];exact this
end
end Go.Mo
end
section
namespace Go.Mo
open Go Go.W Go.Lib
set_option maxRecDepth 100000
abbrev Sty:=UInt8×Bool×Bool
abbrev Run:=Y_×Sty×Y_
abbrev Row:=List Run
theorem mM{α:Type}{b:Bool}{x y:Option α}:cnd b x y=if b=true then x else y:=by cases b<;>rfl
theorem gM{b:Bool}:(bA b=true)=(b=false):=by cases b<;>simp[bA]
theorem cF{a b:Y_}:(seq a b=true)=(a=b):=by rw[bO]; simp
theorem oS{a b:Int}:(ieq a b=true)=(a=b):=by simp[ieq]
theorem aZK{a b:Int}:(ine a b=true)=(a≠b):=by simp[ine]
theorem aM2{a b:Int}:(ilt a b=true)=(a<b):=by simp[ilt]
theorem BO{a b:Bool}:(oV a b=true)=(a=b):=by simp[oV]
theorem qT{a b:Bool}:(cY a b=true)=(a=true∧b=true):=by simp[cY]
theorem aEY{a b:UInt8}:(n8 a=n8 b)=(a=b):=propext ⟨cH,fun h=>by rw[h]⟩
theorem nP{i:Nat}(h:0<i) (hn:i≤9223372036854775807):w64 (aH (i:Int) 1)=((i-1:Nat):Int):=by
 simp only[aH]; rw[bG (by omega)]; omega
theorem fJ{i:Nat}(hn:i<9223372036854775807):w64 (aH ((i+1:Nat):Int) 1)=(i:Int):=by
 rw[nP (Nat.succ_pos i) (by omega)]; rfl
theorem VY{a b:Sty}:(a=b)=(a.1=b.1∧a.2.1=b.2.1∧a.2.2=b.2.2):=by
 obtain⟨a1,a2,a3⟩:=a; obtain⟨b1,b2,b3⟩:=b; simp
def tH(a b:Run):Prop:=a.2.1=b.2.1∧a.2.2=[]∧b.2.2=[]
instance (a b:Run):Decidable (tH a b):=by unfold tH; infer_instance
def iS(p:Option Run) (x:Run):Int :=
 if vld x.1=false then 10 else if x.1=[] then 4 else if ¬n8 x.2.1.1≤6 then 12 else if vld x.2.2=false then 10 else match p with
  |none=>0
  |some p=>if tH p x then 8 else 0
def aIS:Option Run→List Run→Int
 |_,[]=>0
 |p,x::r=>if iS p x≠0 then iS p x else aIS (some x) r
def jQ(l:Row):Int:=if 16<l.length then 9 else aIS none l
def aCS(l:Row):Prop:=∀x∈l,x.1.length≤4000000∧x.2.2.length≤4000000
def before{α:Type}(l:List α):Nat→Option α
 | 0=>none
 |i+1=>l[i]?
theorem BP(l:Row):∀(r:List Run) (i:Nat),l.drop i=r→i≤l.length→E6 (fun i (x:Run) (_:Unit) self=>if iS (before l i) x≠0 then some (iS (before l i) x) else self ()) (fun _=>some (0:Int)) i r ()=some (aIS (before l i) r)
 | [],i,_,_=>rfl
 |x::r,i,h,hi=>by
  have hx:l[i]?=some x:=by rw[←List.head?_drop,h]; rfl
  have hr:l.drop (i+1)=r:=by rw[←bJR,h]; rfl
  have hl:i<l.length:=(bHI.1 hx).1
  simp only[E6,aIS];rw[BP l r (i+1) hr (by omega)]
  have e:before l (i+1)=some x:=hx
  rw[e]
  by_cases hc:iS (before l i) x≠0
  ·rw[if_pos hc,if_pos hc]
  ·rw[if_neg hc,if_neg hc]
theorem IY(N:Nat) (a b:Run):q29 N (a,b)=some (decide (tH a b)):=by
 unfold q29;simp only[mM,qT,oS,BO,aEY,bO,decide_eq_true_eq]
 by_cases h1:a.2.1.1=b.2.1.1∧a.2.1.2.1=b.2.1.2.1∧a.2.1.2.2=b.2.1.2.2
 ·rw[if_pos h1]
  have:a.2.1=b.2.1:=by rw[VY]; exact h1
  by_cases h2:a.2.2=[]
  ·rw[if_pos h2]; simp[tH,this,h2]
  ·rw[if_neg h2]; simp[tH,h2]
 ·rw[if_neg h1]
  have:¬a.2.1=b.2.1:=by rw[VY]; exact h1
  simp[tH,this]
theorem E7{l:Row}(hl:aCS l):q30 fuelH l=some (jQ l):=by
 unfold q30
 by_cases h:16<l.length
 ·rw[aD (aP (by simp only[len]; omega))]; simp[jQ,h]
 ·rw[aC (aQ (by simp only[len]; omega)),bF];refine bKF (IX (l:=l) (fun (_:Unit) (p:Nat)=>(p:Int)) (fun i (x:Run) (_:Unit) self=>if iS (before l i) x≠0 then some (iS (before l i) x) else self ()) (fun _=>some (0:Int)) (fun self a i hi=>?_) (fun self a=>?_) fuelH 0 () (bKD _) (by have:=aZ; omega)) ?_
  ·rw[aD (aP (by simp only[len]; omega)),aF (aS (by simp only[len]; omega)),aU hi];obtain⟨b1,b2⟩:=hl l[i] (bJE hi);rw[cC (lO _ b1),cC (show q28 fuelH l[i].2.1=some (ile (n8 l[i].2.1.1) 6) from rfl),cC (lO _ b2)];simp only[mM,gM,cF,ile,decide_eq_false_iff_not];rw[aO hi (by omega)]
   cases i with
   |zero =>
    have e0:before l 0=none:=rfl
    rw[e0,if_neg (show ¬ilt (0:Int) ((0:Nat):Int)=true by decide)];simp only[iS]
    repeat' split
    all_goals first|rfl|(exfalso; omega)|simp_all
   |succ i =>
    have e0:before l (i+1)=some l[i]:=by simp only[before]; exact bHN (by omega)
    rw[e0,if_pos (show ilt (0:Int) ((i+1:Nat):Int)=true from aP (by omega)),fJ (by omega),aF (aS (by simp only[len]; omega)),aU (show i<l.length by omega),cC (IY _ _ _)];simp only[iS,decide_eq_true_eq]
    repeat' split
    all_goals first|rfl|(exfalso; omega)|simp_all
  ·rw[aC (aQ (by simp only[len]; omega))]
  ·rw[bJS,BP l l 0 rfl (bKD _)];simp[jQ,h,before]
theorem aIT{l:Row}(hl:aCS l):aHQ fuelH l=some (jQ l):=by
 unfold aHQ
 by_cases h:16<l.length
 ·rw[aD (aP (by simp only[len]; omega))]; simp[jQ,h]
 ·rw[aC (aQ (by simp only[len]; omega)),bF];refine bKF (IX (l:=l) (fun (_:Unit) (p:Nat)=>(p:Int)) (fun i (x:Run) (_:Unit) self=>if iS (before l i) x≠0 then some (iS (before l i) x) else self ()) (fun _=>some (0:Int)) (fun self a i hi=>?_) (fun self a=>?_) fuelH 0 () (bKD _) (by have:=aZ; omega)) ?_
  ·rw[aD (aP (by simp only[len]; omega)),aF (aS (by simp only[len]; omega)),aU hi];obtain⟨b1,b2⟩:=hl l[i] (bJE hi);rw[cC (iZ _ b1),cC (show aL6 fuelH l[i].2.1=some (ile (n8 l[i].2.1.1) 6) from rfl),cC (iZ _ b2)];simp only[mM,gM,cF,ile,decide_eq_false_iff_not];rw[aO hi (by omega)]
   cases i with
   |zero =>
    have e0:before l 0=none:=rfl
    rw[e0,if_neg (show ¬ilt (0:Int) ((0:Nat):Int)=true by decide)];simp only[iS]
    repeat' split
    all_goals first|rfl|(exfalso; omega)|simp_all
   |succ i =>
    have e0:before l (i+1)=some l[i]:=by simp only[before]; exact bHN (by omega)
    have hin:inb ((i:Nat):Int) (len l)=true:=aS (by simp only[len]; omega)
    rw[e0,if_pos (show ilt (0:Int) ((i+1:Nat):Int)=true from aP (by omega)),fJ (by omega),aF hin,aF hin,aU (show i<l.length by omega)];simp only[iS,tH,qT,oS,BO,aEY,←VY]
    repeat' split
    all_goals first|rfl|(exfalso; omega)|simp_all
  ·rw[aC (aQ (by simp only[len]; omega))]
  ·rw[bJS,BP l l 0 rfl (bKD _)];simp[jQ,h,before]
def itI{α σ R:Type}(f:Nat→α→σ→Option R ⊕ σ) (e:σ→Option R):Nat→List α→σ→Option R
 |_,[],a=>e a
 |i,x::l,a=>match f i x a with
  | .inl r=>r
  | .inr a'=>itI f e (i+1) l a'
def Rnd{V R σ:Type}(X:Option R) (self:V→Option R) (next:σ→V) (I:σ→Prop):Option R ⊕ σ→Prop
 | .inl r=>X=r
 | .inr a=>X=self (next a)∧I a
theorem oT{V R σ α:Type}{F:(V→Option R)→V→Option R}{l:List α}(st:σ→Nat→V) (f:Nat→α→σ→Option R ⊕ σ) (e:σ→Option R) (I:Nat→σ→Prop)
  (hstep:∀self a i (h:i<l.length),I i a→Rnd (F self (st a i)) self (fun a=>st a (i+1)) (I (i+1)) (f i l[i] a))
  (hend:∀self a,I l.length a→F self (st a l.length)=e a):∀(fuel i:Nat) (a:σ),i≤l.length→l.length-i<fuel→I i a→aY F fuel (st a i)=itI f e i (l.drop i) a
 | 0,i,a,_,h,_=>by omega
 |fuel+1,i,a,hi,h,hI=>by
  rw[eP]
  by_cases hl:i<l.length
  ·rw[bHK hl,itI]
   have hs:=hstep (aY F fuel) a i hl hI
   cases hf:f i l[i] a with
   |inl r=>rw[hf] at hs; exact hs
   |inr a' =>
    rw[hf] at hs;rw[hs.1];exact oT st f e I hstep hend fuel (i+1) a' (by omega) (by omega) hs.2
  ·obtain rfl:i=l.length:=by omega
   rw[hend _ _ hI,bJD];rfl
def tot:Row→Nat
 | []=>0
 |x::r=>x.1.length+tot r
theorem FD(a b:Row):tot (a++b)=tot a+tot b:=by
 induction a with
 |nil=>simp[tot]
 |cons x a ih=>simp only[bI5,tot,ih]; omega
theorem aQK{l:Row}{p:Run}(h:l.getLast?=some p):l=l.dropLast++[p]:=by
 cases l with
 |nil=>cases h
 |cons x l =>
  rw[List.getLast?_eq_some_getLast (bJF x l)] at h;injection h with h;rw[←h];exact(List.dropLast_concat_getLast (bJF x l)).symm
theorem mS{out:Row}{p:Run}(h:out.getLast?=some p) (y:Run):nS out (out.length-1) y=out.dropLast++[y]:=by
 have e:=aQK h
 have hl:out.length-1=out.dropLast.length:=by simp
 rw[hl]
 conv=>lhs; rw[e]
 unfold nS;rw[bH2 _ _ (by simp)];simp
end Go.Mo
end
section
namespace Go.Mo
open Go Go.W Go.Lib
set_option maxRecDepth 100000
noncomputable section
theorem aEZ:∀(l:List Run) (p:Option Run),aIS p l=0→∀x∈l,vld x.1=true∧x.1≠[]∧n8 x.2.1.1≤6∧vld x.2.2=true
 | [],_,_,x,hx=>by cases hx
 |y::l,p,h,x,hx=>by
  simp only[aIS] at h
  split at h
  ·rename_i hc; exact absurd h hc
  ·rename_i hc;rcases bJX.1 hx with rfl|hx
   ·have hc:iS p x=0:=by simpa using hc
    unfold iS at hc
    split at hc
    ·cases hc
    ·split at hc
     ·cases hc
     ·split at hc
      ·cases hc
      ·split at hc
       ·cases hc
       ·rename_i h1 h2 h3 h4;exact⟨by simpa using h1,h2,by omega,by simpa using h4⟩
   ·exact aEZ l _ h x hx
theorem MF{l:Row}(h:jQ l=0):l.length≤16∧∀x∈l,vld x.1=true∧x.1≠[]∧n8 x.2.1.1≤6∧vld x.2.2=true:=by
 unfold jQ at h
 split at h
 ·cases h
 ·exact⟨by omega,aEZ l _ h⟩
def g1(a:UInt8):Option Int:=if 32≤n8 a∧n8 a<127 then some (n8 a) else(sgF a).map (·.1)
def g2(a b:UInt8):Int×Int:=(acG (bG7 a) b).getD (0,0)
theorem aZL{a b:Run}:(a=b)=(a.1=b.1∧a.2.1=b.2.1∧a.2.2=b.2.2):=by
 obtain⟨a1,a2,a3⟩:=a; obtain⟨b1,b2,b3⟩:=b; simp
theorem MG{α:Type}:∀(l m:List α) [DecidableEq α],l.length=m.length→∀i,itI (fun i (x:α) (_:Unit)=>if some x=m[i]? then(.inr ():Option Bool ⊕ Unit) else .inl (some false)) (fun _=>some true) i (l.drop i) ()=some (decide (l.drop i=m.drop i)):=by
 intro l m _ hl i;generalize hr:l.drop i=r
 induction r generalizing i with
 |nil =>
  have h1:l.length≤i:=by have:=congrArg List.length hr; simp at this; omega
  have:m.drop i=[]:=by rw[List.drop_eq_nil_iff]; omega
  rw[this]; simp[itI]
 |cons x r ih =>
  have hx:l[i]?=some x:=by rw[←List.head?_drop,hr]; rfl
  have hi:=(bHI.1 hx).1
  have hr':l.drop (i+1)=r:=by rw[←bJR,hr]; rfl
  have hm:m.drop i=m[i]::m.drop (i+1):=bHK (by omega)
  rw[hm];simp only[itI]
  by_cases h:some x=m[i]?
  ·rw[if_pos h];simp only;rw[ih (i+1) hr'];rw[bHN (by omega)] at h;injection h with h;exact congrArg some (decide_eq_decide.2 ⟨fun e=>by rw[h,e],fun e=>by injection e⟩)
  ·rw[if_neg h];rw[bHN (by omega)] at h
   have:x≠m[i]:=fun e=>h (by rw[e])
   exact congrArg some (decide_eq_false fun e=>this (by injection e)).symm
theorem aZM(a b:Row) (hl:a.length≤4000000):aH1 fuelH (a,b)=some (decide (a=b)):=by
 unfold aH1
 by_cases h:a.length=b.length
 ·rw[aC (bW (by simp only[len]; omega)),bF];refine bKF (oT (l:=a) (fun (_:Unit) (p:Nat)=>(p:Int)) (fun i (x:Run) (_:Unit)=>if some x=b[i]? then .inr () else .inl (some false)) (fun _=>some true) (fun _ _=>True) (fun self _ i hi _=>?_) (fun self _ _=>?_) fuelH 0 () (bKD _) (by have:=aZ; omega) trivial) ?_
  ·have hb:i<b.length:=by omega
   have e:cnd (ilt (i:Int) (len a)) (grd (inb (i:Int) (len a)) (grd (inb (i:Int) (len b)) (cnd (bA (cY (seq (aA a (toN (i:Int)) zU).1 (aA b (toN (i:Int)) zU).1) (cY (cY (ieq (n8 (aA a (toN (i:Int)) zU).2.1.1) (n8 (aA b (toN (i:Int)) zU).2.1.1)) (cY (oV (aA a (toN (i:Int)) zU).2.1.2.1 (aA b (toN (i:Int)) zU).2.1.2.1) (oV (aA a (toN (i:Int)) zU).2.1.2.2 (aA b (toN (i:Int)) zU).2.1.2.2))) (seq (aA a (toN (i:Int)) zU).2.2 (aA b (toN (i:Int)) zU).2.2)))) (some false) (self (w64 (aE (i:Int) 1)))))) (some true)=if a[i]=b[i] then self ((i+1:Nat):Int) else some false:=by
    rw[aD (aP (by simp only[len]; omega)),aF (aS (by simp only[len]; omega)),aF (aS (by simp only[len]; omega)),aU hi,aU hb,aO hi (by omega),mM];simp only[gM,Bool.eq_false_iff,ne_eq,qT,cF,oS,BO,aEY,←VY,←aZL]
    by_cases hc:a[i]=b[i]
    ·rw[if_neg (by simpa using hc),if_pos hc]
    ·rw[if_pos hc,if_neg hc]
   rw[bHN hb]
   by_cases hc:a[i]=b[i]
   ·rw[if_pos (by rw[hc])];exact⟨e.trans (if_pos hc),trivial⟩
   ·rw[if_neg (fun h=>hc (by injection h))];exact e.trans (if_neg hc)
  ·simp only;rw[aC (aQ (by simp only[len]; omega))]
  ·exact MG a b h 0
 ·rw[aD (bX (by simp only[len]; omega))]
  have:a≠b:=fun e=>h (by rw[e])
  simp[this]
theorem aM3(a b:Row) (hl:a.length≤4000000):C4 fuelH (a,b)=some (decide (a=b)):=by
 unfold C4;rw[aZM a b hl,aB]
theorem aIU(a b:List Row) (hl:a.length≤4000000) (h:∀r∈a,r.length≤4000000):aH2 fuelH (a,b)=some (decide (a=b)):=by
 unfold aH2 aL7
 by_cases hab:a.length=b.length
 ·rw[aC (bW (by simp only[len]; omega)),bF]
  have:∀X:Option Bool,(bnd X fun v0=>some v0)=X:=fun X=>by cases X<;>rfl
  rw[this];refine bKF (oT (l:=a) (fun (_:Unit) (p:Nat)=>(p:Int)) (fun i (x:Row) (_:Unit)=>if some x=b[i]? then .inr () else .inl (some false)) (fun _=>some true) (fun _ _=>True) (fun self _ i hi _=>?_) (fun self _ _=>?_) fuelH 0 () (bKD _) (by have:=aZ; omega) trivial) ?_
  ·have hb:i<b.length:=by omega
   have e:cnd (ilt (i:Int) (len a)) (grd (inb (i:Int) (len a)) (grd (inb (i:Int) (len b)) (bnd (C4 fuelH (aA a (toN (i:Int)) [],aA b (toN (i:Int)) [])) fun v4=>cnd (bA v4) (some false) (self (w64 (aE (i:Int) 1)))))) (some true)=if a[i]=b[i] then self ((i+1:Nat):Int) else some false:=by
    rw[aD (aP (by simp only[len]; omega)),aF (aS (by simp only[len]; omega)),aF (aS (by simp only[len]; omega)),aU hi,aU hb,aO hi (by omega),aM3 _ _ (h _ (bJE hi)),aB,lP]
   rw[bHN hb]
   by_cases hc:a[i]=b[i]
   ·rw[if_pos (by rw[hc])];exact⟨e.trans (if_pos hc),trivial⟩
   ·rw[if_neg (fun h=>hc (by injection h))];exact e.trans (if_neg hc)
  ·simp only;rw[aC (aQ (by simp only[len]; omega))]
  ·exact MG a b hab 0
 ·rw[aD (bX (by simp only[len]; omega))]
  have:a≠b:=fun e=>hab (by rw[e])
  simp[this,aB]
theorem iJ{V R σ:Type}{F:(V→Option R)→V→Option R}{n:Nat}(st:σ→Nat→V) (I:Nat→σ→Prop) (r:Option R)
  (hstep:∀self a i,i<n→I i a→∃a',F self (st a i)=self (st a' (i+1))∧I (i+1) a') (hend:∀self a,I n a→F self (st a n)=r):∀(fuel i:Nat) (a:σ),i≤n→n-i<fuel→I i a→aY F fuel (st a i)=r
 | 0,i,a,_,h,_=>by omega
 |fuel+1,i,a,hi,h,hI=>by
  rw[eP]
  by_cases hl:i<n
  ·obtain⟨a',h1,h2⟩:=hstep (aY F fuel) a i hl hI;rw[h1];exact iJ st I r hstep hend fuel (i+1) a' (by omega) (by omega) h2
  ·obtain rfl:i=n:=by omega
   exact hend _ _ hI
theorem aM4{α:Type}{f:α→Nat}{l:List α}{x:α}(h:x∈l):f x≤bkL f l:=by
 induction l with
 |nil=>cases h
 |cons y l ih =>
  simp only[bkL];rcases bJX.1 h with rfl|h
  ·omega
  ·have:=ih h; omega
theorem aCT{α:Type}{f:α→Nat}(hf:∀x,1≤f x) (l:List α):l.length≤bkL f l:=by
 induction l with
 |nil=>exact bKC _
 |cons y l ih=>have:=hf y; simp only[bkL,bI3]; omega
def wtU(x:Run):Nat:=x.1.length+1+(1+(1+1)+(x.2.2.length+1))
def wtR(r:Row):Nat:=bkL wtU r+1
theorem aM5{α:Type}(l:List α) (n:Nat):aW (toN (mA (len l) (n:Int))) l=l.take n∧in2 (mA (len l) (n:Int)) (len l)=true:=by
 have e:toN (mA (len l) (n:Int))=min l.length n:=by simp only[toN,mA,len]; omega
 refine⟨?_,dG (by simp only[mA,len]; omega)⟩;rw[e];unfold aW
 by_cases h:l.length≤n
 ·rw[Nat.min_eq_left h,bJA,bHS h]
 ·rw[Nat.min_eq_right (by omega)]
abbrev Reg:=Y_×Int×Int×Int×Int×UInt8×Bool
abbrev DI:=Int×Int×Int
theorem aQL(N:Nat) (a b c:Int):q20 N (a,b,c)=some (decide (b≤a∧a≤c)):=by
 unfold q20;rw[mL]
 by_cases h:b≤a
 ·simp[h,ile]
 ·simp[h]
def gN(r:Reg):Int :=
 if nm r.1=false then 5 else
 if ¬(0≤r.2.1∧r.2.1≤14) then 2 else
 if ¬(1≤r.2.2.1∧r.2.2.1≤15-r.2.1) then 2 else
 if ¬(0≤r.2.2.2.1∧r.2.2.2.1≤31) then 2 else
 if ¬(1≤r.2.2.2.2.1∧r.2.2.2.2.1≤32-r.2.2.2.1) then 2 else
 if ¬(1≤n8 r.2.2.2.2.2.1∧n8 r.2.2.2.2.2.1≤3) then 3 else 0
theorem bGJ{p:Prop} [Decidable p]:(decide p=false)=¬p:=by by_cases h:p<;>simp[h]
theorem qU(r:Reg):q21 fuelH r=some (gN r):=by
 unfold q21 gN;rw[qS,aB];simp only[aQL,aB,mM,gM,bGJ,aM2]
 have e1:n8 (1:UInt8)=1:=rfl
 have e3:n8 (3:UInt8)=3:=rfl
 rw[e1,e3]
 by_cases h0:nm r.1=false
 ·rw[if_pos h0,if_pos h0]
 rw[if_neg h0,if_neg h0]
 by_cases h1:0≤r.2.1∧r.2.1≤14
 ·rw[if_neg (not_not_intro h1),if_neg (not_not_intro h1)]
  have w1:w64 (aH 15 r.2.1)=15-r.2.1:=by unfold aH; rw[bG (by omega)]
  rw[w1]
  by_cases h2:1≤r.2.2.1∧r.2.2.1≤15-r.2.1
  ·rw[if_neg (not_not_intro h2),if_neg (not_not_intro h2)]
   by_cases h3:0≤r.2.2.2.1∧r.2.2.2.1≤31
   ·rw[if_neg (not_not_intro h3),if_neg (not_not_intro h3)]
    have w2:w64 (aH 32 r.2.2.2.1)=32-r.2.2.2.1:=by unfold aH; rw[bG (by omega)]
    rw[w2]
    by_cases h4:1≤r.2.2.2.2.1∧r.2.2.2.2.1≤32-r.2.2.2.1
    ·rw[if_neg (not_not_intro h4),if_neg (not_not_intro h4)]
     by_cases h5:n8 r.2.2.2.2.2.1<1
     ·rw[if_pos h5,if_pos (by omega)]
     ·rw[if_neg h5]
      by_cases h6:3<n8 r.2.2.2.2.2.1
      ·rw[if_pos h6,if_pos (by omega)]
      ·rw[if_neg h6,if_neg (by omega)]
    ·rw[if_pos h4,if_pos h4]
   ·rw[if_pos h3,if_pos h3]
  ·rw[if_pos h2,if_pos h2]
 ·rw[if_pos h1,if_pos h1]
theorem MH(r:Reg):UB fuelH r=some (gN r):=by
 unfold UB gN;rw[zD,aB];simp only[mM,gM,aM2,aZK]
 by_cases h0:nm r.1=false
 ·rw[if_pos h0,if_pos h0]
 rw[if_neg h0,if_neg h0]
 by_cases h1:0≤r.2.1∧r.2.1≤14
 ·rw[if_neg (by omega),if_neg (by omega),if_neg (not_not_intro h1)]
  have w1:w64 (aH 15 r.2.1)=15-r.2.1:=by unfold aH; rw[bG (by omega)]
  rw[w1]
  by_cases h2:1≤r.2.2.1∧r.2.2.1≤15-r.2.1
  ·rw[if_neg (by omega),if_neg (by omega),if_neg (not_not_intro h2)]
   by_cases h3:0≤r.2.2.2.1∧r.2.2.2.1≤31
   ·rw[if_neg (by omega),if_neg (by omega),if_neg (not_not_intro h3)]
    have w2:w64 (aH 32 r.2.2.2.1)=32-r.2.2.2.1:=by unfold aH; rw[bG (by omega)]
    rw[w2]
    by_cases h4:1≤r.2.2.2.2.1∧r.2.2.2.2.1≤32-r.2.2.2.1
    ·rw[if_neg (by omega),if_neg (by omega),if_neg (not_not_intro h4)]
     have e1:n8 (1:UInt8)=1:=rfl
     have e2:n8 (2:UInt8)=2:=rfl
     have e3:n8 (3:UInt8)=3:=rfl
     rw[e1,e2,e3]
     by_cases c1:n8 r.2.2.2.2.2.1=1
     ·rw[if_neg (not_not_intro c1),if_neg (by omega)]
     rw[if_pos c1]
     by_cases c2:n8 r.2.2.2.2.2.1=2
     ·rw[if_neg (not_not_intro c2),if_neg (by omega)]
     rw[if_pos c2]
     by_cases c3:n8 r.2.2.2.2.2.1=3
     ·rw[if_neg (not_not_intro c3),if_neg (by omega)]
     ·rw[if_pos c3,if_pos (by omega)]
    ·rw[if_pos h4]
     by_cases h:r.2.2.2.2.1<1
     ·rw[if_pos h]
     ·rw[if_neg h,if_pos (by omega)]
   ·rw[if_pos h3]
    by_cases h:r.2.2.2.1<0
    ·rw[if_pos h]
    ·rw[if_neg h,if_pos (by omega)]
  ·rw[if_pos h2]
   by_cases h:r.2.2.1<1
   ·rw[if_pos h]
   ·rw[if_neg h,if_pos (by omega)]
 ·rw[if_pos h1]
  by_cases h:r.2.1<0
  ·rw[if_pos h]
  ·rw[if_neg h,if_pos (by omega)]
def oL:Option Reg→List Reg→Int
 |_,[]=>0
 |p,r::l=>if gN r≠0 then gN r else match p with
  |none=>oL (some r) l
  |some q=>if r.1=q.1 then 7 else if slt r.1 q.1=true then 8 else oL (some r) l
def jR(l:List Reg):Int:=if 16<l.length then 9 else oL none l
def VZ(p:Option Reg) (r:Reg):Option Int ⊕ Unit:=if gN r≠0 then .inl (some (gN r)) else match p with
  |none=>.inr ()
  |some q=>if r.1=q.1 then .inl (some 7) else if slt r.1 q.1=true then .inl (some 8) else .inr ()
theorem E8(l:List Reg):∀(r:List Reg) (i:Nat),l.drop i=r→i≤l.length→itI (fun i x (_:Unit)=>VZ (before l i) x) (fun _=>some (0:Int)) i r ()=some (oL (before l i) r)
 | [],i,_,_=>rfl
 |x::r,i,h,hi=>by
  have hx:l[i]?=some x:=by rw[←List.head?_drop,h]; rfl
  have hr:l.drop (i+1)=r:=by rw[←bJR,h]; rfl
  have hl:i<l.length:=(bHI.1 hx).1
  simp only[itI,oL,VZ]
  have e:before l (i+1)=some x:=hx
  have ih:=E8 l r (i+1) hr (by omega)
  rw[e] at ih
  by_cases hc:gN x≠0
  ·rw[if_pos hc,if_pos hc]
  ·rw[if_neg hc,if_neg hc]
   cases before l i with
   |none=>exact ih
   |some q =>
    simp only
    by_cases h7:x.1=q.1
    ·rw[if_pos h7,if_pos h7]
    ·rw[if_neg h7,if_neg h7]
     by_cases h8:slt x.1 q.1=true
     ·rw[if_pos h8,if_pos h8]
     ·rw[if_neg h8,if_neg h8];exact ih
theorem CR(l:List Reg):q22 fuelH l=some (jR l):=by
 unfold q22
 by_cases h:16<l.length
 ·rw[aD (aP (by simp only[len]; omega))]; simp[jR,h]
 ·rw[aC (aQ (by simp only[len]; omega)),bF];refine bKF (oT (l:=l) (fun (_:Unit) (p:Nat)=>(p:Int)) (fun i x (_:Unit)=>VZ (before l i) x) (fun _=>some (0:Int)) (fun _ _=>True) (fun self a i hi _=>?_) (fun self a _=>?_) fuelH 0 () (bKD _) (by have:=aZ; omega) trivial) ?_
  ·rw[aD (aP (by simp only[len]; omega)),aF (aS (by simp only[len]; omega)),aU hi,cC (qU _)];unfold VZ
   by_cases hc:gN l[i]≠0
   ·rw[if_pos hc,aD (bX hc)]; rfl
   ·rw[if_neg hc,aC (bW (by simpa using hc)),bF,aO hi (by omega)]
    cases i with
    |zero =>
     rw[aC (by rfl),aC (by rfl)];exact⟨rfl,trivial⟩
    |succ i =>
     have e0:before l (i+1)=some l[i]:=by simp only[before]; exact bHN (by omega)
     have hin:inb ((i:Nat):Int) (len l)=true:=aS (by simp only[len]; omega)
     have hp:ilt (0:Int) ((i+1:Nat):Int)=true:=aP (by omega)
     rw[e0,aD hp,fJ (by omega),aF hin,aU (show i<l.length by omega),aD hp,aF hin];simp only
     by_cases h7:l[i+1].1=l[i].1
     ·rw[if_pos h7,aD (by rw[cF]; exact h7)]; rfl
     ·rw[if_neg h7,aC (by rw[←bJB,cF]; exact h7)]
      by_cases h8:slt l[i+1].1 l[i].1=true
      ·rw[if_pos h8,aD h8]; rfl
      ·rw[if_neg h8,aC (by simpa using h8)];exact⟨rfl,trivial⟩
  ·rw[aC (aQ (by simp only[len]; omega))]
  ·rw[bJS,E8 l l 0 rfl (bKD _)];simp[jR,h,before]
theorem aM6(l:List Reg):aHP fuelH l=some (jR l):=by
 rw[←CR]
 have e:UB fuelH=q21 fuelH:=funext fun r=>by rw[MH,qU]
 unfold aHP q22;rw[e]
def zF:Reg:=([],11,4,0,32,2,true)
def noR:Reg:=([],0,0,0,0,0,false)
def MI(l:List Reg) (n:Y_):Option Reg:=if n=[] then some zF else l.find? fun r=>decide (r.1=n)
def aE0(l:List Reg) (n:Y_):Reg×Bool:=match MI l n with
 |some r=>(r,true)
 |none=>(noR,false)
theorem E9(n:Y_):∀(l:List Reg) (i:Nat),itI (fun _ (x:Reg) (_:Unit)=>if x.1=n then(.inl (some (x,true)):Option (Reg×Bool) ⊕ Unit) else .inr ()) (fun _=>some (noR,false)) i l ()=some (match l.find? fun r=>decide (r.1=n) with|some r=>(r,true)|none=>(noR,false))
 | [],_=>rfl
 |x::l,i=>by
  simp only[itI,List.find?_cons]
  by_cases h:x.1=n
  ·rw[if_pos h,decide_eq_true h]
  ·rw[if_neg h,decide_eq_false h];exact E9 n l (i+1)
theorem CS(l:List Reg) (hl:l.length≤4000000) (n:Y_):q24 fuelH (l,n)=some (aE0 l n):=by
 unfold q24 aE0 MI;simp only
 by_cases h:n=[]
 ·rw[aD (by rw[cF]; exact h),if_pos h]; rfl
 ·rw[aC (by rw[←bJB,cF]; exact h),if_neg h,bF];refine bKF (oT (l:=l) (fun (_:Unit) (p:Nat)=>(p:Int)) (fun _ (x:Reg) (_:Unit)=>if x.1=n then .inl (some (x,true)) else .inr ()) (fun _=>some (noR,false)) (fun _ _=>True) (fun self a i hi _=>?_) (fun self a _=>?_) fuelH 0 () (bKD _) (by have:=aZ; omega) trivial) (E9 n l 0)
  ·have hin:inb (i:Int) (len l)=true:=aS (by simp only[len]; omega)
   rw[aD (aP (by simp only[len]; omega)),aF hin,aU hi]
   by_cases hc:l[i].1=n
   ·rw[if_pos hc,aD (by rw[cF]; exact hc)]; rfl
   ·rw[if_neg hc,aC (by rw[←bJB,cF]; exact hc),aO hi (by omega)];exact⟨rfl,trivial⟩
  ·rw[aC (aQ (by simp only[len]; omega))];rfl
theorem aM7:tB fuelH=q24 fuelH:=by kernel_rfl
def eZ(r:Reg):Prop:=r=zF∨gN r=0
instance (r:Reg):Decidable (eZ r):=by unfold eZ; infer_instance
theorem aZN{a b:Reg}:(a=b)=(a.1=b.1∧a.2.1=b.2.1∧a.2.2.1=b.2.2.1∧a.2.2.2.1=b.2.2.2.1∧a.2.2.2.2.1=b.2.2.2.2.1∧a.2.2.2.2.2.1=b.2.2.2.2.2.1∧a.2.2.2.2.2.2=b.2.2.2.2.2.2):=by
 obtain⟨a1,a2,a3,a4,a5,a6,a7⟩:=a; obtain⟨b1,b2,b3,b4,b5,b6,b7⟩:=b; simp
theorem IZ(x:Reg):(cY (seq x.1 zF.1) (cY (ieq x.2.1 zF.2.1) (cY (ieq x.2.2.1 zF.2.2.1) (cY (ieq x.2.2.2.1 zF.2.2.2.1) (cY (ieq x.2.2.2.2.1 zF.2.2.2.2.1) (cY (ieq (n8 x.2.2.2.2.2.1) (n8 zF.2.2.2.2.2.1)) (oV x.2.2.2.2.2.2 zF.2.2.2.2.2.2))))))=true)=(x=zF):=by
 simp only[qT,cF,oS,BO,aEY];exact aZN.symm
theorem BQ(r:Reg):q38 fuelH r=some (decide (eZ r)):=by
 unfold q38;rw[cC (show q23 fuelH ()=some zF from rfl),qU,aB]
 by_cases h:r=zF
 ·rw[aD ((IZ r).mpr h),@decide_eq_true (eZ r) _ (.inl h)]
 ·rw[aC (by rw[←bJB]; exact fun k=>h ((IZ r).mp k))];congr 1
  by_cases h2:gN r=0
  ·rw[cB h2,@decide_eq_true (eZ r) _ (.inr h2)]
  ·rw[bS h2,@decide_eq_false (eZ r) _ (fun k=>k.elim h h2)]
theorem KQ(r:Reg):aHT fuelH r=some (decide (eZ r)):=by
 unfold aHT;rw[cC (show aA8 fuelH ()=some zF from rfl),MH,aB]
 by_cases h2:gN r=0
 ·rw[aD (cB h2),@decide_eq_true (eZ r) _ (.inr h2)]
 ·rw[aC (bS h2)];congr 1
  have hd:=IZ r
  by_cases h:r=zF
  ·rw[@decide_eq_true (eZ r) _ (.inl h)];exact hd.mpr h
  ·rw[@decide_eq_false (eZ r) _ (fun k=>k.elim h h2),←bJB];exact fun k=>h (hd.mp k)
theorem BR{r:Reg}(h:eZ r):0≤r.2.1∧1≤r.2.2.1∧r.2.1+r.2.2.1≤15∧0≤r.2.2.2.1∧1≤r.2.2.2.2.1∧r.2.2.2.1+r.2.2.2.2.1≤32∧1≤n8 r.2.2.2.2.2.1∧n8 r.2.2.2.2.2.1≤3:=by
 rcases h with rfl|h
 ·decide
 ·unfold gN at h
  split at h
  ·cases h
  split at h
  ·cases h
  split at h
  ·cases h
  split at h
  ·cases h
  split at h
  ·cases h
  split at h
  ·cases h
  omega
def aE1(r:Reg) (n:Int):Int:=if n8 r.2.2.2.2.2.1=3 then r.2.2.2.1+(r.2.2.2.2.1-n) else if n8 r.2.2.2.2.2.1=2 then r.2.2.2.1+(r.2.2.2.2.1-n).tdiv 2 else r.2.2.2.1
def zH(r:Reg) (k:Nat):Int:=if r.2.2.2.2.2.2=true then r.2.1+(r.2.2.1-(k:Int)) else r.2.1
def MJ(r:Reg) (k:Nat) (i:Nat) (n:Int) (out:List DI):Option (List DI×Int) ⊕ List DI :=
 if n<0 then .inl (some ([],2)) else if r.2.2.2.2.1<n then .inl (some ([],11)) else .inr (out++[(zH r k+(i:Int),aE1 r n,n)])
def WA(r:Reg) (k:Nat):Nat→List Int→List DI→List DI×Int
 |_,[],out=>(out,0)
 |i,n::l,out=>if n<0 then([],2) else if r.2.2.2.2.1<n then([],11) else WA r k (i+1) l (out++[(zH r k+(i:Int),aE1 r n,n)])
def xG(r:Reg) (l:List Int):List DI×Int:=if ¬eZ r then([],1) else if r.2.2.1<(l.length:Int) then([],9) else WA r l.length 0 l []
theorem BS(r:Reg) (k:Nat):∀(l:List Int) (i:Nat) (out:List DI),itI (MJ r k) (fun a=>some (a,(0:Int))) i l out=some (WA r k i l out)
 | [],i,out=>rfl
 |n::l,i,out=>by
  simp only[itI,WA,MJ]
  by_cases h1:n<0
  ·rw[if_pos h1,if_pos h1]
  ·rw[if_neg h1,if_neg h1]
   by_cases h2:r.2.2.2.2.1<n
   ·rw[if_pos h2,if_pos h2]
   ·rw[if_neg h2,if_neg h2];exact BS r k l (i+1) _
theorem aM8{α β:Type}(K:α→Option β) (b:Bool) (x y:α):jn K (fun v=>cnd b (v x) (v y))=K (if b=true then x else y):=by
 rw[bF]; cases b<;>rfl
theorem aQM{x:Int}(h:0≤x):0≤x.tdiv 2∧x.tdiv 2≤x:=by
 rw[Int.tdiv_eq_ediv_of_nonneg h]; omega
theorem aM9{r:Reg}(hu:eZ r){k i:Nat}{n:Int}(hk:(k:Int)≤r.2.2.1) (hi:i<k) (h0:0≤n) (hn:n≤r.2.2.2.2.1) :
  w64 (aE (zH r k) (i:Int))=zH r k+(i:Int)∧w64 (aH r.2.2.2.2.1 n)=r.2.2.2.2.1-n∧w64 (aE r.2.2.2.1 (r.2.2.2.2.1-n))=r.2.2.2.1+(r.2.2.2.2.1-n)∧w64 (YJ (r.2.2.2.2.1-n) 2)=(r.2.2.2.2.1-n).tdiv 2∧w64 (aE r.2.2.2.1 ((r.2.2.2.2.1-n).tdiv 2))=r.2.2.2.1+(r.2.2.2.2.1-n).tdiv 2:=by
 have hb:=BR hu
 have hd:=aQM (x:=r.2.2.2.2.1-n) (by omega)
 refine⟨?_,?_,?_,?_,?_⟩
 ·unfold aE zH;rw[bG]
  split<;>omega
 ·unfold aH; rw[bG (by omega)]
 ·unfold aE; rw[bG (by omega)]
 ·unfold YJ; rw[bG (by omega)]
 ·unfold aE; rw[bG (by omega)]
theorem WC(r:Reg) (l:List Int):q39 fuelH (r,l)=some (xG r l):=by
 unfold q39 xG;simp only;rw[BQ,aB,lP]
 by_cases hu:eZ r
 ·rw[if_pos hu,if_neg (not_not_intro hu)]
  have hb:=BR hu
  by_cases hk:r.2.2.1<(l.length:Int)
  ·rw[aD (aP (show r.2.2.1<len l from hk)),if_pos hk]
  ·rw[aC (aQ (show ¬r.2.2.1<len l from hk)),if_neg hk,aM8]
   have et:(if r.2.2.2.2.2.2=true then w64 (aE r.2.1 (w64 (aH r.2.2.1 (len l)))) else r.2.1)=zH r l.length:=by
    unfold zH
    have e1:w64 (aH r.2.2.1 (len l))=r.2.2.1-(l.length:Int):=by unfold aH len; rw[bG (by omega)]
    rw[e1];unfold aE;rw[bG (by omega)]
   rw[et,bF];refine bKF (oT (l:=l) (fun (a:List DI) (p:Nat)=>(a,(p:Int))) (MJ r l.length) (fun a=>some (a,(0:Int))) (fun i a=>a.length≤i) (fun self a i hi ha=>?_) (fun self a _=>?_) fuelH 0 [] (bKD _) (by have:=aZ; omega) (bKC _)) (BS r l.length l 0 [])
   ·have hin:inb (i:Int) (len l)=true:=aS (by simp only[len]; omega)
    simp only;rw[aD (aP (by simp only[len]; omega)),aF hin,aU hi,aO hi (by omega)];unfold MJ
    by_cases h1:l[i]<0
    ·rw[if_pos h1,aD (aP h1)]; rfl
    ·rw[if_neg h1,aC (aQ h1)]
     by_cases h2:r.2.2.2.2.1<l[i]
     ·rw[if_pos h2,aD (aP h2)]; rfl
     ·rw[if_neg h2,aC (aQ h2)];obtain⟨q1,q2,q3,q4,q5⟩:=aM9 hu (k:=l.length) (i:=i) (n:=l[i]) (by omega) hi (by omega) (by omega)
      have hroom:∀s:DI,cL (aE (len a) (len [s])) 24=true:=fun s=>cU (by simp only[aE,len,bH5]; omega)
      rw[q1,q2,q3,q4,q5];rw[aF (hroom _),aF (hroom _),aF (hroom _)];refine⟨?_,by simp only[bIM,bH5]; omega⟩;unfold aE1
      have e3:n8 (3:UInt8)=3:=rfl
      have e2:n8 (2:UInt8)=2:=rfl
      rw[gB,gB,e3,e2]
      by_cases c3:n8 r.2.2.2.2.2.1=3
      ·rw[if_pos c3,if_pos c3]; rfl
      ·rw[if_neg c3,if_neg c3]
       by_cases c2:n8 r.2.2.2.2.2.1=2
       ·rw[if_pos c2,if_pos c2]; rfl
       ·rw[if_neg c2,if_neg c2]; rfl
   ·simp only;rw[aC (aQ (by simp only[len]; omega))]
 ·rw[if_neg hu,if_pos hu]
theorem aIV(r:Reg) (l:List Int):aA9 fuelH (r,l)=some (xG r l):=by
 unfold aA9 xG;simp only;rw[KQ,aB,lP]
 by_cases hu:eZ r
 ·rw[if_pos hu,if_neg (not_not_intro hu)]
  have hb:=BR hu
  by_cases hk:r.2.2.1<(l.length:Int)
  ·rw[aD (aP (show r.2.2.1<len l from hk)),if_pos hk]
  ·rw[aC (aQ (show ¬r.2.2.1<len l from hk)),if_neg hk,bF];refine bKF (oT (l:=l) (fun (a:List DI) (p:Nat)=>(a,(p:Int))) (MJ r l.length) (fun a=>some (a,(0:Int))) (fun i a=>a.length≤i) (fun self a i hi ha=>?_) (fun self a _=>?_) fuelH 0 [] (bKD _) (by have:=aZ; omega) (bKC _)) (BS r l.length l 0 [])
   ·have hin:inb (i:Int) (len l)=true:=aS (by simp only[len]; omega)
    simp only;rw[aD (aP (by simp only[len]; omega)),aF hin,aU hi,aO hi (by omega)];unfold MJ
    by_cases h1:l[i]<0
    ·rw[if_pos h1,aD (aP h1)]; rfl
    ·rw[if_neg h1,aC (aQ h1)]
     by_cases h2:r.2.2.2.2.1<l[i]
     ·rw[if_pos h2,aD (aP h2)]; rfl
     ·rw[if_neg h2,aC (aQ h2),aM8];obtain⟨q1,q2,q3,q4,q5⟩:=aM9 hu (k:=l.length) (i:=i) (n:=l[i]) (by omega) hi (by omega) (by omega)
      have et:(if r.2.2.2.2.2.2=true then(w64 (aE (w64 (aE r.2.1 (i:Int))) (w64 (aH r.2.2.1 (len l)))),r.2.2.2.1,l[i]) else(w64 (aE r.2.1 (i:Int)),r.2.2.2.1,l[i]))=((zH r l.length+(i:Int),r.2.2.2.1,l[i]):DI):=by
       have e1:w64 (aH r.2.2.1 (len l))=r.2.2.1-(l.length:Int):=by unfold aH len; rw[bG (by omega)]
       have e2:w64 (aE r.2.1 (i:Int))=r.2.1+(i:Int):=by unfold aE; rw[bG (by omega)]
       have e3:w64 (aE (r.2.1+(i:Int)) (r.2.2.1-(l.length:Int)))=r.2.1+(r.2.2.1-(l.length:Int))+(i:Int):=by unfold aE; rw[bG (by omega)]; omega
       rw[e1,e2,e3];unfold zH
       split<;>rfl
      rw[et];simp only
      have hroom:∀s:DI,cL (aE (len a) (len [s])) 24=true:=fun s=>cU (by simp only[aE,len,bH5]; omega)
      rw[q2,q3,q4,q5];rw[aF (hroom _),aF (hroom _),aF (hroom _)];refine⟨?_,by simp only[bIM,bH5]; omega⟩;unfold aE1
      have e3:n8 (3:UInt8)=3:=rfl
      have e2:n8 (2:UInt8)=2:=rfl
      rw[gB,gB,e3,e2]
      by_cases c3:n8 r.2.2.2.2.2.1=3
      ·rw[if_pos c3,if_pos c3]; rfl
      ·rw[if_neg c3,if_neg c3]
       by_cases c2:n8 r.2.2.2.2.2.1=2
       ·rw[if_pos c2,if_pos c2]; rfl
       ·rw[if_neg c2,if_neg c2]; rfl
   ·simp only;rw[aC (aQ (by simp only[len]; omega))]
 ·rw[if_neg hu,if_pos hu]
abbrev Ev:=Int×(Int×Int)×Y_×UInt8×Y_×List Row
theorem aCU{s:Y_}(hs:s.length≤4000000):q33 fuelH s=some ((rns s).length:Int):=by
 unfold q33;rw[bF]
 have hf:∀(l:List Int) (n:Nat),n+l.length≤100000000→zB (fun (_:Int) (a:Int) self=>self (w64 (aE a 1))) (fun a=>some a) l (n:Int)=some ((n+l.length:Nat):Int):=by
  intro l
  induction l with
  |nil=>intro n _; rfl
  |cons r l ih =>
   intro n hn;simp only[bI3] at hn;simp only[zB];rw[aO (show n<n+1 by omega) (by omega),ih (n+1) (by omega)];simp only[bI3];congr 2;omega
 refine(IW (s:=s) (fun (a:Int) (p:Nat)=>(a,s,ofN p)) (fun _ a self=>self (w64 (aE a 1))) (fun a=>some a) (fun self a p hp=>?_) (fun self a p hp=>?_) fuelH 0 (0:Int) (by have:=aZ; omega)).trans ?_
 ·simp only[FC];rw[aD (aSU (show p<gE s from hp))];rfl
 ·simp only[FC];rw[aC (aSV (show ¬p<gE s by unfold gE; omega))]
 ·have:=FB _ s (bKC _)
  have h:=hf (rns s) 0 (by omega)
  rw[bJS]
  simpa using h
theorem aZO{s:Y_}(hs:s.length≤4000000) (hv:vld s=true):q34 fuelH s=some ((rns s).length:Int):=by
 unfold q34;rw[lO _ hs,aB,hv,aC (by rfl),aCU hs];rfl
theorem aQN{s:Y_}(hs:s.length≤4000000) (hv:vld s=true):qM fuelH s=some ((rns s).length:Int):=by
 unfold qM;rw[iZ _ hs,aB,hv,aC (by rfl),VX hs];rfl
def gO:Row→Nat
 | []=>0
 |x::l=>(rns x.1).length+gO l
def cZ(l:Row):Y_:=l.flatMap (·.1)
def okR(l:Row):Prop:=l.length≤16∧(∀x∈l,vld x.1=true∧x.1.length≤4000000)∧tot l≤4000000
def WD(l:Row):Prop:=aCS l∧tot l≤4000000
def aCV(l:List Row):Prop:=∀r∈l,WD r
theorem aCW{l:Row}(hs:WD l) (h:jQ l=0):okR l:=by
 obtain⟨h1,h2⟩:=MF h;exact⟨h1,fun x hx=>⟨(h2 x hx).1,(hs.1 x hx).1⟩,hs.2⟩
theorem WF:∀(l:Row),(∀x∈l,x.1.length≤4000000)→gO l≤4000000*l.length
 | [],_=>bKC _
 |x::l,h=>by
  have h1:=FB _ x.1 (bKC _)
  have h2:=h x bIQ
  have h3:=WF l fun y hy=>h y (bH7 _ hy)
  simp only[gO,bI3];omega
theorem BT:∀(l:Row) (i:Nat) (h:i<l.length),gO (l.take (i+1))=gO (l.take i)+(rns l[i].1).length
 |x::l,0,_=>by simp[gO]
 |x::l,i+1,h=>by
  have:=BT l i (by simpa using h)
  simp only[bIH,gO,this,List.getElem_cons_succ];omega
theorem WI(l:Row) (i:Nat):gO (l.take i)≤gO l:=by
 induction l generalizing i with
 |nil=>simp[gO]
 |cons x l ih=>cases i with
  |zero=>simp[gO]
  |succ i=>simp only[bIH,gO]; have:=ih i; omega
theorem F0{l:Row}(h:okR l) (L:Y_→Option Int) (hL:∀s:Y_,s.length≤4000000→vld s=true→L s=some ((rns s).length:Int)) :
  aY (fun (v2:Int×Int→Option Int) (v3:Int×Int) =>
  cnd (ilt v3.2 (len l))
   (grd (inb v3.2 (len l))
    (bnd (L (aA l (toN v3.2) zU).1) fun v4 =>
    cnd (ilt v4 (0:Int))
     (some (-1:Int))
     (v2 (w64 (aE v3.1 v4),w64 (aE v3.2 (1:Int))))))
   (some v3.1)) fuelH ((0:Int),(0:Int))=some (gO l:Int):=by
 have hb:=WF l fun x hx=>(h.2.1 x hx).2
 have hl:=h.1
 refine iJ (n:=l.length) (fun (a:Nat) (i:Nat)=>((a:Int),(i:Int))) (fun i a=>a=gO (l.take i)) _ (fun self a i hi hI=>?_) (fun self a hI=>?_) fuelH 0 0 (bKD _) (by have:=aZ; omega) rfl
 ·refine⟨a+(rns l[i].1).length,?_,?_⟩
  ·have ht:=BT l i hi
   have ht2:=WI l (i+1)
   simp only;rw[aD (aP (by simp only[len]; omega)),aF (aS (by simp only[len]; omega)),aU hi,hL _ (h.2.1 _ (bJE hi)).2 (h.2.1 _ (bJE hi)).1,aB,aC (aQ (by omega)),aO hi (by omega)]
   have e:w64 (aE (a:Int) ((rns l[i].1).length:Int))=((a+(rns l[i].1).length:Nat):Int):=by
    unfold aE; rw[bG (by omega)]; omega
   rw[e]
  ·rw[BT l i hi,hI]
 ·simp only;rw[aC (aQ (by simp only[len]; omega)),hI,bJA]
theorem MK{l:Row}(h:okR l):q35 fuelH l=some (gO l:Int):=by
 unfold q35;rw[bF];exact F0 h (q34 fuelH) fun s=>aZO
theorem WJ{l:Row}(h:okR l):mJ fuelH l=some (gO l:Int):=by
 unfold mJ;rw[bF];exact F0 h (qM fuelH) fun s=>aQN
theorem CT(l:Row) (i:Nat) (h:i<l.length):cZ (l.take (i+1))=cZ (l.take i)++l[i].1:=by
 unfold cZ;rw[bHA h,List.flatMap_append];simp
theorem JA:∀(l:Row),(cZ l).length=tot l
 | []=>rfl
 |x::l=>by
  have h3:=JA l
  unfold cZ at h3 ⊢;simp only[List.flatMap_cons,bIM,tot,h3]
theorem aNA(l:Row) (i:Nat):tot (l.take i)≤tot l:=by
 have h:=FD (l.take i) (l.drop i)
 rw[bH0] at h;omega
theorem uJ{l:Row}(h:okR l) (i:Nat):(cZ (l.take i)).length≤4000000:=by
 rw[JA]
 have:=aNA l i
 have:=h.2.2
 omega
theorem aIW{N:Nat}{a b:Y_}(h:a.length+b.length≤100000000):q31 N (((),a),b)=some ((b.length:Int),false,(),a++b):=by
 unfold q31;show(grd (cL (aE (len a) (len b)) 1) (some (len b,false,(),bL a b)))=_;rw[aF (cU (by simp only[aE,len]; omega))];rfl
theorem F1{l:Row}(h:okR l):q32 fuelH l=some (cZ l):=by
 unfold q32;rw[bF]
 have hl:=h.1
 refine iJ (n:=l.length) (fun (a:Y_) (i:Nat)=>((i:Int),(),a)) (fun i a=>a=cZ (l.take i)) _ (fun self a i hi hI=>?_) (fun self a hI=>?_) fuelH 0 [] (bKD _) (by have:=aZ; omega) rfl
 ·refine⟨a++l[i].1,?_,?_⟩
  ·have h1:=uJ h i
   have h2:=(h.2.1 _ (bJE hi)).2
   simp only;rw[aD (aP (by simp only[len]; omega)),aF (aS (by simp only[len]; omega)),aU hi,aIW (by rw[hI]; omega),aB,aO hi (by omega)]
  ·rw[CT l i hi,hI]
 ·simp only;rw[aC (aQ (by simp only[len]; omega)),hI,bJA]
theorem aIX{l:Row}(h:okR l):aHR fuelH l=some (cZ l):=by
 unfold aHR;rw[bF]
 have hl:=h.1
 refine iJ (n:=l.length) (fun (a:Y_) (i:Nat)=>(a,(i:Int))) (fun i a=>a=cZ (l.take i)) _ (fun self a i hi hI=>?_) (fun self a hI=>?_) fuelH 0 [] (bKD _) (by have:=aZ; omega) rfl
 ·refine⟨a++l[i].1,?_,?_⟩
  ·have h1:=uJ h i
   have h2:=(h.2.1 _ (bJE hi)).2
   simp only;rw[aD (aP (by simp only[len]; omega)),aF (aS (by simp only[len]; omega)),aU hi,aF (oK (by rw[hI]; simp only[aE,len]; omega)),aO hi (by omega)];rfl
  ·rw[CT l i hi,hI]
 ·simp only;rw[aC (aQ (by simp only[len]; omega)),hI,bJA]
def sp2:Y_→Bool
 | []=>false
 | [_]=>false
 |a::b::t=>([32,32]:Y_).isPrefixOf (a::b::t)||sp2 (b::t)
theorem ML:∀t:Y_,decide (0≤index t [32,32])=sp2 t
 | []=>rfl
 | [a]=>by
  have e:index [a] [32,32]=if([32,32]:Y_).isPrefixOf [a]=true then 0 else if(index [] [32,32] == -1)=true then -1 else index [] [32,32]+1:=rfl
  have hp:([32,32]:Y_).isPrefixOf [a]=false:=by cases h:((32:UInt8)==a)<;>simp[List.isPrefixOf,h]
  rw[e,hp];rfl
 |a::b::t=>by
  have ih:=ML (b::t)
  have hg:=index_ge (b::t) [32,32]
  have e:index (a::b::t) [32,32]=if([32,32]:Y_).isPrefixOf (a::b::t)=true then 0 else if(index (b::t) [32,32] == -1)=true then -1 else index (b::t) [32,32]+1:=rfl
  have e2:sp2 (a::b::t)=(([32,32]:Y_).isPrefixOf (a::b::t)||sp2 (b::t)):=rfl
  rw[e,e2,←ih];generalize index (b::t) [32,32]=m at hg ⊢
  cases ([32,32]:Y_).isPrefixOf (a::b::t) with
  |true=>rfl
  |false =>
   rw[if_neg (by decide),bJZ]
   by_cases h1:m=-1
   ·subst h1; rfl
   ·rw[if_neg (by simpa using h1),decide_eq_true (by omega),decide_eq_true (by omega)]
theorem WK(t:Y_):contains t [32,32]=sp2 t:=ML t
def F2(t:Y_):Bool:=if t=[] then false else if n8 (aA t (toN (0:Int)) 0)=n8 (32:UInt8) then false else if n8 (aA t (toN (w64 (aH (len t) 1))) 0)=n8 (32:UInt8) then false else !sp2 t
theorem aNB{t:Y_}{i:Nat}(h:i+1<t.length):sp2 (t.drop i)=(((32==t[i])&&((32==t[i+1])&&true))||sp2 (t.drop (i+1))):=by
 rw[bHK (show i<t.length by omega),bHK h];rfl
theorem aSW{a:UInt8}(h:¬n8 a=n8 (32:UInt8)):((32:UInt8)==a)=false:=by
 rw[beq_eq_false_iff_ne]; intro e; exact h (by rw[←e])
theorem aSX{a:UInt8}(h:n8 a=n8 (32:UInt8)):((32:UInt8)==a)=true:=by
 rw[cH h]; rfl
theorem MM{t:Y_}(ht:t.length≤100000000):∀(fuel i:Nat),t.length-(i+1)<fuel→i+1≤t.length →
  aY (fun (v2:Int→Option Bool) (v3:Int) =>
       cnd (ilt v3 (len t))
        (grd (inb v3 (len t))
         (cnd (ieq (n8 (aA t (toN v3) (0:UInt8))) (n8 (32:UInt8)))
          (grd (inb (w64 (aH v3 (1:Int))) (len t))
           (cnd (ieq (n8 (aA t (toN (w64 (aH v3 (1:Int)))) (0:UInt8))) (n8 (32:UInt8)))
            (some false)
            (v2 (w64 (aE v3 (1:Int))))))
          (v2 (w64 (aE v3 (1:Int))))))
        (some true)) fuel ((i+1:Nat):Int)=some (!sp2 (t.drop i))
 | 0,i,h,_=>by omega
 |fuel+1,i,h,hi=>by
  rw[eP]
  by_cases hl:i+1<t.length
  ·have h0:inb ((i:Nat):Int) (len t)=true:=aS (by simp only[len]; omega)
   rw[aD (aP (by simp only[len]; omega)),aF (aS (by simp only[len]; omega)),aU hl,aO hl (by omega),fJ (by omega),aF h0,aU (show i<t.length by omega),aNB hl,MM ht fuel (i+1) (by omega) (by omega),gB,gB]
   by_cases c1:n8 t[i+1]=n8 (32:UInt8)
   ·rw[if_pos c1,aSX c1]
    by_cases c2:n8 t[i]=n8 (32:UInt8)
    ·rw[if_pos c2,aSX c2]; rfl
    ·rw[if_neg c2,aSW c2]; rfl
   ·rw[if_neg c1,aSW c1]; simp
  ·rw[aC (aQ (by simp only[len]; omega))]
   have:t.drop i=[t[i]]:=by
    rw[bHK (show i<t.length by omega),List.drop_eq_nil_of_le (by omega)]
   rw[this];rfl
theorem F3{t:Y_}(ht:t.length≤4000000):pL fuelH t=some (F2 t):=by
 unfold pL F2
 by_cases h0:t=[]
 ·rw[aD (by rw[cF]; exact h0),if_pos h0]
 ·have hl:0<t.length:=bIK.2 h0
  have e1:w64 (aH (len t) 1)=((t.length-1:Nat):Int):=nP hl (by omega)
  have hin:inb (w64 (aH (len t) 1)) (len t)=true:=by rw[e1]; exact aS (by simp only[len]; omega)
  rw[aC (by rw[←bJB,cF]; exact h0),if_neg h0,aF (aS (by simp only[len]; omega)),gB]
  by_cases h1:n8 (aA t (toN (0:Int)) 0)=n8 (32:UInt8)
  ·rw[if_pos h1,if_pos h1]
  ·rw[if_neg h1,if_neg h1,aF hin,gB]
   by_cases h2:n8 (aA t (toN (w64 (aH (len t) 1))) 0)=n8 (32:UInt8)
   ·rw[if_pos h2,if_pos h2]
   ·rw[if_neg h2,if_neg h2,bF];exact MM (by omega) fuelH 0 (by have:=aZ; omega) hl
def nQ(l:Row):Int:=if jQ l≠0 then jQ l else if F2 (cZ l)=false then 4 else if 32<gO l then 11 else 0
theorem WL{l:Row}(hs:WD l):q36 fuelH l=some (nQ l):=by
 unfold q36 nQ;rw[cC (E7 hs.1)]
 by_cases hk:jQ l≠0
 ·rw[aD (bX hk),if_pos hk]
 ·rw[aC (bW (by simpa using hk)),if_neg hk]
  have hr:=aCW hs (by simpa using hk)
  have hp:=uJ hr l.length
  rw[bJA] at hp;rw[cC (F1 hr)];generalize cZ l=t at hp ⊢;unfold F2
  by_cases h0:t=[]
  ·rw[aD (by rw[cF]; exact h0),if_pos h0,if_pos rfl]
  ·have hl:0<t.length:=bIK.2 h0
   have e1:w64 (aH (len t) 1)=((t.length-1:Nat):Int):=nP hl (by omega)
   have hin:inb (w64 (aH (len t) 1)) (len t)=true:=by rw[e1]; exact aS (by simp only[len]; omega)
   rw[aC (by rw[←bJB,cF]; exact h0),if_neg h0,aF (aS (by simp only[len]; omega)),gB]
   by_cases h1:n8 (aA t (toN (0:Int)) 0)=n8 (32:UInt8)
   ·rw[if_pos h1,if_pos h1,if_pos rfl]
   ·rw[if_neg h1,if_neg h1,aF hin,gB]
    by_cases h2:n8 (aA t (toN (w64 (aH (len t) 1))) 0)=n8 (32:UInt8)
    ·rw[if_pos h2,if_pos h2,if_pos rfl]
    ·rw[if_neg h2,if_neg h2]
     have hc:strings_Contains fuelH (t,[32,32])=some (sp2 t):=by
      show grd (decide (t.length<4294967281)) (some (contains t [32,32]))=_;rw[aF (decide_eq_true (by omega)),WK]
     rw[cC hc]
     by_cases h3:sp2 t=true
     ·rw[aD h3,h3,if_pos (by decide)]
     ·rw[aC (by simpa using h3),Bool.eq_false_iff.2 h3,if_neg (by simp),cC (MK hr),bY]
      by_cases h4:32<gO l
      ·rw[if_pos (by omega),if_pos h4]
      ·rw[if_neg (by omega),if_neg h4]
theorem F4(N:Nat) (s:Int×Int):q25 N s=some (decide (0≤s.1∧s.1<s.2∧s.2≤5184000)):=by
 unfold q25;rw[mL,bY]
 by_cases h1:0≤s.1
 ·rw[if_pos h1]
  by_cases h2:s.1<s.2
  ·rw[if_pos h2]; simp[h1,h2,ile]
  ·rw[if_neg h2]; simp[h2]
 ·rw[if_neg h1]; simp[h1]
theorem aCX(N:Nat) (s:Int×Int):aL5 N s=some (decide (0≤s.1∧s.1<s.2∧s.2≤5184000)):=F4 N s
def aNC(k:UInt8):Bool:=match q27 fuelH k with
 |some s=>decide (seq s []=decide (¬(1≤n8 k∧n8 k≤4)))
 |none=>false
theorem aND(k:UInt8):∃s,q27 fuelH k=some s∧seq s []=decide (¬(1≤n8 k∧n8 k≤4)):=by
 have h:aNC k=true:=xE (P:=aNC) (by kernel_rfl) k
 unfold aNC at h
 split at h
 ·rename_i s hs;exact⟨s,hs,of_decide_eq_true h⟩
 ·cases h
theorem aNE{β:Type}(K:Bool→Option β) (s:Y_) (X:Option Bool) (hX:X=some (nm s)):jn K (fun v=>cnd (sne s ([]:Y_)) (bnd X fun w=>v (bA w)) (v false))=K (decide (s≠[]∧nm s=false)):=by
 rw[bF,hX,aB]
 by_cases h:s=[]
 ·subst h; rfl
 ·rw[aD (by simp[sne,h])];congr 1;cases hn:nm s<;>simp[bA,h]
def zI:List Row→Int→Int
 | [],k=>k
 |l::r,k=>if nQ l≠0 then nQ l else zI r k
def zJ(l:List Row):List Int:=l.map fun r=>(gO r:Int)
def rC(x:Ev) (rs:List Reg):Int :=
 if x.1<1 then 2 else if 1099511627776<x.1 then 2 else
 if ¬(0≤x.2.1.1∧x.2.1.1<x.2.1.2∧x.2.1.2≤5184000) then 2 else
 match MI rs x.2.2.1 with
 |none=>6
 |some r =>
  if ¬(1≤n8 x.2.2.2.1∧n8 x.2.2.2.1≤4) then 3 else
  if x.2.2.2.2.1≠[]∧nm x.2.2.2.2.1=false then 5 else
  if x.2.2.2.2.2.length=0 then 9 else if 4<x.2.2.2.2.2.length then 9 else
  zI x.2.2.2.2.2 (xG r (zJ x.2.2.2.2.2)).2
theorem aE2{l:Row}(hs:WD l) (h:nQ l=0):okR l:=by
 unfold nQ at h
 split at h
 ·rename_i hc; exact absurd h hc
 ·rename_i hc; exact aCW hs (by simpa using hc)
theorem vK{x:Ev}(h:∀l∈x.2.2.2.2.2,okR l) (hl:x.2.2.2.2.2.length≤1000000):q37 fuelH x=some (zJ x.2.2.2.2.2):=by
 unfold q37;rw[bF];generalize x.2.2.2.2.2=l at h hl ⊢;refine iJ (n:=l.length) (fun (a:List Int) (i:Nat)=>(a,(i:Int))) (fun i a=>a=zJ (l.take i)) _ (fun self a i hi hI=>?_) (fun self a hI=>?_) fuelH 0 [] (bKD _) (by have:=aZ; omega) rfl
 ·refine⟨a++[(gO l[i]:Int)],?_,?_⟩
  ·have ha:a.length≤i:=by rw[hI]; unfold zJ; rw[bJO,bI6]; omega
   simp only;rw[aD (aP (by simp only[len]; omega)),aF (aS (by simp only[len]; omega)),aU hi,MK (h _ (bJE hi)),aB,aF (cU (by simp only[aE,len,bH5]; omega)),aO hi (by omega)];rfl
  ·rw[hI]; unfold zJ; rw[bHA hi,bJP]; rfl
 ·simp only;rw[aC (aQ (by simp only[len]; omega)),hI,bJA]
theorem F5(K:Option Int) (k:Int):∀(l:List Row) (i:Nat),((∀r∈l,nQ r=0)→K=some k)→itI (fun _ (r:Row) (_:Unit)=>if nQ r≠0 then(.inl (some (nQ r)):Option Int ⊕ Unit) else .inr ()) (fun _=>K) i l ()=some (zI l k)
 | [],i,h=>h fun r hr=>by cases hr
 |r::l,i,h=>by
  simp only[itI,zI]
  by_cases hc:nQ r≠0
  ·rw[if_pos hc,if_pos hc]
  ·rw[if_neg hc,if_neg hc];refine F5 K k l (i+1) fun hl=>h fun q hq=>?_
   rcases bJX.1 hq with rfl|hq
   ·simpa using hc
   ·exact hl q hq
theorem MN(K:List Int→Option Int) (k:List Int→Int) (hK:∀a,K a=some (k a)):∀(l:List Row) (i:Nat) (a:List Int),itI (fun _ (r:Row) (a:List Int)=>if nQ r≠0 then(.inl (some (nQ r)):Option Int ⊕ List Int) else .inr (a++[(gO r:Int)])) K i l a=some (zI l (k (a++zJ l)))
 | [],i,a=>by simp[itI,hK,zI,zJ]
 |r::l,i,a=>by
  simp only[itI,zI]
  by_cases hc:nQ r≠0
  ·rw[if_pos hc,if_pos hc]
  ·rw[if_neg hc,if_neg hc];simp only;rw[MN K k hK l (i+1)];simp[zJ]
theorem JB{x:Ev}{rs:List Reg}(hs:aCV x.2.2.2.2.2) (hr:rs.length≤4000000):q40 fuelH (x,rs)=some (rC x rs):=by
 unfold q40 rC;simp only;rw[CS _ hr,aB,bY]
 by_cases c1:x.1<1
 ·rw[if_pos c1,if_pos c1]
 rw[if_neg c1,if_neg c1,bY]
 by_cases c2:1099511627776<x.1
 ·rw[if_pos c2,if_pos c2]
 rw[if_neg c2,if_neg c2,F4,aB,lP]
 by_cases c3:0≤x.2.1.1∧x.2.1.1<x.2.1.2∧x.2.1.2≤5184000
 ·rw[if_pos c3,if_neg (not_not_intro c3)];unfold aE0
  cases hf:MI rs x.2.2.1 with
  |none=>rfl
  |some r =>
   simp only;rw[aC (by rfl)];obtain⟨s,k1,k2⟩:=aND x.2.2.2.1;rw[cC k1,k2,gA]
   by_cases c4:1≤n8 x.2.2.2.1∧n8 x.2.2.2.1≤4
   ·rw[if_neg (not_not_intro c4),if_neg (not_not_intro c4),aNE _ _ _ (qS _),gA]
    by_cases c5:x.2.2.2.2.1≠[]∧nm x.2.2.2.2.1=false
    ·rw[if_pos c5,if_pos c5]
    rw[if_neg c5,if_neg c5]
    by_cases c6:x.2.2.2.2.2.length=0
    ·rw[aD (cB (by simp only[len]; omega)),if_pos c6]
    rw[aC (bS (by simp only[len]; omega)),if_neg c6]
    by_cases c7:4<x.2.2.2.2.2.length
    ·rw[aD (aP (by simp only[len]; omega)),if_pos c7]
    rw[aC (aQ (by simp only[len]; omega)),if_neg c7,bF]
    have hlen:=@vK x
    generalize x.2.2.2.2.2=l at hs c6 c7 hlen ⊢;refine bKF (oT (l:=l) (fun (_:Unit) (p:Nat)=>(p:Int)) (fun _ (r:Row) (_:Unit)=>if nQ r≠0 then .inl (some (nQ r)) else .inr ()) (fun _=>bnd (q37 fuelH x) fun v5=>bnd (q39 fuelH (r,v5)) fun v6=>some v6.2) (fun _ _=>True) (fun self a i hi _=>?_) (fun self a _=>?_) fuelH 0 () (bKD _) (by have:=aZ; omega) trivial) (F5 _ _ l 0 fun hl=>?_)
    ·rw[aD (aP (by simp only[len]; omega)),aF (aS (by simp only[len]; omega)),aU hi,cC (WL (hs _ (bJE hi))),aO hi (by omega)]
     by_cases hc:nQ l[i]≠0
     ·rw[if_pos hc,aD (bX hc)]; rfl
     ·rw[if_neg hc,aC (bW (by simpa using hc))];exact⟨rfl,trivial⟩
    ·rw[aC (aQ (by simp only[len]; omega))]
    ·rw[cC (hlen (fun q hq=>aE2 (hs q hq) (hl q hq)) (by omega)),cC (WC _ _)]
   ·rw[if_pos c4,if_pos c4]
 ·rw[if_neg c3,if_pos c3]
theorem WN{x:Ev}{rs:List Reg}(hs:aCV x.2.2.2.2.2) (hr:rs.length≤4000000):aHU fuelH (x,rs)=some (rC x rs):=by
 unfold aHU rC;simp only;rw[bY]
 by_cases c1:x.1<1
 ·rw[if_pos c1,if_pos c1]
 rw[if_neg c1,if_neg c1,bY]
 by_cases c2:1099511627776<x.1
 ·rw[if_pos c2,if_pos c2]
 rw[if_neg c2,if_neg c2,aCX,aB,lP]
 by_cases c3:0≤x.2.1.1∧x.2.1.1<x.2.1.2∧x.2.1.2≤5184000
 ·rw[if_pos c3,if_neg (not_not_intro c3),aM7,CS _ hr,aB];unfold aE0
  cases hf:MI rs x.2.2.1 with
  |none=>rfl
  |some r =>
   simp only;rw[aC (by rfl)]
   have e1:n8 (1:UInt8)=1:=rfl
   have e4:n8 (4:UInt8)=4:=rfl
   rw[bY,bY,e1,e4]
   by_cases c4:1≤n8 x.2.2.2.1∧n8 x.2.2.2.1≤4
   ·rw[if_neg (by omega),if_neg (by omega),if_neg (not_not_intro c4),aNE _ _ _ (zD _),gA]
    by_cases c5:x.2.2.2.2.1≠[]∧nm x.2.2.2.2.1=false
    ·rw[if_pos c5,if_pos c5]
    rw[if_neg c5,if_neg c5]
    by_cases c6:x.2.2.2.2.2.length=0
    ·rw[aD (cB (by simp only[len]; omega)),if_pos c6]
    rw[aC (bS (by simp only[len]; omega)),if_neg c6]
    by_cases c7:4<x.2.2.2.2.2.length
    ·rw[aD (aP (by simp only[len]; omega)),if_pos c7]
    rw[aC (aQ (by simp only[len]; omega)),if_neg c7,bF];generalize x.2.2.2.2.2=l at hs c6 c7 ⊢;refine bKF (oT (l:=l) (fun (a:List Int) (p:Nat)=>(a,(p:Int))) (fun _ (r:Row) (a:List Int)=>if nQ r≠0 then .inl (some (nQ r)) else .inr (a++[(gO r:Int)])) (fun a=>bnd (aA9 fuelH (r,a)) fun v4=>some v4.2) (fun i a=>a.length≤i) (fun self a i hi ha=>?_) (fun self a _=>?_) fuelH 0 [] (bKD _) (by have:=aZ; omega) (bKC _)) (MN _ (fun a=>(xG r a).2) (fun a=>by rw[aIV]; rfl) l 0 [])
    ·have hsr:=hs _ (bJE hi)
     have hin:inb (i:Int) (len l)=true:=aS (by simp only[len]; omega)
     simp only;rw[aD (aP (by simp only[len]; omega)),aF hin,aU hi,cC (aIT hsr.1),aO hi (by omega)];generalize l[i]=q at hsr ⊢;unfold nQ
     by_cases hk:jQ q≠0
     ·rw[if_pos hk,if_pos hk,aD (bX hk)]; rfl
     ·have hok:=aCW hsr (by simpa using hk)
      have hp:=uJ hok q.length
      rw[bJA] at hp;rw[if_neg hk,aC (bW (by simpa using hk)),cC (aIX hok),cC (F3 hp),mM]
      by_cases hn:F2 (cZ q)=false
      ·rw[if_pos (by rw[hn]; rfl),if_pos hn,if_pos (by decide)]; rfl
      ·rw[if_neg (by rw[gM]; exact hn),if_neg hn,cC (WJ hok),bY]
       by_cases h4:32<gO q
       ·rw[if_pos (by omega),if_pos h4,if_pos (by decide)]; rfl
       ·rw[if_neg (by omega),if_neg h4,if_neg (by decide),cC (WJ hok),aF (cU (by simp only[aE,len,bH5]; omega))];exact⟨rfl,by simp only[bIM,bH5]; omega⟩
    ·simp only;rw[aC (aQ (by simp only[len]; omega))]
   ·rw[if_pos c4]
    by_cases h:n8 x.2.2.2.1<1
    ·rw[if_pos h]
    ·rw[if_neg h,if_pos (by omega)]
 ·rw[if_neg c3,if_pos c3]
abbrev Cmt:=Int×Int×Int×Int×Y_×Y_×Bool×Bool
abbrev Doc:=Y_×Y_×UInt8×Bool×Int×List Reg×List Ev×List Cmt
def tvB(r:UInt8):Bool:=(q16 fuelH r).getD false
def cdB(r:UInt8):Bool:=(q17 fuelH r).getD false
theorem aSY(r:UInt8):q16 fuelH r=some (tvB r)∧q17 fuelH r=some (cdB r) :=
 of_decide_eq_true (xE (P:=fun r=>decide (q16 fuelH r=some (tvB r)∧q17 fuelH r=some (cdB r))) (by kernel_rfl) r)
theorem aZP(r:UInt8):KP fuelH r=some (tvB r)∧C3 fuelH r=some (cdB r):=by
 obtain⟨h1,h2,_⟩:=aQJ fuelH r;rw[←h1,←h2];exact aSY r
def eH(r:UInt8) (drop:Bool):Prop:=tvB r=false∨(drop=true∧cdB r=false)
instance (r:UInt8) (drop:Bool):Decidable (eH r drop):=by unfold eH; infer_instance
def kQ(d:Doc):Int :=
 if vld d.1=false then 10 else if 400<d.1.length then 9 else if d.2.1≠[]∧nm d.2.1=false then 5 else
 if eH d.2.2.1 d.2.2.2.1 then 13 else if d.2.2.2.2.1<0 then 2 else if 1099511627776<d.2.2.2.2.1 then 2 else 0
theorem aNF(r:UInt8) (b:Bool):q18 fuelH (r,b)=some (if eH r b then 13 else 0):=by
 unfold q18;obtain⟨h1,h2⟩:=aSY r;simp only;rw[h1,aB]
 by_cases c1:tvB r=false
 ·rw[aD (by rw[c1]; rfl),if_pos (show eH r b from .inl c1)]
 ·rw[aC (by rw[←bJB,gM]; exact c1)]
  cases b with
  |false =>
   rw[aC rfl,if_neg];rintro(h|h)
   ·exact c1 h
   ·cases h.1
  |true =>
   rw[aD rfl,h2,aB]
   by_cases c2:cdB r=false
   ·rw[aD (by rw[c2]; rfl),if_pos (show eH r true from .inr ⟨rfl,c2⟩)]
   ·rw[aC (by rw[←bJB,gM]; exact c2),if_neg];rintro(h|h)
    ·exact c1 h
    ·exact c2 h.2
theorem aIY{d:Doc}(hd:d.1.length≤4000000):q19 fuelH d=some (kQ d):=by
 unfold q19 kQ;rw[bF,lO _ hd,aB]
 by_cases c1:vld d.1=false
 ·rw[aD (by rw[c1]; rfl),if_pos c1]
 rw[aC (by rw[←bJB,gM]; exact c1),if_neg c1]
 by_cases c2:400<d.1.length
 ·rw[aD (aP (by simp only[len]; omega)),if_pos c2]
 rw[aC (aQ (by simp only[len]; omega)),if_neg c2,qS,aB,aNF,aB]
 have hrest:cnd (ine (if eH d.2.2.1 d.2.2.2.1 then(13:Int) else 0) 0) (some (if eH d.2.2.1 d.2.2.2.1 then(13:Int) else 0)) (cnd (ilt d.2.2.2.2.1 0) (some (2:Int)) (cnd (ilt 1099511627776 d.2.2.2.2.1) (some 2) (some 0)))=some (if eH d.2.2.1 d.2.2.2.1 then 13 else if d.2.2.2.2.1<0 then 2 else if 1099511627776<d.2.2.2.2.1 then 2 else 0):=by
  by_cases c4:eH d.2.2.1 d.2.2.2.1
  ·rw[if_pos c4,if_pos c4]; rfl
  ·rw[if_neg c4,if_neg c4,aC (by rfl),bY,bY]
   by_cases c5:d.2.2.2.2.1<0
   ·rw[if_pos c5,if_pos c5]
   rw[if_neg c5,if_neg c5]
   by_cases c6:1099511627776<d.2.2.2.2.1
   ·rw[if_pos c6,if_pos c6]
   ·rw[if_neg c6,if_neg c6]
 rw[hrest];generalize (if eH d.2.2.1 d.2.2.2.1 then(13:Int) else if d.2.2.2.2.1<0 then 2 else if 1099511627776<d.2.2.2.2.1 then 2 else 0)=R
 by_cases c3:d.2.1=[]
 ·rw[aC (by simp[sne,c3]),if_neg fun h=>h.1 c3]
 ·rw[aD (by simp[sne,c3])]
  by_cases c4:nm d.2.1=false
  ·rw[aD (by rw[c4]; rfl),if_pos ⟨c3,c4⟩]
  ·rw[aC (by rw[←bJB,gM]; exact c4),if_neg fun h=>c4 h.2]
theorem WP{d:Doc}(hd:d.1.length≤4000000):aHO fuelH d=some (kQ d):=by
 unfold aHO kQ;rw[iZ _ hd,aB]
 by_cases c1:vld d.1=false
 ·rw[aD (by rw[c1]; rfl),if_pos c1]
 rw[aC (by rw[←bJB,gM]; exact c1),if_neg c1]
 by_cases c2:400<d.1.length
 ·rw[aD (aP (by simp only[len]; omega)),if_pos c2]
 rw[aC (aQ (by simp only[len]; omega)),if_neg c2,aNE _ _ _ (zD _),gA]
 by_cases c3:d.2.1≠[]∧nm d.2.1=false
 ·rw[if_pos c3,if_pos c3]
 rw[if_neg c3,if_neg c3,bF];obtain⟨h1,h2⟩:=aZP d.2.2.1;rw[h1,aB,h2,aB]
 have hrest:∀b:Bool,b=decide (eH d.2.2.1 d.2.2.2.1)→cnd b (some (13:Int)) (cnd (ilt d.2.2.2.2.1 0) (some (2:Int)) (cnd (ilt 1099511627776 d.2.2.2.2.1) (some 2) (some 0)))=some (if eH d.2.2.1 d.2.2.2.1 then 13 else if d.2.2.2.2.1<0 then 2 else if 1099511627776<d.2.2.2.2.1 then 2 else 0):=by
  rintro b rfl;rw[gA,bY,bY]
  by_cases c4:eH d.2.2.1 d.2.2.2.1
  ·rw[if_pos c4,if_pos c4]
  rw[if_neg c4,if_neg c4]
  by_cases c5:d.2.2.2.2.1<0
  ·rw[if_pos c5,if_pos c5]
  rw[if_neg c5,if_neg c5]
  by_cases c6:1099511627776<d.2.2.2.2.1
  ·rw[if_pos c6,if_pos c6]
  ·rw[if_neg c6,if_neg c6]
 by_cases c1:tvB d.2.2.1=false
 ·rw[aD (by rw[c1]; rfl)];exact hrest true (decide_eq_true (show eH _ _ from .inl c1)).symm
 ·rw[aC (by rw[←bJB,gM]; exact c1)]
  cases hb:d.2.2.2.1 with
  |false =>
   rw[aC rfl];rw[hb] at hrest;refine hrest false (decide_eq_false ?_).symm;rintro(h|h)
   ·exact c1 h
   ·cases h.1
  |true =>
   rw[aD rfl];rw[hb] at hrest;refine hrest _ ?_
   cases hc:cdB d.2.2.1 with
   |false=>exact(decide_eq_true (show eH _ _ from .inr ⟨rfl,hc⟩)).symm
   |true =>
    refine(decide_eq_false ?_).symm;rintro(h|h)
    ·exact c1 h
    ·rw[hc] at h; cases h.2
def pO:Nat→List Ev→List (Int×Int)
 |_,[]=>[]
 |i,x::l=>(x.1,(i:Int))::pO (i+1) l
def jS:Nat→List Ev→Int→Int
 |_,[],_=>-1
 |i,x::l,k=>if x.1=k then(i:Int) else jS (i+1) l k
def jZ(l:List Ev) (k:Int):Prop:=∃x∈l,x.1=k
instance (l:List Ev) (k:Int):Decidable (jZ l k):=by unfold jZ; infer_instance
theorem F6:∀(a b:List Ev) (i:Nat),pO i (a++b)=pO i a++pO (i+a.length) b
 | [],b,i=>by simp[pO]
 |x::a,b,i=>by
  simp only[bI5,pO,F6 a b (i+1),bI3];congr 3; omega
theorem mV:∀(l:List Ev) (i:Nat) (k:Int),kE ieq (pO i l) k=decide (jZ l k)
 | [],i,k=>by simp[pO,kE,jZ]
 |x::l,i,k=>by
  simp only[pO,kE,mV l (i+1) k]
  by_cases h:k=x.1
  ·rw[cB h,decide_eq_true (show jZ (x::l) k from⟨x,bIQ,h.symm⟩)]; rfl
  ·rw[bS h];show(false||_)=_;rw[bJZ];exact decide_eq_decide.2 ⟨fun ⟨y,h1,h2⟩=>⟨y,bH7 _ h1,h2⟩,fun ⟨y,h1,h2⟩=>by
    rcases bJX.1 h1 with rfl|h1
    ·exact absurd h2.symm h
    ·exact⟨y,h1,h2⟩⟩
theorem rU{k v:Int}:∀(m:List (Int×Int)),kE ieq m k=false→rJ ieq m k v=m++[(k,v)]
 | [],_=>rfl
 |x::m,h=>by
  simp only[kE,bor,Bool.or_eq_false_iff] at h;simp only[rJ,h.1,rU m h.2];rfl
theorem MO:∀(l:List Ev) (i:Nat) (k:Int),jZ l k→oW ieq 0 (pO i l) k=jS i l k
 | [],i,k,h=>by obtain⟨x,h,_⟩:=h; cases h
 |x::l,i,k,h=>by
  simp only[pO,oW,jS]
  by_cases hc:x.1=k
  ·rw[cB hc.symm,if_pos hc]; rfl
  ·rw[bS (fun e=>hc e.symm),if_neg hc];obtain⟨y,h1,h2⟩:=h;rcases bJX.1 h1 with rfl|h1
   ·exact absurd h2 hc
   ·exact MO l (i+1) k ⟨y,h1,h2⟩
theorem JC:∀(l:List Ev) (i:Nat) (k:Int),¬jZ l k→jS i l k=-1
 | [],i,k,_=>rfl
 |x::l,i,k,h=>by
  simp only[jS];rw[if_neg fun e=>h ⟨x,bIQ,e⟩];exact JC l (i+1) k fun ⟨y,h1,h2⟩=>h ⟨y,bH7 _ h1,h2⟩
theorem uK:∀(l:List Ev) (i:Nat) (k:Int),jZ l k→∃j,∃h:j<l.length,jS i l k=((i+j:Nat):Int)∧l[j].1=k∧¬jZ (l.take j) k
 | [],i,k,h=>by obtain⟨x,h,_⟩:=h; cases h
 |x::l,i,k,h=>by
  simp only[jS]
  by_cases hc:x.1=k
  ·exact⟨0,by simp,by rw[if_pos hc]; rfl,hc,fun ⟨y,h1,_⟩=>by cases h1⟩
  ·obtain⟨y,h1,h2⟩:=h;rcases bJX.1 h1 with rfl|h1
   ·exact absurd h2 hc
   ·obtain⟨j,hj,e1,e2,e3⟩:=uK l (i+1) k ⟨y,h1,h2⟩;refine⟨j+1,by simpa using hj,?_,by simpa using e2,?_⟩
    ·rw[if_neg hc,e1]; congr 1; omega
    ·rintro⟨z,h3,h4⟩;rw[bIH] at h3;rcases bJX.1 h3 with rfl|h3
     ·exact hc h4
     ·exact e3 ⟨z,h3,h4⟩
theorem aNG{l:List Ev}{i:Nat}(hi:i<l.length):jS 0 l l[i].1=(i:Int)↔¬jZ (l.take i) l[i].1:=by
 obtain⟨j,hj,e1,e2,e3⟩:=uK l 0 l[i].1 ⟨l[i],bJE hi,rfl⟩;rw[e1];constructor
 ·intro h
  have:j=i:=by omega
  subst this;exact e3
 ·intro h
  have h1:¬j<i:=fun hji=>h ⟨l[j],by rw[List.mem_take_iff_getElem]; exact⟨j,by omega,rfl⟩,e2⟩
  have h2:¬i<j:=fun hij=>e3 ⟨l[i],by rw[List.mem_take_iff_getElem]; exact⟨i,by omega,rfl⟩,rfl⟩
  congr 1; omega
theorem aE3{d:Doc}(h:d.2.2.2.2.2.2.1.length≤4000000) (k:Int):iI fuelH (d,k)=some (jS 0 d.2.2.2.2.2.2.1 k):=by
 unfold iI;rw[bF];simp only;generalize d.2.2.2.2.2.2.1=l at h ⊢
 have hit:∀(r:List Ev) (i:Nat),itI (fun i (x:Ev) (_:Unit)=>if x.1=k then(.inl (some (i:Int)):Option Int ⊕ Unit) else .inr ()) (fun _=>some (-1:Int)) i r ()=some (jS i r k):=by
  intro r
  induction r with
  |nil=>intro i; rfl
  |cons x r ih =>
   intro i;simp only[itI,jS]
   by_cases hc:x.1=k
   ·rw[if_pos hc,if_pos hc]
   ·rw[if_neg hc,if_neg hc]; exact ih (i+1)
 refine bKF (oT (l:=l) (fun (_:Unit) (p:Nat)=>(p:Int)) (fun i (x:Ev) (_:Unit)=>if x.1=k then .inl (some (i:Int)) else .inr ()) (fun _=>some (-1:Int)) (fun _ _=>True) (fun self a i hi _=>?_) (fun self a _=>?_) fuelH 0 () (bKD _) (by have:=aZ; omega) trivial) (hit l 0)
 ·rw[aD (aP (by simp only[len]; omega)),aF (aS (by simp only[len]; omega)),aU hi,aO hi (by omega)]
  by_cases hc:l[i].1=k
  ·rw[if_pos hc,aD (cB hc)]; rfl
  ·rw[if_neg hc,aC (bS hc)];exact⟨rfl,trivial⟩
 ·rw[aC (aQ (by simp only[len]; omega))]
def lQ(a b:Ev):Prop:=a.2.1.1<b.2.1.1∨(a.2.1.1=b.2.1.1∧a.1<b.1)
instance (a b:Ev):Decidable (lQ a b):=by unfold lQ; infer_instance
theorem aNH(N:Nat) (a b:Ev):pM N (a,b)=some (decide (lQ a b)):=by
 unfold pM lQ;simp only;rw[bY,gB]
 by_cases h1:a.2.1.1<b.2.1.1
 ·rw[if_pos h1]; simp[h1]
 ·rw[if_neg h1]
  by_cases h2:a.2.1.1=b.2.1.1
  ·rw[if_pos h2]; simp[h2,ilt]
  ·rw[if_neg h2]; simp[h1,h2]
theorem aNI(N:Nat) (a b:Int):q42 N (a,b)=some (if a<b then -1 else if b<a then 1 else 0):=by
 unfold q42
 have h:∀x:Int,q41 N x=some false:=fun x=>by
  show some (ine x x)=_;rw[bW rfl]
 simp only;rw[h,h,aB,aB,aC rfl,aC rfl,bY,bY]
 by_cases h1:a<b
 ·rw[if_pos h1,if_pos h1]
 ·rw[if_neg h1,if_neg h1]
  by_cases h2:b<a
  ·rw[if_pos h2,if_pos h2]
  ·rw[if_neg h2,if_neg h2]
theorem bGK(a b:Int):q43 fuelH [a,b]=some (if a≠0 then a else b):=by
 have h:q43 fuelH [a,b]=cnd (ine a 0) (some a) (cnd (ine b 0) (some b) (some 0)):=by kernel_rfl
 rw[h,jP,jP]
 by_cases h1:a≠0
 ·rw[if_pos h1,if_pos h1]
 ·rw[if_neg h1,if_neg h1]
  by_cases h2:b≠0
  ·rw[if_pos h2]
  ·rw[if_neg h2]; congr 1; omega
theorem aCY(a b:Ev):q44 fuelH (a,b)=some (decide (lQ a b)):=by
 unfold q44;simp only;rw[aNI,aB,aNI,aB,bGK,aB];congr 1
 by_cases h1:a.2.1.1<b.2.1.1
 ·rw[if_pos h1,if_pos (by decide),@decide_eq_true (lQ a b) _ (.inl h1)]; rfl
 ·rw[if_neg h1]
  by_cases h2:b.2.1.1<a.2.1.1
  ·rw[if_pos h2,if_pos (by decide),@decide_eq_false (lQ a b) _ (by unfold lQ; omega)]; rfl
  ·rw[if_neg h2,if_neg (by decide)]
   by_cases h3:a.1<b.1
   ·rw[if_pos h3,@decide_eq_true (lQ a b) _ (by unfold lQ; omega)]; rfl
   ·rw[if_neg h3,@decide_eq_false (lQ a b) _ (by unfold lQ; omega)]
    split<;>rfl
def DJ{α:Type}(R:List α→α→Int):List α→List α→Int
 |_,[]=>0
 |pre,x::l=>if R pre x≠0 then R pre x else DJ R (pre++[x]) l
theorem MP{α:Type}{R:List α→α→Int}:∀(l pre:List α),DJ R pre l=0→∀j (h:j<l.length),R (pre++l.take j) l[j]=0
 | [],_,_,j,h=>by simp at h
 |x::l,pre,h0,j,h=>by
  simp only[DJ] at h0
  split at h0
  ·rename_i hc; exact absurd h0 hc
  ·rename_i hc
   cases j with
   |zero=>simpa using hc
   |succ j =>
    have:=MP l (pre++[x]) h0 j (by simpa using h)
    simpa using this
theorem tI{V σ α ρ:Type}{F:(V→Option ρ)→V→Option ρ}{l:List α}(st:σ→Nat→V) (g:List α→σ) (R:List α→α→Int) (w:Int→ρ) (K:Option ρ)
  (hstep:∀self i (h:i<l.length),F self (st (g (l.take i)) i)=if R (l.take i) l[i]≠0 then some (w (R (l.take i) l[i])) else self (st (g (l.take (i+1))) (i+1)))
  (hend:(∀j (h:j<l.length),R (l.take j) l[j]=0)→∀self,F self (st (g l) l.length)=K) :
  ∀(fuel i:Nat),i≤l.length→l.length-i<fuel→(∀j (h:j<l.length),j<i→R (l.take j) l[j]=0) →
  aY F fuel (st (g (l.take i)) i)=if DJ R (l.take i) (l.drop i)≠0 then some (w (DJ R (l.take i) (l.drop i))) else K
 | 0,i,_,h,_=>by omega
 |fuel+1,i,hi,h,hp=>by
  rw[eP]
  by_cases hl:i<l.length
  ·rw[hstep _ i hl,bHK hl,DJ]
   by_cases hc:R (l.take i) l[i]≠0
   ·rw[if_pos hc,if_pos hc,if_pos hc]
   ·rw[if_neg hc,if_neg hc]
    have ih:=tI st g R w K hstep hend fuel (i+1) (by omega) (by omega) (fun j hj hji=>by
     by_cases e:j=i
     ·subst e; simpa using hc
     ·exact hp j hj (by omega))
    rw[ih,bHA hl]
  ·obtain rfl:i=l.length:=by omega
   rw[bJA,hend (fun j hj=>hp j hj hj),bJD];rfl
def vD:List Row→Nat
 | []=>0
 |r::l=>gO r+vD l
def vL(x:Ev):Int:=((x.2.2.2.2.2.length-1+vD x.2.2.2.2.2:Nat):Int)
theorem BU:∀(l:List Row) (i:Nat) (h:i<l.length),vD (l.take (i+1))=vD (l.take i)+gO l[i]
 |x::l,0,_=>by simp[vD]
 |x::l,i+1,h=>by
  have:=BU l i (by simpa using h)
  simp only[bIH,vD,this,List.getElem_cons_succ];omega
theorem JD{l:Row}(h:okR l):gO l≤64000000:=by
 have h1:=WF l fun x hx=>(h.2.1 x hx).2
 have h2:=h.1
 omega
theorem aE4:∀(l:List Row),(∀r∈l,okR r)→vD l≤64000000*l.length
 | [],_=>bKC _
 |r::l,h=>by
  have h1:=JD (h r bIQ)
  have h2:=aE4 l fun q hq=>h q (bH7 _ hq)
  simp only[vD,bI3];omega
theorem zK(l:List Row) (h:∀r∈l,okR r) (i:Nat):vD (l.take i)≤64000000*l.length:=by
 have h1:=aE4 (l.take i) fun r hr=>h r (bIA hr)
 have:(l.take i).length≤l.length:=by rw[bI6]; omega
 omega
theorem WQ{x:Ev}(h:∀l∈x.2.2.2.2.2,okR l) (hl:x.2.2.2.2.2.length≤1000):q45 fuelH x=some (vL x):=by
 unfold q45 vL;rw[bF,cC (vK h (by omega))];generalize x.2.2.2.2.2=l at h hl ⊢
 have hll:(zJ l).length=l.length:=by unfold zJ; rw[bJO]
 have e0:YK (w64 (aH (len l) 1)) 0=((l.length-1:Nat):Int):=by
  simp only[aH,YK,len];rw[bG (by omega)];omega
 rw[e0];refine iJ (n:=l.length) (fun (a:Nat) (i:Nat)=>((a:Int),(i:Int))) (fun i a=>a=l.length-1+vD (l.take i)) _ (fun self a i hi hI=>?_) (fun self a hI=>?_) fuelH 0 (l.length-1) (bKD _) (by have:=aZ; omega) (by simp[vD])
 ·refine⟨a+gO l[i],?_,?_⟩
  ·have ht:=zK l h i
   have hb:=JD (h _ (bJE hi))
   have hin:inb (i:Int) (len (zJ l))=true:=aS (by simp only[len,hll]; omega)
   have hg:aA (zJ l) (toN (i:Int)) (0:Int)=(gO l[i]:Int):=by
    rw[aU (by omega)];simp[zJ]
   simp only;rw[aD (aP (by simp only[len,hll]; omega)),aF hin,hg,aC (aQ (by omega)),aO hi (by omega)]
   have e:w64 (aE (a:Int) (gO l[i]:Int))=((a+gO l[i]:Nat):Int):=by
    unfold aE; rw[bG (by omega)]; omega
   rw[e]
  ·rw[BU l i hi,hI]; omega
 ·simp only;rw[aC (aQ (by simp only[len,hll]; omega)),hI,bJA]
theorem aCZ{x:Ev}(h:∀l∈x.2.2.2.2.2,okR l) (hl:x.2.2.2.2.2.length≤1000):oJ fuelH x=some (vL x):=by
 unfold oJ vL;rw[bF];generalize x.2.2.2.2.2=l at h hl ⊢;refine iJ (n:=l.length) (fun (a:Nat) (i:Nat)=>((a:Int),(i:Int))) (fun i a=>a=i-1+vD (l.take i)) _ (fun self a i hi hI=>?_) (fun self a hI=>?_) fuelH 0 0 (bKD _) (by have:=aZ; omega) (by simp[vD])
 ·refine⟨i+vD (l.take i)+gO l[i],?_,?_⟩
  ·have ht:=zK l h i
   have hb:=JD (h _ (bJE hi))
   simp only;rw[aD (aP (by simp only[len]; omega)),aF (aS (by simp only[len]; omega)),aU hi,WJ (h _ (bJE hi)),aB,aC (aQ (by omega)),aO hi (by omega)]
   by_cases h0:i=0
   ·subst h0;rw[aC (aQ (by omega))]
    have e:w64 (aE (a:Int) (gO l[0]:Int))=((0+vD (l.take 0)+gO l[0]:Nat):Int):=by
     unfold aE; rw[bG (by omega)]; omega
    rw[e]
   ·rw[aD (aP (by omega))]
    have e1:w64 (aE (a:Int) 1)=((a+1:Nat):Int):=by unfold aE; rw[bG (by omega)]; omega
    have e:w64 (aE ((a+1:Nat):Int) (gO l[i]:Int))=((i+vD (l.take i)+gO l[i]:Nat):Int):=by
     unfold aE; rw[bG (by omega)]; omega
    rw[e1,e]
  ·rw[BU l i hi]; omega
 ·simp only;rw[aC (aQ (by simp only[len]; omega)),hI,bJA]
theorem JE:∀(l:List Row) (k:Int),zI l k=0→(∀r∈l,nQ r=0)∧k=0
 | [],k,h=>⟨fun r hr=>(by cases hr),h⟩
 |r::l,k,h=>by
  simp only[zI] at h
  split at h
  ·rename_i hc; exact absurd h hc
  ·rename_i hc;obtain⟨h1,h2⟩:=JE l k h;refine⟨fun q hq=>?_,h2⟩;rcases bJX.1 hq with rfl|hq
   ·simpa using hc
   ·exact h1 q hq
theorem aSZ{x:Ev}{rs:List Reg}(h:rC x rs=0):1≤x.1∧x.1≤1099511627776∧(0≤x.2.1.1∧x.2.1.1<x.2.1.2∧x.2.1.2≤5184000)∧0<x.2.2.2.2.2.length∧x.2.2.2.2.2.length≤4∧(∀r∈x.2.2.2.2.2,nQ r=0)∧∃r,MI rs x.2.2.1=some r∧(xG r (zJ x.2.2.2.2.2)).2=0:=by
 unfold rC at h
 split at h
 ·cases h
 split at h
 ·cases h
 split at h
 ·cases h
 rename_i c1 c2 c3
 split at h
 ·cases h
 rename_i r hr
 split at h
 ·cases h
 split at h
 ·cases h
 split at h
 ·cases h
 split at h
 ·cases h
 rename_i c6 c7;obtain⟨h1,h2⟩:=JE _ _ h;exact⟨by omega,by omega,by omega,by omega,by omega,h1,r,hr,h2⟩
def aIZ(p:Option Ev) (x:Ev):Bool:=match p with
 |some q=>decide (lQ q x)
 |none=>true
def CU(rs:List Reg) (last:Int) (pre:List Ev) (x:Ev):Int :=
 if rC x rs≠0 then rC x rs else if last<x.1 then 2 else if aIZ pre.getLast? x=false then 8 else if jZ pre x.1 then 7 else 0
def BV(d:Doc):Int:=DJ (CU d.2.2.2.2.2.1 d.2.2.2.2.1) [] d.2.2.2.2.2.2.1
theorem F7{rs:List Reg}{last:Int}{pre:List Ev}{x:Ev}(h:CU rs last pre x=0):rC x rs=0∧x.1≤last∧aIZ pre.getLast? x=true∧¬jZ pre x.1:=by
 unfold CU at h
 split at h
 ·rename_i hc; exact absurd h hc
 rename_i c1
 split at h
 ·cases h
 rename_i c2
 split at h
 ·cases h
 rename_i c3
 split at h
 ·cases h
 rename_i c4;exact⟨by simpa using c1,by omega,by simpa using c3,c4⟩
theorem uL{α:Type}{l:List α}{i:Nat}(h:i<l.length):(l.take (i+1)).getLast?=some l[i]:=by
 rw[bHA h,List.getLast?_concat]
theorem aZQ{α:Type}{K:Unit→Option α}{X:Option α}(h:K ()=X) (T:(Unit→Option α)→Option α):jn K T=T fun _=>X:=by
 rw[bF,show K=fun _=>X from funext fun _=>h]
def aNJ(p:Option Cmt) (c:Cmt):Bool:=match p with
 |some q=>decide (q.1<c.1)
 |none=>true
def evZ:Ev:=(0,(0,0),[],0,[],[])
def BW(l:List Ev) (k:Int):Ev:=aA l (toN (jS 0 l k)) evZ
def aI0(d:Doc) (c:Cmt):Int :=
 if c.2.1<1 then 2 else if d.2.2.2.2.1<c.2.1 then 2 else
 if c.2.2.2.2.2.2.2=true then(if c.2.2.1≠0 then 2 else if c.2.2.2.1≠0 then 2 else 0) else
 if ¬jZ d.2.2.2.2.2.2.1 c.2.1 then 6 else if c.2.2.1<0 then 2 else if c.2.2.2.1≤c.2.2.1 then 2 else
 if vL (BW d.2.2.2.2.2.2.1 c.2.1)<c.2.2.2.1 then 2 else 0
def aQO(c:Cmt):Int:=if nm c.2.2.2.2.1=false then 5 else if vld c.2.2.2.2.2.1=false then 10 else if c.2.2.2.2.2.1=[] then 4 else if 400<c.2.2.2.2.2.1.length then 9 else 0
def MQ(d:Doc) (c:Cmt):Int:=if aI0 d c≠0 then aI0 d c else aQO c
def oU(d:Doc) (pre:List Cmt) (c:Cmt):Int :=
 if c.1<1 then 2 else if d.2.2.2.2.1<c.1 then 2 else if aNJ pre.getLast? c=false then 8 else if jZ d.2.2.2.2.2.2.1 c.1 then 7 else MQ d c
def uM(d:Doc):Int:=if 64<d.2.2.2.2.2.2.2.length then 9 else DJ (oU d) [] d.2.2.2.2.2.2.2
def MR(d:Doc):Prop:=(∀x∈d.2.2.2.2.2.2.1,(∀r∈x.2.2.2.2.2,okR r)∧x.2.2.2.2.2.length≤4)∧d.2.2.2.2.2.2.1.length≤400∧∀c∈d.2.2.2.2.2.2.2,c.2.2.2.2.2.1.length≤4000000
theorem MS{d:Doc}(hg:MR d){k:Int}(h:jZ d.2.2.2.2.2.2.1 k):inb (jS 0 d.2.2.2.2.2.2.1 k) (len d.2.2.2.2.2.2.1)=true∧0≤jS 0 d.2.2.2.2.2.2.1 k∧q45 fuelH (BW d.2.2.2.2.2.2.1 k)=some (vL (BW d.2.2.2.2.2.2.1 k)):=by
 obtain⟨j,hj,e1,e2,e3⟩:=uK _ 0 k h
 have he:BW d.2.2.2.2.2.2.1 k=d.2.2.2.2.2.2.1[j]:=by
  unfold BW;rw[e1,bJ4,aU hj]
 obtain⟨h1,h2⟩:=hg.1 _ (bJE hj);rw[he];refine⟨by rw[e1]; exact aS (by simp only[len]; omega),by omega,WQ h1 (by omega)⟩
theorem aNK{d:Doc}(hg:MR d){k:Int}(h:jZ d.2.2.2.2.2.2.1 k):inb (jS 0 d.2.2.2.2.2.2.1 k) (len d.2.2.2.2.2.2.1)=true∧0≤jS 0 d.2.2.2.2.2.2.1 k∧q45 fuelH (BW d.2.2.2.2.2.2.1 k)=some (vL (BW d.2.2.2.2.2.2.1 k))∧oJ fuelH (BW d.2.2.2.2.2.2.1 k)=some (vL (BW d.2.2.2.2.2.2.1 k)):=by
 obtain⟨q1,q2,q3⟩:=MS hg h;obtain⟨j,hj,e1,e2,e3⟩:=uK _ 0 k h
 have he:BW d.2.2.2.2.2.2.1 k=d.2.2.2.2.2.2.1[j]:=by
  unfold BW;rw[e1,bJ4,aU hj]
 obtain⟨h1,h2⟩:=hg.1 _ (bJE hj);exact⟨q1,q2,q3,by rw[he]; exact aCZ h1 (by omega)⟩
theorem F8{d:Doc}(hg:MR d) (c:Cmt):q46 fuelH (d,c,pO 0 d.2.2.2.2.2.2.1)=some (aI0 d c,pO 0 d.2.2.2.2.2.2.1):=by
 unfold q46 aI0;simp only;rw[bY]
 by_cases c1:c.2.1<1
 ·rw[if_pos c1,if_pos c1]
 rw[if_neg c1,if_neg c1,bY]
 by_cases c2:d.2.2.2.2.1<c.2.1
 ·rw[if_pos c2,if_pos c2]
 rw[if_neg c2,if_neg c2]
 by_cases c3:c.2.2.2.2.2.2.2=true
 ·rw[aD c3,if_pos c3,jP,jP]
  by_cases c4:c.2.2.1≠0
  ·rw[if_pos c4,if_pos c4]
  rw[if_neg c4,if_neg c4]
  by_cases c5:c.2.2.2.1≠0
  ·rw[if_pos c5,if_pos c5]
  ·rw[if_neg c5,if_neg c5]
 ·rw[aC (by simpa using c3),if_neg c3,mV,lP]
  by_cases c4:jZ d.2.2.2.2.2.2.1 c.2.1
  ·rw[if_pos c4,if_neg (not_not_intro c4),bY]
   by_cases c5:c.2.2.1<0
   ·rw[if_pos c5,if_pos c5]
   rw[if_neg c5,if_neg c5,mL]
   by_cases c6:c.2.2.2.1≤c.2.2.1
   ·rw[if_pos c6,if_pos c6]
   obtain⟨q1,q2,q3⟩:=MS hg c4
   have hm:oW ieq (0:Int) (pO 0 d.2.2.2.2.2.2.1) c.2.1=jS 0 d.2.2.2.2.2.2.1 c.2.1:=MO _ _ _ c4
   rw[if_neg c6,if_neg c6,hm,aF q1];refine bKF (cC (show q45 fuelH (aA d.2.2.2.2.2.2.1 (toN (jS 0 d.2.2.2.2.2.2.1 c.2.1)) evZ)=_ from q3)) ?_;rw[bY]
   by_cases c7:vL (BW d.2.2.2.2.2.2.1 c.2.1)<c.2.2.2.1
   ·rw[if_pos c7,if_pos c7]
   ·rw[if_neg c7,if_neg c7]
  ·rw[if_neg c4,if_pos c4]
theorem F9{d:Doc}(hg:MR d):q47 fuelH (d,pO 0 d.2.2.2.2.2.2.1)=some (uM d,pO 0 d.2.2.2.2.2.2.1):=by
 unfold q47 uM;simp only
 by_cases h:64<d.2.2.2.2.2.2.2.length
 ·rw[aD (aP (by simp only[len]; omega)),if_pos h]
 rw[aC (aQ (by simp only[len]; omega)),if_neg h,bF]
 have hanc:=fun c=>F8 hg c
 have hvl:=hg.2.2
 generalize hm:pO 0 d.2.2.2.2.2.2.1=m at hanc ⊢
 have hmh:∀k,kE ieq m k=decide (jZ d.2.2.2.2.2.2.1 k):=fun k=>by rw[←hm]; exact mV _ _ _
 generalize hl:d.2.2.2.2.2.2.2=l at h hvl ⊢;refine bKF (tI (l:=l) (fun (_:Unit) (p:Nat)=>((p:Int),m)) (fun _=>()) (oU d) (fun e=>(e,m)) (some (0,m)) (fun self i hi=>?_) (fun _ self=>?_) fuelH 0 (bKD _) (by have:=aZ; omega) (fun j _ hj=>by omega)) ?_
 ·have hin:inb (i:Int) (len l)=true:=aS (by simp only[len]; omega)
  have hv:=hvl _ (bJE hi)
  simp only;rw[aD (aP (by simp only[len]; omega)),aF hin,aU hi];refine bKF (aZQ (X:=if MQ d l[i]≠0 then some (MQ d l[i],m) else self (((i+1:Nat):Int),m)) ?_ _) ?_
  ·skip
   rw[hanc,aB];unfold MQ
   by_cases c1:aI0 d l[i]≠0
   ·rw[if_pos c1,if_pos c1,aD (bX c1)]
   ·rw[if_neg c1,aC (bW (by simpa using c1)),qS,aB];unfold aQO
    by_cases c2:nm l[i].2.2.2.2.1=false
    ·rw[aD (by rw[c2]; rfl),if_pos c2,if_pos (by decide)]
    rw[aC (by rw[←bJB,gM]; exact c2),if_neg c2,lO _ hv,aB]
    by_cases c3:vld l[i].2.2.2.2.2.1=false
    ·rw[aD (by rw[c3]; rfl),if_pos c3,if_pos (by decide)]
    rw[aC (by rw[←bJB,gM]; exact c3),if_neg c3]
    by_cases c4:l[i].2.2.2.2.2.1=[]
    ·rw[aD (by rw[cF]; exact c4),if_pos c4,if_pos (by decide)]
    rw[aC (by rw[←bJB,cF]; exact c4),if_neg c4]
    by_cases c5:400<l[i].2.2.2.2.2.1.length
    ·rw[aD (aP (by simp only[len]; omega)),if_pos c5,if_pos (by decide)]
    ·rw[aC (aQ (by simp only[len]; omega)),if_neg c5,if_neg (by decide),aO hi (by omega)]
  ·simp only;rw[bY,bY];unfold oU
   by_cases c1:l[i].1<1
   ·rw[if_pos c1,if_pos c1,if_pos (by decide)]
   rw[if_neg c1,if_neg c1]
   by_cases c2:d.2.2.2.2.1<l[i].1
   ·rw[if_pos c2,if_pos c2,if_pos (by decide)]
   rw[if_neg c2,if_neg c2,hmh]
   cases i with
   |zero =>
    rw[aC (by rfl)]
    have e0:aNJ (l.take 0).getLast? l[0]=true:=rfl
    rw[e0,if_neg (show ¬true=false by decide),gA]
    by_cases c3:jZ d.2.2.2.2.2.2.1 l[0].1
    ·rw[if_pos c3,if_pos c3,if_pos (by decide)]
    ·rw[if_neg c3,if_neg c3]
   |succ i =>
    rw[aD (aP (by omega)),fJ (by omega),aF (aS (by simp only[len]; omega)),aU (show i<l.length by omega),mL,gA]
    have e0:aNJ (l.take (i+1)).getLast? l[i+1]=decide (l[i].1<l[i+1].1):=by rw[uL (show i<l.length by omega)]; rfl
    rw[e0]
    by_cases c4:l[i+1].1≤l[i].1
    ·rw[if_pos c4,decide_eq_false (by omega),if_pos rfl,if_pos (by decide)]
    rw[if_neg c4,decide_eq_true (by omega),if_neg (show ¬true=false by decide)]
    by_cases c3:jZ d.2.2.2.2.2.2.1 l[i+1].1
    ·rw[if_pos c3,if_pos c3,if_pos (by decide)]
    ·rw[if_neg c3,if_neg c3]
 ·simp only;rw[aC (aQ (by simp only[len]; omega))]
 ·rw[bJU,bJS]
  by_cases hc:DJ (oU d) [] l≠0
  ·rw[if_pos hc]
  ·rw[if_neg hc]
   have hc:DJ (oU d) [] l=0:=by simpa using hc
   rw[hc]
theorem aC0{d:Doc}(hg:MR d) (h64:d.2.2.2.2.2.2.2.length≤64){i:Nat}(hi:i<d.2.2.2.2.2.2.2.length):aHV fuelH (d,(i:Int))=some (oU d (d.2.2.2.2.2.2.2.take i) d.2.2.2.2.2.2.2[i]):=by
 unfold aHV;simp only
 have hfind:=fun k=>aE3 (d:=d) (by have:=hg.2.1; omega) k
 have hv:=hg.2.2 _ (bJE hi)
 have hlen:=fun k=>aNK (k:=k) hg
 rw[aF (aS (by simp only[len]; omega)),aU hi];generalize hl:d.2.2.2.2.2.2.2=l at hi hv h64 ⊢;rw[bY,bY];unfold oU
 by_cases c1:l[i].1<1
 ·rw[if_pos c1,if_pos c1]
 rw[if_neg c1,if_neg c1]
 by_cases c2:d.2.2.2.2.1<l[i].1
 ·rw[if_pos c2,if_pos c2]
 rw[if_neg c2,if_neg c2];refine bKF (aZQ (X:=some (if jZ d.2.2.2.2.2.2.1 l[i].1 then 7 else MQ d l[i])) ?_ _) ?_
 ·skip
  rw[hfind,aB,mL]
  by_cases c3:jZ d.2.2.2.2.2.2.1 l[i].1
  ·rw[if_pos (hlen _ c3).2.1,if_pos c3]
  rw[if_neg (by rw[JC _ _ _ c3]; decide),if_neg c3];unfold MQ aI0;rw[bY,bY]
  by_cases a1:l[i].2.1<1
  ·rw[if_pos a1,if_pos a1,if_pos (by decide)]
  rw[if_neg a1,if_neg a1]
  by_cases a2:d.2.2.2.2.1<l[i].2.1
  ·rw[if_pos a2,if_pos a2,if_pos (by decide)]
  rw[if_neg a2,if_neg a2];refine bKF (aZQ (X:=some (aQO l[i])) ?_ _) ?_
  ·skip
   rw[zD,aB];unfold aQO
   by_cases c2:nm l[i].2.2.2.2.1=false
   ·rw[aD (by rw[c2]; rfl),if_pos c2]
   rw[aC (by rw[←bJB,gM]; exact c2),if_neg c2,iZ _ hv,aB]
   by_cases c3:vld l[i].2.2.2.2.2.1=false
   ·rw[aD (by rw[c3]; rfl),if_pos c3]
   rw[aC (by rw[←bJB,gM]; exact c3),if_neg c3]
   by_cases c4:l[i].2.2.2.2.2.1=[]
   ·rw[aD (by rw[cF]; exact c4),if_pos c4]
   rw[aC (by rw[←bJB,cF]; exact c4),if_neg c4]
   by_cases c5:400<l[i].2.2.2.2.2.1.length
   ·rw[aD (aP (by simp only[len]; omega)),if_pos c5]
   ·rw[aC (aQ (by simp only[len]; omega)),if_neg c5]
  ·simp only
   by_cases c3:l[i].2.2.2.2.2.2.2=true
   ·rw[aD c3,if_pos c3,jP,jP]
    by_cases c4:l[i].2.2.1≠0
    ·rw[if_pos c4,if_pos c4,if_pos (by decide)]
    rw[if_neg c4,if_neg c4]
    by_cases c5:l[i].2.2.2.1≠0
    ·rw[if_pos c5,if_pos c5,if_pos (by decide)]
    ·rw[if_neg c5,if_neg c5,if_neg (by decide)]
   ·rw[aC (by simpa using c3),if_neg c3,hfind,aB,bY]
    by_cases c4:jZ d.2.2.2.2.2.2.1 l[i].2.1
    ·obtain⟨q1,q2,q3,q4⟩:=hlen _ c4;rw[if_neg (by omega),if_neg (not_not_intro c4),bY]
     by_cases c5:l[i].2.2.1<0
     ·rw[if_pos c5,if_pos c5,if_pos (by decide)]
     rw[if_neg c5,if_neg c5,mL]
     by_cases c6:l[i].2.2.2.1≤l[i].2.2.1
     ·rw[if_pos c6,if_pos c6,if_pos (by decide)]
     rw[if_neg c6,if_neg c6,aF q1];refine bKF (cC (show oJ fuelH (aA d.2.2.2.2.2.2.1 (toN (jS 0 d.2.2.2.2.2.2.1 l[i].2.1)) evZ)=_ from q4)) ?_;rw[bY]
     by_cases c7:vL (BW d.2.2.2.2.2.2.1 l[i].2.1)<l[i].2.2.2.1
     ·rw[if_pos c7,if_pos c7,if_pos (by decide)]
     ·rw[if_neg c7,if_neg c7,if_neg (by decide)]
    ·rw[if_pos (by rw[JC _ _ _ c4]; decide),if_pos c4,if_pos (by decide)]
 ·simp only
  cases i with
  |zero =>
   rw[aC (by rfl)]
   have e0:aNJ (l.take 0).getLast? l[0]=true:=rfl
   rw[e0,if_neg (show ¬true=false by decide)]
  |succ i =>
   rw[aD (aP (by omega)),fJ (by omega),aF (aS (by simp only[len]; omega)),aU (show i<l.length by omega),mL]
   have e0:aNJ (l.take (i+1)).getLast? l[i+1]=decide (l[i].1<l[i+1].1):=by rw[uL (show i<l.length by omega)]; rfl
   rw[e0]
   by_cases c4:l[i+1].1≤l[i].1
   ·rw[if_pos c4,decide_eq_false (by omega),if_pos rfl]
   ·rw[if_neg c4,decide_eq_true (by omega),if_neg (show ¬true=false by decide)]
def iB(d:Doc):Int :=
 if kQ d≠0 then kQ d else if jR d.2.2.2.2.2.1≠0 then jR d.2.2.2.2.2.1 else
 if 400<d.2.2.2.2.2.2.1.length then 9 else if BV d≠0 then BV d else uM d
def WR(d:Doc):Prop:=d.1.length≤4000000∧d.2.2.2.2.2.1.length≤4000000∧(∀x∈d.2.2.2.2.2.2.1,aCV x.2.2.2.2.2)∧∀c∈d.2.2.2.2.2.2.2,c.2.2.2.2.2.1.length≤4000000
theorem aE5{d:Doc}(hs:WR d) (hn:d.2.2.2.2.2.2.1.length≤400) (h:∀j (h:j<d.2.2.2.2.2.2.1.length),CU d.2.2.2.2.2.1 d.2.2.2.2.1 (d.2.2.2.2.2.2.1.take j) d.2.2.2.2.2.2.1[j]=0):MR d:=by
 refine⟨fun x hx=>?_,hn,hs.2.2.2⟩;obtain⟨j,hj,rfl⟩:=List.mem_iff_getElem.1 hx;obtain⟨h1,_⟩:=F7 (h j hj);obtain⟨_,_,_,_,h4,h5,_⟩:=aSZ h1;exact⟨fun r hr=>aE2 (hs.2.2.1 _ hx r hr) (h5 r hr),h4⟩
theorem aI1{l:List Ev}{i:Nat}(hi:i<l.length) (hn:¬jZ (l.take i) l[i].1):rJ ieq (pO 0 (l.take i)) l[i].1 (i:Int)=pO 0 (l.take (i+1)):=by
 rw[rU _ (by rw[mV,decide_eq_false hn]),bHA hi,F6]
 have:(l.take i).length=i:=by rw[bI6]; omega
 rw[this,bJ4];rfl
theorem JF{d:Doc}(hs:WR d):q48 fuelH d=some (iB d):=by
 unfold q48 iB;rw[cC (aIY hs.1)]
 by_cases c1:kQ d≠0
 ·rw[aD (bX c1),if_pos c1]
 rw[aC (bW (by simpa using c1)),if_neg c1,cC (CR _)]
 by_cases c2:jR d.2.2.2.2.2.1≠0
 ·rw[aD (bX c2),if_pos c2]
 rw[aC (bW (by simpa using c2)),if_neg c2]
 by_cases c3:400<d.2.2.2.2.2.2.1.length
 ·rw[aD (aP (by simp only[len]; omega)),if_pos c3]
 rw[aC (aQ (by simp only[len]; omega)),if_neg c3,bF]
 have hgood:=@aE5 d hs (by omega)
 have hcm:=@F9 d
 unfold BV
 have hev:=hs.2.2.1
 generalize hl:d.2.2.2.2.2.2.1=l at c3 hgood hcm hev ⊢;refine bKF (tI (l:=l) (fun (a:List (Int×Int)) (p:Nat)=>((p:Int),a)) (fun pre=>pO 0 pre) (CU d.2.2.2.2.2.1 d.2.2.2.2.1) (fun e=>e) (some (uM d)) (fun self i hi=>?_) (fun hz self=>?_) fuelH 0 (bKD _) (by have:=aZ; omega) (fun j _ hj=>by omega)) ?_
 ·have hin:inb (i:Int) (len l)=true:=aS (by simp only[len]; omega)
  have hx:=hev _ (bJE hi)
  simp only;rw[aD (aP (by simp only[len]; omega)),aF hin,aU hi,cC (JB hx hs.2.1),bY,aO hi (by omega)];unfold CU
  by_cases e1:rC l[i] d.2.2.2.2.2.1≠0
  ·rw[if_pos e1,if_pos e1,aD (bX e1)]
  rw[if_neg e1,aC (bW (by simpa using e1))]
  by_cases e2:d.2.2.2.2.1<l[i].1
  ·rw[if_pos e2,if_pos e2,if_pos (by decide)]
  rw[if_neg e2,if_neg e2]
  have hput:=fun h=>aI1 hi h
  cases i with
  |zero =>
   rw[aC (by rfl),mV,gA]
   have e0:aIZ (l.take 0).getLast? l[0]=true:=rfl
   rw[e0,if_neg (show ¬true=false by decide)]
   by_cases e3:jZ (l.take 0) l[0].1
   ·rw[if_pos e3,if_pos e3,if_pos (by decide)]
   ·rw[if_neg e3,if_neg e3,hput e3,if_neg (by decide)]
  |succ i =>
   rw[aD (aP (by omega)),fJ (by omega),aF (aS (by simp only[len]; omega)),aU (show i<l.length by omega),cC (aCY _ _),mV,gA,lP]
   have e0:aIZ (l.take (i+1)).getLast? l[i+1]=decide (lQ l[i] l[i+1]):=by rw[uL (show i<l.length by omega)]; rfl
   rw[e0]
   by_cases e4:lQ l[i] l[i+1]
   ·rw[if_pos e4,decide_eq_true e4,if_neg (show ¬true=false by decide)]
    by_cases e3:jZ (l.take (i+1)) l[i+1].1
    ·rw[if_pos e3,if_pos e3,if_pos (by decide)]
    ·rw[if_neg e3,if_neg e3,hput e3,if_neg (by decide)]
   ·rw[if_neg e4,decide_eq_false e4,if_pos rfl,if_pos (by decide)]
 ·simp only;rw[aC (aQ (by simp only[len]; omega)),cC (hcm (hgood hz))]
 ·rw[bJU,bJS]
  split<;>rfl
theorem aI2{d:Doc}(hs:WR d):aHW fuelH d=some (iB d):=by
 unfold aHW iB;rw[cC (WP hs.1)]
 by_cases c1:kQ d≠0
 ·rw[aD (bX c1),if_pos c1]
 rw[aC (bW (by simpa using c1)),if_neg c1,cC (aM6 _)]
 by_cases c2:jR d.2.2.2.2.2.1≠0
 ·rw[aD (bX c2),if_pos c2]
 rw[aC (bW (by simpa using c2)),if_neg c2]
 by_cases c3:400<d.2.2.2.2.2.2.1.length
 ·rw[aD (aP (by simp only[len]; omega)),if_pos c3]
 rw[aC (aQ (by simp only[len]; omega)),if_neg c3,bF]
 have hgood:=@aE5 d hs (by omega)
 have hcm:=@aC0 d
 have hfind:=fun k=>aE3 (d:=d) (by omega) k
 unfold BV
 have hev:=hs.2.2.1
 generalize hl:d.2.2.2.2.2.2.1=l at c3 hgood hfind hev ⊢;refine bKF (tI (l:=l) (fun (_:Unit) (p:Nat)=>(p:Int)) (fun _=>()) (CU d.2.2.2.2.2.1 d.2.2.2.2.1) (fun e=>e) (some (uM d)) (fun self i hi=>?_) (fun hz self=>?_) fuelH 0 (bKD _) (by have:=aZ; omega) (fun j _ hj=>by omega)) ?_
 ·have hin:inb (i:Int) (len l)=true:=aS (by simp only[len]; omega)
  have hx:=hev _ (bJE hi)
  have hat:=aNG hi
  rw[aD (aP (by simp only[len]; omega)),aF hin,aU hi,cC (WN hx hs.2.1),bY,aO hi (by omega)];unfold CU
  by_cases e1:rC l[i] d.2.2.2.2.2.1≠0
  ·rw[if_pos e1,if_pos e1,aD (bX e1)]
  rw[if_neg e1,aC (bW (by simpa using e1))]
  by_cases e2:d.2.2.2.2.1<l[i].1
  ·rw[if_pos e2,if_pos e2,if_pos (by decide)]
  rw[if_neg e2,if_neg e2]
  cases i with
  |zero =>
   rw[aC (by rfl),hfind,aB,jP]
   have e0:aIZ (l.take 0).getLast? l[0]=true:=rfl
   rw[e0,if_neg (show ¬true=false by decide)]
   by_cases e3:jZ (l.take 0) l[0].1
   ·rw[if_pos (fun e=>hat.1 e e3),if_pos e3,if_pos (by decide)]
   ·rw[if_neg (not_not_intro (hat.2 e3)),if_neg e3,if_neg (by decide)]
  |succ i =>
   rw[aD (aP (by omega)),fJ (by omega),aF (aS (by simp only[len]; omega)),aU (show i<l.length by omega),cC (aNH _ _ _),hfind,aB,jP,lP]
   have e0:aIZ (l.take (i+1)).getLast? l[i+1]=decide (lQ l[i] l[i+1]):=by rw[uL (show i<l.length by omega)]; rfl
   rw[e0]
   by_cases e4:lQ l[i] l[i+1]
   ·rw[if_pos e4,decide_eq_true e4,if_neg (show ¬true=false by decide)]
    by_cases e3:jZ (l.take (i+1)) l[i+1].1
    ·rw[if_pos (fun e=>hat.1 e e3),if_pos e3,if_pos (by decide)]
    ·rw[if_neg (not_not_intro (hat.2 e3)),if_neg e3,if_neg (by decide)]
   ·rw[if_neg e4,decide_eq_false e4,if_pos rfl,if_pos (by decide)]
 ·rw[aC (aQ (by simp only[len]; omega))]
  have hg:=hgood hz
  unfold uM
  by_cases h64:64<d.2.2.2.2.2.2.2.length
  ·rw[aD (aP (by simp only[len]; omega)),if_pos h64]
  rw[aC (aQ (by simp only[len]; omega)),if_neg h64,bF]
  have hcm:=@hcm hg (by omega)
  generalize hm:d.2.2.2.2.2.2.2=m at h64 hcm ⊢;refine bKF (tI (l:=m) (fun (_:Unit) (p:Nat)=>(p:Int)) (fun _=>()) (oU d) (fun e=>e) (some 0) (fun self i hi=>?_) (fun _ self=>?_) fuelH 0 (bKD _) (by have:=aZ; omega) (fun j _ hj=>by omega)) ?_
  ·rw[aD (aP (by simp only[len]; omega)),hcm hi,aB,jP,aO hi (by omega)]
  ·rw[aC (aQ (by simp only[len]; omega))]
  ·rw[bJU,bJS]
   by_cases hc:DJ (oU d) [] m≠0
   ·rw[if_pos hc]
   ·rw[if_neg hc]
    have hc:DJ (oU d) [] m=0:=by simpa using hc
    rw[hc]
 ·rw[bJU,bJS]
  split<;>rfl
theorem aI3{l:List Reg}(hl:l.length≤1000000):aH0 fuelH (l,l)=some true:=by
 unfold aH0;simp only;rw[aC (bW rfl),bF];refine iJ (n:=l.length) (fun (_:Unit) (i:Nat)=>(i:Int)) (fun _ _=>True) _ (fun self a i hi _=>⟨(),?_,trivial⟩) (fun self a _=>?_) fuelH 0 () (bKD _) (by have:=aZ; omega) trivial
 ·have hin:inb (i:Int) (len l)=true:=aS (by simp only[len]; omega)
  rw[aD (aP (by simp only[len]; omega)),aF hin,aF hin,aU hi,aO hi (by omega),aC];rw[←bJB,gM,Bool.eq_false_iff];intro h;refine h ?_;simp only[qT,cF,oS,BO];simp
 ·rw[aC (aQ (by simp only[len]; omega))]
theorem aQP{x:Ev}(h1:x.2.2.2.2.2.length≤4000000) (h2:∀r∈x.2.2.2.2.2,r.length≤4000000):aBA fuelH (x,x)=some true:=by
 unfold aBA;simp only;rw[aD (cB rfl),aD (by simp[qT,oS]),aD (by rw[cF]),aD (cB rfl),aD (by rw[cF]),aIU _ _ h1 h2,aB];simp
theorem aNL{l:List Ev}(hl:l.length≤1000000) (h:∀x∈l,x.2.2.2.2.2.length≤4000000∧∀r∈x.2.2.2.2.2,r.length≤4000000):aH3 fuelH (l,l)=some true:=by
 unfold aH3;simp only;rw[aC (bW rfl),bF];refine iJ (n:=l.length) (fun (_:Unit) (i:Nat)=>(i:Int)) (fun _ _=>True) _ (fun self a i hi _=>⟨(),?_,trivial⟩) (fun self a _=>?_) fuelH 0 () (bKD _) (by have:=aZ; omega) trivial
 ·have hin:inb (i:Int) (len l)=true:=aS (by simp only[len]; omega)
  obtain⟨h1,h2⟩:=h _ (bJE hi);rw[aD (aP (by simp only[len]; omega)),aF hin,aF hin,aU hi,aO hi (by omega),cC (aQP h1 h2),aC (by rfl)]
 ·rw[aC (aQ (by simp only[len]; omega))]
theorem aNM{d:Doc}(h1:d.2.2.2.2.2.1.length≤1000000) (h2:d.2.2.2.2.2.2.1.length≤1000000) (h3:∀x∈d.2.2.2.2.2.2.1,x.2.2.2.2.2.length≤4000000∧∀r∈x.2.2.2.2.2,r.length≤4000000) (h4:d.2.2.2.2.2.2.2=[]):aBB fuelH (d,d)=some true:=by
 unfold aBB
 have hh:aHZ fuelH d=some (d.1,d.2.1,d.2.2.1,d.2.2.2.1,d.2.2.2.2.1):=rfl
 simp only;rw[hh,aB,aB,aD (by simp[qT,oS,cF,BO]),aI3 h1,aB,aD rfl,aNL h2 h3,aB,aD rfl,h4]
 have:aL8 fuelH ([],[])=some true:=by kernel_rfl
 rw[this];rfl
def wtG(r:Reg):Nat:=r.1.length+1+(1+(1+(1+(1+(1+1)))))
def wtX(x:Ev):Nat:=1+(1+1+(x.2.2.1.length+1+(1+(x.2.2.2.2.1.length+1+(bkL wtR x.2.2.2.2.2+1)))))
def wtC(c:Cmt):Nat:=1+(1+(1+(1+(c.2.2.2.2.1.length+1+(c.2.2.2.2.2.1.length+1+(1+1))))))
def wtD(d:Doc):Nat:=d.1.length+1+(d.2.1.length+1+(1+(1+(1+(bkL wtG d.2.2.2.2.2.1+1+(bkL wtX d.2.2.2.2.2.2.1+1+(bkL wtC d.2.2.2.2.2.2.2+1)))))))
def aZR(t:Y_) (r:Int):Bool:=ieq ((decodeL (enc r++t)).1:Int) r&&decide ((decodeL (enc r++t)).2=(enc r).length)
theorem aQQ(t:Y_):((hJ++iM).all (aZR t))=true:=by kernel_rfl
theorem aQR{r:Int}(hr:dO r=true) (t:Y_):((decodeL (enc r++t)).1:Int)=r∧(decodeL (enc r++t)).2=(enc r).length:=by
 have h:aZR t r=true:=FA (aQQ t) hr
 unfold aZR at h;rw[bI4,oS,decide_eq_true_eq] at h;exact h
theorem aE6{r:Int}(hr:dO r=true):enc r≠[]:=by
 have h:=FA (P:=fun r=>!(enc r).isEmpty) (by kernel_rfl) hr
 intro e;simp[e] at h
theorem aE7:∀(l:List Int) (t:Y_),l.all dO=true→vld (ofR l++t)=vld t
 | [],t,_=>rfl
 |r::l,t,h=>by
  rw[bJ1,bI4] at h
  have e:ofR (r::l)++t=enc r++(ofR l++t):=by unfold ofR; rw[List.flatMap_cons,bIW]
  obtain⟨d1,d2⟩:=aQR h.1 (ofR l++t);rw[e,zA _ (by simp[aE6 h.1]),d1,d2,List.drop_left,if_pos h.1,aE7 l t h.2]
theorem aQS{a:Y_}(h:vld a=true) (b:Y_):vld (a++b)=vld b:=by
 conv=>lhs; rw[←aQI h]
 exact aE7 _ _ (aZJ h)
theorem MT{d:Doc}(h:iB d=0):kQ d=0∧d.2.2.2.2.2.2.1.length≤400∧BV d=0:=by
 unfold iB at h
 split at h
 ·rename_i hc; exact absurd h hc
 rename_i c1
 split at h
 ·rename_i hc; exact absurd h hc
 split at h
 ·cases h
 rename_i hn
 split at h
 ·rename_i hc; exact absurd h hc
 rename_i hc;exact⟨by simpa using c1,by omega,by simpa using hc⟩
end
end Go.Mo
end
section
end
section
namespace Go.Mo
open Go Go.W Go.Lib
set_option maxRecDepth 100000
noncomputable section
def aS0(l:Lbl):Prop:=(0≤l.1∧l.1≤23)∧(0≤l.2.1∧l.2.1≤59)∧(0≤l.2.2.1∧l.2.2.1≤59)∧(0≤l.2.2.2.1∧l.2.2.2.1≤59)
structure HdrOk (h:Hdr):Prop where
 rate:h.1=3∨h.1=5
 lang:h.2.1=[]∨nm h.2.1=true
 ttl:vld h.2.2.1=true
 ttlL:h.2.2.1.length≤400
 blocks:0≤h.2.2.2.1∧h.2.2.2.1≤99999
 groups:0≤h.2.2.2.2.1∧h.2.2.2.2.1≤99999
 start:aS0 h.2.2.2.2.2.1
 first:aS0 h.2.2.2.2.2.2.1
 rows:0≤h.2.2.2.2.2.2.2.1∧h.2.2.2.2.2.2.2.1≤99
 cols:0≤h.2.2.2.2.2.2.2.2∧h.2.2.2.2.2.2.2.2≤99
 d1:h.2.2.2.2.2.1.2.2.2.2=false
 d2:h.2.2.2.2.2.2.1.2.2.2.2=false
def hz:Hdr:=((0:UInt8),([]:Y_),([]:Y_),(0:Int),(0:Int),((0:Int),(0:Int),(0:Int),(0:Int),false),((0:Int),(0:Int),(0:Int),(0:Int),false),(0:Int),(0:Int))
def bGL(x:Ev):Prop:=x.2.2.2.2.2.length≤1000000∧∀r∈x.2.2.2.2.2,r.length≤1000000
end
end Go.Mo
end
end

section
set_option linter.all false
namespace Go.Mo
open Go Go.W Go.Lib
set_option maxRecDepth 100000
noncomputable section
theorem bT{V R σ α:Type}{F:(V→Option R)→V→Option R}{s:List α}(st:σ→Nat→V) (spec:σ→List α→Option R) (I:Nat→σ→Prop)
  (hstep:∀self a i,i≤s.length→I i a→(∀a' j,i<j→j≤s.length→I j a'→self (st a' j)=spec a' (s.drop j))→F self (st a i)=spec a (s.drop i)) :
  ∀(fuel i:Nat) (a:σ),s.length-i<fuel→i≤s.length→I i a→aY F fuel (st a i)=spec a (s.drop i)
 | 0,i,a,h,_,_=>by omega
 |fuel+1,i,a,h,hi,hI=>by
  rw[eP];exact hstep _ a i hi hI fun a' j hj hj2 hI2=>bT st spec I hstep fuel j a' (by omega) hj2 hI2
theorem bU{α:Type}{s:List α}(h:s.length≤4000000) (i:Nat):s.length-i<fuelH:=by have:=aZ; omega
def nV(x:UInt8):Bool:=(decide (97≤x.toNat)&&decide (x.toNat≤122))||(decide (65≤x.toNat)&&decide (x.toNat≤90))
def aI4(x:UInt8):Bool:=decide (48≤x.toNat)&&decide (x.toNat≤57)
def mN(x:UInt8):Bool:=nV x||aI4 x||x==45
def wsB(x:UInt8):Bool:=x==9||x==10||x==13||x==32
theorem G0:((List.range 256).all fun n=>decide (q57 0 (UInt8.ofNat n)=some (nV (UInt8.ofNat n))∧IL 0 (UInt8.ofNat n)=some (nV (UInt8.ofNat n))∧q58 0 (UInt8.ofNat n)=some (mN (UInt8.ofNat n))∧IM 0 (UInt8.ofNat n)=some (aI4 (UInt8.ofNat n))∧q76 0 (UInt8.ofNat n)=some (wsB (UInt8.ofNat n))))=true:=by kernel_rfl
theorem zL(x:UInt8):q57 0 x=some (nV x)∧IL 0 x=some (nV x)∧q58 0 x=some (mN x)∧IM 0 x=some (aI4 x)∧q76 0 x=some (wsB x) :=
 of_decide_eq_true (xE (P:=fun x=>decide (q57 0 x=some (nV x)∧IL 0 x=some (nV x)∧q58 0 x=some (mN x)∧IM 0 x=some (aI4 x)∧q76 0 x=some (wsB x))) G0 x)
theorem MU(N:Nat) (x:UInt8):q57 N x=some (nV x):=(zL x).1
theorem JG(N:Nat) (x:UInt8):IL N x=some (nV x):=(zL x).2.1
theorem aE8(N:Nat) (x:UInt8):q58 N x=some (mN x):=(zL x).2.2.1
theorem aI5(N:Nat) (x:UInt8):IM N x=some (aI4 x):=(zL x).2.2.2.1
theorem aNN(N:Nat) (x:UInt8):q76 N x=some (wsB x):=(zL x).2.2.2.2
theorem aNO{R:Type}{F:(Int→Option R)→Int→Option R}{s:Y_}(P:UInt8→Bool) (K:Int→Option R)
  (hin:∀self i (h:i<s.length),F self (i:Int)=if P s[i]=true then self ((i+1:Nat):Int) else K i) (hend:∀self,F self (s.length:Int)=K s.length) :
  ∀(fuel i:Nat),s.length-i<fuel→i≤s.length→aY F fuel (i:Int)=K ((i+((s.drop i).takeWhile P).length:Nat):Int)
 | 0,i,h,_=>by omega
 |fuel+1,i,h,hi=>by
  rw[eP]
  by_cases hl:i<s.length
  ·rw[hin _ i hl,bHK hl,bIL]
   by_cases hp:P s[i]=true
   ·rw[if_pos hp,if_pos hp,aNO P K hin hend fuel (i+1) (by omega) (by omega),bI3];congr 2;omega
   ·rw[if_neg hp,if_neg hp];rfl
  ·obtain rfl:i=s.length:=by omega
   rw[hend,bJD];rfl
def eR(x:UInt8):Int:=if 48≤x.toNat∧x.toNat≤57 then(x.toNat:Int)-48 else if 97≤x.toNat∧x.toNat≤102 then(x.toNat:Int)-87 else if 65≤x.toNat∧x.toNat≤70 then(x.toNat:Int)-55 else -1
def dgV(base:Int) (x:UInt8):Int:=if base≤eR x then -1 else eR x
theorem aC1:((List.range 256).all fun n=>decide (q80 0 (UInt8.ofNat n,10)=some (dgV 10 (UInt8.ofNat n))∧q80 0 (UInt8.ofNat n,16)=some (dgV 16 (UInt8.ofNat n))∧mG 0 (UInt8.ofNat n)=some (eR (UInt8.ofNat n))∧(-1≤eR (UInt8.ofNat n)∧eR (UInt8.ofNat n)<16)))=true:=by kernel_rfl
theorem digits(x:UInt8):q80 0 (x,10)=some (dgV 10 x)∧q80 0 (x,16)=some (dgV 16 x)∧mG 0 x=some (eR x)∧(-1≤eR x∧eR x<16) :=
 of_decide_eq_true (xE (P:=fun x=>decide (q80 0 (x,10)=some (dgV 10 x)∧q80 0 (x,16)=some (dgV 16 x)∧mG 0 x=some (eR x)∧(-1≤eR x∧eR x<16))) aC1 x)
theorem aNP{base:Int}(hb:base=10∨base=16) (N:Nat) (x:UInt8):q80 N (x,base)=some (dgV base x):=by
 rcases hb with rfl|rfl
 ·exact(digits x).1
 ·exact(digits x).2.1
theorem aZS(N:Nat) (x:UInt8):mG N x=some (eR x):=(digits x).2.2.1
def dOk(base:Int) (x:UInt8):Bool:=decide (0≤eR x)&&decide (eR x<base)
def zM(base:Int) (n:Int) (d:Y_):Int:=d.foldl (fun n x=>n*base+eR x) n
theorem aE9{base:Int}(hb:0≤base):∀(d:Y_) (n:Int),0≤n→d.all (dOk base)=true→0≤zM base n d∧zM base n d<(n+1)*base^d.length
 | [],n,hn,_=>by simp[zM]; omega
 |x::d,n,hn,h=>by
  rw[bJ1,bI4] at h
  have h1:0≤eR x∧eR x<base:=by have:=h.1; unfold dOk at this; simpa using this
  have h0:0≤n*base:=Int.mul_nonneg hn hb
  have ih:=aE9 hb d (n*base+eR x) (by omega) h.2
  refine⟨ih.1,Int.lt_of_lt_of_le ih.2 ?_⟩;rw[bI3,Int.pow_succ,Int.mul_comm (base^d.length) base,←Int.mul_assoc];refine Int.mul_le_mul_of_nonneg_right ?_ (Int.pow_nonneg hb);rw[Int.add_mul];omega
def mO(base:Int) (most:Nat) (d:Y_):Y_×Int :=
 if d=[]∨most<d.length∨d.all (dOk base)=false then([],4) else if dO (zM base 0 d)=false then([],10) else(enc (zM base 0 d),0)
def rG(c:Y_):Y_×Int :=
 if c=[97,109,112] then([38],0) else if c=[108,116] then([60],0) else if c=[103,116] then([62],0) else if c=[113,117,111,116] then([34],0) else if c=[97,112,111,115] then([39],0)
 else if c.take 2=[35,120] then mO 16 5 (c.drop 2) else if c.take 1=[35] then mO 10 6 (c.drop 1) else([],4)
def not59(b:UInt8):Bool:=b != 59
theorem JH{base:Int}{most:Nat}{d:Y_}(hb:(base=10∧most=6)∨(base=16∧most=5)) (hl:d.length≤most) (ha:d.all (dOk base)=true):0≤zM base 0 d∧zM base 0 d<1048576:=by
 have h0:0≤base:=by rcases hb with⟨rfl,_⟩|⟨rfl,_⟩<;>decide
 have h:=aE9 h0 d 0 (Int.le_refl _) ha
 refine⟨h.1,Int.lt_of_lt_of_le h.2 ?_⟩;rw[Int.zero_add,Int.one_mul];rcases hb with⟨rfl,rfl⟩|⟨rfl,rfl⟩
 ·have:(10:Int)^d.length≤10^6:=by
   have:=bIF (n:=10) (by decide) hl
   exact_mod_cast this
  omega
 ·have:(16:Int)^d.length≤16^5:=by
   have:=bIF (n:=16) (by decide) hl
   exact_mod_cast this
  omega
theorem aFA{x:Int}(h:0≤x∧x<2147483648):wr .i32 x=x:=by
 show IntKind.wrap .i32 x=x;unfold IntKind.wrap;simp only[IntKind.bits,IntKind.signed,bJ0,decide_eq_true_eq,show(2:Int)^32=4294967296 from rfl,show(2:Int)^(32-1)=2147483648 from rfl]
 split<;>omega
theorem aNQ{s:Y_}{base:Int}{most:Nat}(hb:(base=10∧most=6)∨(base=16∧most=5)):fG fuelH (s,base,(most:Int))=some (if s=[]∨most<s.length∨s.all (dOk base)=false then -1 else zM base 0 s):=by
 unfold fG;simp only
 by_cases h1:s=[]
 ·rw[if_pos (Or.inl h1),aD (by rw[cF]; exact h1)]
 rw[aC (by rw[bO]; simpa using h1)]
 by_cases h2:most<s.length
 ·rw[if_pos (Or.inr (Or.inl h2)),aD (aP (by simp only[len]; omega))]
 rw[aC (aQ (by simp only[len]; omega)),bF]
 have hm:most≤6:=by rcases hb with⟨_,h⟩|⟨_,h⟩<;>omega
 have hb0:10≤base∧base≤16:=by rcases hb with⟨h,_⟩|⟨h,_⟩<;>omega
 have h:=bT (s:=s) (fun (n:Int) (i:Nat)=>(n,(i:Int))) (fun n l=>some (if l.all (dOk base)=false then(-1:Int) else zM base n l)) (fun i n=>0≤n∧n<16777216∧n<16^i)
  (F:=fun v2 (v3:Int×Int) =>
    cnd (ilt v3.2 (len s))
     (grd (inb v3.2 (len s))
      (bnd (mG fuelH (aA s (toN v3.2) (0:UInt8))) fun v4 =>
      cnd (ilt v4 (0:Int))
       (some (-1:Int))
       (cnd (ile base v4)
        (some (-1:Int))
        (v2 (w64 (aE (w64 (jX v3.1 base)) v4),w64 (aE v3.2 (1:Int)))))))
     (some v3.1)) ?_ fuelH 0 0 (bU (by omega) 0) (bKD _) ⟨by decide,by decide,by decide⟩
 ·refine bKF h ?_;rw[bJS];simp only[h1,h2,false_or]
 ·intro self n i hi hI hself
  by_cases hl:i<s.length
  ·have g:aA s (toN (i:Int)) (0:UInt8)=s[i]:=aU hl
   have hw:w64 (aE (i:Int) 1)=((i+1:Nat):Int):=aO hl (by omega)
   have hx:=(digits s[i]).2.2.2
   rw[bHK hl,bJ1];show cnd (ilt (i:Int) (len s)) _ _=_;rw[aD (aP (by simp only[len]; omega)),aF (aS (by simp only[len]; omega)),g,aZS,aB,hw]
   by_cases h3:eR s[i]<0
   ·rw[aD (aP h3)]
    have:dOk base s[i]=false:=by unfold dOk; simp; omega
    rw[this];rfl
   rw[aC (aQ h3)]
   by_cases h4:base≤eR s[i]
   ·rw[aD (eA h4)]
    have:dOk base s[i]=false:=by unfold dOk; simp; omega
    rw[this];rfl
   rw[aC (fZ h4)]
   have hd:dOk base s[i]=true:=by unfold dOk; simp; omega
   have hn:0≤n*base:=Int.mul_nonneg hI.1 (by omega)
   have hn2:n*base≤n*16:=bHC hb0.2 hI.1
   have hp:(16:Int)^(i+1)=16^i*16:=Int.pow_succ _ _
   have hp6:(16:Int)^(i+1)≤16^6:=by
    have:=bIF (n:=16) (by decide) (show i+1≤6 by omega)
    exact_mod_cast this
   have h6:(16:Int)^6=16777216:=by decide
   have hlast:n*base+eR s[i]<16^(i+1):=by omega
   have e1:w64 (aE (w64 (jX n base)) (eR s[i]))=n*base+eR s[i]:=by
    simp only[jX,aE];rw[bG (x:=n*base) (by omega),bG (by omega)]
   rw[e1,hself _ (i+1) (by omega) (by omega) ⟨by omega,by omega,hlast⟩,hd,bJ0];rfl
  ·obtain rfl:i=s.length:=by omega
   show cnd (ilt (s.length:Int) (len s)) _ _=_;rw[aC (aQ (by simp only[len]; omega)),bJD];rfl
theorem aQT(N:Nat) (r:Int):qJ (N+2) [r]=bnd (uZ (N+2) r) fun v4=>cnd (ilt v4 0) (some []) (grd (dQ (aE (len ([]:Y_)) (len (enc r)))) (some (bL [] (enc r)))):=by kernel_rfl
theorem aZT{r:Int}(h:dO r=true):qJ fuelH [r]=some (enc r):=by
 obtain⟨i,_,h2,h3⟩:=qR r
 have h4:¬i<0:=fun k=>by rw[h3.1 k] at h; cases h
 have h0:=aQT (lZ+4998) r
 have h1:=aEX h
 show qJ (lZ+4998+2) [r]=_;rw[h0];show(bnd (uZ fuelH r) _)=_;rw[h2,aB,aC (aQ h4),aF (oK (by simp only[len,aE,bJL]; omega))];rfl
def aZU(N:Nat) (x:Y_):Option (Y_×Int) :=
  jn (fun (v1:Int) =>
   cnd (ilt v1 (0:Int))
    (some (([]:Y_),(4:Int)))
    (bnd (uZ N (wr .i32 v1)) fun v2 =>
    cnd (ilt v2 (0:Int))
     (some (([]:Y_),(10:Int)))
     (bnd (qJ N ([wr .i32 v1]:List Int)) fun v3 =>
     some (v3,(0:Int)))))
  fun v4 =>
  jn (fun (v5:Bool) =>
   cnd v5
    (grd (in2 (2:Int) (len x))
     (bnd (fG N (bC (toN (2:Int)) x,(16:Int),(5:Int))) fun v6 =>
     v4 v6))
    (cnd (ilt (0:Int) (len x))
     (grd (inb (0:Int) (len x))
      (cnd (ieq (n8 (aA x (toN (0:Int)) (0:UInt8))) (n8 (35:UInt8)))
       (grd (in2 (1:Int) (len x))
        (bnd (fG N (bC (toN (1:Int)) x,(10:Int),(6:Int))) fun v7 =>
        v4 v7))
       (v4 (-1:Int))))
     (v4 (-1:Int))))
  fun v8 =>
  cnd (ilt (1:Int) (len x))
   (grd (inb (0:Int) (len x))
    (cnd (ieq (n8 (aA x (toN (0:Int)) (0:UInt8))) (n8 (35:UInt8)))
     (grd (inb (1:Int) (len x))
      (v8 (ieq (n8 (aA x (toN (1:Int)) (0:UInt8))) (n8 (120:UInt8)))))
     (v8 false)))
   (v8 false)
theorem aNR(N:Nat) (x:Y_):C0 (N+10) x=jn (fun (_:Unit)=>aZU (N+10) x) fun v9=>cnd (seq ([97,109,112]:Y_) x) (some (([38]:Y_),(0:Int))) (cnd (seq ([108,116]:Y_) x) (some (([60]:Y_),(0:Int))) (cnd (seq ([103,116]:Y_) x) (some (([62]:Y_),(0:Int))) (cnd (seq ([113,117,111,116]:Y_) x) (some (([34]:Y_),(0:Int))) (cnd (seq ([97,112,111,115]:Y_) x) (some (([39]:Y_),(0:Int))) (v9 ()))))):=by kernel_rfl
def aQU(N:Nat) (x:Y_):Option (Y_×Int×Int) :=
  jn (fun (v1:Int×Int×Int) =>
   jn (fun (v2:Int×Int) =>
    cnd (ieq v2.1 v1.1)
     (some (([]:Y_),(0:Int),(4:Int)))
     (cnd (ilt v1.2.2 (w64 (aH v2.1 v1.1)))
      (some (([]:Y_),(0:Int),(4:Int)))
      (cnd (ieq v2.1 (len x))
       (some (([]:Y_),(0:Int),(4:Int)))
       (grd (inb v2.1 (len x))
        (cnd (ine (n8 (aA x (toN v2.1) (0:UInt8))) (n8 (59:UInt8)))
         (some (([]:Y_),(0:Int),(4:Int)))
         (bnd (q12 N (wr .i32 v2.2)) fun v3 =>
         cnd (ilt v3 (0:Int))
          (some (([]:Y_),(0:Int),(10:Int)))
          (some (enc (wr .i32 v2.2),w64 (aE v2.1 (1:Int)),(0:Int)))))))))
   fun v4 =>
   aY (fun v5 (v6:Int×Int) =>
    cnd (ilt v6.1 (len x))
     (grd (inb v6.1 (len x))
      (bnd (q80 N (aA x (toN v6.1) (0:UInt8),v1.2.1)) fun v7 =>
      cnd (ile (0:Int) v7)
       (grd (inb v6.1 (len x))
        (bnd (q80 N (aA x (toN v6.1) (0:UInt8),v1.2.1)) fun v8 =>
        v5 (w64 (aE v6.1 (1:Int)),mA (w64 (aE (w64 (jX v6.2 v1.2.1)) v8)) (16777216:Int))))
       (v4 v6)))
     (v4 v6)) N (v1.1,(0:Int)))
  fun v9 =>
  bnd (q75 N (x,([38,35,120]:Y_))) fun v10 =>
  cnd v10
   (v9 ((3:Int),(16:Int),(5:Int)))
   (bnd (q75 N (x,([38,35]:Y_))) fun v11 =>
   cnd (bA v11)
    (some (([]:Y_),(0:Int),(4:Int)))
    (v9 ((2:Int),(10:Int),(6:Int))))
theorem aNS(N:Nat) (x:Y_):q81 (N+10) x=jn (fun (_:Unit)=>aQU (N+10) x) fun v12=>bnd (q75 (N+10) (x,([38,97,109,112,59]:Y_))) fun v=>cnd v (some (([38]:Y_),(5:Int),(0:Int))) (bnd (q75 (N+10) (x,([38,108,116,59]:Y_))) fun v=>cnd v (some (([60]:Y_),(4:Int),(0:Int))) (bnd (q75 (N+10) (x,([38,103,116,59]:Y_))) fun v=>cnd v (some (([62]:Y_),(4:Int),(0:Int))) (bnd (q75 (N+10) (x,([38,113,117,111,116,59]:Y_))) fun v=>cnd v (some (([34]:Y_),(6:Int),(0:Int))) (bnd (q75 (N+10) (x,([38,97,112,111,115,59]:Y_))) fun v=>cnd v (some (([39]:Y_),(6:Int),(0:Int))) (v12 ()))))):=by kernel_rfl
def kv(v:Int):Option (Y_×Int):=cnd (ilt v (0:Int)) (some (([]:Y_),(4:Int))) (bnd (uZ fuelH (wr .i32 v)) fun v2=>cnd (ilt v2 (0:Int)) (some (([]:Y_),(10:Int))) (bnd (qJ fuelH ([wr .i32 v]:List Int)) fun v3=>some (v3,(0:Int))))
theorem rk{v:Int}(h:v=-1∨(0≤v∧v<1048576)):kv v=some (if v<0 then([],4) else if dO v=false then([],10) else(enc v,0)):=by
 rcases h with rfl|h
 ·rfl
 have h1:¬v<0:=by omega
 obtain⟨i,_,q2,q3⟩:=qR v;unfold kv;rw[aC (aQ h1),if_neg h1,aFA (by omega),q2,aB]
 by_cases h2:dO v=false
 ·rw[if_pos h2,aD (aP (q3.2 h2))]
 ·rw[if_neg h2,aC (aQ (fun k=>h2 (q3.1 k))),aZT (by simpa using h2),aB]
theorem aNT{base:Int}{most:Nat}(d:Y_) (hb:(base=10∧most=6)∨(base=16∧most=5)):bnd (fG fuelH (d,base,(most:Int))) kv=some (mO base most d):=by
 rw[aNQ hb,aB];unfold mO
 by_cases h:d=[]∨most<d.length∨d.all (dOk base)=false
 ·rw[if_pos h,if_pos h];rfl
 ·have h2:d.length≤most∧d.all (dOk base)=true:=by
   simp only[not_or] at h;exact⟨by omega,by simpa using h.2.2⟩
  have hs:=JH hb h2.1 h2.2
  rw[if_neg h,if_neg h,rk (.inr hs),if_neg (by omega)]
def v8(x:Y_) (b:Bool):Option (Y_×Int):=cnd b (grd (in2 (2:Int) (len x)) (bnd (fG fuelH (bC (toN (2:Int)) x,(16:Int),(5:Int))) kv))
 (cnd (ilt (0:Int) (len x)) (grd (inb (0:Int) (len x)) (cnd (ieq (n8 (aA x (toN (0:Int)) (0:UInt8))) (n8 (35:UInt8))) (grd (in2 (1:Int) (len x)) (bnd (fG fuelH (bC (toN (1:Int)) x,(10:Int),(6:Int))) kv)) (kv (-1:Int)))) (kv (-1:Int)))
theorem aNU(x:Y_):aZU fuelH x=cnd (ilt (1:Int) (len x)) (grd (inb (0:Int) (len x)) (cnd (ieq (n8 (aA x (toN (0:Int)) (0:UInt8))) (n8 (35:UInt8))) (grd (inb (1:Int) (len x)) (v8 x (ieq (n8 (aA x (toN (1:Int)) (0:UInt8))) (n8 (120:UInt8))))) (v8 x false))) (v8 x false):=rfl
theorem aQV(x:Y_):v8 x false=some (if x.take 1=[35] then mO 10 6 (x.drop 1) else([],4)):=by
 unfold v8;rw[aC (by rfl)]
 match x with
 | []=>rfl
 |a::r =>
  rw[aD (aP (by simp only[len,bI3]; omega)),aF (aS (by simp only[len,bI3]; omega))];show cnd (ieq (n8 a) (n8 35)) _ _=_;rw[gB]
  by_cases ha:a=35
  ·subst ha;rw[if_pos rfl,aF (dG (by simp only[len,bI3]; omega))];exact aNT r (.inl ⟨rfl,rfl⟩)
  ·rw[if_neg (fun k=>ha (cH k)),if_neg (by simp[ha])];rfl
theorem bG8{x:Y_}(h:2≤x.length):v8 x true=some (mO 16 5 (x.drop 2)):=by
 unfold v8;rw[aD (by rfl),aF (dG (by simp only[len]; omega))];exact aNT _ (.inr ⟨rfl,rfl⟩)
def BX(c:Y_):Y_×Int:=if c.take 2=[35,120] then mO 16 5 (c.drop 2) else if c.take 1=[35] then mO 10 6 (c.drop 1) else([],4)
theorem FE(c:Y_):rG c=if c=[97,109,112] then([38],0) else if c=[108,116] then([60],0) else if c=[103,116] then([62],0) else if c=[113,117,111,116] then([34],0) else if c=[97,112,111,115] then([39],0) else BX c:=rfl
theorem aQW(x:Y_):aZU fuelH x=some (BX x):=by
 rw[aNU];unfold BX
 match x with
 | [] =>
  rw[aC (by rfl),aQV];rfl
 | [a] =>
  rw[aC (by rfl),aQV,if_neg (show ¬([a].take 2=[35,120]) by simp)]
 |a::b::r =>
  rw[aD (aP (by simp only[len,bI3]; omega)),aF (aS (by simp only[len,bI3]; omega)),aF (aS (by simp only[len,bI3]; omega))];show cnd (ieq (n8 a) (n8 35)) (v8 _ (ieq (n8 b) (n8 120))) _=_;rw[gB]
  by_cases ha:a=35
  ·subst ha;rw[if_pos rfl]
   by_cases hb:b=120
   ·subst hb;rw[cB rfl,bG8 (by simp),if_pos (by rfl)]
   ·rw[bS (fun k=>hb (cH k)),aQV,if_neg (show ¬((35::b::r).take 2=[35,120]) by simp[hb])]
  ·rw[if_neg (fun k=>ha (cH k)),aQV,if_neg (show ¬((a::b::r).take 2=[35,120]) by simp[ha])]
theorem aQX(x:Y_):C0 fuelH x=some (rG x):=by
 have h:=aNR (lZ+4990) x
 show C0 (lZ+4990+10) x=_;rw[h,bF,FE]
 have hs:∀(c:Y_) (X Y:Option (Y_×Int)),cnd (seq c x) X Y=if x=c then X else Y:=fun c X Y=>by
  by_cases h:x=c
  ·rw[if_pos h,aD (by rw[cF]; exact h.symm)]
  ·rw[if_neg h,aC (by rw[bO]; simpa using fun e=>h e.symm)]
 simp only[hs]
 repeat' split
 any_goals rfl
 exact aQW x
theorem MV(N:Nat) (s p:Y_):q75 N (s,p)=some (decide (s.take p.length=p)):=by
 unfold q75 q74
 by_cases h:p.length≤s.length
 ·rw[aD (eA (by simp only[len]; omega)),aF (dG (by simp only[len]; omega)),aB,bO];simp only[aW,toN,len,bI1]<;>exact congrArg some (decide_eq_decide.2 Iff.rfl)
 ·rw[aC (fZ (by simp only[len]; omega)),aB]
  have:¬(s.take p.length=p):=fun e=>by
   have:=congrArg List.length e
   rw[bI6] at this;omega
  rw[decide_eq_false this]
theorem vM{c t:Y_}(h:c.all not59=true):(c++59::t).takeWhile not59=c:=by
 rw[bHD (by simpa using h),bIL];simp[not59]
theorem aZV{c:Y_}(h:c.all not59=true):c.takeWhile not59=c:=by
 have:=bHD (p:=not59) (l₁:=c) (l₂:=[]) (by simpa using h)
 simpa using this
theorem tJ:∀r:Y_,(r.all not59=true)∨∃c t,r=c++59::t∧c.all not59=true
 | []=>.inl rfl
 |b::r=>by
  by_cases hb:b=59
  ·exact .inr ⟨[],r,by rw[hb]; rfl,rfl⟩
  have h1:not59 b=true:=by simpa [not59] using hb
  rcases tJ r with h|⟨c,t,e,h⟩
  ·exact .inl (by rw[bJ1,h1,h]; rfl)
  ·exact .inr ⟨b::c,t,by rw[e]; rfl,by rw[bJ1,h1,h]; rfl⟩
theorem MW{base:Int}(hb:1≤base):∀(d:Y_) (n:Int),0≤n→d.all (dOk base)=true→n≤zM base n d∧(zM base n d≤16777216→d.foldl (fun n x=>min (n*base+eR x) 16777216) n=zM base n d)
 | [],n,_,_=>⟨Int.le_refl _,fun _=>rfl⟩
 |x::d,n,hn,h=>by
  rw[bJ1,bI4] at h
  have h1:0≤eR x∧eR x<base:=by have:=h.1; unfold dOk at this; simpa using this
  have h0:n*1≤n*base:=bHC hb hn
  have ih:=MW hb d (n*base+eR x) (by omega) h.2
  refine⟨Int.le_trans (by omega) ih.1,fun hle=>?_⟩
  have hle:zM base (n*base+eR x) d≤16777216:=hle
  rw[List.foldl_cons]
  have hm:min (n*base+eR x) 16777216=n*base+eR x:=by have:=ih.1; omega
  rw[hm];exact ih.2 hle
def kA(r:Y_):Y_×Int×Int :=
 let c:=r.takeWhile not59
 if c.length=r.length then([],0,4) else if(rG c).2=0 then((rG c).1,((c.length+2:Nat):Int),0) else([],0,(rG c).2)
theorem aQY{r:Y_}(h:r.all not59=true):kA r=([],0,4):=by
 unfold kA;simp only[aZV h,if_true]
theorem aNV{c t:Y_}(h:c.all not59=true):kA (c++59::t)=if(rG c).2=0 then((rG c).1,((c.length+2:Nat):Int),0) else([],0,(rG c).2):=by
 unfold kA;simp only[vM h];rw[if_neg (by simp)]
def k2N(N:Nat) (s:Y_) (at':Int) (most:Int) (v2:Int×Int):Option (Y_×Int×Int) :=
    cnd (ieq v2.1 at')
     (some (([]:Y_),(0:Int),(4:Int)))
     (cnd (ilt most (w64 (aH v2.1 at')))
      (some (([]:Y_),(0:Int),(4:Int)))
      (cnd (ieq v2.1 (len s))
       (some (([]:Y_),(0:Int),(4:Int)))
       (grd (inb v2.1 (len s))
        (cnd (ine (n8 (aA s (toN v2.1) (0:UInt8))) (n8 (59:UInt8)))
         (some (([]:Y_),(0:Int),(4:Int)))
         (bnd (q12 N (wr .i32 v2.2)) fun v3 =>
         cnd (ilt v3 (0:Int))
          (some (([]:Y_),(0:Int),(10:Int)))
          (some (enc (wr .i32 v2.2),w64 (aE v2.1 (1:Int)),(0:Int))))))))
def k2(s:Y_) (at':Int) (most:Int) (v2:Int×Int):Option (Y_×Int×Int):=k2N fuelH s at' most v2
theorem aZW{base:Int}(x:UInt8):(0≤dgV base x↔dOk base x=true)∧(dOk base x=true→dgV base x=eR x):=by
 unfold dgV dOk
 by_cases h:base≤eR x
 ·rw[if_pos h];refine⟨⟨fun k=>by omega,fun k=>?_⟩,fun k=>?_⟩
  ·simp at k; omega
  ·simp at k; omega
 ·rw[if_neg h];refine⟨⟨fun k=>by simp; omega,fun k=>?_⟩,fun _=>rfl⟩;simp at k; omega
theorem G1{s:Y_}(hs:s.length≤4000000){base:Int}(hb:base=10∨base=16){K:Int×Int→Option (Y_×Int×Int)}:∀(fuel i:Nat) (n:Int),s.length-i<fuel→i≤s.length→0≤n→n≤16777216 →
  aY (fun v5 (v6:Int×Int) =>
    cnd (ilt v6.1 (len s))
     (grd (inb v6.1 (len s))
      (bnd (q80 fuelH (aA s (toN v6.1) (0:UInt8),base)) fun v7 =>
      cnd (ile (0:Int) v7)
       (grd (inb v6.1 (len s))
        (bnd (q80 fuelH (aA s (toN v6.1) (0:UInt8),base)) fun v8 =>
        v5 (w64 (aE v6.1 (1:Int)),mA (w64 (aE (w64 (jX v6.2 base)) v8)) (16777216:Int))))
       (K v6)))
     (K v6)) fuel ((i:Int),n)=K (((i+((s.drop i).takeWhile (dOk base)).length:Nat):Int),((s.drop i).takeWhile (dOk base)).foldl (fun n x=>min (n*base+eR x) 16777216) n)
 | 0,i,n,h,_,_,_=>by omega
 |fuel+1,i,n,h,hi,h0,h1=>by
  rw[eP]
  by_cases hl:i<s.length
  ·have g:aA s (toN (i:Int)) (0:UInt8)=s[i]:=aU hl
   have hw:w64 (aE (i:Int) 1)=((i+1:Nat):Int):=aO hl (by omega)
   have hx:=(digits s[i]).2.2.2
   have hdv:=aZW (base:=base) s[i]
   show cnd (ilt (i:Int) (len s)) _ _=_;rw[aD (aP (by simp only[len]; omega)),aF (aS (by simp only[len]; omega)),g,aNP hb,aB,aF (aS (by simp only[len]; omega)),aB,hw,bHK hl,bIL]
   by_cases hd:dOk base s[i]=true
   ·have h2:=hdv.2 hd
    have h3:0≤eR s[i]∧eR s[i]<base:=by unfold dOk at hd; simpa using hd
    have hb16:1≤base∧base≤16:=by rcases hb with rfl|rfl<;>decide
    have m0:0≤n*base:=Int.mul_nonneg h0 (by omega)
    have m1:n*base≤n*16:=bHC hb16.2 h0
    rw[aD (eA (hdv.1.2 hd)),if_pos hd,h2]
    have e1:mA (w64 (aE (w64 (jX n base)) (eR s[i]))) 16777216=min (n*base+eR s[i]) 16777216:=by
     simp only[jX,aE,mA];rw[bG (x:=n*base) (by omega),bG (by omega)]
    rw[e1]
    have ih:=G1 hs hb (K:=K) fuel (i+1) (min (n*base+eR s[i]) 16777216) (by omega) (by omega) (by omega) (by omega)
    rw[ih,bI3,List.foldl_cons];congr 3;omega
   ·rw[aC (fZ (fun k=>hd (hdv.1.1 k))),if_neg hd];rfl
  ·obtain rfl:i=s.length:=by omega
   show cnd (ilt (s.length:Int) (len s)) _ _=_;rw[aC (aQ (by simp only[len]; omega)),bJD];rfl
theorem aC2{P:UInt8→Bool}:∀l:Y_,(l.takeWhile P).all P=true
 | []=>rfl
 |b::l=>by
  rw[bIL]
  split
  ·rename_i h;rw[bJ1,h,aC2 l];rfl
  ·rfl
theorem aFB{P:UInt8→Bool}:∀l:Y_,l.drop (l.takeWhile P).length=[]∨∃b t,l.drop (l.takeWhile P).length=b::t∧P b=false
 | []=>.inl rfl
 |b::l=>by
  rw[bIL]
  by_cases h:P b=true
  ·rw[if_pos h]
   simpa using aFB l
  ·rw[if_neg h];exact .inr ⟨b,l,rfl,by simpa using h⟩
theorem WT(P:UInt8→Bool):∀l:Y_,l.takeWhile P++l.drop (l.takeWhile P).length=l
 | []=>rfl
 |b::l=>by
  rw[bIL]
  split
  ·rw[bI3,bIG,bI5,WT P l]
  ·rfl
theorem BY{base:Int}{x:UInt8}(h:dOk base x=true):not59 x=true:=by
 unfold not59;simp only[bne_iff_ne,ne_eq];intro e;subst e;unfold dOk at h;simp[eR] at h
theorem aC3{s:Y_}{a m:Nat}{n:Int}{most:Nat}(hl:s.length≤4000000) (ham:a+m≤s.length) (h:m=0∨most<m∨a+m=s.length∨∃b t,s.drop (a+m)=b::t∧b≠59):k2 s (a:Int) (most:Int) (((a+m:Nat):Int),n)=some ([],0,4):=by
 unfold k2 k2N;simp only
 by_cases h0:m=0
 ·rw[aD (cB (by omega))]
 rw[aC (bS (by omega))]
 have e1:w64 (aH ((a+m:Nat):Int) (a:Int))=(m:Int):=by
  simp only[aH];rw[bG (by omega)];omega
 rw[e1]
 by_cases h1:most<m
 ·rw[aD (aP (by omega))]
 rw[aC (aQ (by omega))]
 by_cases h2:a+m=s.length
 ·rw[aD (cB (by simp only[len]; omega))]
 rw[aC (bS (by simp only[len]; omega)),aF (aS (by simp only[len]; omega))];rcases h with h|h|h|⟨b,t,h3,h4⟩
 ·exact absurd h h0
 ·exact absurd h h1
 ·exact absurd h h2
 ·have hlt:a+m<s.length:=by omega
  have hb:s[a+m]=b:=by
   rw[bHK hlt] at h3;injection h3
  rw[aU hlt,hb,aD (bX (fun k=>h4 (cH k)))]
theorem bGM{s:Y_}{a m:Nat}{n:Int}{most:Nat}{t:Y_}(hl:s.length≤4000000) (h0:m≠0) (h1:¬most<m) (h3:s.drop (a+m)=59::t) (hn:0≤n∧n<1048576):k2 s (a:Int) (most:Int) (((a+m:Nat):Int),n)=some (if dO n=false then([],0,10) else(enc n,((a+m+1:Nat):Int),0)):=by
 have hlt:a+m<s.length:=by
  rcases Nat.lt_or_ge (a+m) s.length with h|h
  ·exact h
  ·rw[List.drop_eq_nil_of_le h] at h3;cases h3
 have hb:s[a+m]=59:=by
  rw[bHK hlt] at h3;injection h3
 unfold k2 k2N;simp only
 have e1:w64 (aH ((a+m:Nat):Int) (a:Int))=(m:Int):=by
  simp only[aH];rw[bG (by omega)];omega
 obtain⟨i,q1,_,q3⟩:=qR n;rw[aC (bS (by omega)),e1,aC (aQ (by omega)),aC (bS (by simp only[len]; omega)),aF (aS (by simp only[len]; omega)),aU hlt,hb,aC (by rfl),aFA (by omega),q1,aB,aO (n:=s.length) hlt (by omega)]
 by_cases h2:dO n=false
 ·rw[if_pos h2,aD (aP (q3.2 h2))]
 ·rw[if_neg h2,aC (aQ (fun k=>h2 (q3.1 k)))]
theorem aNW{s:Y_}(hs:s.length≤4000000){base:Int}{most a:Nat}(hb:(base=10∧most=6)∨(base=16∧most=5)) (ha:a≤s.length) :
  k2 s (a:Int) (most:Int) (((a+((s.drop a).takeWhile (dOk base)).length:Nat):Int),((s.drop a).takeWhile (dOk base)).foldl (fun n x=>min (n*base+eR x) 16777216) 0) =
   some (if(s.drop a).all not59=true then([],0,4) else if(mO base most ((s.drop a).takeWhile not59)).2=0 then((mO base most ((s.drop a).takeWhile not59)).1,((a+((s.drop a).takeWhile not59).length+1:Nat):Int),0) else([],0,(mO base most ((s.drop a).takeWhile not59)).2)):=by
 generalize hd:s.drop a=d
 have hw:=aC2 (P:=dOk base) d
 have hm:=List.takeWhile_prefix (dOk base) (l:=d)
 have hdl:d.length=s.length-a:=by rw[←hd,bI7]
 have hml:(d.takeWhile (dOk base)).length≤d.length:=hm.length_le
 have hdr:s.drop (a+(d.takeWhile (dOk base)).length)=d.drop (d.takeWhile (dOk base)).length:=by rw[←hd,bJR]
 have hcat:d=d.takeWhile (dOk base)++d.drop (d.takeWhile (dOk base)).length:=(WT _ d).symm
 have hbase:1≤base:=by rcases hb with⟨h,_⟩|⟨h,_⟩<;>omega
 rcases aFB (P:=dOk base) d with h|⟨b,t,h,hbad⟩
 ·rw[aC3 hs (by omega) (.inr (.inr (.inl (by have:=congrArg List.length h; simp at this; omega))))]
  have:d.all not59=true:=by
   rw[hcat,h,bJH];rw[bJC] at hw ⊢;exact fun x hx=>BY (hw x hx)
  rw[if_pos this]
 ·by_cases hb59:b=59
  ·subst hb59
   have hno:¬(d.all not59=true):=fun k=>by
    rw[hcat,h,List.all_append,bJ1] at k;simp[not59] at k
   have htw:d.takeWhile not59=d.takeWhile (dOk base):=by
    conv=>lhs; rw[hcat,h]
    refine vM ?_;rw[bJC] at hw ⊢;exact fun x hx=>BY (hw x hx)
   rw[if_neg hno,htw];generalize hq:d.takeWhile (dOk base)=q at *;unfold mO
   by_cases he:q=[]∨most<q.length∨q.all (dOk base)=false
   ·rw[if_pos he,if_neg (by decide)];refine aC3 hs (by omega) ?_;rcases he with he|he|he
    ·exact .inl (by rw[he]; rfl)
    ·exact .inr (.inl he)
    ·rw[he] at hw; cases hw
   ·rw[if_neg he];simp only[not_or] at he
    have hsm:=JH hb (by omega) hw
    have hcl:=(MW hbase q 0 (Int.le_refl _) hw).2 (by omega)
    rw[hcl,bGM hs (fun k=>he.1 (bHB k)) he.2.1 (hdr.trans h) hsm]
    by_cases hr:dO (zM base 0 q)=false
    ·rw[if_pos hr,if_pos hr];rfl
    ·rw[if_neg hr,if_neg hr];rfl
  ·have hcat2:d=d.takeWhile (dOk base)++b::t:=by rw[←h]; exact hcat
   rw[aC3 hs (by omega) (.inr (.inr (.inr ⟨b,t,hdr.trans h,hb59⟩)))]
   by_cases hall:d.all not59=true
   ·rw[if_pos hall]
   ·rw[if_neg hall]
    have hbq:∃u,d.takeWhile not59=d.takeWhile (dOk base)++b::u:=by
     refine⟨t.takeWhile not59,?_⟩
     conv=>lhs; rw[hcat2]
     rw[bHD (by rw[bJC] at hw; exact fun x hx=>BY (hw x hx)),bIL,if_pos (by simpa [not59] using hb59)]
    obtain⟨u,hu⟩:=hbq
    have:(d.takeWhile not59).all (dOk base)=false:=by
     rw[hu,List.all_append,bJ1,hbad];simp
    have e:mO base most (d.takeWhile not59)=([],4):=by
     unfold mO;rw[if_pos (.inr (.inr this))]
    rw[e,if_neg (by decide)]
theorem zO{c t p:Y_}(hp:p.all not59=true):(c++59::t).take p.length=p↔c.take p.length=p:=by
 by_cases h:p.length≤c.length
 ·rw[List.take_append_of_le_length h]
 ·refine⟨fun e=>?_,fun e=>?_⟩
  ·have hl:c.length<p.length:=by omega
   have h1:p[c.length]?=some 59:=by
    rw[←e,bIN,if_pos hl];simp
   have h2:=bH6 h1
   rw[bJC] at hp
   have:=hp 59 h2
   simp[not59] at this
  ·have:=congrArg List.length e
   rw[bI6] at this;omega
theorem pP{c t p:Y_}(hc:c.all not59=true) (hp:p.all not59=true):(c++59::t).take (p++[59]).length=p++[59]↔c=p:=by
 refine⟨fun e=>?_,fun e=>?_⟩
 ·have h1:c++59::t=p++59::(c++59::t).drop (p++[59]).length:=by
   conv=>lhs; rw[←bH0 (p++[59]).length (c++59::t),e]
   simp
  have h2:=vM (t:=t) hc
  rw[h1,vM hp] at h2;exact h2.symm
 ·subst e;rw[show c++59::t=(c++[59])++t by simp,List.take_left]
theorem tK{r p:Y_}(hr:r.all not59=true):¬(r.take (p++[59]).length=p++[59]):=fun e=>by
 have h1:(59:UInt8)∈r:=by
  have:(59:UInt8)∈r.take (p++[59]).length:=by rw[e]; simp
  exact bIA this
 rw[bJC] at hr
 have:=hr 59 h1
 simp[not59] at this
def xAN(N:Nat) (s:Y_) (v1:Int×Int×Int):Option (Y_×Int×Int) :=
   aY (fun v5 (v6:Int×Int) =>
    cnd (ilt v6.1 (len s))
     (grd (inb v6.1 (len s))
      (bnd (q80 N (aA s (toN v6.1) (0:UInt8),v1.2.1)) fun v7 =>
      cnd (ile (0:Int) v7)
       (grd (inb v6.1 (len s))
        (bnd (q80 N (aA s (toN v6.1) (0:UInt8),v1.2.1)) fun v8 =>
        v5 (w64 (aE v6.1 (1:Int)),mA (w64 (aE (w64 (jX v6.2 v1.2.1)) v8)) (16777216:Int))))
       (k2N N s v1.1 v1.2.2 v6)))
     (k2N N s v1.1 v1.2.2 v6)) N (v1.1,(0:Int))
def xA(s:Y_) (v1:Int×Int×Int):Option (Y_×Int×Int):=xAN fuelH s v1
theorem aI6(N:Nat) (s:Y_):aQU N s=bnd (q75 N (s,([38,35,120]:Y_))) fun v10=>cnd v10 (xAN N s ((3:Int),(16:Int),(5:Int))) (bnd (q75 N (s,([38,35]:Y_))) fun v11=>cnd (bA v11) (some (([]:Y_),(0:Int),(4:Int))) (xAN N s ((2:Int),(10:Int),(6:Int)))):=rfl
theorem aNX(s:Y_):aQU fuelH s=bnd (q75 fuelH (s,([38,35,120]:Y_))) fun v10=>cnd v10 (xA s ((3:Int),(16:Int),(5:Int))) (bnd (q75 fuelH (s,([38,35]:Y_))) fun v11=>cnd (bA v11) (some (([]:Y_),(0:Int),(4:Int))) (xA s ((2:Int),(10:Int),(6:Int)))):=aI6 fuelH s
theorem aS1{s:Y_}(hs:s.length≤4000000){base:Int}{most a:Nat}(hb:(base=10∧most=6)∨(base=16∧most=5)) (ha:a≤s.length) :
  xA s ((a:Int),base,(most:Int))=some (if(s.drop a).all not59=true then([],0,4) else if(mO base most ((s.drop a).takeWhile not59)).2=0 then((mO base most ((s.drop a).takeWhile not59)).1,((a+((s.drop a).takeWhile not59).length+1:Nat):Int),0) else([],0,(mO base most ((s.drop a).takeWhile not59)).2)):=by
 rw[←aNW hs hb ha];exact G1 hs (by rcases hb with⟨h,_⟩|⟨h,_⟩<;>simp[h]) fuelH a 0 (bU hs a) ha (by decide) (by decide)
theorem aQZ{r:Y_}(hr:r.length≤3999999):aQU fuelH (38::r)=some (if r.all not59=true then([],0,4) else if(BX (r.takeWhile not59)).2=0 then((BX (r.takeWhile not59)).1,(((r.takeWhile not59).length+2:Nat):Int),0) else([],0,(BX (r.takeWhile not59)).2)):=by
 have hs:(38::r).length≤4000000:=by simp; omega
 have e1:((38::r).take ([38,35,120]:Y_).length=[38,35,120])↔r.take ([35,120]:Y_).length=[35,120]:=by simp
 have e2:((38::r).take ([38,35]:Y_).length=[38,35])↔r.take ([35]:Y_).length=[35]:=by simp
 rw[aNX,MV,aB]
 by_cases h1:r.take ([35,120]:Y_).length=[35,120]
 ·have hl:2≤r.length:=by have:=congrArg List.length h1; simp at this; omega
  rw[aD (decide_eq_true (e1.2 h1))]
  have hx:=aS1 (a:=3) hs (.inr ⟨rfl,rfl⟩) (by simp; omega)
  refine bKF hx ?_
  have hd:(38::r).drop 3=r.drop 2:=rfl
  rw[hd];rcases tJ r with h|⟨c,t,rfl,h⟩
  ·rw[if_pos h,if_pos];rw[bJC] at h ⊢;exact fun x hx=>h x (bIC hx)
  ·have h2:=(zO (by rfl)).1 h1
   have hc2:2≤c.length:=by have:=congrArg List.length h2; simp at this; omega
   have hd2:(c++59::t).drop 2=c.drop 2++59::t:=List.drop_append_of_le_length hc2
   have hca:(c.drop 2).all not59=true:=by
    rw[bJC] at h ⊢;exact fun x hx=>h x (bIC hx)
   have hn:BX c=mO 16 5 (c.drop 2):=if_pos h2
   have no:∀(p q:Y_),¬((p++59::q).all not59=true):=fun p q k=>by
    rw[List.all_append,bJ1] at k;simp[not59] at k
   rw[hd2,vM hca,vM h,if_neg (no _ _),if_neg (no _ _),hn,bI7]
   have:3+(c.length-2)+1=c.length+2:=by omega
   rw[this]
 ·rw[aC (decide_eq_false (fun k=>h1 (e1.1 k))),MV,aB]
  by_cases h3:r.take ([35]:Y_).length=[35]
  ·have hl:1≤r.length:=by have:=congrArg List.length h3; simp at this; omega
   rw[decide_eq_true (e2.2 h3),aC (by rfl)]
   have hx:=aS1 (a:=2) hs (.inl ⟨rfl,rfl⟩) (by simp; omega)
   refine bKF hx ?_
   have hd:(38::r).drop 2=r.drop 1:=rfl
   rw[hd];rcases tJ r with h|⟨c,t,rfl,h⟩
   ·rw[if_pos h,if_pos];rw[bJC] at h ⊢;exact fun x hx=>h x (bIC hx)
   ·have h2:=(zO (by rfl)).1 h3
    have h4:¬(c.take 2=[35,120]):=fun k=>h1 ((zO (p:=[35,120]) (by rfl)).2 k)
    have hc2:1≤c.length:=by have:=congrArg List.length h2; simp at this; omega
    have hd2:(c++59::t).drop 1=c.drop 1++59::t:=List.drop_append_of_le_length hc2
    have hca:(c.drop 1).all not59=true:=by
     rw[bJC] at h ⊢;exact fun x hx=>h x (bIC hx)
    have hn:BX c=mO 10 6 (c.drop 1):=by unfold BX; rw[if_neg h4]; exact if_pos h2
    have no:∀(p q:Y_),¬((p++59::q).all not59=true):=fun p q k=>by
     rw[List.all_append,bJ1] at k;simp[not59] at k
    rw[hd2,vM hca,vM h,if_neg (no _ _),if_neg (no _ _),hn,bI7]
    have:2+(c.length-1)+1=c.length+2:=by omega
    rw[this]
  ·rw[decide_eq_false (fun k=>h3 (e2.1 k)),aD (by rfl)];rcases tJ r with h|⟨c,t,rfl,h⟩
   ·rw[if_pos h]
   ·have h4:¬(c.take 2=[35,120]):=fun k=>h1 ((zO (p:=[35,120]) (by rfl)).2 k)
    have h5:¬(c.take 1=[35]):=fun k=>h3 ((zO (p:=[35]) (by rfl)).2 k)
    have hn:BX c=([],4):=by unfold BX; rw[if_neg h4,if_neg h5]
    rw[vM h,hn]
    split<;>rfl
theorem aQ0{r:Y_}(hr:r.length≤3999999):q81 fuelH (38::r)=some (kA r):=by
 have h:=aNS (lZ+4990) (38::r)
 have hx:=aQZ hr
 show q81 (lZ+4990+10) (38::r)=_;rw[h,bF];simp only[MV,aB]
 have step:∀(p:Y_) (X Y:Option (Y_×Int×Int)),cnd (decide ((38::r).take (38::(p++[59])).length=38::(p++[59]))) X Y=if r.take (p++[59]).length=p++[59] then X else Y:=fun p X Y=>by
  rw[gA]
  by_cases e:r.take (p++[59]).length=p++[59]
  ·rw[if_pos e,if_pos (by rw[bI3,bIH,e])]
  ·rw[if_neg e,if_neg (fun k=>e (by rw[bI3,bIH] at k; injection k))]
 have s1:=step [97,109,112]
 have s2:=step [108,116]
 have s3:=step [103,116]
 have s4:=step [113,117,111,116]
 have s5:=step [97,112,111,115]
 refine bKF (s1 _ _) ?_;rcases tJ r with h|⟨c,t,rfl,hc⟩
 ·rw[if_neg (tK h)];refine bKF (s2 _ _) ?_;rw[if_neg (tK h)];refine bKF (s3 _ _) ?_;rw[if_neg (tK h)];refine bKF (s4 _ _) ?_;rw[if_neg (tK h)];refine bKF (s5 _ _) ?_;rw[if_neg (tK h),aQY h];refine bKF hx ?_;rw[if_pos h]
 ·rw[aNV hc,FE];simp only[pP hc (show([97,109,112]:Y_).all not59=true from rfl)]
  by_cases c1:c=[97,109,112]
  ·subst c1; rfl
  rw[if_neg c1,if_neg c1];refine bKF (s2 _ _) ?_;simp only[pP hc (show([108,116]:Y_).all not59=true from rfl)]
  by_cases c2:c=[108,116]
  ·subst c2; rfl
  rw[if_neg c2,if_neg c2];refine bKF (s3 _ _) ?_;simp only[pP hc (show([103,116]:Y_).all not59=true from rfl)]
  by_cases c3:c=[103,116]
  ·subst c3; rfl
  rw[if_neg c3,if_neg c3];refine bKF (s4 _ _) ?_;simp only[pP hc (show([113,117,111,116]:Y_).all not59=true from rfl)]
  by_cases c4:c=[113,117,111,116]
  ·subst c4; rfl
  rw[if_neg c4,if_neg c4];refine bKF (s5 _ _) ?_;simp only[pP hc (show([97,112,111,115]:Y_).all not59=true from rfl)]
  by_cases c5:c=[97,112,111,115]
  ·subst c5; rfl
  rw[if_neg c5,if_neg c5];refine bKF hx ?_
  have no:¬((c++59::t).all not59=true):=fun k=>by
   rw[List.all_append,bJ1] at k;simp[not59] at k
  rw[if_neg no,vM hc]
theorem G3(base:Int) (most:Nat) (d:Y_):(mO base most d).1.length≤4:=by
 unfold mO
 split
 ·simp
 ·split
  ·simp
  ·rename_i h;exact aEX (by simpa using h)
theorem JI(c:Y_):(rG c).1.length≤4:=by
 rw[FE]
 repeat' split
 any_goals simp
 unfold BX
 repeat' split
 ·exact G3 _ _ _
 ·exact G3 _ _ _
 ·simp
theorem gP{P:UInt8→Bool}(l:Y_):(l.takeWhile P).length≤l.length:=(List.takeWhile_prefix P).length_le
theorem WU{l:Y_}(h:(kA l).2.2=0):(l.takeWhile not59).length<l.length∧(kA l).2.1=(((l.takeWhile not59).length+2:Nat):Int)∧(kA l).1=(rG (l.takeWhile not59)).1∧(rG (l.takeWhile not59)).2=0:=by
 have:=gP (P:=not59) l
 unfold kA at *;simp only at *
 by_cases h1:(l.takeWhile not59).length=l.length
 ·rw[if_pos h1] at h;cases h
 ·rw[if_neg h1] at h ⊢
  by_cases h2:(rG (l.takeWhile not59)).2=0
  ·rw[if_pos h2] at h ⊢;exact⟨by omega,rfl,rfl,h2⟩
  ·rw[if_neg h2] at h;exact absurd h h2
def unE:Nat→Y_→Y_→Y_×Int
 | 0,a,_=>(a,0)
 |_+1,a,[]=>(a,0)
 |n+1,a,b::l=>if b=60 then([],4) else if b=38 then(if(kA l).2.2≠0 then([],(kA l).2.2) else unE n (a++(kA l).1) (l.drop ((l.takeWhile not59).length+1))) else unE n (a++[b]) l
theorem JJ:∀(n m:Nat) (a l:Y_),l.length≤n→l.length≤m→unE n a l=unE m a l
 | 0,m,a,l,h,_=>by
  have:l=[]:=bHB (by omega)
  subst this;cases m<;>rfl
 |n+1,0,a,l,_,h=>by
  have:l=[]:=bHB (by omega)
  subst this;rfl
 |n+1,m+1,a,[],_,_=>rfl
 |n+1,m+1,a,b::l,h1,h2=>by
  have e1:=fun a=>JJ n m a l (by simp at h1; omega) (by simp at h2; omega)
  have e2:=fun a=>JJ n m a (l.drop ((l.takeWhile not59).length+1)) (by simp at h1 ⊢; omega) (by simp at h2 ⊢; omega)
  simp only[unE,e1,e2]
def un(a l:Y_):Y_×Int:=unE l.length a l
theorem WW(a:Y_):un a []=(a,0):=rfl
theorem FF(a:Y_) (b:UInt8) (l:Y_):un a (b::l)=if b=60 then([],4) else if b=38 then(if(kA l).2.2≠0 then([],(kA l).2.2) else un (a++(kA l).1) (l.drop ((l.takeWhile not59).length+1))) else un (a++[b]) l:=by
 have e2:=fun a=>JJ l.length (l.drop ((l.takeWhile not59).length+1)).length a (l.drop ((l.takeWhile not59).length+1)) (by simp) (bKC _)
 show unE (l.length+1) a (b::l)=_;simp only[unE,e2];rfl
theorem aQ1(a t:Y_) (h:a.length+t.length≤100000000):q31 fuelH (((),a),t)=some (len t,false,(),a++t):=by
 unfold q31 bQ cK;rw[aB,aF (cU (by simp only[len,aE]; omega))];rfl
theorem aNY(a:Y_) (b:UInt8) (h:a.length≤100000000):q82 fuelH (((),a),b)=some (false,(),a++[b]):=by
 unfold q82 bQ cK;rw[aB,aF (cU (by simp only[len,aE,bI3,bJL]; omega))];rfl
theorem bGN{s:Y_}(hs:s.length≤3900000):q83 fuelH s=some (un [] s):=by
 unfold q83;rw[bF]
 have h:=bT (s:=s) (fun (a:Y_) (i:Nat)=>((i:Int),((),a))) (fun a l=>some (un a l)) (fun i a=>a.length≤4*i)
  (F:=fun v2 (v3:Int×Unit×Y_) =>
  cnd (ilt v3.1 (len s))
   (grd (inb v3.1 (len s))
    (cnd (ieq (n8 (aA s (toN v3.1) (0:UInt8))) (n8 (60:UInt8)))
     (some (([]:Y_),(4:Int)))
     (cnd (ieq (n8 (aA s (toN v3.1) (0:UInt8))) (n8 (38:UInt8)))
      (grd (in2 v3.1 (len s))
       (bnd (q81 fuelH (bC (toN v3.1) s)) fun v4 =>
       cnd (ine v4.2.2 (0:Int))
        (some (([]:Y_),v4.2.2))
        (bnd (q31 fuelH (((),v3.2.2),v4.1)) fun v5 =>
        v2 (w64 (aE v3.1 v4.2.1),(),v5.2.2.2))))
      (grd (inb v3.1 (len s))
       (bnd (q82 fuelH (((),v3.2.2),aA s (toN v3.1) (0:UInt8))) fun v6 =>
       v2 (w64 (aE v3.1 (1:Int)),(),v6.2.2))))))
   (some (v3.2.2,(0:Int)))) ?_ fuelH 0 [] (bU (by omega) 0) (bKD _) (by simp)
 ·exact h
 ·intro self a i hi hI hself
  by_cases hl:i<s.length
  ·have g:aA s (toN (i:Int)) (0:UInt8)=s[i]:=aU hl
   have hw:w64 (aE (i:Int) 1)=((i+1:Nat):Int):=aO hl (by omega)
   have hld:bC (toN (i:Int)) s=s.drop i:=by simp[bC,toN]
   rw[bHK hl,FF];show cnd (ilt (i:Int) (len s)) _ _=_;rw[aD (aP (by simp only[len]; omega)),aF (aS (by simp only[len]; omega)),g,hld]
   by_cases h60:s[i]=60
   ·rw[if_pos h60,aD (cB (by rw[h60]))]
   rw[if_neg h60,aC (bS (fun k=>h60 (cH k)))]
   by_cases h38:s[i]=38
   ·rw[if_pos h38,aD (cB (by rw[h38])),aF (dG (by simp only[len]; omega)),bHK hl,h38,aQ0 (by simp; omega),aB]
    by_cases he:(kA (s.drop (i+1))).2.2=0
    ·have ho:=WU he
     have hle:(kA (s.drop (i+1))).1.length≤4:=by rw[ho.2.2.1]; exact JI _
     have hdl:(s.drop (i+1)).length=s.length-(i+1):=bI7
     rw[aC (bW he),if_neg (by simpa using he),aQ1 _ _ (by show a.length+_≤_; omega),aB,ho.2.1]
     have e1:w64 (aE (i:Int) ((((s.drop (i+1)).takeWhile not59).length+2:Nat):Int))=((i+(((s.drop (i+1)).takeWhile not59).length+2):Nat):Int):=by
      simp only[aE];rw[bG (by omega)];omega
     rw[e1,bJR]
     have hz:=hself (a++(kA (s.drop (i+1))).1) (i+(((s.drop (i+1)).takeWhile not59).length+2)) (by omega) (by omega) (by rw[bIM]; omega)
     refine bKF hz ?_;congr 3;omega
    ·rw[aD (bX he),if_pos (by simpa using he)]
   ·rw[if_neg h38,aC (bS (fun k=>h38 (cH k))),aF (aS (by simp only[len]; omega)),aNY _ _ (by show a.length≤_; omega),aB,hw];exact hself (a++[s[i]]) (i+1) (by omega) (by omega) (by simp; omega)
  ·obtain rfl:i=s.length:=by omega
   show cnd (ilt (s.length:Int) (len s)) _ _=_;rw[aC (aQ (by simp only[len]; omega)),bJD];rfl
theorem aZX{R:Type}{s:Y_}(hs:s.length≤4000000) (P T:UInt8→Bool) (hT:∀x,T x=P x) (K:Int→Option R){i:Nat}(hi:i≤s.length) :
  aY (fun (v9:Int→Option R) (v10:Int)=>cnd (ilt v10 (len s)) (grd (inb v10 (len s)) (cnd (T (aA s (toN v10) (0:UInt8))) (v9 (w64 (aE v10 (1:Int)))) (K v10))) (K v10)) fuelH (i:Int)=K ((i+((s.drop i).takeWhile P).length:Nat):Int):=by
 refine aNO P K (fun self k hk=>?_) (fun self=>?_) fuelH i (bU hs i) hi
 ·show cnd (ilt (k:Int) (len s)) _ _=_;rw[aD (aP (by simp only[len]; omega)),aF (aS (by simp only[len]; omega)),aU hk,hT,aO hk (by omega),mM]
 ·show cnd (ilt (s.length:Int) (len s)) _ _=_;rw[aC (aQ (by simp only[len]; omega))]
theorem aNZ{R:Type}{s:Y_}(hs:s.length≤4000000) (P:UInt8→Bool) (g:UInt8→Option Bool) (hg:∀x,g x=some (P x)) (K:Int→Option R){i:Nat}(hi:i≤s.length) :
  aY (fun (v9:Int→Option R) (v10:Int)=>cnd (ilt v10 (len s)) (grd (inb v10 (len s)) (bnd (g (aA s (toN v10) (0:UInt8))) fun v5=>cnd v5 (v9 (w64 (aE v10 (1:Int)))) (K v10))) (K v10)) fuelH (i:Int)=K ((i+((s.drop i).takeWhile P).length:Nat):Int):=by
 refine aNO P K (fun self k hk=>?_) (fun self=>?_) fuelH i (bU hs i) hi
 ·show cnd (ilt (k:Int) (len s)) _ _=_;rw[aD (aP (by simp only[len]; omega)),aF (aS (by simp only[len]; omega)),aU hk,hg,aB,aO hk (by omega),mM]
 ·show cnd (ilt (s.length:Int) (len s)) _ _=_;rw[aC (aQ (by simp only[len]; omega))]
theorem JK{l h n:Int}(k:0≤l∧l≤h∧h≤n):in3 l h n=true:=decide_eq_true k
theorem oM(P:UInt8→Bool):∀l:Y_,l.take (l.takeWhile P).length=l.takeWhile P
 | []=>rfl
 |b::l=>by
  rw[bIL]
  split
  ·rw[bI3,bIH,oM P l]
  ·rfl
theorem aQ2(x:UInt8):ine (n8 x) (n8 59)=not59 x:=by
 unfold not59
 by_cases h:x=59
 ·subst h; rfl
 ·rw[bX (fun k=>h (cH k))]
  simpa using h
theorem aZY{s:Y_}(hs:s.length≤3900000):aHB fuelH s=some (un [] s):=by
 unfold aHB;rw[bF]
 have h:=bT (s:=s) (fun (a:Y_) (i:Nat)=>(a,(i:Int))) (fun a l=>some (un a l)) (fun i a=>a.length≤4*i)
  (F:=fun v2 (v3:Y_×Int) =>
  cnd (ilt v3.2 (len s))
   (jn (fun (v4:Y_×Int) =>
    v2 (v4.1,w64 (aE v4.2 (1:Int))))
   fun v5 =>
   grd (inb v3.2 (len s)) <|
   cnd (ieq (n8 (aA s (toN v3.2) (0:UInt8))) (n8 (60:UInt8)))
    (some (([]:Y_),(4:Int)))
    (grd (inb v3.2 (len s))
     (cnd (ine (n8 (aA s (toN v3.2) (0:UInt8))) (n8 (38:UInt8)))
      (grd (in3 v3.2 (w64 (aE v3.2 (1:Int))) (len s))
       (grd (dQ (aE (len v3.1) (len (bC (toN v3.2) (aW (toN (w64 (aE v3.2 (1:Int)))) s)))))
        (v5 (bL v3.1 (bC (toN v3.2) (aW (toN (w64 (aE v3.2 (1:Int)))) s)),v3.2))))
      (jn (fun (v6:Int) =>
       cnd (ieq v6 (len s))
        (some (([]:Y_),(4:Int)))
        (grd (in3 (w64 (aE v3.2 (1:Int))) v6 (len s))
         (bnd (C0 fuelH (bC (toN (w64 (aE v3.2 (1:Int)))) (aW (toN v6) s))) fun v7 =>
         cnd (ine v7.2 (0:Int))
          (some (([]:Y_),v7.2))
          (grd (dQ (aE (len v3.1) (len v7.1)))
           (v5 (bL v3.1 v7.1,v6))))))
      fun v8 =>
      aY (fun v9 (v10:Int) =>
       cnd (ilt v10 (len s))
        (grd (inb v10 (len s))
         (cnd (ine (n8 (aA s (toN v10) (0:UInt8))) (n8 (59:UInt8)))
          (v9 (w64 (aE v10 (1:Int))))
          (v8 v10)))
        (v8 v10)) fuelH (w64 (aE v3.2 (1:Int)))))))
   (some (v3.1,(0:Int)))) ?_ fuelH 0 [] (bU (by omega) 0) (bKD _) (by simp)
 ·exact h
 ·intro self a i hi hI hself
  by_cases hl:i<s.length
  ·have g:aA s (toN (i:Int)) (0:UInt8)=s[i]:=aU hl
   have hw:w64 (aE (i:Int) 1)=((i+1:Nat):Int):=aO hl (by omega)
   have hsl:bC (toN (i:Int)) (aW (toN ((i+1:Nat):Int)) s)=[s[i]]:=by
    simp only[bC,aW,toN,bI1];rw[bHA hl,List.drop_left' (by simp; omega)]
   rw[bHK hl,FF];show cnd (ilt (i:Int) (len s)) _ _=_;rw[aD (aP (by simp only[len]; omega)),bF,aF (aS (by simp only[len]; omega)),g,hw,hsl]
   by_cases h60:s[i]=60
   ·rw[if_pos h60,aD (cB (by rw[h60]))]
   rw[if_neg h60,aC (bS (fun k=>h60 (cH k))),aF (aS (by simp only[len]; omega))]
   by_cases h38:s[i]=38
   ·rw[if_pos h38,aC (bW (by rw[h38])),bF]
    have hdl:(s.drop (i+1)).length=s.length-(i+1):=bI7
    have htl:=gP (P:=not59) (s.drop (i+1))
    refine bKF (aZX (by omega) not59 (fun x=>ine (n8 x) (n8 59)) aQ2 _ (by omega)) ?_;generalize hn:((s.drop (i+1)).takeWhile not59).length=n at *
    by_cases he:n=s.length-(i+1)
    ·rw[aD (cB (by simp only[len]; omega))]
     have:kA (s.drop (i+1))=([],0,4):=by
      unfold kA;simp only;rw[if_pos (by omega)]
     rw[this];rfl
    ·rw[aC (bS (by simp only[len]; omega)),aF (JK (by simp only[len]; omega))]
     have hc:bC (toN ((i+1:Nat):Int)) (aW (toN ((i+1+n:Nat):Int)) s)=(s.drop (i+1)).takeWhile not59:=by
      simp only[bC,aW,toN,bI1];rw[bJT,show i+1+n-(i+1)=n by omega,←hn];exact oM _ _
     rw[hc,aQX,aB]
     have hx:kA (s.drop (i+1))=if(rG ((s.drop (i+1)).takeWhile not59)).2=0 then((rG ((s.drop (i+1)).takeWhile not59)).1,((n+2:Nat):Int),0) else([],0,(rG ((s.drop (i+1)).takeWhile not59)).2):=by
      unfold kA;simp only;rw[if_neg (by omega),hn]
     have hle:=JI ((s.drop (i+1)).takeWhile not59)
     rw[hx]
     by_cases hz:(rG ((s.drop (i+1)).takeWhile not59)).2=0
     ·rw[if_pos hz,aC (bW hz),aF (oK (by simp only[len,aE]; omega)),if_neg (by simp)];show self (a++_,w64 (aE ((i+1+n:Nat):Int) 1))=_;rw[aO (n:=s.length) (by omega) (by omega),bJR];refine bKF (hself _ (i+1+n+1) (by omega) (by omega) (by rw[bIM]; omega)) ?_;rfl
     ·rw[if_neg hz,aD (bX hz),if_pos (by simpa using hz)]
   ·rw[if_neg h38,aD (bX (fun k=>h38 (cH k))),aF (JK (by simp only[len]; omega)),aF (oK (by simp only[len,aE,bI3,bJL]; omega))];show self (a++[s[i]],w64 (aE (i:Int) 1))=_;rw[hw];exact hself (a++[s[i]]) (i+1) (by omega) (by omega) (by simp; omega)
  ·obtain rfl:i=s.length:=by omega
   show cnd (ilt (s.length:Int) (len s)) _ _=_;rw[aC (aQ (by simp only[len]; omega)),bJD];rfl
def nmX(s:Y_):Bool:=decide (1≤s.length)&&decide (s.length≤32)&&nV (s.getD 0 0)&&s.all mN
theorem aFC{x:UInt8}(h:nV x=true):mN x=true:=by unfold mN; rw[h]; rfl
def cD:Y_→Y_
 | []=>[]
 |b::l=>if nV b=true then b::l.takeWhile mN else []
theorem pQ(b:UInt8) (l:Y_):cD (b::l)=if nV b=true then b::l.takeWhile mN else []:=rfl
theorem aZZ(s:Y_):nmX s=(decide (s≠[])&&decide (s.length≤32)&&decide (cD s=s)):=by
 unfold nmX
 match s with
 | []=>rfl
 |b::l =>
  have h0:(b::l).getD 0 0=b:=rfl
  rw[h0,bJ1]
  have h1:decide (1≤(b::l).length)=true:=decide_eq_true (by simp)
  have h2:decide (b::l≠[])=true:=decide_eq_true (by simp)
  rw[h1,h2,Bool.and_assoc (true&&decide ((b::l).length≤32))];congr 1;rw[pQ]
  by_cases h:nV b=true
  ·rw[h,aFC h,if_pos rfl,bJ0,bJ0];rw[bJQ,decide_eq_true_eq];refine⟨fun k=>?_,fun k=>?_⟩
   ·have:=bHD (p:=mN) (l₁:=l) (l₂:=[]) (by simpa using k)
    simp at this;rw[this]
   ·injection k with _ k;rw[←k];exact aC2 l
  ·have:nV b=false:=by simpa using h
   rw[this,if_neg (by decide),decide_eq_false (show ¬(([]:Y_)=b::l) by simp)];simp
theorem MX{s:Y_}(hs:s.length≤4000000):∀(fuel i:Nat),s.length-i<fuel→i≤s.length →
  aY (fun v3 (v4:Int)=>cnd (ilt v4 (len s)) (grd (inb v4 (len s)) (bnd (q58 fuelH (aA s (toN v4) (0:UInt8))) fun v5=>cnd (bA v5) (some false) (v3 (w64 (aE v4 (1:Int)))))) (some true)) fuel (i:Int)=some ((s.drop i).all mN)
 | 0,i,h,_=>by omega
 |fuel+1,i,h,hi=>by
  rw[eP]
  by_cases hl:i<s.length
  ·rw[aD (aP (by simp only[len]; omega)),aF (aS (by simp only[len]; omega)),aU hl,aE8,aB,aO hl (by omega),MX hs fuel (i+1) (by omega) (by omega),bHK hl,bJ1];cases mN s[i]<;>rfl
  ·obtain rfl:i=s.length:=by omega
   rw[aC (aQ (by simp only[len]; omega)),bJD];rfl
theorem FG(s:Y_):dW fuelH s=some (nmX s):=by
 unfold dW nmX
 by_cases h0:1≤s.length
 ·rw[aC (aQ (by simp only[len]; omega)),decide_eq_true h0]
  by_cases h1:s.length≤32
  ·have hg:aA s (toN (0:Int)) (0:UInt8)=s.getD 0 0:=rfl
   rw[aC (aQ (by simp only[len]; omega)),decide_eq_true h1,aF (aS (by simp only[len]; omega)),MU,aB,hg]
   by_cases h2:nV (s.getD 0 0)=true
   ·rw[h2,aC (by rfl),bF];exact MX (by omega) fuelH 0 (bU (by omega) 0) (bKD _)
   ·have h2:nV (s.getD 0 0)=false:=by simpa using h2
    rw[h2,aD (by rfl)];rfl
  ·rw[aD (aP (by simp only[len]; omega)),decide_eq_false h1];rfl
 ·rw[aD (aP (by simp only[len]; omega)),decide_eq_false h0];rfl
theorem bGO(x:UInt8) (X Y:Option Y_) (N:Nat) (s:Y_) (v:Int) (hv:inb v (len s)=true) (hx:aA s (toN v) 0=x) :
  (bnd (IL N x) fun v5=>cnd v5 X (grd (inb v (len s)) (bnd (IM N x) fun v6=>cnd v6 X (grd (inb v (len s)) (cnd (ieq (n8 x) (n8 (45:UInt8))) X Y)))))=if mN x=true then X else Y:=by
 rw[JG,aB,aF hv,aI5,aB,aF hv];unfold mN
 cases nV x with
 |true=>rfl
 |false =>
  rw[aC (by rfl)]
  cases aI4 x with
  |true=>rfl
  |false =>
   rw[aC (by rfl)]
   by_cases h:x=45
   ·subst h; rfl
   ·rw[aC (bS (fun k=>h (cH k))),if_neg (by simpa using h)]
theorem zP{s:Y_}(hs:s.length≤4000000):KM fuelH s=some (cD s):=by
 unfold KM
 match s with
 | []=>rfl
 |b::l =>
  rw[aC (by rfl),aF (aS (by simp only[len,bI3]; omega))];show(bnd (IL fuelH b) _)=_;rw[JG,aB,pQ]
  by_cases h:nV b=true
  ·rw[h,aC (by rfl),bF,if_pos rfl]
   have hb:(1:Nat)≤(b::l).length:=by simp
   refine bKF (aNO (s:=b::l) mN (fun v1=>grd (in2 v1 (len (b::l))) (some (aW (toN v1) (b::l)))) (fun self k hk=>?_) (fun self=>?_) fuelH 1 (bU hs 1) hb) ?_
   ·show cnd (ilt (k:Int) (len (b::l))) _ _=_
    have hv:inb (k:Int) (len (b::l))=true:=aS (by simp only[len]; omega)
    rw[aD (aP (by simp only[len]; omega)),aF hv,aO hk (by omega)]
    have hx:=aU (l:=b::l) (d:=(0:UInt8)) hk
    rw[hx];exact bGO _ _ _ _ _ _ hv hx
   ·show cnd (ilt ((b::l).length:Int) (len (b::l))) _ _=_;rw[aC (aQ (by simp only[len]; omega))]
   ·have ht:=gP (P:=mN) l
    show grd (in2 ((1+(l.takeWhile mN).length:Nat):Int) (len (b::l))) _=_;rw[aF (dG (by simp only[len,bI3]; omega))];simp only[aW,toN,bI1];rw[bJ2,bIH];exact congrArg (fun x=>some (b::x)) (oM mN l)
  ·have h:nV b=false:=by simpa using h
   rw[h,aD (by rfl)];rfl
theorem jT{s:Y_}(hs:s.length≤4000000):eN fuelH s=some (nmX s):=by
 unfold eN;rw[aZZ]
 by_cases h0:s=[]
 ·subst h0; rfl
 rw[aD (by unfold sne; simpa using h0)]
 by_cases h1:s.length≤32
 ·rw[aD (eA (by simp only[len]; omega)),zP hs,aB,bO,decide_eq_true h0,decide_eq_true h1];rfl
 ·rw[aC (fZ (by simp only[len]; omega)),decide_eq_false h1];simp
abbrev Ln:=Y_
abbrev At:=Y_×Y_
abbrev Nd:=Y_×Y_×List At×Int
def ndz:Nd:=zN
def dep(n:Nd):Int:=n.2.2.2
def i64(x:Int):Prop:=-9223372036854775808≤x∧x≤9223372036854775807
theorem kD{l:List Nd}{i:Nat}(h:i<l.length):aA l (toN (i:Int)) zN=l[i]:=aU h
def wtA(a:At):Nat:=a.1.length+1+(a.2.length+1)
def wtN(n:Nd):Nat:=n.1.length+1+(n.2.1.length+1+(bkL wtA n.2.2.1+1+1))
structure smN (n:Nd):Prop where
 nm:n.1.length≤1090000
 tx:n.2.1.length≤1090000
 asz:n.2.2.1.length≤1090000
 an:∀a∈n.2.2.1,a.1.length≤1090000∧a.2.length≤1090000
theorem aN0{l:List Nd}(h:bkL wtN l≤1090000):∀n∈l,smN n:=fun n hn=>by
 have h1:n.1.length+1+(n.2.1.length+1+(bkL wtA n.2.2.1+1+1))≤bkL wtN l:=aM4 (f:=wtN) hn
 have h2:=aCT (f:=wtA) (fun a=>by unfold wtA; omega) n.2.2.1
 refine⟨by omega,by omega,by omega,fun a ha=>?_⟩
 have h3:a.1.length+1+(a.2.length+1)≤bkL wtA n.2.2.1:=aM4 (f:=wtA) ha
 omega
def fK(name:Ln):List At→Ln×Bool
 | []=>([],false)
 |a::r=>if a.1=name then(a.2,true) else fK name r
theorem wrU{n:Nat}(h:n<18446744073709551616):wr .u64 (n:Int)=n:=by
 show IntKind.wrap .u64 (n:Int)=_;unfold IntKind.wrap;simp only[IntKind.bits,IntKind.signed,bJV,show(2:Int)^64=18446744073709551616 from rfl];rw[if_neg (by decide)];omega
def aI7(k:UInt8):Y_:=if k=1 then [68,73,65,76,79,71,85,69] else if k=2 then [83,79,85,78,68] else if k=3 then [84,73,84,76,69] else if k=4 then [77,85,83,73,67] else []
def xH(r:UInt8):Y_:=if r=1 then [50,51,46,57,55,54] else if r=2 then [50,52] else if r=3 then [50,53] else if r=4 then [50,57,46,57,55] else if r=5 then [51,48] else if r=6 then [53,48] else if r=7 then [53,57,46,57,52] else []
theorem aI8:((List.range 256).all fun n=>decide (q27 0 (UInt8.ofNat n)=some (aI7 (UInt8.ofNat n))∧aT3 0 (UInt8.ofNat n)=some (aI7 (UInt8.ofNat n))∧q49 0 (UInt8.ofNat n)=some (xH (UInt8.ofNat n))∧lN 0 (UInt8.ofNat n)=some (xH (UInt8.ofNat n))))=true:=by kernel_rfl
theorem G4(x:UInt8):q27 0 x=some (aI7 x)∧aT3 0 x=some (aI7 x)∧q49 0 x=some (xH x)∧lN 0 x=some (xH x) :=
 of_decide_eq_true (xE (P:=fun x=>decide (q27 0 x=some (aI7 x)∧aT3 0 x=some (aI7 x)∧q49 0 x=some (xH x)∧lN 0 x=some (xH x))) aI8 x)
theorem aI9(N:Nat) (x:UInt8):q49 N x=some (xH x):=(G4 x).2.2.1
theorem aJA(N:Nat) (x:UInt8):lN N x=some (xH x):=(G4 x).2.2.2
structure NodOk (d:Doc):Prop where
 last:0≤d.2.2.2.2.1∧d.2.2.2.2.1≤1099511627776
 nreg:d.2.2.2.2.2.1.length≤16
 reg:∀r∈d.2.2.2.2.2.1,gN r=0
 nev:d.2.2.2.2.2.2.1.length≤400
 ev:∀e∈d.2.2.2.2.2.2.1,1≤e.1∧e.1≤1099511627776∧(0≤e.2.1.1∧e.2.1.1<e.2.1.2∧e.2.1.2≤5184000)∧e.2.2.2.2.2.length≤4∧∀l∈e.2.2.2.2.2,l.length≤16∧∀u∈l,n8 u.2.1.1≤6
theorem CV:∀(l:List Reg) (p:Option Reg),oL p l=0→∀r∈l,gN r=0
 | [],_,_,r,hr=>by cases hr
 |x::l,p,h,r,hr=>by
  simp only[oL] at h
  split at h
  ·rename_i hc; exact absurd h hc
  ·rename_i hc
   have hx:gN x=0:=by simpa using hc
   have tl:oL (some x) l=0:=by
    cases p with
    |none=>exact h
    |some q =>
     simp only at h
     split at h
     ·cases h
     ·split at h
      ·cases h
      ·exact h
   rcases bJX.1 hr with rfl|hr
   ·exact hx
   ·exact CV l _ tl r hr
theorem aN1{l:Row}(h:nQ l=0):jQ l=0:=by
 unfold nQ at h
 split at h
 ·rename_i hc; exact absurd h hc
 ·rename_i hc; simpa using hc
theorem aN2{d:Doc}(h:iB d=0):jR d.2.2.2.2.2.1=0:=by
 unfold iB at h
 split at h
 ·rename_i hc; exact absurd h hc
 split at h
 ·rename_i hc; exact absurd h hc
 ·rename_i hc; simpa using hc
theorem aN3{d:Doc}(h:iB d=0):0≤d.2.2.2.2.1∧d.2.2.2.2.1≤1099511627776:=by
 have h:=(MT h).1
 unfold kQ at h
 split at h
 ·cases h
 split at h
 ·cases h
 split at h
 ·cases h
 split at h
 ·cases h
 split at h
 ·cases h
 split at h
 ·cases h
 omega
theorem aQ3{d:Doc}(h:BV d=0):∀e∈d.2.2.2.2.2.2.1,rC e d.2.2.2.2.2.1=0:=by
 intro e he;obtain⟨j,hj,rfl⟩:=List.mem_iff_getElem.1 he;exact(F7 (MP _ [] h j hj)).1
theorem bGP{d:Doc}(h:iB d=0):NodOk d:=by
 obtain⟨h1,h2,h3⟩:=MT h
 have h4:=aN2 h
 refine⟨aN3 h,?_,?_,h2,fun e he=>?_⟩
 ·unfold jR at h4
  split at h4
  ·cases h4
  ·omega
 ·unfold jR at h4
  split at h4
  ·cases h4
  ·exact CV _ _ h4
 ·obtain⟨q1,q2,q3,_,q4,q5,_⟩:=aSZ (aQ3 h3 e he);refine⟨q1,q2,q3,q4,fun l hl=>?_⟩;obtain⟨r1,r2⟩:=MF (aN1 (q5 l hl));exact⟨r1,fun u hu=>(r2 u hu).2.2.1⟩
def atE:List Ln→List At→Int
 |_,[]=>0
 |seen,a::r=>if nmX a.1=false then 5 else if a.1∈seen then 7 else if vld a.2=false then 10 else atE (seen++[a.1]) r
def elE(n:Nd):Int:=if nmX n.1=false then 5 else if n.2.1≠[] then 4 else if 16<n.2.2.1.length then 9 else atE [] n.2.2.1
def rH(p:Option Nd) (n:Nd):Int:=match p with
 |none=>if dep n≠0 then 8 else 0
 |some q=>if dep n<1 then 8 else if(if q.1≠[] then dep q+1 else dep q)<dep n then 8 else if 15<dep n then 9 else 0
def txP(p:Option Nd) (n:Nd):Bool:=match p with
 |none=>true
 |some q=>decide (q.1=[]∧dep q=dep n)
def txE(p:Option Nd) (n:Nd):Int :=
 if txP p n=true then 8 else if n.2.1=[] then 4 else if 0<n.2.2.1.length then 4 else if vld n.2.1=false then 10 else 0
def ndE(p:Option Nd) (n:Nd):Int:=if rH p n≠0 then rH p n else if n.1≠[] then elE n else txE p n
def ckE:Option Nd→List Nd→Int
 |_,[]=>0
 |p,n::r=>if ndE p n≠0 then ndE p n else ckE (some n) r
def tL(l:List Nd):Int:=if l.length=0 then 6 else if 8192<l.length then 9 else ckE none l
theorem aC4{m:List (Ln×Bool)}(h:∀x∈m,x.2=true) (k:Ln):oW seq false m k=decide (k∈m.map Prod.fst):=by
 induction m with
 |nil=>rfl
 |cons x m ih =>
  have ih:=ih fun y hy=>h y (bH7 _ hy)
  have hx:=h x bIQ
  unfold oW;rw[ih,hx,bO]
  by_cases e:k=x.1
  ·subst e; simp
  ·simp[e]
theorem aC5{m:List (Ln×Bool)}{k:Ln}(h:k ∉ m.map Prod.fst):rJ seq m k true=m++[(k,true)]:=by
 induction m with
 |nil=>rfl
 |cons x m ih =>
  simp only[bJY,bJX,not_or] at h;unfold rJ
  have:seq k x.1=false:=by rw[bO]; simpa using h.1
  rw[this,ih h.2];rfl
theorem aQ4{n:Nd}(hs:smN n):q59 fuelH n=some (elE n):=by
 unfold q59 elE;rw[FG,aB]
 by_cases h1:nmX n.1=true
 ·rw[h1,aC (by rfl),if_neg (by decide)]
  by_cases h2:n.2.1=[]
  ·rw[aC (by unfold sne; simpa using h2),if_neg (by simpa using h2)]
   by_cases h3:16<n.2.2.1.length
   ·rw[aD (aP (by simp only[len]; omega)),if_pos h3]
   rw[aC (aQ (by simp only[len]; omega)),if_neg h3,bF];generalize ha:n.2.2.1=l at *
   have h:=bT (s:=l) (fun (m:List (Ln×Bool)) (j:Nat)=>((j:Int),m)) (fun m r=>some (atE (m.map Prod.fst) r)) (fun _ m=>∀x∈m,x.2=true)
    (F:=fun v3 (v4:Int×List (Y_×Bool)) =>
     cnd (ilt v4.1 (len l))
      (grd (inb v4.1 (len l))
       (bnd (dW fuelH (aA l (toN v4.1) ([],[])).1) fun v5 =>
       cnd (bA v5)
        (some (5:Int))
        (cnd (oW seq false v4.2 (aA l (toN v4.1) ([],[])).1)
         (some (7:Int))
         (bnd (q13 fuelH (aA l (toN v4.1) ([],[])).2) fun v6 =>
         cnd (bA v6)
          (some (10:Int))
          (v3 (w64 (aE v4.1 (1:Int)),rJ seq v4.2 (aA l (toN v4.1) ([],[])).1 true))))))
      (some (0:Int))) ?_ fuelH 0 [] (bU (by omega) _) (bKD _) (by simp)
   ·exact h
   ·intro self m j hj hI hself
    by_cases hjl:j<l.length
    ·have hw:w64 (aE (j:Int) 1)=((j+1:Nat):Int):=aO hjl (by omega)
     have hsa:=hs.an l[j] (by rw[ha]; exact bJE hjl)
     rw[bHK hjl];show cnd (ilt (j:Int) (len l)) _ _=some (if nmX (l[j]).1=false then _ else _);rw[aD (aP (by simp only[len]; omega)),aF (aS (by simp only[len]; omega)),aU hjl,FG,aB,hw]
     by_cases e1:nmX (l[j]).1=true
     ·rw[e1,aC (by rfl),if_neg (by decide),aC4 hI]
      by_cases e2:(l[j]).1∈m.map Prod.fst
      ·rw[aD (by simpa using e2),if_pos e2]
      ·rw[aC (by simpa using e2),if_neg e2,lO _ (by omega),aB]
       by_cases e3:vld (l[j]).2=true
       ·rw[e3,aC (by rfl),if_neg (by decide),aC5 e2];refine bKF (hself (m++[((l[j]).1,true)]) (j+1) (by omega) (by omega) ?_) ?_
        ·intro x hx;rcases bJG.1 hx with hx|hx
         ·exact hI x hx
         ·simp at hx; rw[hx]
        ·simp
       ·have e3:vld (l[j]).2=false:=by simpa using e3
        rw[e3,aD (by rfl),if_pos rfl]
     ·have e1:nmX (l[j]).1=false:=by simpa using e1
      rw[e1,aD (by rfl),if_pos rfl]
    ·obtain rfl:j=l.length:=by omega
     show cnd (ilt (l.length:Int) (len l)) _ _=_;rw[aC (aQ (by simp only[len]; omega)),bJD];rfl
  ·rw[aD (by unfold sne; simpa using h2),if_pos h2]
 ·have h1:nmX n.1=false:=by simpa using h1
  rw[h1,aD (by rfl),if_pos rfl]
def prv(l:List Nd) (i:Nat):Option Nd:=if i=0 then none else l[i-1]?
theorem gQ{l:List Nd}{i:Nat}(hi:i<l.length):prv l (i+1)=some l[i]:=by
 unfold prv;rw[if_neg (by omega)];simp[hi]
theorem aN4{l:List Nd}(hl:l.length≤4000000){i:Nat}(hi:i<l.length) (hp:∀q,prv l i=some q→0≤dep q∧dep q≤15):q56 fuelH (l,(i:Int))=some (rH (prv l i) l[i]):=by
 unfold q56;show grd (inb (i:Int) (len l)) (cnd (ieq (i:Int) 0) (cnd (ine (aA l (toN (i:Int)) zN).2.2.2 0) _ _) _)=_;rw[aF (aS (by simp only[len]; omega)),kD hi]
 by_cases h0:i=0
 ·subst h0;rw[aD (by rfl)];show cnd (ine (dep l[0]) 0) _ _=some (if dep l[0]≠0 then(8:Int) else 0)
  by_cases e:dep l[0]=0
  ·rw[aC (bW e),if_neg (by simpa using e)]
  ·rw[aD (bX e),if_pos e]
 ·obtain⟨k,rfl⟩:∃k,i=k+1:=⟨i-1,by omega⟩
  have hq:=hp _ (gQ (by omega))
  rw[aC (bS (by omega)),gQ (by omega)]
  have hb:w64 (aH ((k+1:Nat):Int) 1)=(k:Int):=fJ (by omega)
  dsimp only
  have hg:inb (k:Int) (len l)=true:=aS (by simp only[len]; omega)
  rw[hb,kD (show k<l.length by omega),aF hg,bF,aF hg];show cnd (sne l[k].1 []) (cnd (ilt (dep l[k+1]) 1) (some 8) (cnd (ilt (w64 (aE (dep l[k]) 1)) (dep l[k+1])) (some 8) (cnd (ilt 15 (dep l[k+1])) (some 9) (some 0)))) (cnd (ilt (dep l[k+1]) 1) (some 8) (cnd (ilt (dep l[k]) (dep l[k+1])) (some 8) (cnd (ilt 15 (dep l[k+1])) (some 9) (some 0)))) =
   some (if dep l[k+1]<1 then(8:Int) else if(if l[k].1≠[] then dep l[k]+1 else dep l[k])<dep l[k+1] then 8 else if 15<dep l[k+1] then 9 else 0)
  have hw:w64 (aE (dep l[k]) 1)=dep l[k]+1:=by
   simp only[aE];rw[bG (by omega)]
  rw[hw];simp only[bY]
  by_cases e:l[k].1=[]
  ·rw[aC (by unfold sne; simpa using e)];simp only[e,ne_eq,not_true,if_false]
   repeat' split
   all_goals rfl
  ·rw[aD (by unfold sne; simpa using e)];simp only[e,ne_eq,not_false_eq_true,if_true]
   repeat' split
   all_goals rfl
theorem aQ5{l:List Nd}(hl:l.length≤4000000){i:Nat}(hi:i<l.length) (hs:smN l[i]):q60 fuelH (l,(i:Int))=some (txE (prv l i) l[i]):=by
 have fin:∀b:Bool,(cnd b (some (8:Int)) (cnd (seq l[i].2.1 []) (some (4:Int)) (cnd (ilt 0 (len l[i].2.2.1)) (some (4:Int)) (bnd (q13 fuelH l[i].2.1) fun v1=>cnd (bA v1) (some (10:Int)) (some (0:Int)))))) =
   some (if b=true then 8 else if l[i].2.1=[] then 4 else if 0<l[i].2.2.1.length then 4 else if vld l[i].2.1=false then 10 else 0):=fun b=>by
  cases b with
  |true=>rfl
  |false =>
   rw[aC (by rfl),if_neg (by decide)]
   by_cases h1:l[i].2.1=[]
   ·rw[aD (by rw[cF]; exact h1),if_pos h1]
   rw[aC (by rw[bO]; simpa using h1),if_neg h1]
   by_cases h2:0<l[i].2.2.1.length
   ·rw[aD (aP (by simp only[len]; omega)),if_pos h2]
   rw[aC (aQ (by simp only[len]; omega)),if_neg h2,lO _ (by have:=hs.tx; omega),aB];cases vld l[i].2.1<;>rfl
 unfold q60;dsimp only;rw[aF (aS (by simp only[len]; omega)),bF];simp only[kD hi]
 by_cases h0:i=0
 ·subst h0;rw[aD (by rfl)];refine bKF (fin true) ?_;rfl
 ·obtain⟨k,rfl⟩:∃k,i=k+1:=⟨i-1,by omega⟩
  have hb:w64 (aH ((k+1:Nat):Int) 1)=(k:Int):=fJ (by omega)
  have hg:inb (k:Int) (len l)=true:=aS (by simp only[len]; omega)
  rw[aC (bS (by omega)),gQ (by omega),hb,aF hg,aF hg,kD (show k<l.length by omega)];unfold txE
  by_cases e:l[k].1=[]
  ·rw[aD (by rw[cF]; exact e)];refine bKF (fin _) ?_
   have hc:ieq l[k].2.2.2 l[k+1].2.2.2=txP (some l[k]) l[k+1]:=by
    unfold txP;rw[bJQ,oS,decide_eq_true_eq];exact⟨fun h=>⟨e,h⟩,fun h=>h.2⟩
   rw[hc]
  ·rw[aC (by rw[bO]; simpa using e)];refine bKF (fin _) ?_
   have hc:txP (some l[k]) l[k+1]=false:=by
    unfold txP;exact decide_eq_false fun h=>e h.1
   rw[hc]
theorem FH{p:Option Nd}{n:Nd}(h:rH p n=0):0≤dep n∧dep n≤15:=by
 unfold rH at h
 cases p with
 |none =>
  simp only at h
  split at h
  ·cases h
  ·rename_i k; simp at k; omega
 |some q =>
  simp only at h
  repeat' split at h
  all_goals (first|(cases h; done)|omega)
theorem uN{p:Option Nd}{n:Nd}(h:ndE p n=0):rH p n=0:=by
 unfold ndE at h
 by_cases e:rH p n=0
 ·exact e
 ·rw[if_pos e] at h;exact h
theorem aN5{l:List Nd}(hl:l.length≤4000000) (hs:∀n∈l,smN n):q61 fuelH l=some (tL l):=by
 unfold q61 tL
 by_cases h0:l.length=0
 ·rw[aD (cB (by simp only[len]; omega)),if_pos h0]
 rw[aC (bS (by simp only[len]; omega)),if_neg h0]
 by_cases h1:8192<l.length
 ·rw[aD (aP (by simp only[len]; omega)),if_pos h1]
 rw[aC (aQ (by simp only[len]; omega)),if_neg h1,bF]
 have h:=bT (s:=l) (fun (_:Unit) (j:Nat)=>(j:Int)) (fun _ r=>some (ckE (prv l (l.length-r.length)) r)) (fun j _=>∀q,prv l j=some q→0≤dep q∧dep q≤15)
  (F:=fun v2 (v3:Int) =>
    cnd (ilt v3 (len l))
     (grd (inb v3 (len l))
      (bnd (q56 fuelH (l,v3)) fun v4 =>
      cnd (ine v4 (0:Int))
       (some v4)
       (cnd (sne (aA l (toN v3) zN).1 ([]:Y_))
        (bnd (q59 fuelH (aA l (toN v3) zN)) fun v5 =>
        cnd (ine v5 (0:Int))
         (some v5)
         (v2 (w64 (aE v3 (1:Int)))))
        (bnd (q60 fuelH (l,v3)) fun v6 =>
        cnd (ine v6 (0:Int))
         (some v6)
         (v2 (w64 (aE v3 (1:Int))))))))
     (some (0:Int))) ?_ fuelH 0 () (bU hl _) (bKD _) (fun q hq=>by simp[prv] at hq)
 ·refine bKF h ?_;rw[bJS,bJ9];rfl
 ·intro self a j hj hI hself
  by_cases hjl:j<l.length
  ·have hw:w64 (aE (j:Int) 1)=((j+1:Nat):Int):=aO hjl (by omega)
   have hrl:l.length-(l.drop j).length=j:=by rw[bI7]; omega
   have hrl2:l.length-(l.drop (j+1)).length=j+1:=by rw[bI7]; omega
   have hsm:=hs _ (bJE hjl)
   have hgo:rH (prv l j) l[j]=0→self ((j+1:Nat):Int)=some (ckE (some l[j]) (l.drop (j+1))):=fun hd=>by
    refine bKF (hself () (j+1) (by omega) (by omega) (fun q hq=>?_)) ?_
    ·rw[gQ hjl] at hq;injection hq with hq;rw[←hq];exact FH hd
    ·rw[hrl2,gQ hjl]
   rw[hrl,bHK hjl];show cnd (ilt (j:Int) (len l)) _ _=some (if ndE (prv l j) l[j]≠0 then ndE (prv l j) l[j] else ckE (some l[j]) (l.drop (j+1)));rw[aD (aP (by simp only[len]; omega)),aF (aS (by simp only[len]; omega)),aN4 hl hjl hI,aB,kD hjl,aQ4 hsm,aQ5 hl hjl hsm,aB,aB,hw];unfold ndE
   by_cases e1:rH (prv l j) l[j]=0
   ·rw[aC (bW e1),if_neg (show ¬rH (prv l j) l[j]≠0 from fun k=>k e1)]
    by_cases e2:l[j].1=[]
    ·rw[aC (by unfold sne; simpa using e2),if_neg (show ¬l[j].1≠[] from fun k=>k e2)]
     by_cases e3:txE (prv l j) l[j]=0
     ·rw[aC (bW e3),if_neg (fun k=>k e3)];exact hgo e1
     ·rw[aD (bX e3),if_pos e3]
    ·rw[aD (by unfold sne; simpa using e2),if_pos e2]
     by_cases e3:elE l[j]=0
     ·rw[aC (bW e3),if_neg (fun k=>k e3)];exact hgo e1
     ·rw[aD (bX e3),if_pos e3]
   ·rw[aD (bX e1),if_pos e1,if_pos e1]
  ·obtain rfl:j=l.length:=by omega
   show cnd (ilt (l.length:Int) (len l)) _ _=_;rw[aC (aQ (by simp only[len]; omega)),bJD];rfl
end
end Go.Mo
end

section
set_option linter.all false
namespace Go.Mo
open Go Go.W Go.Lib
set_option maxRecDepth 100000
noncomputable section
open Classical
theorem aS2:∀(r:List Nd) (p:Option Nd),ckE p r=0→∀j (h:j<r.length),ndE (if j=0 then p else r[j-1]?) r[j]=0
 | [],_,_,j,h=>by simp at h
 |n::r,p,hc,j,h=>by
  have hc':(if ndE p n≠0 then ndE p n else ckE (some n) r)=0:=hc
  by_cases e:ndE p n=0
  ·rw[if_neg (fun k=>k e)] at hc'
   cases j with
   |zero=>exact e
   |succ j =>
    have:=aS2 r (some n) hc' j (by simpa using h)
    rw[if_neg (by omega)]
    cases j with
    |zero=>simpa using this
    |succ j=>simpa using this
  ·rw[if_pos e] at hc';exact absurd hc' e
theorem xI{l:List Nd}(h:tL l=0):0<l.length∧l.length≤8192∧∀j (h:j<l.length),ndE (prv l j) l[j]=0:=by
 unfold tL at h
 by_cases h0:l.length=0
 ·rw[if_pos h0] at h; cases h
 rw[if_neg h0] at h
 by_cases h1:8192<l.length
 ·rw[if_pos h1] at h; cases h
 rw[if_neg h1] at h;exact⟨by omega,by omega,fun j hj=>aS2 l none h j hj⟩
structure Deep (l:List Nd):Prop where
 root:∀h:0<l.length,dep l[0]=0
 low:∀i (h:i+1<l.length),1≤dep l[i+1]∧dep l[i+1]≤dep l[i]+1∧(dep l[i]<dep l[i+1]→l[i].1≠[])
 high:∀i (h:i<l.length),0≤dep l[i]∧dep l[i]≤15
theorem FI{l:List Nd}(h:∀j (h:j<l.length),ndE (prv l j) l[j]=0):Deep l:=by
 refine⟨fun h0=>?_,fun i hi=>?_,fun i hi=>FH (uN (h i hi))⟩
 ·have:=uN (h 0 h0)
  have:(if dep l[0]≠0 then(8:Int) else 0)=0:=this
  by_cases e:dep l[0]=0
  ·exact e
  ·rw[if_pos e] at this; cases this
 ·have:=uN (h (i+1) hi)
  rw[gQ (by omega)] at this
  have:(if dep l[i+1]<1 then(8:Int) else if(if l[i].1≠[] then dep l[i]+1 else dep l[i])<dep l[i+1] then 8 else if 15<dep l[i+1] then 9 else 0)=0:=this
  by_cases e1:dep l[i+1]<1
  ·rw[if_pos e1] at this; cases this
  rw[if_neg e1] at this
  by_cases e2:(if l[i].1≠[] then dep l[i]+1 else dep l[i])<dep l[i+1]
  ·rw[if_pos e2] at this; cases this
  by_cases e3:l[i].1=[]
  ·rw[if_neg (fun k=>k e3)] at e2;exact⟨by omega,by omega,fun k=>by omega⟩
  ·rw[if_pos e3] at e2;exact⟨by omega,by omega,fun _=>e3⟩
def par(l:List Nd) (i j:Nat):Prop:=i<j∧j<l.length∧(∀m,i<m→m≤j→dep (l.getD i ndz)<dep (l.getD m ndz))∧dep (l.getD j ndz)=dep (l.getD i ndz)+1
theorem gD{l:List Nd}{i:Nat}(h:i<l.length):l.getD i ndz=l[i]:=by simp[List.getD,h]
end
end Go.Mo
end

section
set_option linter.all false
namespace Go.Mo
open Go Go.W Go.Lib
set_option maxRecDepth 100000
noncomputable section
abbrev Ls:=Y_
abbrev Aq:=Y_×Y_
abbrev Tok:=Int×Y_×List Aq×Y_
theorem WX{s:Ls}(hs:s.length≤4000000){i:Nat}(hi:i≤s.length):eL fuelH (s,(i:Int))=some (cD (s.drop i),((i+(cD (s.drop i)).length:Nat):Int)):=by
 unfold eL;dsimp only
 by_cases hl:i<s.length
 ·have g:aA s (toN (i:Int)) (0:UInt8)=s[i]:=aU hl
  rw[aC (fZ (by simp only[len]; omega)),aF (aS (by simp only[len]; omega)),g,MU,aB,bHK hl,pQ]
  by_cases h:nV s[i]=true
  ·rw[h,aC (by rfl),if_pos rfl,bF];refine bKF (aNZ hs mN (fun x=>q58 fuelH x) (fun x=>aE8 fuelH x) _ hi) ?_
   have ht:=gP (P:=mN) (s.drop (i+1))
   rw[bI7] at ht;rw[bHK hl,bIL,if_pos (aFC h)]
   have hin:in3 (i:Int) ((i+(s[i]::(s.drop (i+1)).takeWhile mN).length:Nat):Int) (len s)=true:=JK (by simp only[len,bI3]; omega)
   rw[aF hin];simp only[bC,aW,toN,bI1];rw[bJT,show i+(s[i]::(s.drop (i+1)).takeWhile mN).length-i=(s[i]::(s.drop (i+1)).takeWhile mN).length by omega,bHK hl,bI3,bIH,oM]
  ·have h:nV s[i]=false:=by simpa using h
   rw[h,aD (by rfl),if_neg (by decide)];rfl
 ·obtain rfl:i=s.length:=by omega
  rw[aD (eA (by simp only[len]; omega)),bJD];rfl
theorem uO{s:Ls}(hs:s.length≤4000000){i:Nat}(hi:i≤s.length):q77 fuelH (s,(i:Int))=some ((i+((s.drop i).takeWhile wsB).length:Nat):Int):=by
 unfold q77;dsimp only;rw[bF];exact aNZ hs wsB (fun x=>q76 fuelH x) (fun x=>aNN fuelH x) _ hi
def skp(t:Ls):Ls:=t.drop (t.takeWhile wsB).length
theorem dH(t:Ls):(skp t).length≤t.length:=by unfold skp; rw[bI7]; omega
theorem WY{s:Ls}{i:Nat}:skp (s.drop i)=s.drop (i+((s.drop i).takeWhile wsB).length):=by unfold skp; rw[bJR]
def KR(q:UInt8) (t:Ls):Option (Ls×Ls):=match t.drop (t.takeWhile fun b=>b != q&&b != 60).length with
 | []=>none
 |c::r=>if c=q then some (t.takeWhile fun b=>b != q&&b != 60,r) else none
def eQ(t:Ls):Option (Aq×Ls) :=
 if cD t=[] then none else match skp (t.drop (cD t).length) with
 | []=>none
 |b::r2=>if b=61 then(match skp r2 with
  | []=>none
  |q::r4=>if q=34∨q=39 then(match KR q r4 with
   |some (v,r5)=>some ((cD t,v),r5)
   |none=>none) else none) else none
theorem gR(t:Ls):(cD t).length≤t.length:=by
 match t with
 | []=>exact bKC _
 |b::l =>
  rw[pQ]
  have:=gP (P:=mN) l
  split
  ·simp; omega
  ·simp
theorem JL{q:UInt8}{t v r:Ls}(h:KR q t=some (v,r)):r.length<t.length∧v.length+1+r.length=t.length:=by
 unfold KR at h
 have hl:=congrArg List.length (WT (fun b=>b != q&&b != 60) t)
 rw[bIM] at hl
 split at h
 ·cases h
 ·rename_i c r' hc
  split at h
  ·injection h with h;injection h with h1 h2;rw[hc,bI3] at hl;subst h1;subst h2;exact⟨by omega,by omega⟩
  ·cases h
theorem kL{t r:Ls}{a:Aq}(h:eQ t=some (a,r)):r.length<t.length:=by
 unfold eQ at h
 split at h
 ·cases h
 split at h
 ·cases h
 rename_i b r2 h2
 split at h
 ·split at h
  ·cases h
  rename_i q r4 h4
  split at h
  ·split at h
   ·rename_i v r5 h5;injection h with h;injection h with _ h;subst h
    have e1:=JL h5
    have e2:=dH r2
    have e3:=dH (t.drop (cD t).length)
    rw[h4,bI3] at e2;rw[h2,bI3,bI7] at e3;omega
   ·cases h
  ·cases h
 ·cases h
theorem FJ(t:Ls):∃u,u++skp t=t:=⟨_,bH0 _ t⟩
theorem aN6{q:UInt8}{t v r:Ls}(h:KR q t=some (v,r)):t=v++q::r:=by
 unfold KR at h
 have hl:=WT (fun b=>b != q&&b != 60) t
 split at h
 ·cases h
 ·rename_i c r' hc
  split at h
  ·rename_i e;injection h with h;injection h with h1 h2;rw[hc,h1,h2,e] at hl;exact hl.symm
  ·cases h
theorem MY{t r:Ls}{a:Aq}(h:eQ t=some (a,r)):∃u,u++r=t:=by
 unfold eQ at h
 split at h
 ·cases h
 split at h
 ·cases h
 rename_i b r2 h2
 split at h
 ·split at h
  ·cases h
  rename_i q r4 h4
  split at h
  ·split at h
   ·rename_i v r5 h5;injection h with h;injection h with _ h;subst h
    have e1:=aN6 h5
    obtain⟨u2,e2⟩:=FJ r2;obtain⟨u3,e3⟩:=FJ (t.drop (cD t).length);refine⟨t.take (cD t).length++(u3++(b::(u2++(q::(v++[q]))))),?_⟩
    conv=>rhs; rw[←bH0 (cD t).length t,←e3,h2,←e2,h4,e1]
    simp
   ·cases h
  ·cases h
 ·cases h
def aN7(s:Ls):Option (Aq×Ls)→Aq×Int×Bool
 |some (a,r)=>(a,((s.length-r.length:Nat):Int),true)
 |none=>((([]:Y_),([]:Y_)),(0:Int),false)
theorem JM(s:Ls) (a:Aq) (r:Ls):aN7 s (some (a,r))=(a,((s.length-r.length:Nat):Int),true):=rfl
theorem aN8{R:Type}{s:Ls}(hs:s.length≤4000000){k2:Nat}(h4:k2<s.length) (K:Int→Option R) :
  aY (fun (v6:Int→Option R) (v7:Int) =>
       cnd (ilt v7 (len s))
        (grd (inb v7 (len s))
         (grd (inb (k2:Int) (len s))
          (cnd (ine (n8 (aA s (toN v7) (0:UInt8))) (n8 s[k2]))
           (grd (inb v7 (len s))
            (cnd (ine (n8 (aA s (toN v7) (0:UInt8))) (n8 (60:UInt8)))
             (v6 (w64 (aE v7 (1:Int))))
             (K v7)))
           (K v7))))
        (K v7)) fuelH ((k2+1:Nat):Int)=K ((k2+1+((s.drop (k2+1)).takeWhile fun b=>b != s[k2]&&b != 60).length:Nat):Int):=by
 have hin2:inb (k2:Int) (len s)=true:=aS (by simp only[len]; omega)
 refine aNO (s:=s) (fun b=>b != s[k2]&&b != 60) K (fun self k hk=>?_) (fun self=>?_) fuelH (k2+1) (bU hs _) (by omega)
 ·have hink:inb (k:Int) (len s)=true:=aS (by simp only[len]; omega)
  rw[aD (aP (by simp only[len]; omega)),aF hink,aF hin2,aU hk,aO hk (by omega),aF hink]
  by_cases e1:s[k]=s[k2]
  ·rw[aC (bW (by rw[e1])),if_neg (by simp[e1])]
  ·rw[aD (bX (fun q=>e1 (cH q)))]
   by_cases e2:s[k]=60
   ·rw[aC (bW (by rw[e2])),if_neg (by simp[e2])]
   ·rw[aD (bX (fun q=>e2 (cH q))),if_pos (by simp[e1,e2])]
 ·rw[aC (aQ (by simp only[len]; omega))]
theorem G5{s:Ls}(hs:s.length≤3999999){i:Nat}(hi:i≤s.length):q78 fuelH (s,(i:Int))=some (aN7 s (eQ (s.drop i))):=by
 have hs4:s.length≤4000000:=by omega
 unfold q78 eQ;dsimp only;rw[WX hs4 hi,aB]
 have hnl:=gR (s.drop i)
 rw[bI7] at hnl
 by_cases h1:cD (s.drop i)=[]
 ·rw[aD (by rw[cF]; exact h1),if_pos h1];rfl
 rw[aC (by rw[bO]; simpa using h1),if_neg h1];dsimp only;rw[uO hs4 (show i+(cD (s.drop i)).length≤s.length by omega),aB,bJR,WY]
 have ht1:=gP (P:=wsB) (s.drop (i+(cD (s.drop i)).length))
 rw[bI7] at ht1;generalize hk1:i+(cD (s.drop i)).length+((s.drop (i+(cD (s.drop i)).length)).takeWhile wsB).length=k1 at *
 have hk1l:k1≤s.length:=by omega
 by_cases h2:k1<s.length
 ·have g:aA s (toN (k1:Int)) (0:UInt8)=s[k1]:=aU h2
  rw[aC (fZ (by simp only[len]; omega)),aF (aS (by simp only[len]; omega)),g,bHK h2];dsimp only
  by_cases h3:s[k1]=61
  ·rw[aC (bW (by rw[h3])),if_pos h3,aO h2 (by omega),uO hs4 (show k1+1≤s.length by omega),aB,bF,WY]
   have ht2:=gP (P:=wsB) (s.drop (k1+1))
   rw[bI7] at ht2;generalize hk2:k1+1+((s.drop (k1+1)).takeWhile wsB).length=k2 at *
   by_cases h4:k2<s.length
   ·have g2:aA s (toN (k2:Int)) (0:UInt8)=s[k2]:=aU h4
    have hin2:inb (k2:Int) (len s)=true:=aS (by simp only[len]; omega)
    rw[aC (fZ (by simp only[len]; omega)),aF hin2,bHK h4];dsimp only;rw[bF,aO h4 (by omega)];simp only[g2]
    -- the value
    have hv:(aY (fun v6 (v7:Int) =>
       cnd (ilt v7 (len s))
        (grd (inb v7 (len s))
         (grd (inb (k2:Int) (len s))
          (cnd (ine (n8 (aA s (toN v7) (0:UInt8))) (n8 s[k2]))
           (grd (inb v7 (len s))
            (cnd (ine (n8 (aA s (toN v7) (0:UInt8))) (n8 (60:UInt8)))
             (v6 (w64 (aE v7 (1:Int))))
             ((fun (v4:Int) =>
       cnd (ile (len s) v4)
        (some ((([]:Y_),([]:Y_)),(0:Int),false))
        (grd (inb v4 (len s))
         (grd (inb (k2:Int) (len s))
          (cnd (ine (n8 (aA s (toN v4) (0:UInt8))) (n8 s[k2]))
           (some ((([]:Y_),([]:Y_)),(0:Int),false))
           (grd (in3 ((k2+1:Nat):Int) v4 (len s))
            (some ((cD (s.drop i),bC (toN ((k2+1:Nat):Int)) (aW (toN v4) s)),w64 (aE v4 (1:Int)),true))))))) v7)))
           ((fun (v4:Int) =>
       cnd (ile (len s) v4)
        (some ((([]:Y_),([]:Y_)),(0:Int),false))
        (grd (inb v4 (len s))
         (grd (inb (k2:Int) (len s))
          (cnd (ine (n8 (aA s (toN v4) (0:UInt8))) (n8 s[k2]))
           (some ((([]:Y_),([]:Y_)),(0:Int),false))
           (grd (in3 ((k2+1:Nat):Int) v4 (len s))
            (some ((cD (s.drop i),bC (toN ((k2+1:Nat):Int)) (aW (toN v4) s)),w64 (aE v4 (1:Int)),true))))))) v7))))
        ((fun (v4:Int) =>
       cnd (ile (len s) v4)
        (some ((([]:Y_),([]:Y_)),(0:Int),false))
        (grd (inb v4 (len s))
         (grd (inb (k2:Int) (len s))
          (cnd (ine (n8 (aA s (toN v4) (0:UInt8))) (n8 s[k2]))
           (some ((([]:Y_),([]:Y_)),(0:Int),false))
           (grd (in3 ((k2+1:Nat):Int) v4 (len s))
            (some ((cD (s.drop i),bC (toN ((k2+1:Nat):Int)) (aW (toN v4) s)),w64 (aE v4 (1:Int)),true))))))) v7)) fuelH ((k2+1:Nat):Int))=some (aN7 s (match KR s[k2] (s.drop (k2+1)) with
   |some (v,r5)=>some ((cD (s.drop i),v),r5)
   |none=>none)):=by
     refine bKF (aN8 hs4 h4 _) ?_
     have htl:=gP (P:=fun b=>b != s[k2]&&b != 60) (s.drop (k2+1))
     rw[bI7] at htl;unfold KR
     have hd:(s.drop (k2+1)).drop ((s.drop (k2+1)).takeWhile fun b=>b != s[k2]&&b != 60).length=s.drop (k2+1+((s.drop (k2+1)).takeWhile fun b=>b != s[k2]&&b != 60).length):=bJR
     have htk:=oM (fun b=>b != s[k2]&&b != 60) (s.drop (k2+1))
     rw[hd];generalize (s.drop (k2+1)).takeWhile (fun b=>b != s[k2]&&b != 60)=v at *
     by_cases h5:k2+1+v.length<s.length
     ·rw[aC (fZ (by simp only[len]; omega)),aF (aS (by simp only[len]; omega)),aF hin2,aU h5,bHK h5];dsimp only
      by_cases e:s[k2+1+v.length]=s[k2]
      ·rw[aC (bW (by rw[e])),aF (JK (by simp only[len]; omega)),if_pos e,aO h5 (by omega)]
       have e1:bC (toN ((k2+1:Nat):Int)) (aW (toN ((k2+1+v.length:Nat):Int)) s)=v:=by
        simp only[bC,aW,toN,bI1];rw[bJT,show k2+1+v.length-(k2+1)=v.length by omega,htk]
       dsimp only;rw[e1,JM,bI7]
       have e2:s.length-(s.length-(k2+1+v.length+1))=k2+1+v.length+1:=by omega
       rw[e2]
      ·rw[aD (bX (fun q=>e (cH q))),if_neg e];rfl
     ·have e:k2+1+v.length=s.length:=by omega
      rw[aD (eA (by simp only[len]; omega)),e,bJD];rfl
    by_cases q1:s[k2]=34
    ·rw[aC (bW (by rw[q1])),if_pos (Or.inl q1)];exact hv
    ·rw[aD (bX (fun q=>q1 (cH q))),aF hin2]
     by_cases q2:s[k2]=39
     ·rw[aC (bW (by rw[q2])),if_pos (Or.inr q2)];exact hv
     ·rw[aD (bX (fun q=>q2 (cH q))),if_neg (by simp[q1,q2])];rfl
   ·have e:k2=s.length:=by omega
    rw[aD (eA (by simp only[len]; omega)),e,bJD];rfl
  ·rw[aD (bX (fun q=>h3 (cH q))),if_neg h3];rfl
 ·have e:k1=s.length:=by omega
  rw[aD (eA (by simp only[len]; omega)),e,bJD];rfl
def tM:Nat→Ls→List Aq→Option (Int×List Aq×Ls)
 | 0,_,_=>none
 |n+1,t,l=>match skp t with
  | []=>none
  |b::r=>if b=62 then some (1,l,r) else if b=47∧r.take 1=[62] then some (3,l,r.drop 1) else if(b::r).length=t.length then none else match eQ (b::r) with
   |none=>none
   |some (a,r2)=>tM n r2 (l++[a])
theorem MZ:∀(n m:Nat) (t:Ls) (l:List Aq),t.length<n→t.length<m→tM n t l=tM m t l
 | 0,_,_,_,h,_=>by omega
 |_+1,0,_,_,_,h=>by omega
 |n+1,m+1,t,l,h1,h2=>by
  have hk:=dH t
  unfold tM;generalize skp t=u at *
  match u with
  | []=>rfl
  |b::r =>
   dsimp only
   split
   ·rfl
   split
   ·rfl
   split
   ·rfl
   cases ha:eQ (b::r) with
   |none=>rfl
   |some p =>
    obtain⟨a,r2⟩:=p
    have:=kL ha
    exact MZ n m r2 (l++[a]) (by omega) (by omega)
def G6(t:Ls) (l:List Aq):Option (Int×List Aq×Ls):=tM (t.length+1) t l
theorem NA(t:Ls) (l:List Aq):G6 t l=match skp t with
  | []=>none
  |b::r=>if b=62 then some (1,l,r) else if b=47∧r.take 1=[62] then some (3,l,r.drop 1) else if(b::r).length=t.length then none else match eQ (b::r) with
   |none=>none
   |some (a,r2)=>G6 r2 (l++[a]):=by
 have hk:=dH t
 show tM (t.length+1) t l=_;unfold tM;generalize skp t=u at *
 match u with
 | []=>rfl
 |b::r =>
  dsimp only
  split
  ·rfl
  split
  ·rfl
  split
  ·rfl
  cases ha:eQ (b::r) with
  |none=>rfl
  |some p =>
   obtain⟨a,r2⟩:=p
   have:=kL ha
   exact MZ _ _ r2 (l++[a]) (by omega) (by omega)
theorem pR:∀(n:Nat) (t:Ls) (l:List Aq){k:Int}{m:List Aq}{r:Ls},tM n t l=some (k,m,r)→r.length<t.length∧m.length≤l.length+t.length∧(k=1∨k=3)
 | 0,_,_,_,_,_,h=>by cases h
 |n+1,t,l,k,m,r,h=>by
  have hk:=dH t
  unfold tM at h;generalize skp t=u at *
  match u with
  | []=>cases h
  |b::q =>
   dsimp only at h;rw[bI3] at hk
   split at h
   ·injection h with h;injection h with h1 h;injection h with h2 h3;subst h1 h2 h3;exact⟨by omega,by omega,.inl rfl⟩
   split at h
   ·injection h with h;injection h with h1 h;injection h with h2 h3;subst h1 h2 h3;exact⟨by rw[bI7]; omega,by omega,.inr rfl⟩
   split at h
   ·cases h
   cases ha:eQ (b::q) with
   |none=>rw[ha] at h; cases h
   |some p =>
    obtain⟨a,r2⟩:=p;rw[ha] at h
    have h1:=kL ha
    have h2:=pR n r2 (l++[a]) h
    rw[bIM,bI3,bJL] at h2;rw[bI3] at h1;exact⟨by omega,by omega,h2.2.2⟩
def aQ6(s name:Ls):Option (Int×List Aq×Ls)→Tok×Int×Bool
 |some (k,l,r)=>((k,name,l,[]),((s.length-r.length:Nat):Int),true)
 |none=>(((0:Int),([]:Y_),([]:List Aq),([]:Y_)),(0:Int),false)
theorem NB(s name:Ls) (k:Int) (l:List Aq) (r:Ls):aQ6 s name (some (k,l,r))=((k,name,l,[]),((s.length-r.length:Nat):Int),true):=rfl
theorem aN9{s:Ls}(hs:s.length≤3999999) (name:Ls){i:Nat}(hi:i≤s.length) :
  aY (fun v1 (v2:Int×Int×Y_×(List (Y_×Y_))×Y_) =>
   bnd (q77 fuelH (s,v2.1)) fun v3 =>
   jn (fun (v4:Bool) =>
    cnd v4
     (some (v2.2,w64 (aE v3 (1:Int)),true))
     (jn (fun (v5:Bool) =>
      cnd v5
       (some (((3:Int),v2.2.2),w64 (aE v3 (2:Int)),true))
       (cnd (ieq v3 v2.1)
        (some (((0:Int),([]:Y_),([]:List (Y_×Y_)),([]:Y_)),(0:Int),false))
        (bnd (q78 fuelH (s,v3)) fun v6 =>
        cnd (bA v6.2.2)
         (some (((0:Int),([]:Y_),([]:List (Y_×Y_)),([]:Y_)),(0:Int),false))
         (grd (cL (aE (len v2.2.2.2.1) (len ([v6.1]:List (Y_×Y_)))) 32)
          (v1 (v6.2.1,v2.2.1,v2.2.2.1,bL v2.2.2.2.1 ([v6.1]:List (Y_×Y_)),v2.2.2.2.2))))))
     fun v7 =>
     cnd (ilt (w64 (aE v3 (1:Int))) (len s))
      (grd (inb v3 (len s))
       (cnd (ieq (n8 (aA s (toN v3) (0:UInt8))) (n8 (47:UInt8)))
        (grd (inb (w64 (aE v3 (1:Int))) (len s))
         (v7 (ieq (n8 (aA s (toN (w64 (aE v3 (1:Int)))) (0:UInt8))) (n8 (62:UInt8)))))
        (v7 false)))
      (v7 false)))
   fun v8 =>
   cnd (ilt v3 (len s))
    (grd (inb v3 (len s))
     (v8 (ieq (n8 (aA s (toN v3) (0:UInt8))) (n8 (62:UInt8)))))
    (v8 false)) fuelH ((i:Int),(1:Int),name,([]:List (Y_×Y_)),([]:Y_))=some (aQ6 s name (G6 (s.drop i) [])):=by
 have hs4:s.length≤4000000:=by omega
 refine bT (s:=s) (fun (l:List Aq) (i:Nat)=>((i:Int),((1:Int),(name,(l,([]:Y_)))))) (fun l r=>some (aQ6 s name (G6 r l))) (fun i l=>l.length≤i) ?_ fuelH i [] (bU hs4 _) hi (bKD _);intro self l i hi hI hself;dsimp only
 have hsk:=WY (s:=s) (i:=i)
 rw[uO hs4 hi,aB,bF,NA]
 have htl:=gP (P:=wsB) (s.drop i)
 rw[bI7] at htl;rw[hsk];generalize hk:i+((s.drop i).takeWhile wsB).length=k at *
 by_cases hkl:k<s.length
 ·have g:aA s (toN (k:Int)) (0:UInt8)=s[k]:=aU hkl
  have hin:inb (k:Int) (len s)=true:=aS (by simp only[len]; omega)
  have hw:w64 (aE (k:Int) 1)=((k+1:Nat):Int):=aO hkl (by omega)
  rw[aD (aP (by simp only[len]; omega)),aF hin,g,bHK hkl,hw];dsimp only
  have hrl:(s[k]::s.drop (k+1)).length=s.length-k:=by rw[bI3,bI7]; omega
  by_cases h62:s[k]=62
  ·rw[aD (cB (by rw[h62])),if_pos h62];rw[NB,bI7,show s.length-(s.length-(k+1))=k+1 by omega]
  ·rw[aC (bS (fun q=>h62 (cH q))),if_neg h62,bF]
   -- an attribute
   have fin:∀b:Bool,b=false→¬(s[k]=47∧(s.drop (k+1)).take 1=[62])→(cnd b
       (some (((3:Int),name,l,([]:Y_)),w64 (aE (k:Int) (2:Int)),true))
       (cnd (ieq (k:Int) (i:Int))
        (some (((0:Int),([]:Y_),([]:List (Y_×Y_)),([]:Y_)),(0:Int),false))
        (bnd (q78 fuelH (s,(k:Int))) fun v6 =>
        cnd (bA v6.2.2)
         (some (((0:Int),([]:Y_),([]:List (Y_×Y_)),([]:Y_)),(0:Int),false))
         (grd (cL (aE (len l) (len ([v6.1]:List (Y_×Y_)))) 32)
          (self (v6.2.1,(1:Int),name,bL l ([v6.1]:List (Y_×Y_)),([]:Y_))))))) =
     some (aQ6 s name (if s[k]=47∧(s.drop (k+1)).take 1=[62] then some (3,l,(s.drop (k+1)).drop 1) else if(s[k]::s.drop (k+1)).length=(s.drop i).length then none else match eQ (s[k]::s.drop (k+1)) with
      |none=>none
      |some (a,r2)=>G6 r2 (l++[a]))):=by
    intro b hb hno;subst hb;rw[aC (by rfl),if_neg hno,hrl,bI7]
    by_cases hki:k=i
    ·rw[aD (cB (by omega)),if_pos (by omega)];rfl
    ·rw[aC (bS (by omega)),if_neg (by omega),G5 hs (by omega),aB,←bHK hkl]
     cases ha:eQ (s.drop k) with
     |none=>rfl
     |some p =>
      obtain⟨a,r2⟩:=p
      have hal:=kL ha
      rw[bI7] at hal;rw[JM,aC (by rfl),aF (cU (by simp only[len,aE,bI3,bJL]; omega))];dsimp only
      have hsuf:r2=s.drop (s.length-r2.length):=by
       have h1:=MY ha
       obtain⟨u,hu⟩:=h1;obtain⟨v,hv⟩:∃v,s=v++r2:=⟨s.take k++u,by rw[bIW,hu,bH0]⟩
       conv=>rhs; rw[hv]
       rw[bIM,show v.length+r2.length-r2.length=v.length by omega,List.drop_left]
      have hz:=hself (l++[a]) (s.length-r2.length) (by omega) (by omega) (by simp; omega)
      rw[←hsuf] at hz;exact hz
   have hd1:(s.drop (k+1)).take 1=if h:k+1<s.length then [s[k+1]] else []:=by
    by_cases h:k+1<s.length
    ·rw[dif_pos h,bHK h];rfl
    ·rw[dif_neg h,bHT (by omega)];rfl
   by_cases h1:k+1<s.length
   ·have g1:aA s (toN ((k+1:Nat):Int)) (0:UInt8)=s[k+1]:=aU h1
    rw[dif_pos h1] at hd1;rw[aD (aP (by simp only[len]; omega)),aF hin]
    by_cases h47:s[k]=47
    ·rw[aD (cB (by rw[h47])),aF (aS (by simp only[len]; omega)),g1]
     by_cases h2:s[k+1]=62
     ·have hw2:w64 (aE (k:Int) 2)=((k+2:Nat):Int):=by
       simp only[aE];rw[bG (by omega)];omega
      have e62:ieq (n8 s[k+1]) (n8 62)=true:=cB (by rw[h2])
      rw[e62];dsimp only;rw[aD (by rfl),if_pos ⟨h47,by rw[hd1,h2]⟩,hw2];rw[NB,bJR,bI7,show s.length-(s.length-(k+1+1))=k+2 by omega]
     ·refine fin (ieq (n8 s[k+1]) (n8 62)) (bS (fun q=>h2 (cH q))) (fun q=>h2 ?_)
      have:=q.2
      rw[hd1] at this;injection this
    ·rw[aC (bS (fun q=>h47 (cH q)))];exact fin false rfl (fun q=>h47 q.1)
   ·rw[aC (aQ (by simp only[len]; omega))];refine fin false rfl (fun q=>?_)
    have:=q.2
    rw[hd1,dif_neg h1] at this;cases this
 ·have e:k=s.length:=by omega
  rw[aC (aQ (by simp only[len]; omega))];dsimp only;rw[aC (by rfl),bF]
  have hw:¬(w64 (aE (k:Int) 1)<len s):=by
   simp only[aE,len];rw[bG (by omega)];omega
  rw[aC (aQ hw)];dsimp only;rw[aC (by rfl),e,bJD]
  by_cases hki:k=i
  ·rw[aD (cB (by omega))];rfl
  ·have ha:=G5 hs (bKC s.length)
   rw[bJD] at ha;rw[aC (bS (by omega)),ha];rfl
def not60(b:UInt8):Bool:=b != 60
def jA(s head tail:Ls):Option (Tok×Ls):=if Lib.index (s.drop head.length) tail<0 then none else some ((4,[],[],head),s.drop (head.length+(Lib.index (s.drop head.length) tail).toNat+tail.length))
def JN(s:Ls):Option (Tok×Ls):=if cD (s.drop 2)=[] then none else match skp ((s.drop 2).drop (cD (s.drop 2)).length) with
 | []=>none
 |b::r=>if b=62 then some ((2,cD (s.drop 2),[],[]),r) else none
def zQ(s:Ls):Option (Tok×Ls):=if cD (s.drop 1)=[] then none else match G6 ((s.drop 1).drop (cD (s.drop 1)).length) [] with
 |none=>none
 |some (k,l,r)=>some ((k,cD (s.drop 1),l,[]),r)
def jU(s:Ls):Option (Tok×Ls):=match s with
 | []=>none
 |b::_=>if b=60 then(if s.take 2=[60,63] then jA s [60,63] [63,62] else if s.take 4=[60,33,45,45] then jA s [60,33,45,45] [45,45,62] else if s.take 2=[60,47] then JN s else zQ s)
  else some ((0,[],[],s.takeWhile not60),s.drop (s.takeWhile not60).length)
theorem gS(b:UInt8) (t:Ls):jU (b::t)=if b=60 then(if(b::t).take 2=[60,63] then jA (b::t) [60,63] [63,62] else if(b::t).take 4=[60,33,45,45] then jA (b::t) [60,33,45,45] [45,45,62] else if(b::t).take 2=[60,47] then JN (b::t) else zQ (b::t))
  else some ((0,[],[],(b::t).takeWhile not60),(b::t).drop ((b::t).takeWhile not60).length):=rfl
def aOA(s:Ls):Option (Tok×Ls)→Prop
 |some (t,r)=>eM fuelH s=some (t,((s.length-r.length:Nat):Int),true)
 |none=>∃t n,eM fuelH s=some (t,n,false)
theorem aQ7{s:Ls}(hs:s.length≤3999999) (h1:1≤s.length):(∀t r,zQ s=some (t,r)→q79 fuelH s=some (t,((s.length-r.length:Nat):Int),true))∧(zQ s=none→q79 fuelH s=some ((0,[],[],[]),0,false)):=by
 have hw:=WX (s:=s) (by omega) h1
 have hnl:=gR (s.drop 1)
 rw[bI7] at hnl;unfold q79 zQ
 have hw':eL fuelH (s,(1:Int))=some (cD (s.drop 1),((1+(cD (s.drop 1)).length:Nat):Int)):=hw
 rw[hw',aB]
 by_cases h:cD (s.drop 1)=[]
 ·rw[aD (by rw[cF]; exact h),if_pos h];exact⟨fun _ _ k=>(by cases k),fun _=>rfl⟩
 ·rw[aC (by rw[bO]; simpa using h),if_neg h]
  have ht:=aN9 hs (cD (s.drop 1)) (i:=1+(cD (s.drop 1)).length) (by omega)
  rw[ht,bJR]
  cases hq:G6 (s.drop (1+(cD (s.drop 1)).length)) [] with
  |none=>exact⟨fun _ _ k=>(by cases k),fun _=>rfl⟩
  |some p =>
   obtain⟨k,l,r⟩:=p;refine⟨fun t r' e=>?_,fun e=>(by cases e)⟩;dsimp only at e;injection e with e;injection e with e1 e2;subst e1;subst e2;rfl
theorem ixb(c:UInt8) (s:Ls):Lib.indexByte s c=if(s.takeWhile fun b=>b != c).length=s.length then -1 else((s.takeWhile fun b=>b != c).length:Int):=by
 induction s with
 |nil=>rfl
 |cons b s ih =>
  have ht:=gP (P:=fun b=>b != c) s
  unfold Lib.indexByte;rw[bIL]
  by_cases h:b=c
  ·subst h;simp
  ·have hb:(b==c)=false:=by simpa using h
   have hn:(b != c)=true:=by simpa using h
   rw[hb,if_neg (by decide),if_pos hn,ih]
   by_cases e:(s.takeWhile fun b=>b != c).length=s.length
   ·rw[if_pos e,if_pos (by decide),if_pos (by rw[bI3,bI3,e])]
   ·rw[if_neg e,if_neg (by simp),if_neg (by rw[bI3,bI3]; omega),bI3];omega
theorem aZ0{s:Ls}(hs:s.length≤4000000) (sub:Ls):strings_Index fuelH (s,sub)=some (Lib.index s sub):=by
 unfold strings_Index iP;rw[aF (decide_eq_true (by show s.length<_; omega))]
theorem bGQ(N:Nat) (x:Ls):eM (N+5) x=grd (inb (0:Int) (len x)) (cnd (ine (n8 (aA x (toN (0:Int)) (0:UInt8))) (n8 (60:UInt8)))
  (bnd (q73 (N+5) (x,(60:UInt8))) fun v0 =>
  cnd (ilt v0 (0:Int))
   (grd (in2 (len x) (len x))
    (some (((0:Int),([]:Y_),([]:List (Y_×Y_)),aW (toN (len x)) x),len x,true)))
   (grd (in2 v0 (len x))
    (some (((0:Int),([]:Y_),([]:List (Y_×Y_)),aW (toN v0) x),v0,true))))
  (jn (fun (v1:Unit) =>
   bnd (q75 (N+5) (x,([60,47]:Y_))) fun v2 =>
   cnd v2
    (bnd (eL (N+5) (x,(2:Int))) fun v3 =>
    bnd (q77 (N+5) (x,v3.2)) fun v4 =>
    cnd (seq v3.1 ([]:Y_))
     (some (((0:Int),([]:Y_),([]:List (Y_×Y_)),([]:Y_)),(0:Int),false))
     (cnd (ile (len x) v4)
      (some (((0:Int),([]:Y_),([]:List (Y_×Y_)),([]:Y_)),(0:Int),false))
      (grd (inb v4 (len x))
       (cnd (ine (n8 (aA x (toN v4) (0:UInt8))) (n8 (62:UInt8)))
        (some (((0:Int),([]:Y_),([]:List (Y_×Y_)),([]:Y_)),(0:Int),false))
        (some (((2:Int),v3.1,([]:List (Y_×Y_)),([]:Y_)),w64 (aE v4 (1:Int)),true))))))
    (bnd (q79 (N+5) x) fun v5 =>
    some v5))
  fun v6=>bnd (q75 (N+5) (x,([60,63]:Y_))) fun b=>cnd b
   (grd (in2 (2:Int) (len x)) (bnd (strings_Index (N+5) (bC (toN (2:Int)) x,([63,62]:Y_))) fun v10=>some (((4:Int),([]:Y_),([]:List (Y_×Y_)),([60,63]:Y_)),w64 (aE (w64 (aE (2:Int) v10)) (2:Int)),ile (0:Int) v10)))
   (bnd (q75 (N+5) (x,([60,33,45,45]:Y_))) fun b=>cnd b
    (grd (in2 (4:Int) (len x)) (bnd (strings_Index (N+5) (bC (toN (4:Int)) x,([45,45,62]:Y_))) fun v10=>some (((4:Int),([]:Y_),([]:List (Y_×Y_)),([60,33,45,45]:Y_)),w64 (aE (w64 (aE (4:Int) v10)) (3:Int)),ile (0:Int) v10)))
    (v6 ())))):=by kernel_rfl
theorem aFD{s head tail:Ls}(hs:s.length≤3999999) (hp:s.take head.length=head) (hh:head.length≤4) (ht:tail.length≤3) (ht1:1≤tail.length)
  (he:eM fuelH s=grd (in2 (head.length:Int) (len s)) (bnd (strings_Index fuelH (bC (toN (head.length:Int)) s,tail)) fun v10=>some (((4:Int),([]:Y_),([]:List Aq),head),w64 (aE (w64 (aE (head.length:Int) v10)) (tail.length:Int)),ile (0:Int) v10))):aOA s (jA s head tail):=by
 have hl:head.length≤s.length:=by
  have:=congrArg List.length hp
  rw[bI6] at this;omega
 have hd:bC (toN (head.length:Int)) s=s.drop head.length:=by simp[bC,toN]
 have hr:=Lib.index_room (s.drop head.length) tail
 have hg:=Lib.index_ge (s.drop head.length) tail
 rw[aF (dG (by simp only[len]; omega)),hd,aZ0 (by rw[bI7]; omega),aB] at he;unfold jA
 by_cases h:Lib.index (s.drop head.length) tail<0
 ·rw[if_pos h];exact⟨_,_,by rw[he,fZ (by omega)]⟩
 ·rw[if_neg h];show eM fuelH s=_;obtain⟨n,hn⟩:∃n:Nat,Lib.index (s.drop head.length) tail=(n:Int):=⟨(Lib.index (s.drop head.length) tail).toNat,by omega⟩;rw[bI7] at hr;rw[he,hn,eA (by omega),bI1,bI7]
  have e1:w64 (aE (w64 (aE (head.length:Int) (n:Int))) (tail.length:Int))=((head.length+n+tail.length:Nat):Int):=by
   simp only[aE];rw[bG (x:=(head.length:Int)+(n:Int)) (by omega),bG (by omega)];omega
  rw[e1]
  have:s.length-(s.length-(head.length+n+tail.length))=head.length+n+tail.length:=by omega
  rw[this]
theorem aQ8{s:Ls}(hs:s.length≤3999999) (h0:s≠[]):aOA s (jU s):=by
 have hN:eM fuelH s=_:=bGQ (lZ+4995) s
 match s,h0 with
 |b::t,_ =>
  have hin:inb (0:Int) (len (b::t))=true:=aS (by simp only[len,bI3]; omega)
  have hg:aA (b::t) (toN (0:Int)) (0:UInt8)=b:=rfl
  rw[aF hin,hg] at hN;rw[gS]
  by_cases hb:b=60
  ·rw[if_pos hb];rw[aC (bW (by rw[hb])),bF] at hN
   have h1:q75 (lZ+4995+5) (b::t,([60,63]:Y_))=some (decide ((b::t).take 2=[60,63])):=MV _ _ _
   have h2:q75 (lZ+4995+5) (b::t,([60,33,45,45]:Y_))=some (decide ((b::t).take 4=[60,33,45,45])):=MV _ _ _
   have h3:q75 (lZ+4995+5) (b::t,([60,47]:Y_))=some (decide ((b::t).take 2=[60,47])):=MV _ _ _
   rw[h1,aB] at hN
   by_cases c1:(b::t).take 2=[60,63]
   ·rw[if_pos c1];rw[aD (decide_eq_true c1)] at hN;exact aFD hs c1 (by decide) (by decide) (by decide) hN
   rw[if_neg c1];rw[aC (decide_eq_false c1),h2,aB] at hN
   by_cases c2:(b::t).take 4=[60,33,45,45]
   ·rw[if_pos c2];rw[aD (decide_eq_true c2)] at hN;exact aFD hs c2 (by decide) (by decide) (by decide) hN
   rw[if_neg c2];rw[aC (decide_eq_false c2),h3,aB] at hN
   by_cases c3:(b::t).take 2=[60,47]
   ·rw[if_pos c3];rw[aD (decide_eq_true c3)] at hN
    have hl2:2≤(b::t).length:=by have:=congrArg List.length c3; rw[bI6] at this; simp at this ⊢; omega
    generalize b::t=s at *
    have hw:eL (lZ+4995+5) (s,(2:Int))=some (cD (s.drop 2),((2+(cD (s.drop 2)).length:Nat):Int)):=WX (s:=s) (by omega) hl2
    have hnl:=gR (s.drop 2)
    rw[bI7] at hnl
    have hbl:q77 (lZ+4995+5) (s,((2+(cD (s.drop 2)).length:Nat):Int))=_:=uO (s:=s) (by omega) (show 2+(cD (s.drop 2)).length≤s.length by omega)
    have htl:=gP (P:=wsB) (s.drop (2+(cD (s.drop 2)).length))
    rw[bI7] at htl;rw[hw,aB] at hN;dsimp only at hN;rw[hbl,aB] at hN;unfold JN
    by_cases hn:cD (s.drop 2)=[]
    ·rw[if_pos hn];rw[aD (by rw[cF]; exact hn)] at hN;exact⟨_,_,hN⟩
    rw[if_neg hn,bJR,WY];rw[aC (by rw[bO]; simpa using hn)] at hN;generalize hk:2+(cD (s.drop 2)).length+((s.drop (2+(cD (s.drop 2)).length)).takeWhile wsB).length=k at *
    by_cases hkl:k<s.length
    ·have g:aA s (toN (k:Int)) (0:UInt8)=s[k]:=aU hkl
     rw[aC (fZ (by simp only[len]; omega)),aF (aS (by simp only[len]; omega)),g] at hN;rw[bHK hkl];dsimp only
     by_cases h62:s[k]=62
     ·rw[if_pos h62];rw[aC (bW (by rw[h62])),aO hkl (by omega)] at hN;show eM fuelH s=_;rw[hN,bI7]
      have:s.length-(s.length-(k+1))=k+1:=by omega
      rw[this]
     ·rw[if_neg h62];rw[aD (bX (fun q=>h62 (cH q)))] at hN;exact⟨_,_,hN⟩
    ·have e:k=s.length:=by omega
     rw[aD (eA (by simp only[len]; omega))] at hN;rw[e,bJD];exact⟨_,_,hN⟩
   rw[if_neg c3];rw[aC (decide_eq_false c3)] at hN
   have hbt:=aQ7 hs (by simp)
   cases hq:zQ (b::t) with
   |none =>
    have:=hbt.2 hq
    refine⟨(0,[],[],[]),0,bKF hN ?_⟩;show bnd (q79 fuelH (b::t)) _=_;rw[this];rfl
   |some p =>
    obtain⟨tk,r⟩:=p
    have:=hbt.1 _ _ hq
    refine bKF hN ?_;show bnd (q79 fuelH (b::t)) _=_;rw[this];rfl
  ·rw[if_neg hb];rw[aD (bX (fun q=>hb (cH q)))] at hN;generalize b::t=s at *
   have hi:q73 (lZ+4995+5) (s,(60:UInt8))=some (Lib.indexByte s 60):=rfl
   have htl:=gP (P:=not60) s
   have htk:=oM not60 s
   have hx:Lib.indexByte s 60=if(s.takeWhile not60).length=s.length then -1 else((s.takeWhile not60).length:Int):=ixb 60 s
   rw[hi,aB,hx] at hN;show eM fuelH s=_;rw[bI7]
   by_cases e:(s.takeWhile not60).length=s.length
   ·rw[if_pos e,aD (by rfl),aF (dG (by simp only[len]; omega))] at hN;rw[hN]
    have e1:aW (toN (len s)) s=s.takeWhile not60:=by
     simp only[aW,toN,len,bI1];rw[←e,htk]
    have e2:len s=((s.length-(s.length-(s.takeWhile not60).length):Nat):Int):=by simp only[len]; omega
    rw[e1,←e2]
   ·rw[if_neg e,aC (aQ (by omega)),aF (dG (by simp only[len]; omega))] at hN;rw[hN]
    have e1:aW (toN ((s.takeWhile not60).length:Int)) s=s.takeWhile not60:=by
     simp only[aW,toN,bI1];exact htk
    have e2:s.length-(s.length-(s.takeWhile not60).length)=(s.takeWhile not60).length:=by omega
    rw[e1,e2]
theorem jB{s r:Ls}{t:Tok}(h:jU s=some (t,r)):r.length<s.length:=by
 match s with
 | []=>cases h
 |b::u =>
  rw[gS] at h
  have note:∀head tail:Ls,1≤head.length→jA (b::u) head tail=some (t,r)→r.length<(b::u).length:=fun head tail h1 h=>by
   unfold jA at h
   split at h
   ·cases h
   ·injection h with h;injection h with _ h;rw[←h,bI7];simp;omega
  split at h
  ·split at h
   ·exact note _ _ (by decide) h
   split at h
   ·exact note _ _ (by decide) h
   split at h
   ·unfold JN at h
    split at h
    ·cases h
    have h1:=dH (((b::u).drop 2).drop (cD ((b::u).drop 2)).length)
    split at h
    ·cases h
    ·rename_i c q hq;rw[hq,bI7,bI7,bI3] at h1
     split at h
     ·injection h with h;injection h with _ h;rw[←h];omega
     ·cases h
   ·unfold zQ at h
    split at h
    ·cases h
    split at h
    ·cases h
    ·rename_i k l q hq;injection h with h;injection h with _ h
     have:=(pR _ _ _ hq).1
     rw[bI7,bI7] at this;rw[←h];omega
  ·rename_i hb;injection h with h;injection h with _ h;rw[←h,bI7,bIL,if_pos (by simpa [not60] using hb)];simp;omega
def jH(s:Ls):Int:=(s.length:Int)-1-((s.reverse.takeWhile fun b=>b != 10).length:Int)
def atP(s:Ls) (i:Nat) (e:Int):List (Int×Int×Int):=[(1+(((s.take i).count 10:Nat):Int),(i:Int)-jH (s.take i),e)]
theorem CW{s:Ls}(hs:s.length≤4000000):∀(fuel k:Nat),k<fuel→k≤s.length →
  aY (fun v2 (v3:Int) =>
  cnd (ile (0:Int) v3)
   (grd (inb v3 (len s))
    (cnd (ieq (n8 (aA s (toN v3) (0:UInt8))) (n8 (10:UInt8)))
     (some v3)
     (v2 (w64 (aH v3 (1:Int))))))
   (some (-1:Int))) fuel ((k:Int)-1)=some (jH (s.take k))
 | 0,k,h,_=>by omega
 |fuel+1,k,h,hk=>by
  rw[eP]
  cases k with
  |zero =>
   rw[aC (fZ (by omega))];rfl
  |succ k =>
   have e0:((k+1:Nat):Int)-1=(k:Int):=by omega
   have hkl:k<s.length:=by omega
   rw[e0,aD (eA (by omega)),aF (aS (by simp only[len]; omega)),aU hkl]
   have hr:(s.take (k+1)).reverse=s[k]::(s.take k).reverse:=by
    rw[bHA hkl,List.reverse_append];rfl
   have hl:(s.take (k+1)).length=k+1:=by rw[bI6]; omega
   have hl2:(s.take k).length=k:=by rw[bI6]; omega
   unfold jH;rw[hr,hl,bIL]
   by_cases e:s[k]=10
   ·rw[aD (cB (by rw[e])),if_neg (by simp[e])];congr 1;simp
   ·have e1:w64 (aH (k:Int) 1)=(k:Int)-1:=by
     simp only[aH];rw[bG (by omega)]
    rw[aC (bS (fun q=>e (cH q))),e1,CW hs fuel k (by omega) (by omega),if_pos (by simp[e])];unfold jH;rw[hl2,bI3];congr 1;omega
theorem G7(s:Ls):-1≤jH s∧jH s<(s.length:Int):=by
 unfold jH
 have:=(List.takeWhile_prefix (p:=fun b:UInt8=>b != 10) (l:=s.reverse)).length_le
 rw[List.length_reverse] at this;omega
theorem aFE{s:Ls}(hs:s.length≤3999999){i:Nat}(hi:i≤s.length) (e:Int):lR fuelH (s,(i:Int),e)=some (atP s i e):=by
 have hin:in2 (i:Int) (len s)=true:=dG (by simp only[len]; omega)
 have ht:aW (toN (i:Int)) s=s.take i:=by simp[aW,toN]
 have hl:(s.take i).length=i:=by rw[bI6]; omega
 have hc:q67 fuelH (s.take i,([10]:Y_))=some (((s.take i).count 10:Nat):Int):=rfl
 have hlast:q71 fuelH (s.take i,([10]:Y_))=some (jH (s.take i)):=by
  have h1:q71 fuelH (s.take i,([10]:Y_))=bnd (q68 fuelH (s.take i,10)) fun v0=>some v0:=rfl
  rw[h1];unfold q68;dsimp only;rw[bF]
  have e0:w64 (aH (len (s.take i)) 1)=(((s.take i).length:Nat):Int)-1:=by
   simp only[aH,len];rw[bG (by omega)]
  rw[e0,CW (s:=s.take i) (by omega) fuelH _ (by have:=aZ; omega) (bKC _),aB,bJA]
 have hcl:=List.count_le_length (a:=(10:UInt8)) (l:=s.take i)
 have hln:=G7 (s.take i)
 unfold lR atP;dsimp only;rw[aF hin,ht,hc,aB,aF hin,hlast,aB];simp only[aE,aH];rw[bG (by omega),bG (by omega)]
theorem JO:∀(n:Nat) (l a:Ls),l.length≤n→(un a l).1.length≤a.length+4*l.length
 | 0,l,a,h=>by
  have:l=[]:=bHB (by omega)
  subst this;rw[WW];simp
 |n+1,[],a,_=>by rw[WW]; simp
 |n+1,b::l,a,h=>by
  rw[bI3] at h;rw[FF]
  split
  ·simp
  split
  ·split
   ·simp
   ·rename_i h60 h38 he
    have he:(kA l).2.2=0:=by simpa using he
    have ho:=WU he
    have hle:(kA l).1.length≤4:=by rw[ho.2.2.1]; exact JI _
    have:=JO n (l.drop ((l.takeWhile not59).length+1)) (a++(kA l).1) (by rw[bI7]; omega)
    rw[bIM,bI7] at this;rw[bI3];omega
  ·have:=JO n l (a++[b]) (by omega)
   rw[bIM,bI3,bJL] at this;rw[bI3];omega
def bM(s:Ls):Ls×Int:=if(un [] (s.map flatB)).2≠0 then([],(un [] (s.map flatB)).2) else if vld (un [] (s.map flatB)).1=false then([],10) else((un [] (s.map flatB)).1,0)
theorem pS(s:Ls):(bM s).1.length≤4*s.length:=by
 have:=JO _ (s.map flatB) [] (bKC _)
 rw[bJO,bJL] at this;unfold bM
 split
 ·simp
 split
 ·simp
 ·show(un [] (s.map flatB)).1.length≤_;omega
theorem aFF{s:Ls}(hs:s.length≤900000):q84 fuelH s=some (bM s):=by
 have hu:=JO _ (s.map flatB) [] (bKC _)
 have hml:(s.map flatB).length=s.length:=bJO _
 rw[hml,bJL] at hu;unfold q84 sM oR;rw[aF (decide_eq_true (by omega)),aB,bGN (by omega),aB];unfold bM
 by_cases h:(un [] (s.map flatB)).2=0
 ·rw[aC (bW h),if_neg (by simpa using h),lO _ (by omega),aB];cases hv:vld (un [] (s.map flatB)).1<;>rfl
 ·rw[aD (bX h),if_pos (by simpa using h)]
abbrev Ps:=List Nd×List Ls×Bool
def dC(p:Ps) (text:Bool):Int:=if p.2.1=[]∧(text=true∨p.1≠[]) then 8 else if 15<p.2.1.length then 9 else if 8192≤p.1.length∧¬(text=true∧p.2.2=true) then 9 else 0
theorem aFG(N:Nat) (p:Ps) (text:Bool):q85 N (p,text)=some (dC p text,p):=by
 obtain⟨nodes,stack,joined⟩:=p;unfold q85 dC;dsimp only;rw[bF]
 have tail:∀b:Bool,b=false→(cnd b (some ((8:Int),(nodes,stack,joined)))
   (cnd (ilt (15:Int) (len stack))
    (some ((9:Int),(nodes,stack,joined)))
    (cnd (ile (8192:Int) (len nodes))
     (cnd text
      (cnd (bA joined)
       (some ((9:Int),(nodes,stack,joined)))
       (some ((0:Int),(nodes,stack,joined))))
      (cnd (bA false)
       (some ((9:Int),(nodes,stack,joined)))
       (some ((0:Int),(nodes,stack,joined)))))
     (some ((0:Int),(nodes,stack,joined))))))=some (if 15<stack.length then 9 else if 8192≤nodes.length∧¬(text=true∧joined=true) then 9 else 0,nodes,stack,joined):=by
  intro b hb;subst hb;rw[aC (by rfl)]
  by_cases h1:15<stack.length
  ·rw[aD (aP (by simp only[len]; omega)),if_pos h1]
  rw[aC (aQ (by simp only[len]; omega)),if_neg h1]
  by_cases h2:8192≤nodes.length
  ·rw[aD (eA (by simp only[len]; omega))]
   cases text with
   |true =>
    cases joined with
    |true=>rw[if_neg (by simp)]; rfl
    |false=>rw[if_pos ⟨h2,by simp⟩]; rfl
   |false=>rw[if_pos ⟨h2,by simp⟩]; rfl
  ·rw[aC (fZ (by simp only[len]; omega)),if_neg (fun k=>h2 k.1)]
 by_cases h0:stack=[]
 ·subst h0;rw[aD (by rfl)]
  cases text with
  |true =>
   rw[aD (by rfl),if_pos ⟨rfl,.inl rfl⟩];rfl
  |false =>
   rw[aC (by rfl)]
   by_cases h1:nodes=[]
   ·subst h1;rw[if_neg (by simp)];exact tail _ rfl
   ·have:ilt 0 (len nodes)=true:=aP (by
     have:0<nodes.length:=bIK.2 h1
     simp only[len]; omega)
    rw[this,if_pos ⟨rfl,.inr h1⟩];rfl
 ·have:ieq (len stack) 0=false:=bS (by
   have:0<stack.length:=bIK.2 h0
   simp only[len]; omega)
  rw[this,aC (by rfl),if_neg (fun k=>h0 k.1)];exact tail _ rfl
def JP(s:Ls):Bool:=s.all wsB
def nlB(s:Ls):Bool:=decide ((s.takeWhile fun b=>b != 10).length≠s.length)
theorem aC6{P:UInt8→Bool}(s:Ls):s.dropWhile P=[]↔s.all P=true:=by
 induction s with
 |nil=>simp
 |cons b s ih =>
  rw[List.dropWhile_cons,bJ1]
  by_cases h:P b=true
  ·rw[if_pos h,ih,h,bJ0]
  ·rw[if_neg h]
   have h:P b=false:=by simpa using h
   rw[h];simp
theorem aZ1(b:UInt8):([9,10,13,32]:Ls).contains b=wsB b:=by
 unfold wsB;simp only[List.contains,List.elem];cases (b==9)<;>cases (b==10)<;>cases (b==13)<;>cases (b==32)<;>rfl
theorem JQ(s:Ls):Lib.trimS s [9,10,13,32]=[]↔JP s=true:=by
 have hf:(fun b:UInt8=>([9,10,13,32]:Ls).contains b)=wsB:=by funext b; exact aZ1 b
 unfold Lib.trimS Lib.trimLeftS Lib.trimRightS JP;rw[hf,aC6,List.all_reverse];constructor
 ·intro h;rw[bJC] at h ⊢;intro x hx
  by_cases e:s.reverse.dropWhile wsB=[]
  ·rw[aC6,List.all_reverse] at e;exact bJC.1 e x hx
  ·obtain⟨y,hy⟩:=List.exists_mem_of_ne_nil _ e;exfalso
   have h1:∀l:Ls,(∀z∈l.dropWhile wsB,wsB z=true)→l.dropWhile wsB=[]:=fun l=>by
    induction l with
    |nil=>intro _; rfl
    |cons b l ih =>
     intro hz;rw[List.dropWhile_cons] at hz ⊢
     by_cases hb:wsB b=true
     ·rw[if_pos hb] at hz ⊢;exact ih hz
     ·rw[if_neg hb] at hz;exact absurd (hz b bIQ) hb
   exact e (h1 _ h)
 ·intro h
  have:s.reverse.dropWhile wsB=[]:=(aC6 _).2 (by rw[List.all_reverse]; exact h)
  rw[this];rfl
theorem G8(s:Ls):Lib.contains s [10]=nlB s:=by
 unfold Lib.contains nlB;rw[Lib.index_one,ixb]
 have:=gP (P:=fun b=>b != 10) s
 by_cases h:(s.takeWhile fun b=>b != 10).length=s.length
 ·rw[if_pos h]; simp[h]
 ·rw[if_neg h]; simp[h]
def hM(l:List Nd) (t:Ls):List Nd:=match l.getLast? with
 |none=>l
 |some n=>l.dropLast++[(n.1,n.2.1++t,n.2.2)]
def zR(p:Ps) (s:Ls):Int×Ps :=
 if JP s=true∧(nlB s=true∨p.2.1=[]) then(0,p) else if(bM s).2≠0 then((bM s).2,p) else if dC p true≠0 then(dC p true,p)
 else if p.2.2=true then(0,hM p.1 (bM s).1,p.2.1,p.2.2) else(0,p.1++[([],(bM s).1,[],(p.2.1.length:Int))],p.2.1,true)
theorem kR{α:Type}{l:List α}(h:l≠[]):∃n,l.getLast?=some n∧l=l.dropLast++[n]∧∃hl:l.length-1<l.length,l[l.length-1]=n:=by
 rcases List.eq_nil_or_concat l with e|⟨m,n,rfl⟩
 ·exact absurd e h
 ·refine⟨n,by simp,by simp,by simp,by simp⟩
theorem G9{α:Type}{l:List α}(h:l≠[]) (y:α):l.set (l.length-1) y=l.dropLast++[y]:=by
 obtain⟨n,_,h2,_⟩:=kR h
 have hl:l.length-1=l.dropLast.length:=by rw[bH9]
 conv=>lhs; rw[hl,h2]
 rw[List.dropLast_concat,bH2 _ _ (bKC _),bJ9];rfl
theorem aOB{p:Ps}{s:Ls}(hs:s.length≤300000) (hj:p.2.2=true→p.1≠[]) (hn:p.1.length≤300000) (ht:∀n∈p.1,n.2.1.length≤4000000):q86 fuelH (p,s)=some (zR p s):=by
 have hml:=pS s
 unfold q86 zR;dsimp only;rw[bF]
 have ht1:gZ fuelH (s,([9,10,13,32]:Y_))=some (Lib.trimS s [9,10,13,32]):=by
  unfold gZ jO;rw[aF (decide_eq_true (by show s.length<_; omega)),aF (by rfl),aF (by rfl)]
 have hc1:strings_Contains fuelH (s,([10]:Y_))=some (nlB s):=by
  unfold strings_Contains fR;rw[aF (decide_eq_true (by show s.length<_; omega)),G8]
 rw[ht1,aB,hc1,aB]
 have rest:(bnd (q84 fuelH s) fun v1 =>
  cnd (ine v1.2 (0:Int))
   (some (v1.2,p))
   (bnd (q85 fuelH (p,true)) fun v2 =>
   cnd (ine v2.1 (0:Int))
    (some v2)
    (cnd v2.2.2.2
     (grd (inb (w64 (aH (len v2.2.1) (1:Int))) (len v2.2.1))
      (grd (dQ (aE (len (aA v2.2.1 (toN (w64 (aH (len v2.2.1) (1:Int)))) zN).2.1) (len v1.1)))
       (grd (inb (w64 (aH (len v2.2.1) (1:Int))) (len v2.2.1))
        (some ((0:Int),nS v2.2.1 (toN (w64 (aH (len v2.2.1) (1:Int)))) ((aA v2.2.1 (toN (w64 (aH (len v2.2.1) (1:Int)))) zN).1,bL (aA v2.2.1 (toN (w64 (aH (len v2.2.1) (1:Int)))) zN).2.1 v1.1,(aA v2.2.1 (toN (w64 (aH (len v2.2.1) (1:Int)))) zN).2.2),v2.2.2)))))
     (grd (cL (aE (len v2.2.1) (len ([(([]:Y_),v1.1,([]:List (Y_×Y_)),len v2.2.2.1)]:List (Y_×Y_×(List (Y_×Y_))×Int)))) 64)
      (some ((0:Int),bL v2.2.1 ([(([]:Y_),v1.1,([]:List (Y_×Y_)),len v2.2.2.1)]:List (Y_×Y_×(List (Y_×Y_))×Int)),v2.2.2.1,true)))))) =
   some (if(bM s).2≠0 then((bM s).2,p) else if dC p true≠0 then(dC p true,p)
 else if p.2.2=true then(0,hM p.1 (bM s).1,p.2.1,p.2.2) else(0,p.1++[([],(bM s).1,[],(p.2.1.length:Int))],p.2.1,true)):=by
  rw[aFF (by omega),aB,aFG,aB];dsimp only
  by_cases h1:(bM s).2=0
  ·rw[aC (bW h1),if_neg (fun k=>k h1)]
   by_cases h2:dC p true=0
   ·rw[aC (bW h2),if_neg (fun k=>k h2)]
    by_cases h3:p.2.2=true
    ·have hne:=hj h3
     obtain⟨n,q1,q2,q3,q4⟩:=kR hne
     have hp:0<p.1.length:=bIK.2 hne
     have hw:w64 (aH (len p.1) 1)=((p.1.length-1:Nat):Int):=nP hp (by omega)
     have hg:aA p.1 (toN ((p.1.length-1:Nat):Int)) zN=n:=by rw[kD q3,q4]
     have htn:=ht n (by rw[q2]; simp)
     rw[aD h3,if_pos h3,hw,hg,aF (aS (by simp only[len]; omega)),aF (oK (by simp only[len,aE]; omega)),aF (aS (by simp only[len]; omega))];unfold hM;rw[q1];dsimp only
     have:nS p.1 (toN ((p.1.length-1:Nat):Int)) (n.1,bL n.2.1 (bM s).1,n.2.2)=p.1.dropLast++[(n.1,n.2.1++(bM s).1,n.2.2)]:=by
      unfold nS;rw[show toN ((p.1.length-1:Nat):Int)=p.1.length-1 by simp[toN]];exact G9 hne _
     rw[this]
    ·rw[aC (by simpa using h3),if_neg h3,aF (cU (by simp only[len,aE,bI3,bJL]; omega))];rfl
   ·rw[aD (bX h2),if_pos h2]
  ·rw[aD (bX h1),if_pos h1]
 by_cases hb:JP s=true
 ·rw[aD (by rw[cF]; exact(JQ s).2 hb)]
  by_cases hn2:nlB s=true
  ·rw[aD hn2,if_pos ⟨hb,.inl hn2⟩]
  ·rw[aC (by simpa using hn2)]
   by_cases ho:p.2.1=[]
   ·rw[aD (by rw[ho]; rfl),if_pos ⟨hb,.inr ho⟩]
   ·rw[aC (bS (by have:=bIK.2 ho; simp only[len]; omega)),if_neg (fun k=>by rcases k.2 with k|k; exact hn2 k; exact ho k)];exact rest
 ·rw[aC (by rw[bO]; simpa using fun k=>hb ((JQ s).1 k)),if_neg (fun k=>hb k.1)];exact rest
def JR(p:Ps) (name:Ls):Int×Ps:=if nmX name=false then(5,p) else if p.2.1.getLast?=some name then(0,p.1,p.2.1.dropLast,false) else(8,p)
theorem aZ2{p:Ps}{t:Tok}(ho:p.2.1.length≤300000):q87 fuelH (p,t)=some (JR p t.2.1):=by
 unfold q87 JR;dsimp only;rw[FG,aB]
 by_cases h1:nmX t.2.1=true
 ·rw[h1,aC (by rfl),if_neg (by decide)]
  by_cases h2:p.2.1=[]
  ·rw[h2,aD (by rfl),if_neg (by simp)]
  ·obtain⟨n,q1,q2,q3,q4⟩:=kR h2
   have hp:0<p.2.1.length:=bIK.2 h2
   have hw:w64 (aH (len p.2.1) 1)=((p.2.1.length-1:Nat):Int):=nP hp (by omega)
   have hg:aA p.2.1 (toN ((p.2.1.length-1:Nat):Int)) []=n:=by rw[aU q3,q4]
   rw[aC (bS (by simp only[len]; omega)),hw,aF (aS (by simp only[len]; omega)),hg,q1]
   by_cases h3:n=t.2.1
   ·rw[aC (by unfold sne; simpa using h3),if_pos (by rw[h3]),aF (dG (by simp only[ofN,gE]; omega))]
    have:gG p.2.1 0 (toN ((p.2.1.length-1:Nat):Int))=p.2.1.dropLast:=by
     simp only[gG,toN,bI1,bJS];rw[List.dropLast_eq_take]
    rw[this]
   ·rw[aD (by unfold sne; simpa using h3),if_neg (fun k=>h3 (by injection k))]
 ·have h1:nmX t.2.1=false:=by simpa using h1
  rw[h1,aD (by rfl),if_pos rfl]
end
end Go.Mo
end
