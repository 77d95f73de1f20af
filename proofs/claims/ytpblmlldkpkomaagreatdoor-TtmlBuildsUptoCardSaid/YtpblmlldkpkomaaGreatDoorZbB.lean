/-
  Texts put together, in build order: WXd WXe WK XA XB XC XD XE XF TA TB TC XG XH XI XJ XK XL XM XN XP XQ XS XU XV XR TD TE TF TG TH.
-/
import Derived.Test.YtpblmlldkpkomaaGreatDoorZbA
import Derived.Lib.Replace
import Derived.Lib.CountLaws
import Derived.Lib.IndexMore
import Derived.Test.YtpblmlldkpkomaaGreatDoorYbC
import Derived.KernelRfl
import Derived.Lib.ValidLaws
import Derived.Lib.TrimUEq
import Derived.Lib.MapLaws
import Derived.Lib.ParseIntBCases
set_option linter.all false

section
/-
  The functions do what their models say. Printed by a program.
-/
namespace Go.Mo
open Go Go.W Go.Proofs
noncomputable section
set_option maxRecDepth 100000
def a_q128:Ann:=(.sq .lf (.sq .lf (.jn ⟨[],[],[],[]⟩ (.sq .lf (.lp ⟨[1,10,11],[2],[.s 12],[.v (.int .i64) []]⟩ .lf)) .lf)))
theorem x_q128 (N:Nat):execF E [⟨117,ps_q96,rs_q96,q96 N⟩,⟨214,ps_q127,rs_q127,q127 N⟩] N Tryz.f154 a_q128 ps_q128 rs_q128=q128 N:=by kernel_rfl
def a_q129:Ann:=(.sq .lf (.sq .lf (.jn ⟨[],[],[.s 3],[.v (.str) []]⟩ (.sq .lf (.lp ⟨[7,8],[],[.s 3,.s 9],[.v (.str) [],.v (.int .i64) []]⟩ .lf)) .lf)))
theorem x_q129 (N:Nat):execF E [] N Tryz.f156 a_q129 ps_q129 rs_q129=q129 N:=by kernel_rfl
def a_r11_neat:Ann:=(.sq .lf (.sq .lf (.jn ⟨[],[],[],[]⟩ (.sq .lf (.lp ⟨[0],[],[.s 3],[.v (.int .i64) []]⟩ .lf)) .lf)))
theorem x_r11_neat (N:Nat):execF E [] N Tryz.f155 a_r11_neat ps_r11_neat rs_r11_neat=r11_neat N:=by kernel_rfl
def a_q130:Ann:=(.sq .lf (.sq .lf (.jn ⟨[],[],[.s 3],[.v (.slice (.int .i32)) [0]]⟩ (.sq .lf (.lp ⟨[7],[],[.s 3,.o 5],[.v (.slice (.int .i32)) [0],.i]⟩ .lf)) .lf)))
theorem x_q130 (N:Nat):execF E [] N Tryz.f254 a_q130 ps_q130 rs_q130=q130 N:=by kernel_rfl
def a_r08_Len:Ann:=.lf
theorem x_r08_Len (N:Nat):execF E [⟨117,ps_q96,rs_q96,q96 N⟩,⟨254,ps_q130,rs_q130,q130 N⟩] N Tryz.f215 a_r08_Len ps_r08_Len rs_r08_Len=r08_Len N:=by kernel_rfl
def a_r09_Len:Ann:=(.sq .lf (.sq .lf (.jn ⟨[],[],[.s 3],[.v (.int .i64) []]⟩ (.sq .lf (.lp ⟨[8,9],[],[.s 3,.s 10],[.v (.int .i64) [],.v (.int .i64) []]⟩ .lf)) .lf)))
theorem x_r09_Len (N:Nat):execF E [⟨215,ps_r08_Len,rs_r08_Len,r08_Len N⟩] N Tryz.f157 a_r09_Len ps_r09_Len rs_r09_Len=r09_Len N:=by kernel_rfl
def a_q131:Ann:=.lf
theorem x_q131 (N:Nat):execF E [⟨151,ps_q123,rs_q123,q123 N⟩,⟨213,ps_q126,rs_q126,q126 N⟩] N Tryz.f216 a_q131 ps_q131 rs_q131=q131 N:=by kernel_rfl
def a_q132:Ann:=(.sq .lf (.sq .lf (.sq .lf (.sq .lf (.jn ⟨[],[],[.s 6],[.v (.slice Y7) [0]]⟩ (.sq .lf (.lp ⟨[1,2,18,19],[2],[.s 6,.s 20],[.v (.slice Y7) [0],.v (.int .i64) []]⟩ (.sq .lf (.sq .lf (.sq (.sq .lf (.sq .lf (.sq .lf (.sq .lf (.jn ⟨[1,2,6,8,9,18,19,20],[18,2],[.o 40],[.b 238 Y7 []]⟩ .lf .lf))))) .lf))))) .lf)))))
theorem x_q132 (N:Nat):execF E [⟨216,ps_q131,rs_q131,q131 N⟩] N Tryz.f158 a_q132 ps_q132 rs_q132=q132 N:=by kernel_rfl
def a_q133:Ann:=(.sq .lf (.sq .lf (.sq .lf (.sq (.sq .lf (.sq .lf (.sq .lf (.sq .lf (.jn ⟨[2,5],[33,2],[.s 46],[.v (.bool) []]⟩ .lf .lf))))) (.sq .lf (.jn ⟨[5],[33],[.s 7],[.v (.slice (.int .i64)) [0]]⟩ (.sq .lf (.lp ⟨[5,68,69],[33],[.s 7,.s 70],[.v (.slice (.int .i64)) [0],.v (.int .i64) []]⟩ .lf)) .lf))))))
theorem x_q133 (N:Nat):execF E [⟨152,ps_q125,rs_q125,q125 N⟩,⟨153,ps_r10_Find,rs_r10_Find,r10_Find N⟩,⟨149,ps_r07_Name,rs_r07_Name,r07_Name N⟩,⟨154,ps_q128,rs_q128,q128 N⟩,⟨156,ps_q129,rs_q129,q129 N⟩,⟨155,ps_r11_neat,rs_r11_neat,r11_neat N⟩,⟨157,ps_r09_Len,rs_r09_Len,r09_Len N⟩,⟨158,ps_q132,rs_q132,q132 N⟩] N Tryz.f88 a_q133 ps_q133 rs_q133=q133 N:=by kernel_rfl
def a_r11_Less:Ann:=.lf
theorem x_r11_Less (N:Nat):execF E [] N Tryz.f89 a_r11_Less ps_r11_Less rs_r11_Less=r11_Less N:=by kernel_rfl
def a_r12_Find:Ann:=(.sq .lf (.jn ⟨[],[],[],[]⟩ (.sq .lf (.lp ⟨[1,8,9],[],[.s 10],[.v (.int .i64) []]⟩ .lf)) .lf))
theorem x_r12_Find (N:Nat):execF E [] N Tryz.f90 a_r12_Find ps_r12_Find rs_r12_Find=r12_Find N:=by kernel_rfl
def a_r11_Len:Ann:=(.sq .lf (.sq .lf (.jn ⟨[],[],[.s 3],[.v (.int .i64) []]⟩ (.sq .lf (.lp ⟨[8,9],[],[.s 3,.s 10],[.v (.int .i64) [],.v (.int .i64) []]⟩ .lf)) .lf)))
theorem x_r11_Len (N:Nat):execF E [⟨157,ps_r09_Len,rs_r09_Len,r09_Len N⟩] N Tryz.f159 a_r11_Len ps_r11_Len rs_r11_Len=r11_Len N:=by kernel_rfl
def a_q134:Ann:=(.sq .lf (.sq .lf (.sq .lf (.jn ⟨[2,5],[10,2],[],[]⟩ .lf (.sq .lf (.sq .lf (.jn ⟨[5],[10],[],[]⟩ .lf .lf)))))))
theorem x_q134 (N:Nat):execF E [⟨90,ps_r12_Find,rs_r12_Find,r12_Find N⟩,⟨159,ps_r11_Len,rs_r11_Len,r11_Len N⟩,⟨149,ps_r07_Name,rs_r07_Name,r07_Name N⟩,⟨117,ps_q96,rs_q96,q96 N⟩] N Tryz.f91 a_q134 ps_q134 rs_q134=q134 N:=by kernel_rfl
def a_q135:Ann:=(.sq .lf (.sq .lf (.sq .lf (.sq .lf (.jn ⟨[1],[2],[],[]⟩ (.sq .lf (.lp ⟨[1,26,27],[2],[.s 28],[.v (.int .i64) []]⟩ .lf)) (.sq .lf (.jn ⟨[],[],[],[]⟩ (.sq .lf (.lp ⟨[1,71],[2],[.s 72],[.v (.int .i64) []]⟩ .lf)) .lf)))))))
theorem x_q135 (N:Nat):execF E [⟨86,ps_q122,rs_q122,q122 N⟩,⟨87,ps_q124,rs_q124,q124 N⟩,⟨88,ps_q133,rs_q133,q133 N⟩,⟨89,ps_r11_Less,rs_r11_Less,r11_Less N⟩,⟨90,ps_r12_Find,rs_r12_Find,r12_Find N⟩,⟨91,ps_q134,rs_q134,q134 N⟩] N Tryz.f39 a_q135 ps_q135 rs_q135=q135 N:=by kernel_rfl
def a_q136:Ann:=(.sq .lf (.sq .lf (.sq .lf (.jn ⟨[2,6],[2],[.o 11],[.d 27 Y1]⟩ (.sq .lf (.lp ⟨[0,2,6,20,21],[2],[.s 22,.o 11],[.v (.int .i64) [],.d 27 Y1]⟩ (.sq .lf (.sq .lf (.sq (.sq .lf (.sq .lf (.sq .lf (.jn ⟨[0,2,6,7,9,20,21,22],[2],[.o 44,.o 11],[.b 114 Y8 [],.d 27 Y1]⟩ (.sq .lf (.sq .lf (.sq .lf (.sq .lf (.sq .lf (.sq .lf (.sq .lf (.sq .lf (.sq (.sq .lf (.cl [18])) .lf))))))))) .lf)))) .lf))))) (.sq (.sq (.cl [15,14]) .lf) .lf)))))
theorem x_q136 (N:Nat):execF (E.wop ops) [⟨64,ps_q98,rs_q98,q98 N⟩,⟨65,ps_q99,rs_q99,q99 N⟩,⟨66,ps_r21_fits,rs_r21_fits,r21_fits N⟩,⟨67,ps_q112,rs_q112,q112 N⟩,⟨68,ps_q114,rs_q114,q114 N⟩,⟨69,ps_q118,rs_q118,q118 N⟩,⟨70,ps_q120,rs_q120,q120 N⟩,⟨39,ps_q135,rs_q135,q135 N⟩] N Tryz.f23 a_q136 ps_q136 rs_q136=q136 N:=by kernel_rfl
def a_q137:Ann:=.lf
theorem x_q137 (N:Nat):execF E [] N Tryz.f53 a_q137 ps_q137 rs_q137=q137 N:=by kernel_rfl
def a_q138:Ann:=(.sq .lf (.sq .lf (.jn ⟨[],[],[],[]⟩ (.sq .lf (.lp ⟨[0,1,12],[],[.s 13],[.v (.int .i64) []]⟩ .lf)) .lf)))
theorem x_q138 (N:Nat):execF E [] N Tryz.f54 a_q138 ps_q138 rs_q138=q138 N:=by kernel_rfl
def a_q139:Ann:=(.sq .lf (.sq .lf (.jn ⟨[],[],[],[]⟩ (.sq .lf (.lp ⟨[0,1,12],[],[.s 13],[.v (.int .i64) []]⟩ .lf)) .lf)))
theorem x_q139 (N:Nat):execF E [] N Tryz.f217 a_q139 ps_q139 rs_q139=q139 N:=by kernel_rfl
def a_q140:Ann:=.lf
theorem x_q140 (N:Nat):execF E [⟨217,ps_q139,rs_q139,q139 N⟩] N Tryz.f163 a_q140 ps_q140 rs_q140=q140 N:=by kernel_rfl
def a_q141:Ann:=(.sq .lf (.sq .lf (.jn ⟨[],[],[],[]⟩ (.sq .lf (.lp ⟨[1,2,15,16],[],[.s 17],[.v (.int .i64) []]⟩ .lf)) .lf)))
theorem x_q141 (N:Nat):execF E [⟨163,ps_q140,rs_q140,q140 N⟩] N Tryz.f162 a_q141 ps_q141 rs_q141=q141 N:=by kernel_rfl
def a_q142:Ann:=.lf
theorem x_q142 (N:Nat):execF E [⟨162,ps_q141,rs_q141,q141 N⟩,⟨163,ps_q140,rs_q140,q140 N⟩] N Tryz.f95 a_q142 ps_q142 rs_q142=q142 N:=by kernel_rfl
end
end Go.Mo
end

section
/-
  The functions do what their models say. Printed by a program.
-/
namespace Go.Mo
open Go Go.W Go.Proofs
noncomputable section
set_option maxRecDepth 100000
def a_q143:Ann:=.lf
theorem x_q143 (N:Nat):execF E [⟨95,ps_q142,rs_q142,q142 N⟩] N Tryz.f56 a_q143 ps_q143 rs_q143=q143 N:=by kernel_rfl
def a_q144:Ann:=(.sq .lf (.sq .lf (.jn ⟨[],[],[],[]⟩ (.sq .lf (.lp ⟨[1,2,15,16],[],[.s 17],[.v (.int .i64) []]⟩ .lf)) .lf)))
theorem x_q144 (N:Nat):execF E [⟨56,ps_q143,rs_q143,q143 N⟩] N Tryz.f55 a_q144 ps_q144 rs_q144=q144 N:=by kernel_rfl
def a_q145:Ann:=(.sq .lf (.sq .lf (.jn ⟨[],[],[],[]⟩ (.sq .lf (.lp ⟨[0,1,12],[],[.s 13],[.v (.int .i64) []]⟩ .lf)) .lf)))
theorem x_q145 (N:Nat):execF E [] N Tryz.f57 a_q145 ps_q145 rs_q145=q145 N:=by kernel_rfl
def a_q146:Ann:=.lf
theorem x_q146 (N:Nat):execF E [⟨53,ps_q137,rs_q137,q137 N⟩,⟨54,ps_q138,rs_q138,q138 N⟩,⟨55,ps_q144,rs_q144,q144 N⟩,⟨56,ps_q143,rs_q143,q143 N⟩,⟨57,ps_q145,rs_q145,q145 N⟩] N Tryz.f18 a_q146 ps_q146 rs_q146=q146 N:=by kernel_rfl
def a_l21_TtmlBuilds:Ann:=.lf
theorem x_l21_TtmlBuilds (N:Nat):execF E [⟨10,ps_l21_awake,rs_l21_awake,l21_awake N⟩,⟨21,ps_l21_nodes,rs_l21_nodes,l21_nodes N⟩,⟨22,ps_q90,rs_q90,q90 N⟩,⟨23,ps_q136,rs_q136,q136 N⟩,⟨18,ps_q146,rs_q146,q146 N⟩] N Tryz.f4 a_l21_TtmlBuilds ps_l21_TtmlBuilds rs_l21_TtmlBuilds=l21_TtmlBuilds N:=by kernel_rfl
end
end Go.Mo
end

section
/-
  The functions do what their models say. Printed by a program.
-/
namespace Go.Mo
open Go Go.W Go.Proofs
noncomputable section
set_option maxRecDepth 100000
theorem k_utf8_ValidString (N:Nat):ConOk E ⟨193,ps_utf8_ValidString,rs_utf8_ValidString,utf8_ValidString N⟩:=kh_utf8_ValidString N
theorem k_q11 (N:Nat):ConOk E ⟨243,ps_q11,rs_q11,q11 N⟩:=conOf envOk (x_q11 N) trivial (show E.P.funcs[243]?=some Tryz.f243 from by kernel_rfl) (by kernel_rfl)
theorem k_q12 (N:Nat):ConOk E ⟨194,ps_q12,rs_q12,q12 N⟩:=conOf envOk (x_q12 N) ⟨k_q11 N,trivial⟩ (show E.P.funcs[194]?=some Tryz.f194 from by kernel_rfl) (by kernel_rfl)
theorem k_q13 (N:Nat):ConOk E ⟨134,ps_q13,rs_q13,q13 N⟩:=conOf envOk (x_q13 N) ⟨k_utf8_ValidString N,k_q12 N,trivial⟩ (show E.P.funcs[134]?=some Tryz.f134 from by kernel_rfl) (by kernel_rfl)
theorem k_q14 (N:Nat):ConOk E ⟨135,ps_q14,rs_q14,q14 N⟩:=conOf envOk (x_q14 N) trivial (show E.P.funcs[135]?=some Tryz.f135 from by kernel_rfl) (by kernel_rfl)
theorem k_q15 (N:Nat):ConOk E ⟨83,ps_q15,rs_q15,q15 N⟩:=conOf envOk (x_q15 N) trivial (show E.P.funcs[83]?=some Tryz.f83 from by kernel_rfl) (by kernel_rfl)
theorem k_q16 (N:Nat):ConOk E ⟨195,ps_q16,rs_q16,q16 N⟩:=conOf envOk (x_q16 N) ⟨k_q15 N,trivial⟩ (show E.P.funcs[195]?=some Tryz.f195 from by kernel_rfl) (by kernel_rfl)
theorem k_q17 (N:Nat):ConOk E ⟨196,ps_q17,rs_q17,q17 N⟩:=conOf envOk (x_q17 N) ⟨k_q15 N,trivial⟩ (show E.P.funcs[196]?=some Tryz.f196 from by kernel_rfl) (by kernel_rfl)
theorem k_q18 (N:Nat):ConOk E ⟨136,ps_q18,rs_q18,q18 N⟩:=conOf envOk (x_q18 N) ⟨k_q16 N,k_q17 N,trivial⟩ (show E.P.funcs[136]?=some Tryz.f136 from by kernel_rfl) (by kernel_rfl)
theorem k_q19 (N:Nat):ConOk E ⟨74,ps_q19,rs_q19,q19 N⟩:=conOf envOk (x_q19 N) ⟨k_q13 N,k_q14 N,k_q18 N,trivial⟩ (show E.P.funcs[74]?=some Tryz.f74 from by kernel_rfl) (by kernel_rfl)
theorem k_q20 (N:Nat):ConOk E ⟨197,ps_q20,rs_q20,q20 N⟩:=conOf envOk (x_q20 N) trivial (show E.P.funcs[197]?=some Tryz.f197 from by kernel_rfl) (by kernel_rfl)
theorem k_q21 (N:Nat):ConOk E ⟨137,ps_q21,rs_q21,q21 N⟩:=conOf envOk (x_q21 N) ⟨k_q14 N,k_q20 N,trivial⟩ (show E.P.funcs[137]?=some Tryz.f137 from by kernel_rfl) (by kernel_rfl)
theorem k_q22 (N:Nat):ConOk E ⟨75,ps_q22,rs_q22,q22 N⟩:=conOf envOk (x_q22 N) ⟨k_q21 N,trivial⟩ (show E.P.funcs[75]?=some Tryz.f75 from by kernel_rfl) (by kernel_rfl)
theorem k_q23 (N:Nat):ConOk E ⟨198,ps_q23,rs_q23,q23 N⟩:=conOf envOk (x_q23 N) trivial (show E.P.funcs[198]?=some Tryz.f198 from by kernel_rfl) (by kernel_rfl)
theorem k_q24 (N:Nat):ConOk E ⟨138,ps_q24,rs_q24,q24 N⟩:=conOf envOk (x_q24 N) ⟨k_q23 N,trivial⟩ (show E.P.funcs[138]?=some Tryz.f138 from by kernel_rfl) (by kernel_rfl)
theorem k_q25 (N:Nat):ConOk E ⟨139,ps_q25,rs_q25,q25 N⟩:=conOf envOk (x_q25 N) trivial (show E.P.funcs[139]?=some Tryz.f139 from by kernel_rfl) (by kernel_rfl)
theorem k_q26 (N:Nat):ConOk E ⟨85,ps_q26,rs_q26,q26 N⟩:=conOf envOk (x_q26 N) trivial (show E.P.funcs[85]?=some Tryz.f85 from by kernel_rfl) (by kernel_rfl)
theorem k_q27 (N:Nat):ConOk E ⟨38,ps_q27,rs_q27,q27 N⟩:=conOf envOk (x_q27 N) ⟨k_q26 N,trivial⟩ (show E.P.funcs[38]?=some Tryz.f38 from by kernel_rfl) (by kernel_rfl)
theorem k_q28 (N:Nat):ConOk E ⟨244,ps_q28,rs_q28,q28 N⟩:=conOf envOk (x_q28 N) trivial (show E.P.funcs[244]?=some Tryz.f244 from by kernel_rfl) (by kernel_rfl)
theorem k_q29 (N:Nat):ConOk E ⟨245,ps_q29,rs_q29,q29 N⟩:=conOf envOk (x_q29 N) trivial (show E.P.funcs[245]?=some Tryz.f245 from by kernel_rfl) (by kernel_rfl)
theorem k_q30 (N:Nat):ConOk E ⟨199,ps_q30,rs_q30,q30 N⟩:=conOf envOk (x_q30 N) ⟨k_q13 N,k_q28 N,k_q29 N,trivial⟩ (show E.P.funcs[199]?=some Tryz.f199 from by kernel_rfl) (by kernel_rfl)
theorem k_strings_Builder_copyCheck (N:Nat):ConOk E ⟨146,ps_strings_Builder_copyCheck,rs_strings_Builder_copyCheck,strings_Builder_copyCheck N⟩:=kh_strings_Builder_copyCheck N
theorem k_q31 (N:Nat):ConOk E ⟨79,ps_q31,rs_q31,q31 N⟩:=conOf envOk (x_q31 N) ⟨k_strings_Builder_copyCheck N,trivial⟩ (show E.P.funcs[79]?=some Tryz.f79 from by kernel_rfl) (by kernel_rfl)
theorem k_q32 (N:Nat):ConOk E ⟨200,ps_q32,rs_q32,q32 N⟩:=conOf envOk (x_q32 N) ⟨k_q31 N,trivial⟩ (show E.P.funcs[200]?=some Tryz.f200 from by kernel_rfl) (by kernel_rfl)
theorem k_strings_Contains (N:Nat):ConOk E ⟨201,ps_strings_Contains,rs_strings_Contains,strings_Contains N⟩:=kh_strings_Contains N
theorem k_q33 (N:Nat):ConOk E ⟨226,ps_q33,rs_q33,q33 N⟩:=conOf envOk (x_q33 N) trivial (show E.P.funcs[226]?=some Tryz.f226 from by kernel_rfl) (by kernel_rfl)
theorem k_q34 (N:Nat):ConOk E ⟨246,ps_q34,rs_q34,q34 N⟩:=conOf envOk (x_q34 N) ⟨k_q13 N,k_q33 N,trivial⟩ (show E.P.funcs[246]?=some Tryz.f246 from by kernel_rfl) (by kernel_rfl)
theorem k_q35 (N:Nat):ConOk E ⟨202,ps_q35,rs_q35,q35 N⟩:=conOf envOk (x_q35 N) ⟨k_q34 N,trivial⟩ (show E.P.funcs[202]?=some Tryz.f202 from by kernel_rfl) (by kernel_rfl)
theorem k_q36 (N:Nat):ConOk E ⟨140,ps_q36,rs_q36,q36 N⟩:=conOf envOk (x_q36 N) ⟨k_q30 N,k_q32 N,k_strings_Contains N,k_q35 N,trivial⟩ (show E.P.funcs[140]?=some Tryz.f140 from by kernel_rfl) (by kernel_rfl)
theorem k_q37 (N:Nat):ConOk E ⟨142,ps_q37,rs_q37,q37 N⟩:=conOf envOk (x_q37 N) ⟨k_q35 N,trivial⟩ (show E.P.funcs[142]?=some Tryz.f142 from by kernel_rfl) (by kernel_rfl)
theorem k_q38 (N:Nat):ConOk E ⟨203,ps_q38,rs_q38,q38 N⟩:=conOf envOk (x_q38 N) ⟨k_q23 N,k_q21 N,trivial⟩ (show E.P.funcs[203]?=some Tryz.f203 from by kernel_rfl) (by kernel_rfl)
theorem k_q39 (N:Nat):ConOk E ⟨141,ps_q39,rs_q39,q39 N⟩:=conOf envOk (x_q39 N) ⟨k_q38 N,trivial⟩ (show E.P.funcs[141]?=some Tryz.f141 from by kernel_rfl) (by kernel_rfl)
theorem k_q40 (N:Nat):ConOk E ⟨76,ps_q40,rs_q40,q40 N⟩:=conOf envOk (x_q40 N) ⟨k_q24 N,k_q25 N,k_q27 N,k_q14 N,k_q36 N,k_q37 N,k_q39 N,trivial⟩ (show E.P.funcs[76]?=some Tryz.f76 from by kernel_rfl) (by kernel_rfl)
theorem k_q41 (N:Nat):ConOk E ⟨204,ps_q41,rs_q41,q41 N⟩:=conOf envOk (x_q41 N) trivial (show E.P.funcs[204]?=some Tryz.f204 from by kernel_rfl) (by kernel_rfl)
theorem k_q42 (N:Nat):ConOk E ⟨144,ps_q42,rs_q42,q42 N⟩:=conOf envOk (x_q42 N) ⟨k_q41 N,trivial⟩ (show E.P.funcs[144]?=some Tryz.f144 from by kernel_rfl) (by kernel_rfl)
theorem k_q43 (N:Nat):ConOk E ⟨143,ps_q43,rs_q43,q43 N⟩:=conOf envOk (x_q43 N) trivial (show E.P.funcs[143]?=some Tryz.f143 from by kernel_rfl) (by kernel_rfl)
theorem k_q44 (N:Nat):ConOk E ⟨77,ps_q44,rs_q44,q44 N⟩:=conOf envOk (x_q44 N) ⟨k_q42 N,k_q43 N,trivial⟩ (show E.P.funcs[77]?=some Tryz.f77 from by kernel_rfl) (by kernel_rfl)
theorem k_q45 (N:Nat):ConOk E ⟨205,ps_q45,rs_q45,q45 N⟩:=conOf envOk (x_q45 N) ⟨k_q37 N,trivial⟩ (show E.P.funcs[205]?=some Tryz.f205 from by kernel_rfl) (by kernel_rfl)
theorem k_q46 (N:Nat):ConOk E ⟨145,ps_q46,rs_q46,q46 N⟩:=conOf envOk (x_q46 N) ⟨k_q45 N,trivial⟩ (show E.P.funcs[145]?=some Tryz.f145 from by kernel_rfl) (by kernel_rfl)
theorem k_q47 (N:Nat):ConOk E ⟨78,ps_q47,rs_q47,q47 N⟩:=conOf envOk (x_q47 N) ⟨k_q46 N,k_q14 N,k_q13 N,trivial⟩ (show E.P.funcs[78]?=some Tryz.f78 from by kernel_rfl) (by kernel_rfl)
theorem k_q48 (N:Nat):ConOk E ⟨30,ps_q48,rs_q48,q48 N⟩:=conOf envOk (x_q48 N) ⟨k_q19 N,k_q22 N,k_q40 N,k_q44 N,k_q47 N,trivial⟩ (show E.P.funcs[30]?=some Tryz.f30 from by kernel_rfl) (by kernel_rfl)
theorem k_q49 (N:Nat):ConOk E ⟨34,ps_q49,rs_q49,q49 N⟩:=conOf envOk (x_q49 N) ⟨k_q15 N,trivial⟩ (show E.P.funcs[34]?=some Tryz.f34 from by kernel_rfl) (by kernel_rfl)
theorem k_q50 (N:Nat):ConOk E ⟨35,ps_q50,rs_q50,q50 N⟩:=conOf envOk (x_q50 N) trivial (show E.P.funcs[35]?=some Tryz.f35 from by kernel_rfl) (by kernel_rfl)
theorem k_istrconv_FormatInt (N:Nat):ConOk E ⟨148,ps_istrconv_FormatInt,rs_istrconv_FormatInt,istrconv_FormatInt N⟩:=kh_istrconv_FormatInt N
theorem k_q51 (N:Nat):ConOk E ⟨84,ps_q51,rs_q51,q51 N⟩:=conOf envOk (x_q51 N) ⟨k_istrconv_FormatInt N,trivial⟩ (show E.P.funcs[84]?=some Tryz.f84 from by kernel_rfl) (by kernel_rfl)
theorem k_q52 (N:Nat):ConOk E ⟨37,ps_q52,rs_q52,q52 N⟩:=conOf envOk (x_q52 N) ⟨k_q51 N,trivial⟩ (show E.P.funcs[37]?=some Tryz.f37 from by kernel_rfl) (by kernel_rfl)
theorem k_q53 (N:Nat):ConOk E ⟨36,ps_q53,rs_q53,q53 N⟩:=conOf envOk (x_q53 N) ⟨k_q52 N,trivial⟩ (show E.P.funcs[36]?=some Tryz.f36 from by kernel_rfl) (by kernel_rfl)
theorem k_q54 (N:Nat):ConOk E ⟨33,ps_q54,rs_q54,q54 N⟩:=conOf envOk (x_q54 N) trivial (show E.P.funcs[33]?=some Tryz.f33 from by kernel_rfl) (by kernel_rfl)
theorem k_q55 (N:Nat):ConOk E ⟨12,ps_q55,rs_q55,q55 N⟩:=conOf envOk (x_q55 N) ⟨k_q48 N,k_q49 N,k_q50 N,k_q53 N,k_q54 N,k_q52 N,k_q27 N,trivial⟩ (show E.P.funcs[12]?=some Tryz.f12 from by kernel_rfl) (by kernel_rfl)
theorem k_q56 (N:Nat):ConOk E ⟨101,ps_q56,rs_q56,q56 N⟩:=conOf envOk (x_q56 N) trivial (show E.P.funcs[101]?=some Tryz.f101 from by kernel_rfl) (by kernel_rfl)
theorem k_q57 (N:Nat):ConOk E ⟨220,ps_q57,rs_q57,q57 N⟩:=conOf envOk (x_q57 N) trivial (show E.P.funcs[220]?=some Tryz.f220 from by kernel_rfl) (by kernel_rfl)
theorem k_q58 (N:Nat):ConOk E ⟨221,ps_q58,rs_q58,q58 N⟩:=conOf envOk (x_q58 N) ⟨k_q57 N,trivial⟩ (show E.P.funcs[221]?=some Tryz.f221 from by kernel_rfl) (by kernel_rfl)
theorem k_xml_Name (N:Nat):ConOk E ⟨166,ps_xml_Name,rs_xml_Name,xml_Name N⟩:=conOf envOk (x_xml_Name N) ⟨k_q57 N,k_q58 N,trivial⟩ (show E.P.funcs[166]?=some Tryz.f166 from by kernel_rfl) (by kernel_rfl)
theorem k_q59 (N:Nat):ConOk E ⟨102,ps_q59,rs_q59,q59 N⟩:=conOf envOk (x_q59 N) ⟨k_xml_Name N,k_q13 N,trivial⟩ (show E.P.funcs[102]?=some Tryz.f102 from by kernel_rfl) (by kernel_rfl)
theorem k_q60 (N:Nat):ConOk E ⟨103,ps_q60,rs_q60,q60 N⟩:=conOf envOk (x_q60 N) ⟨k_q13 N,trivial⟩ (show E.P.funcs[103]?=some Tryz.f103 from by kernel_rfl) (by kernel_rfl)
theorem k_q61 (N:Nat):ConOk E ⟨60,ps_q61,rs_q61,q61 N⟩:=conOf envOk (x_q61 N) ⟨k_q56 N,k_q59 N,k_q60 N,trivial⟩ (show E.P.funcs[60]?=some Tryz.f60 from by kernel_rfl) (by kernel_rfl)
theorem k_strings_Replace (N:Nat):ConOk E ⟨207,ps_strings_Replace,rs_strings_Replace,strings_Replace N⟩:=kh_strings_Replace N
theorem k_q62 (N:Nat):ConOk E ⟨147,ps_q62,rs_q62,q62 N⟩:=conOf envOk (x_q62 N) ⟨k_strings_Replace N,trivial⟩ (show E.P.funcs[147]?=some Tryz.f147 from by kernel_rfl) (by kernel_rfl)
theorem k_q63 (N:Nat):ConOk E ⟨80,ps_q63,rs_q63,q63 N⟩:=conOf envOk (x_q63 N) ⟨k_q62 N,trivial⟩ (show E.P.funcs[80]?=some Tryz.f80 from by kernel_rfl) (by kernel_rfl)
theorem k_q64 (N:Nat):ConOk E ⟨81,ps_q64,rs_q64,q64 N⟩:=conOf envOk (x_q64 N) trivial (show E.P.funcs[81]?=some Tryz.f81 from by kernel_rfl) (by kernel_rfl)
theorem k_q65 (N:Nat):ConOk E ⟨31,ps_q65,rs_q65,q65 N⟩:=conOf envOk (x_q65 N) ⟨k_q61 N,k_q31 N,k_q63 N,k_q64 N,trivial⟩ (show E.P.funcs[31]?=some Tryz.f31 from by kernel_rfl) (by kernel_rfl)
theorem k_q66 (N:Nat):ConOk E ⟨14,ps_q66,rs_q66,q66 N⟩:=conOf envOk (x_q66 N) ⟨k_q55 N,k_q65 N,trivial⟩ (show E.P.funcs[14]?=some Tryz.f14 from by kernel_rfl) (by kernel_rfl)
theorem k_l21_awake (N:Nat):ConOk E ⟨10,ps_l21_awake,rs_l21_awake,l21_awake N⟩:=conOf envOk (x_l21_awake N) ⟨k_q66 N,trivial⟩ (show E.P.funcs[10]?=some Tryz.f10 from by kernel_rfl) (by kernel_rfl)
theorem k_l21_nodes (N:Nat):ConOk E ⟨21,ps_l21_nodes,rs_l21_nodes,l21_nodes N⟩:=conOf envOk (x_l21_nodes N) trivial (show E.P.funcs[21]?=some Tryz.f21 from by kernel_rfl) (by kernel_rfl)
theorem k_q67 (N:Nat):ConOk E ⟨61,ps_q67,rs_q67,q67 N⟩:=conOf envOk (x_q67 N) trivial (show E.P.funcs[61]?=some Tryz.f61 from by kernel_rfl) (by kernel_rfl)
theorem k_q68 (N:Nat):ConOk E ⟨104,ps_q68,rs_q68,q68 N⟩:=conOf envOk (x_q68 N) trivial (show E.P.funcs[104]?=some Tryz.f104 from by kernel_rfl) (by kernel_rfl)
theorem k_q69 (N:Nat):ConOk E ⟨105,ps_q69,rs_q69,q69 N⟩:=conOf envOk (x_q69 N) trivial (show E.P.funcs[105]?=some Tryz.f105 from by kernel_rfl) (by kernel_rfl)
theorem k_q70 (N:Nat):ConOk E ⟨62,ps_q70,rs_q70,q70 N⟩:=conOf envOk (x_q70 N) ⟨k_q68 N,k_q69 N,trivial⟩ (show E.P.funcs[62]?=some Tryz.f62 from by kernel_rfl) (by kernel_rfl)
theorem k_q71 (N:Nat):ConOk E ⟨106,ps_q71,rs_q71,q71 N⟩:=conOf envOk (x_q71 N) trivial (show E.P.funcs[106]?=some Tryz.f106 from by kernel_rfl) (by kernel_rfl)
theorem k_q72 (N:Nat):ConOk E ⟨167,ps_q72,rs_q72,q72 N⟩:=conOf envOk (x_q72 N) trivial (show E.P.funcs[167]?=some Tryz.f167 from by kernel_rfl) (by kernel_rfl)
theorem k_q73 (N:Nat):ConOk E ⟨107,ps_q73,rs_q73,q73 N⟩:=conOf envOk (x_q73 N) ⟨k_q72 N,k_q49 N,trivial⟩ (show E.P.funcs[107]?=some Tryz.f107 from by kernel_rfl) (by kernel_rfl)
theorem k_q74 (N:Nat):ConOk E ⟨108,ps_q74,rs_q74,q74 N⟩:=conOf envOk (x_q74 N) trivial (show E.P.funcs[108]?=some Tryz.f108 from by kernel_rfl) (by kernel_rfl)
theorem k_q75 (N:Nat):ConOk E ⟨109,ps_q75,rs_q75,q75 N⟩:=conOf envOk (x_q75 N) ⟨k_q74 N,k_q71 N,trivial⟩ (show E.P.funcs[109]?=some Tryz.f109 from by kernel_rfl) (by kernel_rfl)
theorem k_q76 (N:Nat):ConOk E ⟨231,ps_q76,rs_q76,q76 N⟩:=conOf envOk (x_q76 N) trivial (show E.P.funcs[231]?=some Tryz.f231 from by kernel_rfl) (by kernel_rfl)
theorem k_q77 (N:Nat):ConOk E ⟨281,ps_q77,rs_q77,q77 N⟩:=conOf envOk (x_q77 N) ⟨k_q76 N,trivial⟩ (show E.P.funcs[281]?=some Tryz.f281 from by kernel_rfl) (by kernel_rfl)
theorem k_q78 (N:Nat):ConOk E ⟨255,ps_q78,rs_q78,q78 N⟩:=conOf envOk (x_q78 N) ⟨k_q77 N,trivial⟩ (show E.P.funcs[255]?=some Tryz.f255 from by kernel_rfl) (by kernel_rfl)
theorem k_strconv_ParseInt (N:Nat):ConOk E ⟨256,ps_strconv_ParseInt,rs_strconv_ParseInt,strconv_ParseInt N⟩:=kh_strconv_ParseInt N
theorem k_q79 (N:Nat):ConOk E ⟨222,ps_q79,rs_q79,q79 N⟩:=conOf envOk (x_q79 N) ⟨k_q78 N,k_strconv_ParseInt N,trivial⟩ (show E.P.funcs[222]?=some Tryz.f222 from by kernel_rfl) (by kernel_rfl)
theorem k_q80 (N:Nat):ConOk E ⟨168,ps_q80,rs_q80,q80 N⟩:=conOf envOk (x_q80 N) ⟨k_q79 N,k_q74 N,trivial⟩ (show E.P.funcs[168]?=some Tryz.f168 from by kernel_rfl) (by kernel_rfl)
theorem k_q81 (N:Nat):ConOk E ⟨110,ps_q81,rs_q81,q81 N⟩:=conOf envOk (x_q81 N) ⟨k_q71 N,k_q80 N,trivial⟩ (show E.P.funcs[110]?=some Tryz.f110 from by kernel_rfl) (by kernel_rfl)
theorem k_q82 (N:Nat):ConOk E ⟨111,ps_q82,rs_q82,q82 N⟩:=conOf envOk (x_q82 N) ⟨k_q81 N,trivial⟩ (show E.P.funcs[111]?=some Tryz.f111 from by kernel_rfl) (by kernel_rfl)
theorem k_q83 (N:Nat):ConOk E ⟨112,ps_q83,rs_q83,q83 N⟩:=conOf envOk (x_q83 N) ⟨k_q71 N,k_q74 N,trivial⟩ (show E.P.funcs[112]?=some Tryz.f112 from by kernel_rfl) (by kernel_rfl)
theorem k_q84 (N:Nat):ConOk E ⟨257,ps_q84,rs_q84,q84 N⟩:=conOf envOk (x_q84 N) trivial (show E.P.funcs[257]?=some Tryz.f257 from by kernel_rfl) (by kernel_rfl)
theorem k_q85 (N:Nat):ConOk E ⟨223,ps_q85,rs_q85,q85 N⟩:=conOf envOk (x_q85 N) ⟨k_q84 N,trivial⟩ (show E.P.funcs[223]?=some Tryz.f223 from by kernel_rfl) (by kernel_rfl)
theorem k_q86 (N:Nat):ConOk E ⟨169,ps_q86,rs_q86,q86 N⟩:=conOf envOk (x_q86 N) ⟨k_q85 N,trivial⟩ (show E.P.funcs[169]?=some Tryz.f169 from by kernel_rfl) (by kernel_rfl)
theorem k_q87 (N:Nat):ConOk E ⟨113,ps_q87,rs_q87,q87 N⟩:=conOf envOk (x_q87 N) ⟨k_q71 N,k_q86 N,k_q74 N,k_q80 N,trivial⟩ (show E.P.funcs[113]?=some Tryz.f113 from by kernel_rfl) (by kernel_rfl)
theorem k_q88 (N:Nat):ConOk E ⟨114,ps_q88,rs_q88,q88 N⟩:=conOf envOk (x_q88 N) ⟨k_q26 N,trivial⟩ (show E.P.funcs[114]?=some Tryz.f114 from by kernel_rfl) (by kernel_rfl)
theorem k_q89 (N:Nat):ConOk E ⟨115,ps_q89,rs_q89,q89 N⟩:=conOf envOk (x_q89 N) ⟨k_q83 N,trivial⟩ (show E.P.funcs[115]?=some Tryz.f115 from by kernel_rfl) (by kernel_rfl)
theorem k_ttml_add (N:Nat):ConOk E ⟨63,ps_ttml_add,rs_ttml_add,ttml_add N⟩:=conOfD envOk envOkD (x_ttml_add N) ⟨k_q71 N,k_q73 N,k_q74 N,k_q75 N,k_q81 N,k_q82 N,k_q83 N,k_q87 N,k_q88 N,k_q89 N,trivial⟩ (show E.P.funcs[63]?=some Tryz.f63 from by kernel_rfl) (by kernel_rfl)
theorem k_q90 (N:Nat):ConOk E ⟨22,ps_q90,rs_q90,q90 N⟩:=conOfD envOk envOkD (x_q90 N) ⟨k_q61 N,k_q67 N,k_q70 N,k_ttml_add N,k_q48 N,trivial⟩ (show E.P.funcs[22]?=some Tryz.f22 from by kernel_rfl) (by kernel_rfl)
theorem k_q91 (N:Nat):ConOk E ⟨258,ps_q91,rs_q91,q91 N⟩:=conOf envOk (x_q91 N) trivial (show E.P.funcs[258]?=some Tryz.f258 from by kernel_rfl) (by kernel_rfl)
theorem k_q92 (N:Nat):ConOk E ⟨259,ps_q92,rs_q92,q92 N⟩:=conOf envOk (x_q92 N) trivial (show E.P.funcs[259]?=some Tryz.f259 from by kernel_rfl) (by kernel_rfl)
theorem k_q93 (N:Nat):ConOk E ⟨224,ps_q93,rs_q93,q93 N⟩:=conOf envOk (x_q93 N) ⟨k_q91 N,k_q92 N,trivial⟩ (show E.P.funcs[224]?=some Tryz.f224 from by kernel_rfl) (by kernel_rfl)
theorem k_r20_Name (N:Nat):ConOk E ⟨170,ps_r20_Name,rs_r20_Name,r20_Name N⟩:=conOf envOk (x_r20_Name N) ⟨k_q93 N,trivial⟩ (show E.P.funcs[170]?=some Tryz.f170 from by kernel_rfl) (by kernel_rfl)
theorem k_q94 (N:Nat):ConOk E ⟨225,ps_q94,rs_q94,q94 N⟩:=conOf envOk (x_q94 N) trivial (show E.P.funcs[225]?=some Tryz.f225 from by kernel_rfl) (by kernel_rfl)
theorem k_q95 (N:Nat):ConOk E ⟨171,ps_q95,rs_q95,q95 N⟩:=conOf envOk (x_q95 N) ⟨k_q94 N,trivial⟩ (show E.P.funcs[171]?=some Tryz.f171 from by kernel_rfl) (by kernel_rfl)
theorem k_q96 (N:Nat):ConOk E ⟨117,ps_q96,rs_q96,q96 N⟩:=conOf envOk (x_q96 N) ⟨k_q95 N,trivial⟩ (show E.P.funcs[117]?=some Tryz.f117 from by kernel_rfl) (by kernel_rfl)
theorem k_q97 (N:Nat):ConOk E ⟨116,ps_q97,rs_q97,q97 N⟩:=conOf envOk (x_q97 N) ⟨k_r20_Name N,k_q96 N,trivial⟩ (show E.P.funcs[116]?=some Tryz.f116 from by kernel_rfl) (by kernel_rfl)
theorem k_q98 (N:Nat):ConOk E ⟨64,ps_q98,rs_q98,q98 N⟩:=conOf envOk (x_q98 N) ⟨k_q97 N,k_q96 N,trivial⟩ (show E.P.funcs[64]?=some Tryz.f64 from by kernel_rfl) (by kernel_rfl)
theorem k_q99 (N:Nat):ConOk E ⟨65,ps_q99,rs_q99,q99 N⟩:=conOf envOk (x_q99 N) trivial (show E.P.funcs[65]?=some Tryz.f65 from by kernel_rfl) (by kernel_rfl)
theorem k_q100 (N:Nat):ConOk E ⟨118,ps_q100,rs_q100,q100 N⟩:=conOf envOk (x_q100 N) trivial (show E.P.funcs[118]?=some Tryz.f118 from by kernel_rfl) (by kernel_rfl)
theorem k_q101 (N:Nat):ConOk E ⟨172,ps_q101,rs_q101,q101 N⟩:=conOf envOk (x_q101 N) trivial (show E.P.funcs[172]?=some Tryz.f172 from by kernel_rfl) (by kernel_rfl)
theorem k_r21_has (N:Nat):ConOk E ⟨119,ps_r21_has,rs_r21_has,r21_has N⟩:=conOf envOk (x_r21_has N) ⟨k_q101 N,trivial⟩ (show E.P.funcs[119]?=some Tryz.f119 from by kernel_rfl) (by kernel_rfl)
theorem k_r21_fits (N:Nat):ConOk E ⟨66,ps_r21_fits,rs_r21_fits,r21_fits N⟩:=conOf envOk (x_r21_fits N) ⟨k_q100 N,k_r21_has N,trivial⟩ (show E.P.funcs[66]?=some Tryz.f66 from by kernel_rfl) (by kernel_rfl)
theorem k_r20_Attr (N:Nat):ConOk E ⟨173,ps_r20_Attr,rs_r20_Attr,r20_Attr N⟩:=conOf envOk (x_r20_Attr N) trivial (show E.P.funcs[173]?=some Tryz.f173 from by kernel_rfl) (by kernel_rfl)
theorem k_q102 (N:Nat):ConOk E ⟨120,ps_q102,rs_q102,q102 N⟩:=conOfD envOk envOkD (x_q102 N) ⟨k_r20_Attr N,trivial⟩ (show E.P.funcs[120]?=some Tryz.f120 from by kernel_rfl) (by kernel_rfl)
theorem k_q103 (N:Nat):ConOk E ⟨174,ps_q103,rs_q103,q103 N⟩:=conOf envOk (x_q103 N) trivial (show E.P.funcs[174]?=some Tryz.f174 from by kernel_rfl) (by kernel_rfl)
theorem k_q104 (N:Nat):ConOk E ⟨92,ps_q104,rs_q104,q104 N⟩:=conOf envOk (x_q104 N) trivial (show E.P.funcs[92]?=some Tryz.f92 from by kernel_rfl) (by kernel_rfl)
theorem k_r02_Name (N:Nat):ConOk E ⟨42,ps_r02_Name,rs_r02_Name,r02_Name N⟩:=conOf envOk (x_r02_Name N) ⟨k_q104 N,trivial⟩ (show E.P.funcs[42]?=some Tryz.f42 from by kernel_rfl) (by kernel_rfl)
theorem k_q105 (N:Nat):ConOk E ⟨121,ps_q105,rs_q105,q105 N⟩:=conOf envOk (x_q105 N) ⟨k_q103 N,k_r02_Name N,trivial⟩ (show E.P.funcs[121]?=some Tryz.f121 from by kernel_rfl) (by kernel_rfl)
theorem k_q106 (N:Nat):ConOk E ⟨122,ps_q106,rs_q106,q106 N⟩:=conOfD envOk envOkD (x_q106 N) trivial (show E.P.funcs[122]?=some Tryz.f122 from by kernel_rfl) (by kernel_rfl)
theorem k_q107 (N:Nat):ConOk E ⟨125,ps_q107,rs_q107,q107 N⟩:=conOfD envOk envOkD (x_q107 N) ⟨k_r20_Attr N,k_q101 N,k_q106 N,trivial⟩ (show E.P.funcs[125]?=some Tryz.f125 from by kernel_rfl) (by kernel_rfl)
theorem k_q108 (N:Nat):ConOk E ⟨123,ps_q108,rs_q108,q108 N⟩:=conOfD envOk envOkD (x_q108 N) ⟨k_q107 N,trivial⟩ (show E.P.funcs[123]?=some Tryz.f123 from by kernel_rfl) (by kernel_rfl)
theorem k_q109 (N:Nat):ConOk E ⟨212,ps_q109,rs_q109,q109 N⟩:=conOf envOk (x_q109 N) trivial (show E.P.funcs[212]?=some Tryz.f212 from by kernel_rfl) (by kernel_rfl)
theorem k_q110 (N:Nat):ConOk E ⟨175,ps_q110,rs_q110,q110 N⟩:=conOf envOk (x_q110 N) ⟨k_q109 N,trivial⟩ (show E.P.funcs[175]?=some Tryz.f175 from by kernel_rfl) (by kernel_rfl)
theorem k_q111 (N:Nat):ConOk E ⟨124,ps_q111,rs_q111,q111 N⟩:=conOfD envOk envOkD (x_q111 N) ⟨k_q102 N,k_q110 N,k_q106 N,trivial⟩ (show E.P.funcs[124]?=some Tryz.f124 from by kernel_rfl) (by kernel_rfl)
theorem k_q112 (N:Nat):ConOk E ⟨67,ps_q112,rs_q112,q112 N⟩:=conOfD envOk envOkD (x_q112 N) ⟨k_q102 N,k_q105 N,k_q106 N,k_q108 N,k_q111 N,trivial⟩ (show E.P.funcs[67]?=some Tryz.f67 from by kernel_rfl) (by kernel_rfl)
theorem k_q113 (N:Nat):ConOk E ⟨45,ps_q113,rs_q113,q113 N⟩:=conOf envOk (x_q113 N) trivial (show E.P.funcs[45]?=some Tryz.f45 from by kernel_rfl) (by kernel_rfl)
theorem k_q114 (N:Nat):ConOk E ⟨68,ps_q114,rs_q114,q114 N⟩:=conOfD envOk envOkD (x_q114 N) ⟨k_q102 N,k_q111 N,k_q113 N,k_q107 N,trivial⟩ (show E.P.funcs[68]?=some Tryz.f68 from by kernel_rfl) (by kernel_rfl)
theorem k_q115 (N:Nat):ConOk E ⟨126,ps_q115,rs_q115,q115 N⟩:=conOfD envOk envOkD (x_q115 N) ⟨k_q102 N,k_q106 N,k_q110 N,trivial⟩ (show E.P.funcs[126]?=some Tryz.f126 from by kernel_rfl) (by kernel_rfl)
theorem k_q116 (N:Nat):ConOk E ⟨93,ps_q116,rs_q116,q116 N⟩:=conOf envOk (x_q116 N) trivial (show E.P.funcs[93]?=some Tryz.f93 from by kernel_rfl) (by kernel_rfl)
theorem k_q117 (N:Nat):ConOk E ⟨127,ps_q117,rs_q117,q117 N⟩:=conOf envOk (x_q117 N) ⟨k_q116 N,trivial⟩ (show E.P.funcs[127]?=some Tryz.f127 from by kernel_rfl) (by kernel_rfl)
theorem k_q118 (N:Nat):ConOk E ⟨69,ps_q118,rs_q118,q118 N⟩:=conOfD envOk envOkD (x_q118 N) ⟨k_q111 N,k_q115 N,k_q102 N,k_q117 N,k_q106 N,trivial⟩ (show E.P.funcs[69]?=some Tryz.f69 from by kernel_rfl) (by kernel_rfl)
theorem k_q119 (N:Nat):ConOk E ⟨48,ps_q119,rs_q119,q119 N⟩:=conOf envOk (x_q119 N) trivial (show E.P.funcs[48]?=some Tryz.f48 from by kernel_rfl) (by kernel_rfl)
theorem k_q120 (N:Nat):ConOk E ⟨70,ps_q120,rs_q120,q120 N⟩:=conOfD envOk envOkD (x_q120 N) ⟨k_q119 N,k_q107 N,k_q108 N,k_q102 N,trivial⟩ (show E.P.funcs[70]?=some Tryz.f70 from by kernel_rfl) (by kernel_rfl)
theorem k_r07_Name (N:Nat):ConOk E ⟨149,ps_r07_Name,rs_r07_Name,r07_Name N⟩:=conOf envOk (x_r07_Name N) ⟨k_q109 N,trivial⟩ (show E.P.funcs[149]?=some Tryz.f149 from by kernel_rfl) (by kernel_rfl)
theorem k_q121 (N:Nat):ConOk E ⟨150,ps_q121,rs_q121,q121 N⟩:=conOf envOk (x_q121 N) trivial (show E.P.funcs[150]?=some Tryz.f150 from by kernel_rfl) (by kernel_rfl)
theorem k_q122 (N:Nat):ConOk E ⟨86,ps_q122,rs_q122,q122 N⟩:=conOf envOk (x_q122 N) ⟨k_q96 N,k_r07_Name N,k_q104 N,k_q121 N,trivial⟩ (show E.P.funcs[86]?=some Tryz.f86 from by kernel_rfl) (by kernel_rfl)
theorem k_q123 (N:Nat):ConOk E ⟨151,ps_q123,rs_q123,q123 N⟩:=conOf envOk (x_q123 N) ⟨k_r07_Name N,trivial⟩ (show E.P.funcs[151]?=some Tryz.f151 from by kernel_rfl) (by kernel_rfl)
theorem k_q124 (N:Nat):ConOk E ⟨87,ps_q124,rs_q124,q124 N⟩:=conOf envOk (x_q124 N) ⟨k_q123 N,trivial⟩ (show E.P.funcs[87]?=some Tryz.f87 from by kernel_rfl) (by kernel_rfl)
theorem k_q125 (N:Nat):ConOk E ⟨152,ps_q125,rs_q125,q125 N⟩:=conOf envOk (x_q125 N) trivial (show E.P.funcs[152]?=some Tryz.f152 from by kernel_rfl) (by kernel_rfl)
theorem k_q126 (N:Nat):ConOk E ⟨213,ps_q126,rs_q126,q126 N⟩:=conOf envOk (x_q126 N) trivial (show E.P.funcs[213]?=some Tryz.f213 from by kernel_rfl) (by kernel_rfl)
theorem k_r10_Find (N:Nat):ConOk E ⟨153,ps_r10_Find,rs_r10_Find,r10_Find N⟩:=conOf envOk (x_r10_Find N) ⟨k_q126 N,trivial⟩ (show E.P.funcs[153]?=some Tryz.f153 from by kernel_rfl) (by kernel_rfl)
theorem k_q127 (N:Nat):ConOk E ⟨214,ps_q127,rs_q127,q127 N⟩:=conOf envOk (x_q127 N) trivial (show E.P.funcs[214]?=some Tryz.f214 from by kernel_rfl) (by kernel_rfl)
theorem k_q128 (N:Nat):ConOk E ⟨154,ps_q128,rs_q128,q128 N⟩:=conOf envOk (x_q128 N) ⟨k_q96 N,k_q127 N,trivial⟩ (show E.P.funcs[154]?=some Tryz.f154 from by kernel_rfl) (by kernel_rfl)
theorem k_q129 (N:Nat):ConOk E ⟨156,ps_q129,rs_q129,q129 N⟩:=conOf envOk (x_q129 N) trivial (show E.P.funcs[156]?=some Tryz.f156 from by kernel_rfl) (by kernel_rfl)
theorem k_r11_neat (N:Nat):ConOk E ⟨155,ps_r11_neat,rs_r11_neat,r11_neat N⟩:=conOf envOk (x_r11_neat N) trivial (show E.P.funcs[155]?=some Tryz.f155 from by kernel_rfl) (by kernel_rfl)
theorem k_q130 (N:Nat):ConOk E ⟨254,ps_q130,rs_q130,q130 N⟩:=conOf envOk (x_q130 N) trivial (show E.P.funcs[254]?=some Tryz.f254 from by kernel_rfl) (by kernel_rfl)
theorem k_r08_Len (N:Nat):ConOk E ⟨215,ps_r08_Len,rs_r08_Len,r08_Len N⟩:=conOf envOk (x_r08_Len N) ⟨k_q96 N,k_q130 N,trivial⟩ (show E.P.funcs[215]?=some Tryz.f215 from by kernel_rfl) (by kernel_rfl)
theorem k_r09_Len (N:Nat):ConOk E ⟨157,ps_r09_Len,rs_r09_Len,r09_Len N⟩:=conOf envOk (x_r09_Len N) ⟨k_r08_Len N,trivial⟩ (show E.P.funcs[157]?=some Tryz.f157 from by kernel_rfl) (by kernel_rfl)
theorem k_q131 (N:Nat):ConOk E ⟨216,ps_q131,rs_q131,q131 N⟩:=conOf envOk (x_q131 N) ⟨k_q123 N,k_q126 N,trivial⟩ (show E.P.funcs[216]?=some Tryz.f216 from by kernel_rfl) (by kernel_rfl)
theorem k_q132 (N:Nat):ConOk E ⟨158,ps_q132,rs_q132,q132 N⟩:=conOf envOk (x_q132 N) ⟨k_q131 N,trivial⟩ (show E.P.funcs[158]?=some Tryz.f158 from by kernel_rfl) (by kernel_rfl)
theorem k_q133 (N:Nat):ConOk E ⟨88,ps_q133,rs_q133,q133 N⟩:=conOf envOk (x_q133 N) ⟨k_q125 N,k_r10_Find N,k_r07_Name N,k_q128 N,k_q129 N,k_r11_neat N,k_r09_Len N,k_q132 N,trivial⟩ (show E.P.funcs[88]?=some Tryz.f88 from by kernel_rfl) (by kernel_rfl)
theorem k_r11_Less (N:Nat):ConOk E ⟨89,ps_r11_Less,rs_r11_Less,r11_Less N⟩:=conOf envOk (x_r11_Less N) trivial (show E.P.funcs[89]?=some Tryz.f89 from by kernel_rfl) (by kernel_rfl)
theorem k_r12_Find (N:Nat):ConOk E ⟨90,ps_r12_Find,rs_r12_Find,r12_Find N⟩:=conOf envOk (x_r12_Find N) trivial (show E.P.funcs[90]?=some Tryz.f90 from by kernel_rfl) (by kernel_rfl)
theorem k_r11_Len (N:Nat):ConOk E ⟨159,ps_r11_Len,rs_r11_Len,r11_Len N⟩:=conOf envOk (x_r11_Len N) ⟨k_r09_Len N,trivial⟩ (show E.P.funcs[159]?=some Tryz.f159 from by kernel_rfl) (by kernel_rfl)
theorem k_q134 (N:Nat):ConOk E ⟨91,ps_q134,rs_q134,q134 N⟩:=conOf envOk (x_q134 N) ⟨k_r12_Find N,k_r11_Len N,k_r07_Name N,k_q96 N,trivial⟩ (show E.P.funcs[91]?=some Tryz.f91 from by kernel_rfl) (by kernel_rfl)
theorem k_q135 (N:Nat):ConOk E ⟨39,ps_q135,rs_q135,q135 N⟩:=conOf envOk (x_q135 N) ⟨k_q122 N,k_q124 N,k_q133 N,k_r11_Less N,k_r12_Find N,k_q134 N,trivial⟩ (show E.P.funcs[39]?=some Tryz.f39 from by kernel_rfl) (by kernel_rfl)
theorem k_q136 (N:Nat):ConOk E ⟨23,ps_q136,rs_q136,q136 N⟩:=conOfD envOk envOkD (x_q136 N) ⟨k_q98 N,k_q99 N,k_r21_fits N,k_q112 N,k_q114 N,k_q118 N,k_q120 N,k_q135 N,trivial⟩ (show E.P.funcs[23]?=some Tryz.f23 from by kernel_rfl) (by kernel_rfl)
theorem k_q137 (N:Nat):ConOk E ⟨53,ps_q137,rs_q137,q137 N⟩:=conOf envOk (x_q137 N) trivial (show E.P.funcs[53]?=some Tryz.f53 from by kernel_rfl) (by kernel_rfl)
theorem k_q138 (N:Nat):ConOk E ⟨54,ps_q138,rs_q138,q138 N⟩:=conOf envOk (x_q138 N) trivial (show E.P.funcs[54]?=some Tryz.f54 from by kernel_rfl) (by kernel_rfl)
theorem k_q139 (N:Nat):ConOk E ⟨217,ps_q139,rs_q139,q139 N⟩:=conOf envOk (x_q139 N) trivial (show E.P.funcs[217]?=some Tryz.f217 from by kernel_rfl) (by kernel_rfl)
theorem k_q140 (N:Nat):ConOk E ⟨163,ps_q140,rs_q140,q140 N⟩:=conOf envOk (x_q140 N) ⟨k_q139 N,trivial⟩ (show E.P.funcs[163]?=some Tryz.f163 from by kernel_rfl) (by kernel_rfl)
theorem k_q141 (N:Nat):ConOk E ⟨162,ps_q141,rs_q141,q141 N⟩:=conOf envOk (x_q141 N) ⟨k_q140 N,trivial⟩ (show E.P.funcs[162]?=some Tryz.f162 from by kernel_rfl) (by kernel_rfl)
theorem k_q142 (N:Nat):ConOk E ⟨95,ps_q142,rs_q142,q142 N⟩:=conOf envOk (x_q142 N) ⟨k_q141 N,k_q140 N,trivial⟩ (show E.P.funcs[95]?=some Tryz.f95 from by kernel_rfl) (by kernel_rfl)
theorem k_q143 (N:Nat):ConOk E ⟨56,ps_q143,rs_q143,q143 N⟩:=conOf envOk (x_q143 N) ⟨k_q142 N,trivial⟩ (show E.P.funcs[56]?=some Tryz.f56 from by kernel_rfl) (by kernel_rfl)
theorem k_q144 (N:Nat):ConOk E ⟨55,ps_q144,rs_q144,q144 N⟩:=conOf envOk (x_q144 N) ⟨k_q143 N,trivial⟩ (show E.P.funcs[55]?=some Tryz.f55 from by kernel_rfl) (by kernel_rfl)
theorem k_q145 (N:Nat):ConOk E ⟨57,ps_q145,rs_q145,q145 N⟩:=conOf envOk (x_q145 N) trivial (show E.P.funcs[57]?=some Tryz.f57 from by kernel_rfl) (by kernel_rfl)
theorem k_q146 (N:Nat):ConOk E ⟨18,ps_q146,rs_q146,q146 N⟩:=conOf envOk (x_q146 N) ⟨k_q137 N,k_q138 N,k_q144 N,k_q143 N,k_q145 N,trivial⟩ (show E.P.funcs[18]?=some Tryz.f18 from by kernel_rfl) (by kernel_rfl)
theorem k_l21_TtmlBuilds (N:Nat):ConOk E ⟨4,ps_l21_TtmlBuilds,rs_l21_TtmlBuilds,l21_TtmlBuilds N⟩:=conOf envOk (x_l21_TtmlBuilds N) ⟨k_l21_awake N,k_l21_nodes N,k_q90 N,k_q136 N,k_q146 N,trivial⟩ (show E.P.funcs[4]?=some Tryz.f4 from by kernel_rfl) (by kernel_rfl)
end
end Go.Mo
end

section
/-
  Plain facts: what strings.Replace does at a letter.
-/
namespace Go.Mo
open Go Go.Lib
set_option maxRecDepth 100000
end Go.Mo
namespace Go.Mo
open Go Go.Lib
end Go.Mo
end

section
/-
  Plain facts of earlier chapters, put together by a program.
-/
set_option linter.all false
section
/-
 Plain facts on the words of models; what is made of bytes.
-/
namespace Go.Mo
open Go Go.W
theorem grd_t {α:Type} {b:Bool} {k:Option α} (h:b=true):grd b k=k:=by subst h; rfl
theorem cnd_t {α:Type} {b:Bool} {x y:Option α} (h:b=true):cnd b x y=x:=by subst h; rfl
theorem cnd_f {α:Type} {b:Bool} {x y:Option α} (h:b=false):cnd b x y=y:=by subst h; rfl
theorem bnd_s {α β:Type} {x:Option α} {a:α} {k:α→Option β} (h:x=some a):bnd x k=k a:=by subst h; rfl
theorem jn_e {F α:Type} {k:F} {t:F→Option α}:jn k t=t k:=rfl
theorem fixN_s {V R:Type} {F:(V→Option R)→V→Option R} {n:Nat} {v:V}:fixN F (n+1) v=F (fixN F n) v:=rfl
theorem w64_id {x:Int} (h:-9223372036854775808≤x∧x≤9223372036854775807):w64 x=x:=by
 show IntKind.wrap .i64 x=x
 unfold IntKind.wrap
 simp only [IntKind.bits,IntKind.signed,Bool.true_and,decide_eq_true_eq,show (2:Int) ^ 64=18446744073709551616 from rfl,show (2:Int) ^ (64 - 1)=9223372036854775808 from rfl]
 split<;>omega
theorem ilt_t {a b:Int} (h:a<b):ilt a b=true:=decide_eq_true h
theorem ilt_f {a b:Int} (h:¬ a<b):ilt a b=false:=decide_eq_false h
theorem ile_t {a b:Int} (h:a≤b):ile a b=true:=decide_eq_true h
theorem ile_f {a b:Int} (h:¬ a≤b):ile a b=false:=decide_eq_false h
theorem ieq_t {a b:Int} (h:a=b):ieq a b=true:=by subst h; simp [ieq]
theorem ieq_f {a b:Int} (h:a≠b):ieq a b=false:=by simp [ieq,h]
theorem ine_t {a b:Int} (h:a≠b):ine a b=true:=by simp [ine,h]
theorem ine_f {a b:Int} (h:a=b):ine a b=false:=by simp [ine,h]
theorem inb_t {i n:Int} (h:0≤i∧i<n):inb i n=true:=decide_eq_true h
theorem in2_t {i n:Int} (h:0≤i∧i≤n):in2 i n=true:=decide_eq_true h
theorem room_t {n:Int} {b:Nat} (h:n * b≤140737488355328):room n b=true:=decide_eq_true h
theorem n8_inj {a b:UInt8} (h:n8 a=n8 b):a=b:=by
 unfold n8 at h
 apply UInt8.toNat_inj.1
 omega
end Go.Mo
end
section
/-
 Plain facts: rates,labels,the repertoire of characters.
-/
namespace Go.Mo
open Go Go.W
set_option maxRecDepth 100000
theorem all_u8 {P:UInt8→Bool} (h:((List.range 256).all fun n=>P (UInt8.ofNat n))=true) (x:UInt8):P x=true:=by
 have h1:x.toNat<256:=x.toNat_lt
 have:=List.all_eq_true.1 h x.toNat (List.mem_range.2 h1)
 simpa using this
end Go.Mo
end
section
/-
 Plain facts: the repertoire of characters.
-/
namespace Go.Mo
open Go Go.W
set_option maxRecDepth 100000
noncomputable def fuelM:Nat:=Classical.choose (⟨7995000,rfl⟩:∃ n:Nat,n=7995000)
noncomputable def fuelH:Nat:=fuelM+5000
theorem fuelH_eq:fuelH=8000000:=by
 have h:fuelM=7995000:=Classical.choose_spec (⟨7995000,rfl⟩:∃ n:Nat,n=7995000)
 unfold fuelH
 rw [h]
def hiRunes:List Int:=[161,162,163,164,165,166,167,169,171,174,176,183,187,189,191,192,193,194,195,196,197,198,199,200,201,202,203,204,205,206,207,209,210,211,212,213,214,216,217,218,219,220,223,224,225,226,227,228,229,230,231,232,233,234,235,236,237,238,239,241,242,243,244,245,246,248,249,250,251,252,338,339,8212,8216,8217,8220,8221,8226,8230,8482,9834]
def loRunes:List Int:=(List.range 95).map fun n=>((n+32:Nat):Int)
def chain:List Int→Int→Int→Option Int
 | [],_,_=>some (-1)
 | c::l,i,r=>cnd (ieq c r) (some i) (chain l (iadd i 1) r)
def rep:List UInt8:=[32,33,34,35,36,37,38,39,40,41,42,43,44,45,46,47,48,49,50,51,52,53,54,55,56,57,58,59,60,61,62,63,64,65,66,67,68,69,70,71,72,73,74,75,76,77,78,79,80,81,82,83,84,85,86,87,88,89,90,91,92,93,94,95,96,97,98,99,100,101,102,103,104,105,106,107,108,109,110,111,112,113,114,115,116,117,118,119,120,121,122,123,124,125,126,194,161,194,162,194,163,194,164,194,165,194,166,194,167,194,169,194,171,194,174,194,176,194,183,194,187,194,189,194,191,195,128,195,129,195,130,195,131,195,132,195,133,195,134,195,135,195,136,195,137,195,138,195,139,195,140,195,141,195,142,195,143,195,145,195,146,195,147,195,148,195,149,195,150,195,152,195,153,195,154,195,155,195,156,195,159,195,160,195,161,195,162,195,163,195,164,195,165,195,166,195,167,195,168,195,169,195,170,195,171,195,172,195,173,195,174,195,175,195,177,195,178,195,179,195,180,195,181,195,182,195,184,195,185,195,186,195,187,195,188,197,146,197,147,226,128,148,226,128,152,226,128,153,226,128,156,226,128,157,226,128,162,226,128,166,226,132,162,226,153,170]
theorem place_eqN (N:Nat) (r:Int):q11 (N+300) (rep,r)=chain (loRunes++hiRunes) 0 r:=by kernel_rfl
theorem place_eq (r:Int):q11 fuelH (rep,r)=chain (loRunes++hiRunes) 0 r:=place_eqN (fuelM+4700) r
theorem r08_indexN (N:Nat) (r:Int):q95 N r=cnd (ile 32 r) (cnd (ile r 126) (some (w64 (wr .i32 (isub r 32)))) (q11 N (rep,r))) (q11 N (rep,r)):=by kernel_rfl
theorem r08_index (r:Int):q95 fuelH r=cnd (ile 32 r) (cnd (ile r 126) (some (w64 (wr .i32 (isub r 32)))) (q11 fuelH (rep,r))) (q11 fuelH (rep,r)):=r08_indexN fuelH r
theorem ch_indexN (N:Nat) (r:Int):q12 N r=cnd (ile 32 r) (cnd (ile r 126) (some (w64 (wr .i32 (isub r 32)))) (bnd (q11 N (rep,r)) fun v=>some v)) (bnd (q11 N (rep,r)) fun v=>some v):=by kernel_rfl
theorem ch_index (r:Int):q12 fuelH r=cnd (ile 32 r) (cnd (ile r 126) (some (w64 (wr .i32 (isub r 32)))) (bnd (q11 fuelH (rep,r)) fun v=>some v)) (bnd (q11 fuelH (rep,r)) fun v=>some v):=ch_indexN fuelH r
theorem chain_ok:∀ (l:List Int) (i r:Int),0≤i→∃ k,chain l i r=some k∧(k<0↔l.contains r=false)
 | [],i,r,_=>⟨-1,rfl,by simp⟩
 | c::l,i,r,h=>by
  by_cases hc:c=r
  ·exact ⟨i,by simp only [chain]; rw [cnd_t (ieq_t hc)],by subst hc; simp; omega⟩
  ·obtain ⟨k,h1,h2⟩:=chain_ok l (iadd i 1) r (by show 0≤i+1; omega)
   refine ⟨k,by simp only [chain]; rw [cnd_f (ieq_f hc)]; exact h1,?_⟩
   rw [h2]
   simp only [List.contains_cons,Bool.or_eq_false_iff]
   exact ⟨fun h=>⟨by simpa using fun e=>hc e.symm,h⟩,fun h=>h.2⟩
def inRep (r:Int):Bool:=(decide (32≤r) && decide (r≤126)) || hiRunes.contains r
theorem wi32_id {x:Int} (h:0≤x∧x<1000):wr .i32 x=x:=by
 show IntKind.wrap .i32 x=x
 unfold IntKind.wrap
 simp only [IntKind.bits,IntKind.signed,Bool.true_and,decide_eq_true_eq,show (2:Int) ^ 32=4294967296 from rfl,show (2:Int) ^ (32 - 1)=2147483648 from rfl]
 split<;>omega
theorem lo_mem (r:Int):loRunes.contains r=(decide (32≤r) && decide (r≤126)):=by
 rw [Bool.eq_iff_iff]
 simp only [loRunes,List.contains_iff_mem,List.mem_map,List.mem_range,Bool.and_eq_true,decide_eq_true_eq]
 constructor
 ·rintro ⟨n,hn,rfl⟩; omega
 ·intro h; exact ⟨(r - 32).toNat,by omega,by omega⟩
theorem index_some (r:Int):∃ i,q12 fuelH r=some i∧q95 fuelH r=some i∧(i<0↔inRep r=false):=by
 rw [ch_index,r08_index,place_eq]
 obtain ⟨k,h1,h2⟩:=chain_ok (loRunes++hiRunes) 0 r (Int.le_refl _)
 have hin:(loRunes++hiRunes).contains r=inRep r:=by
  unfold inRep
  rw [← lo_mem]
  simp [List.contains_eq_mem,List.mem_append]
 rw [hin] at h2
 by_cases ha:32≤r
 ·rw [cnd_t (ile_t ha),cnd_t (ile_t ha)]
  by_cases hb:r≤126
  ·rw [cnd_t (ile_t hb),cnd_t (ile_t hb)]
   refine ⟨_,rfl,rfl,?_⟩
   have:w64 (wr .i32 (isub r 32))=r - 32:=by
    simp only [isub]
    rw [wi32_id (by omega),w64_id (by omega)]
   rw [this]
   simp [inRep,ha,hb]
  ·rw [cnd_f (ile_f hb),cnd_f (ile_f hb)]
   exact ⟨k,by rw [bnd_s h1],h1,h2⟩
 ·rw [cnd_f (ile_f ha),cnd_f (ile_f ha)]
  exact ⟨k,by rw [bnd_s h1],h1,h2⟩
theorem index_stl (r:Int):∃ i,q12 fuelH r=some i∧(i<0↔inRep r=false):=by
 rw [ch_index,place_eq]
 obtain ⟨k,h1,h2⟩:=chain_ok (loRunes++hiRunes) 0 r (Int.le_refl _)
 have hin:(loRunes++hiRunes).contains r=inRep r:=by
  unfold inRep
  rw [← lo_mem]
  simp [List.contains_eq_mem,List.mem_append]
 rw [hin] at h2
 by_cases ha:32≤r
 ·rw [cnd_t (ile_t ha)]
  by_cases hb:r≤126
  ·rw [cnd_t (ile_t hb)]
   refine ⟨_,rfl,?_⟩
   have:w64 (wr .i32 (isub r 32))=r - 32:=by
    simp only [isub]
    rw [wi32_id (by omega),w64_id (by omega)]
   rw [this]
   simp [inRep,ha,hb]
  ·rw [cnd_f (ile_f hb)]
   exact ⟨k,by rw [bnd_s h1],h2⟩
 ·rw [cnd_f (ile_f ha)]
  exact ⟨k,by rw [bnd_s h1],h2⟩
end Go.Mo
end
section
/-
 Plain facts: texts of the repertoire.
-/
namespace Go.Mo
open Go Go.W Go.Lib
set_option maxRecDepth 100000
theorem dec_pos (l:List UInt8):1≤(decodeL l).2:=by
 unfold decodeL Utf8.decode
 simp only
 repeat' split
 all_goals first | exact Nat.le_refl _ | (show 1≤_; omega)
theorem decR_eq (s:List UInt8) (p:Nat):decR s p=((decodeL (s.drop p)).1:Int):=by
 have:=decodeL_drop (bst s) p
 have e:(bst s).data.toList=s:=rfl
 rw [e] at this
 unfold decR
 rw [this]
theorem decW_eq (s:List UInt8) (p:Nat):decW s p=(decodeL (s.drop p)).2:=by
 have:=decodeL_drop (bst s) p
 have e:(bst s).data.toList=s:=rfl
 rw [e] at this
 unfold decW
 rw [this]
def rok:Nat→List UInt8→Bool
 | 0,_=>true
 | n+1,l=>if l=[] then true else if inRep ((decodeL l).1:Int)=true then rok n (l.drop (decodeL l).2) else false
def vld (l:List UInt8):Bool:=rok l.length l
theorem rok_nil:∀ n,rok n []=true
 | 0=>rfl
 | n+1=>by simp [rok]
theorem rok_fuel:∀ (n m:Nat) (l:List UInt8),l.length≤n→l.length≤m→rok n l=rok m l
 | 0,m,l,h,_=>by
  have:l=[]:=List.eq_nil_of_length_eq_zero (by omega)
  subst this
  rw [rok_nil,rok_nil]
 | n+1,0,l,_,h=>by
  have:l=[]:=List.eq_nil_of_length_eq_zero (by omega)
  subst this
  rw [rok_nil,rok_nil]
 | n+1,m+1,l,h1,h2=>by
  by_cases hl:l=[]
  ·subst hl; rw [rok_nil,rok_nil]
  ·have hp:=dec_pos l
   have hlen:0<l.length:=List.length_pos_iff.2 hl
   simp only [rok,hl,if_false]
   split
   ·exact rok_fuel n m _ (by simp; omega) (by simp; omega)
   ·rfl
theorem vld_step (l:List UInt8) (hl:l≠[]):vld l=if inRep ((decodeL l).1:Int)=true then vld (l.drop (decodeL l).2) else false:=by
 have hp:=dec_pos l
 have hlen:0<l.length:=List.length_pos_iff.2 hl
 unfold vld
 obtain ⟨n,hn⟩:∃ n,l.length=n+1:=⟨l.length - 1,by omega⟩
 rw [hn]
 simp only [rok,hl,if_false]
 split
 ·exact rok_fuel _ _ _ (by simp; omega) (Nat.le_refl _)
 ·rfl
theorem vld_valid:∀ (n:Nat) (l:List UInt8),l.length≤n→vld l=true→validD l=true
 | n,l,h,hv=>by
  by_cases hl:l=[]
  ·subst hl; rfl
  ·have hlen:0<l.length:=List.length_pos_iff.2 hl
   have hp:=dec_pos l
   rw [vld_step l hl] at hv
   split at hv
   ·rename_i hr
    rw [validD_step l hl,if_neg ?_]
    ·cases n with
     | zero=>omega
     | succ n=>exact vld_valid n _ (by simp; omega) hv
    ·rintro ⟨e,_⟩
     rw [e] at hr
     exact absurd hr (by decide)
   ·cases hv
theorem valid_loop {s:List UInt8} (hs:s.length≤100000000) (Ix:Int→Option Int) (hI:∀ r:Int,∃ i,Ix r=some i∧(i<0↔inRep r=false)):∀ (fuel p:Nat),s.length - p<fuel→p≤s.length →
  fixN (fun v2 (v3:(List UInt8)×Int) =>
  cnd (nlt (toN v3.2) (nlen v3.1))
   (bnd (Ix (decR v3.1 (toN v3.2))) fun v4 =>
   cnd (ilt v4 (0:Int))
    (some false)
    (v2 (v3.1,ofN (nadd (toN v3.2) (decW v3.1 (toN v3.2))))))
   (some true)) fuel (s,ofN p)=some (vld (s.drop p))
 | 0,p,h,_=>by omega
 | fuel+1,p,h,hp=>by
  rw [fixN_s]
  have et:toN (ofN p)=p:=by simp [toN,ofN]
  simp only [et]
  by_cases hl:p<s.length
  ·have hne:s.drop p≠[]:=by intro e; have:=congrArg List.length e; simp at this; omega
   have hw:=dec_pos (s.drop p)
   have hle:=decodeL_le (s.drop p) hne
   rw [List.length_drop] at hle
   rw [cnd_t (show nlt p (nlen s)=true from decide_eq_true hl)]
   obtain ⟨i,h1,h2⟩:=hI (decR s p)
   rw [bnd_s h1]
   rw [vld_step _ hne,← decR_eq]
   by_cases hi:i<0
   ·rw [cnd_t (ilt_t hi),if_neg (by rw [h2.1 hi]; decide)]
   ·rw [cnd_f (ilt_f hi)]
    have hin:inRep (decR s p)=true:=by
     cases hq:inRep (decR s p) with
     | true=>rfl
     | false=>exact absurd (h2.2 hq) hi
    rw [if_pos hin,decW_eq,List.drop_drop]
    show fixN _ fuel (s,ofN (p+(decodeL (s.drop p)).2))=_
    exact valid_loop hs Ix hI fuel _ (by omega) (by omega)
  ·rw [cnd_f (show nlt p (nlen s)=false from decide_eq_false hl)]
   have:s.drop p=[]:=by simp; omega
   rw [this]
   rfl
theorem r08_valid (s:List UInt8) (hs:s.length≤4000000):q96 fuelH s=some (vld s):=by
 unfold q96
 simp only [jn_e]
 have:=valid_loop (s:=s) (by omega) (q95 fuelH) (fun r=>by obtain ⟨i,_,h2,h3⟩:=index_some r; exact ⟨i,h2,h3⟩) fuelH 0 (by have:=fuelH_eq; omega) (Nat.zero_le _)
 simpa using this
theorem ch_valid (s:List UInt8) (hs:s.length≤4000000):q13 fuelH s=some (vld s):=by
 unfold q13
 have hv:utf8_ValidString fuelH s=some (validD s):=by
  show grd (catOk (len s)) (some (validD s))=_
  exact grd_t (decide_eq_true (by simp only [len]; omega))
 rw [bnd_s hv]
 simp only [jn_e]
 cases hd:validD s with
 | false =>
  rw [cnd_t (show bnot false=true from rfl)]
  cases hq:vld s with
  | false=>rfl
  | true=>rw [vld_valid _ s (Nat.le_refl _) hq] at hd; cases hd
 | true =>
  rw [cnd_f (show bnot true=false from rfl)]
  have:=valid_loop (s:=s) (by omega) (q12 fuelH) (fun r=>by obtain ⟨i,h2,h3⟩:=index_stl r; exact ⟨i,h2,h3⟩) fuelH 0 (by have:=fuelH_eq; omega) (Nat.zero_le _)
  simpa using this
end Go.Mo
end
section
/-
 Plain facts: names; the check of a header.
-/
namespace Go.Mo
open Go Go.W Go.Lib
set_option maxRecDepth 100000
theorem cnd_dec {α:Type} {p:Prop} [Decidable p] {x y:Option α}:cnd (decide p) x y=if p then x else y:=by
 by_cases h:p
 ·rw [cnd_t (decide_eq_true h),if_pos h]
 ·rw [cnd_f (decide_eq_false h),if_neg h]
theorem cnd_ilt {α:Type} {a b:Int} {x y:Option α}:cnd (ilt a b) x y=if a<b then x else y:=cnd_dec
theorem cnd_ile {α:Type} {a b:Int} {x y:Option α}:cnd (ile a b) x y=if a≤b then x else y:=cnd_dec
theorem cnd_ieq {α:Type} {a b:Int} {x y:Option α}:cnd (ieq a b) x y=if a=b then x else y:=by
 by_cases h:a=b
 ·rw [cnd_t (ieq_t h),if_pos h]
 ·rw [cnd_f (ieq_f h),if_neg h]
theorem cnd_ine {α:Type} {a b:Int} {x y:Option α}:cnd (ine a b) x y=if a≠b then x else y:=by
 by_cases h:a=b
 ·rw [cnd_f (ine_f h),if_neg (by simp [h])]
 ·rw [cnd_t (ine_t h),if_pos h]
def okc (c:Int):Bool:=decide ((65≤c∧c≤90)∨(48≤c∧c≤57)∨c=95∨c=45)
theorem nm_body (c:Int) (X:Option Bool) :
  (cnd (ilt c (n8 (65:UInt8)))
          (cnd (ilt c (n8 (48:UInt8)))
           (cnd (ine c (n8 (95:UInt8)))
            (cnd (ine c (n8 (45:UInt8)))
             (some false)
             X)
            X)
           (cnd (ilt (n8 (57:UInt8)) c)
            (cnd (ine c (n8 (95:UInt8)))
             (cnd (ine c (n8 (45:UInt8)))
              (some false)
              X)
             X)
            X))
          (cnd (ilt (n8 (90:UInt8)) c)
           (cnd (ilt c (n8 (48:UInt8)))
            (cnd (ine c (n8 (95:UInt8)))
             (cnd (ine c (n8 (45:UInt8)))
              (some false)
              X)
             X)
            (cnd (ilt (n8 (57:UInt8)) c)
             (cnd (ine c (n8 (95:UInt8)))
              (cnd (ine c (n8 (45:UInt8)))
               (some false)
               X)
              X)
             X))
           X))=cnd (okc c) X (some false):=by
 have e1:n8 (65:UInt8)=65:=rfl
 have e2:n8 (48:UInt8)=48:=rfl
 have e3:n8 (95:UInt8)=95:=rfl
 have e4:n8 (45:UInt8)=45:=rfl
 have e5:n8 (57:UInt8)=57:=rfl
 have e6:n8 (90:UInt8)=90:=rfl
 rw [e1,e2,e3,e4,e5,e6]
 simp only [cnd_ilt,cnd_ine,okc,cnd_dec]
 repeat' split
 all_goals first | rfl | (exfalso; omega)
def upc (c:Int):Bool:=decide (65≤c∧c≤90)
def nm (s:List UInt8):Bool:=decide (1≤s.length∧s.length≤16) && upc (n8 (s.getD 0 0)) && s.all fun c=>okc (n8 c)
theorem all_step {s:List UInt8} {i:Nat} (h:i<s.length) (P:UInt8→Bool):(s.drop i).all P=(P s[i] && (s.drop (i+1)).all P):=by
 rw [List.drop_eq_getElem_cons h,List.all_cons]
theorem nm_loop {s:List UInt8} (hs:s.length≤16):∀ (fuel i:Nat),s.length - i<fuel→i≤s.length →
  fixN (fun v2 (v3:Int) =>
        cnd (ilt v3 (len s))
         (grd (inb v3 (len s)) (cnd (okc (n8 (lget s (toN v3) (0:UInt8)))) (v2 (w64 (iadd v3 (1:Int)))) (some false)))
         (some true)) fuel (i:Int)=some ((s.drop i).all fun c=>okc (n8 c))
 | 0,i,h,_=>by omega
 | fuel+1,i,h,hi=>by
  rw [fixN_s]
  by_cases hl:i<s.length
  ·have g:lget s (toN (i:Int)) 0=s[i]:=by simp [lget,toN,hl]
   rw [cnd_t (ilt_t (by simp only [len]; omega)),grd_t (inb_t (by simp only [len]; omega)),g,all_step hl]
   have hw:w64 (iadd (i:Int) 1)=((i+1:Nat):Int):=by
    simp only [iadd]; rw [w64_id (by omega)]; omega
   rw [hw,nm_loop hs fuel (i+1) (by omega) (by omega)]
   cases okc (n8 s[i])<;>rfl
  ·rw [cnd_f (ilt_f (by simp only [len]; omega))]
   have:s.drop i=[]:=by simp; omega
   rw [this]
   rfl
theorem lines_name (s:List UInt8):q14 fuelH s=some (nm s):=by
 unfold q14
 simp only [jn_e,nm_body]
 by_cases h1:s.length<1
 ·rw [cnd_t (ilt_t (by simp only [len]; omega))]
  simp [nm]; omega
 ·rw [cnd_f (ilt_f (by simp only [len]; omega))]
  by_cases h2:16<s.length
  ·rw [cnd_t (ilt_t (by simp only [len]; omega))]
   simp [nm]; omega
  ·rw [cnd_f (ilt_f (by simp only [len]; omega)),grd_t (inb_t (by simp only [len]; omega))]
   have e0:lget s (toN 0) 0=s.getD 0 0:=rfl
   have e1:n8 (65:UInt8)=65:=rfl
   have e2:n8 (90:UInt8)=90:=rfl
   rw [e0,e1,e2,cnd_ilt]
   have hd:decide (1≤s.length∧s.length≤16)=true:=decide_eq_true (by omega)
   split
   ·rename_i h3
    have:upc (n8 (s.getD 0 0))=false:=decide_eq_false (by omega)
    simp only [nm,this,Bool.and_false,Bool.false_and]
   ·rw [grd_t (inb_t (by simp only [len]; omega)),cnd_ilt]
    split
    ·rename_i h4
     have:upc (n8 (s.getD 0 0))=false:=decide_eq_false (by omega)
     simp only [nm,this,Bool.and_false,Bool.false_and]
    ·have hu:upc (n8 (s.getD 0 0))=true:=decide_eq_true (by omega)
     have:=nm_loop (s:=s) (by omega) fuelH 0 (by have:=fuelH_eq; omega) (Nat.zero_le _)
     simp only [nm,hu,hd,Bool.true_and]
     simpa using this
end Go.Mo
end
section
/-
 Plain facts: the check of a header.
-/
namespace Go.Mo
open Go Go.W Go.Lib
set_option maxRecDepth 100000
abbrev Lbl:=Int×Int×Int×Int×Bool
abbrev Hdr:=UInt8×(List UInt8)×(List UInt8)×Int×Int×Lbl×Lbl×Int×Int
theorem cnd_bnot {α:Type} {p:Prop} [Decidable p] {x y:Option α}:cnd (bnot (decide p)) x y=if p then y else x:=by
 by_cases hp:p<;>simp [hp,bnot,cnd]
theorem bnd_some' {α β:Type} {a:α} {k:α→Option β}:bnd (some a) k=k a:=rfl
end Go.Mo
end
section
/-
 Plain facts: the characters of a text,and the text of characters.
-/
namespace Go.Mo
open Go Go.W Go.Lib
set_option maxRecDepth 100000
def rnsF:Nat→List UInt8→List Int
 | 0,_=>[]
 | n+1,l=>if l=[] then [] else ((decodeL l).1:Int)::rnsF n (l.drop (decodeL l).2)
def rns (l:List UInt8):List Int:=rnsF l.length l
theorem rnsF_nil:∀ n,rnsF n []=[]
 | 0=>rfl
 | n+1=>by simp [rnsF]
theorem rnsF_fuel:∀ (n m:Nat) (l:List UInt8),l.length≤n→l.length≤m→rnsF n l=rnsF m l
 | 0,m,l,h,_=>by
  have:l=[]:=List.eq_nil_of_length_eq_zero (by omega)
  subst this
  rw [rnsF_nil,rnsF_nil]
 | n+1,0,l,_,h=>by
  have:l=[]:=List.eq_nil_of_length_eq_zero (by omega)
  subst this
  rw [rnsF_nil,rnsF_nil]
 | n+1,m+1,l,h1,h2=>by
  by_cases hl:l=[]
  ·subst hl; rw [rnsF_nil,rnsF_nil]
  ·have hp:=dec_pos l
   have hlen:0<l.length:=List.length_pos_iff.2 hl
   simp only [rnsF,hl,if_false]
   rw [rnsF_fuel n m _ (by simp; omega) (by simp; omega)]
theorem rns_step (l:List UInt8) (hl:l≠[]):rns l=((decodeL l).1:Int)::rns (l.drop (decodeL l).2):=by
 have hp:=dec_pos l
 have hlen:0<l.length:=List.length_pos_iff.2 hl
 unfold rns
 obtain ⟨n,hn⟩:∃ n,l.length=n+1:=⟨l.length - 1,by omega⟩
 rw [hn]
 simp only [rnsF,hl,if_false]
 rw [rnsF_fuel n _ _ (by simp; omega) (Nat.le_refl _)]
theorem rns_len:∀ (n:Nat) (l:List UInt8),l.length≤n→(rns l).length≤l.length
 | n,l,h=>by
  by_cases hl:l=[]
  ·subst hl; exact Nat.le_refl _
  ·have hlen:0<l.length:=List.length_pos_iff.2 hl
   have hp:=dec_pos l
   rw [rns_step l hl]
   cases n with
   | zero=>omega
   | succ n =>
    have:=rns_len n (l.drop (decodeL l).2) (by simp; omega)
    simp at this ⊢
    omega
def foldR {σ R:Type} (g:Int→σ→(σ→Option R)→Option R) (e:σ→Option R):List Int→σ→Option R
 | [],a=>e a
 | r::l,a=>g r a fun a'=>foldR g e l a'
theorem str_loop {V R σ:Type} {F:(V→Option R)→V→Option R} {s:List UInt8} (st:σ→Nat→V) (g:Int→σ→(σ→Option R)→Option R) (e:σ→Option R)
  (hstep:∀ self a p,p<s.length→F self (st a p)=g (decR s p) a fun a'=>self (st a' (p+decW s p)))
  (hend:∀ self a p,s.length≤p→F self (st a p)=e a):∀ (fuel p:Nat) (a:σ),s.length - p<fuel→fixN F fuel (st a p)=foldR g e (rns (s.drop p)) a
 | 0,p,a,h=>by omega
 | fuel+1,p,a,h=>by
  rw [fixN_s]
  by_cases hp:p<s.length
  ·have hne:s.drop p≠[]:=by intro e; have:=congrArg List.length e; simp at this; omega
   have hw:=dec_pos (s.drop p)
   rw [hstep _ _ _ hp,rns_step _ hne,← decR_eq,foldR,List.drop_drop,← decW_eq]
   congr 1
   funext a'
   rw [decW_eq]
   have:=str_loop st g e hstep hend fuel (p+(decodeL (s.drop p)).2) a' (by omega)
   exact this
  ·rw [hend _ _ _ (by omega)]
   have:s.drop p=[]:=by simp; omega
   rw [this]
   rfl
def foldI {α σ R:Type} (g:Nat→α→σ→(σ→Option R)→Option R) (e:σ→Option R):Nat→List α→σ→Option R
 | _,[],a=>e a
 | i,x::l,a=>g i x a fun a'=>foldI g e (i+1) l a'
theorem lst_loop {V R σ α:Type} {F:(V→Option R)→V→Option R} {l:List α} (st:σ→Nat→V) (g:Nat→α→σ→(σ→Option R)→Option R) (e:σ→Option R)
  (hstep:∀ self a i (h:i<l.length),F self (st a i)=g i l[i] a fun a'=>self (st a' (i+1)))
  (hend:∀ self a,F self (st a l.length)=e a):∀ (fuel i:Nat) (a:σ),i≤l.length→l.length - i<fuel→fixN F fuel (st a i)=foldI g e i (l.drop i) a
 | 0,i,a,_,h=>by omega
 | fuel+1,i,a,hi,h=>by
  rw [fixN_s]
  by_cases hl:i<l.length
  ·rw [hstep _ _ _ hl,List.drop_eq_getElem_cons hl,foldI]
   congr 1
   funext a'
   exact lst_loop st g e hstep hend fuel (i+1) a' (by omega) (by omega)
  ·obtain rfl:i=l.length:=by omega
   rw [hend,List.drop_length]
   rfl
theorem w64_succ {i n:Nat} (h:i<n) (hn:n≤9223372036854775807):w64 (iadd (i:Int) 1)=((i+1:Nat):Int):=by
 simp only [iadd]; rw [w64_id (by omega)]; omega
theorem lget_i {α:Type} {l:List α} {i:Nat} {d:α} (h:i<l.length):lget l (toN (i:Int)) d=l[i]:=by simp [lget,toN,h]
theorem nlt_t {a b:Nat} (h:a<b):nlt a b=true:=decide_eq_true h
theorem nlt_f {a b:Nat} (h:¬ a<b):nlt a b=false:=decide_eq_false h
theorem toN_ofN (n:Nat):toN (ofN n)=n:=by simp [toN,ofN]
end Go.Mo
end
section
/-
 Plain facts: the characters of the tape form.
-/
namespace Go.Mo
open Go Go.W Go.Lib
set_option maxRecDepth 100000
def ixE (r:Int):Option Int:=cnd (ile 32 r) (cnd (ile r 126) (some (w64 (wr .i32 (isub r 32)))) (chain (loRunes++hiRunes) 0 r)) (chain (loRunes++hiRunes) 0 r)
def ix (r:Int):Int:=(ixE r).getD 0
def basT:List Int:=[33,99,76,36,89,124,83,67,34,82,111,46,34,50,63,65,65,65,65,65,65,65,67,69,69,69,69,73,73,73,73,78,79,79,79,79,79,79,85,85,85,85,115,97,97,97,97,97,97,97,99,101,101,101,101,105,105,105,105,110,111,111,111,111,111,111,117,117,117,117,79,111,45,39,39,34,34,46,46,84,35]
def bas (r:Int):Int:=if r<127 then r else basT.getD ((ix r).toNat - 95) 0
def accs:List (UInt8×List UInt8×List Int):=[(193,[195,128,195,136,195,140,195,146,195,153],[192,200,204,210,217]),(194,[195,129,195,137,195,141,195,147,195,154],[193,201,205,211,218]),(195,[195,130,195,138,195,142,195,148,195,155],[194,202,206,212,219]),(196,[195,131,195,145,195,149],[195,209,213]),(197,[],[]),(198,[],[]),(199,[],[]),(200,[195,132,195,139,195,143,195,150,195,156],[196,203,207,214,220]),(201,[],[]),(202,[195,133],[197]),(203,[195,135],[199])]
def sgs:List (Int×UInt8):=[(161,161),(162,162),(163,163),(164,164),(165,165),(166,166),(167,167),(169,168),(8216,169),(8220,170),(171,171),(174,172),(8212,173),(8226,174),(8230,175),(176,176),(8482,180),(183,183),(8217,185),(8221,186),(187,187),(189,189),(191,191),(9834,213),(198,225),(216,233),(338,234),(230,241),(248,249),(339,250),(223,251)]
end Go.Mo
end
section
/-
 Plain facts: texts in the characters of the tape form.
-/
namespace Go.Mo
open Go Go.W Go.Lib
set_option maxRecDepth 100000
theorem snoc_fold {R:Type} (k:List Int→Option R):∀ (l out:List Int),out.length+l.length≤100000000 →
  foldR (fun r out self=>grd (room (iadd (len out) (len [r])) 4) (self (lapp out [r]))) k l out=k (out++l)
 | [],out,_=>by simp [foldR]
 | r::l,out,h=>by
  simp only [List.length_cons] at h
  rw [foldR,grd_t (room_t (by simp [iadd,len]; omega))]
  show foldR _ _ _ (lapp out [r])=_
  rw [snoc_fold k l _ (by simp [lapp]; omega)]
  simp [lapp]
theorem r08_runes_eq {s:List UInt8} (hs:s.length≤4000000):q130 fuelH s=some (rns s):=by
 unfold q130
 rw [jn_e]
 rw [show (([]:List Int),s,ofN 0)=(fun (a:List Int) (p:Nat)=>(a,s,ofN p)) [] 0 from rfl]
 refine (str_loop (s:=s) (fun (a:List Int) (p:Nat)=>(a,s,ofN p)) (fun r out self=>grd (room (iadd (len out) (len [r])) 4) (self (lapp out [r]))) (fun out=>some out) (fun self a p hp=>?_) (fun self a p hp=>?_) fuelH 0 [] (by have:=fuelH_eq; omega)).trans ?_
 ·simp only [toN_ofN]
  rw [cnd_t (nlt_t (show p<nlen s from hp))]
  rfl
 ·simp only [toN_ofN]
  rw [cnd_f (nlt_f (show ¬ p<nlen s by unfold nlen; omega))]
 ·have:=rns_len _ s (Nat.le_refl _)
  rw [List.drop_zero,snoc_fold _ _ _ (by simp; omega)]
  rfl
end Go.Mo
end
section
/-
 Small plain facts: bytes,lengths,equality of texts.
-/
namespace Go.Mo
open Go Go.W Go.Lib
set_option maxRecDepth 100000
noncomputable section
theorem catOk_t {n:Int} (h:n≤9223372036854775807):catOk n=true:=decide_eq_true h
theorem seq_dec (x y:List UInt8):seq x y=decide (x=y):=by
 unfold seq
 by_cases h:x=y
 ·subst h; simp
 ·rw [decide_eq_false h]
  simpa using h
end
end Go.Mo
end
section
/-
 Plain facts: characters of the tape form read back.
-/
namespace Go.Mo
open Go Go.W Go.Lib
set_option maxRecDepth 100000
noncomputable section
def low (r:Int):Int:=if (65≤r∧r≤90)∨(192≤r∧r<223) then r+32 else if r=338 then 339 else r
def accR (a:UInt8):List Int:=match accs.find? fun x=>x.1 == a with
 | some x=>x.2.2
 | none=>[]
def acG:List Int→UInt8→Option (Int×Int)
 | [],_=>some (0,0)
 | r::l,b=>cnd (ieq (bas r) (n8 b)) (some (r,(2:Int))) (cnd (ieq (bas (low r)) (n8 b)) (some (low r,(2:Int))) (acG l b))
def sgF (a:UInt8):Option (Int×UInt8):=sgs.find? fun x=>n8 x.2 == n8 a
end
end Go.Mo
end
section
/-
 Plain facts: rates,names,on both sides.
-/
namespace Go.Mo
open Go Go.W Go.Lib
set_option maxRecDepth 100000
noncomputable section
theorem valid_tab:((List.range 256).all fun n=>decide (q16 0 (UInt8.ofNat n)=q104 0 (UInt8.ofNat n)∧q17 0 (UInt8.ofNat n)=q121 0 (UInt8.ofNat n)∧True))=true:=by kernel_rfl
theorem rate_eq (N:Nat) (r:UInt8):q16 N r=q104 N r∧q17 N r=q121 N r∧True :=
 of_decide_eq_true (all_u8 (P:=fun r=>decide (q16 0 r=q104 0 r∧q17 0 r=q121 0 r∧True)) valid_tab r)
theorem digit_eq (N:Nat) (c:UInt8):q109 N c=some (decide (48≤n8 c∧n8 c≤57)):=by
 unfold q109
 have e1:n8 (48:UInt8)=48:=rfl
 have e2:n8 (57:UInt8)=57:=rfl
 rw [e1,e2,cnd_ile]
 split
 ·simp only [ile,Option.some.injEq,decide_eq_decide]; omega
 ·simp only [Option.some.injEq]; exact (decide_eq_false (by omega)).symm
theorem r07_body {s:List UInt8} {i:Nat} (h:i<s.length) (X:Option Bool) (N:Nat) :
  (grd (inb (i:Int) (len s)) <|
     cnd (ile (n8 (65:UInt8)) (n8 (lget s (toN (i:Int)) (0:UInt8))))
      (grd (inb (i:Int) (len s))
       ((fun (v4:Bool) =>
      cnd (bnot v4)
       (cnd (ieq (i:Int) (0:Int))
        (some false)
        (grd (inb (i:Int) (len s))
         (bnd (q109 N (lget s (toN (i:Int)) (0:UInt8))) fun v5 =>
         cnd (bnot v5)
          (grd (inb (i:Int) (len s))
           (cnd (ine (n8 (lget s (toN (i:Int)) (0:UInt8))) (n8 (95:UInt8)))
            (grd (inb (i:Int) (len s))
             (cnd (ine (n8 (lget s (toN (i:Int)) (0:UInt8))) (n8 (45:UInt8)))
              (some false)
              X))
            X))
          X)))
       X) (ile (n8 (lget s (toN (i:Int)) (0:UInt8))) (n8 (90:UInt8)))))
      ((fun (v4:Bool) =>
      cnd (bnot v4)
       (cnd (ieq (i:Int) (0:Int))
        (some false)
        (grd (inb (i:Int) (len s))
         (bnd (q109 N (lget s (toN (i:Int)) (0:UInt8))) fun v5 =>
         cnd (bnot v5)
          (grd (inb (i:Int) (len s))
           (cnd (ine (n8 (lget s (toN (i:Int)) (0:UInt8))) (n8 (95:UInt8)))
            (grd (inb (i:Int) (len s))
             (cnd (ine (n8 (lget s (toN (i:Int)) (0:UInt8))) (n8 (45:UInt8)))
              (some false)
              X))
            X))
          X)))
       X) false))=if upc (n8 s[i])=true then X else if i=0 then some false else if okc (n8 s[i])=true then X else some false:=by
 have hb:inb (i:Int) (len s)=true:=inb_t (by simp only [len]; omega)
 have g:lget s (toN (i:Int)) 0=s[i]:=by simp [lget,toN,h]
 have e1:n8 (65:UInt8)=65:=rfl
 have e2:n8 (90:UInt8)=90:=rfl
 have e3:n8 (95:UInt8)=95:=rfl
 have e4:n8 (45:UInt8)=45:=rfl
 simp only [grd_t hb,g,e1,e2,e3,e4]
 rw [bnd_s (digit_eq N s[i])]
 generalize n8 s[i]=c
 have hi:((i:Int)=0)↔i=0:=by omega
 have b1:∀ (p:Prop) [Decidable p] (x y:Option Bool),cnd (bnot (decide p)) x y=if p then y else x:=fun p _ x y=>by
  by_cases hp:p<;>simp [hp,bnot,cnd]
 have b2:∀ x y:Option Bool,cnd (bnot false) x y=x:=fun _ _=>rfl
 simp only [cnd_ile,cnd_ieq,cnd_ine,cnd_dec,ile,b1,b2,upc,okc,decide_eq_true_eq,hi]
 repeat' split
 all_goals first | rfl | (exfalso; omega)
theorem r07_name (s:List UInt8):r07_Name fuelH s=some (nm s):=by
 unfold r07_Name
 by_cases h1:s.length<1
 ·rw [cnd_t (ilt_t (by simp only [len]; omega))]
  simp [nm]; omega
 ·rw [cnd_f (ilt_f (by simp only [len]; omega))]
  by_cases h2:16<s.length
  ·rw [cnd_t (ilt_t (by simp only [len]; omega))]
   simp [nm]; omega
  ·rw [cnd_f (ilt_f (by simp only [len]; omega))]
   simp only [jn_e]
   have hd:decide (1≤s.length∧s.length≤16)=true:=decide_eq_true (by omega)
   have loop:∀ (fuel i:Nat),s.length - i<fuel→i≤s.length→fixN (fun v2 (v3:Int) =>
    cnd (ilt v3 (len s))
     (grd (inb v3 (len s)) <|
     cnd (ile (n8 (65:UInt8)) (n8 (lget s (toN v3) (0:UInt8))))
      (grd (inb v3 (len s))
       ((fun (v4:Bool) =>
      cnd (bnot v4)
       (cnd (ieq v3 (0:Int))
        (some false)
        (grd (inb v3 (len s))
         (bnd (q109 fuelH (lget s (toN v3) (0:UInt8))) fun v5 =>
         cnd (bnot v5)
          (grd (inb v3 (len s))
           (cnd (ine (n8 (lget s (toN v3) (0:UInt8))) (n8 (95:UInt8)))
            (grd (inb v3 (len s))
             (cnd (ine (n8 (lget s (toN v3) (0:UInt8))) (n8 (45:UInt8)))
              (some false)
              (v2 (w64 (iadd v3 (1:Int))))))
            (v2 (w64 (iadd v3 (1:Int))))))
          (v2 (w64 (iadd v3 (1:Int)))))))
       (v2 (w64 (iadd v3 (1:Int))))) (ile (n8 (lget s (toN v3) (0:UInt8))) (n8 (90:UInt8)))))
      ((fun (v4:Bool) =>
      cnd (bnot v4)
       (cnd (ieq v3 (0:Int))
        (some false)
        (grd (inb v3 (len s))
         (bnd (q109 fuelH (lget s (toN v3) (0:UInt8))) fun v5 =>
         cnd (bnot v5)
          (grd (inb v3 (len s))
           (cnd (ine (n8 (lget s (toN v3) (0:UInt8))) (n8 (95:UInt8)))
            (grd (inb v3 (len s))
             (cnd (ine (n8 (lget s (toN v3) (0:UInt8))) (n8 (45:UInt8)))
              (some false)
              (v2 (w64 (iadd v3 (1:Int))))))
            (v2 (w64 (iadd v3 (1:Int))))))
          (v2 (w64 (iadd v3 (1:Int)))))))
       (v2 (w64 (iadd v3 (1:Int))))) false))
     (some true)) fuel (i:Int)=some (bif decide (i=0) then upc (n8 (s.getD 0 0)) && s.all (fun c=>okc (n8 c)) else (s.drop i).all fun c=>okc (n8 c)):=by
    intro fuel
    induction fuel with
    | zero=>intro i h; omega
    | succ fuel ih =>
     intro i h hi
     rw [fixN_s]
     by_cases hl:i<s.length
     ·rw [cnd_t (ilt_t (by simp only [len]; omega)),r07_body hl]
      have hw:w64 (iadd (i:Int) 1)=((i+1:Nat):Int):=by
       simp only [iadd]; rw [w64_id (by omega)]; omega
      rw [hw,ih (i+1) (by omega) (by omega)]
      have hup:upc (n8 s[i])=true→okc (n8 s[i])=true:=fun h=>by
       have:=of_decide_eq_true h
       exact decide_eq_true (.inl this)
      have e0:decide (i+1=0)=false:=decide_eq_false (by omega)
      simp only [e0,cond_false]
      by_cases hz:i=0
      ·subst hz
       have g0:s.getD 0 0=s[0]:=by simp [hl]
       have hs:s.all (fun c=>okc (n8 c))=(okc (n8 s[0]) && (s.drop 1).all fun c=>okc (n8 c)):=by
        have:=all_step (s:=s) (i:=0) hl (fun c=>okc (n8 c))
        simpa using this
       simp only [decide_true,cond_true,if_true,g0,hs]
       cases hu:upc (n8 s[0]) with
       | true=>simp [hup hu]
       | false=>simp
      ·have:decide (i=0)=false:=decide_eq_false hz
       simp only [this,cond_false,hz,if_false,all_step hl]
       cases hu:upc (n8 s[i]) with
       | true=>simp [hup hu]
       | false=>cases okc (n8 s[i])<;>simp
     ·rw [cnd_f (ilt_f (by simp only [len]; omega))]
      have hz:decide (i=0)=false:=decide_eq_false (by omega)
      have:s.drop i=[]:=by simp; omega
      rw [hz,this]
      rfl
   have:=loop fuelH 0 (by have:=fuelH_eq; omega) (Nat.zero_le _)
   simp only [decide_true,cond_true] at this
   simp only [nm,hd,Bool.true_and]
   exact this
end
end Go.Mo
end
section
/-
 Plain facts: rows of text,their check,their normal form.
-/
namespace Go.Mo
open Go Go.W Go.Lib
set_option maxRecDepth 100000
abbrev Sty:=UInt8×Bool×Bool
abbrev Run:=List UInt8×Sty×List UInt8
abbrev Row:=List Run
theorem cnd_ite {α:Type} {b:Bool} {x y:Option α}:cnd b x y=if b=true then x else y:=by cases b<;>rfl
theorem bnot_t {b:Bool}:(bnot b=true)=(b=false):=by cases b<;>simp [bnot]
theorem seq_t {a b:List UInt8}:(seq a b=true)=(a=b):=by rw [seq_dec]; simp
theorem ieq_tt {a b:Int}:(ieq a b=true)=(a=b):=by simp [ieq]
theorem ine_tt {a b:Int}:(ine a b=true)=(a≠b):=by simp [ine]
theorem ilt_tt {a b:Int}:(ilt a b=true)=(a<b):=by simp [ilt]
theorem beqb_t {a b:Bool}:(beqb a b=true)=(a=b):=by simp [beqb]
theorem band_tt {a b:Bool}:(band a b=true)=(a=true∧b=true):=by simp [band]
theorem n8_eq {a b:UInt8}:(n8 a=n8 b)=(a=b):=propext ⟨n8_inj,fun h=>by rw [h]⟩
theorem w64_pred {i:Nat} (h:0<i) (hn:i≤9223372036854775807):w64 (isub (i:Int) 1)=((i - 1:Nat):Int):=by
 simp only [isub]; rw [w64_id (by omega)]; omega
theorem w64_back {i:Nat} (hn:i<9223372036854775807):w64 (isub ((i+1:Nat):Int) 1)=(i:Int):=by
 rw [w64_pred (Nat.succ_pos i) (by omega)]; rfl
theorem sty_eq {a b:Sty}:(a=b)=(a.1=b.1∧a.2.1=b.2.1∧a.2.2=b.2.2):=by
 obtain ⟨a1,a2,a3⟩:=a; obtain ⟨b1,b2,b3⟩:=b; simp
def alikeP (a b:Run):Prop:=a.2.1=b.2.1∧a.2.2=[]∧b.2.2=[]
instance (a b:Run):Decidable (alikeP a b):=by unfold alikeP; infer_instance
def runChk (p:Option Run) (x:Run):Int :=
 if vld x.1=false then 10 else if x.1=[] then 4 else if ¬ n8 x.2.1.1≤6 then 12 else if vld x.2.2=false then 10 else match p with
  | none=>0
  | some p=>if alikeP p x then 8 else 0
def chkL:Option Run→List Run→Int
 | _,[]=>0
 | p,x::r=>if runChk p x≠0 then runChk p x else chkL (some x) r
def rowChk (l:Row):Int:=if 16<l.length then 9 else chkL none l
def shortR (l:Row):Prop:=∀ x∈l,x.1.length≤4000000∧x.2.2.length≤4000000
def before {α:Type} (l:List α):Nat→Option α
 | 0=>none
 | i+1=>l[i]?
theorem foldI_chk (l:Row):∀ (r:List Run) (i:Nat),l.drop i=r→i≤l.length→foldI (fun i (x:Run) (_:Unit) self=>if runChk (before l i) x≠0 then some (runChk (before l i) x) else self ()) (fun _=>some (0:Int)) i r ()=some (chkL (before l i) r)
 | [],i,_,_=>rfl
 | x::r,i,h,hi=>by
  have hx:l[i]?=some x:=by rw [← List.head?_drop,h]; rfl
  have hr:l.drop (i+1)=r:=by rw [← List.drop_drop,h]; rfl
  have hl:i<l.length:=(List.getElem?_eq_some_iff.1 hx).1
  simp only [foldI,chkL]
  rw [foldI_chk l r (i+1) hr (by omega)]
  have e:before l (i+1)=some x:=hx
  rw [e]
  by_cases hc:runChk (before l i) x≠0
  ·rw [if_pos hc,if_pos hc]
  ·rw [if_neg hc,if_neg hc]
theorem style_alike_eq (N:Nat) (a b:Run):q29 N (a,b)=some (decide (alikeP a b)):=by
 unfold q29
 simp only [cnd_ite,band_tt,ieq_tt,beqb_t,n8_eq,seq_dec,decide_eq_true_eq]
 by_cases h1:a.2.1.1=b.2.1.1∧a.2.1.2.1=b.2.1.2.1∧a.2.1.2.2=b.2.1.2.2
 ·rw [if_pos h1]
  have:a.2.1=b.2.1:=by rw [sty_eq]; exact h1
  by_cases h2:a.2.2=[]
  ·rw [if_pos h2]; simp [alikeP,this,h2]
  ·rw [if_neg h2]; simp [alikeP,h2]
 ·rw [if_neg h1]
  have:¬ a.2.1=b.2.1:=by rw [sty_eq]; exact h1
  simp [alikeP,this]
theorem style_check {l:Row} (hl:shortR l):q30 fuelH l=some (rowChk l):=by
 unfold q30
 by_cases h:16<l.length
 ·rw [cnd_t (ilt_t (by simp only [len]; omega))]; simp [rowChk,h]
 ·rw [cnd_f (ilt_f (by simp only [len]; omega)),jn_e]
  refine Eq.trans (lst_loop (l:=l) (fun (_:Unit) (p:Nat)=>(p:Int)) (fun i (x:Run) (_:Unit) self=>if runChk (before l i) x≠0 then some (runChk (before l i) x) else self ()) (fun _=>some (0:Int)) (fun self a i hi=>?_) (fun self a=>?_) fuelH 0 () (Nat.zero_le _) (by have:=fuelH_eq; omega)) ?_
  ·rw [cnd_t (ilt_t (by simp only [len]; omega)),grd_t (inb_t (by simp only [len]; omega)),lget_i hi]
   obtain ⟨b1,b2⟩:=hl l[i] (List.getElem_mem hi)
   rw [bnd_s (ch_valid _ b1),bnd_s (show q28 fuelH l[i].2.1=some (ile (n8 l[i].2.1.1) 6) from rfl),bnd_s (ch_valid _ b2)]
   simp only [cnd_ite,bnot_t,seq_t,ile,decide_eq_false_iff_not]
   rw [w64_succ hi (by omega)]
   cases i with
   | zero =>
    have e0:before l 0=none:=rfl
    rw [e0,if_neg (show ¬ ilt (0:Int) ((0:Nat):Int)=true by decide)]
    simp only [runChk]
    repeat' split
    all_goals first | rfl | (exfalso; omega) | simp_all
   | succ i =>
    have e0:before l (i+1)=some l[i]:=by simp only [before]; exact List.getElem?_eq_getElem (by omega)
    rw [e0,if_pos (show ilt (0:Int) ((i+1:Nat):Int)=true from ilt_t (by omega)),w64_back (by omega),grd_t (inb_t (by simp only [len]; omega)),lget_i (show i<l.length by omega),bnd_s (style_alike_eq _ _ _)]
    simp only [runChk,decide_eq_true_eq]
    repeat' split
    all_goals first | rfl | (exfalso; omega) | simp_all
  ·rw [cnd_f (ilt_f (by simp only [len]; omega))]
  ·rw [List.drop_zero,foldI_chk l l 0 rfl (Nat.zero_le _)]
   simp [rowChk,h,before]
theorem r09_check {l:Row} (hl:shortR l):q128 fuelH l=some (rowChk l):=by
 unfold q128
 by_cases h:16<l.length
 ·rw [cnd_t (ilt_t (by simp only [len]; omega))]; simp [rowChk,h]
 ·rw [cnd_f (ilt_f (by simp only [len]; omega)),jn_e]
  refine Eq.trans (lst_loop (l:=l) (fun (_:Unit) (p:Nat)=>(p:Int)) (fun i (x:Run) (_:Unit) self=>if runChk (before l i) x≠0 then some (runChk (before l i) x) else self ()) (fun _=>some (0:Int)) (fun self a i hi=>?_) (fun self a=>?_) fuelH 0 () (Nat.zero_le _) (by have:=fuelH_eq; omega)) ?_
  ·rw [cnd_t (ilt_t (by simp only [len]; omega)),grd_t (inb_t (by simp only [len]; omega)),lget_i hi]
   obtain ⟨b1,b2⟩:=hl l[i] (List.getElem_mem hi)
   rw [bnd_s (r08_valid _ b1),bnd_s (show q127 fuelH l[i].2.1=some (ile (n8 l[i].2.1.1) 6) from rfl),bnd_s (r08_valid _ b2)]
   simp only [cnd_ite,bnot_t,seq_t,ile,decide_eq_false_iff_not]
   rw [w64_succ hi (by omega)]
   cases i with
   | zero =>
    have e0:before l 0=none:=rfl
    rw [e0,if_neg (show ¬ ilt (0:Int) ((0:Nat):Int)=true by decide)]
    simp only [runChk]
    repeat' split
    all_goals first | rfl | (exfalso; omega) | simp_all
   | succ i =>
    have e0:before l (i+1)=some l[i]:=by simp only [before]; exact List.getElem?_eq_getElem (by omega)
    have hin:inb ((i:Nat):Int) (len l)=true:=inb_t (by simp only [len]; omega)
    rw [e0,if_pos (show ilt (0:Int) ((i+1:Nat):Int)=true from ilt_t (by omega)),w64_back (by omega),grd_t hin,grd_t hin,lget_i (show i<l.length by omega)]
    simp only [runChk,alikeP,band_tt,ieq_tt,beqb_t,n8_eq,← sty_eq]
    repeat' split
    all_goals first | rfl | (exfalso; omega) | simp_all
  ·rw [cnd_f (ilt_f (by simp only [len]; omega))]
  ·rw [List.drop_zero,foldI_chk l l 0 rfl (Nat.zero_le _)]
   simp [rowChk,h,before]
end Go.Mo
end
section
/-
 Plain facts: loops with an invariant; the normal form of a row.
-/
namespace Go.Mo
open Go Go.W Go.Lib
set_option maxRecDepth 100000
def itI {α σ R:Type} (f:Nat→α→σ→Option R ⊕ σ) (e:σ→Option R):Nat→List α→σ→Option R
 | _,[],a=>e a
 | i,x::l,a=>match f i x a with
  | .inl r=>r
  | .inr a'=>itI f e (i+1) l a'
def Rnd {V R σ:Type} (X:Option R) (self:V→Option R) (next:σ→V) (I:σ→Prop):Option R ⊕ σ→Prop
 | .inl r=>X=r
 | .inr a=>X=self (next a)∧I a
theorem lst_it {V R σ α:Type} {F:(V→Option R)→V→Option R} {l:List α} (st:σ→Nat→V) (f:Nat→α→σ→Option R ⊕ σ) (e:σ→Option R) (I:Nat→σ→Prop)
  (hstep:∀ self a i (h:i<l.length),I i a→Rnd (F self (st a i)) self (fun a=>st a (i+1)) (I (i+1)) (f i l[i] a))
  (hend:∀ self a,I l.length a→F self (st a l.length)=e a):∀ (fuel i:Nat) (a:σ),i≤l.length→l.length - i<fuel→I i a→fixN F fuel (st a i)=itI f e i (l.drop i) a
 | 0,i,a,_,h,_=>by omega
 | fuel+1,i,a,hi,h,hI=>by
  rw [fixN_s]
  by_cases hl:i<l.length
  ·rw [List.drop_eq_getElem_cons hl,itI]
   have hs:=hstep (fixN F fuel) a i hl hI
   cases hf:f i l[i] a with
   | inl r=>rw [hf] at hs; exact hs
   | inr a' =>
    rw [hf] at hs
    rw [hs.1]
    exact lst_it st f e I hstep hend fuel (i+1) a' (by omega) (by omega) hs.2
  ·obtain rfl:i=l.length:=by omega
   rw [hend _ _ hI,List.drop_length]
   rfl
def tot:Row→Nat
 | []=>0
 | x::r=>x.1.length+tot r
theorem tot_app (a b:Row):tot (a++b)=tot a+tot b:=by
 induction a with
 | nil=>simp [tot]
 | cons x a ih=>simp only [List.cons_append,tot,ih]; omega
theorem last_eq {l:Row} {p:Run} (h:l.getLast?=some p):l=l.dropLast++[p]:=by
 cases l with
 | nil=>cases h
 | cons x l =>
  rw [List.getLast?_eq_some_getLast (List.cons_ne_nil x l)] at h
  injection h with h
  rw [← h]
  exact (List.dropLast_concat_getLast (List.cons_ne_nil x l)).symm
theorem lset_last {out:Row} {p:Run} (h:out.getLast?=some p) (y:Run):lset out (out.length - 1) y=out.dropLast++[y]:=by
 have e:=last_eq h
 have hl:out.length - 1=out.dropLast.length:=by simp
 rw [hl]
 conv=>lhs; rw [e]
 unfold lset
 rw [List.set_append_right _ _ (by simp)]
 simp
end Go.Mo
end
section
/-
 Plain facts: the bytes of rows.
-/
namespace Go.Mo
open Go Go.W Go.Lib
set_option maxRecDepth 100000
noncomputable section
theorem chkL_ok:∀ (l:List Run) (p:Option Run),chkL p l=0→∀ x∈l,vld x.1=true∧x.1≠[]∧n8 x.2.1.1≤6∧vld x.2.2=true
 | [],_,_,x,hx=>by cases hx
 | y::l,p,h,x,hx=>by
  simp only [chkL] at h
  split at h
  ·rename_i hc; exact absurd h hc
  ·rename_i hc
   rcases List.mem_cons.1 hx with rfl | hx
   ·have hc:runChk p x=0:=by simpa using hc
    unfold runChk at hc
    split at hc
    ·cases hc
    ·split at hc
     ·cases hc
     ·split at hc
      ·cases hc
      ·split at hc
       ·cases hc
       ·rename_i h1 h2 h3 h4
        exact ⟨by simpa using h1,h2,by omega,by simpa using h4⟩
   ·exact chkL_ok l _ h x hx
theorem rowChk_ok {l:Row} (h:rowChk l=0):l.length≤16∧∀ x∈l,vld x.1=true∧x.1≠[]∧n8 x.2.1.1≤6∧vld x.2.2=true:=by
 unfold rowChk at h
 split at h
 ·cases h
 ·exact ⟨by omega,chkL_ok l _ h⟩
end
end Go.Mo
end
section
/-
 Plain facts: rows that are read from bytes,on both sides.
-/
namespace Go.Mo
open Go Go.W Go.Lib
set_option maxRecDepth 100000
noncomputable section
def g1 (a:UInt8):Option Int:=if 32≤n8 a∧n8 a<127 then some (n8 a) else (sgF a).map (·.1)
def g2 (a b:UInt8):Int×Int:=(acG (accR a) b).getD (0,0)
end
end Go.Mo
end
section
/-
 Plain facts: rows that are read by the reference; equality of rows; StlTexts returns true.
-/
namespace Go.Mo
open Go Go.W Go.Lib
set_option maxRecDepth 100000
noncomputable section
theorem run_eq {a b:Run}:(a=b)=(a.1=b.1∧a.2.1=b.2.1∧a.2.2=b.2.2):=by
 obtain ⟨a1,a2,a3⟩:=a; obtain ⟨b1,b2,b3⟩:=b; simp
theorem same_fold {α:Type}:∀ (l m:List α) [DecidableEq α],l.length=m.length→∀ i,itI (fun i (x:α) (_:Unit)=>if some x=m[i]? then (.inr ():Option Bool ⊕ Unit) else .inl (some false)) (fun _=>some true) i (l.drop i) ()=some (decide (l.drop i=m.drop i)):=by
 intro l m _ hl i
 generalize hr:l.drop i=r
 induction r generalizing i with
 | nil =>
  have h1:l.length≤i:=by have:=congrArg List.length hr; simp at this; omega
  have:m.drop i=[]:=by rw [List.drop_eq_nil_iff]; omega
  rw [this]; simp [itI]
 | cons x r ih =>
  have hx:l[i]?=some x:=by rw [← List.head?_drop,hr]; rfl
  have hi:=(List.getElem?_eq_some_iff.1 hx).1
  have hr':l.drop (i+1)=r:=by rw [← List.drop_drop,hr]; rfl
  have hm:m.drop i=m[i]::m.drop (i+1):=List.drop_eq_getElem_cons (by omega)
  rw [hm]
  simp only [itI]
  by_cases h:some x=m[i]?
  ·rw [if_pos h]
   simp only
   rw [ih (i+1) hr']
   rw [List.getElem?_eq_getElem (by omega)] at h
   injection h with h
   exact congrArg some (decide_eq_decide.2 ⟨fun e=>by rw [h,e],fun e=>by injection e⟩)
  ·rw [if_neg h]
   rw [List.getElem?_eq_getElem (by omega)] at h
   have:x≠m[i]:=fun e=>h (by rw [e])
   exact congrArg some (decide_eq_false fun e=>this (by injection e)).symm
theorem eqRuns (a b:Row) (hl:a.length≤4000000):q139 fuelH (a,b)=some (decide (a=b)):=by
 unfold q139
 by_cases h:a.length=b.length
 ·rw [cnd_f (ine_f (by simp only [len]; omega)),jn_e]
  refine Eq.trans (lst_it (l:=a) (fun (_:Unit) (p:Nat)=>(p:Int)) (fun i (x:Run) (_:Unit)=>if some x=b[i]? then .inr () else .inl (some false)) (fun _=>some true) (fun _ _=>True) (fun self _ i hi _=>?_) (fun self _ _=>?_) fuelH 0 () (Nat.zero_le _) (by have:=fuelH_eq; omega) trivial) ?_
  ·have hb:i<b.length:=by omega
   have e:cnd (ilt (i:Int) (len a)) (grd (inb (i:Int) (len a)) (grd (inb (i:Int) (len b)) (cnd (bnot (band (seq (lget a (toN (i:Int)) ([],(((0:UInt8),(false,false)),[]))).1 (lget b (toN (i:Int)) ([],(((0:UInt8),(false,false)),[]))).1) (band (band (ieq (n8 (lget a (toN (i:Int)) ([],(((0:UInt8),(false,false)),[]))).2.1.1) (n8 (lget b (toN (i:Int)) ([],(((0:UInt8),(false,false)),[]))).2.1.1)) (band (beqb (lget a (toN (i:Int)) ([],(((0:UInt8),(false,false)),[]))).2.1.2.1 (lget b (toN (i:Int)) ([],(((0:UInt8),(false,false)),[]))).2.1.2.1) (beqb (lget a (toN (i:Int)) ([],(((0:UInt8),(false,false)),[]))).2.1.2.2 (lget b (toN (i:Int)) ([],(((0:UInt8),(false,false)),[]))).2.1.2.2))) (seq (lget a (toN (i:Int)) ([],(((0:UInt8),(false,false)),[]))).2.2 (lget b (toN (i:Int)) ([],(((0:UInt8),(false,false)),[]))).2.2)))) (some false) (self (w64 (iadd (i:Int) 1)))))) (some true)=if a[i]=b[i] then self ((i+1:Nat):Int) else some false:=by
    rw [cnd_t (ilt_t (by simp only [len]; omega)),grd_t (inb_t (by simp only [len]; omega)),grd_t (inb_t (by simp only [len]; omega)),lget_i hi,lget_i hb,w64_succ hi (by omega),cnd_ite]
    simp only [bnot_t,Bool.eq_false_iff,ne_eq,band_tt,seq_t,ieq_tt,beqb_t,n8_eq,← sty_eq,← run_eq]
    by_cases hc:a[i]=b[i]
    ·rw [if_neg (by simpa using hc),if_pos hc]
    ·rw [if_pos hc,if_neg hc]
   rw [List.getElem?_eq_getElem hb]
   by_cases hc:a[i]=b[i]
   ·rw [if_pos (by rw [hc])]
    exact ⟨e.trans (if_pos hc),trivial⟩
   ·rw [if_neg (fun h=>hc (by injection h))]
    exact e.trans (if_neg hc)
  ·simp only
   rw [cnd_f (ilt_f (by simp only [len]; omega))]
  ·exact same_fold a b h 0
 ·rw [cnd_t (ine_t (by simp only [len]; omega))]
  have:a≠b:=fun e=>h (by rw [e])
  simp [this]
theorem same_row (a b:Row) (hl:a.length≤4000000):q140 fuelH (a,b)=some (decide (a=b)):=by
 unfold q140
 rw [eqRuns a b hl,bnd_some']
theorem same_rows (a b:List Row) (hl:a.length≤4000000) (h:∀ r∈a,r.length≤4000000):q142 fuelH (a,b)=some (decide (a=b)):=by
 unfold q142 q141
 by_cases hab:a.length=b.length
 ·rw [cnd_f (ine_f (by simp only [len]; omega)),jn_e]
  have:∀ X:Option Bool,(bnd X fun v0=>some v0)=X:=fun X=>by cases X<;>rfl
  rw [this]
  refine Eq.trans (lst_it (l:=a) (fun (_:Unit) (p:Nat)=>(p:Int)) (fun i (x:Row) (_:Unit)=>if some x=b[i]? then .inr () else .inl (some false)) (fun _=>some true) (fun _ _=>True) (fun self _ i hi _=>?_) (fun self _ _=>?_) fuelH 0 () (Nat.zero_le _) (by have:=fuelH_eq; omega) trivial) ?_
  ·have hb:i<b.length:=by omega
   have e:cnd (ilt (i:Int) (len a)) (grd (inb (i:Int) (len a)) (grd (inb (i:Int) (len b)) (bnd (q140 fuelH (lget a (toN (i:Int)) [],lget b (toN (i:Int)) [])) fun v4=>cnd (bnot v4) (some false) (self (w64 (iadd (i:Int) 1)))))) (some true)=if a[i]=b[i] then self ((i+1:Nat):Int) else some false:=by
    rw [cnd_t (ilt_t (by simp only [len]; omega)),grd_t (inb_t (by simp only [len]; omega)),grd_t (inb_t (by simp only [len]; omega)),lget_i hi,lget_i hb,w64_succ hi (by omega),same_row _ _ (h _ (List.getElem_mem hi)),bnd_some',cnd_bnot]
   rw [List.getElem?_eq_getElem hb]
   by_cases hc:a[i]=b[i]
   ·rw [if_pos (by rw [hc])]
    exact ⟨e.trans (if_pos hc),trivial⟩
   ·rw [if_neg (fun h=>hc (by injection h))]
    exact e.trans (if_neg hc)
  ·simp only
   rw [cnd_f (ilt_f (by simp only [len]; omega))]
  ·exact same_fold a b hab 0
 ·rw [cnd_t (ine_t (by simp only [len]; omega))]
  have:a≠b:=fun e=>hab (by rw [e])
  simp [this,bnd_some']
end
end Go.Mo
end
section
/-
 Plain facts: StlTexts returns true.
-/
namespace Go.Mo
open Go Go.W Go.Lib
set_option maxRecDepth 100000
noncomputable section
theorem loop_inv {V R σ:Type} {F:(V→Option R)→V→Option R} {n:Nat} (st:σ→Nat→V) (I:Nat→σ→Prop) (r:Option R)
  (hstep:∀ self a i,i<n→I i a→∃ a',F self (st a i)=self (st a' (i+1))∧I (i+1) a') (hend:∀ self a,I n a→F self (st a n)=r):∀ (fuel i:Nat) (a:σ),i≤n→n - i<fuel→I i a→fixN F fuel (st a i)=r
 | 0,i,a,_,h,_=>by omega
 | fuel+1,i,a,hi,h,hI=>by
  rw [fixN_s]
  by_cases hl:i<n
  ·obtain ⟨a',h1,h2⟩:=hstep (fixN F fuel) a i hl hI
   rw [h1]
   exact loop_inv st I r hstep hend fuel (i+1) a' (by omega) (by omega) h2
  ·obtain rfl:i=n:=by omega
   exact hend _ _ hI
theorem bk_mem {α:Type} {f:α→Nat} {l:List α} {x:α} (h:x∈l):f x≤bkL f l:=by
 induction l with
 | nil=>cases h
 | cons y l ih =>
  simp only [bkL]
  rcases List.mem_cons.1 h with rfl | h
  ·omega
  ·have:=ih h; omega
theorem bk_len {α:Type} {f:α→Nat} (hf:∀ x,1≤f x) (l:List α):l.length≤bkL f l:=by
 induction l with
 | nil=>exact Nat.le_refl _
 | cons y l ih=>have:=hf y; simp only [bkL,List.length_cons]; omega
theorem bk_take {α:Type} {f:α→Nat}:∀ (n:Nat) (l:List α),bkL f (l.take n)≤bkL f l
 | 0,_=>Nat.zero_le _
 | n+1,[]=>Nat.le_refl _
 | n+1,x::l=>by have:=bk_take (f:=f) n l; simp only [List.take_succ_cons,bkL]; omega
def wtU (x:Run):Nat:=x.1.length+1+(1+(1+1)+(x.2.2.length+1))
def wtR (r:Row):Nat:=bkL wtU r+1
theorem min_take {α:Type} (l:List α) (n:Nat):ltake (toN (imin (len l) (n:Int))) l=l.take n∧in2 (imin (len l) (n:Int)) (len l)=true:=by
 have e:toN (imin (len l) (n:Int))=min l.length n:=by simp only [toN,imin,len]; omega
 refine ⟨?_,in2_t (by simp only [imin,len]; omega)⟩
 rw [e]
 unfold ltake
 by_cases h:l.length≤n
 ·rw [Nat.min_eq_left h,List.take_length,List.take_of_length_le h]
 ·rw [Nat.min_eq_right (by omega)]
end
end Go.Mo
end
section
/-
 Plain facts: StlReturns returns true.
-/
namespace Go.Mo
open Go Go.W Go.Lib
set_option maxRecDepth 100000
noncomputable section
end
end Go.Mo
end
section
/-
 Plain facts: regions,their check,a region by its name,the places of rows.
-/
namespace Go.Mo
open Go Go.W Go.Lib
set_option maxRecDepth 100000
noncomputable section
abbrev Reg:=List UInt8×Int×Int×Int×Int×UInt8×Bool
abbrev Spot:=Int×Int×Int
theorem from_eq (N:Nat) (a b c:Int):q20 N (a,b,c)=some (decide (b≤a∧a≤c)):=by
 unfold q20
 rw [cnd_ile]
 by_cases h:b≤a
 ·simp [h,ile]
 ·simp [h]
def regChk (r:Reg):Int :=
 if nm r.1=false then 5 else
 if ¬ (0≤r.2.1∧r.2.1≤14) then 2 else
 if ¬ (1≤r.2.2.1∧r.2.2.1≤15 - r.2.1) then 2 else
 if ¬ (0≤r.2.2.2.1∧r.2.2.2.1≤31) then 2 else
 if ¬ (1≤r.2.2.2.2.1∧r.2.2.2.2.1≤32 - r.2.2.2.1) then 2 else
 if ¬ (1≤n8 r.2.2.2.2.2.1∧n8 r.2.2.2.2.2.1≤3) then 3 else 0
theorem dec_f {p:Prop} [Decidable p]:(decide p=false)=¬ p:=by by_cases h:p<;>simp [h]
theorem region_check (r:Reg):q21 fuelH r=some (regChk r):=by
 unfold q21 regChk
 rw [lines_name,bnd_some']
 simp only [from_eq,bnd_some',cnd_ite,bnot_t,dec_f,ilt_tt]
 have e1:n8 (1:UInt8)=1:=rfl
 have e3:n8 (3:UInt8)=3:=rfl
 rw [e1,e3]
 by_cases h0:nm r.1=false
 ·rw [if_pos h0,if_pos h0]
 rw [if_neg h0,if_neg h0]
 by_cases h1:0≤r.2.1∧r.2.1≤14
 ·rw [if_neg (not_not_intro h1),if_neg (not_not_intro h1)]
  have w1:w64 (isub 15 r.2.1)=15 - r.2.1:=by unfold isub; rw [w64_id (by omega)]
  rw [w1]
  by_cases h2:1≤r.2.2.1∧r.2.2.1≤15 - r.2.1
  ·rw [if_neg (not_not_intro h2),if_neg (not_not_intro h2)]
   by_cases h3:0≤r.2.2.2.1∧r.2.2.2.1≤31
   ·rw [if_neg (not_not_intro h3),if_neg (not_not_intro h3)]
    have w2:w64 (isub 32 r.2.2.2.1)=32 - r.2.2.2.1:=by unfold isub; rw [w64_id (by omega)]
    rw [w2]
    by_cases h4:1≤r.2.2.2.2.1∧r.2.2.2.2.1≤32 - r.2.2.2.1
    ·rw [if_neg (not_not_intro h4),if_neg (not_not_intro h4)]
     by_cases h5:n8 r.2.2.2.2.2.1<1
     ·rw [if_pos h5,if_pos (by omega)]
     ·rw [if_neg h5]
      by_cases h6:3<n8 r.2.2.2.2.2.1
      ·rw [if_pos h6,if_pos (by omega)]
      ·rw [if_neg h6,if_neg (by omega)]
    ·rw [if_pos h4,if_pos h4]
   ·rw [if_pos h3,if_pos h3]
  ·rw [if_pos h2,if_pos h2]
 ·rw [if_pos h1,if_pos h1]
theorem r10_check (r:Reg):q123 fuelH r=some (regChk r):=by
 unfold q123 regChk
 rw [r07_name,bnd_some']
 simp only [cnd_ite,bnot_t,ilt_tt,ine_tt]
 by_cases h0:nm r.1=false
 ·rw [if_pos h0,if_pos h0]
 rw [if_neg h0,if_neg h0]
 by_cases h1:0≤r.2.1∧r.2.1≤14
 ·rw [if_neg (by omega),if_neg (by omega),if_neg (not_not_intro h1)]
  have w1:w64 (isub 15 r.2.1)=15 - r.2.1:=by unfold isub; rw [w64_id (by omega)]
  rw [w1]
  by_cases h2:1≤r.2.2.1∧r.2.2.1≤15 - r.2.1
  ·rw [if_neg (by omega),if_neg (by omega),if_neg (not_not_intro h2)]
   by_cases h3:0≤r.2.2.2.1∧r.2.2.2.1≤31
   ·rw [if_neg (by omega),if_neg (by omega),if_neg (not_not_intro h3)]
    have w2:w64 (isub 32 r.2.2.2.1)=32 - r.2.2.2.1:=by unfold isub; rw [w64_id (by omega)]
    rw [w2]
    by_cases h4:1≤r.2.2.2.2.1∧r.2.2.2.2.1≤32 - r.2.2.2.1
    ·rw [if_neg (by omega),if_neg (by omega),if_neg (not_not_intro h4)]
     have e1:n8 (1:UInt8)=1:=rfl
     have e2:n8 (2:UInt8)=2:=rfl
     have e3:n8 (3:UInt8)=3:=rfl
     rw [e1,e2,e3]
     by_cases c1:n8 r.2.2.2.2.2.1=1
     ·rw [if_neg (not_not_intro c1),if_neg (by omega)]
     rw [if_pos c1]
     by_cases c2:n8 r.2.2.2.2.2.1=2
     ·rw [if_neg (not_not_intro c2),if_neg (by omega)]
     rw [if_pos c2]
     by_cases c3:n8 r.2.2.2.2.2.1=3
     ·rw [if_neg (not_not_intro c3),if_neg (by omega)]
     ·rw [if_pos c3,if_pos (by omega)]
    ·rw [if_pos h4]
     by_cases h:r.2.2.2.2.1<1
     ·rw [if_pos h]
     ·rw [if_neg h,if_pos (by omega)]
   ·rw [if_pos h3]
    by_cases h:r.2.2.2.1<0
    ·rw [if_pos h]
    ·rw [if_neg h,if_pos (by omega)]
  ·rw [if_pos h2]
   by_cases h:r.2.2.1<1
   ·rw [if_pos h]
   ·rw [if_neg h,if_pos (by omega)]
 ·rw [if_pos h1]
  by_cases h:r.2.1<0
  ·rw [if_pos h]
  ·rw [if_neg h,if_pos (by omega)]
def chkRegs:Option Reg→List Reg→Int
 | _,[]=>0
 | p,r::l=>if regChk r≠0 then regChk r else match p with
  | none=>chkRegs (some r) l
  | some q=>if r.1=q.1 then 7 else if slt r.1 q.1=true then 8 else chkRegs (some r) l
def regsChk (l:List Reg):Int:=if 16<l.length then 9 else chkRegs none l
def regRnd (p:Option Reg) (r:Reg):Option Int ⊕ Unit:=if regChk r≠0 then .inl (some (regChk r)) else match p with
  | none=>.inr ()
  | some q=>if r.1=q.1 then .inl (some 7) else if slt r.1 q.1=true then .inl (some 8) else .inr ()
theorem itI_regs (l:List Reg):∀ (r:List Reg) (i:Nat),l.drop i=r→i≤l.length→itI (fun i x (_:Unit)=>regRnd (before l i) x) (fun _=>some (0:Int)) i r ()=some (chkRegs (before l i) r)
 | [],i,_,_=>rfl
 | x::r,i,h,hi=>by
  have hx:l[i]?=some x:=by rw [← List.head?_drop,h]; rfl
  have hr:l.drop (i+1)=r:=by rw [← List.drop_drop,h]; rfl
  have hl:i<l.length:=(List.getElem?_eq_some_iff.1 hx).1
  simp only [itI,chkRegs,regRnd]
  have e:before l (i+1)=some x:=hx
  have ih:=itI_regs l r (i+1) hr (by omega)
  rw [e] at ih
  by_cases hc:regChk x≠0
  ·rw [if_pos hc,if_pos hc]
  ·rw [if_neg hc,if_neg hc]
   cases before l i with
   | none=>exact ih
   | some q =>
    simp only
    by_cases h7:x.1=q.1
    ·rw [if_pos h7,if_pos h7]
    ·rw [if_neg h7,if_neg h7]
     by_cases h8:slt x.1 q.1=true
     ·rw [if_pos h8,if_pos h8]
     ·rw [if_neg h8,if_neg h8]
      exact ih
theorem region_list (l:List Reg):q22 fuelH l=some (regsChk l):=by
 unfold q22
 by_cases h:16<l.length
 ·rw [cnd_t (ilt_t (by simp only [len]; omega))]; simp [regsChk,h]
 ·rw [cnd_f (ilt_f (by simp only [len]; omega)),jn_e]
  refine Eq.trans (lst_it (l:=l) (fun (_:Unit) (p:Nat)=>(p:Int)) (fun i x (_:Unit)=>regRnd (before l i) x) (fun _=>some (0:Int)) (fun _ _=>True) (fun self a i hi _=>?_) (fun self a _=>?_) fuelH 0 () (Nat.zero_le _) (by have:=fuelH_eq; omega) trivial) ?_
  ·rw [cnd_t (ilt_t (by simp only [len]; omega)),grd_t (inb_t (by simp only [len]; omega)),lget_i hi,bnd_s (region_check _)]
   unfold regRnd
   by_cases hc:regChk l[i]≠0
   ·rw [if_pos hc,cnd_t (ine_t hc)]; rfl
   ·rw [if_neg hc,cnd_f (ine_f (by simpa using hc)),jn_e,w64_succ hi (by omega)]
    cases i with
    | zero =>
     rw [cnd_f (by rfl),cnd_f (by rfl)]
     exact ⟨rfl,trivial⟩
    | succ i =>
     have e0:before l (i+1)=some l[i]:=by simp only [before]; exact List.getElem?_eq_getElem (by omega)
     have hin:inb ((i:Nat):Int) (len l)=true:=inb_t (by simp only [len]; omega)
     have hp:ilt (0:Int) ((i+1:Nat):Int)=true:=ilt_t (by omega)
     rw [e0,cnd_t hp,w64_back (by omega),grd_t hin,lget_i (show i<l.length by omega),cnd_t hp,grd_t hin]
     simp only
     by_cases h7:l[i+1].1=l[i].1
     ·rw [if_pos h7,cnd_t (by rw [seq_t]; exact h7)]; rfl
     ·rw [if_neg h7,cnd_f (by rw [← Bool.not_eq_true,seq_t]; exact h7)]
      by_cases h8:slt l[i+1].1 l[i].1=true
      ·rw [if_pos h8,cnd_t h8]; rfl
      ·rw [if_neg h8,cnd_f (by simpa using h8)]
       exact ⟨rfl,trivial⟩
  ·rw [cnd_f (ilt_f (by simp only [len]; omega))]
  ·rw [List.drop_zero,itI_regs l l 0 rfl (Nat.zero_le _)]
   simp [regsChk,h,before]
theorem r10_list (l:List Reg):q124 fuelH l=some (regsChk l):=by
 rw [← region_list]
 have e:q123 fuelH=q21 fuelH:=funext fun r=>by rw [r10_check,region_check]
 unfold q124 q22
 rw [e]
def defR:Reg:=([],11,4,0,32,2,true)
def noR:Reg:=([],0,0,0,0,0,false)
def findR (l:List Reg) (n:List UInt8):Option Reg:=if n=[] then some defR else l.find? fun r=>decide (r.1=n)
def findP (l:List Reg) (n:List UInt8):Reg×Bool:=match findR l n with
 | some r=>(r,true)
 | none=>(noR,false)
theorem itI_find (n:List UInt8):∀ (l:List Reg) (i:Nat),itI (fun _ (x:Reg) (_:Unit)=>if x.1=n then (.inl (some (x,true)):Option (Reg×Bool) ⊕ Unit) else .inr ()) (fun _=>some (noR,false)) i l ()=some (match l.find? fun r=>decide (r.1=n) with | some r=>(r,true) | none=>(noR,false))
 | [],_=>rfl
 | x::l,i=>by
  simp only [itI,List.find?_cons]
  by_cases h:x.1=n
  ·rw [if_pos h,decide_eq_true h]
  ·rw [if_neg h,decide_eq_false h]
   exact itI_find n l (i+1)
theorem region_find (l:List Reg) (hl:l.length≤4000000) (n:List UInt8):q24 fuelH (l,n)=some (findP l n):=by
 unfold q24 findP findR
 simp only
 by_cases h:n=[]
 ·rw [cnd_t (by rw [seq_t]; exact h),if_pos h]; rfl
 ·rw [cnd_f (by rw [← Bool.not_eq_true,seq_t]; exact h),if_neg h,jn_e]
  refine Eq.trans (lst_it (l:=l) (fun (_:Unit) (p:Nat)=>(p:Int)) (fun _ (x:Reg) (_:Unit)=>if x.1=n then .inl (some (x,true)) else .inr ()) (fun _=>some (noR,false)) (fun _ _=>True) (fun self a i hi _=>?_) (fun self a _=>?_) fuelH 0 () (Nat.zero_le _) (by have:=fuelH_eq; omega) trivial) (itI_find n l 0)
  ·have hin:inb (i:Int) (len l)=true:=inb_t (by simp only [len]; omega)
   rw [cnd_t (ilt_t (by simp only [len]; omega)),grd_t hin,lget_i hi]
   by_cases hc:l[i].1=n
   ·rw [if_pos hc,cnd_t (by rw [seq_t]; exact hc)]; rfl
   ·rw [if_neg hc,cnd_f (by rw [← Bool.not_eq_true,seq_t]; exact hc),w64_succ hi (by omega)]
    exact ⟨rfl,trivial⟩
  ·rw [cnd_f (ilt_f (by simp only [len]; omega))]
   rfl
theorem r10_find:r10_Find fuelH=q24 fuelH:=by kernel_rfl
end
end Go.Mo
end
section
/-
 Plain facts: the places of rows.
-/
namespace Go.Mo
open Go Go.W Go.Lib
set_option maxRecDepth 100000
noncomputable section
def usableR (r:Reg):Prop:=r=defR∨regChk r=0
instance (r:Reg):Decidable (usableR r):=by unfold usableR; infer_instance
theorem reg_eq {a b:Reg}:(a=b)=(a.1=b.1∧a.2.1=b.2.1∧a.2.2.1=b.2.2.1∧a.2.2.2.1=b.2.2.2.1∧a.2.2.2.2.1=b.2.2.2.2.1∧a.2.2.2.2.2.1=b.2.2.2.2.2.1∧a.2.2.2.2.2.2=b.2.2.2.2.2.2):=by
 obtain ⟨a1,a2,a3,a4,a5,a6,a7⟩:=a; obtain ⟨b1,b2,b3,b4,b5,b6,b7⟩:=b; simp
theorem def_band (x:Reg):(band (seq x.1 defR.1) (band (ieq x.2.1 defR.2.1) (band (ieq x.2.2.1 defR.2.2.1) (band (ieq x.2.2.2.1 defR.2.2.2.1) (band (ieq x.2.2.2.2.1 defR.2.2.2.2.1) (band (ieq (n8 x.2.2.2.2.2.1) (n8 defR.2.2.2.2.2.1)) (beqb x.2.2.2.2.2.2 defR.2.2.2.2.2.2))))))=true)=(x=defR):=by
 simp only [band_tt,seq_t,ieq_tt,beqb_t,n8_eq]
 exact reg_eq.symm
theorem region_usable_eq (r:Reg):q38 fuelH r=some (decide (usableR r)):=by
 unfold q38
 rw [bnd_s (show q23 fuelH ()=some defR from rfl),region_check,bnd_some']
 by_cases h:r=defR
 ·rw [cnd_t ((def_band r).mpr h),@decide_eq_true (usableR r) _ (.inl h)]
 ·rw [cnd_f (by rw [← Bool.not_eq_true]; exact fun k=>h ((def_band r).mp k))]
  congr 1
  by_cases h2:regChk r=0
  ·rw [ieq_t h2,@decide_eq_true (usableR r) _ (.inr h2)]
  ·rw [ieq_f h2,@decide_eq_false (usableR r) _ (fun k=>k.elim h h2)]
theorem r10_usable_eq (r:Reg):q131 fuelH r=some (decide (usableR r)):=by
 unfold q131
 rw [bnd_s (show q126 fuelH ()=some defR from rfl),r10_check,bnd_some']
 by_cases h2:regChk r=0
 ·rw [cnd_t (ieq_t h2),@decide_eq_true (usableR r) _ (.inr h2)]
 ·rw [cnd_f (ieq_f h2)]
  congr 1
  have hd:=def_band r
  by_cases h:r=defR
  ·rw [@decide_eq_true (usableR r) _ (.inl h)]
   exact hd.mpr h
  ·rw [@decide_eq_false (usableR r) _ (fun k=>k.elim h h2),← Bool.not_eq_true]
   exact fun k=>h (hd.mp k)
theorem usable_bd {r:Reg} (h:usableR r):0≤r.2.1∧1≤r.2.2.1∧r.2.1+r.2.2.1≤15∧0≤r.2.2.2.1∧1≤r.2.2.2.2.1∧r.2.2.2.1+r.2.2.2.2.1≤32∧1≤n8 r.2.2.2.2.2.1∧n8 r.2.2.2.2.2.1≤3:=by
 rcases h with rfl | h
 ·decide
 ·unfold regChk at h
  split at h
  ·cases h
  split at h
  ·cases h
  split at h
  ·cases h
  split at h
  ·cases h
  split at h
  ·cases h
  split at h
  ·cases h
  omega
def colOf (r:Reg) (n:Int):Int:=if n8 r.2.2.2.2.2.1=3 then r.2.2.2.1+(r.2.2.2.2.1 - n) else if n8 r.2.2.2.2.2.1=2 then r.2.2.2.1+(r.2.2.2.2.1 - n).tdiv 2 else r.2.2.2.1
def topOf (r:Reg) (k:Nat):Int:=if r.2.2.2.2.2.2=true then r.2.1+(r.2.2.1 - (k:Int)) else r.2.1
def plRnd (r:Reg) (k:Nat) (i:Nat) (n:Int) (out:List Spot):Option (List Spot×Int) ⊕ List Spot :=
 if n<0 then .inl (some ([],2)) else if r.2.2.2.2.1<n then .inl (some ([],11)) else .inr (out++[(topOf r k+(i:Int),colOf r n,n)])
def placeL (r:Reg) (k:Nat):Nat→List Int→List Spot→List Spot×Int
 | _,[],out=>(out,0)
 | i,n::l,out=>if n<0 then ([],2) else if r.2.2.2.2.1<n then ([],11) else placeL r k (i+1) l (out++[(topOf r k+(i:Int),colOf r n,n)])
def placeS (r:Reg) (l:List Int):List Spot×Int:=if ¬ usableR r then ([],1) else if r.2.2.1<(l.length:Int) then ([],9) else placeL r l.length 0 l []
theorem itI_place (r:Reg) (k:Nat):∀ (l:List Int) (i:Nat) (out:List Spot),itI (plRnd r k) (fun a=>some (a,(0:Int))) i l out=some (placeL r k i l out)
 | [],i,out=>rfl
 | n::l,i,out=>by
  simp only [itI,placeL,plRnd]
  by_cases h1:n<0
  ·rw [if_pos h1,if_pos h1]
  ·rw [if_neg h1,if_neg h1]
   by_cases h2:r.2.2.2.2.1<n
   ·rw [if_pos h2,if_pos h2]
   ·rw [if_neg h2,if_neg h2]
    exact itI_place r k l (i+1) _
theorem jn_cnd {α β:Type} (K:α→Option β) (b:Bool) (x y:α):jn K (fun v=>cnd b (v x) (v y))=K (if b=true then x else y):=by
 rw [jn_e]; cases b<;>rfl
theorem half_bd {x:Int} (h:0≤x):0≤x.tdiv 2∧x.tdiv 2≤x:=by
 rw [Int.tdiv_eq_ediv_of_nonneg h]; omega
theorem spot_w {r:Reg} (hu:usableR r) {k i:Nat} {n:Int} (hk:(k:Int)≤r.2.2.1) (hi:i<k) (h0:0≤n) (hn:n≤r.2.2.2.2.1) :
  w64 (iadd (topOf r k) (i:Int))=topOf r k+(i:Int)∧w64 (isub r.2.2.2.2.1 n)=r.2.2.2.2.1 - n∧w64 (iadd r.2.2.2.1 (r.2.2.2.2.1 - n))=r.2.2.2.1+(r.2.2.2.2.1 - n)∧w64 (idiv (r.2.2.2.2.1 - n) 2)=(r.2.2.2.2.1 - n).tdiv 2∧w64 (iadd r.2.2.2.1 ((r.2.2.2.2.1 - n).tdiv 2))=r.2.2.2.1+(r.2.2.2.2.1 - n).tdiv 2:=by
 have hb:=usable_bd hu
 have hd:=half_bd (x:=r.2.2.2.2.1 - n) (by omega)
 refine ⟨?_,?_,?_,?_,?_⟩
 ·unfold iadd topOf
  rw [w64_id]
  split<;>omega
 ·unfold isub; rw [w64_id (by omega)]
 ·unfold iadd; rw [w64_id (by omega)]
 ·unfold idiv; rw [w64_id (by omega)]
 ·unfold iadd; rw [w64_id (by omega)]
theorem region_place (r:Reg) (l:List Int):q39 fuelH (r,l)=some (placeS r l):=by
 unfold q39 placeS
 simp only
 rw [region_usable_eq,bnd_some',cnd_bnot]
 by_cases hu:usableR r
 ·rw [if_pos hu,if_neg (not_not_intro hu)]
  have hb:=usable_bd hu
  by_cases hk:r.2.2.1<(l.length:Int)
  ·rw [cnd_t (ilt_t (show r.2.2.1<len l from hk)),if_pos hk]
  ·rw [cnd_f (ilt_f (show ¬ r.2.2.1<len l from hk)),if_neg hk,jn_cnd]
   have et:(if r.2.2.2.2.2.2=true then w64 (iadd r.2.1 (w64 (isub r.2.2.1 (len l)))) else r.2.1)=topOf r l.length:=by
    unfold topOf
    have e1:w64 (isub r.2.2.1 (len l))=r.2.2.1 - (l.length:Int):=by unfold isub len; rw [w64_id (by omega)]
    rw [e1]
    unfold iadd
    rw [w64_id (by omega)]
   rw [et,jn_e]
   refine Eq.trans (lst_it (l:=l) (fun (a:List Spot) (p:Nat)=>(a,(p:Int))) (plRnd r l.length) (fun a=>some (a,(0:Int))) (fun i a=>a.length≤i) (fun self a i hi ha=>?_) (fun self a _=>?_) fuelH 0 [] (Nat.zero_le _) (by have:=fuelH_eq; omega) (Nat.le_refl _)) (itI_place r l.length l 0 [])
   ·have hin:inb (i:Int) (len l)=true:=inb_t (by simp only [len]; omega)
    simp only
    rw [cnd_t (ilt_t (by simp only [len]; omega)),grd_t hin,lget_i hi,w64_succ hi (by omega)]
    unfold plRnd
    by_cases h1:l[i]<0
    ·rw [if_pos h1,cnd_t (ilt_t h1)]; rfl
    ·rw [if_neg h1,cnd_f (ilt_f h1)]
     by_cases h2:r.2.2.2.2.1<l[i]
     ·rw [if_pos h2,cnd_t (ilt_t h2)]; rfl
     ·rw [if_neg h2,cnd_f (ilt_f h2)]
      obtain ⟨q1,q2,q3,q4,q5⟩:=spot_w hu (k:=l.length) (i:=i) (n:=l[i]) (by omega) hi (by omega) (by omega)
      have hroom:∀ s:Spot,room (iadd (len a) (len [s])) 24=true:=fun s=>room_t (by simp only [iadd,len,List.length_singleton]; omega)
      rw [q1,q2,q3,q4,q5]
      rw [grd_t (hroom _),grd_t (hroom _),grd_t (hroom _)]
      refine ⟨?_,by simp only [List.length_append,List.length_singleton]; omega⟩
      unfold colOf
      have e3:n8 (3:UInt8)=3:=rfl
      have e2:n8 (2:UInt8)=2:=rfl
      rw [cnd_ieq,cnd_ieq,e3,e2]
      by_cases c3:n8 r.2.2.2.2.2.1=3
      ·rw [if_pos c3,if_pos c3]; rfl
      ·rw [if_neg c3,if_neg c3]
       by_cases c2:n8 r.2.2.2.2.2.1=2
       ·rw [if_pos c2,if_pos c2]; rfl
       ·rw [if_neg c2,if_neg c2]; rfl
   ·simp only
    rw [cnd_f (ilt_f (by simp only [len]; omega))]
 ·rw [if_neg hu,if_pos hu]
theorem r10_place (r:Reg) (l:List Int):q132 fuelH (r,l)=some (placeS r l):=by
 unfold q132 placeS
 simp only
 rw [r10_usable_eq,bnd_some',cnd_bnot]
 by_cases hu:usableR r
 ·rw [if_pos hu,if_neg (not_not_intro hu)]
  have hb:=usable_bd hu
  by_cases hk:r.2.2.1<(l.length:Int)
  ·rw [cnd_t (ilt_t (show r.2.2.1<len l from hk)),if_pos hk]
  ·rw [cnd_f (ilt_f (show ¬ r.2.2.1<len l from hk)),if_neg hk,jn_e]
   refine Eq.trans (lst_it (l:=l) (fun (a:List Spot) (p:Nat)=>(a,(p:Int))) (plRnd r l.length) (fun a=>some (a,(0:Int))) (fun i a=>a.length≤i) (fun self a i hi ha=>?_) (fun self a _=>?_) fuelH 0 [] (Nat.zero_le _) (by have:=fuelH_eq; omega) (Nat.le_refl _)) (itI_place r l.length l 0 [])
   ·have hin:inb (i:Int) (len l)=true:=inb_t (by simp only [len]; omega)
    simp only
    rw [cnd_t (ilt_t (by simp only [len]; omega)),grd_t hin,lget_i hi,w64_succ hi (by omega)]
    unfold plRnd
    by_cases h1:l[i]<0
    ·rw [if_pos h1,cnd_t (ilt_t h1)]; rfl
    ·rw [if_neg h1,cnd_f (ilt_f h1)]
     by_cases h2:r.2.2.2.2.1<l[i]
     ·rw [if_pos h2,cnd_t (ilt_t h2)]; rfl
     ·rw [if_neg h2,cnd_f (ilt_f h2),jn_cnd]
      obtain ⟨q1,q2,q3,q4,q5⟩:=spot_w hu (k:=l.length) (i:=i) (n:=l[i]) (by omega) hi (by omega) (by omega)
      have et:(if r.2.2.2.2.2.2=true then (w64 (iadd (w64 (iadd r.2.1 (i:Int))) (w64 (isub r.2.2.1 (len l)))),r.2.2.2.1,l[i]) else (w64 (iadd r.2.1 (i:Int)),r.2.2.2.1,l[i]))=((topOf r l.length+(i:Int),r.2.2.2.1,l[i]):Spot):=by
       have e1:w64 (isub r.2.2.1 (len l))=r.2.2.1 - (l.length:Int):=by unfold isub len; rw [w64_id (by omega)]
       have e2:w64 (iadd r.2.1 (i:Int))=r.2.1+(i:Int):=by unfold iadd; rw [w64_id (by omega)]
       have e3:w64 (iadd (r.2.1+(i:Int)) (r.2.2.1 - (l.length:Int)))=r.2.1+(r.2.2.1 - (l.length:Int))+(i:Int):=by unfold iadd; rw [w64_id (by omega)]; omega
       rw [e1,e2,e3]
       unfold topOf
       split<;>rfl
      rw [et]
      simp only
      have hroom:∀ s:Spot,room (iadd (len a) (len [s])) 24=true:=fun s=>room_t (by simp only [iadd,len,List.length_singleton]; omega)
      rw [q2,q3,q4,q5]
      rw [grd_t (hroom _),grd_t (hroom _),grd_t (hroom _)]
      refine ⟨?_,by simp only [List.length_append,List.length_singleton]; omega⟩
      unfold colOf
      have e3:n8 (3:UInt8)=3:=rfl
      have e2:n8 (2:UInt8)=2:=rfl
      rw [cnd_ieq,cnd_ieq,e3,e2]
      by_cases c3:n8 r.2.2.2.2.2.1=3
      ·rw [if_pos c3,if_pos c3]; rfl
      ·rw [if_neg c3,if_neg c3]
       by_cases c2:n8 r.2.2.2.2.2.1=2
       ·rw [if_pos c2,if_pos c2]; rfl
       ·rw [if_neg c2,if_neg c2]; rfl
   ·simp only
    rw [cnd_f (ilt_f (by simp only [len]; omega))]
 ·rw [if_neg hu,if_pos hu]
end
end Go.Mo
end
section
/-
 Plain facts: the text and the length of a row; events and their check.
-/
namespace Go.Mo
open Go Go.W Go.Lib
set_option maxRecDepth 100000
noncomputable section
abbrev Ev:=Int×(Int×Int)×List UInt8×UInt8×List UInt8×List Row
theorem rune_count {s:List UInt8} (hs:s.length≤4000000):q33 fuelH s=some ((rns s).length:Int):=by
 unfold q33
 rw [jn_e]
 have hf:∀ (l:List Int) (n:Nat),n+l.length≤100000000→foldR (fun (_:Int) (a:Int) self=>self (w64 (iadd a 1))) (fun a=>some a) l (n:Int)=some ((n+l.length:Nat):Int):=by
  intro l
  induction l with
  | nil=>intro n _; rfl
  | cons r l ih =>
   intro n hn
   simp only [List.length_cons] at hn
   simp only [foldR]
   rw [w64_succ (show n<n+1 by omega) (by omega),ih (n+1) (by omega)]
   simp only [List.length_cons]
   congr 2
   omega
 refine (str_loop (s:=s) (fun (a:Int) (p:Nat)=>(a,s,ofN p)) (fun _ a self=>self (w64 (iadd a 1))) (fun a=>some a) (fun self a p hp=>?_) (fun self a p hp=>?_) fuelH 0 (0:Int) (by have:=fuelH_eq; omega)).trans ?_
 ·simp only [toN_ofN]
  rw [cnd_t (nlt_t (show p<nlen s from hp))]
  rfl
 ·simp only [toN_ofN]
  rw [cnd_f (nlt_f (show ¬ p<nlen s by unfold nlen; omega))]
 ·have:=rns_len _ s (Nat.le_refl _)
  have h:=hf (rns s) 0 (by omega)
  rw [List.drop_zero]
  simpa using h
theorem ch_len {s:List UInt8} (hs:s.length≤4000000) (hv:vld s=true):q34 fuelH s=some ((rns s).length:Int):=by
 unfold q34
 rw [ch_valid _ hs,bnd_some',hv,cnd_f (by rfl),rune_count hs]
 rfl
theorem r08_len {s:List UInt8} (hs:s.length≤4000000) (hv:vld s=true):r08_Len fuelH s=some ((rns s).length:Int):=by
 unfold r08_Len
 rw [r08_valid _ hs,bnd_some',hv,cnd_f (by rfl),r08_runes_eq hs]
 rfl
def lenT:Row→Nat
 | []=>0
 | x::l=>(rns x.1).length+lenT l
def plainT (l:Row):List UInt8:=l.flatMap (·.1)
def okR (l:Row):Prop:=l.length≤16∧(∀ x∈l,vld x.1=true∧x.1.length≤4000000)∧tot l≤4000000
def smallR (l:Row):Prop:=shortR l∧tot l≤4000000
def smallL (l:List Row):Prop:=∀ r∈l,smallR r
theorem okR_of {l:Row} (hs:smallR l) (h:rowChk l=0):okR l:=by
 obtain ⟨h1,h2⟩:=rowChk_ok h
 exact ⟨h1,fun x hx=>⟨(h2 x hx).1,(hs.1 x hx).1⟩,hs.2⟩
theorem lenT_le:∀ (l:Row),(∀ x∈l,x.1.length≤4000000)→lenT l≤4000000 * l.length
 | [],_=>Nat.le_refl _
 | x::l,h=>by
  have h1:=rns_len _ x.1 (Nat.le_refl _)
  have h2:=h x List.mem_cons_self
  have h3:=lenT_le l fun y hy=>h y (List.mem_cons_of_mem _ hy)
  simp only [lenT,List.length_cons]
  omega
theorem lenT_take:∀ (l:Row) (i:Nat) (h:i<l.length),lenT (l.take (i+1))=lenT (l.take i)+(rns l[i].1).length
 | x::l,0,_=>by simp [lenT]
 | x::l,i+1,h=>by
  have:=lenT_take l i (by simpa using h)
  simp only [List.take_succ_cons,lenT,this,List.getElem_cons_succ]
  omega
theorem lenT_take_le (l:Row) (i:Nat):lenT (l.take i)≤lenT l:=by
 induction l generalizing i with
 | nil=>simp [lenT]
 | cons x l ih=>cases i with
  | zero=>simp [lenT]
  | succ i=>simp only [List.take_succ_cons,lenT]; have:=ih i; omega
theorem len_loop {l:Row} (h:okR l) (L:List UInt8→Option Int) (hL:∀ s:List UInt8,s.length≤4000000→vld s=true→L s=some ((rns s).length:Int)) :
  fixN (fun (v2:Int×Int→Option Int) (v3:Int×Int) =>
  cnd (ilt v3.2 (len l))
   (grd (inb v3.2 (len l))
    (bnd (L (lget l (toN v3.2) ([],(((0:UInt8),(false,false)),[]))).1) fun v4 =>
    cnd (ilt v4 (0:Int))
     (some (-1:Int))
     (v2 (w64 (iadd v3.1 v4),w64 (iadd v3.2 (1:Int))))))
   (some v3.1)) fuelH ((0:Int),(0:Int))=some (lenT l:Int):=by
 have hb:=lenT_le l fun x hx=>(h.2.1 x hx).2
 have hl:=h.1
 refine loop_inv (n:=l.length) (fun (a:Nat) (i:Nat)=>((a:Int),(i:Int))) (fun i a=>a=lenT (l.take i)) _ (fun self a i hi hI=>?_) (fun self a hI=>?_) fuelH 0 0 (Nat.zero_le _) (by have:=fuelH_eq; omega) rfl
 ·refine ⟨a+(rns l[i].1).length,?_,?_⟩
  ·have ht:=lenT_take l i hi
   have ht2:=lenT_take_le l (i+1)
   simp only
   rw [cnd_t (ilt_t (by simp only [len]; omega)),grd_t (inb_t (by simp only [len]; omega)),lget_i hi,hL _ (h.2.1 _ (List.getElem_mem hi)).2 (h.2.1 _ (List.getElem_mem hi)).1,bnd_some',cnd_f (ilt_f (by omega)),w64_succ hi (by omega)]
   have e:w64 (iadd (a:Int) ((rns l[i].1).length:Int))=((a+(rns l[i].1).length:Nat):Int):=by
    unfold iadd; rw [w64_id (by omega)]; omega
   rw [e]
  ·rw [lenT_take l i hi,hI]
 ·simp only
  rw [cnd_f (ilt_f (by simp only [len]; omega)),hI,List.take_length]
theorem style_len {l:Row} (h:okR l):q35 fuelH l=some (lenT l:Int):=by
 unfold q35
 rw [jn_e]
 exact len_loop h (q34 fuelH) fun s=>ch_len
theorem r09_len {l:Row} (h:okR l):r09_Len fuelH l=some (lenT l:Int):=by
 unfold r09_Len
 rw [jn_e]
 exact len_loop h (r08_Len fuelH) fun s=>r08_len
theorem plainT_take (l:Row) (i:Nat) (h:i<l.length):plainT (l.take (i+1))=plainT (l.take i)++l[i].1:=by
 unfold plainT
 rw [List.take_succ_eq_append_getElem h,List.flatMap_append]
 simp
theorem plainT_len:∀ (l:Row),(plainT l).length=tot l
 | []=>rfl
 | x::l=>by
  have h3:=plainT_len l
  unfold plainT at h3 ⊢
  simp only [List.flatMap_cons,List.length_append,tot,h3]
theorem tot_take (l:Row) (i:Nat):tot (l.take i)≤tot l:=by
 have h:=tot_app (l.take i) (l.drop i)
 rw [List.take_append_drop] at h
 omega
theorem plainT_le {l:Row} (h:okR l) (i:Nat):(plainT (l.take i)).length≤4000000:=by
 rw [plainT_len]
 have:=tot_take l i
 have:=h.2.2
 omega
theorem write_str {N:Nat} {a b:List UInt8} (h:a.length+b.length≤100000000):q31 N (((),a),b)=some ((b.length:Int),false,(),a++b):=by
 unfold q31
 show (grd (room (iadd (len a) (len b)) 1) (some (len b,false,(),lapp a b)))=_
 rw [grd_t (room_t (by simp only [iadd,len]; omega))]
 rfl
theorem style_plain {l:Row} (h:okR l):q32 fuelH l=some (plainT l):=by
 unfold q32
 rw [jn_e]
 have hl:=h.1
 refine loop_inv (n:=l.length) (fun (a:List UInt8) (i:Nat)=>((i:Int),(),a)) (fun i a=>a=plainT (l.take i)) _ (fun self a i hi hI=>?_) (fun self a hI=>?_) fuelH 0 [] (Nat.zero_le _) (by have:=fuelH_eq; omega) rfl
 ·refine ⟨a++l[i].1,?_,?_⟩
  ·have h1:=plainT_le h i
   have h2:=(h.2.1 _ (List.getElem_mem hi)).2
   simp only
   rw [cnd_t (ilt_t (by simp only [len]; omega)),grd_t (inb_t (by simp only [len]; omega)),lget_i hi,write_str (by rw [hI]; omega),bnd_some',w64_succ hi (by omega)]
  ·rw [plainT_take l i hi,hI]
 ·simp only
  rw [cnd_f (ilt_f (by simp only [len]; omega)),hI,List.take_length]
theorem r09_plain {l:Row} (h:okR l):q129 fuelH l=some (plainT l):=by
 unfold q129
 rw [jn_e]
 have hl:=h.1
 refine loop_inv (n:=l.length) (fun (a:List UInt8) (i:Nat)=>(a,(i:Int))) (fun i a=>a=plainT (l.take i)) _ (fun self a i hi hI=>?_) (fun self a hI=>?_) fuelH 0 [] (Nat.zero_le _) (by have:=fuelH_eq; omega) rfl
 ·refine ⟨a++l[i].1,?_,?_⟩
  ·have h1:=plainT_le h i
   have h2:=(h.2.1 _ (List.getElem_mem hi)).2
   simp only
   rw [cnd_t (ilt_t (by simp only [len]; omega)),grd_t (inb_t (by simp only [len]; omega)),lget_i hi,grd_t (catOk_t (by rw [hI]; simp only [iadd,len]; omega)),w64_succ hi (by omega)]
   rfl
  ·rw [plainT_take l i hi,hI]
 ·simp only
  rw [cnd_f (ilt_f (by simp only [len]; omega)),hI,List.take_length]
def sp2:List UInt8→Bool
 | []=>false
 | [_]=>false
 | a::b::t=>([32,32]:List UInt8).isPrefixOf (a::b::t) || sp2 (b::t)
theorem sp2_index:∀ t:List UInt8,decide (0≤index t [32,32])=sp2 t
 | []=>rfl
 | [a]=>by
  have e:index [a] [32,32]=if ([32,32]:List UInt8).isPrefixOf [a]=true then 0 else if (index [] [32,32] == -1)=true then -1 else index [] [32,32]+1:=rfl
  have hp:([32,32]:List UInt8).isPrefixOf [a]=false:=by cases h:((32:UInt8) == a)<;>simp [List.isPrefixOf,h]
  rw [e,hp]
  rfl
 | a::b::t=>by
  have ih:=sp2_index (b::t)
  have hg:=index_ge (b::t) [32,32]
  have e:index (a::b::t) [32,32]=if ([32,32]:List UInt8).isPrefixOf (a::b::t)=true then 0 else if (index (b::t) [32,32] == -1)=true then -1 else index (b::t) [32,32]+1:=rfl
  have e2:sp2 (a::b::t)=(([32,32]:List UInt8).isPrefixOf (a::b::t) || sp2 (b::t)):=rfl
  rw [e,e2,← ih]
  generalize index (b::t) [32,32]=m at hg ⊢
  cases ([32,32]:List UInt8).isPrefixOf (a::b::t) with
  | true=>rfl
  | false =>
   rw [if_neg (by decide),Bool.false_or]
   by_cases h1:m=-1
   ·subst h1; rfl
   ·rw [if_neg (by simpa using h1),decide_eq_true (by omega),decide_eq_true (by omega)]
theorem sp2_contains (t:List UInt8):contains t [32,32]=sp2 t:=sp2_index t
def neatT (t:List UInt8):Bool:=if t=[] then false else if n8 (lget t (toN (0:Int)) 0)=n8 (32:UInt8) then false else if n8 (lget t (toN (w64 (isub (len t) 1))) 0)=n8 (32:UInt8) then false else !sp2 t
theorem sp2_step {t:List UInt8} {i:Nat} (h:i+1<t.length):sp2 (t.drop i)=(((32 == t[i]) && ((32 == t[i+1]) && true)) || sp2 (t.drop (i+1))):=by
 rw [List.drop_eq_getElem_cons (show i<t.length by omega),List.drop_eq_getElem_cons h]
 rfl
theorem beq_n {a:UInt8} (h:¬ n8 a=n8 (32:UInt8)):((32:UInt8) == a)=false:=by
 rw [beq_eq_false_iff_ne]; intro e; exact h (by rw [← e])
theorem beq_y {a:UInt8} (h:n8 a=n8 (32:UInt8)):((32:UInt8) == a)=true:=by
 rw [n8_inj h]; rfl
theorem neat_loop {t:List UInt8} (ht:t.length≤100000000):∀ (fuel i:Nat),t.length - (i+1)<fuel→i+1≤t.length →
  fixN (fun (v2:Int→Option Bool) (v3:Int) =>
       cnd (ilt v3 (len t))
        (grd (inb v3 (len t))
         (cnd (ieq (n8 (lget t (toN v3) (0:UInt8))) (n8 (32:UInt8)))
          (grd (inb (w64 (isub v3 (1:Int))) (len t))
           (cnd (ieq (n8 (lget t (toN (w64 (isub v3 (1:Int)))) (0:UInt8))) (n8 (32:UInt8)))
            (some false)
            (v2 (w64 (iadd v3 (1:Int))))))
          (v2 (w64 (iadd v3 (1:Int))))))
        (some true)) fuel ((i+1:Nat):Int)=some (!sp2 (t.drop i))
 | 0,i,h,_=>by omega
 | fuel+1,i,h,hi=>by
  rw [fixN_s]
  by_cases hl:i+1<t.length
  ·have h0:inb ((i:Nat):Int) (len t)=true:=inb_t (by simp only [len]; omega)
   rw [cnd_t (ilt_t (by simp only [len]; omega)),grd_t (inb_t (by simp only [len]; omega)),lget_i hl,w64_succ hl (by omega),w64_back (by omega),grd_t h0,lget_i (show i<t.length by omega),sp2_step hl,neat_loop ht fuel (i+1) (by omega) (by omega),cnd_ieq,cnd_ieq]
   by_cases c1:n8 t[i+1]=n8 (32:UInt8)
   ·rw [if_pos c1,beq_y c1]
    by_cases c2:n8 t[i]=n8 (32:UInt8)
    ·rw [if_pos c2,beq_y c2]; rfl
    ·rw [if_neg c2,beq_n c2]; rfl
   ·rw [if_neg c1,beq_n c1]; simp
  ·rw [cnd_f (ilt_f (by simp only [len]; omega))]
   have:t.drop i=[t[i]]:=by
    rw [List.drop_eq_getElem_cons (show i<t.length by omega),List.drop_eq_nil_of_le (by omega)]
   rw [this]
   rfl
theorem r11_neat_eq {t:List UInt8} (ht:t.length≤4000000):r11_neat fuelH t=some (neatT t):=by
 unfold r11_neat neatT
 by_cases h0:t=[]
 ·rw [cnd_t (by rw [seq_t]; exact h0),if_pos h0]
 ·have hl:0<t.length:=List.length_pos_iff.2 h0
  have e1:w64 (isub (len t) 1)=((t.length - 1:Nat):Int):=w64_pred hl (by omega)
  have hin:inb (w64 (isub (len t) 1)) (len t)=true:=by rw [e1]; exact inb_t (by simp only [len]; omega)
  rw [cnd_f (by rw [← Bool.not_eq_true,seq_t]; exact h0),if_neg h0,grd_t (inb_t (by simp only [len]; omega)),cnd_ieq]
  by_cases h1:n8 (lget t (toN (0:Int)) 0)=n8 (32:UInt8)
  ·rw [if_pos h1,if_pos h1]
  ·rw [if_neg h1,if_neg h1,grd_t hin,cnd_ieq]
   by_cases h2:n8 (lget t (toN (w64 (isub (len t) 1))) 0)=n8 (32:UInt8)
   ·rw [if_pos h2,if_pos h2]
   ·rw [if_neg h2,if_neg h2,jn_e]
    exact neat_loop (by omega) fuelH 0 (by have:=fuelH_eq; omega) hl
def rowE (l:Row):Int:=if rowChk l≠0 then rowChk l else if neatT (plainT l)=false then 4 else if 32<lenT l then 11 else 0
theorem event_row_eq {l:Row} (hs:smallR l):q36 fuelH l=some (rowE l):=by
 unfold q36 rowE
 rw [bnd_s (style_check hs.1)]
 by_cases hk:rowChk l≠0
 ·rw [cnd_t (ine_t hk),if_pos hk]
 ·rw [cnd_f (ine_f (by simpa using hk)),if_neg hk]
  have hr:=okR_of hs (by simpa using hk)
  have hp:=plainT_le hr l.length
  rw [List.take_length] at hp
  rw [bnd_s (style_plain hr)]
  generalize plainT l=t at hp ⊢
  unfold neatT
  by_cases h0:t=[]
  ·rw [cnd_t (by rw [seq_t]; exact h0),if_pos h0,if_pos rfl]
  ·have hl:0<t.length:=List.length_pos_iff.2 h0
   have e1:w64 (isub (len t) 1)=((t.length - 1:Nat):Int):=w64_pred hl (by omega)
   have hin:inb (w64 (isub (len t) 1)) (len t)=true:=by rw [e1]; exact inb_t (by simp only [len]; omega)
   rw [cnd_f (by rw [← Bool.not_eq_true,seq_t]; exact h0),if_neg h0,grd_t (inb_t (by simp only [len]; omega)),cnd_ieq]
   by_cases h1:n8 (lget t (toN (0:Int)) 0)=n8 (32:UInt8)
   ·rw [if_pos h1,if_pos h1,if_pos rfl]
   ·rw [if_neg h1,if_neg h1,grd_t hin,cnd_ieq]
    by_cases h2:n8 (lget t (toN (w64 (isub (len t) 1))) 0)=n8 (32:UInt8)
    ·rw [if_pos h2,if_pos h2,if_pos rfl]
    ·rw [if_neg h2,if_neg h2]
     have hc:strings_Contains fuelH (t,[32,32])=some (sp2 t):=by
      show grd (decide (t.length<4294967281)) (some (contains t [32,32]))=_
      rw [grd_t (decide_eq_true (by omega)),sp2_contains]
     rw [bnd_s hc]
     by_cases h3:sp2 t=true
     ·rw [cnd_t h3,h3,if_pos (by decide)]
     ·rw [cnd_f (by simpa using h3),Bool.eq_false_iff.2 h3,if_neg (by simp),bnd_s (style_len hr),cnd_ilt]
      by_cases h4:32<lenT l
      ·rw [if_pos (by omega),if_pos h4]
      ·rw [if_neg (by omega),if_neg h4]
end
end Go.Mo
end
section
/-
 Plain facts: the check of an event,on both sides; spots; the length of an event.
-/
namespace Go.Mo
open Go Go.W Go.Lib
set_option maxRecDepth 100000
noncomputable section
theorem spans_eq (N:Nat) (s:Int×Int):q25 N s=some (decide (0≤s.1∧s.1<s.2∧s.2≤5184000)):=by
 unfold q25
 rw [cnd_ile,cnd_ilt]
 by_cases h1:0≤s.1
 ·rw [if_pos h1]
  by_cases h2:s.1<s.2
  ·rw [if_pos h2]; simp [h1,h2,ile]
  ·rw [if_neg h2]; simp [h2]
 ·rw [if_neg h1]; simp [h1]
theorem spanned_eq (N:Nat) (s:Int×Int):q125 N s=some (decide (0≤s.1∧s.1<s.2∧s.2≤5184000)):=spans_eq N s
def kindP (k:UInt8):Bool:=match q27 fuelH k with
 | some s=>decide (seq s []=decide (¬ (1≤n8 k∧n8 k≤4)))
 | none=>false
theorem kind_tab (k:UInt8):∃ s,q27 fuelH k=some s∧seq s []=decide (¬ (1≤n8 k∧n8 k≤4)):=by
 have h:kindP k=true:=all_u8 (P:=kindP) (by kernel_rfl) k
 unfold kindP at h
 split at h
 ·rename_i s hs
  exact ⟨s,hs,of_decide_eq_true h⟩
 ·cases h
theorem jn_sp {β:Type} (K:Bool→Option β) (s:List UInt8) (X:Option Bool) (hX:X=some (nm s)):jn K (fun v=>cnd (sne s ([]:List UInt8)) (bnd X fun w=>v (bnot w)) (v false))=K (decide (s≠[]∧nm s=false)):=by
 rw [jn_e,hX,bnd_some']
 by_cases h:s=[]
 ·subst h; rfl
 ·rw [cnd_t (by simp [sne,h])]
  congr 1
  cases hn:nm s<;>simp [bnot,h]
def rowsE:List Row→Int→Int
 | [],k=>k
 | l::r,k=>if rowE l≠0 then rowE l else rowsE r k
def lens (l:List Row):List Int:=l.map fun r=>(lenT r:Int)
def evChk (x:Ev) (rs:List Reg):Int :=
 if x.1<1 then 2 else if 1099511627776<x.1 then 2 else
 if ¬ (0≤x.2.1.1∧x.2.1.1<x.2.1.2∧x.2.1.2≤5184000) then 2 else
 match findR rs x.2.2.1 with
 | none=>6
 | some r =>
  if ¬ (1≤n8 x.2.2.2.1∧n8 x.2.2.2.1≤4) then 3 else
  if x.2.2.2.2.1≠[]∧nm x.2.2.2.2.1=false then 5 else
  if x.2.2.2.2.2.length=0 then 9 else if 4<x.2.2.2.2.2.length then 9 else
  rowsE x.2.2.2.2.2 (placeS r (lens x.2.2.2.2.2)).2
theorem rowE_ok {l:Row} (hs:smallR l) (h:rowE l=0):okR l:=by
 unfold rowE at h
 split at h
 ·rename_i hc; exact absurd h hc
 ·rename_i hc; exact okR_of hs (by simpa using hc)
theorem event_lens_eq {x:Ev} (h:∀ l∈x.2.2.2.2.2,okR l) (hl:x.2.2.2.2.2.length≤1000000):q37 fuelH x=some (lens x.2.2.2.2.2):=by
 unfold q37
 rw [jn_e]
 generalize x.2.2.2.2.2=l at h hl ⊢
 refine loop_inv (n:=l.length) (fun (a:List Int) (i:Nat)=>(a,(i:Int))) (fun i a=>a=lens (l.take i)) _ (fun self a i hi hI=>?_) (fun self a hI=>?_) fuelH 0 [] (Nat.zero_le _) (by have:=fuelH_eq; omega) rfl
 ·refine ⟨a++[(lenT l[i]:Int)],?_,?_⟩
  ·have ha:a.length≤i:=by rw [hI]; unfold lens; rw [List.length_map,List.length_take]; omega
   simp only
   rw [cnd_t (ilt_t (by simp only [len]; omega)),grd_t (inb_t (by simp only [len]; omega)),lget_i hi,style_len (h _ (List.getElem_mem hi)),bnd_some',grd_t (room_t (by simp only [iadd,len,List.length_singleton]; omega)),w64_succ hi (by omega)]
   rfl
  ·rw [hI]; unfold lens; rw [List.take_succ_eq_append_getElem hi,List.map_append]; rfl
 ·simp only
  rw [cnd_f (ilt_f (by simp only [len]; omega)),hI,List.take_length]
theorem itI_rows (K:Option Int) (k:Int):∀ (l:List Row) (i:Nat),((∀ r∈l,rowE r=0)→K=some k)→itI (fun _ (r:Row) (_:Unit)=>if rowE r≠0 then (.inl (some (rowE r)):Option Int ⊕ Unit) else .inr ()) (fun _=>K) i l ()=some (rowsE l k)
 | [],i,h=>h fun r hr=>by cases hr
 | r::l,i,h=>by
  simp only [itI,rowsE]
  by_cases hc:rowE r≠0
  ·rw [if_pos hc,if_pos hc]
  ·rw [if_neg hc,if_neg hc]
   refine itI_rows K k l (i+1) fun hl=>h fun q hq=>?_
   rcases List.mem_cons.1 hq with rfl | hq
   ·simpa using hc
   ·exact hl q hq
theorem itI_rows2 (K:List Int→Option Int) (k:List Int→Int) (hK:∀ a,K a=some (k a)):∀ (l:List Row) (i:Nat) (a:List Int),itI (fun _ (r:Row) (a:List Int)=>if rowE r≠0 then (.inl (some (rowE r)):Option Int ⊕ List Int) else .inr (a++[(lenT r:Int)])) K i l a=some (rowsE l (k (a++lens l)))
 | [],i,a=>by simp [itI,hK,rowsE,lens]
 | r::l,i,a=>by
  simp only [itI,rowsE]
  by_cases hc:rowE r≠0
  ·rw [if_pos hc,if_pos hc]
  ·rw [if_neg hc,if_neg hc]
   simp only
   rw [itI_rows2 K k hK l (i+1)]
   simp [lens]
theorem event_check_eq {x:Ev} {rs:List Reg} (hs:smallL x.2.2.2.2.2) (hr:rs.length≤4000000):q40 fuelH (x,rs)=some (evChk x rs):=by
 unfold q40 evChk
 simp only
 rw [region_find _ hr,bnd_some',cnd_ilt]
 by_cases c1:x.1<1
 ·rw [if_pos c1,if_pos c1]
 rw [if_neg c1,if_neg c1,cnd_ilt]
 by_cases c2:1099511627776<x.1
 ·rw [if_pos c2,if_pos c2]
 rw [if_neg c2,if_neg c2,spans_eq,bnd_some',cnd_bnot]
 by_cases c3:0≤x.2.1.1∧x.2.1.1<x.2.1.2∧x.2.1.2≤5184000
 ·rw [if_pos c3,if_neg (not_not_intro c3)]
  unfold findP
  cases hf:findR rs x.2.2.1 with
  | none=>rfl
  | some r =>
   simp only
   rw [cnd_f (by rfl)]
   obtain ⟨s,k1,k2⟩:=kind_tab x.2.2.2.1
   rw [bnd_s k1,k2,cnd_dec]
   by_cases c4:1≤n8 x.2.2.2.1∧n8 x.2.2.2.1≤4
   ·rw [if_neg (not_not_intro c4),if_neg (not_not_intro c4),jn_sp _ _ _ (lines_name _),cnd_dec]
    by_cases c5:x.2.2.2.2.1≠[]∧nm x.2.2.2.2.1=false
    ·rw [if_pos c5,if_pos c5]
    rw [if_neg c5,if_neg c5]
    by_cases c6:x.2.2.2.2.2.length=0
    ·rw [cnd_t (ieq_t (by simp only [len]; omega)),if_pos c6]
    rw [cnd_f (ieq_f (by simp only [len]; omega)),if_neg c6]
    by_cases c7:4<x.2.2.2.2.2.length
    ·rw [cnd_t (ilt_t (by simp only [len]; omega)),if_pos c7]
    rw [cnd_f (ilt_f (by simp only [len]; omega)),if_neg c7,jn_e]
    have hlen:=@event_lens_eq x
    generalize x.2.2.2.2.2=l at hs c6 c7 hlen ⊢
    refine Eq.trans (lst_it (l:=l) (fun (_:Unit) (p:Nat)=>(p:Int)) (fun _ (r:Row) (_:Unit)=>if rowE r≠0 then .inl (some (rowE r)) else .inr ()) (fun _=>bnd (q37 fuelH x) fun v5=>bnd (q39 fuelH (r,v5)) fun v6=>some v6.2) (fun _ _=>True) (fun self a i hi _=>?_) (fun self a _=>?_) fuelH 0 () (Nat.zero_le _) (by have:=fuelH_eq; omega) trivial) (itI_rows _ _ l 0 fun hl=>?_)
    ·rw [cnd_t (ilt_t (by simp only [len]; omega)),grd_t (inb_t (by simp only [len]; omega)),lget_i hi,bnd_s (event_row_eq (hs _ (List.getElem_mem hi))),w64_succ hi (by omega)]
     by_cases hc:rowE l[i]≠0
     ·rw [if_pos hc,cnd_t (ine_t hc)]; rfl
     ·rw [if_neg hc,cnd_f (ine_f (by simpa using hc))]
      exact ⟨rfl,trivial⟩
    ·rw [cnd_f (ilt_f (by simp only [len]; omega))]
    ·rw [bnd_s (hlen (fun q hq=>rowE_ok (hs q hq) (hl q hq)) (by omega)),bnd_s (region_place _ _)]
   ·rw [if_pos c4,if_pos c4]
 ·rw [if_neg c3,if_pos c3]
theorem r11_check_eq {x:Ev} {rs:List Reg} (hs:smallL x.2.2.2.2.2) (hr:rs.length≤4000000):q133 fuelH (x,rs)=some (evChk x rs):=by
 unfold q133 evChk
 simp only
 rw [cnd_ilt]
 by_cases c1:x.1<1
 ·rw [if_pos c1,if_pos c1]
 rw [if_neg c1,if_neg c1,cnd_ilt]
 by_cases c2:1099511627776<x.1
 ·rw [if_pos c2,if_pos c2]
 rw [if_neg c2,if_neg c2,spanned_eq,bnd_some',cnd_bnot]
 by_cases c3:0≤x.2.1.1∧x.2.1.1<x.2.1.2∧x.2.1.2≤5184000
 ·rw [if_pos c3,if_neg (not_not_intro c3),r10_find,region_find _ hr,bnd_some']
  unfold findP
  cases hf:findR rs x.2.2.1 with
  | none=>rfl
  | some r =>
   simp only
   rw [cnd_f (by rfl)]
   have e1:n8 (1:UInt8)=1:=rfl
   have e4:n8 (4:UInt8)=4:=rfl
   rw [cnd_ilt,cnd_ilt,e1,e4]
   by_cases c4:1≤n8 x.2.2.2.1∧n8 x.2.2.2.1≤4
   ·rw [if_neg (by omega),if_neg (by omega),if_neg (not_not_intro c4),jn_sp _ _ _ (r07_name _),cnd_dec]
    by_cases c5:x.2.2.2.2.1≠[]∧nm x.2.2.2.2.1=false
    ·rw [if_pos c5,if_pos c5]
    rw [if_neg c5,if_neg c5]
    by_cases c6:x.2.2.2.2.2.length=0
    ·rw [cnd_t (ieq_t (by simp only [len]; omega)),if_pos c6]
    rw [cnd_f (ieq_f (by simp only [len]; omega)),if_neg c6]
    by_cases c7:4<x.2.2.2.2.2.length
    ·rw [cnd_t (ilt_t (by simp only [len]; omega)),if_pos c7]
    rw [cnd_f (ilt_f (by simp only [len]; omega)),if_neg c7,jn_e]
    generalize x.2.2.2.2.2=l at hs c6 c7 ⊢
    refine Eq.trans (lst_it (l:=l) (fun (a:List Int) (p:Nat)=>(a,(p:Int))) (fun _ (r:Row) (a:List Int)=>if rowE r≠0 then .inl (some (rowE r)) else .inr (a++[(lenT r:Int)])) (fun a=>bnd (q132 fuelH (r,a)) fun v4=>some v4.2) (fun i a=>a.length≤i) (fun self a i hi ha=>?_) (fun self a _=>?_) fuelH 0 [] (Nat.zero_le _) (by have:=fuelH_eq; omega) (Nat.le_refl _)) (itI_rows2 _ (fun a=>(placeS r a).2) (fun a=>by rw [r10_place]; rfl) l 0 [])
    ·have hsr:=hs _ (List.getElem_mem hi)
     have hin:inb (i:Int) (len l)=true:=inb_t (by simp only [len]; omega)
     simp only
     rw [cnd_t (ilt_t (by simp only [len]; omega)),grd_t hin,lget_i hi,bnd_s (r09_check hsr.1),w64_succ hi (by omega)]
     generalize l[i]=q at hsr ⊢
     unfold rowE
     by_cases hk:rowChk q≠0
     ·rw [if_pos hk,if_pos hk,cnd_t (ine_t hk)]; rfl
     ·have hok:=okR_of hsr (by simpa using hk)
      have hp:=plainT_le hok q.length
      rw [List.take_length] at hp
      rw [if_neg hk,cnd_f (ine_f (by simpa using hk)),bnd_s (r09_plain hok),bnd_s (r11_neat_eq hp),cnd_ite]
      by_cases hn:neatT (plainT q)=false
      ·rw [if_pos (by rw [hn]; rfl),if_pos hn,if_pos (by decide)]; rfl
      ·rw [if_neg (by rw [bnot_t]; exact hn),if_neg hn,bnd_s (r09_len hok),cnd_ilt]
       by_cases h4:32<lenT q
       ·rw [if_pos (by omega),if_pos h4,if_pos (by decide)]; rfl
       ·rw [if_neg (by omega),if_neg h4,if_neg (by decide),bnd_s (r09_len hok),grd_t (room_t (by simp only [iadd,len,List.length_singleton]; omega))]
        exact ⟨rfl,by simp only [List.length_append,List.length_singleton]; omega⟩
    ·simp only
     rw [cnd_f (ilt_f (by simp only [len]; omega))]
   ·rw [if_pos c4]
    by_cases h:n8 x.2.2.2.1<1
    ·rw [if_pos h]
    ·rw [if_neg h,if_pos (by omega)]
 ·rw [if_neg c3,if_pos c3]
end
end Go.Mo
end
section
/-
 Plain facts: the header of a document; events by their number; the length of an event.
-/
namespace Go.Mo
open Go Go.W Go.Lib
set_option maxRecDepth 100000
noncomputable section
abbrev Cmt:=Int×Int×Int×Int×List UInt8×List UInt8×Bool×Bool
abbrev Doc:=List UInt8×List UInt8×UInt8×Bool×Int×List Reg×List Ev×List Cmt
def tvB (r:UInt8):Bool:=(q16 fuelH r).getD false
def cdB (r:UInt8):Bool:=(q17 fuelH r).getD false
theorem tv_eq (r:UInt8):q16 fuelH r=some (tvB r)∧q17 fuelH r=some (cdB r) :=
 of_decide_eq_true (all_u8 (P:=fun r=>decide (q16 fuelH r=some (tvB r)∧q17 fuelH r=some (cdB r))) (by kernel_rfl) r)
theorem r02_eq (r:UInt8):q104 fuelH r=some (tvB r)∧q121 fuelH r=some (cdB r):=by
 obtain ⟨h1,h2,_⟩:=rate_eq fuelH r
 rw [← h1,← h2]
 exact tv_eq r
def rateBad (r:UInt8) (drop:Bool):Prop:=tvB r=false∨(drop=true∧cdB r=false)
instance (r:UInt8) (drop:Bool):Decidable (rateBad r drop):=by unfold rateBad; infer_instance
def headChk (d:Doc):Int :=
 if vld d.1=false then 10 else if 400<d.1.length then 9 else if d.2.1≠[]∧nm d.2.1=false then 5 else
 if rateBad d.2.2.1 d.2.2.2.1 then 13 else if d.2.2.2.2.1<0 then 2 else if 1099511627776<d.2.2.2.2.1 then 2 else 0
theorem rate_chk (r:UInt8) (b:Bool):q18 fuelH (r,b)=some (if rateBad r b then 13 else 0):=by
 unfold q18
 obtain ⟨h1,h2⟩:=tv_eq r
 simp only
 rw [h1,bnd_some']
 by_cases c1:tvB r=false
 ·rw [cnd_t (by rw [c1]; rfl),if_pos (show rateBad r b from .inl c1)]
 ·rw [cnd_f (by rw [← Bool.not_eq_true,bnot_t]; exact c1)]
  cases b with
  | false =>
   rw [cnd_f rfl,if_neg]
   rintro (h | h)
   ·exact c1 h
   ·cases h.1
  | true =>
   rw [cnd_t rfl,h2,bnd_some']
   by_cases c2:cdB r=false
   ·rw [cnd_t (by rw [c2]; rfl),if_pos (show rateBad r true from .inr ⟨rfl,c2⟩)]
   ·rw [cnd_f (by rw [← Bool.not_eq_true,bnot_t]; exact c2),if_neg]
    rintro (h | h)
    ·exact c1 h
    ·exact c2 h.2
theorem header_eq {d:Doc} (hd:d.1.length≤4000000):q19 fuelH d=some (headChk d):=by
 unfold q19 headChk
 rw [jn_e,ch_valid _ hd,bnd_some']
 by_cases c1:vld d.1=false
 ·rw [cnd_t (by rw [c1]; rfl),if_pos c1]
 rw [cnd_f (by rw [← Bool.not_eq_true,bnot_t]; exact c1),if_neg c1]
 by_cases c2:400<d.1.length
 ·rw [cnd_t (ilt_t (by simp only [len]; omega)),if_pos c2]
 rw [cnd_f (ilt_f (by simp only [len]; omega)),if_neg c2,lines_name,bnd_some',rate_chk,bnd_some']
 have hrest:cnd (ine (if rateBad d.2.2.1 d.2.2.2.1 then (13:Int) else 0) 0) (some (if rateBad d.2.2.1 d.2.2.2.1 then (13:Int) else 0)) (cnd (ilt d.2.2.2.2.1 0) (some (2:Int)) (cnd (ilt 1099511627776 d.2.2.2.2.1) (some 2) (some 0)))=some (if rateBad d.2.2.1 d.2.2.2.1 then 13 else if d.2.2.2.2.1<0 then 2 else if 1099511627776<d.2.2.2.2.1 then 2 else 0):=by
  by_cases c4:rateBad d.2.2.1 d.2.2.2.1
  ·rw [if_pos c4,if_pos c4]; rfl
  ·rw [if_neg c4,if_neg c4,cnd_f (by rfl),cnd_ilt,cnd_ilt]
   by_cases c5:d.2.2.2.2.1<0
   ·rw [if_pos c5,if_pos c5]
   rw [if_neg c5,if_neg c5]
   by_cases c6:1099511627776<d.2.2.2.2.1
   ·rw [if_pos c6,if_pos c6]
   ·rw [if_neg c6,if_neg c6]
 rw [hrest]
 generalize (if rateBad d.2.2.1 d.2.2.2.1 then (13:Int) else if d.2.2.2.2.1<0 then 2 else if 1099511627776<d.2.2.2.2.1 then 2 else 0)=R
 by_cases c3:d.2.1=[]
 ·rw [cnd_f (by simp [sne,c3]),if_neg fun h=>h.1 c3]
 ·rw [cnd_t (by simp [sne,c3])]
  by_cases c4:nm d.2.1=false
  ·rw [cnd_t (by rw [c4]; rfl),if_pos ⟨c3,c4⟩]
  ·rw [cnd_f (by rw [← Bool.not_eq_true,bnot_t]; exact c4),if_neg fun h=>c4 h.2]
theorem checkHead_eq {d:Doc} (hd:d.1.length≤4000000):q122 fuelH d=some (headChk d):=by
 unfold q122 headChk
 rw [r08_valid _ hd,bnd_some']
 by_cases c1:vld d.1=false
 ·rw [cnd_t (by rw [c1]; rfl),if_pos c1]
 rw [cnd_f (by rw [← Bool.not_eq_true,bnot_t]; exact c1),if_neg c1]
 by_cases c2:400<d.1.length
 ·rw [cnd_t (ilt_t (by simp only [len]; omega)),if_pos c2]
 rw [cnd_f (ilt_f (by simp only [len]; omega)),if_neg c2,jn_sp _ _ _ (r07_name _),cnd_dec]
 by_cases c3:d.2.1≠[]∧nm d.2.1=false
 ·rw [if_pos c3,if_pos c3]
 rw [if_neg c3,if_neg c3,jn_e]
 obtain ⟨h1,h2⟩:=r02_eq d.2.2.1
 rw [h1,bnd_some',h2,bnd_some']
 have hrest:∀ b:Bool,b=decide (rateBad d.2.2.1 d.2.2.2.1)→cnd b (some (13:Int)) (cnd (ilt d.2.2.2.2.1 0) (some (2:Int)) (cnd (ilt 1099511627776 d.2.2.2.2.1) (some 2) (some 0)))=some (if rateBad d.2.2.1 d.2.2.2.1 then 13 else if d.2.2.2.2.1<0 then 2 else if 1099511627776<d.2.2.2.2.1 then 2 else 0):=by
  rintro b rfl
  rw [cnd_dec,cnd_ilt,cnd_ilt]
  by_cases c4:rateBad d.2.2.1 d.2.2.2.1
  ·rw [if_pos c4,if_pos c4]
  rw [if_neg c4,if_neg c4]
  by_cases c5:d.2.2.2.2.1<0
  ·rw [if_pos c5,if_pos c5]
  rw [if_neg c5,if_neg c5]
  by_cases c6:1099511627776<d.2.2.2.2.1
  ·rw [if_pos c6,if_pos c6]
  ·rw [if_neg c6,if_neg c6]
 by_cases c1:tvB d.2.2.1=false
 ·rw [cnd_t (by rw [c1]; rfl)]
  exact hrest true (decide_eq_true (show rateBad _ _ from .inl c1)).symm
 ·rw [cnd_f (by rw [← Bool.not_eq_true,bnot_t]; exact c1)]
  cases hb:d.2.2.2.1 with
  | false =>
   rw [cnd_f rfl]
   rw [hb] at hrest
   refine hrest false (decide_eq_false ?_).symm
   rintro (h | h)
   ·exact c1 h
   ·cases h.1
  | true =>
   rw [cnd_t rfl]
   rw [hb] at hrest
   refine hrest _ ?_
   cases hc:cdB d.2.2.1 with
   | false=>exact (decide_eq_true (show rateBad _ _ from .inr ⟨rfl,hc⟩)).symm
   | true =>
    refine (decide_eq_false ?_).symm
    rintro (h | h)
    ·exact c1 h
    ·rw [hc] at h; cases h.2
def mapE:Nat→List Ev→List (Int×Int)
 | _,[]=>[]
 | i,x::l=>(x.1,(i:Int))::mapE (i+1) l
def findE:Nat→List Ev→Int→Int
 | _,[],_=>-1
 | i,x::l,k=>if x.1=k then (i:Int) else findE (i+1) l k
def hasE (l:List Ev) (k:Int):Prop:=∃ x∈l,x.1=k
instance (l:List Ev) (k:Int):Decidable (hasE l k):=by unfold hasE; infer_instance
theorem mapE_app:∀ (a b:List Ev) (i:Nat),mapE i (a++b)=mapE i a++mapE (i+a.length) b
 | [],b,i=>by simp [mapE]
 | x::a,b,i=>by
  simp only [List.cons_append,mapE,mapE_app a b (i+1),List.length_cons]
  congr 3; omega
theorem mhas_mapE:∀ (l:List Ev) (i:Nat) (k:Int),mhas ieq (mapE i l) k=decide (hasE l k)
 | [],i,k=>by simp [mapE,mhas,hasE]
 | x::l,i,k=>by
  simp only [mapE,mhas,mhas_mapE l (i+1) k]
  by_cases h:k=x.1
  ·rw [ieq_t h,decide_eq_true (show hasE (x::l) k from ⟨x,List.mem_cons_self,h.symm⟩)]; rfl
  ·rw [ieq_f h]
   show (false || _)=_
   rw [Bool.false_or]
   exact decide_eq_decide.2 ⟨fun ⟨y,h1,h2⟩=>⟨y,List.mem_cons_of_mem _ h1,h2⟩,fun ⟨y,h1,h2⟩=>by
    rcases List.mem_cons.1 h1 with rfl | h1
    ·exact absurd h2.symm h
    ·exact ⟨y,h1,h2⟩⟩
theorem mput_new {k v:Int}:∀ (m:List (Int×Int)),mhas ieq m k=false→mput ieq m k v=m++[(k,v)]
 | [],_=>rfl
 | x::m,h=>by
  simp only [mhas,bor,Bool.or_eq_false_iff] at h
  simp only [mput,h.1,mput_new m h.2]
  rfl
theorem mget_mapE:∀ (l:List Ev) (i:Nat) (k:Int),hasE l k→mget ieq 0 (mapE i l) k=findE i l k
 | [],i,k,h=>by obtain ⟨x,h,_⟩:=h; cases h
 | x::l,i,k,h=>by
  simp only [mapE,mget,findE]
  by_cases hc:x.1=k
  ·rw [ieq_t hc.symm,if_pos hc]; rfl
  ·rw [ieq_f (fun e=>hc e.symm),if_neg hc]
   obtain ⟨y,h1,h2⟩:=h
   rcases List.mem_cons.1 h1 with rfl | h1
   ·exact absurd h2 hc
   ·exact mget_mapE l (i+1) k ⟨y,h1,h2⟩
theorem findE_no:∀ (l:List Ev) (i:Nat) (k:Int),¬ hasE l k→findE i l k=-1
 | [],i,k,_=>rfl
 | x::l,i,k,h=>by
  simp only [findE]
  rw [if_neg fun e=>h ⟨x,List.mem_cons_self,e⟩]
  exact findE_no l (i+1) k fun ⟨y,h1,h2⟩=>h ⟨y,List.mem_cons_of_mem _ h1,h2⟩
theorem findE_yes:∀ (l:List Ev) (i:Nat) (k:Int),hasE l k→∃ j,∃ h:j<l.length,findE i l k=((i+j:Nat):Int)∧l[j].1=k∧¬ hasE (l.take j) k
 | [],i,k,h=>by obtain ⟨x,h,_⟩:=h; cases h
 | x::l,i,k,h=>by
  simp only [findE]
  by_cases hc:x.1=k
  ·exact ⟨0,by simp,by rw [if_pos hc]; rfl,hc,fun ⟨y,h1,_⟩=>by cases h1⟩
  ·obtain ⟨y,h1,h2⟩:=h
   rcases List.mem_cons.1 h1 with rfl | h1
   ·exact absurd h2 hc
   ·obtain ⟨j,hj,e1,e2,e3⟩:=findE_yes l (i+1) k ⟨y,h1,h2⟩
    refine ⟨j+1,by simpa using hj,?_,by simpa using e2,?_⟩
    ·rw [if_neg hc,e1]; congr 1; omega
    ·rintro ⟨z,h3,h4⟩
     rw [List.take_succ_cons] at h3
     rcases List.mem_cons.1 h3 with rfl | h3
     ·exact hc h4
     ·exact e3 ⟨z,h3,h4⟩
theorem findE_at {l:List Ev} {i:Nat} (hi:i<l.length):findE 0 l l[i].1=(i:Int)↔¬ hasE (l.take i) l[i].1:=by
 obtain ⟨j,hj,e1,e2,e3⟩:=findE_yes l 0 l[i].1 ⟨l[i],List.getElem_mem hi,rfl⟩
 rw [e1]
 constructor
 ·intro h
  have:j=i:=by omega
  subst this
  exact e3
 ·intro h
  have h1:¬ j<i:=fun hji=>h ⟨l[j],by rw [List.mem_take_iff_getElem]; exact ⟨j,by omega,rfl⟩,e2⟩
  have h2:¬ i<j:=fun hij=>e3 ⟨l[i],by rw [List.mem_take_iff_getElem]; exact ⟨i,by omega,rfl⟩,rfl⟩
  congr 1; omega
theorem find_eq {d:Doc} (h:d.2.2.2.2.2.2.1.length≤4000000) (k:Int):r12_Find fuelH (d,k)=some (findE 0 d.2.2.2.2.2.2.1 k):=by
 unfold r12_Find
 rw [jn_e]
 simp only
 generalize d.2.2.2.2.2.2.1=l at h ⊢
 have hit:∀ (r:List Ev) (i:Nat),itI (fun i (x:Ev) (_:Unit)=>if x.1=k then (.inl (some (i:Int)):Option Int ⊕ Unit) else .inr ()) (fun _=>some (-1:Int)) i r ()=some (findE i r k):=by
  intro r
  induction r with
  | nil=>intro i; rfl
  | cons x r ih =>
   intro i
   simp only [itI,findE]
   by_cases hc:x.1=k
   ·rw [if_pos hc,if_pos hc]
   ·rw [if_neg hc,if_neg hc]; exact ih (i+1)
 refine Eq.trans (lst_it (l:=l) (fun (_:Unit) (p:Nat)=>(p:Int)) (fun i (x:Ev) (_:Unit)=>if x.1=k then .inl (some (i:Int)) else .inr ()) (fun _=>some (-1:Int)) (fun _ _=>True) (fun self a i hi _=>?_) (fun self a _=>?_) fuelH 0 () (Nat.zero_le _) (by have:=fuelH_eq; omega) trivial) (hit l 0)
 ·rw [cnd_t (ilt_t (by simp only [len]; omega)),grd_t (inb_t (by simp only [len]; omega)),lget_i hi,w64_succ hi (by omega)]
  by_cases hc:l[i].1=k
  ·rw [if_pos hc,cnd_t (ieq_t hc)]; rfl
  ·rw [if_neg hc,cnd_f (ieq_f hc)]
   exact ⟨rfl,trivial⟩
 ·rw [cnd_f (ilt_f (by simp only [len]; omega))]
def lessE (a b:Ev):Prop:=a.2.1.1<b.2.1.1∨(a.2.1.1=b.2.1.1∧a.1<b.1)
instance (a b:Ev):Decidable (lessE a b):=by unfold lessE; infer_instance
theorem r11_less (N:Nat) (a b:Ev):r11_Less N (a,b)=some (decide (lessE a b)):=by
 unfold r11_Less lessE
 simp only
 rw [cnd_ilt,cnd_ieq]
 by_cases h1:a.2.1.1<b.2.1.1
 ·rw [if_pos h1]; simp [h1]
 ·rw [if_neg h1]
  by_cases h2:a.2.1.1=b.2.1.1
  ·rw [if_pos h2]; simp [h2,ilt]
  ·rw [if_neg h2]; simp [h1,h2]
theorem cmp_eq (N:Nat) (a b:Int):q42 N (a,b)=some (if a<b then -1 else if b<a then 1 else 0):=by
 unfold q42
 have h:∀ x:Int,q41 N x=some false:=fun x=>by
  show some (ine x x)=_
  rw [ine_f rfl]
 simp only
 rw [h,h,bnd_some',bnd_some',cnd_f rfl,cnd_f rfl,cnd_ilt,cnd_ilt]
 by_cases h1:a<b
 ·rw [if_pos h1,if_pos h1]
 ·rw [if_neg h1,if_neg h1]
  by_cases h2:b<a
  ·rw [if_pos h2,if_pos h2]
  ·rw [if_neg h2,if_neg h2]
theorem or_eq (a b:Int):q43 fuelH [a,b]=some (if a≠0 then a else b):=by
 have h:q43 fuelH [a,b]=cnd (ine a 0) (some a) (cnd (ine b 0) (some b) (some 0)):=by kernel_rfl
 rw [h,cnd_ine,cnd_ine]
 by_cases h1:a≠0
 ·rw [if_pos h1,if_pos h1]
 ·rw [if_neg h1,if_neg h1]
  by_cases h2:b≠0
  ·rw [if_pos h2]
  ·rw [if_neg h2]; congr 1; omega
theorem event_less (a b:Ev):q44 fuelH (a,b)=some (decide (lessE a b)):=by
 unfold q44
 simp only
 rw [cmp_eq,bnd_some',cmp_eq,bnd_some',or_eq,bnd_some']
 congr 1
 by_cases h1:a.2.1.1<b.2.1.1
 ·rw [if_pos h1,if_pos (by decide),@decide_eq_true (lessE a b) _ (.inl h1)]; rfl
 ·rw [if_neg h1]
  by_cases h2:b.2.1.1<a.2.1.1
  ·rw [if_pos h2,if_pos (by decide),@decide_eq_false (lessE a b) _ (by unfold lessE; omega)]; rfl
  ·rw [if_neg h2,if_neg (by decide)]
   by_cases h3:a.1<b.1
   ·rw [if_pos h3,@decide_eq_true (lessE a b) _ (by unfold lessE; omega)]; rfl
   ·rw [if_neg h3,@decide_eq_false (lessE a b) _ (by unfold lessE; omega)]
    split<;>rfl
end
end Go.Mo
end
section
/-
 Plain facts: the events of a document,checked one after the other; the length of an event.
-/
namespace Go.Mo
open Go Go.W Go.Lib
set_option maxRecDepth 100000
noncomputable section
def errL {α:Type} (R:List α→α→Int):List α→List α→Int
 | _,[]=>0
 | pre,x::l=>if R pre x≠0 then R pre x else errL R (pre++[x]) l
theorem errL_zero {α:Type} {R:List α→α→Int}:∀ (l pre:List α),errL R pre l=0→∀ j (h:j<l.length),R (pre++l.take j) l[j]=0
 | [],_,_,j,h=>by simp at h
 | x::l,pre,h0,j,h=>by
  simp only [errL] at h0
  split at h0
  ·rename_i hc; exact absurd h0 hc
  ·rename_i hc
   cases j with
   | zero=>simpa using hc
   | succ j =>
    have:=errL_zero l (pre++[x]) h0 j (by simpa using h)
    simpa using this
theorem loop_err {V σ α ρ:Type} {F:(V→Option ρ)→V→Option ρ} {l:List α} (st:σ→Nat→V) (g:List α→σ) (R:List α→α→Int) (w:Int→ρ) (K:Option ρ)
  (hstep:∀ self i (h:i<l.length),F self (st (g (l.take i)) i)=if R (l.take i) l[i]≠0 then some (w (R (l.take i) l[i])) else self (st (g (l.take (i+1))) (i+1)))
  (hend:(∀ j (h:j<l.length),R (l.take j) l[j]=0)→∀ self,F self (st (g l) l.length)=K) :
  ∀ (fuel i:Nat),i≤l.length→l.length - i<fuel→(∀ j (h:j<l.length),j<i→R (l.take j) l[j]=0) →
  fixN F fuel (st (g (l.take i)) i)=if errL R (l.take i) (l.drop i)≠0 then some (w (errL R (l.take i) (l.drop i))) else K
 | 0,i,_,h,_=>by omega
 | fuel+1,i,hi,h,hp=>by
  rw [fixN_s]
  by_cases hl:i<l.length
  ·rw [hstep _ i hl,List.drop_eq_getElem_cons hl,errL]
   by_cases hc:R (l.take i) l[i]≠0
   ·rw [if_pos hc,if_pos hc,if_pos hc]
   ·rw [if_neg hc,if_neg hc]
    have ih:=loop_err st g R w K hstep hend fuel (i+1) (by omega) (by omega) (fun j hj hji=>by
     by_cases e:j=i
     ·subst e; simpa using hc
     ·exact hp j hj (by omega))
    rw [ih,List.take_succ_eq_append_getElem hl]
  ·obtain rfl:i=l.length:=by omega
   rw [List.take_length,hend (fun j hj=>hp j hj hj),List.drop_length]
   rfl
def sumT:List Row→Nat
 | []=>0
 | r::l=>lenT r+sumT l
def evLen (x:Ev):Int:=((x.2.2.2.2.2.length - 1+sumT x.2.2.2.2.2:Nat):Int)
theorem sumT_take:∀ (l:List Row) (i:Nat) (h:i<l.length),sumT (l.take (i+1))=sumT (l.take i)+lenT l[i]
 | x::l,0,_=>by simp [sumT]
 | x::l,i+1,h=>by
  have:=sumT_take l i (by simpa using h)
  simp only [List.take_succ_cons,sumT,this,List.getElem_cons_succ]
  omega
theorem lenT_tot {l:Row} (h:okR l):lenT l≤64000000:=by
 have h1:=lenT_le l fun x hx=>(h.2.1 x hx).2
 have h2:=h.1
 omega
theorem sumT_le:∀ (l:List Row),(∀ r∈l,okR r)→sumT l≤64000000 * l.length
 | [],_=>Nat.le_refl _
 | r::l,h=>by
  have h1:=lenT_tot (h r List.mem_cons_self)
  have h2:=sumT_le l fun q hq=>h q (List.mem_cons_of_mem _ hq)
  simp only [sumT,List.length_cons]
  omega
theorem sumT_take_le (l:List Row) (h:∀ r∈l,okR r) (i:Nat):sumT (l.take i)≤64000000 * l.length:=by
 have h1:=sumT_le (l.take i) fun r hr=>h r (List.mem_of_mem_take hr)
 have:(l.take i).length≤l.length:=by rw [List.length_take]; omega
 omega
theorem event_len_eq {x:Ev} (h:∀ l∈x.2.2.2.2.2,okR l) (hl:x.2.2.2.2.2.length≤1000):q45 fuelH x=some (evLen x):=by
 unfold q45 evLen
 rw [jn_e,bnd_s (event_lens_eq h (by omega))]
 generalize x.2.2.2.2.2=l at h hl ⊢
 have hll:(lens l).length=l.length:=by unfold lens; rw [List.length_map]
 have e0:imax (w64 (isub (len l) 1)) 0=((l.length - 1:Nat):Int):=by
  simp only [isub,imax,len]
  rw [w64_id (by omega)]
  omega
 rw [e0]
 refine loop_inv (n:=l.length) (fun (a:Nat) (i:Nat)=>((a:Int),(i:Int))) (fun i a=>a=l.length - 1+sumT (l.take i)) _ (fun self a i hi hI=>?_) (fun self a hI=>?_) fuelH 0 (l.length - 1) (Nat.zero_le _) (by have:=fuelH_eq; omega) (by simp [sumT])
 ·refine ⟨a+lenT l[i],?_,?_⟩
  ·have ht:=sumT_take_le l h i
   have hb:=lenT_tot (h _ (List.getElem_mem hi))
   have hin:inb (i:Int) (len (lens l))=true:=inb_t (by simp only [len,hll]; omega)
   have hg:lget (lens l) (toN (i:Int)) (0:Int)=(lenT l[i]:Int):=by
    rw [lget_i (by omega)]
    simp [lens]
   simp only
   rw [cnd_t (ilt_t (by simp only [len,hll]; omega)),grd_t hin,hg,cnd_f (ilt_f (by omega)),w64_succ hi (by omega)]
   have e:w64 (iadd (a:Int) (lenT l[i]:Int))=((a+lenT l[i]:Nat):Int):=by
    unfold iadd; rw [w64_id (by omega)]; omega
   rw [e]
  ·rw [sumT_take l i hi,hI]; omega
 ·simp only
  rw [cnd_f (ilt_f (by simp only [len,hll]; omega)),hI,List.take_length]
theorem r11_len_eq {x:Ev} (h:∀ l∈x.2.2.2.2.2,okR l) (hl:x.2.2.2.2.2.length≤1000):r11_Len fuelH x=some (evLen x):=by
 unfold r11_Len evLen
 rw [jn_e]
 generalize x.2.2.2.2.2=l at h hl ⊢
 refine loop_inv (n:=l.length) (fun (a:Nat) (i:Nat)=>((a:Int),(i:Int))) (fun i a=>a=i - 1+sumT (l.take i)) _ (fun self a i hi hI=>?_) (fun self a hI=>?_) fuelH 0 0 (Nat.zero_le _) (by have:=fuelH_eq; omega) (by simp [sumT])
 ·refine ⟨i+sumT (l.take i)+lenT l[i],?_,?_⟩
  ·have ht:=sumT_take_le l h i
   have hb:=lenT_tot (h _ (List.getElem_mem hi))
   simp only
   rw [cnd_t (ilt_t (by simp only [len]; omega)),grd_t (inb_t (by simp only [len]; omega)),lget_i hi,r09_len (h _ (List.getElem_mem hi)),bnd_some',cnd_f (ilt_f (by omega)),w64_succ hi (by omega)]
   by_cases h0:i=0
   ·subst h0
    rw [cnd_f (ilt_f (by omega))]
    have e:w64 (iadd (a:Int) (lenT l[0]:Int))=((0+sumT (l.take 0)+lenT l[0]:Nat):Int):=by
     unfold iadd; rw [w64_id (by omega)]; omega
    rw [e]
   ·rw [cnd_t (ilt_t (by omega))]
    have e1:w64 (iadd (a:Int) 1)=((a+1:Nat):Int):=by unfold iadd; rw [w64_id (by omega)]; omega
    have e:w64 (iadd ((a+1:Nat):Int) (lenT l[i]:Int))=((i+sumT (l.take i)+lenT l[i]:Nat):Int):=by
     unfold iadd; rw [w64_id (by omega)]; omega
    rw [e1,e]
  ·rw [sumT_take l i hi]; omega
 ·simp only
  rw [cnd_f (ilt_f (by simp only [len]; omega)),hI,List.take_length]
theorem rowsE_zero:∀ (l:List Row) (k:Int),rowsE l k=0→(∀ r∈l,rowE r=0)∧k=0
 | [],k,h=>⟨fun r hr=>(by cases hr),h⟩
 | r::l,k,h=>by
  simp only [rowsE] at h
  split at h
  ·rename_i hc; exact absurd h hc
  ·rename_i hc
   obtain ⟨h1,h2⟩:=rowsE_zero l k h
   refine ⟨fun q hq=>?_,h2⟩
   rcases List.mem_cons.1 hq with rfl | hq
   ·simpa using hc
   ·exact h1 q hq
theorem ev_ok {x:Ev} {rs:List Reg} (h:evChk x rs=0):1≤x.1∧x.1≤1099511627776∧(0≤x.2.1.1∧x.2.1.1<x.2.1.2∧x.2.1.2≤5184000)∧0<x.2.2.2.2.2.length∧x.2.2.2.2.2.length≤4∧(∀ r∈x.2.2.2.2.2,rowE r=0)∧∃ r,findR rs x.2.2.1=some r∧(placeS r (lens x.2.2.2.2.2)).2=0:=by
 unfold evChk at h
 split at h
 ·cases h
 split at h
 ·cases h
 split at h
 ·cases h
 rename_i c1 c2 c3
 split at h
 ·cases h
 rename_i r hr
 split at h
 ·cases h
 split at h
 ·cases h
 split at h
 ·cases h
 split at h
 ·cases h
 rename_i c6 c7
 obtain ⟨h1,h2⟩:=rowsE_zero _ _ h
 exact ⟨by omega,by omega,by omega,by omega,by omega,h1,r,hr,h2⟩
def ordB (p:Option Ev) (x:Ev):Bool:=match p with
 | some q=>decide (lessE q x)
 | none=>true
def evRnd (rs:List Reg) (last:Int) (pre:List Ev) (x:Ev):Int :=
 if evChk x rs≠0 then evChk x rs else if last<x.1 then 2 else if ordB pre.getLast? x=false then 8 else if hasE pre x.1 then 7 else 0
def evsChk (d:Doc):Int:=errL (evRnd d.2.2.2.2.2.1 d.2.2.2.2.1) [] d.2.2.2.2.2.2.1
theorem evRnd_ok {rs:List Reg} {last:Int} {pre:List Ev} {x:Ev} (h:evRnd rs last pre x=0):evChk x rs=0∧x.1≤last∧ordB pre.getLast? x=true∧¬ hasE pre x.1:=by
 unfold evRnd at h
 split at h
 ·rename_i hc; exact absurd h hc
 rename_i c1
 split at h
 ·cases h
 rename_i c2
 split at h
 ·cases h
 rename_i c3
 split at h
 ·cases h
 rename_i c4
 exact ⟨by simpa using c1,by omega,by simpa using c3,c4⟩
theorem last_take {α:Type} {l:List α} {i:Nat} (h:i<l.length):(l.take (i+1)).getLast?=some l[i]:=by
 rw [List.take_succ_eq_append_getElem h,List.getLast?_concat]
end
end Go.Mo
end
section
/-
 Plain facts: the comments of a document,on both sides.
-/
namespace Go.Mo
open Go Go.W Go.Lib
set_option maxRecDepth 100000
noncomputable section
theorem jn_u {α:Type} {K:Unit→Option α} {X:Option α} (h:K ()=X) (T:(Unit→Option α)→Option α):jn K T=T fun _=>X:=by
 rw [jn_e,show K=fun _=>X from funext fun _=>h]
def cOrd (p:Option Cmt) (c:Cmt):Bool:=match p with
 | some q=>decide (q.1<c.1)
 | none=>true
def evZ:Ev:=(0,(0,0),[],0,[],[])
def evAt (l:List Ev) (k:Int):Ev:=lget l (toN (findE 0 l k)) evZ
def ancE (d:Doc) (c:Cmt):Int :=
 if c.2.1<1 then 2 else if d.2.2.2.2.1<c.2.1 then 2 else
 if c.2.2.2.2.2.2.2=true then (if c.2.2.1≠0 then 2 else if c.2.2.2.1≠0 then 2 else 0) else
 if ¬ hasE d.2.2.2.2.2.2.1 c.2.1 then 6 else if c.2.2.1<0 then 2 else if c.2.2.2.1≤c.2.2.1 then 2 else
 if evLen (evAt d.2.2.2.2.2.2.1 c.2.1)<c.2.2.2.1 then 2 else 0
def endE (c:Cmt):Int:=if nm c.2.2.2.2.1=false then 5 else if vld c.2.2.2.2.2.1=false then 10 else if c.2.2.2.2.2.1=[] then 4 else if 400<c.2.2.2.2.2.1.length then 9 else 0
def tailE (d:Doc) (c:Cmt):Int:=if ancE d c≠0 then ancE d c else endE c
def cmtRnd (d:Doc) (pre:List Cmt) (c:Cmt):Int :=
 if c.1<1 then 2 else if d.2.2.2.2.1<c.1 then 2 else if cOrd pre.getLast? c=false then 8 else if hasE d.2.2.2.2.2.2.1 c.1 then 7 else tailE d c
def cmtsChk (d:Doc):Int:=if 64<d.2.2.2.2.2.2.2.length then 9 else errL (cmtRnd d) [] d.2.2.2.2.2.2.2
def goodD (d:Doc):Prop:=(∀ x∈d.2.2.2.2.2.2.1,(∀ r∈x.2.2.2.2.2,okR r)∧x.2.2.2.2.2.length≤4)∧d.2.2.2.2.2.2.1.length≤400∧∀ c∈d.2.2.2.2.2.2.2,c.2.2.2.2.2.1.length≤4000000
theorem evAt_lenS {d:Doc} (hg:goodD d) {k:Int} (h:hasE d.2.2.2.2.2.2.1 k):inb (findE 0 d.2.2.2.2.2.2.1 k) (len d.2.2.2.2.2.2.1)=true∧0≤findE 0 d.2.2.2.2.2.2.1 k∧q45 fuelH (evAt d.2.2.2.2.2.2.1 k)=some (evLen (evAt d.2.2.2.2.2.2.1 k)):=by
 obtain ⟨j,hj,e1,e2,e3⟩:=findE_yes _ 0 k h
 have he:evAt d.2.2.2.2.2.2.1 k=d.2.2.2.2.2.2.1[j]:=by
  unfold evAt
  rw [e1,Nat.zero_add,lget_i hj]
 obtain ⟨h1,h2⟩:=hg.1 _ (List.getElem_mem hj)
 rw [he]
 refine ⟨by rw [e1]; exact inb_t (by simp only [len]; omega),by omega,event_len_eq h1 (by omega)⟩
theorem evAt_len {d:Doc} (hg:goodD d) {k:Int} (h:hasE d.2.2.2.2.2.2.1 k):inb (findE 0 d.2.2.2.2.2.2.1 k) (len d.2.2.2.2.2.2.1)=true∧0≤findE 0 d.2.2.2.2.2.2.1 k∧q45 fuelH (evAt d.2.2.2.2.2.2.1 k)=some (evLen (evAt d.2.2.2.2.2.2.1 k))∧r11_Len fuelH (evAt d.2.2.2.2.2.2.1 k)=some (evLen (evAt d.2.2.2.2.2.2.1 k)):=by
 obtain ⟨q1,q2,q3⟩:=evAt_lenS hg h
 obtain ⟨j,hj,e1,e2,e3⟩:=findE_yes _ 0 k h
 have he:evAt d.2.2.2.2.2.2.1 k=d.2.2.2.2.2.2.1[j]:=by
  unfold evAt
  rw [e1,Nat.zero_add,lget_i hj]
 obtain ⟨h1,h2⟩:=hg.1 _ (List.getElem_mem hj)
 exact ⟨q1,q2,q3,by rw [he]; exact r11_len_eq h1 (by omega)⟩
theorem anchored_eq {d:Doc} (hg:goodD d) (c:Cmt):q46 fuelH (d,c,mapE 0 d.2.2.2.2.2.2.1)=some (ancE d c,mapE 0 d.2.2.2.2.2.2.1):=by
 unfold q46 ancE
 simp only
 rw [cnd_ilt]
 by_cases c1:c.2.1<1
 ·rw [if_pos c1,if_pos c1]
 rw [if_neg c1,if_neg c1,cnd_ilt]
 by_cases c2:d.2.2.2.2.1<c.2.1
 ·rw [if_pos c2,if_pos c2]
 rw [if_neg c2,if_neg c2]
 by_cases c3:c.2.2.2.2.2.2.2=true
 ·rw [cnd_t c3,if_pos c3,cnd_ine,cnd_ine]
  by_cases c4:c.2.2.1≠0
  ·rw [if_pos c4,if_pos c4]
  rw [if_neg c4,if_neg c4]
  by_cases c5:c.2.2.2.1≠0
  ·rw [if_pos c5,if_pos c5]
  ·rw [if_neg c5,if_neg c5]
 ·rw [cnd_f (by simpa using c3),if_neg c3,mhas_mapE,cnd_bnot]
  by_cases c4:hasE d.2.2.2.2.2.2.1 c.2.1
  ·rw [if_pos c4,if_neg (not_not_intro c4),cnd_ilt]
   by_cases c5:c.2.2.1<0
   ·rw [if_pos c5,if_pos c5]
   rw [if_neg c5,if_neg c5,cnd_ile]
   by_cases c6:c.2.2.2.1≤c.2.2.1
   ·rw [if_pos c6,if_pos c6]
   obtain ⟨q1,q2,q3⟩:=evAt_lenS hg c4
   have hm:mget ieq (0:Int) (mapE 0 d.2.2.2.2.2.2.1) c.2.1=findE 0 d.2.2.2.2.2.2.1 c.2.1:=mget_mapE _ _ _ c4
   rw [if_neg c6,if_neg c6,hm,grd_t q1]
   refine Eq.trans (bnd_s (show q45 fuelH (lget d.2.2.2.2.2.2.1 (toN (findE 0 d.2.2.2.2.2.2.1 c.2.1)) evZ)=_ from q3)) ?_
   rw [cnd_ilt]
   by_cases c7:evLen (evAt d.2.2.2.2.2.2.1 c.2.1)<c.2.2.2.1
   ·rw [if_pos c7,if_pos c7]
   ·rw [if_neg c7,if_neg c7]
  ·rw [if_neg c4,if_pos c4]
theorem comments_eq {d:Doc} (hg:goodD d):q47 fuelH (d,mapE 0 d.2.2.2.2.2.2.1)=some (cmtsChk d,mapE 0 d.2.2.2.2.2.2.1):=by
 unfold q47 cmtsChk
 simp only
 by_cases h:64<d.2.2.2.2.2.2.2.length
 ·rw [cnd_t (ilt_t (by simp only [len]; omega)),if_pos h]
 rw [cnd_f (ilt_f (by simp only [len]; omega)),if_neg h,jn_e]
 have hanc:=fun c=>anchored_eq hg c
 have hvl:=hg.2.2
 generalize hm:mapE 0 d.2.2.2.2.2.2.1=m at hanc ⊢
 have hmh:∀ k,mhas ieq m k=decide (hasE d.2.2.2.2.2.2.1 k):=fun k=>by rw [← hm]; exact mhas_mapE _ _ _
 generalize hl:d.2.2.2.2.2.2.2=l at h hvl ⊢
 refine Eq.trans (loop_err (l:=l) (fun (_:Unit) (p:Nat)=>((p:Int),m)) (fun _=>()) (cmtRnd d) (fun e=>(e,m)) (some (0,m)) (fun self i hi=>?_) (fun _ self=>?_) fuelH 0 (Nat.zero_le _) (by have:=fuelH_eq; omega) (fun j _ hj=>by omega)) ?_
 ·have hin:inb (i:Int) (len l)=true:=inb_t (by simp only [len]; omega)
  have hv:=hvl _ (List.getElem_mem hi)
  simp only
  rw [cnd_t (ilt_t (by simp only [len]; omega)),grd_t hin,lget_i hi]
  refine Eq.trans (jn_u (X:=if tailE d l[i]≠0 then some (tailE d l[i],m) else self (((i+1:Nat):Int),m)) ?_ _) ?_
  ·skip
   rw [hanc,bnd_some']
   unfold tailE
   by_cases c1:ancE d l[i]≠0
   ·rw [if_pos c1,if_pos c1,cnd_t (ine_t c1)]
   ·rw [if_neg c1,cnd_f (ine_f (by simpa using c1)),lines_name,bnd_some']
    unfold endE
    by_cases c2:nm l[i].2.2.2.2.1=false
    ·rw [cnd_t (by rw [c2]; rfl),if_pos c2,if_pos (by decide)]
    rw [cnd_f (by rw [← Bool.not_eq_true,bnot_t]; exact c2),if_neg c2,ch_valid _ hv,bnd_some']
    by_cases c3:vld l[i].2.2.2.2.2.1=false
    ·rw [cnd_t (by rw [c3]; rfl),if_pos c3,if_pos (by decide)]
    rw [cnd_f (by rw [← Bool.not_eq_true,bnot_t]; exact c3),if_neg c3]
    by_cases c4:l[i].2.2.2.2.2.1=[]
    ·rw [cnd_t (by rw [seq_t]; exact c4),if_pos c4,if_pos (by decide)]
    rw [cnd_f (by rw [← Bool.not_eq_true,seq_t]; exact c4),if_neg c4]
    by_cases c5:400<l[i].2.2.2.2.2.1.length
    ·rw [cnd_t (ilt_t (by simp only [len]; omega)),if_pos c5,if_pos (by decide)]
    ·rw [cnd_f (ilt_f (by simp only [len]; omega)),if_neg c5,if_neg (by decide),w64_succ hi (by omega)]
  ·simp only
   rw [cnd_ilt,cnd_ilt]
   unfold cmtRnd
   by_cases c1:l[i].1<1
   ·rw [if_pos c1,if_pos c1,if_pos (by decide)]
   rw [if_neg c1,if_neg c1]
   by_cases c2:d.2.2.2.2.1<l[i].1
   ·rw [if_pos c2,if_pos c2,if_pos (by decide)]
   rw [if_neg c2,if_neg c2,hmh]
   cases i with
   | zero =>
    rw [cnd_f (by rfl)]
    have e0:cOrd (l.take 0).getLast? l[0]=true:=rfl
    rw [e0,if_neg (show ¬ true=false by decide),cnd_dec]
    by_cases c3:hasE d.2.2.2.2.2.2.1 l[0].1
    ·rw [if_pos c3,if_pos c3,if_pos (by decide)]
    ·rw [if_neg c3,if_neg c3]
   | succ i =>
    rw [cnd_t (ilt_t (by omega)),w64_back (by omega),grd_t (inb_t (by simp only [len]; omega)),lget_i (show i<l.length by omega),cnd_ile,cnd_dec]
    have e0:cOrd (l.take (i+1)).getLast? l[i+1]=decide (l[i].1<l[i+1].1):=by rw [last_take (show i<l.length by omega)]; rfl
    rw [e0]
    by_cases c4:l[i+1].1≤l[i].1
    ·rw [if_pos c4,decide_eq_false (by omega),if_pos rfl,if_pos (by decide)]
    rw [if_neg c4,decide_eq_true (by omega),if_neg (show ¬ true=false by decide)]
    by_cases c3:hasE d.2.2.2.2.2.2.1 l[i+1].1
    ·rw [if_pos c3,if_pos c3,if_pos (by decide)]
    ·rw [if_neg c3,if_neg c3]
 ·simp only
  rw [cnd_f (ilt_f (by simp only [len]; omega))]
 ·rw [List.take_zero,List.drop_zero]
  by_cases hc:errL (cmtRnd d) [] l≠0
  ·rw [if_pos hc]
  ·rw [if_neg hc]
   have hc:errL (cmtRnd d) [] l=0:=by simpa using hc
   rw [hc]
theorem comment_eq {d:Doc} (hg:goodD d) (h64:d.2.2.2.2.2.2.2.length≤64) {i:Nat} (hi:i<d.2.2.2.2.2.2.2.length):q134 fuelH (d,(i:Int))=some (cmtRnd d (d.2.2.2.2.2.2.2.take i) d.2.2.2.2.2.2.2[i]):=by
 unfold q134
 simp only
 have hfind:=fun k=>find_eq (d:=d) (by have:=hg.2.1; omega) k
 have hv:=hg.2.2 _ (List.getElem_mem hi)
 have hlen:=fun k=>evAt_len (k:=k) hg
 rw [grd_t (inb_t (by simp only [len]; omega)),lget_i hi]
 generalize hl:d.2.2.2.2.2.2.2=l at hi hv h64 ⊢
 rw [cnd_ilt,cnd_ilt]
 unfold cmtRnd
 by_cases c1:l[i].1<1
 ·rw [if_pos c1,if_pos c1]
 rw [if_neg c1,if_neg c1]
 by_cases c2:d.2.2.2.2.1<l[i].1
 ·rw [if_pos c2,if_pos c2]
 rw [if_neg c2,if_neg c2]
 refine Eq.trans (jn_u (X:=some (if hasE d.2.2.2.2.2.2.1 l[i].1 then 7 else tailE d l[i])) ?_ _) ?_
 ·skip
  rw [hfind,bnd_some',cnd_ile]
  by_cases c3:hasE d.2.2.2.2.2.2.1 l[i].1
  ·rw [if_pos (hlen _ c3).2.1,if_pos c3]
  rw [if_neg (by rw [findE_no _ _ _ c3]; decide),if_neg c3]
  unfold tailE ancE
  rw [cnd_ilt,cnd_ilt]
  by_cases a1:l[i].2.1<1
  ·rw [if_pos a1,if_pos a1,if_pos (by decide)]
  rw [if_neg a1,if_neg a1]
  by_cases a2:d.2.2.2.2.1<l[i].2.1
  ·rw [if_pos a2,if_pos a2,if_pos (by decide)]
  rw [if_neg a2,if_neg a2]
  refine Eq.trans (jn_u (X:=some (endE l[i])) ?_ _) ?_
  ·skip
   rw [r07_name,bnd_some']
   unfold endE
   by_cases c2:nm l[i].2.2.2.2.1=false
   ·rw [cnd_t (by rw [c2]; rfl),if_pos c2]
   rw [cnd_f (by rw [← Bool.not_eq_true,bnot_t]; exact c2),if_neg c2,r08_valid _ hv,bnd_some']
   by_cases c3:vld l[i].2.2.2.2.2.1=false
   ·rw [cnd_t (by rw [c3]; rfl),if_pos c3]
   rw [cnd_f (by rw [← Bool.not_eq_true,bnot_t]; exact c3),if_neg c3]
   by_cases c4:l[i].2.2.2.2.2.1=[]
   ·rw [cnd_t (by rw [seq_t]; exact c4),if_pos c4]
   rw [cnd_f (by rw [← Bool.not_eq_true,seq_t]; exact c4),if_neg c4]
   by_cases c5:400<l[i].2.2.2.2.2.1.length
   ·rw [cnd_t (ilt_t (by simp only [len]; omega)),if_pos c5]
   ·rw [cnd_f (ilt_f (by simp only [len]; omega)),if_neg c5]
  ·simp only
   by_cases c3:l[i].2.2.2.2.2.2.2=true
   ·rw [cnd_t c3,if_pos c3,cnd_ine,cnd_ine]
    by_cases c4:l[i].2.2.1≠0
    ·rw [if_pos c4,if_pos c4,if_pos (by decide)]
    rw [if_neg c4,if_neg c4]
    by_cases c5:l[i].2.2.2.1≠0
    ·rw [if_pos c5,if_pos c5,if_pos (by decide)]
    ·rw [if_neg c5,if_neg c5,if_neg (by decide)]
   ·rw [cnd_f (by simpa using c3),if_neg c3,hfind,bnd_some',cnd_ilt]
    by_cases c4:hasE d.2.2.2.2.2.2.1 l[i].2.1
    ·obtain ⟨q1,q2,q3,q4⟩:=hlen _ c4
     rw [if_neg (by omega),if_neg (not_not_intro c4),cnd_ilt]
     by_cases c5:l[i].2.2.1<0
     ·rw [if_pos c5,if_pos c5,if_pos (by decide)]
     rw [if_neg c5,if_neg c5,cnd_ile]
     by_cases c6:l[i].2.2.2.1≤l[i].2.2.1
     ·rw [if_pos c6,if_pos c6,if_pos (by decide)]
     rw [if_neg c6,if_neg c6,grd_t q1]
     refine Eq.trans (bnd_s (show r11_Len fuelH (lget d.2.2.2.2.2.2.1 (toN (findE 0 d.2.2.2.2.2.2.1 l[i].2.1)) evZ)=_ from q4)) ?_
     rw [cnd_ilt]
     by_cases c7:evLen (evAt d.2.2.2.2.2.2.1 l[i].2.1)<l[i].2.2.2.1
     ·rw [if_pos c7,if_pos c7,if_pos (by decide)]
     ·rw [if_neg c7,if_neg c7,if_neg (by decide)]
    ·rw [if_pos (by rw [findE_no _ _ _ c4]; decide),if_pos c4,if_pos (by decide)]
 ·simp only
  cases i with
  | zero =>
   rw [cnd_f (by rfl)]
   have e0:cOrd (l.take 0).getLast? l[0]=true:=rfl
   rw [e0,if_neg (show ¬ true=false by decide)]
  | succ i =>
   rw [cnd_t (ilt_t (by omega)),w64_back (by omega),grd_t (inb_t (by simp only [len]; omega)),lget_i (show i<l.length by omega),cnd_ile]
   have e0:cOrd (l.take (i+1)).getLast? l[i+1]=decide (l[i].1<l[i+1].1):=by rw [last_take (show i<l.length by omega)]; rfl
   rw [e0]
   by_cases c4:l[i+1].1≤l[i].1
   ·rw [if_pos c4,decide_eq_false (by omega),if_pos rfl]
   ·rw [if_neg c4,decide_eq_true (by omega),if_neg (show ¬ true=false by decide)]
end
end Go.Mo
end
section
/-
 Plain facts: the check of a document is the specified one.
-/
namespace Go.Mo
open Go Go.W Go.Lib
set_option maxRecDepth 100000
noncomputable section
def docChk (d:Doc):Int :=
 if headChk d≠0 then headChk d else if regsChk d.2.2.2.2.2.1≠0 then regsChk d.2.2.2.2.2.1 else
 if 400<d.2.2.2.2.2.2.1.length then 9 else if evsChk d≠0 then evsChk d else cmtsChk d
def smallD (d:Doc):Prop:=d.1.length≤4000000∧d.2.2.2.2.2.1.length≤4000000∧(∀ x∈d.2.2.2.2.2.2.1,smallL x.2.2.2.2.2)∧∀ c∈d.2.2.2.2.2.2.2,c.2.2.2.2.2.1.length≤4000000
theorem good_of {d:Doc} (hs:smallD d) (hn:d.2.2.2.2.2.2.1.length≤400) (h:∀ j (h:j<d.2.2.2.2.2.2.1.length),evRnd d.2.2.2.2.2.1 d.2.2.2.2.1 (d.2.2.2.2.2.2.1.take j) d.2.2.2.2.2.2.1[j]=0):goodD d:=by
 refine ⟨fun x hx=>?_,hn,hs.2.2.2⟩
 obtain ⟨j,hj,rfl⟩:=List.mem_iff_getElem.1 hx
 obtain ⟨h1,_⟩:=evRnd_ok (h j hj)
 obtain ⟨_,_,_,_,h4,h5,_⟩:=ev_ok h1
 exact ⟨fun r hr=>rowE_ok (hs.2.2.1 _ hx r hr) (h5 r hr),h4⟩
theorem mput_take {l:List Ev} {i:Nat} (hi:i<l.length) (hn:¬ hasE (l.take i) l[i].1):mput ieq (mapE 0 (l.take i)) l[i].1 (i:Int)=mapE 0 (l.take (i+1)):=by
 rw [mput_new _ (by rw [mhas_mapE,decide_eq_false hn]),List.take_succ_eq_append_getElem hi,mapE_app]
 have:(l.take i).length=i:=by rw [List.length_take]; omega
 rw [this,Nat.zero_add]
 rfl
theorem document_check {d:Doc} (hs:smallD d):q48 fuelH d=some (docChk d):=by
 unfold q48 docChk
 rw [bnd_s (header_eq hs.1)]
 by_cases c1:headChk d≠0
 ·rw [cnd_t (ine_t c1),if_pos c1]
 rw [cnd_f (ine_f (by simpa using c1)),if_neg c1,bnd_s (region_list _)]
 by_cases c2:regsChk d.2.2.2.2.2.1≠0
 ·rw [cnd_t (ine_t c2),if_pos c2]
 rw [cnd_f (ine_f (by simpa using c2)),if_neg c2]
 by_cases c3:400<d.2.2.2.2.2.2.1.length
 ·rw [cnd_t (ilt_t (by simp only [len]; omega)),if_pos c3]
 rw [cnd_f (ilt_f (by simp only [len]; omega)),if_neg c3,jn_e]
 have hgood:=@good_of d hs (by omega)
 have hcm:=@comments_eq d
 unfold evsChk
 have hev:=hs.2.2.1
 generalize hl:d.2.2.2.2.2.2.1=l at c3 hgood hcm hev ⊢
 refine Eq.trans (loop_err (l:=l) (fun (a:List (Int×Int)) (p:Nat)=>((p:Int),a)) (fun pre=>mapE 0 pre) (evRnd d.2.2.2.2.2.1 d.2.2.2.2.1) (fun e=>e) (some (cmtsChk d)) (fun self i hi=>?_) (fun hz self=>?_) fuelH 0 (Nat.zero_le _) (by have:=fuelH_eq; omega) (fun j _ hj=>by omega)) ?_
 ·have hin:inb (i:Int) (len l)=true:=inb_t (by simp only [len]; omega)
  have hx:=hev _ (List.getElem_mem hi)
  simp only
  rw [cnd_t (ilt_t (by simp only [len]; omega)),grd_t hin,lget_i hi,bnd_s (event_check_eq hx hs.2.1),cnd_ilt,w64_succ hi (by omega)]
  unfold evRnd
  by_cases e1:evChk l[i] d.2.2.2.2.2.1≠0
  ·rw [if_pos e1,if_pos e1,cnd_t (ine_t e1)]
  rw [if_neg e1,cnd_f (ine_f (by simpa using e1))]
  by_cases e2:d.2.2.2.2.1<l[i].1
  ·rw [if_pos e2,if_pos e2,if_pos (by decide)]
  rw [if_neg e2,if_neg e2]
  have hput:=fun h=>mput_take hi h
  cases i with
  | zero =>
   rw [cnd_f (by rfl),mhas_mapE,cnd_dec]
   have e0:ordB (l.take 0).getLast? l[0]=true:=rfl
   rw [e0,if_neg (show ¬ true=false by decide)]
   by_cases e3:hasE (l.take 0) l[0].1
   ·rw [if_pos e3,if_pos e3,if_pos (by decide)]
   ·rw [if_neg e3,if_neg e3,hput e3,if_neg (by decide)]
  | succ i =>
   rw [cnd_t (ilt_t (by omega)),w64_back (by omega),grd_t (inb_t (by simp only [len]; omega)),lget_i (show i<l.length by omega),bnd_s (event_less _ _),mhas_mapE,cnd_dec,cnd_bnot]
   have e0:ordB (l.take (i+1)).getLast? l[i+1]=decide (lessE l[i] l[i+1]):=by rw [last_take (show i<l.length by omega)]; rfl
   rw [e0]
   by_cases e4:lessE l[i] l[i+1]
   ·rw [if_pos e4,decide_eq_true e4,if_neg (show ¬ true=false by decide)]
    by_cases e3:hasE (l.take (i+1)) l[i+1].1
    ·rw [if_pos e3,if_pos e3,if_pos (by decide)]
    ·rw [if_neg e3,if_neg e3,hput e3,if_neg (by decide)]
   ·rw [if_neg e4,decide_eq_false e4,if_pos rfl,if_pos (by decide)]
 ·simp only
  rw [cnd_f (ilt_f (by simp only [len]; omega)),bnd_s (hcm (hgood hz))]
 ·rw [List.take_zero,List.drop_zero]
  split<;>rfl
theorem r12_check {d:Doc} (hs:smallD d):q135 fuelH d=some (docChk d):=by
 unfold q135 docChk
 rw [bnd_s (checkHead_eq hs.1)]
 by_cases c1:headChk d≠0
 ·rw [cnd_t (ine_t c1),if_pos c1]
 rw [cnd_f (ine_f (by simpa using c1)),if_neg c1,bnd_s (r10_list _)]
 by_cases c2:regsChk d.2.2.2.2.2.1≠0
 ·rw [cnd_t (ine_t c2),if_pos c2]
 rw [cnd_f (ine_f (by simpa using c2)),if_neg c2]
 by_cases c3:400<d.2.2.2.2.2.2.1.length
 ·rw [cnd_t (ilt_t (by simp only [len]; omega)),if_pos c3]
 rw [cnd_f (ilt_f (by simp only [len]; omega)),if_neg c3,jn_e]
 have hgood:=@good_of d hs (by omega)
 have hcm:=@comment_eq d
 have hfind:=fun k=>find_eq (d:=d) (by omega) k
 unfold evsChk
 have hev:=hs.2.2.1
 generalize hl:d.2.2.2.2.2.2.1=l at c3 hgood hfind hev ⊢
 refine Eq.trans (loop_err (l:=l) (fun (_:Unit) (p:Nat)=>(p:Int)) (fun _=>()) (evRnd d.2.2.2.2.2.1 d.2.2.2.2.1) (fun e=>e) (some (cmtsChk d)) (fun self i hi=>?_) (fun hz self=>?_) fuelH 0 (Nat.zero_le _) (by have:=fuelH_eq; omega) (fun j _ hj=>by omega)) ?_
 ·have hin:inb (i:Int) (len l)=true:=inb_t (by simp only [len]; omega)
  have hx:=hev _ (List.getElem_mem hi)
  have hat:=findE_at hi
  rw [cnd_t (ilt_t (by simp only [len]; omega)),grd_t hin,lget_i hi,bnd_s (r11_check_eq hx hs.2.1),cnd_ilt,w64_succ hi (by omega)]
  unfold evRnd
  by_cases e1:evChk l[i] d.2.2.2.2.2.1≠0
  ·rw [if_pos e1,if_pos e1,cnd_t (ine_t e1)]
  rw [if_neg e1,cnd_f (ine_f (by simpa using e1))]
  by_cases e2:d.2.2.2.2.1<l[i].1
  ·rw [if_pos e2,if_pos e2,if_pos (by decide)]
  rw [if_neg e2,if_neg e2]
  cases i with
  | zero =>
   rw [cnd_f (by rfl),hfind,bnd_some',cnd_ine]
   have e0:ordB (l.take 0).getLast? l[0]=true:=rfl
   rw [e0,if_neg (show ¬ true=false by decide)]
   by_cases e3:hasE (l.take 0) l[0].1
   ·rw [if_pos (fun e=>hat.1 e e3),if_pos e3,if_pos (by decide)]
   ·rw [if_neg (not_not_intro (hat.2 e3)),if_neg e3,if_neg (by decide)]
  | succ i =>
   rw [cnd_t (ilt_t (by omega)),w64_back (by omega),grd_t (inb_t (by simp only [len]; omega)),lget_i (show i<l.length by omega),bnd_s (r11_less _ _ _),hfind,bnd_some',cnd_ine,cnd_bnot]
   have e0:ordB (l.take (i+1)).getLast? l[i+1]=decide (lessE l[i] l[i+1]):=by rw [last_take (show i<l.length by omega)]; rfl
   rw [e0]
   by_cases e4:lessE l[i] l[i+1]
   ·rw [if_pos e4,decide_eq_true e4,if_neg (show ¬ true=false by decide)]
    by_cases e3:hasE (l.take (i+1)) l[i+1].1
    ·rw [if_pos (fun e=>hat.1 e e3),if_pos e3,if_pos (by decide)]
    ·rw [if_neg (not_not_intro (hat.2 e3)),if_neg e3,if_neg (by decide)]
   ·rw [if_neg e4,decide_eq_false e4,if_pos rfl,if_pos (by decide)]
 ·rw [cnd_f (ilt_f (by simp only [len]; omega))]
  have hg:=hgood hz
  unfold cmtsChk
  by_cases h64:64<d.2.2.2.2.2.2.2.length
  ·rw [cnd_t (ilt_t (by simp only [len]; omega)),if_pos h64]
  rw [cnd_f (ilt_f (by simp only [len]; omega)),if_neg h64,jn_e]
  have hcm:=@hcm hg (by omega)
  generalize hm:d.2.2.2.2.2.2.2=m at h64 hcm ⊢
  refine Eq.trans (loop_err (l:=m) (fun (_:Unit) (p:Nat)=>(p:Int)) (fun _=>()) (cmtRnd d) (fun e=>e) (some 0) (fun self i hi=>?_) (fun _ self=>?_) fuelH 0 (Nat.zero_le _) (by have:=fuelH_eq; omega) (fun j _ hj=>by omega)) ?_
  ·rw [cnd_t (ilt_t (by simp only [len]; omega)),hcm hi,bnd_some',cnd_ine,w64_succ hi (by omega)]
  ·rw [cnd_f (ilt_f (by simp only [len]; omega))]
  ·rw [List.take_zero,List.drop_zero]
   by_cases hc:errL (cmtRnd d) [] m≠0
   ·rw [if_pos hc]
   ·rw [if_neg hc]
    have hc:errL (cmtRnd d) [] m=0:=by simpa using hc
    rw [hc]
 ·rw [List.take_zero,List.drop_zero]
  split<;>rfl
end
end Go.Mo
end
section
/-
 Plain facts: the place of a good event,and its region.
-/
namespace Go.Mo
open Go Go.W Go.Lib
set_option maxRecDepth 100000
noncomputable section
end
end Go.Mo
end
section
/-
 Plain facts: the document as the form carries it,on both sides.
-/
namespace Go.Mo
open Go Go.W Go.Lib
set_option maxRecDepth 100000
noncomputable section
end
end Go.Mo
end
section
/-
 Plain facts: a document is the same as itself; StlAccepts returns true.
-/
namespace Go.Mo
open Go Go.W Go.Lib
set_option maxRecDepth 100000
noncomputable section
theorem regs_self {l:List Reg} (hl:l.length≤1000000):q138 fuelH (l,l)=some true:=by
 unfold q138
 simp only
 rw [cnd_f (ine_f rfl),jn_e]
 refine loop_inv (n:=l.length) (fun (_:Unit) (i:Nat)=>(i:Int)) (fun _ _=>True) _ (fun self a i hi _=>⟨(),?_,trivial⟩) (fun self a _=>?_) fuelH 0 () (Nat.zero_le _) (by have:=fuelH_eq; omega) trivial
 ·have hin:inb (i:Int) (len l)=true:=inb_t (by simp only [len]; omega)
  rw [cnd_t (ilt_t (by simp only [len]; omega)),grd_t hin,grd_t hin,lget_i hi,w64_succ hi (by omega),cnd_f]
  rw [← Bool.not_eq_true,bnot_t,Bool.eq_false_iff]
  intro h
  refine h ?_
  simp only [band_tt,seq_t,ieq_tt,beqb_t]
  simp
 ·rw [cnd_f (ilt_f (by simp only [len]; omega))]
theorem ev_self {x:Ev} (h1:x.2.2.2.2.2.length≤4000000) (h2:∀ r∈x.2.2.2.2.2,r.length≤4000000):q143 fuelH (x,x)=some true:=by
 unfold q143
 simp only
 rw [cnd_t (ieq_t rfl),cnd_t (by simp [band_tt,ieq_tt]),cnd_t (by rw [seq_t]),cnd_t (ieq_t rfl),cnd_t (by rw [seq_t]),same_rows _ _ h1 h2,bnd_some']
 simp
theorem evs_self {l:List Ev} (hl:l.length≤1000000) (h:∀ x∈l,x.2.2.2.2.2.length≤4000000∧∀ r∈x.2.2.2.2.2,r.length≤4000000):q144 fuelH (l,l)=some true:=by
 unfold q144
 simp only
 rw [cnd_f (ine_f rfl),jn_e]
 refine loop_inv (n:=l.length) (fun (_:Unit) (i:Nat)=>(i:Int)) (fun _ _=>True) _ (fun self a i hi _=>⟨(),?_,trivial⟩) (fun self a _=>?_) fuelH 0 () (Nat.zero_le _) (by have:=fuelH_eq; omega) trivial
 ·have hin:inb (i:Int) (len l)=true:=inb_t (by simp only [len]; omega)
  obtain ⟨h1,h2⟩:=h _ (List.getElem_mem hi)
  rw [cnd_t (ilt_t (by simp only [len]; omega)),grd_t hin,grd_t hin,lget_i hi,w64_succ hi (by omega),bnd_s (ev_self h1 h2),cnd_f (by rfl)]
 ·rw [cnd_f (ilt_f (by simp only [len]; omega))]
theorem doc_self {d:Doc} (h1:d.2.2.2.2.2.1.length≤1000000) (h2:d.2.2.2.2.2.2.1.length≤1000000) (h3:∀ x∈d.2.2.2.2.2.2.1,x.2.2.2.2.2.length≤4000000∧∀ r∈x.2.2.2.2.2,r.length≤4000000) (h4:d.2.2.2.2.2.2.2=[]):q146 fuelH (d,d)=some true:=by
 unfold q146
 have hh:q137 fuelH d=some (d.1,d.2.1,d.2.2.1,d.2.2.2.1,d.2.2.2.2.1):=rfl
 simp only
 rw [hh,bnd_some',bnd_some',cnd_t (by simp [band_tt,ieq_tt,seq_t,beqb_t]),regs_self h1,bnd_some',cnd_t rfl,evs_self h2 h3,bnd_some',cnd_t rfl,h4]
 have:q145 fuelH ([],[])=some true:=by kernel_rfl
 rw [this]
 rfl
end
end Go.Mo
end
section
/-
 Plain facts: StlAccepts returns true.
-/
namespace Go.Mo
open Go Go.W Go.Lib
set_option maxRecDepth 100000
noncomputable section
def wtG (r:Reg):Nat:=r.1.length+1+(1+(1+(1+(1+(1+1)))))
def wtX (x:Ev):Nat:=1+(1+1+(x.2.2.1.length+1+(1+(x.2.2.2.2.1.length+1+(bkL wtR x.2.2.2.2.2+1)))))
def wtC (c:Cmt):Nat:=1+(1+(1+(1+(c.2.2.2.2.1.length+1+(c.2.2.2.2.2.1.length+1+(1+1))))))
def wtD (d:Doc):Nat:=d.1.length+1+(d.2.1.length+1+(1+(1+(1+(bkL wtG d.2.2.2.2.2.1+1+(bkL wtX d.2.2.2.2.2.2.1+1+(bkL wtC d.2.2.2.2.2.2.2+1)))))))
end
end Go.Mo
end
section
/-
 Plain facts: texts that are joined; the normal form of a row that is good.
-/
namespace Go.Mo
open Go Go.W Go.Lib
set_option maxRecDepth 100000
noncomputable section
end
end Go.Mo
end
section
/-
 Plain facts: the regions of a reduced document; its events stand where they stood.
-/
namespace Go.Mo
open Go Go.W Go.Lib
set_option maxRecDepth 100000
noncomputable section
end
end Go.Mo
end
section
/-
 Plain facts: a reduced document is good; StlReduced returns true.
-/
namespace Go.Mo
open Go Go.W Go.Lib
set_option maxRecDepth 100000
noncomputable section
theorem doc_parts {d:Doc} (h:docChk d=0):headChk d=0∧d.2.2.2.2.2.2.1.length≤400∧evsChk d=0:=by
 unfold docChk at h
 split at h
 ·rename_i hc; exact absurd h hc
 rename_i c1
 split at h
 ·rename_i hc; exact absurd h hc
 split at h
 ·cases h
 rename_i hn
 split at h
 ·rename_i hc; exact absurd h hc
 rename_i hc
 exact ⟨by simpa using c1,by omega,by simpa using hc⟩
end
end Go.Mo
end
section
/-
 Plain facts: digits and the bytes of a header.
-/
namespace Go.Mo
open Go Go.W Go.Lib
set_option maxRecDepth 100000
end Go.Mo
end
section
/-
 Plain facts: what the check of a header lets through; the bytes of a header.
-/
namespace Go.Mo
open Go Go.W Go.Lib
set_option maxRecDepth 100000
noncomputable section
def lblOk (l:Lbl):Prop:=(0≤l.1∧l.1≤23)∧(0≤l.2.1∧l.2.1≤59)∧(0≤l.2.2.1∧l.2.2.1≤59)∧(0≤l.2.2.2.1∧l.2.2.2.1≤59)
structure HdrOk (h:Hdr):Prop where
 rate:h.1=3∨h.1=5
 lang:h.2.1=[]∨nm h.2.1=true
 ttl:vld h.2.2.1=true
 ttlL:h.2.2.1.length≤400
 blocks:0≤h.2.2.2.1∧h.2.2.2.1≤99999
 groups:0≤h.2.2.2.2.1∧h.2.2.2.2.1≤99999
 start:lblOk h.2.2.2.2.2.1
 first:lblOk h.2.2.2.2.2.2.1
 rows:0≤h.2.2.2.2.2.2.2.1∧h.2.2.2.2.2.2.2.1≤99
 cols:0≤h.2.2.2.2.2.2.2.2∧h.2.2.2.2.2.2.2.2≤99
 d1:h.2.2.2.2.2.1.2.2.2.2=false
 d2:h.2.2.2.2.2.2.1.2.2.2.2=false
end
end Go.Mo
end
section
/-
 Plain facts: numbers and names read back.
-/
namespace Go.Mo
open Go Go.W Go.Lib
set_option maxRecDepth 100000
noncomputable section
end
end Go.Mo
end
section
/-
 Plain facts: a header read back; TapeHeaders.
-/
namespace Go.Mo
open Go Go.W Go.Lib
set_option maxRecDepth 100000
noncomputable section
def hz:Hdr:=((0:UInt8),([]:List UInt8),([]:List UInt8),(0:Int),(0:Int),((0:Int),(0:Int),(0:Int),(0:Int),false),((0:Int),(0:Int),(0:Int),(0:Int),false),(0:Int),(0:Int))
end
end Go.Mo
end
section
/-
 Plain facts: rows that are read are small; a subtitle that is read,both sides.
-/
namespace Go.Mo
open Go Go.W Go.Lib
set_option maxRecDepth 100000
noncomputable section
end
end Go.Mo
end
section
/-
 Plain facts: events in document order,both sides.
-/
namespace Go.Mo
open Go Go.W Go.Lib
set_option maxRecDepth 100000
noncomputable section
def tinyE (x:Ev):Prop:=x.2.2.2.2.2.length≤1000000∧∀ r∈x.2.2.2.2.2,r.length≤1000000
end
end Go.Mo
end
section
/-
 Plain facts: the program's sorting of few events.
-/
namespace Go.Mo
open Go Go.W Go.Lib
set_option maxRecDepth 100000
noncomputable section
end
end Go.Mo
end
section
/-
 Plain facts: what is read is a valid document that the form carries; StlValid returns true.
-/
namespace Go.Mo
open Go Go.W Go.Lib
set_option maxRecDepth 100000
noncomputable section
end
end Go.Mo
end
section
/-
 Plain facts: the blocks of a subtitle lead back to it.
-/
namespace Go.Mo
open Go Go.W Go.Lib
set_option maxRecDepth 100000
noncomputable section
end
end Go.Mo
end
section
/-
 Plain facts: the file of an accepted document is read as the reduced document; StlCarries returns true.
-/
namespace Go.Mo
open Go Go.W Go.Lib
set_option maxRecDepth 100000
noncomputable section
end
end Go.Mo
end
end

section
/-
  Plain facts: loops over a text; letters; the escaped text, both sides.
-/
set_option linter.all false
namespace Go.Mo
open Go Go.W Go.Lib
set_option maxRecDepth 100000
noncomputable section
theorem drop_loop {V R σ α:Type} {F:(V→Option R)→V→Option R} {s:List α} (st:σ→Nat→V) (spec:σ→List α→Option R) (I:Nat→σ→Prop)
  (hstep:∀ self a i,i≤s.length→I i a→(∀ a' j,i<j→j≤s.length→I j a'→self (st a' j)=spec a' (s.drop j))→F self (st a i)=spec a (s.drop i)) :
  ∀ (fuel i:Nat) (a:σ),s.length - i<fuel→i≤s.length→I i a→fixN F fuel (st a i)=spec a (s.drop i)
 | 0,i,a,h,_,_=>by omega
 | fuel+1,i,a,h,hi,hI=>by
  rw [fixN_s]
  exact hstep _ a i hi hI fun a' j hj hj2 hI2=>drop_loop st spec I hstep fuel j a' (by omega) hj2 hI2
theorem fuelH_len {α:Type} {s:List α} (h:s.length≤4000000) (i:Nat):s.length - i<fuelH:=by have:=fuelH_eq; omega
def letB (x:UInt8):Bool:=(decide (97≤x.toNat) && decide (x.toNat≤122)) || (decide (65≤x.toNat) && decide (x.toNat≤90))
def digB (x:UInt8):Bool:=decide (48≤x.toNat) && decide (x.toNat≤57)
def namB (x:UInt8):Bool:=letB x || digB x || x == 45
def wsB (x:UInt8):Bool:=x == 9 || x == 10 || x == 13 || x == 32
theorem letters_tab:((List.range 256).all fun n=>decide (q57 0 (UInt8.ofNat n)=some (letB (UInt8.ofNat n))∧q91 0 (UInt8.ofNat n)=some (letB (UInt8.ofNat n))∧q58 0 (UInt8.ofNat n)=some (namB (UInt8.ofNat n))∧q92 0 (UInt8.ofNat n)=some (digB (UInt8.ofNat n))∧q148 0 (UInt8.ofNat n)=some (wsB (UInt8.ofNat n))))=true:=by kernel_rfl
theorem letters (x:UInt8):q57 0 x=some (letB x)∧q91 0 x=some (letB x)∧q58 0 x=some (namB x)∧q92 0 x=some (digB x)∧q148 0 x=some (wsB x) :=
 of_decide_eq_true (all_u8 (P:=fun x=>decide (q57 0 x=some (letB x)∧q91 0 x=some (letB x)∧q58 0 x=some (namB x)∧q92 0 x=some (digB x)∧q148 0 x=some (wsB x))) letters_tab x)
theorem letter_eq (N:Nat) (x:UInt8):q57 N x=some (letB x):=(letters x).1
theorem rletter_eq (N:Nat) (x:UInt8):q91 N x=some (letB x):=(letters x).2.1
theorem namb_eq (N:Nat) (x:UInt8):q58 N x=some (namB x):=(letters x).2.2.1
theorem rdigit_eq (N:Nat) (x:UInt8):q92 N x=some (digB x):=(letters x).2.2.2.1
end
end Go.Mo
end

section
/-
  Plain facts: what references mean and the text that is meant, both sides.
-/
set_option linter.all false
namespace Go.Mo
open Go Go.W Go.Lib
set_option maxRecDepth 100000
noncomputable section
theorem scan {R:Type} {F:(Int→Option R)→Int→Option R} {s:List UInt8} (P:UInt8→Bool) (K:Int→Option R)
  (hin:∀ self i (h:i<s.length),F self (i:Int)=if P s[i]=true then self ((i+1:Nat):Int) else K i) (hend:∀ self,F self (s.length:Int)=K s.length) :
  ∀ (fuel i:Nat),s.length - i<fuel→i≤s.length→fixN F fuel (i:Int)=K ((i+((s.drop i).takeWhile P).length:Nat):Int)
 | 0,i,h,_=>by omega
 | fuel+1,i,h,hi=>by
  rw [fixN_s]
  by_cases hl:i<s.length
  ·rw [hin _ i hl,List.drop_eq_getElem_cons hl,List.takeWhile_cons]
   by_cases hp:P s[i]=true
   ·rw [if_pos hp,if_pos hp,scan P K hin hend fuel (i+1) (by omega) (by omega),List.length_cons]
    congr 2
    omega
   ·rw [if_neg hp,if_neg hp]
    rfl
  ·obtain rfl:i=s.length:=by omega
   rw [hend,List.drop_length]
   rfl
def kv (v:Int):Option (List UInt8×Int):=cnd (ilt v (0:Int)) (some (([]:List UInt8),(4:Int))) (bnd (q95 fuelH (wr .i32 v)) fun v2=>cnd (ilt v2 (0:Int)) (some (([]:List UInt8),(10:Int))) (bnd (r08_Of fuelH ([wr .i32 v]:List Int)) fun v3=>some (v3,(0:Int))))
def v8 (x:List UInt8) (b:Bool):Option (List UInt8×Int):=cnd b (grd (in2 (2:Int) (len x)) (bnd (r20_code fuelH (ldrop (toN (2:Int)) x,(16:Int),(5:Int))) kv))
 (cnd (ilt (0:Int) (len x)) (grd (inb (0:Int) (len x)) (cnd (ieq (n8 (lget x (toN (0:Int)) (0:UInt8))) (n8 (35:UInt8))) (grd (in2 (1:Int) (len x)) (bnd (r20_code fuelH (ldrop (toN (1:Int)) x,(10:Int),(6:Int))) kv)) (kv (-1:Int)))) (kv (-1:Int)))
def k2N (N:Nat) (s:List UInt8) (at':Int) (most:Int) (v2:Int×Int):Option (List UInt8×Int×Int) :=
    cnd (ieq v2.1 at')
     (some (([]:List UInt8),(0:Int),(4:Int)))
     (cnd (ilt most (w64 (isub v2.1 at')))
      (some (([]:List UInt8),(0:Int),(4:Int)))
      (cnd (ieq v2.1 (len s))
       (some (([]:List UInt8),(0:Int),(4:Int)))
       (grd (inb v2.1 (len s))
        (cnd (ine (n8 (lget s (toN v2.1) (0:UInt8))) (n8 (59:UInt8)))
         (some (([]:List UInt8),(0:Int),(4:Int)))
         (bnd (q12 N (wr .i32 v2.2)) fun v3 =>
         cnd (ilt v3 (0:Int))
          (some (([]:List UInt8),(0:Int),(10:Int)))
          (some (enc (wr .i32 v2.2),w64 (iadd v2.1 (1:Int)),(0:Int))))))))
def k2 (s:List UInt8) (at':Int) (most:Int) (v2:Int×Int):Option (List UInt8×Int×Int):=k2N fuelH s at' most v2
theorem all_tw {P:UInt8→Bool}:∀ l:List UInt8,(l.takeWhile P).all P=true
 | []=>rfl
 | b::l=>by
  rw [List.takeWhile_cons]
  split
  ·rename_i h
   rw [List.all_cons,h,all_tw l]
   rfl
  ·rfl
end
end Go.Mo
end

section
/-
  Plain facts: the text that is meant, names, both sides; XmlEscapes and XmlUnescapes return true.
-/
set_option linter.all false
namespace Go.Mo
open Go Go.W Go.Lib
set_option maxRecDepth 100000
noncomputable section
theorem tw_len {P:UInt8→Bool} (l:List UInt8):(l.takeWhile P).length≤l.length:=(List.takeWhile_prefix P).length_le
theorem tw_take (P:UInt8→Bool):∀ l:List UInt8,l.take (l.takeWhile P).length=l.takeWhile P
 | []=>rfl
 | b::l=>by
  rw [List.takeWhile_cons]
  split
  ·rw [List.length_cons,List.take_succ_cons,tw_take P l]
  ·rfl
def nmX (s:List UInt8):Bool:=decide (1≤s.length) && decide (s.length≤32) && letB (s.getD 0 0) && s.all namB
theorem let_nam {x:UInt8} (h:letB x=true):namB x=true:=by unfold namB; rw [h]; rfl
def namP:List UInt8→List UInt8
 | []=>[]
 | b::l=>if letB b=true then b::l.takeWhile namB else []
theorem namP_cons (b:UInt8) (l:List UInt8):namP (b::l)=if letB b=true then b::l.takeWhile namB else []:=rfl
theorem nmX_eq (s:List UInt8):nmX s=(decide (s≠[]) && decide (s.length≤32) && decide (namP s=s)):=by
 unfold nmX
 match s with
 | []=>rfl
 | b::l =>
  have h0:(b::l).getD 0 0=b:=rfl
  rw [h0,List.all_cons]
  have h1:decide (1≤(b::l).length)=true:=decide_eq_true (by simp)
  have h2:decide (b::l≠[])=true:=decide_eq_true (by simp)
  rw [h1,h2,Bool.and_assoc (true && decide ((b::l).length≤32))]
  congr 1
  rw [namP_cons]
  by_cases h:letB b=true
  ·rw [h,let_nam h,if_pos rfl,Bool.true_and,Bool.true_and]
   rw [Bool.eq_iff_iff,decide_eq_true_eq]
   refine ⟨fun k=>?_,fun k=>?_⟩
   ·have:=List.takeWhile_append_of_pos (p:=namB) (l₁:=l) (l₂:=[]) (by simpa using k)
    simp at this
    rw [this]
   ·injection k with _ k
    rw [← k]
    exact all_tw l
  ·have:letB b=false:=by simpa using h
   rw [this,if_neg (by decide),decide_eq_false (show ¬ (([]:List UInt8)=b::l) by simp)]
   simp
theorem name_loop {s:List UInt8} (hs:s.length≤4000000):∀ (fuel i:Nat),s.length - i<fuel→i≤s.length →
  fixN (fun v3 (v4:Int)=>cnd (ilt v4 (len s)) (grd (inb v4 (len s)) (bnd (q58 fuelH (lget s (toN v4) (0:UInt8))) fun v5=>cnd (bnot v5) (some false) (v3 (w64 (iadd v4 (1:Int)))))) (some true)) fuel (i:Int)=some ((s.drop i).all namB)
 | 0,i,h,_=>by omega
 | fuel+1,i,h,hi=>by
  rw [fixN_s]
  by_cases hl:i<s.length
  ·rw [cnd_t (ilt_t (by simp only [len]; omega)),grd_t (inb_t (by simp only [len]; omega)),lget_i hl,namb_eq,bnd_some',w64_succ hl (by omega),name_loop hs fuel (i+1) (by omega) (by omega),List.drop_eq_getElem_cons hl,List.all_cons]
   cases namB s[i]<;>rfl
  ·obtain rfl:i=s.length:=by omega
   rw [cnd_f (ilt_f (by simp only [len]; omega)),List.drop_length]
   rfl
theorem name_eq (s:List UInt8):xml_Name fuelH s=some (nmX s):=by
 unfold xml_Name nmX
 by_cases h0:1≤s.length
 ·rw [cnd_f (ilt_f (by simp only [len]; omega)),decide_eq_true h0]
  by_cases h1:s.length≤32
  ·have hg:lget s (toN (0:Int)) (0:UInt8)=s.getD 0 0:=rfl
   rw [cnd_f (ilt_f (by simp only [len]; omega)),decide_eq_true h1,grd_t (inb_t (by simp only [len]; omega)),letter_eq,bnd_some',hg]
   by_cases h2:letB (s.getD 0 0)=true
   ·rw [h2,cnd_f (by rfl),jn_e]
    exact name_loop (by omega) fuelH 0 (fuelH_len (by omega) 0) (Nat.zero_le _)
   ·have h2:letB (s.getD 0 0)=false:=by simpa using h2
    rw [h2,cnd_t (by rfl)]
    rfl
  ·rw [cnd_t (ilt_t (by simp only [len]; omega)),decide_eq_false h1]
   rfl
 ·rw [cnd_t (ilt_t (by simp only [len]; omega)),decide_eq_false h0]
  rfl
theorem rnamb (x:UInt8) (X Y:Option (List UInt8)) (N:Nat) (s:List UInt8) (v:Int) (hv:inb v (len s)=true) (hx:lget s (toN v) 0=x) :
  (bnd (q91 N x) fun v5=>cnd v5 X (grd (inb v (len s)) (bnd (q92 N x) fun v6=>cnd v6 X (grd (inb v (len s)) (cnd (ieq (n8 x) (n8 (45:UInt8))) X Y)))))=if namB x=true then X else Y:=by
 rw [rletter_eq,bnd_some',grd_t hv,rdigit_eq,bnd_some',grd_t hv]
 unfold namB
 cases letB x with
 | true=>rfl
 | false =>
  rw [cnd_f (by rfl)]
  cases digB x with
  | true=>rfl
  | false =>
   rw [cnd_f (by rfl)]
   by_cases h:x=45
   ·subst h; rfl
   ·rw [cnd_f (ieq_f (fun k=>h (n8_inj k))),if_neg (by simpa using h)]
theorem namep_eq {s:List UInt8} (hs:s.length≤4000000):q93 fuelH s=some (namP s):=by
 unfold q93
 match s with
 | []=>rfl
 | b::l =>
  rw [cnd_f (by rfl),grd_t (inb_t (by simp only [len,List.length_cons]; omega))]
  show (bnd (q91 fuelH b) _)=_
  rw [rletter_eq,bnd_some',namP_cons]
  by_cases h:letB b=true
  ·rw [h,cnd_f (by rfl),jn_e,if_pos rfl]
   have hb:(1:Nat)≤(b::l).length:=by simp
   refine Eq.trans (scan (s:=b::l) namB (fun v1=>grd (in2 v1 (len (b::l))) (some (ltake (toN v1) (b::l)))) (fun self k hk=>?_) (fun self=>?_) fuelH 1 (fuelH_len hs 1) hb) ?_
   ·show cnd (ilt (k:Int) (len (b::l))) _ _=_
    have hv:inb (k:Int) (len (b::l))=true:=inb_t (by simp only [len]; omega)
    rw [cnd_t (ilt_t (by simp only [len]; omega)),grd_t hv,w64_succ hk (by omega)]
    have hx:=lget_i (l:=b::l) (d:=(0:UInt8)) hk
    rw [hx]
    exact rnamb _ _ _ _ _ _ hv hx
   ·show cnd (ilt ((b::l).length:Int) (len (b::l))) _ _=_
    rw [cnd_f (ilt_f (by simp only [len]; omega))]
   ·have ht:=tw_len (P:=namB) l
    show grd (in2 ((1+(l.takeWhile namB).length:Nat):Int) (len (b::l))) _=_
    rw [grd_t (in2_t (by simp only [len,List.length_cons]; omega))]
    simp only [ltake,toN,Int.toNat_natCast]
    rw [Nat.add_comm,List.take_succ_cons]
    exact congrArg (fun x=>some (b::x)) (tw_take namB l)
  ·have h:letB b=false:=by simpa using h
   rw [h,cnd_t (by rfl)]
   rfl
theorem rname_eq {s:List UInt8} (hs:s.length≤4000000):r20_Name fuelH s=some (nmX s):=by
 unfold r20_Name
 rw [nmX_eq]
 by_cases h0:s=[]
 ·subst h0; rfl
 rw [cnd_t (by unfold sne; simpa using h0)]
 by_cases h1:s.length≤32
 ·rw [cnd_t (ile_t (by simp only [len]; omega)),namep_eq hs,bnd_some',seq_dec,decide_eq_true h0,decide_eq_true h1]
  rfl
 ·rw [cnd_f (ile_f (by simp only [len]; omega)),decide_eq_false h1]
  simp
end
end Go.Mo
end

section
/-
  Plain facts: attributes and children; XmlLooks returns true.
-/
set_option linter.all false
namespace Go.Mo
open Go Go.W Go.Lib
set_option maxRecDepth 100000
noncomputable section
abbrev Ln:=List UInt8
abbrev At:=List UInt8×List UInt8
abbrev Nd:=List UInt8×List UInt8×List At×Int
def ndz:Nd:=([],([],([],(0:Int))))
def dep (n:Nd):Int:=n.2.2.2
def i64 (x:Int):Prop:=-9223372036854775808≤x∧x≤9223372036854775807
theorem lgetn {l:List Nd} {i:Nat} (h:i<l.length):lget l (toN (i:Int)) ([],([],([],(0:Int))))=l[i]:=lget_i h
def wtA (a:At):Nat:=a.1.length+1+(a.2.length+1)
def wtN (n:Nd):Nat:=n.1.length+1+(n.2.1.length+1+(bkL wtA n.2.2.1+1+1))
structure smN (n:Nd):Prop where
 nm:n.1.length≤1090000
 tx:n.2.1.length≤1090000
 asz:n.2.2.1.length≤1090000
 an:∀ a∈n.2.2.1,a.1.length≤1090000∧a.2.length≤1090000
theorem sm_of {l:List Nd} (h:bkL wtN l≤1090000):∀ n∈l,smN n:=fun n hn=>by
 have h1:n.1.length+1+(n.2.1.length+1+(bkL wtA n.2.2.1+1+1))≤bkL wtN l:=bk_mem (f:=wtN) hn
 have h2:=bk_len (f:=wtA) (fun a=>by unfold wtA; omega) n.2.2.1
 refine ⟨by omega,by omega,by omega,fun a ha=>?_⟩
 have h3:a.1.length+1+(a.2.length+1)≤bkL wtA n.2.2.1:=bk_mem (f:=wtA) ha
 omega
def attrF (name:Ln):List At→Ln×Bool
 | []=>([],false)
 | a::r=>if a.1=name then (a.2,true) else attrF name r
end
end Go.Mo
end

section
/-
  Plain facts: loops that push; numbers in decimal, both sides; attributes; one element.
-/
set_option linter.all false
namespace Go.Mo
open Go Go.W Go.Lib
set_option maxRecDepth 100000
noncomputable section
theorem wrU {n:Nat} (h:n<18446744073709551616):wr .u64 (n:Int)=n:=by
 show IntKind.wrap .u64 (n:Int)=_
 unfold IntKind.wrap
 simp only [IntKind.bits,IntKind.signed,Bool.false_and,show (2:Int) ^ 64=18446744073709551616 from rfl]
 rw [if_neg (by decide)]
 omega
end
end Go.Mo
end

section
/-
  Plain facts: the tree of a document, both sides.
-/
set_option linter.all false
namespace Go.Mo
open Go Go.W Go.Lib
set_option maxRecDepth 100000
noncomputable section
def kndQ (k:UInt8):List UInt8:=if k=1 then [68,73,65,76,79,71,85,69] else if k=2 then [83,79,85,78,68] else if k=3 then [84,73,84,76,69] else if k=4 then [77,85,83,73,67] else []
def ratQ (r:UInt8):List UInt8:=if r=1 then [50,51,46,57,55,54] else if r=2 then [50,52] else if r=3 then [50,53] else if r=4 then [50,57,46,57,55] else if r=5 then [51,48] else if r=6 then [53,48] else if r=7 then [53,57,46,57,52] else []
theorem names_tab:((List.range 256).all fun n=>decide (q27 0 (UInt8.ofNat n)=some (kndQ (UInt8.ofNat n))∧q147 0 (UInt8.ofNat n)=some (kndQ (UInt8.ofNat n))∧q49 0 (UInt8.ofNat n)=some (ratQ (UInt8.ofNat n))∧r02_Name 0 (UInt8.ofNat n)=some (ratQ (UInt8.ofNat n))))=true:=by kernel_rfl
theorem names_eq (x:UInt8):q27 0 x=some (kndQ x)∧q147 0 x=some (kndQ x)∧q49 0 x=some (ratQ x)∧r02_Name 0 x=some (ratQ x) :=
 of_decide_eq_true (all_u8 (P:=fun x=>decide (q27 0 x=some (kndQ x)∧q147 0 x=some (kndQ x)∧q49 0 x=some (ratQ x)∧r02_Name 0 x=some (ratQ x))) names_tab x)
theorem rname_eq2 (N:Nat) (x:UInt8):q49 N x=some (ratQ x):=(names_eq x).2.2.1
theorem rrname_eq (N:Nat) (x:UInt8):r02_Name N x=some (ratQ x):=(names_eq x).2.2.2
structure NodOk (d:Doc):Prop where
 last:0≤d.2.2.2.2.1∧d.2.2.2.2.1≤1099511627776
 nreg:d.2.2.2.2.2.1.length≤16
 reg:∀ r∈d.2.2.2.2.2.1,regChk r=0
 nev:d.2.2.2.2.2.2.1.length≤400
 ev:∀ e∈d.2.2.2.2.2.2.1,1≤e.1∧e.1≤1099511627776∧(0≤e.2.1.1∧e.2.1.1<e.2.1.2∧e.2.1.2≤5184000)∧e.2.2.2.2.2.length≤4∧∀ l∈e.2.2.2.2.2,l.length≤16∧∀ u∈l,n8 u.2.1.1≤6
theorem chkRegs_all:∀ (l:List Reg) (p:Option Reg),chkRegs p l=0→∀ r∈l,regChk r=0
 | [],_,_,r,hr=>by cases hr
 | x::l,p,h,r,hr=>by
  simp only [chkRegs] at h
  split at h
  ·rename_i hc; exact absurd h hc
  ·rename_i hc
   have hx:regChk x=0:=by simpa using hc
   have tl:chkRegs (some x) l=0:=by
    cases p with
    | none=>exact h
    | some q =>
     simp only at h
     split at h
     ·cases h
     ·split at h
      ·cases h
      ·exact h
   rcases List.mem_cons.1 hr with rfl | hr
   ·exact hx
   ·exact chkRegs_all l _ tl r hr
theorem rowE_row {l:Row} (h:rowE l=0):rowChk l=0:=by
 unfold rowE at h
 split at h
 ·rename_i hc; exact absurd h hc
 ·rename_i hc; simpa using hc
theorem doc_regs {d:Doc} (h:docChk d=0):regsChk d.2.2.2.2.2.1=0:=by
 unfold docChk at h
 split at h
 ·rename_i hc; exact absurd h hc
 split at h
 ·rename_i hc; exact absurd h hc
 ·rename_i hc; simpa using hc
theorem doc_last {d:Doc} (h:docChk d=0):0≤d.2.2.2.2.1∧d.2.2.2.2.1≤1099511627776:=by
 have h:=(doc_parts h).1
 unfold headChk at h
 split at h
 ·cases h
 split at h
 ·cases h
 split at h
 ·cases h
 split at h
 ·cases h
 split at h
 ·cases h
 split at h
 ·cases h
 omega
theorem evs_all {d:Doc} (h:evsChk d=0):∀ e∈d.2.2.2.2.2.2.1,evChk e d.2.2.2.2.2.1=0:=by
 intro e he
 obtain ⟨j,hj,rfl⟩:=List.mem_iff_getElem.1 he
 exact (evRnd_ok (errL_zero _ [] h j hj)).1
theorem nodOk {d:Doc} (h:docChk d=0):NodOk d:=by
 obtain ⟨h1,h2,h3⟩:=doc_parts h
 have h4:=doc_regs h
 refine ⟨doc_last h,?_,?_,h2,fun e he=>?_⟩
 ·unfold regsChk at h4
  split at h4
  ·cases h4
  ·omega
 ·unfold regsChk at h4
  split at h4
  ·cases h4
  ·exact chkRegs_all _ _ h4
 ·obtain ⟨q1,q2,q3,_,q4,q5,_⟩:=ev_ok (evs_all h3 e he)
  refine ⟨q1,q2,q3,q4,fun l hl=>?_⟩
  obtain ⟨r1,r2⟩:=rowChk_ok (rowE_row (q5 l hl))
  exact ⟨r1,fun u hu=>(r2 u hu).2.2.1⟩
end
end Go.Mo
end

section
/-
  Plain facts: Nodes, both sides.
-/
set_option linter.all false
namespace Go.Mo
open Go Go.W Go.Lib
set_option maxRecDepth 100000
noncomputable section
end
end Go.Mo
end

section
/-
  Plain facts: the check of nodes.
-/
set_option linter.all false
namespace Go.Mo
open Go Go.W Go.Lib
set_option maxRecDepth 100000
noncomputable section
def atE:List Ln→List At→Int
 | _,[]=>0
 | seen,a::r=>if nmX a.1=false then 5 else if a.1∈seen then 7 else if vld a.2=false then 10 else atE (seen++[a.1]) r
def elE (n:Nd):Int:=if nmX n.1=false then 5 else if n.2.1≠[] then 4 else if 16<n.2.2.1.length then 9 else atE [] n.2.2.1
def depE (p:Option Nd) (n:Nd):Int:=match p with
 | none=>if dep n≠0 then 8 else 0
 | some q=>if dep n<1 then 8 else if (if q.1≠[] then dep q+1 else dep q)<dep n then 8 else if 15<dep n then 9 else 0
def txP (p:Option Nd) (n:Nd):Bool:=match p with
 | none=>true
 | some q=>decide (q.1=[]∧dep q=dep n)
def txE (p:Option Nd) (n:Nd):Int :=
 if txP p n=true then 8 else if n.2.1=[] then 4 else if 0<n.2.2.1.length then 4 else if vld n.2.1=false then 10 else 0
def ndE (p:Option Nd) (n:Nd):Int:=if depE p n≠0 then depE p n else if n.1≠[] then elE n else txE p n
def ckE:Option Nd→List Nd→Int
 | _,[]=>0
 | p,n::r=>if ndE p n≠0 then ndE p n else ckE (some n) r
def chkE (l:List Nd):Int:=if l.length=0 then 6 else if 8192<l.length then 9 else ckE none l
theorem mget_names {m:List (Ln×Bool)} (h:∀ x∈m,x.2=true) (k:Ln):mget seq false m k=decide (k∈m.map Prod.fst):=by
 induction m with
 | nil=>rfl
 | cons x m ih =>
  have ih:=ih fun y hy=>h y (List.mem_cons_of_mem _ hy)
  have hx:=h x List.mem_cons_self
  unfold mget
  rw [ih,hx,seq_dec]
  by_cases e:k=x.1
  ·subst e; simp
  ·simp [e]
theorem mput_names {m:List (Ln×Bool)} {k:Ln} (h:k ∉ m.map Prod.fst):mput seq m k true=m++[(k,true)]:=by
 induction m with
 | nil=>rfl
 | cons x m ih =>
  simp only [List.map_cons,List.mem_cons,not_or] at h
  unfold mput
  have:seq k x.1=false:=by rw [seq_dec]; simpa using h.1
  rw [this,ih h.2]
  rfl
theorem elem_eq {n:Nd} (hs:smN n):q59 fuelH n=some (elE n):=by
 unfold q59 elE
 rw [name_eq,bnd_some']
 by_cases h1:nmX n.1=true
 ·rw [h1,cnd_f (by rfl),if_neg (by decide)]
  by_cases h2:n.2.1=[]
  ·rw [cnd_f (by unfold sne; simpa using h2),if_neg (by simpa using h2)]
   by_cases h3:16<n.2.2.1.length
   ·rw [cnd_t (ilt_t (by simp only [len]; omega)),if_pos h3]
   rw [cnd_f (ilt_f (by simp only [len]; omega)),if_neg h3,jn_e]
   generalize ha:n.2.2.1=l at *
   have h:=drop_loop (s:=l) (fun (m:List (Ln×Bool)) (j:Nat)=>((j:Int),m)) (fun m r=>some (atE (m.map Prod.fst) r)) (fun _ m=>∀ x∈m,x.2=true)
    (F:=fun v3 (v4:Int×List ((List UInt8)×Bool)) =>
     cnd (ilt v4.1 (len l))
      (grd (inb v4.1 (len l))
       (bnd (xml_Name fuelH (lget l (toN v4.1) ([],[])).1) fun v5 =>
       cnd (bnot v5)
        (some (5:Int))
        (cnd (mget seq false v4.2 (lget l (toN v4.1) ([],[])).1)
         (some (7:Int))
         (bnd (q13 fuelH (lget l (toN v4.1) ([],[])).2) fun v6 =>
         cnd (bnot v6)
          (some (10:Int))
          (v3 (w64 (iadd v4.1 (1:Int)),mput seq v4.2 (lget l (toN v4.1) ([],[])).1 true))))))
      (some (0:Int))) ?_ fuelH 0 [] (fuelH_len (by omega) _) (Nat.zero_le _) (by simp)
   ·exact h
   ·intro self m j hj hI hself
    by_cases hjl:j<l.length
    ·have hw:w64 (iadd (j:Int) 1)=((j+1:Nat):Int):=w64_succ hjl (by omega)
     have hsa:=hs.an l[j] (by rw [ha]; exact List.getElem_mem hjl)
     rw [List.drop_eq_getElem_cons hjl]
     show cnd (ilt (j:Int) (len l)) _ _=some (if nmX (l[j]).1=false then _ else _)
     rw [cnd_t (ilt_t (by simp only [len]; omega)),grd_t (inb_t (by simp only [len]; omega)),lget_i hjl,name_eq,bnd_some',hw]
     by_cases e1:nmX (l[j]).1=true
     ·rw [e1,cnd_f (by rfl),if_neg (by decide),mget_names hI]
      by_cases e2:(l[j]).1∈m.map Prod.fst
      ·rw [cnd_t (by simpa using e2),if_pos e2]
      ·rw [cnd_f (by simpa using e2),if_neg e2,ch_valid _ (by omega),bnd_some']
       by_cases e3:vld (l[j]).2=true
       ·rw [e3,cnd_f (by rfl),if_neg (by decide),mput_names e2]
        refine Eq.trans (hself (m++[((l[j]).1,true)]) (j+1) (by omega) (by omega) ?_) ?_
        ·intro x hx
         rcases List.mem_append.1 hx with hx | hx
         ·exact hI x hx
         ·simp at hx; rw [hx]
        ·simp
       ·have e3:vld (l[j]).2=false:=by simpa using e3
        rw [e3,cnd_t (by rfl),if_pos rfl]
     ·have e1:nmX (l[j]).1=false:=by simpa using e1
      rw [e1,cnd_t (by rfl),if_pos rfl]
    ·obtain rfl:j=l.length:=by omega
     show cnd (ilt (l.length:Int) (len l)) _ _=_
     rw [cnd_f (ilt_f (by simp only [len]; omega)),List.drop_length]
     rfl
  ·rw [cnd_t (by unfold sne; simpa using h2),if_pos h2]
 ·have h1:nmX n.1=false:=by simpa using h1
  rw [h1,cnd_t (by rfl),if_pos rfl]
def prv (l:List Nd) (i:Nat):Option Nd:=if i=0 then none else l[i - 1]?
theorem prv_succ {l:List Nd} {i:Nat} (hi:i<l.length):prv l (i+1)=some l[i]:=by
 unfold prv
 rw [if_neg (by omega)]
 simp [hi]
theorem depth_eq {l:List Nd} (hl:l.length≤4000000) {i:Nat} (hi:i<l.length) (hp:∀ q,prv l i=some q→0≤dep q∧dep q≤15):q56 fuelH (l,(i:Int))=some (depE (prv l i) l[i]):=by
 unfold q56
 show grd (inb (i:Int) (len l)) (cnd (ieq (i:Int) 0) (cnd (ine (lget l (toN (i:Int)) ([],([],([],(0:Int))))).2.2.2 0) _ _) _)=_
 rw [grd_t (inb_t (by simp only [len]; omega)),lgetn hi]
 by_cases h0:i=0
 ·subst h0
  rw [cnd_t (by rfl)]
  show cnd (ine (dep l[0]) 0) _ _=some (if dep l[0]≠0 then (8:Int) else 0)
  by_cases e:dep l[0]=0
  ·rw [cnd_f (ine_f e),if_neg (by simpa using e)]
  ·rw [cnd_t (ine_t e),if_pos e]
 ·obtain ⟨k,rfl⟩:∃ k,i=k+1:=⟨i - 1,by omega⟩
  have hq:=hp _ (prv_succ (by omega))
  rw [cnd_f (ieq_f (by omega)),prv_succ (by omega)]
  have hb:w64 (isub ((k+1:Nat):Int) 1)=(k:Int):=w64_back (by omega)
  dsimp only
  have hg:inb (k:Int) (len l)=true:=inb_t (by simp only [len]; omega)
  rw [hb,lgetn (show k<l.length by omega),grd_t hg,jn_e,grd_t hg]
  show cnd (sne l[k].1 []) (cnd (ilt (dep l[k+1]) 1) (some 8) (cnd (ilt (w64 (iadd (dep l[k]) 1)) (dep l[k+1])) (some 8) (cnd (ilt 15 (dep l[k+1])) (some 9) (some 0)))) (cnd (ilt (dep l[k+1]) 1) (some 8) (cnd (ilt (dep l[k]) (dep l[k+1])) (some 8) (cnd (ilt 15 (dep l[k+1])) (some 9) (some 0)))) =
   some (if dep l[k+1]<1 then (8:Int) else if (if l[k].1≠[] then dep l[k]+1 else dep l[k])<dep l[k+1] then 8 else if 15<dep l[k+1] then 9 else 0)
  have hw:w64 (iadd (dep l[k]) 1)=dep l[k]+1:=by
   simp only [iadd]
   rw [w64_id (by omega)]
  rw [hw]
  simp only [cnd_ilt]
  by_cases e:l[k].1=[]
  ·rw [cnd_f (by unfold sne; simpa using e)]
   simp only [e,ne_eq,not_true,if_false]
   repeat' split
   all_goals rfl
  ·rw [cnd_t (by unfold sne; simpa using e)]
   simp only [e,ne_eq,not_false_eq_true,if_true]
   repeat' split
   all_goals rfl
theorem text_eq {l:List Nd} (hl:l.length≤4000000) {i:Nat} (hi:i<l.length) (hs:smN l[i]):q60 fuelH (l,(i:Int))=some (txE (prv l i) l[i]):=by
 have fin:∀ b:Bool,(cnd b (some (8:Int)) (cnd (seq l[i].2.1 []) (some (4:Int)) (cnd (ilt 0 (len l[i].2.2.1)) (some (4:Int)) (bnd (q13 fuelH l[i].2.1) fun v1=>cnd (bnot v1) (some (10:Int)) (some (0:Int)))))) =
   some (if b=true then 8 else if l[i].2.1=[] then 4 else if 0<l[i].2.2.1.length then 4 else if vld l[i].2.1=false then 10 else 0):=fun b=>by
  cases b with
  | true=>rfl
  | false =>
   rw [cnd_f (by rfl),if_neg (by decide)]
   by_cases h1:l[i].2.1=[]
   ·rw [cnd_t (by rw [seq_t]; exact h1),if_pos h1]
   rw [cnd_f (by rw [seq_dec]; simpa using h1),if_neg h1]
   by_cases h2:0<l[i].2.2.1.length
   ·rw [cnd_t (ilt_t (by simp only [len]; omega)),if_pos h2]
   rw [cnd_f (ilt_f (by simp only [len]; omega)),if_neg h2,ch_valid _ (by have:=hs.tx; omega),bnd_some']
   cases vld l[i].2.1<;>rfl
 unfold q60
 dsimp only
 rw [grd_t (inb_t (by simp only [len]; omega)),jn_e]
 simp only [lgetn hi]
 by_cases h0:i=0
 ·subst h0
  rw [cnd_t (by rfl)]
  refine Eq.trans (fin true) ?_
  rfl
 ·obtain ⟨k,rfl⟩:∃ k,i=k+1:=⟨i - 1,by omega⟩
  have hb:w64 (isub ((k+1:Nat):Int) 1)=(k:Int):=w64_back (by omega)
  have hg:inb (k:Int) (len l)=true:=inb_t (by simp only [len]; omega)
  rw [cnd_f (ieq_f (by omega)),prv_succ (by omega),hb,grd_t hg,grd_t hg,lgetn (show k<l.length by omega)]
  unfold txE
  by_cases e:l[k].1=[]
  ·rw [cnd_t (by rw [seq_t]; exact e)]
   refine Eq.trans (fin _) ?_
   have hc:ieq l[k].2.2.2 l[k+1].2.2.2=txP (some l[k]) l[k+1]:=by
    unfold txP
    rw [Bool.eq_iff_iff,ieq_tt,decide_eq_true_eq]
    exact ⟨fun h=>⟨e,h⟩,fun h=>h.2⟩
   rw [hc]
  ·rw [cnd_f (by rw [seq_dec]; simpa using e)]
   refine Eq.trans (fin _) ?_
   have hc:txP (some l[k]) l[k+1]=false:=by
    unfold txP
    exact decide_eq_false fun h=>e h.1
   rw [hc]
theorem depE_ok {p:Option Nd} {n:Nd} (h:depE p n=0):0≤dep n∧dep n≤15:=by
 unfold depE at h
 cases p with
 | none =>
  simp only at h
  split at h
  ·cases h
  ·rename_i k; simp at k; omega
 | some q =>
  simp only at h
  repeat' split at h
  all_goals (first | (cases h; done) | omega)
theorem ndE_dep {p:Option Nd} {n:Nd} (h:ndE p n=0):depE p n=0:=by
 unfold ndE at h
 by_cases e:depE p n=0
 ·exact e
 ·rw [if_pos e] at h
  exact h
theorem check_eq {l:List Nd} (hl:l.length≤4000000) (hs:∀ n∈l,smN n):q61 fuelH l=some (chkE l):=by
 unfold q61 chkE
 by_cases h0:l.length=0
 ·rw [cnd_t (ieq_t (by simp only [len]; omega)),if_pos h0]
 rw [cnd_f (ieq_f (by simp only [len]; omega)),if_neg h0]
 by_cases h1:8192<l.length
 ·rw [cnd_t (ilt_t (by simp only [len]; omega)),if_pos h1]
 rw [cnd_f (ilt_f (by simp only [len]; omega)),if_neg h1,jn_e]
 have h:=drop_loop (s:=l) (fun (_:Unit) (j:Nat)=>(j:Int)) (fun _ r=>some (ckE (prv l (l.length - r.length)) r)) (fun j _=>∀ q,prv l j=some q→0≤dep q∧dep q≤15)
  (F:=fun v2 (v3:Int) =>
    cnd (ilt v3 (len l))
     (grd (inb v3 (len l))
      (bnd (q56 fuelH (l,v3)) fun v4 =>
      cnd (ine v4 (0:Int))
       (some v4)
       (cnd (sne (lget l (toN v3) ([],([],([],(0:Int))))).1 ([]:List UInt8))
        (bnd (q59 fuelH (lget l (toN v3) ([],([],([],(0:Int)))))) fun v5 =>
        cnd (ine v5 (0:Int))
         (some v5)
         (v2 (w64 (iadd v3 (1:Int)))))
        (bnd (q60 fuelH (l,v3)) fun v6 =>
        cnd (ine v6 (0:Int))
         (some v6)
         (v2 (w64 (iadd v3 (1:Int))))))))
     (some (0:Int))) ?_ fuelH 0 () (fuelH_len hl _) (Nat.zero_le _) (fun q hq=>by simp [prv] at hq)
 ·refine Eq.trans h ?_
  rw [List.drop_zero,Nat.sub_self]
  rfl
 ·intro self a j hj hI hself
  by_cases hjl:j<l.length
  ·have hw:w64 (iadd (j:Int) 1)=((j+1:Nat):Int):=w64_succ hjl (by omega)
   have hrl:l.length - (l.drop j).length=j:=by rw [List.length_drop]; omega
   have hrl2:l.length - (l.drop (j+1)).length=j+1:=by rw [List.length_drop]; omega
   have hsm:=hs _ (List.getElem_mem hjl)
   have hgo:depE (prv l j) l[j]=0→self ((j+1:Nat):Int)=some (ckE (some l[j]) (l.drop (j+1))):=fun hd=>by
    refine Eq.trans (hself () (j+1) (by omega) (by omega) (fun q hq=>?_)) ?_
    ·rw [prv_succ hjl] at hq
     injection hq with hq
     rw [← hq]
     exact depE_ok hd
    ·rw [hrl2,prv_succ hjl]
   rw [hrl,List.drop_eq_getElem_cons hjl]
   show cnd (ilt (j:Int) (len l)) _ _=some (if ndE (prv l j) l[j]≠0 then ndE (prv l j) l[j] else ckE (some l[j]) (l.drop (j+1)))
   rw [cnd_t (ilt_t (by simp only [len]; omega)),grd_t (inb_t (by simp only [len]; omega)),depth_eq hl hjl hI,bnd_some',lgetn hjl,elem_eq hsm,text_eq hl hjl hsm,bnd_some',bnd_some',hw]
   unfold ndE
   by_cases e1:depE (prv l j) l[j]=0
   ·rw [cnd_f (ine_f e1),if_neg (show ¬ depE (prv l j) l[j]≠0 from fun k=>k e1)]
    by_cases e2:l[j].1=[]
    ·rw [cnd_f (by unfold sne; simpa using e2),if_neg (show ¬ l[j].1≠[] from fun k=>k e2)]
     by_cases e3:txE (prv l j) l[j]=0
     ·rw [cnd_f (ine_f e3),if_neg (fun k=>k e3)]
      exact hgo e1
     ·rw [cnd_t (ine_t e3),if_pos e3]
    ·rw [cnd_t (by unfold sne; simpa using e2),if_pos e2]
     by_cases e3:elE l[j]=0
     ·rw [cnd_f (ine_f e3),if_neg (fun k=>k e3)]
      exact hgo e1
     ·rw [cnd_t (ine_t e3),if_pos e3]
   ·rw [cnd_t (ine_t e1),if_pos e1,if_pos e1]
  ·obtain rfl:j=l.length:=by omega
   show cnd (ilt (l.length:Int) (len l)) _ _=_
   rw [cnd_f (ilt_f (by simp only [len]; omega)),List.drop_length]
   rfl
end
end Go.Mo
end

section
/-
  Plain facts: each node but the root is the child of one element; XmlCovers returns true.
-/
set_option linter.all false
namespace Go.Mo
open Go Go.W Go.Lib
set_option maxRecDepth 100000
noncomputable section
open Classical
theorem ck_at:∀ (r:List Nd) (p:Option Nd),ckE p r=0→∀ j (h:j<r.length),ndE (if j=0 then p else r[j - 1]?) r[j]=0
 | [],_,_,j,h=>by simp at h
 | n::r,p,hc,j,h=>by
  have hc':(if ndE p n≠0 then ndE p n else ckE (some n) r)=0:=hc
  by_cases e:ndE p n=0
  ·rw [if_neg (fun k=>k e)] at hc'
   cases j with
   | zero=>exact e
   | succ j =>
    have:=ck_at r (some n) hc' j (by simpa using h)
    rw [if_neg (by omega)]
    cases j with
    | zero=>simpa using this
    | succ j=>simpa using this
  ·rw [if_pos e] at hc'
   exact absurd hc' e
theorem chk_at {l:List Nd} (h:chkE l=0):0<l.length∧l.length≤8192∧∀ j (h:j<l.length),ndE (prv l j) l[j]=0:=by
 unfold chkE at h
 by_cases h0:l.length=0
 ·rw [if_pos h0] at h; cases h
 rw [if_neg h0] at h
 by_cases h1:8192<l.length
 ·rw [if_pos h1] at h; cases h
 rw [if_neg h1] at h
 exact ⟨by omega,by omega,fun j hj=>ck_at l none h j hj⟩
structure Deep (l:List Nd):Prop where
 root:∀ h:0<l.length,dep l[0]=0
 low:∀ i (h:i+1<l.length),1≤dep l[i+1]∧dep l[i+1]≤dep l[i]+1∧(dep l[i]<dep l[i+1]→l[i].1≠[])
 high:∀ i (h:i<l.length),0≤dep l[i]∧dep l[i]≤15
theorem deep_of {l:List Nd} (h:∀ j (h:j<l.length),ndE (prv l j) l[j]=0):Deep l:=by
 refine ⟨fun h0=>?_,fun i hi=>?_,fun i hi=>depE_ok (ndE_dep (h i hi))⟩
 ·have:=ndE_dep (h 0 h0)
  have:(if dep l[0]≠0 then (8:Int) else 0)=0:=this
  by_cases e:dep l[0]=0
  ·exact e
  ·rw [if_pos e] at this; cases this
 ·have:=ndE_dep (h (i+1) hi)
  rw [prv_succ (by omega)] at this
  have:(if dep l[i+1]<1 then (8:Int) else if (if l[i].1≠[] then dep l[i]+1 else dep l[i])<dep l[i+1] then 8 else if 15<dep l[i+1] then 9 else 0)=0:=this
  by_cases e1:dep l[i+1]<1
  ·rw [if_pos e1] at this; cases this
  rw [if_neg e1] at this
  by_cases e2:(if l[i].1≠[] then dep l[i]+1 else dep l[i])<dep l[i+1]
  ·rw [if_pos e2] at this; cases this
  by_cases e3:l[i].1=[]
  ·rw [if_neg (fun k=>k e3)] at e2
   exact ⟨by omega,by omega,fun k=>by omega⟩
  ·rw [if_pos e3] at e2
   exact ⟨by omega,by omega,fun _=>e3⟩
def par (l:List Nd) (i j:Nat):Prop:=i<j∧j<l.length∧(∀ m,i<m→m≤j→dep (l.getD i ndz)<dep (l.getD m ndz))∧dep (l.getD j ndz)=dep (l.getD i ndz)+1
theorem gD {l:List Nd} {i:Nat} (h:i<l.length):l.getD i ndz=l[i]:=by simp [List.getD,h]
end
end Go.Mo
end

section
/-
  Plain facts: tokens of a source.
-/
set_option linter.all false
namespace Go.Mo
open Go Go.W Go.Lib
set_option maxRecDepth 100000
noncomputable section
abbrev Ls:=List UInt8
abbrev Aq:=List UInt8×List UInt8
abbrev Tok:=Int×List UInt8×List Aq×List UInt8
end
end Go.Mo
end

section
/-
  Plain facts: the token at the beginning of a source.
-/
set_option linter.all false
namespace Go.Mo
open Go Go.W Go.Lib
set_option maxRecDepth 100000
noncomputable section
end
end Go.Mo
end

section
/-
  Plain facts: the parser takes a token.
-/
set_option linter.all false
namespace Go.Mo
open Go Go.W Go.Lib
set_option maxRecDepth 100000
noncomputable section
abbrev Ps:=List Nd×List Ls×Bool
end
end Go.Mo
end

section
/-
  Plain facts: start tags, tokens taken, the tree of a source.
-/
set_option linter.all false
namespace Go.Mo
open Go Go.W Go.Lib
set_option maxRecDepth 100000
noncomputable section
theorem dup_loop {R:Type} {l:List At} (hl:l.length≤400000) (name:Ls) (bad:Option R) (K:Option R) :
  fixN (fun v12 (v13:Int) =>
       cnd (ilt v13 (len l))
        (grd (inb v13 (len l))
         (cnd (seq (lget l (toN v13) ([],[])).1 name)
          bad
          (v12 (w64 (iadd v13 (1:Int))))))
        K) fuelH (0:Int)=if name∈l.map Prod.fst then bad else K:=by
 have h:=drop_loop (s:=l) (fun (_:Unit) (j:Nat)=>(j:Int)) (fun _ r=>if name∈r.map Prod.fst then bad else K) (fun _ _=>True)
  (F:=fun v12 (v13:Int) =>
       cnd (ilt v13 (len l))
        (grd (inb v13 (len l))
         (cnd (seq (lget l (toN v13) ([],[])).1 name)
          bad
          (v12 (w64 (iadd v13 (1:Int))))))
        K) ?_ fuelH 0 () (fuelH_len (by omega) _) (Nat.zero_le _) trivial
 ·exact h
 ·intro self a j hj _ hself
  by_cases hjl:j<l.length
  ·have hw:w64 (iadd (j:Int) 1)=((j+1:Nat):Int):=w64_succ hjl (by omega)
   rw [cnd_t (ilt_t (by simp only [len]; omega)),grd_t (inb_t (by simp only [len]; omega)),lget_i hjl,hw,List.drop_eq_getElem_cons hjl,List.map_cons]
   by_cases e:(l[j]).1=name
   ·rw [cnd_t (by rw [seq_t]; exact e),if_pos (by rw [e]; exact List.mem_cons_self)]
   ·rw [cnd_f (by rw [seq_dec]; simpa using e)]
    refine Eq.trans (hself () (j+1) (by omega) (by omega) trivial) ?_
    have:(name∈(l[j]).1::(l.drop (j+1)).map Prod.fst)↔(name∈(l.drop (j+1)).map Prod.fst):=by
     rw [List.mem_cons]
     exact ⟨fun k=>k.resolve_left (fun q=>e q.symm),.inr⟩
    simp only [this]
  ·obtain rfl:j=l.length:=by omega
   rw [cnd_f (ilt_f (by simp only [len]; omega)),List.drop_length]
   rfl
end
end Go.Mo
end

section
/-
  Plain facts: the tree of a source.
-/
set_option linter.all false
namespace Go.Mo
open Go Go.W Go.Lib
set_option maxRecDepth 100000
noncomputable section
structure TokOk (n:Nat) (t:Tok):Prop where
 tx:t.2.2.2.length≤n
 al:t.2.2.1.length≤n
 av:∀ a∈t.2.2.1,a.2.length≤n
structure PsOk (i:Nat) (p:Ps):Prop where
 jn:p.2.2=true→p.1≠[]
 nl:p.1.length≤i
 sl:p.2.1.length≤i
 tx:∀ n∈p.1,n.2.1.length≤4 * i
end
end Go.Mo
end

section
/-
  Plain facts: printed pieces are read back.
-/
set_option linter.all false
namespace Go.Mo
open Go Go.W Go.Lib
set_option maxRecDepth 100000
noncomputable section
structure AtOk (l:List At):Prop where
 nm:∀ a∈l,nmX a.1=true
 vl:∀ a∈l,vld a.2=true
 nd:(l.map Prod.fst).Nodup
 few:l.length≤16
end
end Go.Mo
end

section
/-
  Plain facts: the text of nodes.
-/
set_option linter.all false
namespace Go.Mo
open Go Go.W Go.Lib
set_option maxRecDepth 100000
noncomputable section
theorem ndE_el {p:Option Nd} {n:Nd} (h:ndE p n=0) (hn:n.1≠[]):elE n=0:=by
 have hd:=ndE_dep h
 unfold ndE at h
 rw [if_neg (by rw [hd]; simp),if_pos hn] at h
 exact h
theorem ndE_tx {p:Option Nd} {n:Nd} (h:ndE p n=0) (hn:n.1=[]):txE p n=0:=by
 have hd:=ndE_dep h
 unfold ndE at h
 rw [if_neg (by rw [hd]; simp),if_neg (by rw [hn]; simp)] at h
 exact h
end
end Go.Mo
end

section
/-
  Plain facts: the text of a tree is read as the tree.
-/
set_option linter.all false
namespace Go.Mo
open Go Go.W Go.Lib
set_option maxRecDepth 100000
noncomputable section
structure BK (p:Ps) (prev:Option Nd) (r:List Nd):Prop where
 ck:ckE prev r=0
 nm:∀ x∈p.2.1,nmX x=true
 lo:∀ m r',r=m::r'→dep m≤(p.2.1.length:Int)
 jn:p.2.2=true→∃ q,prev=some q∧q.1=[]∧dep q=(p.2.1.length:Int)∧1≤dep q
 no:prev=none→p.1=[]∧p.2.1=[]
 ro:p.1.length+r.length≤8192
end
end Go.Mo
end

section
/-
  Plain facts: the check and the text of nodes, the other side; XmlChecks returns true.
-/
set_option linter.all false
namespace Go.Mo
open Go Go.W Go.Lib
set_option maxRecDepth 100000
noncomputable section
theorem dup_loop2 {R:Type} {l:List At} (hl:l.length≤400000) (name:Ls) (bad:Option R) (K:Option R) :
  fixN (fun v12 (v13:Int) =>
       cnd (ilt v13 (len l))
        (grd (inb v13 (len l))
         (cnd (seq name (lget l (toN v13) ([],[])).1)
          bad
          (v12 (w64 (iadd v13 (1:Int))))))
        K) fuelH (0:Int)=if name∈l.map Prod.fst then bad else K:=by
 have hs:∀ a b:Ls,seq a b=seq b a:=fun a b=>by
  rw [seq_dec,seq_dec]
  exact decide_eq_decide.2 ⟨fun h=>h.symm,fun h=>h.symm⟩
 simp only [hs name]
 exact dup_loop hl name bad K
theorem relem_eq {n:Nd} (hs:smN n):q97 fuelH n=some (elE n):=by
 unfold q97 elE
 rw [rname_eq (by have:=hs.nm; omega),bnd_some']
 by_cases h1:nmX n.1=true
 ·rw [h1,cnd_f (by rfl),if_neg (by decide)]
  by_cases h2:n.2.1=[]
  ·rw [cnd_f (by unfold sne; simpa using h2),if_neg (by simpa using h2)]
   by_cases h3:16<n.2.2.1.length
   ·rw [cnd_t (ilt_t (by simp only [len]; omega)),if_pos h3]
   rw [cnd_f (ilt_f (by simp only [len]; omega)),if_neg h3,jn_e]
   have han:=hs.an
   generalize n.2.2.1=l at *
   have h:=drop_loop (R:=Int) (s:=l) (fun (_:Unit) (j:Nat)=>(j:Int)) (fun _ r=>some (atE ((l.take (l.length - r.length)).map Prod.fst) r)) (fun _ _=>True)
    (F:=fun v3 (v4:Int) =>
     cnd (ilt v4 (len l))
      (jn (fun (v5:Unit) =>
       v3 (w64 (iadd v4 (1:Int))))
      fun v6 =>
      grd (inb v4 (len l)) <|
      bnd (r20_Name fuelH (lget l (toN v4) ([],[])).1) fun v7 =>
      cnd (bnot v7)
       (some (5:Int))
       (jn (fun (v8:Unit) =>
        bnd (q96 fuelH (lget l (toN v4) ([],[])).2) fun v9 =>
        cnd (bnot v9)
         (some (10:Int))
         (v6 ()))
       fun v10 =>
       grd (in2 v4 (len l)) <|
       fixN (fun v11 (v12:Int) =>
        cnd (ilt v12 (len (ltake (toN v4) l)))
         (grd (inb v12 (len (ltake (toN v4) l)))
          (cnd (seq (lget l (toN v4) ([],[])).1 (lget (ltake (toN v4) l) (toN v12) ([],[])).1)
           (some (7:Int))
           (v11 (w64 (iadd v12 (1:Int))))))
         (v10 ())) fuelH (0:Int)))
      (some (0:Int))) ?_ fuelH 0 () (fuelH_len (by omega) _) (Nat.zero_le _) trivial
   ·refine Eq.trans h ?_
    rw [List.drop_zero,Nat.sub_self]
    rfl
   ·intro self a j hj _ hself
    by_cases hjl:j<l.length
    ·have hw:w64 (iadd (j:Int) 1)=((j+1:Nat):Int):=w64_succ hjl (by omega)
     have hsa:=han l[j] (List.getElem_mem hjl)
     have htk:ltake (toN (j:Int)) l=l.take j:=by simp [ltake,toN]
     have hrl:l.length - (l.drop j).length=j:=by rw [List.length_drop]; omega
     have hrl2:l.length - (l.drop (j+1)).length=j+1:=by rw [List.length_drop]; omega
     have hat:atE ((l.take j).map Prod.fst) (l[j]::l.drop (j+1))=if nmX (l[j]).1=false then 5 else if (l[j]).1∈(l.take j).map Prod.fst then 7 else if vld (l[j]).2=false then 10 else atE ((l.take j).map Prod.fst++[(l[j]).1]) (l.drop (j+1)):=rfl
     rw [cnd_t (ilt_t (by simp only [len]; omega)),jn_e,grd_t (inb_t (by simp only [len]; omega)),lget_i hjl,rname_eq (by omega),bnd_some',htk,hrl,List.drop_eq_getElem_cons hjl,hat]
     by_cases e1:nmX (l[j]).1=true
     ·rw [e1,cnd_f (by rfl),jn_e,grd_t (in2_t (by simp only [len]; omega)),if_neg (by decide)]
      refine Eq.trans (dup_loop2 (by rw [List.length_take]; omega) _ _ _) ?_
      by_cases e2:(l[j]).1∈(l.take j).map Prod.fst
      ·rw [if_pos e2,if_pos e2]
      ·rw [if_neg e2,if_neg e2,r08_valid _ (by omega),bnd_some']
       by_cases e3:vld (l[j]).2=true
       ·rw [e3,cnd_f (by rfl),if_neg (by decide),hw]
        refine Eq.trans (hself () (j+1) (by omega) (by omega) trivial) ?_
        rw [hrl2,List.take_succ_eq_append_getElem hjl,List.map_append]
        rfl
       ·have e3:vld (l[j]).2=false:=by simpa using e3
        rw [e3,cnd_t (by rfl),if_pos rfl]
     ·have e1:nmX (l[j]).1=false:=by simpa using e1
      rw [e1,cnd_t (by rfl),if_pos rfl]
    ·obtain rfl:j=l.length:=by omega
     rw [cnd_f (ilt_f (by simp only [len]; omega)),List.drop_length]
     rfl
  ·rw [cnd_t (by unfold sne; simpa using h2),if_pos h2]
 ·have h1:nmX n.1=false:=by simpa using h1
  rw [h1,cnd_t (by rfl),if_pos rfl]
theorem rcheck_eq {l:List Nd} (hl:l.length≤4000000) (hs:∀ n∈l,smN n):q98 fuelH l=some (chkE l):=by
 unfold q98 chkE
 by_cases h0:l.length=0
 ·rw [cnd_t (ieq_t (by simp only [len]; omega)),if_pos h0]
 rw [cnd_f (ieq_f (by simp only [len]; omega)),if_neg h0]
 by_cases h1:8192<l.length
 ·rw [cnd_t (ilt_t (by simp only [len]; omega)),if_pos h1]
 rw [cnd_f (ilt_f (by simp only [len]; omega)),if_neg h1,jn_e]
 have hgoal:some (ckE none l)=some (ckE (prv l (l.length - l.length)) l):=by rw [Nat.sub_self]; rfl
 rw [hgoal]
 refine drop_loop (R:=Int) (s:=l) (fun (_:Unit) (j:Nat)=>(j:Int)) (fun _ r=>some (ckE (prv l (l.length - r.length)) r)) (fun j _=>∀ q,prv l j=some q→0≤dep q∧dep q≤15) ?_ fuelH 0 () (fuelH_len hl _) (Nat.zero_le _) (fun q hq=>by simp [prv] at hq)
 intro self a j hj hI hself
 by_cases hjl:j<l.length
 ·have hw:w64 (iadd (j:Int) 1)=((j+1:Nat):Int):=w64_succ hjl (by omega)
  have hrl:l.length - (l.drop j).length=j:=by rw [List.length_drop]; omega
  have hrl2:l.length - (l.drop (j+1)).length=j+1:=by rw [List.length_drop]; omega
  have hsm:=hs _ (List.getElem_mem hjl)
  have hgo:depE (prv l j) l[j]=0→self ((j+1:Nat):Int)=some (ckE (some l[j]) (l.drop (j+1))):=fun hd=>by
   refine Eq.trans (hself () (j+1) (by omega) (by omega) (fun q hq=>?_)) ?_
   ·rw [prv_succ hjl] at hq
    injection hq with hq
    rw [← hq]
    exact depE_ok hd
   ·rw [hrl2,prv_succ hjl]
  dsimp only
  rw [hrl,List.drop_eq_getElem_cons hjl,cnd_t (ilt_t (by simp only [len]; omega)),grd_t (inb_t (by simp only [len]; omega)),jn_e]
  simp only [lgetn hjl]
  have hck:ckE (prv l j) (l[j]::l.drop (j+1))=if ndE (prv l j) l[j]≠0 then ndE (prv l j) l[j] else ckE (some l[j]) (l.drop (j+1)):=rfl
  rw [hck,jn_e,hw]
  -- what stands behind the depth
  have hX:depE (prv l j) l[j]=0 →
    (cnd (ilt (15:Int) (l[j]).2.2.2) (some (9:Int)) (cnd (sne (l[j]).1 ([]:List UInt8)) (bnd (q97 fuelH l[j]) fun v6=>cnd (ine v6 (0:Int)) (some v6) (self ((j+1:Nat):Int)))
          (jn (fun (v7:Bool) =>
           cnd v7
            (some (8:Int))
            (cnd (seq (l[j]).2.1 ([]:List UInt8))
             (some (4:Int))
             (cnd (ilt (0:Int) (len (l[j]).2.2.1))
              (some (4:Int))
              (bnd (q96 fuelH (l[j]).2.1) fun v8 =>
              cnd (bnot v8)
               (some (10:Int))
               (self ((j+1:Nat):Int))))))
          fun v9 =>
          cnd (ieq (j:Int) (0:Int))
           (v9 true)
           (grd (inb (w64 (isub (j:Int) (1:Int))) (len l))
            (cnd (seq (lget l (toN (w64 (isub (j:Int) (1:Int)))) ([],([],([],(0:Int))))).1 ([]:List UInt8))
             (grd (inb (w64 (isub (j:Int) (1:Int))) (len l))
              (v9 (ieq (lget l (toN (w64 (isub (j:Int) (1:Int)))) ([],([],([],(0:Int))))).2.2.2 (l[j]).2.2.2)))
             (v9 false)))))) =
    some (if ndE (prv l j) l[j]≠0 then ndE (prv l j) l[j] else ckE (some l[j]) (l.drop (j+1))):=fun hd=>by
   have h15:¬ 15<(l[j]).2.2.2:=by have:0≤(l[j]).2.2.2∧(l[j]).2.2.2≤15:=depE_ok hd; omega
   rw [cnd_f (ilt_f h15)]
   unfold ndE
   rw [if_neg (show ¬ depE (prv l j) l[j]≠0 from fun k=>k hd)]
   by_cases e2:(l[j]).1=[]
   ·rw [cnd_f (by unfold sne; simpa using e2),if_neg (show ¬ (l[j]).1≠[] from fun k=>k e2),jn_e]
    have fin:∀ b:Bool,b=txP (prv l j) l[j]→(cnd b
            (some (8:Int))
            (cnd (seq (l[j]).2.1 ([]:List UInt8))
             (some (4:Int))
             (cnd (ilt (0:Int) (len (l[j]).2.2.1))
              (some (4:Int))
              (bnd (q96 fuelH (l[j]).2.1) fun v8 =>
              cnd (bnot v8)
               (some (10:Int))
               (self ((j+1:Nat):Int))))))=some (if txE (prv l j) l[j]≠0 then txE (prv l j) l[j] else ckE (some l[j]) (l.drop (j+1))):=fun b hb=>by
     unfold txE
     rw [← hb]
     cases b with
     | true=>rfl
     | false =>
      rw [cnd_f (by rfl),if_neg (show ¬ (false=true) by decide)]
      by_cases e3:(l[j]).2.1=[]
      ·rw [cnd_t (by rw [seq_t]; exact e3),if_pos e3]
       rfl
      rw [cnd_f (by rw [seq_dec]; simpa using e3),if_neg e3]
      by_cases e4:0<(l[j]).2.2.1.length
      ·rw [cnd_t (ilt_t (by simp only [len]; omega)),if_pos e4]
       rfl
      rw [cnd_f (ilt_f (by simp only [len]; omega)),if_neg e4,r08_valid _ (by have:=hsm.tx; omega),bnd_some']
      cases hv:vld (l[j]).2.1 with
      | true =>
       rw [cnd_f (by rfl),if_neg (show ¬ (true=false) by decide),if_neg (by simp)]
       exact hgo hd
      | false=>rfl
    by_cases h00:j=0
    ·subst h00
     rw [cnd_t (by rfl)]
     exact fin true rfl
    ·obtain ⟨k,rfl⟩:∃ k,j=k+1:=⟨j - 1,by omega⟩
     have hb:w64 (isub ((k+1:Nat):Int) 1)=(k:Int):=w64_back (by omega)
     have hg:inb (k:Int) (len l)=true:=inb_t (by simp only [len]; omega)
     rw [cnd_f (ieq_f (by omega)),hb,grd_t hg,grd_t hg,lgetn (show k<l.length by omega)]
     have hpv:=prv_succ (l:=l) (i:=k) (by omega)
     by_cases e:l[k].1=[]
     ·rw [cnd_t (by rw [seq_t]; exact e)]
      refine fin _ ?_
      rw [hpv]
      unfold txP
      rw [Bool.eq_iff_iff,ieq_tt,decide_eq_true_eq]
      exact ⟨fun h=>⟨e,h⟩,fun h=>h.2⟩
     ·rw [cnd_f (by rw [seq_dec]; simpa using e)]
      refine fin false ?_
      rw [hpv]
      exact (decide_eq_false fun h=>e h.1).symm
   ·rw [cnd_t (by unfold sne; simpa using e2),if_pos e2,relem_eq hsm,bnd_some']
    by_cases e3:elE l[j]=0
    ·rw [cnd_f (ine_f e3),if_neg (fun k=>k e3)]
     exact hgo hd
    ·rw [cnd_t (ine_t e3),if_pos e3]
  have bad:∀ e:Int,depE (prv l j) l[j]=e→e≠0→some e=some (if ndE (prv l j) l[j]≠0 then ndE (prv l j) l[j] else ckE (some l[j]) (l.drop (j+1))):=fun e he h0=>by
   have:ndE (prv l j) l[j]=e:=by
    unfold ndE
    rw [if_pos (by rw [he]; exact h0),he]
   rw [this,if_pos h0]
  by_cases h00:j=0
  ·subst h00
   have hdE:depE (prv l 0) l[0]=if dep l[0]≠0 then 8 else 0:=rfl
   rw [cnd_t (by rfl)]
   by_cases e:(l[0]).2.2.2=0
   ·rw [cnd_f (ine_f e),cnd_f (by rfl),cnd_f (by rfl)]
    exact hX (by rw [hdE]; exact if_neg (fun k=>k e))
   ·rw [cnd_t (ine_t e)]
    exact bad 8 (by rw [hdE]; exact if_pos e) (by decide)
  ·obtain ⟨k,rfl⟩:∃ k,j=k+1:=⟨j - 1,by omega⟩
   have hb:w64 (isub ((k+1:Nat):Int) 1)=(k:Int):=w64_back (by omega)
   have hg:inb (k:Int) (len l)=true:=inb_t (by simp only [len]; omega)
   have hpv:=prv_succ (l:=l) (i:=k) (by omega)
   have hq:=hI _ hpv
   have hdE:depE (prv l (k+1)) l[k+1]=if dep l[k+1]<1 then 8 else if (if l[k].1≠[] then dep l[k]+1 else dep l[k])<dep l[k+1] then 8 else if 15<dep l[k+1] then 9 else 0:=by rw [hpv]; rfl
   have hw2:w64 (iadd (l[k]).2.2.2 1)=(l[k]).2.2.2+1:=by
    have:0≤(l[k]).2.2.2∧(l[k]).2.2.2≤15:=hq
    simp only [iadd]
    rw [w64_id (by omega)]
   rw [cnd_f (ieq_f (by omega)),cnd_t (ilt_t (by omega))]
   by_cases e1:(l[k+1]).2.2.2<1
   ·rw [cnd_t (ilt_t e1)]
    exact bad 8 (by rw [hdE]; exact if_pos e1) (by decide)
   have e1':¬ dep l[k+1]<1:=e1
   rw [if_neg e1'] at hdE
   rw [cnd_f (ilt_f e1),cnd_t (ilt_t (by omega)),hb,grd_t hg,grd_t hg,lgetn (show k<l.length by omega),hw2]
   -- behind 'most'
   rw [hb,lgetn (show k<l.length by omega)] at hX
   by_cases e3:l[k].1=[]
   ·rw [cnd_f (by unfold sne; simpa using e3)]
    rw [if_neg (show ¬ l[k].1≠[] from fun z=>z e3)] at hdE
    by_cases e2:(l[k]).2.2.2<(l[k+1]).2.2.2
    ·rw [cnd_t (ilt_t e2)]
     exact bad 8 (by rw [hdE]; exact if_pos e2) (by decide)
    ·rw [cnd_f (ilt_f e2)]
     rw [if_neg (show ¬ dep l[k]<dep l[k+1] from e2)] at hdE
     by_cases e15:15<(l[k+1]).2.2.2
     ·exact Eq.trans (cnd_t (ilt_t e15)) (bad 9 (by rw [hdE]; exact if_pos e15) (by decide))
     ·exact hX (by rw [hdE]; exact if_neg e15)
   ·rw [cnd_t (by unfold sne; simpa using e3)]
    rw [if_pos (show l[k].1≠[] from e3)] at hdE
    by_cases e2:(l[k]).2.2.2+1<(l[k+1]).2.2.2
    ·rw [cnd_t (ilt_t e2)]
     exact bad 8 (by rw [hdE]; exact if_pos e2) (by decide)
    ·rw [cnd_f (ilt_f e2)]
     rw [if_neg (show ¬ dep l[k]+1<dep l[k+1] from e2)] at hdE
     by_cases e15:15<(l[k+1]).2.2.2
     ·exact Eq.trans (cnd_t (ilt_t e15)) (bad 9 (by rw [hdE]; exact if_pos e15) (by decide))
     ·exact hX (by rw [hdE]; exact if_neg e15)
 ·obtain rfl:j=l.length:=by omega
  rw [cnd_f (ilt_f (by simp only [len]; omega)),List.drop_length]
  rfl
end
end Go.Mo
end

section
/-
  Plain facts: the text of a node, the other side; XmlChecks returns true.
-/
set_option linter.all false
namespace Go.Mo
open Go Go.W Go.Lib
set_option maxRecDepth 100000
noncomputable section
end
end Go.Mo
end

section
/-
  Plain facts: the text of nodes, the other side, run; XmlChecks returns true.
-/
set_option linter.all false
namespace Go.Mo
open Go Go.W Go.Lib
set_option maxRecDepth 100000
noncomputable section
end
end Go.Mo
end

section
/-
  XmlReturns and XmlIgnores return true.
-/
set_option linter.all false
namespace Go.Mo
open Go Go.W Go.Lib
set_option maxRecDepth 100000
noncomputable section
end
end Go.Mo
end

section
/-
  Plain facts: TtmlNodes returns true.
-/
set_option linter.all false
namespace Go.Mo
open Go Go.W Go.Lib
set_option maxRecDepth 100000
noncomputable section
structure FewD (d:Doc):Prop where
 reg:d.2.2.2.2.2.1.length≤6
 ev:d.2.2.2.2.2.2.1.length≤5
 cm:d.2.2.2.2.2.2.2.length≤4
 wt:wtD d≤1048576
structure ThinD (d:Doc):Prop where
 reg:d.2.2.2.2.2.1.length≤1000000
 ev:d.2.2.2.2.2.2.1.length≤1000000
 tiny:∀ x∈d.2.2.2.2.2.2.1,tinyE x
 cm:d.2.2.2.2.2.2.2.length≤1000000
theorem thin_of {d:Doc} (h:docChk d=0) (hc:d.2.2.2.2.2.2.2.length≤1000000):ThinD d:=by
 have hd:=nodOk h
 refine ⟨by have:=hd.nreg; omega,by have:=hd.nev; omega,fun x hx=>?_,hc⟩
 obtain ⟨_,_,_,q4,q5⟩:=hd.ev x hx
 exact ⟨by omega,fun r hr=>by have:=(q5 r hr).1; omega⟩
theorem self_thin {d:Doc} (h:ThinD d) (hc:d.2.2.2.2.2.2.2=[]):q146 fuelH (d,d)=some true :=
 doc_self h.reg h.ev (fun x hx=>⟨by have:=(h.tiny x hx).1; omega,fun r hr=>by have:=(h.tiny x hx).2 r hr; omega⟩) hc
theorem awake21:l21_awake fuelH ()=some true:=by kernel_rfl
end
end Go.Mo
end

section
/-
  Plain facts: loops that seek; numbers read, both sides.
-/
set_option linter.all false
namespace Go.Mo
open Go Go.W Go.Lib
set_option maxRecDepth 100000
noncomputable section
def seekL {α R:Type} (p:α→Bool) (f:Nat→α→R) (K:R):Nat→List α→R
 | _,[]=>K
 | i,a::l=>if p a then f i a else seekL p f K (i+1) l
theorem seek_loop {V R α:Type} {F:(V→Option R)→V→Option R} {l:List α} (st:Nat→V) (p:α→Bool) (f:Nat→α→Option R) (K:Option R) {fuel:Nat} (hf:l.length<fuel)
  (hs:∀ self i (h:i<l.length),F self (st i)=if p l[i] then f i l[i] else self (st (i+1))) (he:∀ self,F self (st l.length)=K):fixN F fuel (st 0)=seekL p f K 0 l:=by
 have key:∀ (n i fu:Nat),l.length - i=n→l.length - i<fu→i≤l.length→fixN F fu (st i)=seekL p f K i (l.drop i):=by
  intro n
  induction n with
  | zero =>
   intro i fu h1 h2 h3
   obtain rfl:i=l.length:=by omega
   obtain ⟨fu,rfl⟩:∃ k,fu=k+1:=⟨fu - 1,by omega⟩
   rw [fixN_s,he,List.drop_length]
   rfl
  | succ n ih =>
   intro i fu h1 h2 h3
   have hi:i<l.length:=by omega
   obtain ⟨fu,rfl⟩:∃ k,fu=k+1:=⟨fu - 1,by omega⟩
   rw [fixN_s,hs _ _ hi,List.drop_eq_getElem_cons hi]
   unfold seekL
   rw [ih (i+1) fu (by omega) (by omega) (by omega)]
 have:=key _ 0 fuel rfl (by omega) (Nat.zero_le _)
 rw [this,List.drop_zero]
theorem seek_all {α R:Type} (p:α→Bool) (b K:R):∀ (i:Nat) (l:List α),seekL p (fun _ _=>b) K i l=if l.any p then b else K
 | _,[]=>rfl
 | i,a::l=>by
  unfold seekL
  rw [seek_all p b K (i+1) l]
  by_cases h:p a=true<;>simp [h]
def digC (c:UInt8):Bool:=decide (48≤n8 c∧n8 c≤57)
def dgS (a:Nat) (c:UInt8):Nat:=a * 10+(c.toNat - 48)
def decV (a:Nat) (l:List UInt8):Nat:=l.foldl dgS a
theorem decV_nil (a:Nat):decV a []=a:=by unfold decV; rw [List.foldl_nil]
theorem decV_cons (a:Nat) (c:UInt8) (r:List UInt8):decV a (c::r)=decV (a * 10+(c.toNat - 48)) r:=by unfold decV; rw [List.foldl_cons]; unfold dgS; rfl
theorem pow_step (a b n:Nat) (h:a * 10≤b):a * 10 ^ (n+1)≤b * 10 ^ n:=by
 have e:a * 10 ^ (n+1)=(a * 10) * 10 ^ n:=by rw [Nat.pow_succ,Nat.mul_comm (10 ^ n) 10,Nat.mul_assoc]
 rw [e]
 exact Nat.mul_le_mul_right _ h
theorem decV_ge (l:List UInt8):∀ a:Nat,a * 10 ^ l.length≤decV a l:=by
 induction l with
 | nil=>intro a; rw [decV_nil,List.length_nil,Nat.pow_zero,Nat.mul_one]; exact Nat.le_refl _
 | cons c l ih =>
  intro a
  have h:=ih (a * 10+(c.toNat - 48))
  have h2:=pow_step a (a * 10+(c.toNat - 48)) l.length (by omega)
  rw [List.length_cons,decV_cons]
  exact Nat.le_trans h2 h
theorem decV_lt (l:List UInt8):∀ a b:Nat,a<b→(∀ c∈l,digC c=true)→decV a l<b * 10 ^ l.length:=by
 induction l with
 | nil=>intro a b h _; rw [decV_nil,List.length_nil,Nat.pow_zero,Nat.mul_one]; exact h
 | cons c l ih =>
  intro a b h hd
  have hc:=of_decide_eq_true (hd c List.mem_cons_self)
  unfold n8 at hc
  have h1:=ih (a * 10+(c.toNat - 48)) (b * 10) (by omega) fun x hx=>hd x (List.mem_cons_of_mem _ hx)
  have e:b * 10 ^ (l.length+1)=(b * 10) * 10 ^ l.length:=by rw [Nat.pow_succ,Nat.mul_comm (10 ^ l.length) 10,Nat.mul_assoc]
  rw [List.length_cons,e,decV_cons]
  exact h1
def numR (neg:Bool) (r:List UInt8) (hi:Int):Int×Int :=
 if r=[] then (0,4) else if r.headD 0=48∧(1<r.length∨neg=true) then (0,4) else if r.any (fun c=>!digC c) then (0,4) else
 if neg=true then (0,2) else if hi<(decV 0 r:Int) then (0,2) else ((decV 0 r:Int),0)
def numQ (s:List UInt8) (hi:Int):Int×Int:=if s.head?=some 45 then numR true s.tail hi else numR false s hi
theorem uintM:∀ (l:List UInt8) (a:Nat),a≤2 ^ 64 - 1→(∀ c∈l,digC c=true)→parseUintM (2 ^ 64 - 1) a l=if 2 ^ 64 - 1<decV a l then .range else .ok (decV a l)
 | [],a,ha,_=>by
  unfold parseUintM
  rw [decV_nil,if_neg (by omega)]
 | c::l,a,ha,hd=>by
  have hc:=of_decide_eq_true (hd c List.mem_cons_self)
  have hl:=fun x hx=>hd x (List.mem_cons_of_mem _ hx)
  unfold n8 at hc
  have hge:=decV_ge l (a * 10+(c.toNat - 48))
  have hp:1≤10 ^ l.length:=Nat.one_le_pow _ _ (by omega)
  have hge2:a * 10+(c.toNat - 48)≤decV (a * 10+(c.toNat - 48)) l:=Nat.le_trans (by have:=Nat.mul_le_mul_left (a * 10+(c.toNat - 48)) hp; omega) hge
  unfold parseUintM
  rw [decV_cons,if_pos (by omega)]
  by_cases h1:1844674407370955162≤a
  ·rw [if_pos h1,if_pos (by omega)]
  rw [if_neg h1]
  by_cases h2:2 ^ 64 - 1<a * 10+(c.toNat - 48)
  ·rw [if_pos h2,if_pos (by omega)]
  rw [if_neg h2]
  exact uintM l _ (by omega) hl
theorem all_dig {l:List UInt8} (h:l.any (fun c=>!digC c)=false):∀ c∈l,digC c=true:=fun c hc=>by
 have:=List.any_eq_false.1 h c hc
 simpa using this
theorem head_dig {l:List UInt8} (h0:l≠[]) (h:∀ c∈l,digC c=true) (h48:l.headD 0≠48):10 ^ (l.length - 1)≤decV 0 l∧1≤decV 0 l:=by
 obtain ⟨c,r,rfl⟩:∃ c r,l=c::r:=by cases l with | nil=>exact absurd rfl h0 | cons c r=>exact ⟨c,r,rfl⟩
 have hc:=of_decide_eq_true (h c List.mem_cons_self)
 unfold n8 at hc
 have hne:c.toNat≠48:=fun k=>h48 (UInt8.toNat_inj.1 k)
 have:=decV_ge r (0 * 10+(c.toNat - 48))
 have hp:1≤10 ^ r.length:=Nat.one_le_pow _ _ (by omega)
 have h3:1 * 10 ^ r.length≤(0 * 10+(c.toNat - 48)) * 10 ^ r.length:=Nat.mul_le_mul_right _ (by omega)
 rw [decV_cons,List.length_cons,Nat.add_sub_cancel]
 omega
theorem pint_eq {neg:Bool} {r:List UInt8} (h0:r≠[]) (h:∀ c∈r,digC c=true) (h48:neg=true→r.headD 0≠48) {hi:Int} (hh:hi≤4611686018427387904) :
  (cnd (pint (if neg=true then 45::r else r)).2 (some ((0:Int),(2:Int))) (cnd (ilt (pint (if neg=true then 45::r else r)).1 0) (some (0,2)) (cnd (ilt hi (pint (if neg=true then 45::r else r)).1) (some (0,2)) (some ((pint (if neg=true then 45::r else r)).1,0)))))
  = some (if neg=true then (0,2) else if hi<(decV 0 r:Int) then (0,2) else ((decV 0 r:Int),0)):=by
 have hu:parseUintB 64 r=if 2 ^ 64 - 1<decV 0 r then .range else .ok (decV 0 r):=by
  unfold parseUintB
  rw [if_neg h0]
  exact uintM r 0 (by omega) h
 cases neg with
 | true =>
  have hp:pint (45::r)=match signedC (2 ^ 63) (parseUintB 64 r) with | NumEnd.ok v=>(v,false) | .range=>(Lib.intSat 64 (45::r),true) | _=>(0,true):=by
   unfold pint
   rw [parseIntB_minus]
   rfl
  have h1:=(head_dig h0 h (h48 rfl)).2
  simp only [if_true]
  rw [hp,hu]
  by_cases c1:2 ^ 64 - 1<decV 0 r
  ·rw [if_pos c1]; rfl
  ·rw [if_neg c1]
   simp only [signedC]
   by_cases c2:2 ^ 63<decV 0 r
   ·rw [if_pos c2]; rfl
   ·rw [if_neg c2]
    simp only
    rw [cnd_f rfl,cnd_t (ilt_t (by omega))]
 | false =>
  obtain ⟨c,t,rfl⟩:∃ c t,r=c::t:=by cases r with | nil=>exact absurd rfl h0 | cons c t=>exact ⟨c,t,rfl⟩
  have hc:=of_decide_eq_true (h c List.mem_cons_self)
  unfold n8 at hc
  have hp:pint (c::t)=match signlessC (2 ^ 63) (parseUintB 64 (c::t)) with | NumEnd.ok v=>(v,false) | .range=>(Lib.intSat 64 (c::t),true) | _=>(0,true):=by
   unfold pint
   rw [parseIntB_plain 64 c t (by omega) (by omega)]
   rfl
  simp only [Bool.false_eq_true,if_false]
  rw [hp,hu]
  by_cases c1:2 ^ 64 - 1<decV 0 (c::t)
  ·rw [if_pos c1,if_pos (by omega)]; rfl
  ·rw [if_neg c1]
   simp only [signlessC]
   by_cases c2:2 ^ 63≤decV 0 (c::t)
   ·rw [if_pos c2,if_pos (by omega)]; rfl
   ·rw [if_neg c2]
    simp only
    rw [cnd_f rfl,cnd_f (ilt_f (by omega))]
    by_cases c3:hi<(decV 0 (c::t):Int)
    ·rw [cnd_t (ilt_t c3),if_pos c3]
    ·rw [cnd_f (ilt_f c3),if_neg c3]
theorem cut_pre (N:Nat) (s:List UInt8) (b:UInt8):q78 N (s,[b])=some (if s.head?=some b then (s.tail,true) else (s,false)):=by
 unfold q78 q77 q76
 cases s with
 | nil=>rfl
 | cons c s =>
  have h1:in2 (len [b]) (len (c::s))=true:=in2_t (by simp only [len,List.length_cons,List.length_nil]; omega)
  rw [cnd_t (ile_t (by simp only [len,List.length_cons,List.length_nil]; omega)),grd_t h1]
  have e:ltake (toN (len [b])) (c::s)=[c]:=rfl
  rw [e,bnd_some']
  by_cases h:c=b
  ·subst h
   have:seq [c] [c]=true:=by rw [seq_t]
   rw [this,cnd_f (by rfl),grd_t h1,bnd_some',if_pos (by rfl)]
   rfl
  ·have:seq [c] [b]=false:=by rw [seq_dec]; simpa using h
   rw [this,cnd_t (by rfl),bnd_some',if_neg (by simpa using h)]
theorem num_prog {s:List UInt8} (hs:s.length≤4000000) {hi:Int} (hh:hi≤4611686018427387904):q79 fuelH (s,0,hi)=some (numQ s hi):=by
 have key:∀ (neg:Bool) (r:List UInt8),s=(if neg=true then 45::r else r)→r.length≤s.length→q78 fuelH (s,[45])=some (r,neg)→q79 fuelH (s,0,hi)=some (numR neg r hi):=by
  intro neg r hsr hrl hcut
  unfold q79 numR
  dsimp only
  rw [bnd_s hcut]
  dsimp only
  rw [jn_e]
  by_cases h0:r=[]
  ·subst h0
   rw [cnd_t (by rw [seq_t]),if_pos rfl]
  ·have hr0:1≤r.length:=by cases r with | nil=>exact absurd rfl h0 | cons _ _=>simp
   have hget:lget r (toN (0:Int)) 0=r.headD 0:=by cases r with | nil=>exact absurd rfl h0 | cons _ _=>rfl
   rw [cnd_f (by rw [seq_dec]; simpa using h0),if_neg h0,grd_t (inb_t (by simp only [len]; omega)),hget]
   have main:(¬ (r.headD 0=48∧(1<r.length∨neg=true)))→(jn (fun (v2:Unit)=>bnd (strconv_ParseInt fuelH (s,10,64)) fun v3=>cnd v3.2 (some ((0:Int),(2:Int))) (cnd (ilt v3.1 0) (some (0,2)) (cnd (ilt hi v3.1) (some (0,2)) (some (v3.1,0))))) fun v4 =>
     fixN (fun v5 (v6:Int) =>
      cnd (ilt v6 (len r))
       (grd (inb v6 (len r))
        (cnd (ilt (n8 (lget r (toN v6) (0:UInt8))) (n8 (48:UInt8)))
         (some (0,4))
         (grd (inb v6 (len r))
          (cnd (ilt (n8 (57:UInt8)) (n8 (lget r (toN v6) (0:UInt8))))
           (some (0,4))
           (v5 (w64 (iadd v6 1)))))))
       (v4 ())) fuelH 0)=some (if r.any (fun c=>!digC c) then (0,4) else if neg=true then (0,2) else if hi<(decV 0 r:Int) then (0,2) else ((decV 0 r:Int),0)):=by
    intro hz
    rw [jn_e]
    refine (seek_loop (l:=r) (fun i=>(i:Int)) (fun c=>!digC c) (fun _ _=>some (0,4)) (bnd (strconv_ParseInt fuelH (s,10,64)) fun v3=>cnd v3.2 (some ((0:Int),(2:Int))) (cnd (ilt v3.1 0) (some (0,2)) (cnd (ilt hi v3.1) (some (0,2)) (some (v3.1,0))))) (by have:=fuelH_eq; omega) (fun self i h=>?_) (fun self=>?_)).trans ?_
    ·have hin:inb (i:Int) (len r)=true:=inb_t (by simp only [len]; omega)
     dsimp only
     rw [cnd_t (ilt_t (by simp only [len]; omega)),grd_t hin,grd_t hin,lget_i h,w64_succ h (by omega)]
     have n48:n8 (48:UInt8)=48:=rfl
     have n57:n8 (57:UInt8)=57:=rfl
     rw [n48,n57]
     by_cases c1:n8 r[i]<48
     ·rw [cnd_t (ilt_t c1),if_pos (by simp only [digC,Bool.not_eq_true',decide_eq_false_iff_not]; omega)]
     ·rw [cnd_f (ilt_f c1)]
      by_cases c2:57<n8 r[i]
      ·rw [cnd_t (ilt_t c2),if_pos (by simp only [digC,Bool.not_eq_true',decide_eq_false_iff_not]; omega)]
      ·rw [cnd_f (ilt_f c2),if_neg (by simp only [digC,Bool.not_eq_true',decide_eq_false_iff_not]; omega)]
    ·dsimp only
     rw [cnd_f (ilt_f (by simp only [len]; omega))]
    ·rw [seek_all]
     by_cases ha:r.any (fun c=>!digC c)=true
     ·rw [if_pos ha,if_pos ha]
     ·rw [if_neg ha,if_neg ha]
      have hd:=all_dig (by simpa using ha)
      have hpi:strconv_ParseInt fuelH (s,10,64)=some (pint s):=by
       show grd (ieq (10:Int) 10) (grd (ieq (64:Int) 64) (grd (decide (s.length≤281474976710656)) (some (pint s))))=_
       rw [grd_t (ieq_t rfl),grd_t (ieq_t rfl),grd_t (decide_eq_true (by omega))]
      rw [bnd_s hpi,hsr]
      exact pint_eq h0 hd (fun hn k=>hz ⟨k,Or.inr hn⟩) hh
   by_cases hz:r.headD 0=48
   ·rw [cnd_t (ieq_t (by rw [hz]))]
    by_cases h1:1<r.length
    ·rw [cnd_t (ilt_t (by simp only [len]; omega)),if_pos ⟨hz,Or.inl h1⟩]
    ·rw [cnd_f (ilt_f (by simp only [len]; omega))]
     cases neg with
     | true=>rw [cnd_t rfl,if_pos ⟨hz,Or.inr rfl⟩]
     | false =>
      have hn:¬ (r.headD 0=48∧(1<r.length∨(false:Bool)=true)):=fun k=>k.2.elim h1 (fun k=>by cases k)
      rw [cnd_f rfl,if_neg hn]
      exact main hn
   ·have hn:¬ (r.headD 0=48∧(1<r.length∨neg=true)):=fun k=>hz k.1
    rw [cnd_f (ieq_f (fun k=>hz (n8_inj k))),if_neg hn]
    exact main hn
 have hc:=cut_pre fuelH s 45
 unfold numQ
 by_cases h:s.head?=some 45
 ·rw [if_pos h] at hc ⊢
  cases s with
  | nil=>cases h
  | cons c s =>
   have:c=45:=by simpa using h
   subst this
   exact key true s rfl (by simp) hc
 ·rw [if_neg h] at hc ⊢
  exact key false s rfl (Nat.le_refl _) hc
end
end Go.Mo
end

section
/-
  Plain facts: numbers read by the reference.
-/
set_option linter.all false
namespace Go.Mo
open Go Go.W Go.Lib
set_option maxRecDepth 100000
noncomputable section
theorem rdig_eq (N:Nat) (c:UInt8):q109 N c=some (digC c):=by
 unfold q109 digC
 have n48:n8 (48:UInt8)=48:=rfl
 have n57:n8 (57:UInt8)=57:=rfl
 rw [n48,n57]
 by_cases h1:48≤n8 c
 ·rw [cnd_t (ile_t h1)]
  by_cases h2:n8 c≤57
  ·rw [ile_t h2,decide_eq_true ⟨h1,h2⟩]
  ·rw [ile_f h2,decide_eq_false (fun k=>h2 k.2)]
 ·rw [cnd_f (ile_f h1),decide_eq_false (fun k=>h1 k.1)]
theorem take_val {l:List UInt8} {i:Nat} (h:i<l.length) (a:Nat):decV a (l.take (i+1))=decV a (l.take i) * 10+(l[i].toNat - 48):=by
 rw [List.take_succ_eq_append_getElem h]
 unfold decV
 rw [List.foldl_append,List.foldl_cons,List.foldl_nil]
 rfl
theorem digstep {c:UInt8} (h:digC c=true) {v:Nat} (hv:v * 10+9<18446744073709551616) :
  wr .u64 (iadd (wr .u64 (imul 10 (v:Int))) (wr .u64 (n8 (b8 (isub (n8 c) (n8 (48:UInt8)))))))=((v * 10+(c.toNat - 48):Nat):Int):=by
 have hc:=of_decide_eq_true h
 unfold n8 at hc
 have e:n8 (b8 (isub (n8 c) (n8 (48:UInt8))))=((c.toNat - 48:Nat):Int):=by
  have:=all_u8 (P:=fun c=>!digC c || decide (n8 (b8 (isub (n8 c) (n8 (48:UInt8))))=((c.toNat - 48:Nat):Int))) (by rfl) c
  rw [h] at this
  exact of_decide_eq_true (by simpa using this)
 rw [e,wrU (n:=c.toNat - 48) (by omega)]
 have e2:imul 10 (v:Int)=((v * 10:Nat):Int):=by simp only [imul]; omega
 rw [e2,wrU (by omega)]
 have e3:iadd ((v * 10:Nat):Int) ((c.toNat - 48:Nat):Int)=((v * 10+(c.toNat - 48):Nat):Int):=by simp only [iadd]; omega
 rw [e3,wrU (by omega)]
theorem num_ref {s:List UInt8} (hs:s.length≤4000000) {hi:Int} (hh:hi≤4611686018427387904):q110 fuelH (s,0,hi)=some (numQ s hi):=by
 have key:∀ (neg:Bool) (r:List UInt8),s=(if neg=true then 45::r else r)→(neg=false→s.head?≠some 45)→r.length≤s.length→q110 fuelH (s,0,hi)=some (numR neg r hi):=by
  intro neg r hsr hneg hrl
  unfold q110 numR
  dsimp only
  have n45:n8 (45:UInt8)=45:=rfl
  have n48:n8 (48:UInt8)=48:=rfl
  have start:∀ (k:Bool→Option (Int×Int)) ,jn k (fun k=>cnd (ilt 0 (len s)) (grd (inb 0 (len s)) (k (ieq (n8 (lget s (toN 0) (0:UInt8))) (n8 (45:UInt8))))) (k false))=k neg:=by
   intro k
   rw [jn_e]
   cases hs0:s with
   | nil =>
    cases neg with
    | true=>rw [hsr] at hs0; simp at hs0
    | false=>rfl
   | cons c t =>
    rw [cnd_t (ilt_t (by simp only [len,List.length_cons]; omega)),grd_t (inb_t (by simp only [len,List.length_cons]; omega))]
    have e:lget (c::t) (toN 0) (0:UInt8)=c:=rfl
    rw [e]
    cases neg with
    | true =>
     rw [hsr] at hs0
     simp only [if_true] at hs0
     injection hs0 with e1 e2
     subst e1
     rfl
    | false =>
     have:=hneg rfl
     rw [hs0] at this
     rw [ieq_f (fun k2=>this (by rw [n8_inj k2]; rfl))]
  rw [start]
  have cut:∀ (k:List UInt8→Option (Int×Int)),jn k (fun k=>cnd neg (grd (in2 1 (len s)) (k (ldrop (toN 1) s))) (k s))=k r:=by
   intro k
   rw [jn_e]
   cases neg with
   | true =>
    simp only [if_true] at hsr
    rw [hsr,cnd_t rfl,grd_t (in2_t (by simp only [len,List.length_cons]; omega))]
    rfl
   | false =>
    simp only [Bool.false_eq_true,if_false] at hsr
    rw [hsr,cnd_f rfl]
  rw [cut,jn_e]
  by_cases h0:r=[]
  ·subst h0
   rw [cnd_t (by rfl),if_pos rfl]
  ·have hr0:1≤r.length:=by cases r with | nil=>exact absurd rfl h0 | cons _ _=>simp
   have hget:lget r (toN (0:Int)) 0=r.headD 0:=by cases r with | nil=>exact absurd rfl h0 | cons _ _=>rfl
   rw [cnd_f (ieq_f (by simp only [len]; omega)),if_neg h0,grd_t (inb_t (by simp only [len]; omega)),hget]
   have hfu:=fuelH_eq
   let G2:Option (Int×Int):=some (if neg=true then (0,2) else if hi<(decV 0 r:Int) then (0,2) else ((decV 0 r:Int),0))
   have digs:∀ (K:Option (Int×Int)),fixN (fun v13 (v14:Int) =>
     cnd (ilt v14 (len r))
      (grd (inb v14 (len r))
       (bnd (q109 fuelH (lget r (toN v14) (0:UInt8))) fun v15 =>
       cnd (bnot v15)
        (some ((0:Int),(4:Int)))
        (v13 (w64 (iadd v14 1)))))
      K) fuelH 0=if r.any (fun c=>!digC c) then some (0,4) else K:=by
    intro K
    rw [← seek_all (fun c=>!digC c) (some ((0:Int),(4:Int))) K 0 r]
    refine seek_loop (l:=r) (fun i=>(i:Int)) (fun c=>!digC c) (fun _ _=>some (0,4)) K (by omega) (fun self i h=>?_) (fun self=>?_)
    ·have hin:inb (i:Int) (len r)=true:=inb_t (by simp only [len]; omega)
     try dsimp only
     rw [cnd_t (ilt_t (by simp only [len]; omega)),grd_t hin,lget_i h,rdig_eq,bnd_some',w64_succ h (by omega)]
     cases hd:digC r[i] with
     | true=>rw [cnd_f (by rfl),if_neg (by simp)]
     | false=>rw [cnd_t (by rfl),if_pos (by simp)]
    ·rw [cnd_f (ilt_f (by simp only [len]; omega))]
   have hneg1:¬ (r.headD 0=48∧(1<r.length∨neg=true))→(∀ c∈r,digC c=true)→neg=true→1≤decV 0 r:=fun hz hd hn=>(head_dig h0 hd (fun k=>hz ⟨k,Or.inr hn⟩)).2
   have last:(∀ c∈r,digC c=true)→¬ (r.headD 0=48∧(1<r.length∨neg=true))→¬ 19<r.length →
     fixN (fun v10 (v11:Int×Int) =>
       cnd (ilt v11.2 (len r))
        (grd (inb v11.2 (len r))
         (v10 (wr .u64 (iadd (wr .u64 (imul 10 v11.1)) (wr .u64 (n8 (b8 (isub (n8 (lget r (toN v11.2) (0:UInt8))) (n8 (48:UInt8))))))),w64 (iadd v11.2 1))))
        (jn (fun (v5:Unit) =>
        jn (fun (v6:Int) =>
         cnd (ilt v6 0)
          (some ((0:Int),(2:Int)))
          (cnd (ilt hi v6)
           (some (0,2))
           (some (v6,0))))
        fun v7 =>
        cnd neg
         (v7 (w64 (isub 0 (w64 v11.1))))
         (v7 (w64 v11.1)))
       fun v8 =>
       cnd (ilt 9223372036854775808 v11.1)
        (some (0,2))
        (cnd (bnot neg)
         (cnd (ieq v11.1 9223372036854775808)
          (some (0,2))
          (v8 ()))
         (v8 ())))) fuelH (0,0)=G2:=by
    intro hd hz h19
    refine loop_inv (n:=r.length) (fun (v:Nat) (i:Nat)=>((v:Int),(i:Int))) (fun i v=>v=decV 0 (r.take i)) _ (fun self v i hi2 hI=>?_) (fun self v hI=>?_) fuelH 0 0 (Nat.zero_le _) (by omega) (by rw [List.take_zero,decV_nil])
    ·have hlt:decV 0 (r.take i)<10 ^ 18:=by
      have:=decV_lt (r.take i) 0 1 (by omega) fun c hc=>hd c (List.mem_of_mem_take hc)
      rw [Nat.one_mul,List.length_take] at this
      exact Nat.lt_of_lt_of_le this (Nat.pow_le_pow_right (by omega) (by omega))
     refine ⟨v * 10+(r[i].toNat - 48),?_,by rw [hI,take_val hi2]⟩
     dsimp only
     rw [cnd_t (ilt_t (by simp only [len]; omega)),grd_t (inb_t (by simp only [len]; omega)),lget_i hi2,digstep (hd _ (List.getElem_mem hi2)) (by omega),w64_succ hi2 (by omega)]
    ·rw [List.take_length] at hI
     subst hI
     have hlt:decV 0 r<10 ^ 19:=by
      have:=decV_lt r 0 1 (by omega) hd
      rw [Nat.one_mul] at this
      exact Nat.lt_of_lt_of_le this (Nat.pow_le_pow_right (by omega) (by omega))
     dsimp only
     rw [cnd_f (ilt_f (by simp only [len]; omega)),jn_e]
     show _=some (if neg=true then (0,2) else if hi<(decV 0 r:Int) then (0,2) else ((decV 0 r:Int),0))
     generalize hv:decV 0 r=v at hlt
     by_cases c1:(9223372036854775808:Int)<(v:Int)
     ·rw [cnd_t (ilt_t c1)]
      cases neg with
      | true=>rfl
      | false=>rw [if_neg (by simp),if_pos (by omega)]
     rw [cnd_f (ilt_f c1)]
     cases hn:neg with
     | true =>
      have h1:=hneg1 hz hd hn
      rw [hv] at h1
      rw [cnd_f (by rfl)]
      dsimp only
      rw [jn_e,cnd_t rfl]
      dsimp only
      have e:w64 (isub 0 (w64 (v:Int)))<0:=by
       by_cases c2:v=9223372036854775808
       ·subst c2; decide
       ·rw [w64_id (x:=(v:Int)) (by omega)]
        simp only [isub]
        rw [w64_id (by omega)]
        omega
      rw [cnd_t (ilt_t e)]
      rfl
     | false =>
      rw [cnd_t (by rfl),if_neg (by simp)]
      by_cases c2:(v:Int)=9223372036854775808
      ·rw [cnd_t (ieq_t c2),if_pos (by omega)]
      ·rw [cnd_f (ieq_f c2)]
       dsimp only
       rw [jn_e,cnd_f rfl,w64_id (x:=(v:Int)) (by omega)]
       dsimp only
       rw [cnd_f (ilt_f (by omega))]
       by_cases c3:hi<(v:Int)
       ·rw [cnd_t (ilt_t c3),if_pos c3]
       ·rw [cnd_f (ilt_f c3),if_neg c3]
   have main:(¬ (r.headD 0=48∧(1<r.length∨neg=true)))→∀ X:Option (Int×Int),(((∀ c∈r,digC c=true)→X=cnd (ilt 19 (len r)) (some (0,2)) G2))→(if r.any (fun c=>!digC c) then some (0,4) else X)=some (if r.any (fun c=>!digC c) then (0,4) else if neg=true then (0,2) else if hi<(decV 0 r:Int) then (0,2) else ((decV 0 r:Int),0)):=by
    intro hz X hX
    by_cases ha:r.any (fun c=>!digC c)=true
    ·rw [if_pos ha,if_pos ha]
    ·rw [if_neg ha,if_neg ha]
     have hd:=all_dig (by simpa using ha)
     rw [hX hd]
     by_cases h19:19<r.length
     ·rw [cnd_t (ilt_t (by simp only [len]; omega))]
      cases hn:neg with
      | true=>rfl
      | false =>
       have h48:r.headD 0≠48:=fun k=>hz ⟨k,Or.inl (by omega)⟩
       have h1:=(head_dig h0 hd h48).1
       have h2:10 ^ 19≤10 ^ (r.length - 1):=Nat.pow_le_pow_right (by omega) (by omega)
       rw [if_neg (by simp),if_pos (by omega)]
     ·rw [cnd_f (ilt_f (by simp only [len]; omega))]
   by_cases hz:r.headD 0=48
   ·rw [cnd_t (ieq_t (by rw [hz]))]
    by_cases h1:1<r.length
    ·rw [cnd_t (ilt_t (by simp only [len]; omega)),if_pos ⟨hz,Or.inl h1⟩]
    ·rw [cnd_f (ilt_f (by simp only [len]; omega))]
     cases hn:neg with
     | true=>rw [cnd_t rfl,if_pos ⟨hz,Or.inr rfl⟩]
     | false =>
      have hn2:¬ (r.headD 0=48∧(1<r.length∨neg=true)):=fun k=>k.2.elim h1 (fun k=>by rw [hn] at k; cases k)
      rw [cnd_f rfl]
      rw [← hn,if_neg hn2,jn_e,digs]
      refine main hn2 _ fun hd=>?_
      dsimp only
      by_cases h19:19<r.length
      ·have e19:ilt 19 (len r)=true:=ilt_t (by simp only [len]; omega)
       rw [e19,cnd_t rfl,cnd_t rfl]
      ·have e19:ilt 19 (len r)=false:=ilt_f (by simp only [len]; omega)
       rw [e19,cnd_f rfl,cnd_f rfl,jn_e]
       exact last hd hn2 h19
   ·have hn2:¬ (r.headD 0=48∧(1<r.length∨neg=true)):=fun k=>hz k.1
    rw [cnd_f (ieq_f (fun k=>hz (n8_inj k))),if_neg hn2,jn_e,digs]
    refine main hn2 _ fun hd=>?_
    dsimp only
    by_cases h19:19<r.length
    ·have e19:ilt 19 (len r)=true:=ilt_t (by simp only [len]; omega)
     rw [e19,cnd_t rfl,cnd_t rfl]
    ·have e19:ilt 19 (len r)=false:=ilt_f (by simp only [len]; omega)
     rw [e19,cnd_f rfl,cnd_f rfl,jn_e]
     exact last hd hn2 h19
 unfold numQ
 by_cases h:s.head?=some 45
 ·rw [if_pos h]
  cases s with
  | nil=>cases h
  | cons c s =>
   have:c=45:=by simpa using h
   subst this
   exact key true s rfl (fun k=>by cases k) (by simp)
 ·rw [if_neg h]
  exact key false s rfl (fun _=>h) (Nat.le_refl _)
end
end Go.Mo
end

section
/-
  Plain facts: values of attributes, both sides.
-/
set_option linter.all false
namespace Go.Mo
open Go Go.W Go.Lib
set_option maxRecDepth 100000
noncomputable section
def atsL (n:Nd):List At:=n.2.2.1
def valT (n:Nd) (name:Ln):Ln:=(attrF name (atsL n)).1
def hasT (n:Nd) (name:Ln):Bool:=(attrF name (atsL n)).2
theorem seek_attr {R:Type} (name:Ln) (f:Ln→R) (K:R):∀ (i:Nat) (l:List At),seekL (fun a:At=>seq a.1 name) (fun _ a=>f a.2) K i l=if (attrF name l).2 then f (attrF name l).1 else K
 | _,[]=>rfl
 | i,a::l=>by
  unfold seekL attrF
  rw [seek_attr name f K (i+1) l]
  by_cases h:seq a.1 name=true
  ·rw [if_pos h]
   rw [seq_t] at h
   rw [if_pos h]
   rfl
  ·have h2:¬ a.1=name:=fun k=>h (by rw [seq_t]; exact k)
   rw [if_neg h,if_neg h2]
theorem attrF_none (name:Ln):∀ l:List At,(attrF name l).2=false→(attrF name l).1=[]
 | [],_=>rfl
 | a::l,h=>by
  unfold attrF at h ⊢
  by_cases e:a.1=name
  ·rw [if_pos e] at h; cases h
  ·rw [if_neg e] at h ⊢; exact attrF_none name l h
theorem valT_none {n:Nd} {name:Ln} (h:hasT n name=false):valT n name=[]:=attrF_none name _ h
theorem attrF_mem (name:Ln):∀ l:List At,(attrF name l).2=true→(name,(attrF name l).1)∈l
 | [],h=>by cases h
 | a::l,h=>by
  unfold attrF at h ⊢
  by_cases e:a.1=name
  ·rw [if_pos e] at h ⊢; subst e; exact List.mem_cons_self
  ·rw [if_neg e] at h ⊢; exact List.mem_cons_of_mem _ (attrF_mem name l h)
theorem attrF_has (name:Ln):∀ l:List At,(attrF name l).2=true↔name∈l.map Prod.fst
 | []=>by simp [attrF]
 | a::l=>by
  unfold attrF
  by_cases e:a.1=name
  ·rw [if_pos e]; simp [e]
  ·rw [if_neg e,List.map_cons,List.mem_cons,attrF_has name l]
   exact ⟨fun k=>Or.inr k,fun k=>k.resolve_left (fun q=>e q.symm)⟩
theorem valT_len {n:Nd} (hs:smN n) (name:Ln):(valT n name).length≤1090000:=by
 cases h:hasT n name with
 | false=>rw [valT_none h]; simp
 | true=>exact (hs.an _ (attrF_mem name _ h)).2
theorem vtext_eq {n:Nd} (hs:smN n) (e:Int) (name:Ln):q71 fuelH ((n,e),name)=some (valT n name,n,e):=by
 have hl:=hs.asz
 have hfu:=fuelH_eq
 unfold q71
 dsimp only
 rw [jn_e]
 refine (seek_loop (l:=n.2.2.1) (fun i=>(i:Int)) (fun a:At=>seq a.1 name) (fun _ a=>some (a.2,n,e)) (some ([],n,e)) (by omega) (fun self i h=>?_) (fun self=>?_)).trans ?_
 ·have hin:inb (i:Int) (len n.2.2.1)=true:=inb_t (by simp only [len]; omega)
  rw [cnd_t (ilt_t (by simp only [len]; omega)),grd_t hin,lget_i h,w64_succ h (by omega)]
  cases seq n.2.2.1[i].1 name<;>rfl
 ·rw [cnd_f (ilt_f (by simp only [len]; omega))]
 ·rw [seek_attr name (fun v=>some (v,n,e))]
  by_cases h:(attrF name n.2.2.1).2=true
  ·rw [if_pos h]; rfl
  ·rw [if_neg h]
   have:valT n name=[]:=valT_none (by simpa [hasT,atsL] using h)
   rw [this]
theorem rattr_eq {n:Nd} (hs:smN n) (name:Ln):r20_Attr fuelH ([n],0,name)=some (valT n name,hasT n name):=by
 have hl:=hs.asz
 have hfu:=fuelH_eq
 unfold r20_Attr
 dsimp only
 rw [cnd_f (by rfl),cnd_f (by rfl),jn_e,grd_t (by rfl)]
 have e0:lget [n] (toN (0:Int)) ([],([],([],(0:Int))))=n:=rfl
 rw [e0]
 refine (seek_loop (l:=n.2.2.1) (fun i=>(i:Int)) (fun a:At=>seq a.1 name) (fun _ a=>some (a.2,true)) (some ([],false)) (by omega) (fun self i h=>?_) (fun self=>?_)).trans ?_
 ·have hin:inb (i:Int) (len n.2.2.1)=true:=inb_t (by simp only [len]; omega)
  rw [cnd_t (ilt_t (by simp only [len]; omega)),grd_t hin,lget_i h,w64_succ h (by omega)]
  cases seq n.2.2.1[i].1 name<;>rfl
 ·rw [cnd_f (ilt_f (by simp only [len]; omega))]
 ·rw [seek_attr name (fun v=>some (v,true))]
  by_cases h:(attrF name n.2.2.1).2=true
  ·rw [if_pos h]
   have:hasT n name=true:=h
   rw [this]
   rfl
  ·rw [if_neg h]
   have h:hasT n name=false:=by simpa [hasT,atsL] using h
   rw [h,valT_none h]
theorem rtext_eq {n:Nd} (hs:smN n) (e:Int) (name:Ln):q102 fuelH ((n,e),name)=some (valT n name,n,e):=by
 unfold q102
 dsimp only
 rw [rattr_eq hs,bnd_some']
def fstE (a b:Int):Int:=if a=0 then b else a
theorem fail_eq (N:Nat) (n:Nd) (a b:Int):q74 N ((n,a),b)=some (n,fstE a b):=by
 unfold q74 fstE
 dsimp only
 by_cases h:a=0
 ·rw [cnd_t (ieq_t h),if_pos h]
 ·rw [cnd_f (ieq_f h),if_neg h]
theorem note_eq (N:Nat) (n:Nd) (a b:Int):q106 N ((n,a),b)=some (n,fstE a b):=fail_eq N n a b
def numT (n:Nd) (name:Ln) (hi:Int):Int×Int:=numQ (valT n name) hi
theorem vnum_eq {n:Nd} (hs:smN n) (e:Int) (name:Ln) {hi:Int} (hh:hi≤4611686018427387904):q81 fuelH ((n,e),name,hi)=some ((numT n name hi).1,n,fstE e (numT n name hi).2):=by
 have:=valT_len hs name
 unfold q81 q80
 dsimp only
 rw [vtext_eq hs,bnd_some']
 dsimp only
 rw [num_prog (by omega) hh,bnd_some']
 try dsimp only
 rw [fail_eq]
 rfl
theorem tnum_eq {n:Nd} (hs:smN n) (e:Int) (name:Ln) {hi:Int} (hh:hi≤4611686018427387904):q111 fuelH ((n,e),name,hi)=some ((numT n name hi).1,n,fstE e (numT n name hi).2):=by
 have:=valT_len hs name
 unfold q111
 dsimp only
 rw [rtext_eq hs,bnd_some']
 dsimp only
 rw [num_ref (by omega) hh,bnd_some']
 try dsimp only
 rw [note_eq]
 rfl
theorem vcell_eq {n:Nd} (hs:smN n) (e:Int) (name:Ln):q82 fuelH ((n,e),name)=some ((numT n name 32).1,n,fstE e (numT n name 32).2):=by
 unfold q82
 dsimp only
 rw [vnum_eq hs e name (by omega),bnd_some']
def frmQ (s:Ln):Int×Int:=if s.getLast?=some 102 then numQ s.dropLast 5184000 else (0,4)
def frmT (n:Nd) (name:Ln):Int×Int:=frmQ (valT n name)
theorem cut_suf {s:Ln} (hs:s.length≤4000000):q86 fuelH (s,[102])=some (if s.getLast?=some 102 then (s.dropLast,true) else (s,false)):=by
 unfold q86 q85 q84
 dsimp only
 rcases List.eq_nil_or_concat s with rfl | ⟨t,c,rfl⟩
 ·rfl
 ·rw [List.concat_eq_append] at hs ⊢
  rw [List.length_append,List.length_cons,List.length_nil] at hs
  have hl:len (t++[c])=((t.length+1:Nat):Int):=by simp [len]
  have h1:len [(102:UInt8)]=1:=rfl
  have hw:w64 (isub (len (t++[c])) (len [(102:UInt8)]))=(t.length:Int):=by
   rw [hl,h1]
   simp only [isub]
   rw [w64_id (by omega)]
   omega
  have hd:ldrop (toN (t.length:Int)) (t++[c])=[c]:=by
   show (t++[c]).drop _=_
   have:toN (t.length:Int)=t.length:=by simp [toN]
   rw [this,List.drop_append_of_le_length (Nat.le_refl _),List.drop_length]
   rfl
  have ht:ltake (toN (t.length:Int)) (t++[c])=t:=by
   show (t++[c]).take _=_
   have:toN (t.length:Int)=t.length:=by simp [toN]
   rw [this,List.take_append_of_le_length (Nat.le_refl _),List.take_length]
  have hin:in2 (t.length:Int) (len (t++[c]))=true:=in2_t (by rw [hl]; omega)
  rw [cnd_t (ile_t (by rw [hl,h1]; omega)),hw,grd_t hin,hd,bnd_some',List.getLast?_concat,List.dropLast_concat]
  by_cases h:c=102
  ·subst h
   have:seq [(102:UInt8)] [102]=true:=by rw [seq_t]
   rw [this,cnd_f (by rfl),grd_t hin,ht,bnd_some',if_pos rfl]
  ·have:seq [c] [102]=false:=by rw [seq_dec]; simpa using h
   rw [this,cnd_t (by rfl),bnd_some',if_neg (by simpa using h)]
theorem vfrm_eq {n:Nd} (hs:smN n) (e:Int) (name:Ln):q87 fuelH ((n,e),name)=some ((frmT n name).1,n,fstE e (frmT n name).2):=by
 have hl:=valT_len hs name
 unfold q87 q80 frmT frmQ
 rw [vtext_eq hs,bnd_some']
 dsimp only
 rw [cut_suf (by omega),bnd_some']
 by_cases h:(valT n name).getLast?=some 102
 ·rw [if_pos h,if_pos h,cnd_f (by rfl)]
  dsimp only
  rw [num_prog (by rw [List.length_dropLast]; omega) (by omega),bnd_some']
  try dsimp only
  rw [fail_eq]
  rfl
 ·rw [if_neg h,if_neg h,cnd_t (by rfl)]
  dsimp only
  rw [fail_eq]
  rfl
theorem rfrm_eq {n:Nd} (hs:smN n) (e:Int) (name:Ln):q115 fuelH ((n,e),name)=some ((frmT n name).1,n,fstE e (frmT n name).2):=by
 have hl:=valT_len hs name
 unfold q115 frmT frmQ
 rw [rtext_eq hs,bnd_some']
 dsimp only
 generalize valT n name=s at hl
 rcases List.eq_nil_or_concat s with rfl | ⟨t,c,rfl⟩
 ·rw [cnd_t (by rfl),note_eq]
  rfl
 ·rw [List.concat_eq_append] at hl ⊢
  rw [List.length_append,List.length_cons,List.length_nil] at hl
  have hln:len (t++[c])=((t.length+1:Nat):Int):=by simp [len]
  have hw:w64 (isub (len (t++[c])) 1)=(t.length:Int):=by
   rw [hln]
   simp only [isub]
   rw [w64_id (by omega)]
   omega
  have hin:inb (t.length:Int) (len (t++[c]))=true:=inb_t (by rw [hln]; omega)
  have hg:lget (t++[c]) (toN (t.length:Int)) (0:UInt8)=c:=by
   rw [lget_i (l:=t++[c]) (i:=t.length) (by simp)]
   simp
  have ht:ltake (toN (t.length:Int)) (t++[c])=t:=by
   show (t++[c]).take _=_
   have:toN (t.length:Int)=t.length:=by simp [toN]
   rw [this,List.take_append_of_le_length (Nat.le_refl _),List.take_length]
  rw [cnd_f (by rw [seq_dec]; simp),hw,grd_t hin,hg,List.getLast?_concat,List.dropLast_concat]
  by_cases h:c=102
  ·subst h
   rw [cnd_f (ine_f rfl),grd_t (in2_t (by rw [hln]; omega)),ht,num_ref (by omega) (by omega),bnd_some',if_pos rfl]
   try dsimp only
   rw [note_eq]
   rfl
  ·rw [cnd_t (ine_t fun k=>h (n8_inj k)),note_eq,if_neg (by simpa using h)]
   rfl
def idxL (tab:List Ln) (s:Ln):Option Nat:=seekL (fun x:Ln=>seq x s) (fun i _=>some i) none 0 tab
theorem seek_idx {R:Type} (f:Nat→R) (K:R) (s:Ln):∀ (k:Nat) (tab:List Ln),seekL (fun x:Ln=>seq x s) (fun i _=>f i) K k tab=match (seekL (fun x:Ln=>seq x s) (fun i _=>some i) none k tab:Option Nat) with | some i=>f i | none=>K
 | _,[]=>rfl
 | k,x::tab=>by
  unfold seekL
  rw [seek_idx f K s (k+1) tab]
  by_cases h:seq x s=true
  ·rw [if_pos h,if_pos h]
  ·rw [if_neg h,if_neg h]
def chT (tab:List Ln) (n:Nd) (name:Ln):Int×Int:=if hasT n name=false then (0,0) else match idxL tab (valT n name) with | some i=>((i:Int),0) | none=>(0,4)
theorem vch_eq {n:Nd} (hs:smN n) (e:Int) {name:Ln} {tab:List Ln} (ht:tab.length≤100) (hh:hasT n name=true):q83 fuelH ((n,e),name,tab)=some ((chT tab n name).1,n,fstE e (chT tab n name).2):=by
 have hfu:=fuelH_eq
 unfold q83 chT
 rw [if_neg (by rw [hh]; simp)]
 dsimp only
 rw [vtext_eq hs,bnd_some',jn_e,fail_eq,bnd_some']
 dsimp only
 refine (seek_loop (l:=tab) (fun i=>(i:Int)) (fun x:Ln=>seq x (valT n name)) (fun i _=>some ((i:Int),n,e)) (some (0,n,fstE e 4)) (by omega) (fun self i h=>?_) (fun self=>?_)).trans ?_
 ·have hin:inb (i:Int) (len tab)=true:=inb_t (by simp only [len]; omega)
  rw [cnd_t (ilt_t (by simp only [len]; omega)),grd_t hin,lget_i h,w64_succ h (by omega)]
  cases seq tab[i] (valT n name)<;>rfl
 ·rw [cnd_f (ilt_f (by simp only [len]; omega))]
 ·rw [seek_idx (fun i=>some ((i:Int),n,e))]
  have:(seekL (fun x:Ln=>seq x (valT n name)) (fun i _=>some i) none 0 tab:Option Nat)=idxL tab (valT n name):=rfl
  rw [this]
  cases idxL tab (valT n name) with
  | none=>rfl
  | some i=>unfold fstE; by_cases h:e=0<;>simp [h]
theorem tplace_eq {tab:List Ln} (ht:tab.length≤4000000) (s:Ln):q101 fuelH (tab,s)=some (match idxL tab s with | some i=>(i:Int) | none=>-1):=by
 have hfu:=fuelH_eq
 unfold q101
 dsimp only
 rw [jn_e]
 refine (seek_loop (l:=tab) (fun i=>(i:Int)) (fun x:Ln=>seq x s) (fun i _=>some (i:Int)) (some (-1)) (by omega) (fun self i h=>?_) (fun self=>?_)).trans ?_
 ·have hin:inb (i:Int) (len tab)=true:=inb_t (by simp only [len]; omega)
  rw [cnd_t (ilt_t (by simp only [len]; omega)),grd_t hin,lget_i h,w64_succ h (by omega)]
  cases seq tab[i] s<;>rfl
 ·rw [cnd_f (ilt_f (by simp only [len]; omega))]
 ·rw [seek_idx (fun i=>some (i:Int))]
  have:(seekL (fun x:Ln=>seq x s) (fun i _=>some i) none 0 tab:Option Nat)=idxL tab s:=rfl
  rw [this]
  cases idxL tab s<;>rfl
theorem rch_eq {n:Nd} (hs:smN n) (e:Int) {name:Ln} {tab:List Ln} (ht:tab.length≤100):q107 fuelH ((n,e),name,tab)=some ((chT tab n name).1,n,fstE e (chT tab n name).2):=by
 have hz:fstE e 0=e:=by unfold fstE; by_cases h:e=0<;>simp [h]
 unfold q107 chT
 dsimp only
 rw [rattr_eq hs,bnd_some']
 dsimp only
 cases hh:hasT n name with
 | false =>
  rw [cnd_t (by rfl),if_pos rfl,hz]
 | true =>
  rw [cnd_f (by rfl),if_neg (by simp),tplace_eq (by omega),bnd_some']
  cases idxL tab (valT n name) with
  | none =>
   rw [cnd_t (by rfl),note_eq]
   rfl
  | some i =>
   dsimp only
   rw [cnd_f (ilt_f (Int.not_lt.2 (Int.natCast_nonneg i))),hz]
def flT (n:Nd) (name:Ln):Bool×Int:=(ieq (chT [[48],[49]] n name).1 1,(chT [[48],[49]] n name).2)
theorem rfl_eq2 {n:Nd} (hs:smN n) (e:Int) (name:Ln):q108 fuelH ((n,e),name)=some ((flT n name).1,n,fstE e (flT n name).2):=by
 unfold q108 flT
 dsimp only
 rw [rch_eq hs e (by simp),bnd_some']
end
end Go.Mo
end

section
/-
  Plain facts: flags, colours, rates, kinds; the attributes an element may have, both sides.
-/
set_option linter.all false
namespace Go.Mo
open Go Go.W Go.Lib
set_option maxRecDepth 100000
noncomputable section
theorem fstE0 (e:Int):fstE e 0=e:=by unfold fstE; by_cases h:e=0<;>simp [h]
def uniqN (n:Nd):Prop:=((atsL n).map Prod.fst).Nodup
def flE (name:Ln):Int→List At→Int
 | e,[]=>e
 | e,a::r=>flE name (if a.1=name∧a.2≠[48]∧a.2≠[49] then fstE e 4 else e) r
theorem flE_not (name:Ln):∀ (l:List At) (e:Int),name ∉ l.map Prod.fst→flE name e l=e
 | [],_,_=>rfl
 | a::l,e,h=>by
  simp only [List.map_cons,List.mem_cons,not_or] at h
  unfold flE
  rw [if_neg (fun k=>h.1 k.1.symm)]
  exact flE_not name l e h.2
theorem flE_eq (name:Ln):∀ (l:List At) (e:Int),(l.map Prod.fst).Nodup→flE name e l=fstE e (if (attrF name l).2=true∧(attrF name l).1≠[48]∧(attrF name l).1≠[49] then 4 else 0)
 | [],e,_=>by simp [flE,attrF,fstE0]
 | a::l,e,h=>by
  rw [List.map_cons,List.nodup_cons] at h
  unfold flE attrF
  by_cases ha:a.1=name
  ·subst ha
   rw [flE_not _ _ _ h.1,if_pos rfl]
   by_cases c:a.2≠[48]∧a.2≠[49]
   ·rw [if_pos ⟨rfl,c⟩,if_pos ⟨rfl,c⟩]
   ·rw [if_neg (fun k=>c k.2),if_neg (fun k=>c k.2),fstE0]
  ·rw [if_neg (fun k=>ha k.1),if_neg ha]
   exact flE_eq name l e h.2
theorem idx01 (s:Ln):idxL [[48],[49]] s=if s=[48] then some 0 else if s=[49] then some 1 else none:=by
 unfold idxL seekL seekL seekL
 by_cases h:s=[48]
 ·subst h; rfl
 ·rw [if_neg h]
  have h1:seq [48] s=false:=by rw [seq_dec]; simpa using fun k=>h k.symm
  rw [if_neg (by rw [h1]; simp)]
  by_cases h2:s=[49]
  ·subst h2; rfl
  ·rw [if_neg h2]
   have h3:seq [49] s=false:=by rw [seq_dec]; simpa using fun k=>h2 k.symm
   rw [if_neg (by rw [h3]; simp)]
theorem vfl_eq {n:Nd} (hs:smN n) (hu:uniqN n) (e:Int) (name:Ln):q75 fuelH ((n,e),name)=some ((flT n name).1,n,fstE e (flT n name).2):=by
 have hl:=hs.asz
 have hfu:=fuelH_eq
 unfold q75
 dsimp only
 rw [jn_e]
 have h:=drop_loop (R:=Bool×Nd×Int) (s:=n.2.2.1) (F:=fun v3 (v4:Int×Nd×Int) =>
   cnd (ilt v4.1 (len n.2.2.1))
    (grd (inb v4.1 (len n.2.2.1))
     (cnd (seq (lget n.2.2.1 (toN v4.1) ([],[])).1 name)
      (cnd (sne (lget n.2.2.1 (toN v4.1) ([],[])).2 ([48]:List UInt8))
       (cnd (sne (lget n.2.2.1 (toN v4.1) ([],[])).2 ([49]:List UInt8))
        (bnd (q74 fuelH (v4.2,(4:Int))) fun v5 =>
        v3 (w64 (iadd v4.1 (1:Int)),v5))
        (v3 (w64 (iadd v4.1 (1:Int)),v4.2)))
       (v3 (w64 (iadd v4.1 (1:Int)),v4.2)))
      (v3 (w64 (iadd v4.1 (1:Int)),v4.2))))
    (bnd (q71 fuelH (v4.2,name)) fun v1 =>
     some (seq v1.1 ([49]:List UInt8),v1.2)))
  (fun (e:Int) (j:Nat)=>((j:Int),n,e)) (fun e r=>some (seq (valT n name) [49],n,flE name e r)) (fun _ _=>True) ?_ fuelH 0 e (by omega) (Nat.zero_le _) trivial
 ·refine Eq.trans h ?_
  rw [List.drop_zero,flE_eq name n.2.2.1 e hu]
  unfold flT chT
  rw [idx01]
  have hv:(attrF name n.2.2.1).1=valT n name:=rfl
  have hh:(attrF name n.2.2.1).2=hasT n name:=rfl
  rw [hv,hh]
  cases c:hasT n name with
  | false =>
   have:=valT_none c
   rw [this,if_neg (by simp),if_pos rfl]
   rfl
  | true =>
   rw [if_neg (show ¬ (true=false) by simp)]
   by_cases c0:valT n name=[48]
   ·rw [if_pos c0,if_neg (fun k=>k.2.1 c0),c0]; rfl
   ·rw [if_neg c0]
    by_cases c1:valT n name=[49]
    ·rw [if_pos c1,if_neg (fun k=>k.2.2 c1),c1]; rfl
    ·rw [if_neg c1,if_pos ⟨rfl,c0,c1⟩]
     have:seq (valT n name) [49]=false:=by rw [seq_dec]; simpa using c1
     rw [this]; rfl
 ·intro self a j hj _ hself
  by_cases hjl:j<n.2.2.1.length
  ·have hin:inb (j:Int) (len n.2.2.1)=true:=inb_t (by simp only [len]; omega)
   have hw:w64 (iadd (j:Int) 1)=((j+1:Nat):Int):=w64_succ hjl (by omega)
   dsimp only
   rw [cnd_t (ilt_t (by simp only [len]; omega)),grd_t hin,lget_i hjl,hw,List.drop_eq_getElem_cons hjl]
   unfold flE
   have nx:=fun e'=>hself e' (j+1) (by omega) (by omega) trivial
   by_cases c:n.2.2.1[j].1=name
   ·rw [cnd_t (by rw [seq_t]; exact c)]
    by_cases c0:n.2.2.1[j].2=[48]
    ·rw [cnd_f (by simpa [sne] using c0),if_neg (fun k=>k.2.1 c0)]
     exact nx a
    ·rw [cnd_t (by simpa [sne] using c0)]
     by_cases c1:n.2.2.1[j].2=[49]
     ·rw [cnd_f (by simpa [sne] using c1),if_neg (fun k=>k.2.2 c1)]
      exact nx a
     ·rw [cnd_t (by simpa [sne] using c1),if_pos ⟨c,c0,c1⟩,fail_eq,bnd_some']
      exact nx _
   ·rw [cnd_f (by rw [seq_dec]; simpa using c),if_neg (fun k=>c k.1)]
    exact nx a
  ·obtain rfl:j=n.2.2.1.length:=by omega
   dsimp only
   rw [cnd_f (ilt_f (by simp only [len]; omega)),vtext_eq hs,bnd_some',List.drop_length]
   rfl
def colT (n:Nd):UInt8×Int:=(b8 (chT gl1 n [99,111,108,111,114]).1,(chT gl1 n [99,111,108,111,114]).2)
theorem vcol_eq {n:Nd} (hs:smN n) (e:Int):q89 fuelH (n,e)=some ((colT n).1,n,fstE e (colT n).2):=by
 have hl:=hs.asz
 have hfu:=fuelH_eq
 unfold q89
 dsimp only
 rw [jn_e]
 refine (seek_loop (l:=n.2.2.1) (fun i=>(i:Int)) (fun a:At=>seq a.1 [99,111,108,111,114]) (fun _ _=>bnd (q83 fuelH ((n,e),[99,111,108,111,114],gl1)) fun v4=>some (b8 v4.1,v4.2)) (some ((0:UInt8),n,e)) (by omega) (fun self i h=>?_) (fun self=>?_)).trans ?_
 ·have hin:inb (i:Int) (len n.2.2.1)=true:=inb_t (by simp only [len]; omega)
  rw [cnd_t (ilt_t (by simp only [len]; omega)),grd_t hin,lget_i h,w64_succ h (by omega)]
  cases seq n.2.2.1[i].1 [99,111,108,111,114]<;>rfl
 ·rw [cnd_f (ilt_f (by simp only [len]; omega))]
 ·rw [seek_attr [99,111,108,111,114] (fun _=>bnd (q83 fuelH ((n,e),[99,111,108,111,114],gl1)) fun v4=>some (b8 v4.1,v4.2))]
  have hh:(attrF [99,111,108,111,114] n.2.2.1).2=hasT n [99,111,108,111,114]:=rfl
  rw [hh]
  unfold colT
  cases c:hasT n [99,111,108,111,114] with
  | true =>
   rw [if_pos rfl,vch_eq hs e (by decide) c,bnd_some']
  | false =>
   unfold chT
   rw [if_neg (by simp),c,if_pos rfl,fstE0]
   rfl
def ratP (s:Ln):UInt8×Int:=seekL (fun r:UInt8=>seq (ratQ r) s) (fun _ r=>(r,0)) (0,4) 0 [1,2,3,4,5,6,7]
def kndP (s:Ln):UInt8×Int:=seekL (fun k:Ln=>seq k s) (fun i _=>(b8 (w64 (iadd (i:Int) 1)),0)) (0,4) 0 [[68,73,65,76,79,71,85,69],[83,79,85,78,68],[84,73,84,76,69],[77,85,83,73,67]]
theorem seek_some {α R:Type} (p:α→Bool) (f:Nat→α→R) (K:R):∀ (i:Nat) (l:List α),seekL p (fun i a=>some (f i a)) (some K) i l=some (seekL p f K i l)
 | _,[]=>rfl
 | i,a::l=>by
  unfold seekL
  rw [seek_some p f K (i+1) l]
  by_cases h:p a=true
  ·rw [if_pos h,if_pos h]
  ·rw [if_neg h,if_neg h]
theorem trate_eq (s:Ln):q73 fuelH s=some (ratP s):=by
 have hfu:=fuelH_eq
 unfold q73
 rw [jn_e]
 have hr:q72 fuelH ()=some [1,2,3,4,5,6,7]:=rfl
 rw [bnd_s hr]
 unfold ratP
 rw [← seek_some (fun r:UInt8=>seq (ratQ r) s) (fun _ r=>((r,0):UInt8×Int)) (0,4) 0]
 refine seek_loop (l:=([1,2,3,4,5,6,7]:List UInt8)) (fun i=>(i:Int)) (fun r=>seq (ratQ r) s) (fun _ r=>some (r,0)) (some (0,4)) (by simp only [List.length_cons,List.length_nil]; omega) (fun self i h=>?_) (fun self=>?_)
 ·have hin:inb (i:Int) (len ([1,2,3,4,5,6,7]:List UInt8))=true:=inb_t (by simp only [len]; omega)
  rw [cnd_t (ilt_t (by simp only [len]; omega)),grd_t hin,lget_i h,rname_eq2,bnd_some',w64_succ h (by simp only [List.length_cons,List.length_nil] at h ⊢; omega)]
  cases seq (ratQ ([1,2,3,4,5,6,7]:List UInt8)[i]) s<;>rfl
 ·rw [cnd_f (ilt_f (by simp only [len]; omega))]
theorem rrate_eq (s:Ln):q105 fuelH s=some (ratP s):=by
 have hfu:=fuelH_eq
 unfold q105
 rw [jn_e]
 have hr:q103 fuelH ()=some [1,2,3,4,5,6,7]:=rfl
 rw [bnd_s hr]
 unfold ratP
 rw [← seek_some (fun r:UInt8=>seq (ratQ r) s) (fun _ r=>((r,0):UInt8×Int)) (0,4) 0]
 refine seek_loop (l:=([1,2,3,4,5,6,7]:List UInt8)) (fun i=>(i:Int)) (fun r=>seq (ratQ r) s) (fun _ r=>some (r,0)) (some (0,4)) (by simp only [List.length_cons,List.length_nil]; omega) (fun self i h=>?_) (fun self=>?_)
 ·have hin:inb (i:Int) (len ([1,2,3,4,5,6,7]:List UInt8))=true:=inb_t (by simp only [len]; omega)
  rw [cnd_t (ilt_t (by simp only [len]; omega)),grd_t hin,lget_i h,rrname_eq,bnd_some',w64_succ h (by simp only [List.length_cons,List.length_nil] at h ⊢; omega)]
  cases seq (ratQ ([1,2,3,4,5,6,7]:List UInt8)[i]) s<;>rfl
 ·rw [cnd_f (ilt_f (by simp only [len]; omega))]
theorem kind_eq2 (s:Ln):q88 fuelH s=some (kndP s):=by
 have hfu:=fuelH_eq
 unfold q88
 rw [jn_e]
 have hr:q26 fuelH ()=some [[68,73,65,76,79,71,85,69],[83,79,85,78,68],[84,73,84,76,69],[77,85,83,73,67]]:=rfl
 rw [bnd_s hr]
 unfold kndP
 rw [← seek_some (fun k:Ln=>seq k s) (fun i _=>((b8 (w64 (iadd (i:Int) 1)),0):UInt8×Int)) (0,4) 0]
 refine seek_loop (l:=([[68,73,65,76,79,71,85,69],[83,79,85,78,68],[84,73,84,76,69],[77,85,83,73,67]]:List Ln)) (fun i=>(i:Int)) (fun k=>seq k s) (fun i _=>some (b8 (w64 (iadd (i:Int) 1)),0)) (some (0,4)) (by simp only [List.length_cons,List.length_nil]; omega) (fun self i h=>?_) (fun self=>?_)
 ·have hin:inb (i:Int) (len ([[68,73,65,76,79,71,85,69],[83,79,85,78,68],[84,73,84,76,69],[77,85,83,73,67]]:List Ln))=true:=inb_t (by simp only [len]; omega)
  rw [cnd_t (ilt_t (by simp only [len]; omega)),grd_t hin,lget_i h,w64_succ h (by simp only [List.length_cons,List.length_nil] at h ⊢; omega)]
  cases seq ([[68,73,65,76,79,71,85,69],[83,79,85,78,68],[84,73,84,76,69],[77,85,83,73,67]]:List Ln)[i] s<;>rfl
 ·rw [cnd_f (ilt_f (by simp only [len]; omega))]
theorem rkind_eq2 (s:Ln):q117 fuelH s=some (kndP s):=(rfl:q117 fuelH s=q88 fuelH s).trans (kind_eq2 s)
def alwT (n:Ln):List Ln:=if n=[116,116] then [[114,97,116,101],[108,97,115,116]] else if n=[114,101,103,105,111,110] then [[110,97,109,101],[116,111,112],[104,101,105,103,104,116],[108,101,102,116],[119,105,100,116,104],[97,108,105,103,110],[97,110,99,104,111,114]] else if n=[112] then [[105,100],[105,110],[111,117,116],[107,105,110,100]] else []
def mayT (n:Ln):List Ln:=if n=[116,116] then [[116,105,116,108,101],[108,97,110,103],[100,114,111,112]] else if n=[114,101,103,105,111,110] then [] else if n=[112] then [[114,101,103,105,111,110],[115,112,101,97,107,101,114]] else if n=[114,117,110] then [[99,111,108,111,114],[105,116,97,108,105,99],[117,110,100,101,114,108,105,110,101],[114,117,98,121]] else []
def allT (n:Ln):List Ln:=if n=[116,116] then [[116,105,116,108,101],[108,97,110,103],[114,97,116,101],[100,114,111,112],[108,97,115,116]] else if n=[114,101,103,105,111,110] then [[110,97,109,101],[116,111,112],[104,101,105,103,104,116],[108,101,102,116],[119,105,100,116,104],[97,108,105,103,110],[97,110,99,104,111,114]] else if n=[112] then [[105,100],[105,110],[111,117,116],[114,101,103,105,111,110],[107,105,110,100],[115,112,101,97,107,101,114]] else if n=[114,117,110] then [[99,111,108,111,114],[105,116,97,108,105,99],[117,110,100,101,114,108,105,110,101],[114,117,98,121]] else []
theorem five {P:Ln→Prop} (h1:P [116,116]) (h2:P [114,101,103,105,111,110]) (h3:P [112]) (h4:P [114,117,110]) (h5:∀ n,n≠[116,116]→n≠[114,101,103,105,111,110]→n≠[112]→n≠[114,117,110]→P n) (n:Ln):P n:=by
 by_cases c1:n=[116,116]
 ·rw [c1]; exact h1
 by_cases c2:n=[114,101,103,105,111,110]
 ·rw [c2]; exact h2
 by_cases c3:n=[112]
 ·rw [c3]; exact h3
 by_cases c4:n=[114,117,110]
 ·rw [c4]; exact h4
 exact h5 n c1 c2 c3 c4
theorem attributes_eq (N:Nat) (n:Ln):q68 N n=some (alwT n,mayT n):=by
 refine five (P:=fun n=>q68 N n=some (alwT n,mayT n)) rfl rfl rfl rfl (fun n c1 c2 c3 c4=>?_) n
 unfold q68 alwT mayT
 rw [cnd_f (by rw [seq_dec]; simpa using c1),cnd_f (by rw [seq_dec]; simpa using c2),cnd_f (by rw [seq_dec]; simpa using c3),cnd_f (by rw [seq_dec]; simpa using c4),if_neg c1,if_neg c2,if_neg c3,if_neg c1,if_neg c2,if_neg c3,if_neg c4]
theorem table_eq (N:Nat) (n:Ln):q100 N n=some (allT n,alwT n):=by
 refine five (P:=fun n=>q100 N n=some (allT n,alwT n)) rfl rfl rfl rfl (fun n c1 c2 c3 c4=>?_) n
 unfold q100 alwT allT
 rw [cnd_f (by rw [seq_dec]; simpa using c1),cnd_f (by rw [seq_dec]; simpa using c2),cnd_f (by rw [seq_dec]; simpa using c3),cnd_f (by rw [seq_dec]; simpa using c4),if_neg c1,if_neg c2,if_neg c3,if_neg c1,if_neg c2,if_neg c3,if_neg c4]
theorem tabs_ok (n:Ln):(∀ w,w∈allT n↔w∈alwT n∨w∈mayT n)∧(alwT n).Nodup∧(alwT n).length≤7∧(mayT n).length≤4∧(allT n).length≤7:=by
 refine five (P:=fun n=>(∀ w,w∈allT n↔w∈alwT n∨w∈mayT n)∧(alwT n).Nodup∧(alwT n).length≤7∧(mayT n).length≤4∧(allT n).length≤7) ?_ ?_ ?_ ?_ (fun n c1 c2 c3 c4=>?_) n
 ·refine ⟨fun w=>?_,by decide,by decide,by decide,by decide⟩
  have e1:allT [116,116]=[[116,105,116,108,101],[108,97,110,103],[114,97,116,101],[100,114,111,112],[108,97,115,116]]:=rfl
  have e2:alwT [116,116]=[[114,97,116,101],[108,97,115,116]]:=rfl
  have e3:mayT [116,116]=[[116,105,116,108,101],[108,97,110,103],[100,114,111,112]]:=rfl
  rw [e1,e2,e3]
  simp only [List.mem_cons,List.not_mem_nil,or_false]
  constructor
  ·rintro (h | h | h | h | h)
   ·exact Or.inr (Or.inl h)
   ·exact Or.inr (Or.inr (Or.inl h))
   ·exact Or.inl (Or.inl h)
   ·exact Or.inr (Or.inr (Or.inr h))
   ·exact Or.inl (Or.inr h)
  ·rintro ((h | h) | h | h | h)
   ·exact Or.inr (Or.inr (Or.inl h))
   ·exact Or.inr (Or.inr (Or.inr (Or.inr h)))
   ·exact Or.inl h
   ·exact Or.inr (Or.inl h)
   ·exact Or.inr (Or.inr (Or.inr (Or.inl h)))
 ·refine ⟨fun w=>?_,by decide,by decide,by decide,by decide⟩
  have e3:mayT [114,101,103,105,111,110]=[]:=rfl
  have e1:allT [114,101,103,105,111,110]=alwT [114,101,103,105,111,110]:=rfl
  rw [e1,e3]
  simp
 ·refine ⟨fun w=>?_,by decide,by decide,by decide,by decide⟩
  have e1:allT [112]=[[105,100],[105,110],[111,117,116],[114,101,103,105,111,110],[107,105,110,100],[115,112,101,97,107,101,114]]:=rfl
  have e2:alwT [112]=[[105,100],[105,110],[111,117,116],[107,105,110,100]]:=rfl
  have e3:mayT [112]=[[114,101,103,105,111,110],[115,112,101,97,107,101,114]]:=rfl
  rw [e1,e2,e3]
  simp only [List.mem_cons,List.not_mem_nil,or_false]
  constructor
  ·rintro (h | h | h | h | h | h)
   ·exact Or.inl (Or.inl h)
   ·exact Or.inl (Or.inr (Or.inl h))
   ·exact Or.inl (Or.inr (Or.inr (Or.inl h)))
   ·exact Or.inr (Or.inl h)
   ·exact Or.inl (Or.inr (Or.inr (Or.inr h)))
   ·exact Or.inr (Or.inr h)
  ·rintro ((h | h | h | h) | h | h)
   ·exact Or.inl h
   ·exact Or.inr (Or.inl h)
   ·exact Or.inr (Or.inr (Or.inl h))
   ·exact Or.inr (Or.inr (Or.inr (Or.inr (Or.inl h))))
   ·exact Or.inr (Or.inr (Or.inr (Or.inl h)))
   ·exact Or.inr (Or.inr (Or.inr (Or.inr (Or.inr h))))
 ·refine ⟨fun w=>?_,by decide,by decide,by decide,by decide⟩
  have e1:allT [114,117,110]=mayT [114,117,110]:=rfl
  have e2:alwT [114,117,110]=[]:=rfl
  rw [e1,e2]
  simp
 ·unfold alwT mayT allT
  simp only [if_neg c1,if_neg c2,if_neg c3,if_neg c4]
  simp
def attS (n:Nd):Bool:=(atsL n).all (fun a=>(allT n.1).contains a.1) && (alwT n.1).all (fun w=>((atsL n).map Prod.fst).contains w)
theorem among_eq {l:List Ln} (hl:l.length≤1000) (s:Ln):q69 fuelH (l,s)=some (l.contains s):=by
 have hfu:=fuelH_eq
 unfold q69
 dsimp only
 rw [jn_e]
 refine (seek_loop (l:=l) (fun i=>(i:Int)) (fun x:Ln=>seq x s) (fun _ _=>some true) (some false) (by omega) (fun self i h=>?_) (fun self=>?_)).trans ?_
 ·have hin:inb (i:Int) (len l)=true:=inb_t (by simp only [len]; omega)
  rw [cnd_t (ilt_t (by simp only [len]; omega)),grd_t hin,lget_i h,w64_succ h (by omega)]
  cases seq l[i] s<;>rfl
 ·rw [cnd_f (ilt_f (by simp only [len]; omega))]
 ·rw [seek_all]
  have:l.any (fun x=>seq x s)=l.contains s:=by
   rw [Bool.eq_iff_iff,List.any_eq_true,List.contains_iff_mem]
   exact ⟨fun ⟨x,hx,h⟩=>by rw [seq_t] at h; exact h ▸ hx,fun h=>⟨s,h,by rw [seq_t]⟩⟩
  rw [this]
  cases l.contains s<;>rfl
theorem has_eq {l:List Ln} (hl:l.length≤4000000) (s:Ln):r21_has fuelH (l,s)=some (l.contains s):=by
 unfold r21_has
 rw [tplace_eq hl,bnd_some']
 have key:∀ (k:Nat) (l:List Ln),(match (seekL (fun x:Ln=>seq x s) (fun i _=>some i) none k l:Option Nat) with | some i=>ile 0 (i:Int) | none=>ile 0 (-1))=l.contains s:=by
  intro k l
  induction l generalizing k with
  | nil=>rfl
  | cons x l ih =>
   unfold seekL
   by_cases h:seq x s=true
   ·rw [if_pos h]
    rw [seq_t] at h
    subst h
    rw [List.contains_cons]
    simp
    exact ile_t (Int.natCast_nonneg k)
   ·rw [if_neg h,ih,List.contains_cons]
    have:¬ x=s:=fun q=>h (by rw [seq_t]; exact q)
    have h2:(s == x)=false:=by simpa using fun q=>this q.symm
    rw [h2,Bool.false_or]
 have:=key 0 l
 unfold idxL
 rw [← this]
 cases (seekL (fun x:Ln=>seq x s) (fun i _=>some i) none 0 l:Option Nat)<;>rfl
end
end Go.Mo
end
