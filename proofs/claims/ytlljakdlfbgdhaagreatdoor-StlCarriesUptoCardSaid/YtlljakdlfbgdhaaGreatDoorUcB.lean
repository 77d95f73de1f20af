/-
  Texts put together, in build order: WK PA PB PC PD PE PF PG PHa PHb PHc PHd PMa PPa PFs QA QB QC QD QE QF QG RA RB RC RD RE RF RG RH RI RJ RK RL RM RN RO RP RQ RR.
-/
import Derived.Test.YtlljakdlfbgdhaaGreatDoorUcA
import Derived.KernelRfl
import Derived.Lib.ValidLaws
import Derived.Lib.TrimUEq
import Derived.Lib.MapLaws
import Derived.Test.YtlljakdlfbgdhaaGreatDoorYC
import Derived.Lib.IndexMore
set_option linter.all false

section
/-
  The functions do what their models say. Printed by a program.
-/
namespace Go.Mo
open Go Go.W Go.Proofs
noncomputable section
set_option maxRecDepth 100000
theorem k_q11 (N : Nat) : ConOk E ⟨214, ps_q11, rs_q11, q11 N⟩ := conOf envOk (x_q11 N) trivial (show E.P.funcs[214]? = some Tryz.f214 from by kernel_rfl) (by kernel_rfl)
theorem k_utf8_ValidString (N : Nat) : ConOk E ⟨160, ps_utf8_ValidString, rs_utf8_ValidString, utf8_ValidString N⟩ := kh_utf8_ValidString N
theorem k_q12 (N : Nat) : ConOk E ⟨215, ps_q12, rs_q12, q12 N⟩ := conOf envOk (x_q12 N) trivial (show E.P.funcs[215]? = some Tryz.f215 from by kernel_rfl) (by kernel_rfl)
theorem k_q13 (N : Nat) : ConOk E ⟨161, ps_q13, rs_q13, q13 N⟩ := conOf envOk (x_q13 N) ⟨k_q12 N, trivial⟩ (show E.P.funcs[161]? = some Tryz.f161 from by kernel_rfl) (by kernel_rfl)
theorem k_q14 (N : Nat) : ConOk E ⟨97, ps_q14, rs_q14, q14 N⟩ := conOf envOk (x_q14 N) ⟨k_utf8_ValidString N, k_q13 N, trivial⟩ (show E.P.funcs[97]? = some Tryz.f97 from by kernel_rfl) (by kernel_rfl)
theorem k_q15 (N : Nat) : ConOk E ⟨109, ps_q15, rs_q15, q15 N⟩ := conOf envOk (x_q15 N) trivial (show E.P.funcs[109]? = some Tryz.f109 from by kernel_rfl) (by kernel_rfl)
theorem k_q16 (N : Nat) : ConOk E ⟨110, ps_q16, rs_q16, q16 N⟩ := conOf envOk (x_q16 N) trivial (show E.P.funcs[110]? = some Tryz.f110 from by kernel_rfl) (by kernel_rfl)
theorem k_q17 (N : Nat) : ConOk E ⟨53, ps_q17, rs_q17, q17 N⟩ := conOf envOk (x_q17 N) ⟨k_q14 N, k_q15 N, k_q16 N, trivial⟩ (show E.P.funcs[53]? = some Tryz.f53 from by kernel_rfl) (by kernel_rfl)
theorem k_q18 (N : Nat) : ConOk E ⟨54, ps_q18, rs_q18, q18 N⟩ := conOf envOk (x_q18 N) trivial (show E.P.funcs[54]? = some Tryz.f54 from by kernel_rfl) (by kernel_rfl)
theorem k_stl_on (N : Nat) : ConOk E ⟨55, ps_stl_on, rs_stl_on, stl_on N⟩ := conOf envOk (x_stl_on N) trivial (show E.P.funcs[55]? = some Tryz.f55 from by kernel_rfl) (by kernel_rfl)
theorem k_q19 (N : Nat) : ConOk E ⟨170, ps_q19, rs_q19, q19 N⟩ := conOf envOk (x_q19 N) ⟨k_q13 N, trivial⟩ (show E.P.funcs[170]? = some Tryz.f170 from by kernel_rfl) (by kernel_rfl)
theorem k_q20 (N : Nat) : ConOk E ⟨117, ps_q20, rs_q20, q20 N⟩ := conOf envOk (x_q20 N) trivial (show E.P.funcs[117]? = some Tryz.f117 from by kernel_rfl) (by kernel_rfl)
theorem k_q21 (N : Nat) : ConOk E ⟨172, ps_q21, rs_q21, q21 N⟩ := conOf envOk (x_q21 N) ⟨k_q13 N, trivial⟩ (show E.P.funcs[172]? = some Tryz.f172 from by kernel_rfl) (by kernel_rfl)
theorem k_bytealg_IndexByteString (N : Nat) : ConOk E ⟨270, ps_bytealg_IndexByteString, rs_bytealg_IndexByteString, bytealg_IndexByteString N⟩ := kh_bytealg_IndexByteString N
theorem k_q22 (N : Nat) : ConOk E ⟨261, ps_q22, rs_q22, q22 N⟩ := conOf envOk (x_q22 N) ⟨k_bytealg_IndexByteString N, trivial⟩ (show E.P.funcs[261]? = some Tryz.f261 from by kernel_rfl) (by kernel_rfl)
theorem k_q23 (N : Nat) : ConOk E ⟨242, ps_q23, rs_q23, q23 N⟩ := conOf envOk (x_q23 N) ⟨k_q22 N, trivial⟩ (show E.P.funcs[242]? = some Tryz.f242 from by kernel_rfl) (by kernel_rfl)
theorem k_q24 (N : Nat) : ConOk E ⟨243, ps_q24, rs_q24, q24 N⟩ := conOf envOk (x_q24 N) trivial (show E.P.funcs[243]? = some Tryz.f243 from by kernel_rfl) (by kernel_rfl)
theorem k_q25 (N : Nat) : ConOk E ⟨244, ps_q25, rs_q25, q25 N⟩ := conOf envOk (x_q25 N) trivial (show E.P.funcs[244]? = some Tryz.f244 from by kernel_rfl) (by kernel_rfl)
theorem k_q26 (N : Nat) : ConOk E ⟨220, ps_q26, rs_q26, q26 N⟩ := conOf envOk (x_q26 N) ⟨k_q23 N, k_q24 N, k_q25 N, trivial⟩ (show E.P.funcs[220]? = some Tryz.f220 from by kernel_rfl) (by kernel_rfl)
theorem k_q27 (N : Nat) : ConOk E ⟨171, ps_q27, rs_q27, q27 N⟩ := conOf envOk (x_q27 N) ⟨k_q26 N, trivial⟩ (show E.P.funcs[171]? = some Tryz.f171 from by kernel_rfl) (by kernel_rfl)
theorem k_q28 (N : Nat) : ConOk E ⟨119, ps_q28, rs_q28, q28 N⟩ := conOf envOk (x_q28 N) ⟨k_q13 N, trivial⟩ (show E.P.funcs[119]? = some Tryz.f119 from by kernel_rfl) (by kernel_rfl)
theorem k_q29 (N : Nat) : ConOk E ⟨111, ps_q29, rs_q29, q29 N⟩ := conOf envOk (x_q29 N) ⟨k_q19 N, k_q20 N, k_q21 N, k_q27 N, k_q28 N, trivial⟩ (show E.P.funcs[111]? = some Tryz.f111 from by kernel_rfl) (by kernel_rfl)
theorem k_q30 (N : Nat) : ConOk E ⟨56, ps_q30, rs_q30, q30 N⟩ := conOf envOk (x_q30 N) ⟨k_q14 N, k_q29 N, trivial⟩ (show E.P.funcs[56]? = some Tryz.f56 from by kernel_rfl) (by kernel_rfl)
theorem k_stl_Text (N : Nat) : ConOk E ⟨20, ps_stl_Text, rs_stl_Text, stl_Text N⟩ := conOf envOk (x_stl_Text N) ⟨k_q17 N, k_q18 N, k_stl_on N, k_q30 N, trivial⟩ (show E.P.funcs[20]? = some Tryz.f20 from by kernel_rfl) (by kernel_rfl)
theorem k_q31 (N : Nat) : ConOk E ⟨24, ps_q31, rs_q31, q31 N⟩ := conOf envOk (x_q31 N) trivial (show E.P.funcs[24]? = some Tryz.f24 from by kernel_rfl) (by kernel_rfl)
theorem k_q32 (N : Nat) : ConOk E ⟨98, ps_q32, rs_q32, q32 N⟩ := conOf envOk (x_q32 N) trivial (show E.P.funcs[98]? = some Tryz.f98 from by kernel_rfl) (by kernel_rfl)
theorem k_q33 (N : Nat) : ConOk E ⟨148, ps_q33, rs_q33, q33 N⟩ := conOf envOk (x_q33 N) trivial (show E.P.funcs[148]? = some Tryz.f148 from by kernel_rfl) (by kernel_rfl)
theorem k_q34 (N : Nat) : ConOk E ⟨146, ps_q34, rs_q34, q34 N⟩ := conOf envOk (x_q34 N) ⟨k_q33 N, trivial⟩ (show E.P.funcs[146]? = some Tryz.f146 from by kernel_rfl) (by kernel_rfl)
theorem k_q35 (N : Nat) : ConOk E ⟨147, ps_q35, rs_q35, q35 N⟩ := conOf envOk (x_q35 N) ⟨k_q33 N, trivial⟩ (show E.P.funcs[147]? = some Tryz.f147 from by kernel_rfl) (by kernel_rfl)
theorem k_q36 (N : Nat) : ConOk E ⟨99, ps_q36, rs_q36, q36 N⟩ := conOf envOk (x_q36 N) ⟨k_q34 N, k_q35 N, trivial⟩ (show E.P.funcs[99]? = some Tryz.f99 from by kernel_rfl) (by kernel_rfl)
theorem k_q37 (N : Nat) : ConOk E ⟨47, ps_q37, rs_q37, q37 N⟩ := conOf envOk (x_q37 N) ⟨k_q14 N, k_q32 N, k_q36 N, trivial⟩ (show E.P.funcs[47]? = some Tryz.f47 from by kernel_rfl) (by kernel_rfl)
theorem k_q38 (N : Nat) : ConOk E ⟨162, ps_q38, rs_q38, q38 N⟩ := conOf envOk (x_q38 N) trivial (show E.P.funcs[162]? = some Tryz.f162 from by kernel_rfl) (by kernel_rfl)
theorem k_q39 (N : Nat) : ConOk E ⟨100, ps_q39, rs_q39, q39 N⟩ := conOf envOk (x_q39 N) ⟨k_q32 N, k_q38 N, trivial⟩ (show E.P.funcs[100]? = some Tryz.f100 from by kernel_rfl) (by kernel_rfl)
theorem k_q40 (N : Nat) : ConOk E ⟨48, ps_q40, rs_q40, q40 N⟩ := conOf envOk (x_q40 N) ⟨k_q39 N, trivial⟩ (show E.P.funcs[48]? = some Tryz.f48 from by kernel_rfl) (by kernel_rfl)
theorem k_q41 (N : Nat) : ConOk E ⟨149, ps_q41, rs_q41, q41 N⟩ := conOf envOk (x_q41 N) trivial (show E.P.funcs[149]? = some Tryz.f149 from by kernel_rfl) (by kernel_rfl)
theorem k_q42 (N : Nat) : ConOk E ⟨81, ps_q42, rs_q42, q42 N⟩ := conOf envOk (x_q42 N) ⟨k_q41 N, trivial⟩ (show E.P.funcs[81]? = some Tryz.f81 from by kernel_rfl) (by kernel_rfl)
theorem k_q43 (N : Nat) : ConOk E ⟨101, ps_q43, rs_q43, q43 N⟩ := conOf envOk (x_q43 N) trivial (show E.P.funcs[101]? = some Tryz.f101 from by kernel_rfl) (by kernel_rfl)
theorem k_q44 (N : Nat) : ConOk E ⟨163, ps_q44, rs_q44, q44 N⟩ := conOf envOk (x_q44 N) trivial (show E.P.funcs[163]? = some Tryz.f163 from by kernel_rfl) (by kernel_rfl)
theorem k_q45 (N : Nat) : ConOk E ⟨102, ps_q45, rs_q45, q45 N⟩ := conOf envOk (x_q45 N) ⟨k_q44 N, trivial⟩ (show E.P.funcs[102]? = some Tryz.f102 from by kernel_rfl) (by kernel_rfl)
theorem k_strings_Builder_copyCheck (N : Nat) : ConOk E ⟨239, ps_strings_Builder_copyCheck, rs_strings_Builder_copyCheck, strings_Builder_copyCheck N⟩ := kh_strings_Builder_copyCheck N
theorem k_q46 (N : Nat) : ConOk E ⟨216, ps_q46, rs_q46, q46 N⟩ := conOf envOk (x_q46 N) ⟨k_strings_Builder_copyCheck N, trivial⟩ (show E.P.funcs[216]? = some Tryz.f216 from by kernel_rfl) (by kernel_rfl)
theorem k_q47 (N : Nat) : ConOk E ⟨164, ps_q47, rs_q47, q47 N⟩ := conOf envOk (x_q47 N) ⟨k_q46 N, trivial⟩ (show E.P.funcs[164]? = some Tryz.f164 from by kernel_rfl) (by kernel_rfl)
theorem k_q48 (N : Nat) : ConOk E ⟨271, ps_q48, rs_q48, q48 N⟩ := conOf envOk (x_q48 N) trivial (show E.P.funcs[271]? = some Tryz.f271 from by kernel_rfl) (by kernel_rfl)
theorem k_q49 (N : Nat) : ConOk E ⟨262, ps_q49, rs_q49, q49 N⟩ := conOf envOk (x_q49 N) ⟨k_q48 N, trivial⟩ (show E.P.funcs[262]? = some Tryz.f262 from by kernel_rfl) (by kernel_rfl)
theorem k_q50 (N : Nat) : ConOk E ⟨240, ps_q50, rs_q50, q50 N⟩ := conOf envOk (x_q50 N) ⟨k_q22 N, k_q25 N, k_q49 N, trivial⟩ (show E.P.funcs[240]? = some Tryz.f240 from by kernel_rfl) (by kernel_rfl)
theorem k_q51 (N : Nat) : ConOk E ⟨218, ps_q51, rs_q51, q51 N⟩ := conOf envOk (x_q51 N) ⟨k_q50 N, trivial⟩ (show E.P.funcs[218]? = some Tryz.f218 from by kernel_rfl) (by kernel_rfl)
theorem k_strings_Contains (N : Nat) : ConOk E ⟨165, ps_strings_Contains, rs_strings_Contains, strings_Contains N⟩ := kh_strings_Contains N
theorem k_q52 (N : Nat) : ConOk E ⟨241, ps_q52, rs_q52, q52 N⟩ := conOf envOk (x_q52 N) trivial (show E.P.funcs[241]? = some Tryz.f241 from by kernel_rfl) (by kernel_rfl)
theorem k_q53 (N : Nat) : ConOk E ⟨219, ps_q53, rs_q53, q53 N⟩ := conOf envOk (x_q53 N) ⟨k_q14 N, k_q52 N, trivial⟩ (show E.P.funcs[219]? = some Tryz.f219 from by kernel_rfl) (by kernel_rfl)
theorem k_q54 (N : Nat) : ConOk E ⟨166, ps_q54, rs_q54, q54 N⟩ := conOf envOk (x_q54 N) ⟨k_q53 N, trivial⟩ (show E.P.funcs[166]? = some Tryz.f166 from by kernel_rfl) (by kernel_rfl)
theorem k_q55 (N : Nat) : ConOk E ⟨103, ps_q55, rs_q55, q55 N⟩ := conOf envOk (x_q55 N) ⟨k_q17 N, k_q47 N, k_strings_Contains N, k_q54 N, trivial⟩ (show E.P.funcs[103]? = some Tryz.f103 from by kernel_rfl) (by kernel_rfl)
theorem k_q56 (N : Nat) : ConOk E ⟨105, ps_q56, rs_q56, q56 N⟩ := conOf envOk (x_q56 N) ⟨k_q54 N, trivial⟩ (show E.P.funcs[105]? = some Tryz.f105 from by kernel_rfl) (by kernel_rfl)
theorem k_q57 (N : Nat) : ConOk E ⟨167, ps_q57, rs_q57, q57 N⟩ := conOf envOk (x_q57 N) ⟨k_q41 N, k_q39 N, trivial⟩ (show E.P.funcs[167]? = some Tryz.f167 from by kernel_rfl) (by kernel_rfl)
theorem k_q58 (N : Nat) : ConOk E ⟨104, ps_q58, rs_q58, q58 N⟩ := conOf envOk (x_q58 N) ⟨k_q57 N, trivial⟩ (show E.P.funcs[104]? = some Tryz.f104 from by kernel_rfl) (by kernel_rfl)
theorem k_q59 (N : Nat) : ConOk E ⟨49, ps_q59, rs_q59, q59 N⟩ := conOf envOk (x_q59 N) ⟨k_q42 N, k_q43 N, k_q45 N, k_q32 N, k_q55 N, k_q56 N, k_q58 N, trivial⟩ (show E.P.funcs[49]? = some Tryz.f49 from by kernel_rfl) (by kernel_rfl)
theorem k_q60 (N : Nat) : ConOk E ⟨168, ps_q60, rs_q60, q60 N⟩ := conOf envOk (x_q60 N) trivial (show E.P.funcs[168]? = some Tryz.f168 from by kernel_rfl) (by kernel_rfl)
theorem k_q61 (N : Nat) : ConOk E ⟨107, ps_q61, rs_q61, q61 N⟩ := conOf envOk (x_q61 N) ⟨k_q60 N, trivial⟩ (show E.P.funcs[107]? = some Tryz.f107 from by kernel_rfl) (by kernel_rfl)
theorem k_q62 (N : Nat) : ConOk E ⟨106, ps_q62, rs_q62, q62 N⟩ := conOf envOk (x_q62 N) trivial (show E.P.funcs[106]? = some Tryz.f106 from by kernel_rfl) (by kernel_rfl)
theorem k_q63 (N : Nat) : ConOk E ⟨50, ps_q63, rs_q63, q63 N⟩ := conOf envOk (x_q63 N) ⟨k_q61 N, k_q62 N, trivial⟩ (show E.P.funcs[50]? = some Tryz.f50 from by kernel_rfl) (by kernel_rfl)
theorem k_q64 (N : Nat) : ConOk E ⟨169, ps_q64, rs_q64, q64 N⟩ := conOf envOk (x_q64 N) ⟨k_q56 N, trivial⟩ (show E.P.funcs[169]? = some Tryz.f169 from by kernel_rfl) (by kernel_rfl)
theorem k_q65 (N : Nat) : ConOk E ⟨108, ps_q65, rs_q65, q65 N⟩ := conOf envOk (x_q65 N) ⟨k_q64 N, trivial⟩ (show E.P.funcs[108]? = some Tryz.f108 from by kernel_rfl) (by kernel_rfl)
theorem k_q66 (N : Nat) : ConOk E ⟨51, ps_q66, rs_q66, q66 N⟩ := conOf envOk (x_q66 N) ⟨k_q65 N, k_q32 N, k_q14 N, trivial⟩ (show E.P.funcs[51]? = some Tryz.f51 from by kernel_rfl) (by kernel_rfl)
theorem k_q67 (N : Nat) : ConOk E ⟨18, ps_q67, rs_q67, q67 N⟩ := conOf envOk (x_q67 N) ⟨k_q37 N, k_q40 N, k_q59 N, k_q63 N, k_q66 N, trivial⟩ (show E.P.funcs[18]? = some Tryz.f18 from by kernel_rfl) (by kernel_rfl)
theorem k_q68 (N : Nat) : ConOk E ⟨80, ps_q68, rs_q68, q68 N⟩ := conOf envOk (x_q68 N) ⟨k_q42 N, k_q56 N, k_q58 N, trivial⟩ (show E.P.funcs[80]? = some Tryz.f80 from by kernel_rfl) (by kernel_rfl)
theorem k_q69 (N : Nat) : ConOk E ⟨33, ps_q69, rs_q69, q69 N⟩ := conOf envOk (x_q69 N) ⟨k_q68 N, k_q42 N, trivial⟩ (show E.P.funcs[33]? = some Tryz.f33 from by kernel_rfl) (by kernel_rfl)
theorem k_q70 (N : Nat) : ConOk E ⟨235, ps_q70, rs_q70, q70 N⟩ := conOf envOk (x_q70 N) trivial (show E.P.funcs[235]? = some Tryz.f235 from by kernel_rfl) (by kernel_rfl)
theorem k_q71 (N : Nat) : ConOk E ⟨256, ps_q71, rs_q71, q71 N⟩ := conOf envOk (x_q71 N) trivial (show E.P.funcs[256]? = some Tryz.f256 from by kernel_rfl) (by kernel_rfl)
theorem k_q72 (N : Nat) : ConOk E ⟨255, ps_q72, rs_q72, q72 N⟩ := conOf envOk (x_q72 N) trivial (show E.P.funcs[255]? = some Tryz.f255 from by kernel_rfl) (by kernel_rfl)
theorem k_q73 (N : Nat) : ConOk E ⟨257, ps_q73, rs_q73, q73 N⟩ := conOf envOk (x_q73 N) trivial (show E.P.funcs[257]? = some Tryz.f257 from by kernel_rfl) (by kernel_rfl)
theorem k_q74 (N : Nat) : ConOk E ⟨258, ps_q74, rs_q74, q74 N⟩ := conOf envOk (x_q74 N) trivial (show E.P.funcs[258]? = some Tryz.f258 from by kernel_rfl) (by kernel_rfl)
theorem k_q75 (N : Nat) : ConOk E ⟨268, ps_q75, rs_q75, q75 N⟩ := conOf envOk (x_q75 N) trivial (show E.P.funcs[268]? = some Tryz.f268 from by kernel_rfl) (by kernel_rfl)
theorem k_q76 (N : Nat) : ConOk E ⟨269, ps_q76, rs_q76, q76 N⟩ := conOf envOk (x_q76 N) trivial (show E.P.funcs[269]? = some Tryz.f269 from by kernel_rfl) (by kernel_rfl)
theorem k_q77 (N : Nat) : ConOk E ⟨259, ps_q77, rs_q77, q77 N⟩ := conOf envOk (x_q77 N) ⟨k_q75 N, k_q76 N, trivial⟩ (show E.P.funcs[259]? = some Tryz.f259 from by kernel_rfl) (by kernel_rfl)
theorem k_q78 (N : Nat) : ConOk E ⟨210, ps_q78, rs_q78, q78 N⟩ := conOf envOk (x_q78 N) ⟨k_q70 N, trivial⟩ (show E.P.funcs[210]? = some Tryz.f210 from by kernel_rfl) (by kernel_rfl)
theorem k_q79 (N : Nat) : ConOk E ⟨150, ps_q79, rs_q79, q79 N⟩ := conOf envOk (x_q79 N) ⟨k_q78 N, trivial⟩ (show E.P.funcs[150]? = some Tryz.f150 from by kernel_rfl) (by kernel_rfl)
theorem k_q80 (N : Nat) : ConOk E ⟨82, ps_q80, rs_q80, q80 N⟩ := conOf envOk (x_q80 N) ⟨k_q79 N, trivial⟩ (show E.P.funcs[82]? = some Tryz.f82 from by kernel_rfl) (by kernel_rfl)
theorem k_q81 (N : Nat) : ConOk E ⟨34, ps_q81, rs_q81, q81 N⟩ := conOf envOk (x_q81 N) ⟨k_q80 N, trivial⟩ (show E.P.funcs[34]? = some Tryz.f34 from by kernel_rfl) (by kernel_rfl)
theorem k_stl_add (N : Nat) : ConOk E ⟨32, ps_stl_add, rs_stl_add, stl_add N⟩ := conOf envOk (x_stl_add N) trivial (show E.P.funcs[32]? = some Tryz.f32 from by kernel_rfl) (by kernel_rfl)
theorem k_q82 (N : Nat) : ConOk E ⟨64, ps_q82, rs_q82, q82 N⟩ := conOf envOk (x_q82 N) ⟨k_q16 N, trivial⟩ (show E.P.funcs[64]? = some Tryz.f64 from by kernel_rfl) (by kernel_rfl)
theorem k_q83 (N : Nat) : ConOk E ⟨26, ps_q83, rs_q83, q83 N⟩ := conOf envOk (x_q83 N) ⟨k_q82 N, trivial⟩ (show E.P.funcs[26]? = some Tryz.f26 from by kernel_rfl) (by kernel_rfl)
theorem k_stl_bare (N : Nat) : ConOk E ⟨45, ps_stl_bare, rs_stl_bare, stl_bare N⟩ := conOf envOk (x_stl_bare N) ⟨k_q83 N, trivial⟩ (show E.P.funcs[45]? = some Tryz.f45 from by kernel_rfl) (by kernel_rfl)
theorem k_q84 (N : Nat) : ConOk E ⟨16, ps_q84, rs_q84, q84 N⟩ := conOf envOk (x_q84 N) ⟨k_q67 N, k_q69 N, k_q81 N, k_stl_add N, k_stl_bare N, trivial⟩ (show E.P.funcs[16]? = some Tryz.f16 from by kernel_rfl) (by kernel_rfl)
theorem k_l24_awake (N : Nat) : ConOk E ⟨11, ps_l24_awake, rs_l24_awake, l24_awake N⟩ := conOf envOk (x_l24_awake N) ⟨k_stl_Text N, k_q31 N, k_q84 N, trivial⟩ (show E.P.funcs[11]? = some Tryz.f11 from by kernel_rfl) (by kernel_rfl)
theorem k_l24_few (N : Nat) : ConOk E ⟨12, ps_l24_few, rs_l24_few, l24_few N⟩ := conOf envOk (x_l24_few N) trivial (show E.P.funcs[12]? = some Tryz.f12 from by kernel_rfl) (by kernel_rfl)
theorem k_q85 (N : Nat) : ConOk E ⟨77, ps_q85, rs_q85, q85 N⟩ := conOf envOk (x_q85 N) ⟨k_q34 N, k_q35 N, trivial⟩ (show E.P.funcs[77]? = some Tryz.f77 from by kernel_rfl) (by kernel_rfl)
theorem k_q86 (N : Nat) : ConOk E ⟨78, ps_q86, rs_q86, q86 N⟩ := conOf envOk (x_q86 N) ⟨k_q33 N, trivial⟩ (show E.P.funcs[78]? = some Tryz.f78 from by kernel_rfl) (by kernel_rfl)
theorem k_q87 (N : Nat) : ConOk E ⟨79, ps_q87, rs_q87, q87 N⟩ := conOf envOk (x_q87 N) trivial (show E.P.funcs[79]? = some Tryz.f79 from by kernel_rfl) (by kernel_rfl)
theorem k_q88 (N : Nat) : ConOk E ⟨31, ps_q88, rs_q88, q88 N⟩ := conOf envOk (x_q88 N) ⟨k_q85 N, k_q86 N, k_q87 N, trivial⟩ (show E.P.funcs[31]? = some Tryz.f31 from by kernel_rfl) (by kernel_rfl)
theorem k_q89 (N : Nat) : ConOk E ⟨13, ps_q89, rs_q89, q89 N⟩ := conOf envOk (x_q89 N) ⟨k_q67 N, k_q88 N, k_q69 N, k_q81 N, k_stl_add N, trivial⟩ (show E.P.funcs[13]? = some Tryz.f13 from by kernel_rfl) (by kernel_rfl)
theorem k_q90 (N : Nat) : ConOk E ⟨65, ps_q90, rs_q90, q90 N⟩ := conOf envOk (x_q90 N) ⟨k_q85 N, k_q88 N, k_q86 N, k_q87 N, trivial⟩ (show E.P.funcs[65]? = some Tryz.f65 from by kernel_rfl) (by kernel_rfl)
theorem k_q91 (N : Nat) : ConOk E ⟨179, ps_q91, rs_q91, q91 N⟩ := conOf envOk (x_q91 N) trivial (show E.P.funcs[179]? = some Tryz.f179 from by kernel_rfl) (by kernel_rfl)
theorem k_bytealg_IndexByte (N : Nat) : ConOk E ⟨180, ps_bytealg_IndexByte, rs_bytealg_IndexByte, bytealg_IndexByte N⟩ := kh_bytealg_IndexByte N
theorem k_q92 (N : Nat) : ConOk E ⟨125, ps_q92, rs_q92, q92 N⟩ := conOf envOk (x_q92 N) ⟨k_bytealg_IndexByte N, trivial⟩ (show E.P.funcs[125]? = some Tryz.f125 from by kernel_rfl) (by kernel_rfl)
theorem k_q93 (N : Nat) : ConOk E ⟨124, ps_q93, rs_q93, q93 N⟩ := conOf envOk (x_q93 N) ⟨k_q91 N, k_q92 N, trivial⟩ (show E.P.funcs[124]? = some Tryz.f124 from by kernel_rfl) (by kernel_rfl)
theorem k_q94 (N : Nat) : ConOk E ⟨126, ps_q94, rs_q94, q94 N⟩ := conOf envOk (x_q94 N) trivial (show E.P.funcs[126]? = some Tryz.f126 from by kernel_rfl) (by kernel_rfl)
theorem k_q95 (N : Nat) : ConOk E ⟨66, ps_q95, rs_q95, q95 N⟩ := conOf envOk (x_q95 N) ⟨k_q93 N, k_q92 N, k_q94 N, trivial⟩ (show E.P.funcs[66]? = some Tryz.f66 from by kernel_rfl) (by kernel_rfl)
theorem k_q96 (N : Nat) : ConOk E ⟨200, ps_q96, rs_q96, q96 N⟩ := conOf envOk (x_q96 N) ⟨k_q85 N, k_q86 N, k_q87 N, trivial⟩ (show E.P.funcs[200]? = some Tryz.f200 from by kernel_rfl) (by kernel_rfl)
theorem k_q97 (N : Nat) : ConOk E ⟨181, ps_q97, rs_q97, q97 N⟩ := conOf envOk (x_q97 N) ⟨k_q32 N, k_q14 N, k_q96 N, trivial⟩ (show E.P.funcs[181]? = some Tryz.f181 from by kernel_rfl) (by kernel_rfl)
theorem k_q98 (N : Nat) : ConOk E ⟨246, ps_q98, rs_q98, q98 N⟩ := conOf envOk (x_q98 N) trivial (show E.P.funcs[246]? = some Tryz.f246 from by kernel_rfl) (by kernel_rfl)
theorem k_q99 (N : Nat) : ConOk E ⟨247, ps_q99, rs_q99, q99 N⟩ := conOf envOk (x_q99 N) trivial (show E.P.funcs[247]? = some Tryz.f247 from by kernel_rfl) (by kernel_rfl)
theorem k_bits_Mul (N : Nat) : ConOk E ⟨224, ps_bits_Mul, rs_bits_Mul, bits_Mul N⟩ := conOf envOk (x_bits_Mul N) ⟨k_q98 N, k_q99 N, trivial⟩ (show E.P.funcs[224]? = some Tryz.f224 from by kernel_rfl) (by kernel_rfl)
theorem k_q100 (N : Nat) : ConOk E ⟨182, ps_q100, rs_q100, q100 N⟩ := conOf envOk (x_q100 N) ⟨k_bits_Mul N, trivial⟩ (show E.P.funcs[182]? = some Tryz.f182 from by kernel_rfl) (by kernel_rfl)
theorem k_q101 (N : Nat) : ConOk E ⟨183, ps_q101, rs_q101, q101 N⟩ := conOf envOk (x_q101 N) trivial (show E.P.funcs[183]? = some Tryz.f183 from by kernel_rfl) (by kernel_rfl)
theorem k_q102 (N : Nat) : ConOk E ⟨184, ps_q102, rs_q102, q102 N⟩ := conOf envOk (x_q102 N) trivial (show E.P.funcs[184]? = some Tryz.f184 from by kernel_rfl) (by kernel_rfl)
theorem k_q103 (N : Nat) : ConOk E ⟨185, ps_q103, rs_q103, q103 N⟩ := conOf envOk (x_q103 N) ⟨k_q102 N, trivial⟩ (show E.P.funcs[185]? = some Tryz.f185 from by kernel_rfl) (by kernel_rfl)
theorem k_q104 (N : Nat) : ConOk E ⟨127, ps_q104, rs_q104, q104 N⟩ := conOf envOk (x_q104 N) ⟨k_q97 N, k_q30 N, k_q100 N, k_q101 N, k_q102 N, k_q103 N, trivial⟩ (show E.P.funcs[127]? = some Tryz.f127 from by kernel_rfl) (by kernel_rfl)
theorem k_tape_Put (N : Nat) : ConOk E ⟨128, ps_tape_Put, rs_tape_Put, tape_Put N⟩ := conOf envOk (x_tape_Put N) ⟨k_q93 N, k_q100 N, trivial⟩ (show E.P.funcs[128]? = some Tryz.f128 from by kernel_rfl) (by kernel_rfl)
theorem k_q105 (N : Nat) : ConOk E ⟨67, ps_q105, rs_q105, q105 N⟩ := conOf envOk (x_q105 N) ⟨k_q104 N, k_tape_Put N, trivial⟩ (show E.P.funcs[67]? = some Tryz.f67 from by kernel_rfl) (by kernel_rfl)
theorem k_q106 (N : Nat) : ConOk E ⟨27, ps_q106, rs_q106, q106 N⟩ := conOf envOk (x_q106 N) ⟨k_q89 N, k_q69 N, k_q90 N, k_stl_Text N, k_q95 N, k_q105 N, trivial⟩ (show E.P.funcs[27]? = some Tryz.f27 from by kernel_rfl) (by kernel_rfl)
theorem k_q107 (N : Nat) : ConOk E ⟨192, ps_q107, rs_q107, q107 N⟩ := conOf envOk (x_q107 N) trivial (show E.P.funcs[192]? = some Tryz.f192 from by kernel_rfl) (by kernel_rfl)
theorem k_q108 (N : Nat) : ConOk E ⟨193, ps_q108, rs_q108, q108 N⟩ := conOf envOk (x_q108 N) ⟨k_q107 N, trivial⟩ (show E.P.funcs[193]? = some Tryz.f193 from by kernel_rfl) (by kernel_rfl)
theorem k_q109 (N : Nat) : ConOk E ⟨226, ps_q109, rs_q109, q109 N⟩ := conOf envOk (x_q109 N) trivial (show E.P.funcs[226]? = some Tryz.f226 from by kernel_rfl) (by kernel_rfl)
theorem k_q110 (N : Nat) : ConOk E ⟨228, ps_q110, rs_q110, q110 N⟩ := conOf envOk (x_q110 N) trivial (show E.P.funcs[228]? = some Tryz.f228 from by kernel_rfl) (by kernel_rfl)
theorem k_q111 (N : Nat) : ConOk E ⟨263, ps_q111, rs_q111, q111 N⟩ := conOf envOk (x_q111 N) trivial (show E.P.funcs[263]? = some Tryz.f263 from by kernel_rfl) (by kernel_rfl)
theorem k_q112 (N : Nat) : ConOk E ⟨272, ps_q112, rs_q112, q112 N⟩ := conOf envOk (x_q112 N) trivial (show E.P.funcs[272]? = some Tryz.f272 from by kernel_rfl) (by kernel_rfl)
theorem k_q113 (N : Nat) : ConOk E ⟨264, ps_q113, rs_q113, q113 N⟩ := conOf envOk (x_q113 N) ⟨k_q112 N, trivial⟩ (show E.P.funcs[264]? = some Tryz.f264 from by kernel_rfl) (by kernel_rfl)
theorem k_q114 (N : Nat) : ConOk E ⟨249, ps_q114, rs_q114, q114 N⟩ := conOf envOk (x_q114 N) ⟨k_q111 N, k_q113 N, trivial⟩ (show E.P.funcs[249]? = some Tryz.f249 from by kernel_rfl) (by kernel_rfl)
theorem k_q115 (N : Nat) : ConOk E ⟨250, ps_q115, rs_q115, q115 N⟩ := conOf envOk (x_q115 N) trivial (show E.P.funcs[250]? = some Tryz.f250 from by kernel_rfl) (by kernel_rfl)
theorem k_q116 (N : Nat) : ConOk E ⟨229, ps_q116, rs_q116, q116 N⟩ := conOf envOk (x_q116 N) ⟨k_q114 N, k_q115 N, trivial⟩ (show E.P.funcs[229]? = some Tryz.f229 from by kernel_rfl) (by kernel_rfl)
theorem k_q117 (N : Nat) : ConOk E ⟨194, ps_q117, rs_q117, q117 N⟩ := conOf envOk (x_q117 N) ⟨k_q109 N, k_q110 N, k_q116 N, trivial⟩ (show E.P.funcs[194]? = some Tryz.f194 from by kernel_rfl) (by kernel_rfl)
theorem k_q118 (N : Nat) : ConOk E ⟨118, ps_q118, rs_q118, q118 N⟩ := conOf envOk (x_q118 N) ⟨k_q13 N, trivial⟩ (show E.P.funcs[118]? = some Tryz.f118 from by kernel_rfl) (by kernel_rfl)
theorem k_q119 (N : Nat) : ConOk E ⟨60, ps_q119, rs_q119, q119 N⟩ := conOf envOk (x_q119 N) ⟨k_q20 N, k_q118 N, k_q28 N, trivial⟩ (show E.P.funcs[60]? = some Tryz.f60 from by kernel_rfl) (by kernel_rfl)
theorem k_q120 (N : Nat) : ConOk E ⟨265, ps_q120, rs_q120, q120 N⟩ := conOf envOk (x_q120 N) trivial (show E.P.funcs[265]? = some Tryz.f265 from by kernel_rfl) (by kernel_rfl)
theorem k_q121 (N : Nat) : ConOk E ⟨251, ps_q121, rs_q121, q121 N⟩ := conOf envOk (x_q121 N) ⟨k_q120 N, trivial⟩ (show E.P.funcs[251]? = some Tryz.f251 from by kernel_rfl) (by kernel_rfl)
theorem k_q122 (N : Nat) : ConOk E ⟨230, ps_q122, rs_q122, q122 N⟩ := conOf envOk (x_q122 N) ⟨k_strings_Builder_copyCheck N, k_q121 N, trivial⟩ (show E.P.funcs[230]? = some Tryz.f230 from by kernel_rfl) (by kernel_rfl)
theorem k_q123 (N : Nat) : ConOk E ⟨195, ps_q123, rs_q123, q123 N⟩ := conOf envOk (x_q123 N) ⟨k_q119 N, k_q122 N, trivial⟩ (show E.P.funcs[195]? = some Tryz.f195 from by kernel_rfl) (by kernel_rfl)
theorem k_q124 (N : Nat) : ConOk E ⟨196, ps_q124, rs_q124, q124 N⟩ := conOf envOk (x_q124 N) trivial (show E.P.funcs[196]? = some Tryz.f196 from by kernel_rfl) (by kernel_rfl)
theorem k_q125 (N : Nat) : ConOk E ⟨134, ps_q125, rs_q125, q125 N⟩ := conOf envOk (x_q125 N) ⟨k_q107 N, k_q108 N, k_q101 N, k_q117 N, k_q123 N, k_q104 N, k_q124 N, trivial⟩ (show E.P.funcs[134]? = some Tryz.f134 from by kernel_rfl) (by kernel_rfl)
theorem k_q126 (N : Nat) : ConOk E ⟨197, ps_q126, rs_q126, q126 N⟩ := conOf envOk (x_q126 N) trivial (show E.P.funcs[197]? = some Tryz.f197 from by kernel_rfl) (by kernel_rfl)
theorem k_q127 (N : Nat) : ConOk E ⟨266, ps_q127, rs_q127, q127 N⟩ := conOf envOk (x_q127 N) trivial (show E.P.funcs[266]? = some Tryz.f266 from by kernel_rfl) (by kernel_rfl)
theorem k_q128 (N : Nat) : ConOk E ⟨253, ps_q128, rs_q128, q128 N⟩ := conOf envOk (x_q128 N) ⟨k_q127 N, trivial⟩ (show E.P.funcs[253]? = some Tryz.f253 from by kernel_rfl) (by kernel_rfl)
theorem k_q129 (N : Nat) : ConOk E ⟨231, ps_q129, rs_q129, q129 N⟩ := conOf envOk (x_q129 N) ⟨k_q92 N, k_q124 N, k_q25 N, k_q128 N, trivial⟩ (show E.P.funcs[231]? = some Tryz.f231 from by kernel_rfl) (by kernel_rfl)
theorem k_q130 (N : Nat) : ConOk E ⟨198, ps_q130, rs_q130, q130 N⟩ := conOf envOk (x_q130 N) ⟨k_q129 N, trivial⟩ (show E.P.funcs[198]? = some Tryz.f198 from by kernel_rfl) (by kernel_rfl)
theorem k_tape_Get (N : Nat) : ConOk E ⟨135, ps_tape_Get, rs_tape_Get, tape_Get N⟩ := conOf envOk (x_tape_Get N) ⟨k_q126 N, k_q130 N, k_q94 N, k_tape_Put N, k_q124 N, trivial⟩ (show E.P.funcs[135]? = some Tryz.f135 from by kernel_rfl) (by kernel_rfl)
theorem k_q131 (N : Nat) : ConOk E ⟨71, ps_q131, rs_q131, q131 N⟩ := conOf envOk (x_q131 N) ⟨k_q125 N, k_tape_Get N, trivial⟩ (show E.P.funcs[71]? = some Tryz.f71 from by kernel_rfl) (by kernel_rfl)
theorem k_q132 (N : Nat) : ConOk E ⟨199, ps_q132, rs_q132, q132 N⟩ := conOf envOk (x_q132 N) trivial (show E.P.funcs[199]? = some Tryz.f199 from by kernel_rfl) (by kernel_rfl)
theorem k_q133 (N : Nat) : ConOk E ⟨136, ps_q133, rs_q133, q133 N⟩ := conOf envOk (x_q133 N) ⟨k_q93 N, k_q132 N, trivial⟩ (show E.P.funcs[136]? = some Tryz.f136 from by kernel_rfl) (by kernel_rfl)
theorem k_q134 (N : Nat) : ConOk E ⟨137, ps_q134, rs_q134, q134 N⟩ := conOf envOk (x_q134 N) ⟨k_q96 N, k_q86 N, k_q87 N, trivial⟩ (show E.P.funcs[137]? = some Tryz.f137 from by kernel_rfl) (by kernel_rfl)
theorem k_q135 (N : Nat) : ConOk E ⟨59, ps_q135, rs_q135, q135 N⟩ := conOf envOk (x_q135 N) ⟨k_q18 N, trivial⟩ (show E.P.funcs[59]? = some Tryz.f59 from by kernel_rfl) (by kernel_rfl)
theorem k_stl_Rows (N : Nat) : ConOk E ⟨22, ps_stl_Rows, rs_stl_Rows, stl_Rows N⟩ := conOf envOk (x_stl_Rows N) ⟨k_q83 N, k_q135 N, k_q119 N, trivial⟩ (show E.P.funcs[22]? = some Tryz.f22 from by kernel_rfl) (by kernel_rfl)
theorem k_q136 (N : Nat) : ConOk E ⟨72, ps_q136, rs_q136, q136 N⟩ := conOf envOk (x_q136 N) ⟨k_q133 N, k_q81 N, k_q134 N, k_stl_Rows N, k_stl_add N, k_q59 N, trivial⟩ (show E.P.funcs[72]? = some Tryz.f72 from by kernel_rfl) (by kernel_rfl)
theorem k_q137 (N : Nat) : ConOk E ⟨52, ps_q137, rs_q137, q137 N⟩ := conOf envOk (x_q137 N) trivial (show E.P.funcs[52]? = some Tryz.f52 from by kernel_rfl) (by kernel_rfl)
theorem k_q138 (N : Nat) : ConOk E ⟨232, ps_q138, rs_q138, q138 N⟩ := conOf envOk (x_q138 N) trivial (show E.P.funcs[232]? = some Tryz.f232 from by kernel_rfl) (by kernel_rfl)
theorem k_q139 (N : Nat) : ConOk E ⟨201, ps_q139, rs_q139, q139 N⟩ := conOf envOk (x_q139 N) ⟨k_q137 N, k_q138 N, trivial⟩ (show E.P.funcs[201]? = some Tryz.f201 from by kernel_rfl) (by kernel_rfl)
theorem k_q140 (N : Nat) : ConOk E ⟨138, ps_q140, rs_q140, q140 N⟩ := conOf envOk (x_q140 N) ⟨k_q139 N, trivial⟩ (show E.P.funcs[138]? = some Tryz.f138 from by kernel_rfl) (by kernel_rfl)
theorem k_q141 (N : Nat) : ConOk E ⟨140, ps_q141, rs_q141, q141 N⟩ := conOf envOk (x_q141 N) ⟨k_q61 N, k_q62 N, trivial⟩ (show E.P.funcs[140]? = some Tryz.f140 from by kernel_rfl) (by kernel_rfl)
theorem k_q142 (N : Nat) : ConOk E ⟨233, ps_q142, rs_q142, q142 N⟩ := conOf envOk (x_q142 N) ⟨k_q141 N, trivial⟩ (show E.P.funcs[233]? = some Tryz.f233 from by kernel_rfl) (by kernel_rfl)
theorem k_q143 (N : Nat) : ConOk E ⟨267, ps_q143, rs_q143, q143 N⟩ := conOf envOk (x_q143 N) ⟨k_q141 N, trivial⟩ (show E.P.funcs[267]? = some Tryz.f267 from by kernel_rfl) (by kernel_rfl)
theorem k_q144 (N : Nat) : ConOk E ⟨254, ps_q144, rs_q144, q144 N⟩ := conOf envOk (x_q144 N) ⟨k_q141 N, k_q143 N, trivial⟩ (show E.P.funcs[254]? = some Tryz.f254 from by kernel_rfl) (by kernel_rfl)
theorem kr_q145 (N : Nat) : ∀ D, ConOk E ⟨234, ps_q145, rs_q145, q145_r N D⟩
 | 0 => fun _ _ h => by cases h
 | D + 1 => by
  have hc : CallsOk E [⟨140, ps_q141, rs_q141, q141 N⟩, ⟨254, ps_q144, rs_q144, q144 N⟩, ⟨234, ps_q145, rs_q145, q145_r N D⟩] := callsOk_all ⟨k_q141 N, k_q144 N, kr_q145 N D, trivial⟩
  rw [← x_q145 N D]
  exact execF_ok envOk hc (drawn_ok envOk hc) (show E.P.funcs[234]? = some Tryz.f234 from by kernel_rfl) (by kernel_rfl) _ _ _
theorem k_q145 (N : Nat) : ConOk E ⟨234, ps_q145, rs_q145, q145 N⟩ := kr_q145 N N
theorem k_q146 (N : Nat) : ConOk E ⟨202, ps_q146, rs_q146, q146 N⟩ := conOf envOk (x_q146 N) ⟨k_q141 N, k_q142 N, k_q145 N, trivial⟩ (show E.P.funcs[202]? = some Tryz.f202 from by kernel_rfl) (by kernel_rfl)
theorem k_q147 (N : Nat) : ConOk E ⟨139, ps_q147, rs_q147, q147 N⟩ := conOf envOk (x_q147 N) ⟨k_q141 N, k_q146 N, trivial⟩ (show E.P.funcs[139]? = some Tryz.f139 from by kernel_rfl) (by kernel_rfl)
theorem k_q148 (N : Nat) : ConOk E ⟨73, ps_q148, rs_q148, q148 N⟩ := conOf envOk (x_q148 N) ⟨k_q140 N, k_q147 N, k_q141 N, trivial⟩ (show E.P.funcs[73]? = some Tryz.f73 from by kernel_rfl) (by kernel_rfl)
theorem k_q149 (N : Nat) : ConOk E ⟨29, ps_q149, rs_q149, q149 N⟩ := conOf envOk (x_q149 N) ⟨k_q131 N, k_q136 N, k_q90 N, k_q148 N, trivial⟩ (show E.P.funcs[29]? = some Tryz.f29 from by kernel_rfl) (by kernel_rfl)
theorem k_q150 (N : Nat) : ConOk E ⟨40, ps_q150, rs_q150, q150 N⟩ := conOf envOk (x_q150 N) trivial (show E.P.funcs[40]? = some Tryz.f40 from by kernel_rfl) (by kernel_rfl)
theorem k_q151 (N : Nat) : ConOk E ⟨41, ps_q151, rs_q151, q151 N⟩ := conOf envOk (x_q151 N) trivial (show E.P.funcs[41]? = some Tryz.f41 from by kernel_rfl) (by kernel_rfl)
theorem k_q152 (N : Nat) : ConOk E ⟨123, ps_q152, rs_q152, q152 N⟩ := conOf envOk (x_q152 N) trivial (show E.P.funcs[123]? = some Tryz.f123 from by kernel_rfl) (by kernel_rfl)
theorem k_q153 (N : Nat) : ConOk E ⟨63, ps_q153, rs_q153, q153 N⟩ := conOf envOk (x_q153 N) ⟨k_q152 N, trivial⟩ (show E.P.funcs[63]? = some Tryz.f63 from by kernel_rfl) (by kernel_rfl)
theorem k_q154 (N : Nat) : ConOk E ⟨62, ps_q154, rs_q154, q154 N⟩ := conOf envOk (x_q154 N) ⟨k_q153 N, trivial⟩ (show E.P.funcs[62]? = some Tryz.f62 from by kernel_rfl) (by kernel_rfl)
theorem k_q155 (N : Nat) : ConOk E ⟨25, ps_q155, rs_q155, q155 N⟩ := conOf envOk (x_q155 N) ⟨k_q154 N, k_q153 N, trivial⟩ (show E.P.funcs[25]? = some Tryz.f25 from by kernel_rfl) (by kernel_rfl)
theorem k_q156 (N : Nat) : ConOk E ⟨43, ps_q156, rs_q156, q156 N⟩ := conOf envOk (x_q156 N) ⟨k_q155 N, trivial⟩ (show E.P.funcs[43]? = some Tryz.f43 from by kernel_rfl) (by kernel_rfl)
theorem k_q157 (N : Nat) : ConOk E ⟨42, ps_q157, rs_q157, q157 N⟩ := conOf envOk (x_q157 N) ⟨k_q156 N, trivial⟩ (show E.P.funcs[42]? = some Tryz.f42 from by kernel_rfl) (by kernel_rfl)
theorem k_q158 (N : Nat) : ConOk E ⟨44, ps_q158, rs_q158, q158 N⟩ := conOf envOk (x_q158 N) trivial (show E.P.funcs[44]? = some Tryz.f44 from by kernel_rfl) (by kernel_rfl)
theorem k_q159 (N : Nat) : ConOk E ⟨15, ps_q159, rs_q159, q159 N⟩ := conOf envOk (x_q159 N) ⟨k_q150 N, k_q151 N, k_q157 N, k_q156 N, k_q158 N, trivial⟩ (show E.P.funcs[15]? = some Tryz.f15 from by kernel_rfl) (by kernel_rfl)
theorem k_l24_StlCarries (N : Nat) : ConOk E ⟨10, ps_l24_StlCarries, rs_l24_StlCarries, l24_StlCarries N⟩ := conOf envOk (x_l24_StlCarries N) ⟨k_l24_awake N, k_l24_few N, k_q106 N, k_q149 N, k_q84 N, k_q159 N, trivial⟩ (show E.P.funcs[10]? = some Tryz.f10 from by kernel_rfl) (by kernel_rfl)
end
end Go.Mo
end

section
/-
  Plain facts on the words of models; what is made of bytes.
-/
namespace Go.Mo
open Go Go.W
theorem grd_t {α : Type} {b : Bool} {k : Option α} (h : b = true) : grd b k = k := by subst h; rfl
theorem cnd_t {α : Type} {b : Bool} {x y : Option α} (h : b = true) : cnd b x y = x := by subst h; rfl
theorem cnd_f {α : Type} {b : Bool} {x y : Option α} (h : b = false) : cnd b x y = y := by subst h; rfl
theorem bnd_s {α β : Type} {x : Option α} {a : α} {k : α → Option β} (h : x = some a) : bnd x k = k a := by subst h; rfl
theorem jn_e {F α : Type} {k : F} {t : F → Option α} : jn k t = t k := rfl
theorem fixN_s {V R : Type} {F : (V → Option R) → V → Option R} {n : Nat} {v : V} : fixN F (n + 1) v = F (fixN F n) v := rfl
theorem w64_id {x : Int} (h : -9223372036854775808 ≤ x ∧ x ≤ 9223372036854775807) : w64 x = x := by
 show IntKind.wrap .i64 x = x
 unfold IntKind.wrap
 simp only [IntKind.bits, IntKind.signed, Bool.true_and, decide_eq_true_eq, show (2 : Int) ^ 64 = 18446744073709551616 from rfl, show (2 : Int) ^ (64 - 1) = 9223372036854775808 from rfl]
 split <;> omega
theorem wru64_id {x : Int} (h : 0 ≤ x ∧ x < 18446744073709551616) : wr .u64 x = x := by
 show IntKind.wrap .u64 x = x
 unfold IntKind.wrap
 simp only [IntKind.bits, IntKind.signed, Bool.false_and, Bool.false_eq_true, if_false]
 omega
theorem ilt_t {a b : Int} (h : a < b) : ilt a b = true := decide_eq_true h
theorem ilt_f {a b : Int} (h : ¬ a < b) : ilt a b = false := decide_eq_false h
theorem ile_t {a b : Int} (h : a ≤ b) : ile a b = true := decide_eq_true h
theorem ile_f {a b : Int} (h : ¬ a ≤ b) : ile a b = false := decide_eq_false h
theorem ieq_t {a b : Int} (h : a = b) : ieq a b = true := by subst h; simp [ieq]
theorem ieq_f {a b : Int} (h : a ≠ b) : ieq a b = false := by simp [ieq, h]
theorem ine_t {a b : Int} (h : a ≠ b) : ine a b = true := by simp [ine, h]
theorem ine_f {a b : Int} (h : a = b) : ine a b = false := by simp [ine, h]
theorem inb_t {i n : Int} (h : 0 ≤ i ∧ i < n) : inb i n = true := decide_eq_true h
theorem in2_t {i n : Int} (h : 0 ≤ i ∧ i ≤ n) : in2 i n = true := decide_eq_true h
theorem in3_t {l h n : Int} (q : 0 ≤ l ∧ l ≤ h ∧ h ≤ n) : in3 l h n = true := decide_eq_true q
theorem room_t {n : Int} {b : Nat} (h : n * b ≤ 140737488355328) : room n b = true := decide_eq_true h
theorem mkOk_t {l c : Int} {b : Nat} (h : 0 ≤ l ∧ l ≤ c ∧ c * b ≤ 140737488355328) : mkOk l c b = true := decide_eq_true h
theorem rep_loop {b : UInt8} {n : Nat} (hn : n ≤ 1024) : ∀ (fuel bp : Nat) (buf : List UInt8), n - bp < fuel → 1 ≤ bp → bp ≤ n → buf.length = n → buf.take bp = List.replicate bp b →
  fixN (fun v5 (v6 : Int × List UInt8) =>
        cnd (ilt v6.1 (n : Int))
         (grd (in2 v6.1 (ofN (nlen v6.2)))
          (grd (in2 (imin v6.1 (n : Int)) (ofN (nlen v6.2)))
           (v5 (w64 (iadd v6.1 (imin (len (cutl v6.2 0 (toN (imin v6.1 (n : Int))))) (ofN (nsub (nlen v6.2) (toN v6.1))))), putl v6.2 (toN v6.1) (ltake (nsub (nlen v6.2) (toN v6.1)) (cutl v6.2 0 (toN (imin v6.1 (n : Int)))))))))
         (some v6.2)) fuel ((bp : Int), buf) = some (List.replicate n b)
 | 0, bp, buf, h, _, _, _, _ => by omega
 | fuel + 1, bp, buf, h, h1, h2, h3, h4 => by
  rw [fixN_s]
  simp only
  by_cases he : bp = n
  ·subst he
   rw [cnd_f (ilt_f (by omega))]
   rw [← h3, List.take_length, h3] at h4
   rw [h4]
  ·have hmin : imin (bp : Int) (n : Int) = (bp : Int) := by show min (bp : Int) n = bp; omega
   rw [cnd_t (ilt_t (by omega)), grd_t (in2_t (by simp only [ofN, nlen]; omega)), hmin, grd_t (in2_t (by simp only [ofN, nlen]; omega))]
   have hc : cutl buf 0 (toN (bp : Int)) = List.replicate bp b := by
    simp only [cutl, toN, List.drop_zero, Int.toNat_natCast]
    exact h4
   have hsub : nsub (nlen buf) (toN (bp : Int)) = n - bp := by simp [nsub, nlen, toN, h3]
   rw [hc, hsub]
   have hl : imin (len (List.replicate bp b)) (ofN (n - bp)) = ((min bp (n - bp) : Nat) : Int) := by
    simp only [imin, len, ofN, List.length_replicate]; omega
   have hw : w64 (iadd (bp : Int) (imin (len (List.replicate bp b)) (ofN (n - bp)))) = ((bp + min bp (n - bp) : Nat) : Int) := by
    rw [hl]
    simp only [iadd]
    rw [w64_id (by omega)]
    omega
   rw [hw]
   have ht : ltake (n - bp) (List.replicate bp b) = List.replicate (min bp (n - bp)) b := by
    simp only [ltake, List.take_replicate]
    rw [Nat.min_comm]
   rw [ht]
   have hp : putl buf (toN (bp : Int)) (List.replicate (min bp (n - bp)) b) = List.replicate (bp + min bp (n - bp)) b ++ buf.drop (bp + min bp (n - bp)) := by
    simp only [putl, toN, Int.toNat_natCast, List.length_replicate]
    rw [h4, List.replicate_append_replicate]
   rw [hp]
   refine rep_loop hn fuel _ _ (by omega) (by omega) (by omega) ?_ ?_
   ·simp [h3]; omega
   ·rw [List.take_left' (by simp)]
theorem n8_inj {a b : UInt8} (h : n8 a = n8 b) : a = b := by
 unfold n8 at h
 apply UInt8.toNat_inj.1
 omega
end Go.Mo
end

section
/-
  Plain facts: rates, labels, the repertoire of characters.
-/
namespace Go.Mo
open Go Go.W
set_option maxRecDepth 100000
theorem all_u8 {P : UInt8 → Bool} (h : ((List.range 256).all fun n => P (UInt8.ofNat n)) = true) (x : UInt8) : P x = true := by
 have h1 : x.toNat < 256 := x.toNat_lt
 have := List.all_eq_true.1 h x.toNat (List.mem_range.2 h1)
 simpa using this
end Go.Mo
end

section
/-
  Plain facts: the repertoire of characters.
-/
namespace Go.Mo
open Go Go.W
set_option maxRecDepth 100000
noncomputable def fuelM : Nat := Classical.choose (⟨7995000, rfl⟩ : ∃ n : Nat, n = 7995000)
noncomputable def fuelH : Nat := fuelM + 5000
theorem fuelH_eq : fuelH = 8000000 := by
 have h : fuelM = 7995000 := Classical.choose_spec (⟨7995000, rfl⟩ : ∃ n : Nat, n = 7995000)
 unfold fuelH
 rw [h]
noncomputable def hiRunes : List Int := [161, 162, 163, 164, 165, 166, 167, 169, 171, 174, 176, 183, 187, 189, 191, 192, 193, 194, 195, 196, 197, 198, 199, 200, 201, 202, 203, 204, 205, 206, 207, 209, 210, 211, 212, 213, 214, 216, 217, 218, 219, 220, 223, 224, 225, 226, 227, 228, 229, 230, 231, 232, 233, 234, 235, 236, 237, 238, 239, 241, 242, 243, 244, 245, 246, 248, 249, 250, 251, 252, 338, 339, 8212, 8216, 8217, 8220, 8221, 8226, 8230, 8482, 9834]
noncomputable def loRunes : List Int := (List.range 95).map fun n => ((n + 32 : Nat) : Int)
noncomputable def chain : List Int → Int → Int → Option Int
 | [], _, _ => some (-1)
 | c :: l, i, r => cnd (ieq c r) (some i) (chain l (iadd i 1) r)
noncomputable def rep : List UInt8 := [32, 33, 34, 35, 36, 37, 38, 39, 40, 41, 42, 43, 44, 45, 46, 47, 48, 49, 50, 51, 52, 53, 54, 55, 56, 57, 58, 59, 60, 61, 62, 63, 64, 65, 66, 67, 68, 69, 70, 71, 72, 73, 74, 75, 76, 77, 78, 79, 80, 81, 82, 83, 84, 85, 86, 87, 88, 89, 90, 91, 92, 93, 94, 95, 96, 97, 98, 99, 100, 101, 102, 103, 104, 105, 106, 107, 108, 109, 110, 111, 112, 113, 114, 115, 116, 117, 118, 119, 120, 121, 122, 123, 124, 125, 126, 194, 161, 194, 162, 194, 163, 194, 164, 194, 165, 194, 166, 194, 167, 194, 169, 194, 171, 194, 174, 194, 176, 194, 183, 194, 187, 194, 189, 194, 191, 195, 128, 195, 129, 195, 130, 195, 131, 195, 132, 195, 133, 195, 134, 195, 135, 195, 136, 195, 137, 195, 138, 195, 139, 195, 140, 195, 141, 195, 142, 195, 143, 195, 145, 195, 146, 195, 147, 195, 148, 195, 149, 195, 150, 195, 152, 195, 153, 195, 154, 195, 155, 195, 156, 195, 159, 195, 160, 195, 161, 195, 162, 195, 163, 195, 164, 195, 165, 195, 166, 195, 167, 195, 168, 195, 169, 195, 170, 195, 171, 195, 172, 195, 173, 195, 174, 195, 175, 195, 177, 195, 178, 195, 179, 195, 180, 195, 181, 195, 182, 195, 184, 195, 185, 195, 186, 195, 187, 195, 188, 197, 146, 197, 147, 226, 128, 148, 226, 128, 152, 226, 128, 153, 226, 128, 156, 226, 128, 157, 226, 128, 162, 226, 128, 166, 226, 132, 162, 226, 153, 170]
theorem place_eqN (N : Nat) (r : Int) : q12 (N + 300) (rep, r) = chain (loRunes ++ hiRunes) 0 r := by kernel_rfl
theorem place_eq (r : Int) : q12 fuelH (rep, r) = chain (loRunes ++ hiRunes) 0 r := place_eqN (fuelM + 4700) r
theorem r08_indexN (N : Nat) (r : Int) : q165 N r = cnd (ile 32 r) (cnd (ile r 126) (some (w64 (wr .i32 (isub r 32)))) (q12 N (rep, r))) (q12 N (rep, r)) := by kernel_rfl
theorem r08_index (r : Int) : q165 fuelH r = cnd (ile 32 r) (cnd (ile r 126) (some (w64 (wr .i32 (isub r 32)))) (q12 fuelH (rep, r))) (q12 fuelH (rep, r)) := r08_indexN fuelH r
theorem ch_indexN (N : Nat) (r : Int) : q13 N r = cnd (ile 32 r) (cnd (ile r 126) (some (w64 (wr .i32 (isub r 32)))) (bnd (q12 N (rep, r)) fun v => some v)) (bnd (q12 N (rep, r)) fun v => some v) := by kernel_rfl
theorem ch_index (r : Int) : q13 fuelH r = cnd (ile 32 r) (cnd (ile r 126) (some (w64 (wr .i32 (isub r 32)))) (bnd (q12 fuelH (rep, r)) fun v => some v)) (bnd (q12 fuelH (rep, r)) fun v => some v) := ch_indexN fuelH r
theorem chain_ok : ∀ (l : List Int) (i r : Int), 0 ≤ i → ∃ k, chain l i r = some k ∧ (k < 0 ↔ l.contains r = false)
 | [], i, r, _ => ⟨-1, rfl, by simp⟩
 | c :: l, i, r, h => by
  by_cases hc : c = r
  ·exact ⟨i, by simp only [chain]; rw [cnd_t (ieq_t hc)], by subst hc; simp; omega⟩
  ·obtain ⟨k, h1, h2⟩ := chain_ok l (iadd i 1) r (by show 0 ≤ i + 1; omega)
   refine ⟨k, by simp only [chain]; rw [cnd_f (ieq_f hc)]; exact h1, ?_⟩
   rw [h2]
   simp only [List.contains_cons, Bool.or_eq_false_iff]
   exact ⟨fun h => ⟨by simpa using fun e => hc e.symm, h⟩, fun h => h.2⟩
noncomputable def inRep (r : Int) : Bool := (decide (32 ≤ r) && decide (r ≤ 126)) || hiRunes.contains r
theorem wi32_id {x : Int} (h : 0 ≤ x ∧ x < 1000) : wr .i32 x = x := by
 show IntKind.wrap .i32 x = x
 unfold IntKind.wrap
 simp only [IntKind.bits, IntKind.signed, Bool.true_and, decide_eq_true_eq, show (2 : Int) ^ 32 = 4294967296 from rfl, show (2 : Int) ^ (32 - 1) = 2147483648 from rfl]
 split <;> omega
theorem lo_mem (r : Int) : loRunes.contains r = (decide (32 ≤ r) && decide (r ≤ 126)) := by
 rw [Bool.eq_iff_iff]
 simp only [loRunes, List.contains_iff_mem, List.mem_map, List.mem_range, Bool.and_eq_true, decide_eq_true_eq]
 constructor
 ·rintro ⟨n, hn, rfl⟩; omega
 ·intro h; exact ⟨(r - 32).toNat, by omega, by omega⟩
theorem index_some (r : Int) : ∃ i, q13 fuelH r = some i ∧ q165 fuelH r = some i ∧ (i < 0 ↔ inRep r = false) := by
 rw [ch_index, r08_index, place_eq]
 obtain ⟨k, h1, h2⟩ := chain_ok (loRunes ++ hiRunes) 0 r (Int.le_refl _)
 have hin : (loRunes ++ hiRunes).contains r = inRep r := by
  unfold inRep
  rw [← lo_mem]
  simp [List.contains_eq_mem, List.mem_append]
 rw [hin] at h2
 by_cases ha : 32 ≤ r
 ·rw [cnd_t (ile_t ha), cnd_t (ile_t ha)]
  by_cases hb : r ≤ 126
  ·rw [cnd_t (ile_t hb), cnd_t (ile_t hb)]
   refine ⟨_, rfl, rfl, ?_⟩
   have : w64 (wr .i32 (isub r 32)) = r - 32 := by
    simp only [isub]
    rw [wi32_id (by omega), w64_id (by omega)]
   rw [this]
   simp [inRep, ha, hb]
  ·rw [cnd_f (ile_f hb), cnd_f (ile_f hb)]
   exact ⟨k, by rw [bnd_s h1], h1, h2⟩
 ·rw [cnd_f (ile_f ha), cnd_f (ile_f ha)]
  exact ⟨k, by rw [bnd_s h1], h1, h2⟩
theorem index_stl (r : Int) : ∃ i, q13 fuelH r = some i ∧ (i < 0 ↔ inRep r = false) := by
 rw [ch_index, place_eq]
 obtain ⟨k, h1, h2⟩ := chain_ok (loRunes ++ hiRunes) 0 r (Int.le_refl _)
 have hin : (loRunes ++ hiRunes).contains r = inRep r := by
  unfold inRep
  rw [← lo_mem]
  simp [List.contains_eq_mem, List.mem_append]
 rw [hin] at h2
 by_cases ha : 32 ≤ r
 ·rw [cnd_t (ile_t ha)]
  by_cases hb : r ≤ 126
  ·rw [cnd_t (ile_t hb)]
   refine ⟨_, rfl, ?_⟩
   have : w64 (wr .i32 (isub r 32)) = r - 32 := by
    simp only [isub]
    rw [wi32_id (by omega), w64_id (by omega)]
   rw [this]
   simp [inRep, ha, hb]
  ·rw [cnd_f (ile_f hb)]
   exact ⟨k, by rw [bnd_s h1], h2⟩
 ·rw [cnd_f (ile_f ha)]
  exact ⟨k, by rw [bnd_s h1], h2⟩
end Go.Mo
end

section
/-
  Plain facts: texts of the repertoire.
-/
namespace Go.Mo
open Go Go.W Go.Lib
set_option maxRecDepth 100000
theorem dec_pos (l : List UInt8) : 1 ≤ (decodeL l).2 := by
 unfold decodeL Utf8.decode
 simp only
 repeat' split
 all_goals first | exact Nat.le_refl _ | (show 1 ≤ _; omega)
theorem decR_eq (s : List UInt8) (p : Nat) : decR s p = ((decodeL (s.drop p)).1 : Int) := by
 have := decodeL_drop (bst s) p
 have e : (bst s).data.toList = s := rfl
 rw [e] at this
 unfold decR
 rw [this]
theorem decW_eq (s : List UInt8) (p : Nat) : decW s p = (decodeL (s.drop p)).2 := by
 have := decodeL_drop (bst s) p
 have e : (bst s).data.toList = s := rfl
 rw [e] at this
 unfold decW
 rw [this]
noncomputable def rok : Nat → List UInt8 → Bool
 | 0, _ => true
 | n + 1, l => if l = [] then true else if inRep ((decodeL l).1 : Int) = true then rok n (l.drop (decodeL l).2) else false
noncomputable def vld (l : List UInt8) : Bool := rok l.length l
theorem rok_nil : ∀ n, rok n [] = true
 | 0 => rfl
 | n + 1 => by simp [rok]
theorem rok_fuel : ∀ (n m : Nat) (l : List UInt8), l.length ≤ n → l.length ≤ m → rok n l = rok m l
 | 0, m, l, h, _ => by
  have : l = [] := List.eq_nil_of_length_eq_zero (by omega)
  subst this
  rw [rok_nil, rok_nil]
 | n + 1, 0, l, _, h => by
  have : l = [] := List.eq_nil_of_length_eq_zero (by omega)
  subst this
  rw [rok_nil, rok_nil]
 | n + 1, m + 1, l, h1, h2 => by
  by_cases hl : l = []
  ·subst hl; rw [rok_nil, rok_nil]
  ·have hp := dec_pos l
   have hlen : 0 < l.length := List.length_pos_iff.2 hl
   simp only [rok, hl, if_false]
   split
   ·exact rok_fuel n m _ (by simp; omega) (by simp; omega)
   ·rfl
theorem vld_step (l : List UInt8) (hl : l ≠ []) : vld l = if inRep ((decodeL l).1 : Int) = true then vld (l.drop (decodeL l).2) else false := by
 have hp := dec_pos l
 have hlen : 0 < l.length := List.length_pos_iff.2 hl
 unfold vld
 obtain ⟨n, hn⟩ : ∃ n, l.length = n + 1 := ⟨l.length - 1, by omega⟩
 rw [hn]
 simp only [rok, hl, if_false]
 split
 ·exact rok_fuel _ _ _ (by simp; omega) (Nat.le_refl _)
 ·rfl
theorem vld_valid : ∀ (n : Nat) (l : List UInt8), l.length ≤ n → vld l = true → validD l = true
 | n, l, h, hv => by
  by_cases hl : l = []
  ·subst hl; rfl
  ·have hlen : 0 < l.length := List.length_pos_iff.2 hl
   have hp := dec_pos l
   rw [vld_step l hl] at hv
   split at hv
   ·rename_i hr
    rw [validD_step l hl, if_neg ?_]
    ·cases n with
     | zero => omega
     | succ n => exact vld_valid n _ (by simp; omega) hv
    ·rintro ⟨e, _⟩
     rw [e] at hr
     exact absurd hr (by decide)
   ·cases hv
theorem valid_loop {s : List UInt8} (hs : s.length ≤ 100000000) (Ix : Int → Option Int) (hI : ∀ r : Int, ∃ i, Ix r = some i ∧ (i < 0 ↔ inRep r = false)) : ∀ (fuel p : Nat), s.length - p < fuel → p ≤ s.length →
  fixN (fun v2 (v3 : (List UInt8) × Int) =>
  cnd (nlt (toN v3.2) (nlen v3.1))
   (bnd (Ix (decR v3.1 (toN v3.2))) fun v4 =>
   cnd (ilt v4 (0 : Int))
    (some false)
    (v2 (v3.1, ofN (nadd (toN v3.2) (decW v3.1 (toN v3.2))))))
   (some true)) fuel (s, ofN p) = some (vld (s.drop p))
 | 0, p, h, _ => by omega
 | fuel + 1, p, h, hp => by
  rw [fixN_s]
  have et : toN (ofN p) = p := by simp [toN, ofN]
  simp only [et]
  by_cases hl : p < s.length
  ·have hne : s.drop p ≠ [] := by intro e; have := congrArg List.length e; simp at this; omega
   have hw := dec_pos (s.drop p)
   have hle := decodeL_le (s.drop p) hne
   rw [List.length_drop] at hle
   rw [cnd_t (show nlt p (nlen s) = true from decide_eq_true hl)]
   obtain ⟨i, h1, h2⟩ := hI (decR s p)
   rw [bnd_s h1]
   rw [vld_step _ hne, ← decR_eq]
   by_cases hi : i < 0
   ·rw [cnd_t (ilt_t hi), if_neg (by rw [h2.1 hi]; decide)]
   ·rw [cnd_f (ilt_f hi)]
    have hin : inRep (decR s p) = true := by
     cases hq : inRep (decR s p) with
     | true => rfl
     | false => exact absurd (h2.2 hq) hi
    rw [if_pos hin, decW_eq, List.drop_drop]
    show fixN _ fuel (s, ofN (p + (decodeL (s.drop p)).2)) = _
    exact valid_loop hs Ix hI fuel _ (by omega) (by omega)
  ·rw [cnd_f (show nlt p (nlen s) = false from decide_eq_false hl)]
   have : s.drop p = [] := by simp; omega
   rw [this]
   rfl
theorem r08_valid (s : List UInt8) (hs : s.length ≤ 4000000) : q168 fuelH s = some (vld s) := by
 unfold q168
 simp only [jn_e]
 have := valid_loop (s := s) (by omega) (q165 fuelH) (fun r => by obtain ⟨i, _, h2, h3⟩ := index_some r; exact ⟨i, h2, h3⟩) fuelH 0 (by have := fuelH_eq; omega) (Nat.zero_le _)
 simpa using this
theorem ch_valid (s : List UInt8) (hs : s.length ≤ 4000000) : q14 fuelH s = some (vld s) := by
 unfold q14
 have hv : utf8_ValidString fuelH s = some (validD s) := by
  show grd (catOk (len s)) (some (validD s)) = _
  exact grd_t (decide_eq_true (by simp only [len]; omega))
 rw [bnd_s hv]
 simp only [jn_e]
 cases hd : validD s with
 | false =>
  rw [cnd_t (show bnot false = true from rfl)]
  cases hq : vld s with
  | false => rfl
  | true => rw [vld_valid _ s (Nat.le_refl _) hq] at hd; cases hd
 | true =>
  rw [cnd_f (show bnot true = false from rfl)]
  have := valid_loop (s := s) (by omega) (q13 fuelH) (fun r => by obtain ⟨i, h2, h3⟩ := index_stl r; exact ⟨i, h2, h3⟩) fuelH 0 (by have := fuelH_eq; omega) (Nat.zero_le _)
  simpa using this
end Go.Mo
end

section
/-
  Plain facts: names; the check of a header.
-/
namespace Go.Mo
open Go Go.W Go.Lib
set_option maxRecDepth 100000
theorem cnd_dec {α : Type} {p : Prop} [Decidable p] {x y : Option α} : cnd (decide p) x y = if p then x else y := by
 by_cases h : p
 ·rw [cnd_t (decide_eq_true h), if_pos h]
 ·rw [cnd_f (decide_eq_false h), if_neg h]
theorem cnd_ilt {α : Type} {a b : Int} {x y : Option α} : cnd (ilt a b) x y = if a < b then x else y := cnd_dec
theorem cnd_ile {α : Type} {a b : Int} {x y : Option α} : cnd (ile a b) x y = if a ≤ b then x else y := cnd_dec
theorem cnd_ieq {α : Type} {a b : Int} {x y : Option α} : cnd (ieq a b) x y = if a = b then x else y := by
 by_cases h : a = b
 ·rw [cnd_t (ieq_t h), if_pos h]
 ·rw [cnd_f (ieq_f h), if_neg h]
theorem cnd_ine {α : Type} {a b : Int} {x y : Option α} : cnd (ine a b) x y = if a ≠ b then x else y := by
 by_cases h : a = b
 ·rw [cnd_f (ine_f h), if_neg (by simp [h])]
 ·rw [cnd_t (ine_t h), if_pos h]
noncomputable def okc (c : Int) : Bool := decide ((65 ≤ c ∧ c ≤ 90) ∨ (48 ≤ c ∧ c ≤ 57) ∨ c = 95 ∨ c = 45)
theorem nm_body (c : Int) (X : Option Bool) :
  (cnd (ilt c (n8 (65 : UInt8)))
          (cnd (ilt c (n8 (48 : UInt8)))
           (cnd (ine c (n8 (95 : UInt8)))
            (cnd (ine c (n8 (45 : UInt8)))
             (some false)
             X)
            X)
           (cnd (ilt (n8 (57 : UInt8)) c)
            (cnd (ine c (n8 (95 : UInt8)))
             (cnd (ine c (n8 (45 : UInt8)))
              (some false)
              X)
             X)
            X))
          (cnd (ilt (n8 (90 : UInt8)) c)
           (cnd (ilt c (n8 (48 : UInt8)))
            (cnd (ine c (n8 (95 : UInt8)))
             (cnd (ine c (n8 (45 : UInt8)))
              (some false)
              X)
             X)
            (cnd (ilt (n8 (57 : UInt8)) c)
             (cnd (ine c (n8 (95 : UInt8)))
              (cnd (ine c (n8 (45 : UInt8)))
               (some false)
               X)
              X)
             X))
           X)) = cnd (okc c) X (some false) := by
 have e1 : n8 (65 : UInt8) = 65 := rfl
 have e2 : n8 (48 : UInt8) = 48 := rfl
 have e3 : n8 (95 : UInt8) = 95 := rfl
 have e4 : n8 (45 : UInt8) = 45 := rfl
 have e5 : n8 (57 : UInt8) = 57 := rfl
 have e6 : n8 (90 : UInt8) = 90 := rfl
 rw [e1, e2, e3, e4, e5, e6]
 simp only [cnd_ilt, cnd_ine, okc, cnd_dec]
 repeat' split
 all_goals first | rfl | (exfalso; omega)
noncomputable def upc (c : Int) : Bool := decide (65 ≤ c ∧ c ≤ 90)
noncomputable def nm (s : List UInt8) : Bool := decide (1 ≤ s.length ∧ s.length ≤ 16) && upc (n8 (s.getD 0 0)) && s.all fun c => okc (n8 c)
theorem all_step {s : List UInt8} {i : Nat} (h : i < s.length) (P : UInt8 → Bool) : (s.drop i).all P = (P s[i] && (s.drop (i + 1)).all P) := by
 rw [List.drop_eq_getElem_cons h, List.all_cons]
theorem nm_loop {s : List UInt8} (hs : s.length ≤ 16) : ∀ (fuel i : Nat), s.length - i < fuel → i ≤ s.length →
  fixN (fun v2 (v3 : Int) =>
        cnd (ilt v3 (len s))
         (grd (inb v3 (len s)) (cnd (okc (n8 (lget s (toN v3) (0 : UInt8)))) (v2 (w64 (iadd v3 (1 : Int)))) (some false)))
         (some true)) fuel (i : Int) = some ((s.drop i).all fun c => okc (n8 c))
 | 0, i, h, _ => by omega
 | fuel + 1, i, h, hi => by
  rw [fixN_s]
  by_cases hl : i < s.length
  ·have g : lget s (toN (i : Int)) 0 = s[i] := by simp [lget, toN, hl]
   rw [cnd_t (ilt_t (by simp only [len]; omega)), grd_t (inb_t (by simp only [len]; omega)), g, all_step hl]
   have hw : w64 (iadd (i : Int) 1) = ((i + 1 : Nat) : Int) := by
    simp only [iadd]; rw [w64_id (by omega)]; omega
   rw [hw, nm_loop hs fuel (i + 1) (by omega) (by omega)]
   cases okc (n8 s[i]) <;> rfl
  ·rw [cnd_f (ilt_f (by simp only [len]; omega))]
   have : s.drop i = [] := by simp; omega
   rw [this]
   rfl
theorem lines_name (s : List UInt8) : q32 fuelH s = some (nm s) := by
 unfold q32
 simp only [jn_e, nm_body]
 by_cases h1 : s.length < 1
 ·rw [cnd_t (ilt_t (by simp only [len]; omega))]
  simp [nm]; omega
 ·rw [cnd_f (ilt_f (by simp only [len]; omega))]
  by_cases h2 : 16 < s.length
  ·rw [cnd_t (ilt_t (by simp only [len]; omega))]
   simp [nm]; omega
  ·rw [cnd_f (ilt_f (by simp only [len]; omega)), grd_t (inb_t (by simp only [len]; omega))]
   have e0 : lget s (toN 0) 0 = s.getD 0 0 := rfl
   have e1 : n8 (65 : UInt8) = 65 := rfl
   have e2 : n8 (90 : UInt8) = 90 := rfl
   rw [e0, e1, e2, cnd_ilt]
   have hd : decide (1 ≤ s.length ∧ s.length ≤ 16) = true := decide_eq_true (by omega)
   split
   ·rename_i h3
    have : upc (n8 (s.getD 0 0)) = false := decide_eq_false (by omega)
    simp only [nm, this, Bool.and_false, Bool.false_and]
   ·rw [grd_t (inb_t (by simp only [len]; omega)), cnd_ilt]
    split
    ·rename_i h4
     have : upc (n8 (s.getD 0 0)) = false := decide_eq_false (by omega)
     simp only [nm, this, Bool.and_false, Bool.false_and]
    ·have hu : upc (n8 (s.getD 0 0)) = true := decide_eq_true (by omega)
     have := nm_loop (s := s) (by omega) fuelH 0 (by have := fuelH_eq; omega) (Nat.zero_le _)
     simp only [nm, hu, hd, Bool.true_and]
     simpa using this
end Go.Mo
end

section
/-
  Plain facts: the check of a header.
-/
namespace Go.Mo
open Go Go.W Go.Lib
set_option maxRecDepth 100000
abbrev Lbl := Int × Int × Int × Int × Bool
abbrev Hdr := UInt8 × (List UInt8) × (List UInt8) × Int × Int × Lbl × Lbl × Int × Int
theorem cnd_bnot {α : Type} {p : Prop} [Decidable p] {x y : Option α} : cnd (bnot (decide p)) x y = if p then y else x := by
 by_cases hp : p <;> simp [hp, bnot, cnd]
theorem bnd_some' {α β : Type} {a : α} {k : α → Option β} : bnd (some a) k = k a := rfl
theorem rng_eq {α : Type} {n lo hi : Int} {x r : Option α} : cnd (bnot (decide (lo ≤ n ∧ n ≤ hi))) x r = cnd (ilt n lo) x (cnd (ilt hi n) x r) := by
 rw [cnd_bnot, cnd_ilt, cnd_ilt]
 repeat' split
 all_goals first | rfl | (exfalso; omega)
end Go.Mo
end

section
/-
  Plain facts: the characters of a text, and the text of characters.
-/
namespace Go.Mo
open Go Go.W Go.Lib
set_option maxRecDepth 100000
noncomputable def rnsF : Nat → List UInt8 → List Int
 | 0, _ => []
 | n + 1, l => if l = [] then [] else ((decodeL l).1 : Int) :: rnsF n (l.drop (decodeL l).2)
noncomputable def rns (l : List UInt8) : List Int := rnsF l.length l
noncomputable def ofR (l : List Int) : List UInt8 := l.flatMap enc
theorem rnsF_nil : ∀ n, rnsF n [] = []
 | 0 => rfl
 | n + 1 => by simp [rnsF]
theorem rnsF_fuel : ∀ (n m : Nat) (l : List UInt8), l.length ≤ n → l.length ≤ m → rnsF n l = rnsF m l
 | 0, m, l, h, _ => by
  have : l = [] := List.eq_nil_of_length_eq_zero (by omega)
  subst this
  rw [rnsF_nil, rnsF_nil]
 | n + 1, 0, l, _, h => by
  have : l = [] := List.eq_nil_of_length_eq_zero (by omega)
  subst this
  rw [rnsF_nil, rnsF_nil]
 | n + 1, m + 1, l, h1, h2 => by
  by_cases hl : l = []
  ·subst hl; rw [rnsF_nil, rnsF_nil]
  ·have hp := dec_pos l
   have hlen : 0 < l.length := List.length_pos_iff.2 hl
   simp only [rnsF, hl, if_false]
   rw [rnsF_fuel n m _ (by simp; omega) (by simp; omega)]
theorem rns_step (l : List UInt8) (hl : l ≠ []) : rns l = ((decodeL l).1 : Int) :: rns (l.drop (decodeL l).2) := by
 have hp := dec_pos l
 have hlen : 0 < l.length := List.length_pos_iff.2 hl
 unfold rns
 obtain ⟨n, hn⟩ : ∃ n, l.length = n + 1 := ⟨l.length - 1, by omega⟩
 rw [hn]
 simp only [rnsF, hl, if_false]
 rw [rnsF_fuel n _ _ (by simp; omega) (Nat.le_refl _)]
theorem rep_mem {r : Int} (h : inRep r = true) : r ∈ loRunes ++ hiRunes := by
 unfold inRep at h
 rw [← lo_mem, Bool.or_eq_true] at h
 rw [List.mem_append]
 rcases h with h | h
 ·exact .inl (List.contains_iff_mem.1 h)
 ·exact .inr (List.contains_iff_mem.1 h)
theorem all_rep {P : Int → Bool} (h : ((loRunes ++ hiRunes).all P) = true) {r : Int} (hr : inRep r = true) : P r = true :=
 List.all_eq_true.1 h r (rep_mem hr)
theorem enc_rep {r : Int} (hr : inRep r = true) : enc r = encodeRune r :=
 of_decide_eq_true (all_rep (P := fun r => decide (enc r = encodeRune r)) (by kernel_rfl) hr)
theorem enc_dec (l : List UInt8) (hl : l ≠ []) (hr : inRep ((decodeL l).1 : Int) = true) : enc ((decodeL l).1 : Int) = l.take (decodeL l).2 := by
 rw [enc_rep hr]
 refine encode_decode l hl ?_
 rintro ⟨e, _⟩
 rw [e] at hr
 exact absurd hr (by decide)
theorem rns_rep : ∀ (n : Nat) (l : List UInt8), l.length ≤ n → vld l = true → (rns l).all inRep = true ∧ ofR (rns l) = l
 | n, l, h, hv => by
  by_cases hl : l = []
  ·subst hl; exact ⟨rfl, rfl⟩
  ·have hlen : 0 < l.length := List.length_pos_iff.2 hl
   have hp := dec_pos l
   rw [vld_step l hl] at hv
   split at hv
   ·rename_i hr
    cases n with
    | zero => omega
    | succ n =>
     obtain ⟨h1, h2⟩ := rns_rep n _ (by simp; omega) hv
     rw [rns_step l hl]
     refine ⟨by rw [List.all_cons, hr, h1]; rfl, ?_⟩
     unfold ofR at h2 ⊢
     rw [List.flatMap_cons, h2, enc_dec l hl hr, List.take_append_drop]
   ·cases hv
theorem rns_ok {l : List UInt8} (h : vld l = true) : (rns l).all inRep = true := (rns_rep _ l (Nat.le_refl _) h).1
theorem ofR_rns {l : List UInt8} (h : vld l = true) : ofR (rns l) = l := (rns_rep _ l (Nat.le_refl _) h).2
theorem rns_len : ∀ (n : Nat) (l : List UInt8), l.length ≤ n → (rns l).length ≤ l.length
 | n, l, h => by
  by_cases hl : l = []
  ·subst hl; exact Nat.le_refl _
  ·have hlen : 0 < l.length := List.length_pos_iff.2 hl
   have hp := dec_pos l
   rw [rns_step l hl]
   cases n with
   | zero => omega
   | succ n =>
    have := rns_len n (l.drop (decodeL l).2) (by simp; omega)
    simp at this ⊢
    omega
noncomputable def foldR {σ R : Type} (g : Int → σ → (σ → Option R) → Option R) (e : σ → Option R) : List Int → σ → Option R
 | [], a => e a
 | r :: l, a => g r a fun a' => foldR g e l a'
theorem str_loop {V R σ : Type} {F : (V → Option R) → V → Option R} {s : List UInt8} (st : σ → Nat → V) (g : Int → σ → (σ → Option R) → Option R) (e : σ → Option R)
  (hstep : ∀ self a p, p < s.length → F self (st a p) = g (decR s p) a fun a' => self (st a' (p + decW s p)))
  (hend : ∀ self a p, s.length ≤ p → F self (st a p) = e a) : ∀ (fuel p : Nat) (a : σ), s.length - p < fuel → fixN F fuel (st a p) = foldR g e (rns (s.drop p)) a
 | 0, p, a, h => by omega
 | fuel + 1, p, a, h => by
  rw [fixN_s]
  by_cases hp : p < s.length
  ·have hne : s.drop p ≠ [] := by intro e; have := congrArg List.length e; simp at this; omega
   have hw := dec_pos (s.drop p)
   rw [hstep _ _ _ hp, rns_step _ hne, ← decR_eq, foldR, List.drop_drop, ← decW_eq]
   congr 1
   funext a'
   rw [decW_eq]
   have := str_loop st g e hstep hend fuel (p + (decodeL (s.drop p)).2) a' (by omega)
   exact this
  ·rw [hend _ _ _ (by omega)]
   have : s.drop p = [] := by simp; omega
   rw [this]
   rfl
noncomputable def foldI {α σ R : Type} (g : Nat → α → σ → (σ → Option R) → Option R) (e : σ → Option R) : Nat → List α → σ → Option R
 | _, [], a => e a
 | i, x :: l, a => g i x a fun a' => foldI g e (i + 1) l a'
theorem lst_loop {V R σ α : Type} {F : (V → Option R) → V → Option R} {l : List α} (st : σ → Nat → V) (g : Nat → α → σ → (σ → Option R) → Option R) (e : σ → Option R)
  (hstep : ∀ self a i (h : i < l.length), F self (st a i) = g i l[i] a fun a' => self (st a' (i + 1)))
  (hend : ∀ self a, F self (st a l.length) = e a) : ∀ (fuel i : Nat) (a : σ), i ≤ l.length → l.length - i < fuel → fixN F fuel (st a i) = foldI g e i (l.drop i) a
 | 0, i, a, _, h => by omega
 | fuel + 1, i, a, hi, h => by
  rw [fixN_s]
  by_cases hl : i < l.length
  ·rw [hstep _ _ _ hl, List.drop_eq_getElem_cons hl, foldI]
   congr 1
   funext a'
   exact lst_loop st g e hstep hend fuel (i + 1) a' (by omega) (by omega)
  ·obtain rfl : i = l.length := by omega
   rw [hend, List.drop_length]
   rfl
theorem w64_succ {i n : Nat} (h : i < n) (hn : n ≤ 9223372036854775807) : w64 (iadd (i : Int) 1) = ((i + 1 : Nat) : Int) := by
 simp only [iadd]; rw [w64_id (by omega)]; omega
theorem lget_i {α : Type} {l : List α} {i : Nat} {d : α} (h : i < l.length) : lget l (toN (i : Int)) d = l[i] := by simp [lget, toN, h]
theorem nlt_t {a b : Nat} (h : a < b) : nlt a b = true := decide_eq_true h
theorem nlt_f {a b : Nat} (h : ¬ a < b) : nlt a b = false := decide_eq_false h
theorem toN_ofN (n : Nat) : toN (ofN n) = n := by simp [toN, ofN]
end Go.Mo
end

section
/-
  Plain facts: the characters of the tape form.
-/
namespace Go.Mo
open Go Go.W Go.Lib
set_option maxRecDepth 100000
noncomputable def ixE (r : Int) : Option Int := cnd (ile 32 r) (cnd (ile r 126) (some (w64 (wr .i32 (isub r 32)))) (chain (loRunes ++ hiRunes) 0 r)) (chain (loRunes ++ hiRunes) 0 r)
theorem bnd_id {α : Type} (x : Option α) : (bnd x fun v => some v) = x := by cases x <;> rfl
theorem ch_ix (r : Int) : q13 fuelH r = ixE r := by
 rw [ch_index, place_eq, bnd_id]
 rfl
theorem r08_ix (r : Int) : q165 fuelH r = ixE r := by
 rw [r08_index, place_eq]
 rfl
noncomputable def ix (r : Int) : Int := (ixE r).getD 0
theorem ix_tab : ((loRunes ++ hiRunes).all fun r => decide (ixE r = some (ix r) ∧ 0 ≤ ix r)) = true := by kernel_rfl
theorem ix_ok {r : Int} (hr : inRep r = true) : ixE r = some (ix r) ∧ 0 ≤ ix r := of_decide_eq_true (all_rep (P := fun r => decide (ixE r = some (ix r) ∧ 0 ≤ ix r)) ix_tab hr)
noncomputable def up (r : Int) : Int := if (97 ≤ r ∧ r ≤ 122) ∨ (224 ≤ r ∧ r ≤ 255) then r - 32 else if r = 339 then 338 else r
noncomputable def upK (x v0 : Int) : Option Int :=
 cnd (ilt v0 (0 : Int))
  (some (0 : Int))
  (jn (fun (v1 : Bool) =>
   cnd v1
    (some (wr .i32 (isub x (32 : Int))))
    (cnd (ieq x (339 : Int))
     (some (338 : Int))
     (some x)))
  fun v2 =>
  cnd (ile (97 : Int) x)
   (cnd (ile x (122 : Int))
    (v2 (ile x (122 : Int)))
    (cnd (ile (224 : Int) x)
     (v2 (ile x (255 : Int)))
     (v2 false)))
   (cnd (ile (224 : Int) x)
    (v2 (ile x (255 : Int)))
    (v2 false)))
theorem upper_eq {r : Int} (hr : inRep r = true) : q21 fuelH r = some (up r) := by
 have h : q21 fuelH r = bnd (q13 fuelH r) (upK r) := rfl
 rw [h, ch_ix, (ix_ok hr).1, bnd_some']
 exact of_decide_eq_true (all_rep (P := fun r => decide (upK r (ix r) = some (up r))) (by kernel_rfl) hr)
noncomputable def basT : List Int := [33, 99, 76, 36, 89, 124, 83, 67, 34, 82, 111, 46, 34, 50, 63, 65, 65, 65, 65, 65, 65, 65, 67, 69, 69, 69, 69, 73, 73, 73, 73, 78, 79, 79, 79, 79, 79, 79, 85, 85, 85, 85, 115, 97, 97, 97, 97, 97, 97, 97, 99, 101, 101, 101, 101, 105, 105, 105, 105, 110, 111, 111, 111, 111, 111, 111, 117, 117, 117, 117, 79, 111, 45, 39, 39, 34, 34, 46, 46, 84, 35]
noncomputable def bas (r : Int) : Int := if r < 127 then r else basT.getD ((ix r).toNat - 95) 0
noncomputable def basB : List UInt8 := [33, 99, 76, 36, 89, 124, 83, 67, 34, 82, 111, 46, 34, 50, 63, 65, 65, 65, 65, 65, 65, 65, 67, 69, 69, 69, 69, 73, 73, 73, 73, 78, 79, 79, 79, 79, 79, 79, 85, 85, 85, 85, 115, 97, 97, 97, 97, 97, 97, 97, 99, 101, 101, 101, 101, 105, 105, 105, 105, 110, 111, 111, 111, 111, 111, 111, 117, 117, 117, 117, 79, 111, 45, 39, 39, 34, 34, 46, 46, 84, 35]
noncomputable def basK (x v0 : Int) : Option Int :=
 cnd (ilt v0 (0 : Int))
  (some (0 : Int))
  (cnd (ilt v0 (95 : Int))
   (some x)
   (grd (inb (w64 (isub v0 (95 : Int))) (len basB))
    (some (wr .i32 (n8 (lget basB (toN (w64 (isub v0 (95 : Int)))) (0 : UInt8)))))))
theorem base_eq {r : Int} (hr : inRep r = true) : q28 fuelH r = some (bas r) := by
 have h : q28 fuelH r = bnd (q13 fuelH r) (basK r) := by kernel_rfl
 rw [h, ch_ix, (ix_ok hr).1, bnd_some']
 exact of_decide_eq_true (all_rep (P := fun r => decide (basK r (ix r) = some (bas r))) (by kernel_rfl) hr)
noncomputable def accs : List (UInt8 × List UInt8 × List Int) := [(193, [195, 128, 195, 136, 195, 140, 195, 146, 195, 153], [192, 200, 204, 210, 217]), (194, [195, 129, 195, 137, 195, 141, 195, 147, 195, 154], [193, 201, 205, 211, 218]), (195, [195, 130, 195, 138, 195, 142, 195, 148, 195, 155], [194, 202, 206, 212, 219]), (196, [195, 131, 195, 145, 195, 149], [195, 209, 213]), (197, [], []), (198, [], []), (199, [], []), (200, [195, 132, 195, 139, 195, 143, 195, 150, 195, 156], [196, 203, 207, 214, 220]), (201, [], []), (202, [195, 133], [197]), (203, [195, 135], [199])]
theorem cont_tab : (accs.all fun a => (loRunes ++ hiRunes).all fun r => decide (q27 fuelH (a.2.1, up r) = some (a.2.2.contains (up r)))) = true := by kernel_rfl
theorem cont_eq {a : UInt8 × List UInt8 × List Int} (ha : a ∈ accs) {r : Int} (hr : inRep r = true) : q27 fuelH (a.2.1, up r) = some (a.2.2.contains (up r)) :=
 of_decide_eq_true (all_rep (P := fun r => decide (q27 fuelH (a.2.1, up r) = some (a.2.2.contains (up r)))) (List.all_eq_true.1 cont_tab a ha) hr)
noncomputable def sgs : List (Int × UInt8) := [(161, 161), (162, 162), (163, 163), (164, 164), (165, 165), (166, 166), (167, 167), (169, 168), (8216, 169), (8220, 170), (171, 171), (174, 172), (8212, 173), (8226, 174), (8230, 175), (176, 176), (8482, 180), (183, 183), (8217, 185), (8221, 186), (187, 187), (189, 189), (191, 191), (9834, 213), (198, 225), (216, 233), (338, 234), (230, 241), (248, 249), (339, 250), (223, 251)]
noncomputable def sgC : List (Int × UInt8) → Int → Option (List UInt8) → Option (List UInt8)
 | [], _, k => k
 | (c, b) :: l, r, k => cnd (ieq c r) (some [b]) (sgC l r k)
noncomputable def acC : List (UInt8 × List UInt8 × List Int) → Int → Option (List UInt8)
 | [], _ => some []
 | (b, s, _) :: l, r => bnd (q21 fuelH r) fun v7 => bnd (q27 fuelH (s, v7)) fun v8 => cnd v8 (bnd (q28 fuelH r) fun v9 => some [b, b8 v9]) (acC l r)
theorem latin_put_eq (r : Int) : q29 fuelH r = bnd (q19 fuelH r) fun v0 => cnd (bnot v0) (some []) (cnd (ilt r 127) (some [b8 r]) (sgC sgs r (acC accs r))) := by kernel_rfl
noncomputable def acP : List (UInt8 × List UInt8 × List Int) → Int → List UInt8
 | [], _ => []
 | (b, _, l) :: r, x => if l.contains (up x) then [b, b8 (bas x)] else acP r x
theorem acC_eq {r : Int} (hr : inRep r = true) : ∀ (l : List (UInt8 × List UInt8 × List Int)), (∀ a ∈ l, a ∈ accs) → acC l r = some (acP l r)
 | [], _ => rfl
 | (b, s, m) :: l, h => by
  simp only [acC, acP]
  have := cont_eq (h (b, s, m) (by simp)) hr
  rw [upper_eq hr, bnd_some', bnd_s this, base_eq hr, bnd_some', acC_eq hr l fun a ha => h a (by simp [ha])]
  cases m.contains (up r) <;> rfl
noncomputable def sgP : List (Int × UInt8) → Int → List UInt8 → List UInt8
 | [], _, k => k
 | (c, b) :: l, r, k => if c = r then [b] else sgP l r k
theorem sgC_eq : ∀ (l : List (Int × UInt8)) (r : Int) (k : List UInt8), sgC l r (some k) = some (sgP l r k)
 | [], _, _ => rfl
 | (c, b) :: l, r, k => by
  simp only [sgC, sgP]
  rw [sgC_eq l r k]
  by_cases h : c = r
  ·rw [cnd_t (ieq_t h), if_pos h]
  ·rw [cnd_f (ieq_f h), if_neg h]
noncomputable def lat (r : Int) : List UInt8 := if r < 127 then [b8 r] else sgP sgs r (acP accs r)
theorem latin_put {r : Int} (hr : inRep r = true) : q29 fuelH r = some (lat r) := by
 have hc : q19 fuelH r = some true := by
  unfold q19
  rw [ch_ix, (ix_ok hr).1, bnd_some', ile_t (ix_ok hr).2]
 rw [latin_put_eq, bnd_s hc, cnd_f (by rfl), acC_eq hr accs fun a h => h, sgC_eq, cnd_ilt]
 unfold lat
 split <;> rfl
noncomputable def sgl (c : UInt8) : Int := if 32 ≤ n8 c ∧ n8 c ≤ 126 then n8 c else ((sgs.find? fun x => x.2 == c).map (·.1)).getD 0
theorem single_eq (c : UInt8) : q162 fuelH c = some (sgl c) :=
 of_decide_eq_true (all_u8 (P := fun c => decide (q162 fuelH c = some (sgl c))) (by kernel_rfl) c)
noncomputable def dbl (a b : UInt8) : Int :=
 let c := if 97 ≤ n8 b ∧ n8 b ≤ 122 then b - 32 else b
 match (accs.filter fun x => x.1 == a).flatMap fun x => x.2.2.filter fun r => bas r == n8 c with
 | [] => 0
 | r :: _ => if 97 ≤ n8 b ∧ n8 b ≤ 122 then r + 32 else r
theorem double_eq {n k : Nat} (hn : n < 11) (hk : k < 58) : q163 fuelH (UInt8.ofNat (n + 193), UInt8.ofNat (k + 65)) = some (dbl (UInt8.ofNat (n + 193)) (UInt8.ofNat (k + 65))) := by
 have : ((List.range 11).all fun n => (List.range 58).all fun k => decide (q163 fuelH (UInt8.ofNat (n + 193), UInt8.ofNat (k + 65)) = some (dbl (UInt8.ofNat (n + 193)) (UInt8.ofNat (k + 65))))) = true := by kernel_rfl
 exact of_decide_eq_true (List.all_eq_true.1 (List.all_eq_true.1 this n (List.mem_range.2 hn)) k (List.mem_range.2 hk))
noncomputable def sg256 : List Int := (List.range 256).map fun n => sgl (UInt8.ofNat n)
noncomputable def db638 : List (List Int) := (List.range 11).map fun n => (List.range 58).map fun k => dbl (UInt8.ofNat (n + 193)) (UInt8.ofNat (k + 65))
noncomputable def idxI : List Int → Int → Nat → Option Nat
 | [], _, _ => none
 | c :: l, r, i => if c = r then some i else idxI l r (i + 1)
noncomputable def idxII : List (List Int) → Int → Nat → Option (Nat × Nat)
 | [], _, _ => none
 | c :: l, r, i => match idxI c r 0 with
  | some k => some (i, k)
  | none => idxII l r (i + 1)
noncomputable def latR (r : Int) : List UInt8 := match idxI sg256 r 0 with
 | some i => [UInt8.ofNat i]
 | none => match idxII db638 r 0 with
  | some (a, b) => [UInt8.ofNat (a + 193), UInt8.ofNat (b + 65)]
  | none => []
theorem latR_eq {r : Int} (hr : inRep r = true) : latR r = lat r :=
 of_decide_eq_true (all_rep (P := fun r => decide (latR r = lat r)) (by kernel_rfl) hr)
end Go.Mo
end

section
/-
  Plain facts: the bytes of a character by the specification.
-/
namespace Go.Mo
open Go Go.W Go.Lib
set_option maxRecDepth 100000
theorem b8_nat {n : Nat} (h : n < 256) : b8 (n : Int) = UInt8.ofNat n := by
 unfold b8
 congr 1
 omega
theorem foldI_idx {R : Type} (r : Int) (y : Nat → R) (K : Option R) : ∀ (l : List Int) (i : Nat), foldI (fun i c (_ : Unit) self => cnd (ieq c r) (some (y i)) (self ())) (fun _ => K) i l () = match idxI l r i with
  | some j => some (y j)
  | none => K
 | [], i => rfl
 | c :: l, i => by
  simp only [foldI, idxI]
  by_cases h : c = r
  ·rw [cnd_t (ieq_t h), if_pos h]
  ·rw [cnd_f (ieq_f h), if_neg h]
   exact foldI_idx r y K l (i + 1)
theorem foldI_idx2 {R : Type} (r : Int) (y : Nat → Nat → R) (K : Option R) : ∀ (l : List (List Int)) (i : Nat), foldI (fun i c (_ : Unit) self => match idxI c r 0 with
  | some k => some (y i k)
  | none => self ()) (fun _ => K) i l () = match idxII l r i with
  | some (j, k) => some (y j k)
  | none => K
 | [], i => rfl
 | c :: l, i => by
  simp only [foldI, idxII]
  cases idxI c r 0 with
  | some k => rfl
  | none => exact foldI_idx2 r y K l (i + 1)
theorem put_loops {r : Int} (T : List Int) (hT : T.length = 256) (hg : ∀ (i : Nat) (h : i < T.length), T[i] = sgl (UInt8.ofNat i)) (D : List (List Int)) (hD : D.length = 11)
  (hd : ∀ (i : Nat) (h : i < D.length), D[i].length = 58 ∧ ∀ (k : Nat) (h' : k < D[i].length), D[i][k] = dbl (UInt8.ofNat (i + 193)) (UInt8.ofNat (k + 65))) (hc : q178 fuelH r = some true) :
  r22_Put fuelH r = match idxI T r 0 with
   | some i => some [UInt8.ofNat i]
   | none => match idxII D r 0 with
    | some (a, b) => some [UInt8.ofNat (a + 193), UInt8.ofNat (b + 65)]
    | none => some [] := by
 have h5 : fuelH = 8000000 := fuelH_eq
 unfold r22_Put
 rw [bnd_s hc, cnd_f (by rfl), jn_e, jn_e]
 generalize hQ : fuelH = Q at h5 ⊢
 have hsg : ∀ c, q162 Q c = some (sgl c) := by rw [← hQ]; exact single_eq
 have hdb : ∀ n k : Nat, n < 11 → k < 58 → q163 Q (UInt8.ofNat (n + 193), UInt8.ofNat (k + 65)) = some (dbl (UInt8.ofNat (n + 193)) (UInt8.ofNat (k + 65))) := by rw [← hQ]; exact fun n k h h' => double_eq h h'
 refine Eq.trans (lst_loop (l := T) (fun (_ : Unit) (p : Nat) => (p : Int)) (fun i c (_ : Unit) self => cnd (ieq c r) (some [UInt8.ofNat i]) (self ())) (fun _ => match idxII D r 0 with
    | some (a, b) => some [UInt8.ofNat (a + 193), UInt8.ofNat (b + 65)]
    | none => some []) (fun self a i hi => ?_) (fun self a => ?_) Q 0 () (Nat.zero_le _) (by rw [hT, h5]; decide)) ?_
 ·have h1 : i < 256 := by omega
  rw [cnd_t (ilt_t (by omega)), b8_nat h1, hsg, bnd_some', w64_succ h1 (by omega), hg i hi]
 ·rw [hT, cnd_f (ilt_f (by omega))]
  show fixN _ Q 193 = _
  rw [show (193 : Int) = ((0 + 193 : Nat) : Int) from rfl]
  refine Eq.trans (lst_loop (l := D) (fun (_ : Unit) (p : Nat) => ((p + 193 : Nat) : Int)) (fun i c (_ : Unit) self => match idxI c r 0 with
   | some k => some [UInt8.ofNat (i + 193), UInt8.ofNat (k + 65)]
   | none => self ()) (fun _ => some []) (fun self a i hi => ?_) (fun self a => ?_) Q 0 () (Nat.zero_le _) (by rw [hD, h5]; decide)) ?_
  ·have h1 : i < 11 := by omega
   obtain ⟨hl, hr⟩ := hd i hi
   rw [cnd_t (ile_t (by omega)), jn_e, b8_nat (show i + 193 < 256 by omega), show (65 : Int) = ((0 + 65 : Nat) : Int) from rfl]
   have hw : w64 (iadd ((i + 193 : Nat) : Int) 1) = ((i + 1 + 193 : Nat) : Int) := by
    simp only [iadd]; rw [w64_id (by omega)]; omega
   rw [hw]
   refine Eq.trans (lst_loop (l := D[i]) (fun (_ : Unit) (p : Nat) => ((p + 65 : Nat) : Int)) (fun k c (_ : Unit) self => cnd (ieq c r) (some [UInt8.ofNat (i + 193), UInt8.ofNat (k + 65)]) (self ())) (fun _ => self ((i + 1 + 193 : Nat) : Int)) (fun self a k hk => ?_) (fun self a => ?_) Q 0 () (Nat.zero_le _) (by rw [hl, h5]; decide)) ?_
   ·have h2 : k < 58 := by omega
    rw [cnd_t (ile_t (by omega)), b8_nat (show k + 65 < 256 by omega), hdb i k h1 h2, bnd_some', hr k hk]
    have hw : wr .i32 (iadd ((k + 65 : Nat) : Int) 1) = ((k + 1 + 65 : Nat) : Int) := by
     rw [wi32_id (by simp only [iadd]; omega)]
     simp only [iadd]; omega
    rw [hw]
   ·rw [hl, cnd_f (ile_f (by omega))]
   ·rw [List.drop_zero, foldI_idx r (fun k => [UInt8.ofNat (i + 193), UInt8.ofNat (k + 65)])]
  ·rw [hD, cnd_f (ile_f (by omega))]
  ·rw [List.drop_zero, foldI_idx2 r (fun i k => [UInt8.ofNat (i + 193), UInt8.ofNat (k + 65)])]
 ·rw [List.drop_zero, foldI_idx r (fun k => [UInt8.ofNat k])]
theorem r22_put {r : Int} (hr : inRep r = true) : r22_Put fuelH r = some (lat r) := by
 have hc : q178 fuelH r = some true := by
  unfold q178
  rw [r08_ix, (ix_ok hr).1, bnd_some', ile_t (ix_ok hr).2]
 rw [← latR_eq hr, put_loops sg256 (by unfold sg256; rw [List.length_map, List.length_range]) (fun i h => by simp only [sg256, List.getElem_map, List.getElem_range]) db638 (by unfold db638; rw [List.length_map, List.length_range])
  (fun i h => by
   have e : db638[i] = (List.range 58).map fun k => dbl (UInt8.ofNat (i + 193)) (UInt8.ofNat (k + 65)) := by simp only [db638, List.getElem_map, List.getElem_range]
   refine ⟨by rw [e, List.length_map, List.length_range], fun k h' => ?_⟩
   simp only [e, List.getElem_map, List.getElem_range]) hc]
 unfold latR
 generalize idxI sg256 r 0 = a
 generalize idxII db638 r 0 = b
 cases a with
 | some j => rfl
 | none => cases b with
  | some p => rfl
  | none => rfl
theorem lat_tab : ((loRunes ++ hiRunes).all fun r => decide ((lat r).length ≤ (enc r).length ∧ 0 < (lat r).length)) = true := by kernel_rfl
theorem lat_ok {r : Int} (hr : inRep r = true) : q29 fuelH r = some (lat r) ∧ (lat r).length ≤ (enc r).length ∧ 0 < (lat r).length ∧ r22_Put fuelH r = some (lat r) := by
 have := of_decide_eq_true (all_rep (P := fun r => decide ((lat r).length ≤ (enc r).length ∧ 0 < (lat r).length)) lat_tab hr)
 exact ⟨latin_put hr, this.1, this.2, r22_put hr⟩
end Go.Mo
end

section
/-
  Plain facts: texts in the characters of the tape form.
-/
namespace Go.Mo
open Go Go.W Go.Lib
set_option maxRecDepth 100000
noncomputable def latE (s : List UInt8) : List UInt8 := (rns s).flatMap lat
theorem lat_len : ∀ (l : List Int), l.all inRep = true → (l.flatMap lat).length ≤ (ofR l).length
 | [], _ => Nat.le_refl _
 | r :: l, h => by
  rw [List.all_cons, Bool.and_eq_true] at h
  have h1 := (lat_ok h.1).2.1
  have h2 := lat_len l h.2
  unfold ofR at h2 ⊢
  simp only [List.flatMap_cons, List.length_append]
  omega
theorem latE_len {s : List UInt8} (h : vld s = true) : (latE s).length ≤ s.length := by
 have := lat_len (rns s) (rns_ok h)
 rwa [ofR_rns h] at this
theorem put_fold {R : Type} (Put : Int → Option (List UInt8)) (hP : ∀ r, inRep r = true → Put r = some (lat r)) (k : List UInt8 → Option R) : ∀ (l : List Int) (out : List UInt8), l.all inRep = true → out.length + (ofR l).length ≤ 100000000 →
  foldR (fun r out self => bnd (Put r) fun v => grd (room (iadd (len out) (len v)) 1) (self (lapp out v))) k l out = k (out ++ l.flatMap lat)
 | [], out, _, _ => by simp [foldR]
 | r :: l, out, h, hb => by
  rw [List.all_cons, Bool.and_eq_true] at h
  have h1 := (lat_ok h.1).2.1
  simp only [ofR, List.flatMap_cons, List.length_append] at hb
  rw [foldR, bnd_s (hP r h.1), grd_t (room_t (by simp only [iadd, len]; omega))]
  show foldR _ _ _ (lapp out (lat r)) = _
  rw [put_fold Put hP k l _ h.2 (by simp only [lapp, List.length_append, ofR]; omega)]
  simp [lapp]
theorem latin_encode {s : List UInt8} (hs : s.length ≤ 4000000) : q30 fuelH s = if vld s = true then some (latE s, 0) else some ([], 10) := by
 unfold q30
 rw [bnd_s (ch_valid s hs)]
 cases hv : vld s with
 | false => rfl
 | true =>
  rw [cnd_f (by rfl), jn_e, if_pos rfl]
  rw [show (([] : List UInt8), s, ofN 0) = (fun (a : List UInt8) (p : Nat) => (a, s, ofN p)) [] 0 from rfl]
  refine (str_loop (s := s) (fun (a : List UInt8) (p : Nat) => (a, s, ofN p)) (fun r out self => bnd (q29 fuelH r) fun v => grd (room (iadd (len out) (len v)) 1) (self (lapp out v))) (fun out => some (out, 0)) (fun self a p hp => ?_) (fun self a p hp => ?_) fuelH 0 [] (by have := fuelH_eq; omega)).trans ?_
  ·simp only [toN_ofN]
   rw [cnd_t (nlt_t (show p < nlen s from hp))]
   rfl
  ·simp only [toN_ofN]
   rw [cnd_f (nlt_f (show ¬ p < nlen s by unfold nlen; omega))]
  ·rw [List.drop_zero, put_fold (q29 fuelH) (fun r h => (lat_ok h).1) _ _ _ (rns_ok hv) (by rw [ofR_rns hv]; simp; omega)]
   rfl
theorem snoc_fold {R : Type} (k : List Int → Option R) : ∀ (l out : List Int), out.length + l.length ≤ 100000000 →
  foldR (fun r out self => grd (room (iadd (len out) (len [r])) 4) (self (lapp out [r]))) k l out = k (out ++ l)
 | [], out, _ => by simp [foldR]
 | r :: l, out, h => by
  simp only [List.length_cons] at h
  rw [foldR, grd_t (room_t (by simp [iadd, len]; omega))]
  show foldR _ _ _ (lapp out [r]) = _
  rw [snoc_fold k l _ (by simp [lapp]; omega)]
  simp [lapp]
theorem r08_runes_eq {s : List UInt8} (hs : s.length ≤ 4000000) : q176 fuelH s = some (rns s) := by
 unfold q176
 rw [jn_e]
 rw [show (([] : List Int), s, ofN 0) = (fun (a : List Int) (p : Nat) => (a, s, ofN p)) [] 0 from rfl]
 refine (str_loop (s := s) (fun (a : List Int) (p : Nat) => (a, s, ofN p)) (fun r out self => grd (room (iadd (len out) (len [r])) 4) (self (lapp out [r]))) (fun out => some out) (fun self a p hp => ?_) (fun self a p hp => ?_) fuelH 0 [] (by have := fuelH_eq; omega)).trans ?_
 ·simp only [toN_ofN]
  rw [cnd_t (nlt_t (show p < nlen s from hp))]
  rfl
 ·simp only [toN_ofN]
  rw [cnd_f (nlt_f (show ¬ p < nlen s by unfold nlen; omega))]
 ·have := rns_len _ s (Nat.le_refl _)
  rw [List.drop_zero, snoc_fold _ _ _ (by simp; omega)]
  rfl
theorem put_foldI {R : Type} (Put : Int → Option (List UInt8)) (hP : ∀ r, inRep r = true → Put r = some (lat r)) (k : List UInt8 → Option R) : ∀ (l : List Int) (i : Nat) (out : List UInt8), l.all inRep = true → out.length + (ofR l).length ≤ 100000000 →
  foldI (fun _ r out self => bnd (Put r) fun v => grd (room (iadd (len out) (len v)) 1) (self (lapp out v))) k i l out = k (out ++ l.flatMap lat)
 | [], i, out, _, _ => by simp [foldI]
 | r :: l, i, out, h, hb => by
  rw [List.all_cons, Bool.and_eq_true] at h
  have h1 := (lat_ok h.1).2.1
  simp only [ofR, List.flatMap_cons, List.length_append] at hb
  rw [foldI, bnd_s (hP r h.1), grd_t (room_t (by simp only [iadd, len]; omega))]
  show foldI _ _ _ _ (lapp out (lat r)) = _
  rw [put_foldI Put hP k l (i + 1) _ h.2 (by simp only [lapp, List.length_append, ofR]; omega)]
  simp [lapp]
theorem r22_encode {s : List UInt8} (hs : s.length ≤ 4000000) : q179 fuelH s = if vld s = true then some (latE s, 0) else some ([], 10) := by
 unfold q179
 rw [bnd_s (r08_valid s hs)]
 cases hv : vld s with
 | false => rfl
 | true =>
  have hc : q177 fuelH s = some (rns s) := by
   unfold q177
   rw [bnd_s (r08_valid s hs), hv, cnd_f (by rfl), bnd_s (r08_runes_eq hs)]
  have hl := rns_len _ s (Nat.le_refl _)
  rw [cnd_f (by rfl), jn_e, if_pos rfl, bnd_s hc]
  rw [show (([] : List UInt8), (0 : Int)) = (fun (a : List UInt8) (p : Nat) => (a, (p : Int))) [] 0 from rfl]
  refine (lst_loop (l := rns s) (fun (a : List UInt8) (p : Nat) => (a, (p : Int))) (fun _ r out self => bnd (r22_Put fuelH r) fun v => grd (room (iadd (len out) (len v)) 1) (self (lapp out v))) (fun out => some (out, 0)) (fun self a i hi => ?_) (fun self a => ?_) fuelH 0 [] (Nat.zero_le _) (by have := fuelH_eq; omega)).trans ?_
  ·rw [cnd_t (ilt_t (by simp only [len]; omega)), grd_t (inb_t (by simp only [len]; omega)), lget_i hi, w64_succ hi (by omega)]
  ·rw [cnd_f (ilt_f (by simp only [len]; omega))]
  ·rw [List.drop_zero, put_foldI (r22_Put fuelH) (fun r h => (lat_ok h).2.2.2) _ _ _ _ (rns_ok hv) (by rw [ofR_rns hv]; simp; omega)]
   rfl
end Go.Mo
end

section
/-
  Small plain facts: bytes, lengths, equality of texts.
-/
namespace Go.Mo
open Go Go.W Go.Lib
set_option maxRecDepth 100000
noncomputable section
theorem catOk_t {n : Int} (h : n ≤ 9223372036854775807) : catOk n = true := decide_eq_true h
theorem n8_rng (c : UInt8) : 0 ≤ n8 c ∧ n8 c < 256 := by
 unfold n8
 have : c.toNat < 256 := c.toNat_lt
 omega
theorem enc_len {r : Int} (hr : inRep r = true) : (enc r).length ≤ 4 :=
 of_decide_eq_true (all_rep (P := fun r => decide ((enc r).length ≤ 4)) (by kernel_rfl) hr)
theorem sgs_rep : (sgs.all fun x => inRep x.1) = true := by kernel_rfl
theorem seq_dec (x y : List UInt8) : seq x y = decide (x = y) := by
 unfold seq
 by_cases h : x = y
 ·subst h; simp
 ·rw [decide_eq_false h]
  simpa using h
end
end Go.Mo
end

section
/-
  Plain facts: characters of the tape form read back.
-/
namespace Go.Mo
open Go Go.W Go.Lib
set_option maxRecDepth 100000
noncomputable section
noncomputable def low (r : Int) : Int := if (65 ≤ r ∧ r ≤ 90) ∨ (192 ≤ r ∧ r < 223) then r + 32 else if r = 338 then 339 else r
noncomputable def lowK (x v0 : Int) : Option Int :=
 cnd (ilt v0 (0 : Int))
  (some (0 : Int))
  (jn (fun (v1 : Bool) =>
   cnd v1
    (some (wr .i32 (iadd x (32 : Int))))
    (cnd (ieq x (338 : Int))
     (some (339 : Int))
     (some x)))
  fun v2 =>
  cnd (ile (65 : Int) x)
   (cnd (ile x (90 : Int))
    (v2 (ile x (90 : Int)))
    (cnd (ile (192 : Int) x)
     (v2 (ilt x (223 : Int)))
     (v2 false)))
   (cnd (ile (192 : Int) x)
    (v2 (ilt x (223 : Int)))
    (v2 false)))
theorem lower_eq {r : Int} (hr : inRep r = true) : q118 fuelH r = some (low r) := by
 have h : q118 fuelH r = bnd (q13 fuelH r) (lowK r) := by kernel_rfl
 rw [h, ch_ix, (ix_ok hr).1, bnd_some']
 exact of_decide_eq_true (all_rep (P := fun r => decide (lowK r (ix r) = some (low r))) (by kernel_rfl) hr)
noncomputable def accS (a : UInt8) : List UInt8 := match accs.find? fun x => x.1 == a with
 | some x => x.2.1
 | none => []
noncomputable def accR (a : UInt8) : List Int := match accs.find? fun x => x.1 == a with
 | some x => x.2.2
 | none => []
theorem accR_tab (a : UInt8) : q20 fuelH a = some (accS a) ∧ rns (accS a) = accR a ∧ (accR a).all (fun r => inRep r && inRep (low r)) = true :=
 of_decide_eq_true (all_u8 (P := fun a => decide (q20 fuelH a = some (accS a) ∧ rns (accS a) = accR a ∧ (accR a).all (fun r => inRep r && inRep (low r)) = true)) (by kernel_rfl) a)
noncomputable def sgStr : List UInt8 := [194, 161, 194, 162, 194, 163, 194, 164, 194, 165, 194, 166, 194, 167, 194, 169, 226, 128, 152, 226, 128, 156, 194, 171, 194, 174, 226, 128, 148, 226, 128, 162, 226, 128, 166, 194, 176, 226, 132, 162, 194, 183, 226, 128, 153, 226, 128, 157, 194, 187, 194, 189, 194, 191, 226, 153, 170, 195, 134, 195, 152, 197, 146, 195, 166, 195, 184, 197, 147, 195, 159]
noncomputable def sgB : List UInt8 := [161, 162, 163, 164, 165, 166, 167, 168, 169, 170, 171, 172, 173, 174, 175, 176, 180, 183, 185, 186, 187, 189, 191, 213, 225, 233, 234, 241, 249, 250, 251]
theorem sgStr_rns : rns sgStr = sgs.map (·.1) := by kernel_rfl
noncomputable def gS (a : UInt8) (r i : Int) (self : Int → Option (Int × Int)) : Option (Int × Int) :=
 grd (inb i (len sgB)) (cnd (ieq (n8 (lget sgB (toN i) (0 : UInt8))) (n8 a)) (some (r, (1 : Int))) (self (w64 (iadd i (1 : Int)))))
noncomputable def sgG : List (Int × UInt8) → UInt8 → Option (Int × Int) → Option (Int × Int)
 | [], _, K => K
 | (r, b) :: l, a, K => cnd (ieq (n8 b) (n8 a)) (some (r, (1 : Int))) (sgG l a K)
theorem gS_eq (a : UInt8) (K : Option (Int × Int)) : foldR (gS a) (fun _ => K) (sgs.map (·.1)) 0 = sgG sgs a K := by kernel_rfl
noncomputable def inner (r w : Int) (x : List UInt8) (K : Option (Int × Int)) : Option (Int × Int) :=
 fixN (fun v8 (v9 : Int) =>
        cnd (ilt v9 (2 : Int))
         (grd (inb v9 (ofN 2))
          (bnd (q28 fuelH (lget ([r, w] : List Int) (toN v9) (0 : Int))) fun v10 =>
          grd (inb (1 : Int) (len x)) <|
          cnd (ieq v10 (wr .i32 (n8 (lget x (toN (1 : Int)) (0 : UInt8)))))
           (some (lget ([r, w] : List Int) (toN v9) (0 : Int), (2 : Int)))
           (v8 (w64 (iadd v9 (1 : Int))))))
         K) fuelH (0 : Int)
theorem wr8 (c : UInt8) : wr .i32 (n8 c) = n8 c := by
 have := n8_rng c
 exact wi32_id (by omega)
theorem inner_eq {r w : Int} (hr : inRep r = true) (hw : inRep w = true) (a b : UInt8) (t : List UInt8) (K : Option (Int × Int)) :
  inner r w (a :: b :: t) K = cnd (ieq (bas r) (n8 b)) (some (r, 2)) (cnd (ieq (bas w) (n8 b)) (some (w, 2)) K) := by
 unfold inner
 refine Eq.trans (lst_loop (l := [r, w]) (fun (_ : Unit) (p : Nat) => (p : Int)) (fun _ c (_ : Unit) self => bnd (q28 fuelH c) fun v10 => cnd (ieq v10 (n8 b)) (some (c, (2 : Int))) (self ())) (fun _ => K) (fun self a' i hi => ?_) (fun self a => ?_) fuelH 0 () (Nat.zero_le _) (by have := fuelH_eq; show 2 - 0 < fuelH; omega)) ?_
 ·have hi2 : i < 2 := hi
  rw [cnd_t (ilt_t (by omega)), grd_t (inb_t (by simp only [ofN]; omega)), lget_i hi, w64_succ hi2 (by omega)]
  rw [show lget (a :: b :: t) (toN (1 : Int)) 0 = b from rfl, wr8]
  have hg : inb (1 : Int) (len (a :: b :: t)) = true := inb_t (by simp only [len, List.length_cons]; omega)
  rw [hg]
  rfl
 ·exact cnd_f (by rfl)
 ·rw [List.drop_zero]
  simp only [foldI]
  rw [base_eq hr, base_eq hw]
  rfl
noncomputable def acG : List Int → UInt8 → Option (Int × Int)
 | [], _ => some (0, 0)
 | r :: l, b => cnd (ieq (bas r) (n8 b)) (some (r, (2 : Int))) (cnd (ieq (bas (low r)) (n8 b)) (some (low r, (2 : Int))) (acG l b))
theorem acG_eq (a b : UInt8) (t : List UInt8) : ∀ l : List Int, l.all (fun r => inRep r && inRep (low r)) = true →
  foldR (fun r (_ : Unit) self => bnd (q118 fuelH r) fun v7 => inner r v7 (a :: b :: t) (self ())) (fun _ => some (0, 0)) l () = acG l b
 | [], _ => rfl
 | r :: l, h => by
  rw [List.all_cons, Bool.and_eq_true, Bool.and_eq_true] at h
  rw [foldR, lower_eq h.1.1, bnd_some', inner_eq h.1.1 h.1.2]
  show cnd _ _ (cnd _ _ (foldR _ _ l ())) = _
  rw [acG_eq a b t l h.2]
  rfl
noncomputable def acH (a : UInt8) : List UInt8 → Option (Int × Int)
 | [] => some (0, 0)
 | b :: _ => acG (accR a) b
noncomputable def gtX (a : UInt8) (t : List UInt8) : Option (Int × Int) := sgG sgs a (acH a t)
noncomputable def gtZ (x : List UInt8) : Option (Int × Int) :=
   jn (fun (v1 : Unit) =>
    cnd (ilt (len x) (2 : Int))
     (some ((0 : Int), (0 : Int)))
     (jn (fun (v2 : Unit) =>
      some ((0 : Int), (0 : Int)))
     fun v3 =>
     grd (inb (0 : Int) (len x)) <|
     bnd (q20 fuelH (lget x (toN (0 : Int)) (0 : UInt8))) fun v4 =>
     fixN (fun v5 (v6 : (List UInt8) × Int) =>
      cnd (nlt (toN v6.2) (nlen v6.1))
       (bnd (q118 fuelH (decR v6.1 (toN v6.2))) fun v7 =>
       inner (decR v6.1 (toN v6.2)) v7 x (v5 (v6.1, ofN (nadd (toN v6.2) (decW v6.1 (toN v6.2))))))
       (v3 ())) fuelH (v4, ofN 0)))
   fun v11 =>
   fixN (fun v12 (v13 : Int × (List UInt8) × Int) =>
    cnd (nlt (toN v13.2.2) (nlen v13.2.1))
     (grd (inb v13.1 (len sgB))
      (grd (inb (0 : Int) (len x))
       (cnd (ieq (n8 (lget sgB (toN v13.1) (0 : UInt8))) (n8 (lget x (toN (0 : Int)) (0 : UInt8))))
        (some (decR v13.2.1 (toN v13.2.2), (1 : Int)))
        (v12 (w64 (iadd v13.1 (1 : Int)), v13.2.1, ofN (nadd (toN v13.2.2) (decW v13.2.1 (toN v13.2.2))))))))
     (v11 ())) fuelH ((0 : Int), sgStr, ofN 0)
noncomputable def gtY (x : List UInt8) : Option (Int × Int) :=
 jn (fun (_ : Unit) =>
   gtZ x)
  fun v14 =>
  grd (inb (0 : Int) (len x)) <|
  cnd (ile (n8 (32 : UInt8)) (n8 (lget x (toN (0 : Int)) (0 : UInt8))))
   (grd (inb (0 : Int) (len x))
    (cnd (ilt (n8 (lget x (toN (0 : Int)) (0 : UInt8))) (n8 (127 : UInt8)))
     (grd (inb (0 : Int) (len x))
      (some (wr .i32 (n8 (lget x (toN (0 : Int)) (0 : UInt8))), (1 : Int))))
     (v14 ())))
   (v14 ())
theorem gtY_eq (x : List UInt8) : q119 fuelH x = cnd (ieq (len x) (0 : Int)) (some ((0 : Int), (0 : Int))) (gtY x) := by kernel_rfl
theorem gtZ_eq (a : UInt8) (t : List UInt8) : gtZ (a :: t) = gtX a t := by
 have hb : inb (0 : Int) (len (a :: t)) = true := inb_t (by simp only [len, List.length_cons]; omega)
 have g0 : lget (a :: t) (toN (0 : Int)) 0 = a := rfl
 have hS : sgStr.length = 71 := by kernel_rfl
 unfold gtZ
 rw [jn_e, hb, g0]
 have e : ∀ K : Option (Int × Int), fixN (fun v12 (v13 : Int × (List UInt8) × Int) =>
    cnd (nlt (toN v13.2.2) (nlen v13.2.1))
     (grd (inb v13.1 (len sgB))
      (grd true
       (cnd (ieq (n8 (lget sgB (toN v13.1) (0 : UInt8))) (n8 a))
        (some (decR v13.2.1 (toN v13.2.2), (1 : Int)))
        (v12 (w64 (iadd v13.1 (1 : Int)), v13.2.1, ofN (nadd (toN v13.2.2) (decW v13.2.1 (toN v13.2.2))))))))
     K) fuelH ((0 : Int), sgStr, ofN 0) = sgG sgs a K := by
  intro K
  refine Eq.trans (str_loop (s := sgStr) (fun (i : Int) (p : Nat) => (i, sgStr, ofN p)) (gS a) (fun _ => K) (fun self i p hp => ?_) (fun self i p hp => ?_) fuelH 0 0 (by rw [hS]; decide)) ?_
  ·rw [cnd_t (nlt_t (show toN (ofN p) < nlen sgStr by rw [toN_ofN]; exact hp))]
   simp only [toN_ofN]
   rfl
  ·rw [cnd_f (nlt_f (show ¬ toN (ofN p) < nlen sgStr by rw [toN_ofN]; unfold nlen; omega))]
  ·rw [List.drop_zero, sgStr_rns, gS_eq]
 have e' : acH a t = cnd (ilt (len (a :: t)) (2 : Int))
     (some ((0 : Int), (0 : Int)))
     (jn (fun (v2 : Unit) =>
      some ((0 : Int), (0 : Int)))
     fun v3 =>
     grd true <|
     bnd (q20 fuelH a) fun v4 =>
     fixN (fun v5 (v6 : (List UInt8) × Int) =>
      cnd (nlt (toN v6.2) (nlen v6.1))
       (bnd (q118 fuelH (decR v6.1 (toN v6.2))) fun v7 =>
       inner (decR v6.1 (toN v6.2)) v7 (a :: t) (v5 (v6.1, ofN (nadd (toN v6.2) (decW v6.1 (toN v6.2))))))
       (v3 ())) fuelH (v4, ofN 0)) := by
  cases t with
  | nil => rfl
  | cons b t =>
   obtain ⟨h1, h2, h3⟩ := accR_tab a
   have hl : (accS a).length < 100 := of_decide_eq_true (all_u8 (P := fun a => decide ((accS a).length < 100)) (by kernel_rfl) a)
   rw [cnd_f (ilt_f (by simp only [len, List.length_cons]; omega)), jn_e, h1, grd_t rfl, bnd_some']
   refine Eq.symm (Eq.trans (str_loop (s := accS a) (fun (_ : Unit) (p : Nat) => (accS a, ofN p)) (fun r (_ : Unit) self => bnd (q118 fuelH r) fun v7 => inner r v7 (a :: b :: t) (self ())) (fun _ => some (0, 0)) (fun self i p hp => ?_) (fun self i p hp => ?_) fuelH 0 () (by have := fuelH_eq; omega)) ?_)
   ·rw [cnd_t (nlt_t (show toN (ofN p) < nlen (accS a) by rw [toN_ofN]; exact hp))]
    simp only [toN_ofN]
    rfl
   ·rw [cnd_f (nlt_f (show ¬ toN (ofN p) < nlen (accS a) by rw [toN_ofN]; unfold nlen; omega))]
   ·rw [List.drop_zero, h2, acG_eq a b t _ h3]
    rfl
 unfold gtX
 rw [e']
 exact e _
theorem latin_get_cons (a : UInt8) (t : List UInt8) : q119 fuelH (a :: t) = cnd (ile 32 (n8 a)) (cnd (ilt (n8 a) 127) (some (n8 a, 1)) (gtX a t)) (gtX a t) := by
 have hb : inb (0 : Int) (len (a :: t)) = true := inb_t (by simp only [len, List.length_cons]; omega)
 have g0 : lget (a :: t) (toN (0 : Int)) 0 = a := rfl
 rw [gtY_eq, cnd_f (ieq_f (by simp only [len, List.length_cons]; omega))]
 unfold gtY
 rw [jn_e, hb, g0, wr8]
 show grd true (cnd _ (grd true (cnd _ (grd true _) (gtZ (a :: t)))) (gtZ (a :: t))) = _
 rw [gtZ_eq]
 rfl
noncomputable def sgF (a : UInt8) : Option (Int × UInt8) := sgs.find? fun x => n8 x.2 == n8 a
theorem sgG_eq (a : UInt8) (K : Option (Int × Int)) : ∀ l : List (Int × UInt8), sgG l a K = match l.find? fun x => n8 x.2 == n8 a with
  | some x => some (x.1, 1)
  | none => K
 | [] => rfl
 | (r, b) :: l => by
  simp only [sgG, List.find?_cons]
  by_cases h : n8 b = n8 a
  ·rw [cnd_t (ieq_t h), show (n8 b == n8 a) = true from by simp [h]]
  ·rw [cnd_f (ieq_f h), show (n8 b == n8 a) = false from by simp [h], sgG_eq a K l]
noncomputable def latB (r : Int) : Bool := match lat r with
 | [a] => (decide (32 ≤ n8 a) && decide (n8 a < 127) && decide (n8 a = r)) || (!(decide (32 ≤ n8 a) && decide (n8 a < 127)) && decide ((sgF a).map (·.1) = some r))
 | [a, b] => !(decide (32 ≤ n8 a) && decide (n8 a < 127)) && (sgF a).isNone && decide (acG (accR a) b = some (r, 2))
 | _ => false
theorem latin_get_lat {r : Int} (hr : inRep r = true) (t : List UInt8) : q119 fuelH (lat r ++ t) = some (r, ((lat r).length : Int)) := by
 have hb : latB r = true := all_rep (P := latB) (by kernel_rfl) hr
 unfold latB at hb
 have hx : ∀ a (u : List UInt8), (decide (32 ≤ n8 a) && decide (n8 a < 127)) = false → q119 fuelH (a :: u) = gtX a u := by
  intro a u h
  rw [latin_get_cons, cnd_ile, cnd_ilt]
  simp only [Bool.and_eq_false_iff, decide_eq_false_iff_not] at h
  split
  ·rw [if_neg (by omega)]
  ·rfl
 split at hb
 ·rename_i a he
  rw [he]
  show q119 fuelH (a :: t) = some (r, 1)
  simp only [Bool.or_eq_true, Bool.and_eq_true, decide_eq_true_eq, Bool.not_eq_true'] at hb
  rcases hb with ⟨⟨h1, h2⟩, h3⟩ | ⟨h1, h2⟩
  ·rw [latin_get_cons, cnd_t (ile_t h1), cnd_t (ilt_t h2), h3]
  ·rw [hx a t h1]
   unfold gtX
   rw [sgG_eq]
   unfold sgF at h2
   cases hf : sgs.find? fun x => n8 x.2 == n8 a with
   | none => rw [hf] at h2; simp at h2
   | some x =>
    rw [hf] at h2
    simp only [Option.map_some, Option.some.injEq] at h2
    simp only [h2]
 ·rename_i a b he
  rw [he]
  show q119 fuelH (a :: b :: t) = some (r, 2)
  simp only [Bool.and_eq_true, decide_eq_true_eq, Bool.not_eq_true', Option.isNone_iff_eq_none] at hb
  rw [hx a _ hb.1.1]
  unfold gtX
  rw [sgG_eq]
  have := hb.1.2
  unfold sgF at this
  rw [this]
  exact hb.2
 ·cases hb
end
end Go.Mo
end

section
/-
  Plain facts: the specification's reader of headers.
-/
namespace Go.Mo
open Go Go.W Go.Lib
set_option maxRecDepth 100000
noncomputable section
noncomputable def mks : List UInt8 := [193, 193, 193, 193, 193, 194, 194, 194, 194, 194, 195, 195, 195, 195, 195, 196, 196, 196, 200, 200, 200, 200, 200, 202, 203]
noncomputable def lts : List UInt8 := [65, 69, 73, 79, 85, 65, 69, 73, 79, 85, 65, 69, 73, 79, 85, 65, 78, 79, 65, 69, 73, 79, 85, 65, 67]
noncomputable def chs : List Int := [192, 200, 204, 210, 217, 193, 201, 205, 211, 218, 194, 202, 206, 212, 219, 195, 209, 213, 196, 203, 207, 214, 220, 197, 199]
noncomputable def dblK (a : UInt8) (v0 : Bool) (v1 : UInt8) : Option Int :=
 jn (fun (_ : Unit) => some (0 : Int)) fun v3 =>
 fixN (fun v4 (v5 : Int) =>
    cnd (ilt v5 (len mks))
     (grd (inb v5 (len mks))
      (cnd (ieq (n8 (lget mks (toN v5) (0 : UInt8))) (n8 a))
       (grd (inb v5 (len lts))
        (cnd (ieq (n8 (lget lts (toN v5) (0 : UInt8))) (n8 v1))
         (cnd v0
          (grd (inb v5 (len chs))
           (some (wr .i32 (iadd (lget chs (toN v5) (0 : Int)) (32 : Int)))))
          (grd (inb v5 (len chs))
           (some (lget chs (toN v5) (0 : Int)))))
         (v4 (w64 (iadd v5 (1 : Int))))))
       (v4 (w64 (iadd v5 (1 : Int))))))
     (v3 ())) fuelH (0 : Int)
noncomputable def dblV (a b : UInt8) (v0 : Bool) : Option Int :=
 jn (fun (v1 : UInt8) => dblK a v0 v1) fun v6 => cnd v0 (v6 (b8 (isub (n8 b) (n8 (32 : UInt8))))) (v6 b)
theorem double_form (a b : UInt8) : q163 fuelH (a, b) = jn (fun (v0 : Bool) => dblV a b v0) fun v7 => cnd (ile (n8 (97 : UInt8)) (n8 b)) (v7 (ile (n8 b) (n8 (122 : UInt8)))) (v7 false) := by kernel_rfl
theorem dblK_none {a : UInt8} (h : mks.all (fun m => n8 m != n8 a) = true) (v0 : Bool) (v1 : UInt8) : dblK a v0 v1 = some 0 := by
 unfold dblK
 rw [jn_e]
 have hl : mks.length = 25 := rfl
 refine Eq.trans (lst_loop (l := mks) (fun (_ : Unit) (p : Nat) => (p : Int)) (fun _ _ (_ : Unit) self => self ()) (fun _ => some 0) (fun self a' i hi => ?_) (fun self a => ?_) fuelH 0 () (Nat.zero_le _) (by rw [hl]; decide)) ?_
 ·have hm : n8 mks[i] ≠ n8 a := by
   have := List.all_eq_true.1 h mks[i] (List.getElem_mem hi)
   simpa using this
  rw [cnd_t (ilt_t (by simp only [len]; omega)), grd_t (inb_t (by simp only [len]; omega)), lget_i hi, cnd_f (ieq_f hm), w64_succ hi (by omega)]
 ·rw [cnd_f (ilt_f (by simp only [len]; omega))]
 ·rfl
theorem cnd_same {α : Type} {b : Bool} {x y r : Option α} (hx : x = r) (hy : y = r) : cnd b x y = r := by cases b <;> assumption
theorem double_none {a : UInt8} (h : mks.all (fun m => n8 m != n8 a) = true) (b : UInt8) : q163 fuelH (a, b) = some 0 := by
 have hv : ∀ v0, dblV a b v0 = some 0 := by
  intro v0
  unfold dblV
  rw [jn_e]
  exact cnd_same (dblK_none h _ _) (dblK_none h _ _)
 rw [double_form, jn_e]
 exact cnd_same (hv _) (hv _)
noncomputable def mk7 : List UInt8 := [193, 194, 195, 196, 200, 202, 203]
theorem mk7_tab (a : UInt8) : mk7.contains a = true ∨ (mks.all (fun m => n8 m != n8 a) = true ∧ accR a = []) :=
 of_decide_eq_true (all_u8 (P := fun a => decide (mk7.contains a = true ∨ (mks.all (fun m => n8 m != n8 a) = true ∧ accR a = []))) (by kernel_rfl) a)
noncomputable def dok (a b : UInt8) : Bool := match q163 fuelH (a, b) with
 | some d => decide (acG (accR a) b = if d = 0 then some (0, 0) else some (d, 2))
 | none => false
theorem dok_tab (b : UInt8) : (mk7.all fun a => dok a b) = true := all_u8 (P := fun b => mk7.all fun a => dok a b) (by kernel_rfl) b
theorem double_acG (a b : UInt8) : ∃ d, q163 fuelH (a, b) = some d ∧ acG (accR a) b = if d = 0 then some (0, 0) else some (d, 2) := by
 rcases mk7_tab a with h | ⟨h, h2⟩
 ·have := List.all_eq_true.1 (dok_tab b) a (List.contains_iff_mem.1 h)
  unfold dok at this
  cases hd : q163 fuelH (a, b) with
  | none => rw [hd] at this; cases this
  | some d => rw [hd] at this; exact ⟨d, rfl, of_decide_eq_true this⟩
 ·exact ⟨0, double_none h b, by rw [h2]; rfl⟩
noncomputable def sok (a : UInt8) : Bool := if 32 ≤ n8 a ∧ n8 a < 127 then decide (sgl a = n8 a) else match sgF a with
 | some x => decide (sgl a = x.1 ∧ x.1 ≠ 0)
 | none => decide (sgl a = 0)
theorem sok_tab (a : UInt8) : sok a = true := all_u8 (P := sok) (by kernel_rfl) a
theorem get_same (x : List UInt8) : r22_Get fuelH x = q119 fuelH x := by
 cases x with
 | nil => kernel_rfl
 | cons a t =>
  have hR : q119 fuelH (a :: t) = if 32 ≤ n8 a ∧ n8 a < 127 then some (n8 a, 1) else gtX a t := by
   rw [latin_get_cons, cnd_ile, cnd_ilt]
   by_cases h1 : 32 ≤ n8 a
   ·rw [if_pos h1]
    by_cases h2 : n8 a < 127
    ·rw [if_pos h2, if_pos ⟨h1, h2⟩]
    ·rw [if_neg h2, if_neg (fun h => h2 h.2)]
   ·rw [if_neg h1, if_neg (fun h => h1 h.1)]
  unfold r22_Get
  have hb : inb (0 : Int) (len (a :: t)) = true := inb_t (by simp only [len, List.length_cons]; omega)
  have g0 : lget (a :: t) (toN (0 : Int)) 0 = a := rfl
  rw [cnd_f (ieq_f (by simp only [len, List.length_cons]; omega)), grd_t hb, g0, single_eq, bnd_some', cnd_ine, hR]
  have hs := sok_tab a
  unfold sok at hs
  have hX : sgl a = 0 → sgF a = none → (cnd (ilt (1 : Int) (len (a :: t)))
     (grd (inb (0 : Int) (len (a :: t)))
      (grd (inb (1 : Int) (len (a :: t)))
       (bnd (q163 fuelH (a, lget (a :: t) (toN (1 : Int)) (0 : UInt8))) fun v1 =>
       cnd (ine v1 (0 : Int))
        (some (v1, (2 : Int)))
        (some ((0 : Int), (0 : Int))))))
     (some ((0 : Int), (0 : Int)))) = gtX a t := by
   intro h0 hf
   unfold gtX
   rw [sgG_eq]
   unfold sgF at hf
   rw [hf]
   cases t with
   | nil => rfl
   | cons b t =>
    obtain ⟨d, h1, h2⟩ := double_acG a b
    rw [cnd_t (ilt_t (by simp only [len, List.length_cons]; omega)), grd_t (inb_t (by simp only [len, List.length_cons]; omega)), grd_t (inb_t (by simp only [len, List.length_cons]; omega))]
    show bnd (q163 fuelH (a, b)) _ = acG (accR a) b
    rw [h1, bnd_some', h2, cnd_ine]
    by_cases hd : d = 0
    ·rw [if_neg (by simp [hd]), if_pos hd]
    ·rw [if_pos hd, if_neg hd]
  have hY : (if sgl a ≠ 0 then some (sgl a, (1 : Int)) else (cnd (ilt (1 : Int) (len (a :: t)))
     (grd (inb (0 : Int) (len (a :: t)))
      (grd (inb (1 : Int) (len (a :: t)))
       (bnd (q163 fuelH (a, lget (a :: t) (toN (1 : Int)) (0 : UInt8))) fun v1 =>
       cnd (ine v1 (0 : Int))
        (some (v1, (2 : Int)))
        (some ((0 : Int), (0 : Int))))))
     (some ((0 : Int), (0 : Int))))) = if 32 ≤ n8 a ∧ n8 a < 127 then some (n8 a, 1) else gtX a t := by
   by_cases hc : 32 ≤ n8 a ∧ n8 a < 127
   ·rw [if_pos hc] at hs
    have := of_decide_eq_true hs
    rw [if_pos hc, this, if_pos (by omega)]
   ·rw [if_neg hc] at hs
    rw [if_neg hc]
    cases hf : sgF a with
    | some y =>
     rw [hf] at hs
     have := of_decide_eq_true hs
     rw [this.1, if_pos this.2]
     unfold gtX
     rw [sgG_eq]
     unfold sgF at hf
     rw [hf]
    | none =>
     rw [hf] at hs
     have := of_decide_eq_true hs
     rw [if_neg (by simp [this])]
     exact hX this hf
  exact hY
theorem of_eq {l : List Int} (hl : l.length ≤ 4000000) (h : l.all inRep = true) : r08_Of fuelH l = some (ofR l) := by
 unfold r08_Of
 rw [jn_e, show (([] : List UInt8), (0 : Int)) = (fun (s : List UInt8) (p : Nat) => (s, (p : Int))) [] 0 from rfl]
 refine Eq.trans (lst_loop (l := l) (fun (s : List UInt8) (p : Nat) => (s, (p : Int))) (fun _ r s self => bnd (q165 fuelH r) fun v4 => cnd (ilt v4 (0 : Int)) (some ([] : List UInt8)) (grd (catOk (iadd (len s) (len (enc r)))) (self (lapp s (enc r))))) (fun s => some s) (fun self s i hi => ?_) (fun self s => ?_) fuelH 0 [] (Nat.zero_le _) (by have := fuelH_eq; omega)) ?_
 ·rw [cnd_t (ilt_t (by simp only [len]; omega)), grd_t (inb_t (by simp only [len]; omega)), lget_i hi, w64_succ hi (by omega)]
 ·rw [cnd_f (ilt_f (by simp only [len]; omega))]
 ·rw [List.drop_zero]
  have : ∀ (l : List Int) (i : Nat) (s : List UInt8), l.all inRep = true → s.length + 4 * l.length ≤ 100000000 → foldI (fun _ r s self => bnd (q165 fuelH r) fun v4 => cnd (ilt v4 (0 : Int)) (some ([] : List UInt8)) (grd (catOk (iadd (len s) (len (enc r)))) (self (lapp s (enc r))))) (fun s => some s) i l s = some (s ++ ofR l) := by
   intro l
   induction l with
   | nil => intro i s _ _; simp [foldI, ofR]
   | cons r l ih =>
    intro i s h hb
    rw [List.all_cons, Bool.and_eq_true] at h
    simp only [List.length_cons] at hb
    have he := enc_len h.1
    have hx := (ix_ok h.1).2
    rw [foldI, r08_ix, (ix_ok h.1).1, bnd_some', cnd_f (ilt_f (by omega)), grd_t (catOk_t (by simp only [iadd, len]; omega))]
    show foldI _ _ _ l (s ++ enc r) = _
    rw [ih (i + 1) (s ++ enc r) h.2 (by rw [List.length_append]; omega)]
    unfold ofR
    rw [List.flatMap_cons, List.append_assoc]
  rw [this l 0 [] h (by simp only [List.length_nil]; omega)]
  rfl
noncomputable def dec22F : ((List UInt8) × List Int → Option (List UInt8 × Int)) → (List UInt8) × List Int → Option (List UInt8 × Int) := fun v3 (v4 : (List UInt8) × List Int) =>
  cnd (ilt (0 : Int) (len v4.1))
   (bnd (r22_Get fuelH v4.1) fun v5 =>
   cnd (ieq v5.2 (0 : Int))
    (some (([] : List UInt8), (4 : Int)))
    (grd (room (iadd (len v4.2) (len ([v5.1] : List Int))) 4)
     (grd (in2 v5.2 (len v4.1))
      (v3 (ldrop (toN v5.2) v4.1, lapp v4.2 ([v5.1] : List Int))))))
   (bnd (r08_Of fuelH v4.2) fun v1 => some (v1, (0 : Int)))
theorem dec22_form (x : List UInt8) : q166 fuelH x = fixN dec22F fuelH (x, []) := by
 unfold q166
 rw [jn_e]
 exact congrArg (fun F => fixN F fuelH (x, ([] : List Int))) (rfl : _ = dec22F)
end
end Go.Mo
end

section
/-
  Plain facts: rates, names, on both sides.
-/
namespace Go.Mo
open Go Go.W Go.Lib
set_option maxRecDepth 100000
noncomputable section
theorem valid_tab : ((List.range 256).all fun n => decide (q34 0 (UInt8.ofNat n) = q170 0 (UInt8.ofNat n) ∧ q35 0 (UInt8.ofNat n) = q171 0 (UInt8.ofNat n) ∧ q86 0 (UInt8.ofNat n) = q172 0 (UInt8.ofNat n))) = true := by kernel_rfl
theorem rate_eq (N : Nat) (r : UInt8) : q34 N r = q170 N r ∧ q35 N r = q171 N r ∧ q86 N r = q172 N r :=
 of_decide_eq_true (all_u8 (P := fun r => decide (q34 0 r = q170 0 r ∧ q35 0 r = q171 0 r ∧ q86 0 r = q172 0 r)) valid_tab r)
theorem digit_eq (N : Nat) (c : UInt8) : q167 N c = some (decide (48 ≤ n8 c ∧ n8 c ≤ 57)) := by
 unfold q167
 have e1 : n8 (48 : UInt8) = 48 := rfl
 have e2 : n8 (57 : UInt8) = 57 := rfl
 rw [e1, e2, cnd_ile]
 split
 ·simp only [ile, Option.some.injEq, decide_eq_decide]; omega
 ·simp only [Option.some.injEq]; exact (decide_eq_false (by omega)).symm
theorem r07_body {s : List UInt8} {i : Nat} (h : i < s.length) (X : Option Bool) (N : Nat) :
  (grd (inb (i : Int) (len s)) <|
     cnd (ile (n8 (65 : UInt8)) (n8 (lget s (toN (i : Int)) (0 : UInt8))))
      (grd (inb (i : Int) (len s))
       ((fun (v4 : Bool) =>
      cnd (bnot v4)
       (cnd (ieq (i : Int) (0 : Int))
        (some false)
        (grd (inb (i : Int) (len s))
         (bnd (q167 N (lget s (toN (i : Int)) (0 : UInt8))) fun v5 =>
         cnd (bnot v5)
          (grd (inb (i : Int) (len s))
           (cnd (ine (n8 (lget s (toN (i : Int)) (0 : UInt8))) (n8 (95 : UInt8)))
            (grd (inb (i : Int) (len s))
             (cnd (ine (n8 (lget s (toN (i : Int)) (0 : UInt8))) (n8 (45 : UInt8)))
              (some false)
              X))
            X))
          X)))
       X) (ile (n8 (lget s (toN (i : Int)) (0 : UInt8))) (n8 (90 : UInt8)))))
      ((fun (v4 : Bool) =>
      cnd (bnot v4)
       (cnd (ieq (i : Int) (0 : Int))
        (some false)
        (grd (inb (i : Int) (len s))
         (bnd (q167 N (lget s (toN (i : Int)) (0 : UInt8))) fun v5 =>
         cnd (bnot v5)
          (grd (inb (i : Int) (len s))
           (cnd (ine (n8 (lget s (toN (i : Int)) (0 : UInt8))) (n8 (95 : UInt8)))
            (grd (inb (i : Int) (len s))
             (cnd (ine (n8 (lget s (toN (i : Int)) (0 : UInt8))) (n8 (45 : UInt8)))
              (some false)
              X))
            X))
          X)))
       X) false)) = if upc (n8 s[i]) = true then X else if i = 0 then some false else if okc (n8 s[i]) = true then X else some false := by
 have hb : inb (i : Int) (len s) = true := inb_t (by simp only [len]; omega)
 have g : lget s (toN (i : Int)) 0 = s[i] := by simp [lget, toN, h]
 have e1 : n8 (65 : UInt8) = 65 := rfl
 have e2 : n8 (90 : UInt8) = 90 := rfl
 have e3 : n8 (95 : UInt8) = 95 := rfl
 have e4 : n8 (45 : UInt8) = 45 := rfl
 simp only [grd_t hb, g, e1, e2, e3, e4]
 rw [bnd_s (digit_eq N s[i])]
 generalize n8 s[i] = c
 have hi : ((i : Int) = 0) ↔ i = 0 := by omega
 have b1 : ∀ (p : Prop) [Decidable p] (x y : Option Bool), cnd (bnot (decide p)) x y = if p then y else x := fun p _ x y => by
  by_cases hp : p <;> simp [hp, bnot, cnd]
 have b2 : ∀ x y : Option Bool, cnd (bnot false) x y = x := fun _ _ => rfl
 simp only [cnd_ile, cnd_ieq, cnd_ine, cnd_dec, ile, b1, b2, upc, okc, decide_eq_true_eq, hi]
 repeat' split
 all_goals first | rfl | (exfalso; omega)
theorem r07_name (s : List UInt8) : r07_Name fuelH s = some (nm s) := by
 unfold r07_Name
 by_cases h1 : s.length < 1
 ·rw [cnd_t (ilt_t (by simp only [len]; omega))]
  simp [nm]; omega
 ·rw [cnd_f (ilt_f (by simp only [len]; omega))]
  by_cases h2 : 16 < s.length
  ·rw [cnd_t (ilt_t (by simp only [len]; omega))]
   simp [nm]; omega
  ·rw [cnd_f (ilt_f (by simp only [len]; omega))]
   simp only [jn_e]
   have hd : decide (1 ≤ s.length ∧ s.length ≤ 16) = true := decide_eq_true (by omega)
   have loop : ∀ (fuel i : Nat), s.length - i < fuel → i ≤ s.length → fixN (fun v2 (v3 : Int) =>
    cnd (ilt v3 (len s))
     (grd (inb v3 (len s)) <|
     cnd (ile (n8 (65 : UInt8)) (n8 (lget s (toN v3) (0 : UInt8))))
      (grd (inb v3 (len s))
       ((fun (v4 : Bool) =>
      cnd (bnot v4)
       (cnd (ieq v3 (0 : Int))
        (some false)
        (grd (inb v3 (len s))
         (bnd (q167 fuelH (lget s (toN v3) (0 : UInt8))) fun v5 =>
         cnd (bnot v5)
          (grd (inb v3 (len s))
           (cnd (ine (n8 (lget s (toN v3) (0 : UInt8))) (n8 (95 : UInt8)))
            (grd (inb v3 (len s))
             (cnd (ine (n8 (lget s (toN v3) (0 : UInt8))) (n8 (45 : UInt8)))
              (some false)
              (v2 (w64 (iadd v3 (1 : Int))))))
            (v2 (w64 (iadd v3 (1 : Int))))))
          (v2 (w64 (iadd v3 (1 : Int)))))))
       (v2 (w64 (iadd v3 (1 : Int))))) (ile (n8 (lget s (toN v3) (0 : UInt8))) (n8 (90 : UInt8)))))
      ((fun (v4 : Bool) =>
      cnd (bnot v4)
       (cnd (ieq v3 (0 : Int))
        (some false)
        (grd (inb v3 (len s))
         (bnd (q167 fuelH (lget s (toN v3) (0 : UInt8))) fun v5 =>
         cnd (bnot v5)
          (grd (inb v3 (len s))
           (cnd (ine (n8 (lget s (toN v3) (0 : UInt8))) (n8 (95 : UInt8)))
            (grd (inb v3 (len s))
             (cnd (ine (n8 (lget s (toN v3) (0 : UInt8))) (n8 (45 : UInt8)))
              (some false)
              (v2 (w64 (iadd v3 (1 : Int))))))
            (v2 (w64 (iadd v3 (1 : Int))))))
          (v2 (w64 (iadd v3 (1 : Int)))))))
       (v2 (w64 (iadd v3 (1 : Int))))) false))
     (some true)) fuel (i : Int) = some (bif decide (i = 0) then upc (n8 (s.getD 0 0)) && s.all (fun c => okc (n8 c)) else (s.drop i).all fun c => okc (n8 c)) := by
    intro fuel
    induction fuel with
    | zero => intro i h; omega
    | succ fuel ih =>
     intro i h hi
     rw [fixN_s]
     by_cases hl : i < s.length
     ·rw [cnd_t (ilt_t (by simp only [len]; omega)), r07_body hl]
      have hw : w64 (iadd (i : Int) 1) = ((i + 1 : Nat) : Int) := by
       simp only [iadd]; rw [w64_id (by omega)]; omega
      rw [hw, ih (i + 1) (by omega) (by omega)]
      have hup : upc (n8 s[i]) = true → okc (n8 s[i]) = true := fun h => by
       have := of_decide_eq_true h
       exact decide_eq_true (.inl this)
      have e0 : decide (i + 1 = 0) = false := decide_eq_false (by omega)
      simp only [e0, cond_false]
      by_cases hz : i = 0
      ·subst hz
       have g0 : s.getD 0 0 = s[0] := by simp [hl]
       have hs : s.all (fun c => okc (n8 c)) = (okc (n8 s[0]) && (s.drop 1).all fun c => okc (n8 c)) := by
        have := all_step (s := s) (i := 0) hl (fun c => okc (n8 c))
        simpa using this
       simp only [decide_true, cond_true, if_true, g0, hs]
       cases hu : upc (n8 s[0]) with
       | true => simp [hup hu]
       | false => simp
      ·have : decide (i = 0) = false := decide_eq_false hz
       simp only [this, cond_false, hz, if_false, all_step hl]
       cases hu : upc (n8 s[i]) with
       | true => simp [hup hu]
       | false => cases okc (n8 s[i]) <;> simp
     ·rw [cnd_f (ilt_f (by simp only [len]; omega))]
      have hz : decide (i = 0) = false := decide_eq_false (by omega)
      have : s.drop i = [] := by simp; omega
      rw [hz, this]
      rfl
   have := loop fuelH 0 (by have := fuelH_eq; omega) (Nat.zero_le _)
   simp only [decide_true, cond_true] at this
   simp only [nm, hd, Bool.true_and]
   exact this
end
end Go.Mo
end

section
/-
  Plain facts: rows of text, their check, their normal form.
-/
namespace Go.Mo
open Go Go.W Go.Lib
set_option maxRecDepth 100000
abbrev Sty := UInt8 × Bool × Bool
abbrev Run := List UInt8 × Sty × List UInt8
abbrev Row := List Run
theorem cnd_ite {α : Type} {b : Bool} {x y : Option α} : cnd b x y = if b = true then x else y := by cases b <;> rfl
theorem bnot_t {b : Bool} : (bnot b = true) = (b = false) := by cases b <;> simp [bnot]
theorem seq_t {a b : List UInt8} : (seq a b = true) = (a = b) := by rw [seq_dec]; simp
theorem ieq_tt {a b : Int} : (ieq a b = true) = (a = b) := by simp [ieq]
theorem ine_tt {a b : Int} : (ine a b = true) = (a ≠ b) := by simp [ine]
theorem ilt_tt {a b : Int} : (ilt a b = true) = (a < b) := by simp [ilt]
theorem beqb_t {a b : Bool} : (beqb a b = true) = (a = b) := by simp [beqb]
theorem bneb_t {a b : Bool} : (bneb a b = true) = (a ≠ b) := by simp [bneb]
theorem band_tt {a b : Bool} : (band a b = true) = (a = true ∧ b = true) := by simp [band]
theorem n8_eq {a b : UInt8} : (n8 a = n8 b) = (a = b) := propext ⟨n8_inj, fun h => by rw [h]⟩
theorem w64_pred {i : Nat} (h : 0 < i) (hn : i ≤ 9223372036854775807) : w64 (isub (i : Int) 1) = ((i - 1 : Nat) : Int) := by
 simp only [isub]; rw [w64_id (by omega)]; omega
theorem w64_back {i : Nat} (hn : i < 9223372036854775807) : w64 (isub ((i + 1 : Nat) : Int) 1) = (i : Int) := by
 rw [w64_pred (Nat.succ_pos i) (by omega)]; rfl
theorem sty_eq {a b : Sty} : (a = b) = (a.1 = b.1 ∧ a.2.1 = b.2.1 ∧ a.2.2 = b.2.2) := by
 obtain ⟨a1, a2, a3⟩ := a; obtain ⟨b1, b2, b3⟩ := b; simp
noncomputable def alikeP (a b : Run) : Prop := a.2.1 = b.2.1 ∧ a.2.2 = [] ∧ b.2.2 = []
instance (a b : Run) : Decidable (alikeP a b) := by unfold alikeP; infer_instance
noncomputable def runChk (p : Option Run) (x : Run) : Int :=
 if vld x.1 = false then 10 else if x.1 = [] then 4 else if ¬ n8 x.2.1.1 ≤ 6 then 12 else if vld x.2.2 = false then 10 else match p with
  | none => 0
  | some p => if alikeP p x then 8 else 0
noncomputable def chkL : Option Run → List Run → Int
 | _, [] => 0
 | p, x :: r => if runChk p x ≠ 0 then runChk p x else chkL (some x) r
noncomputable def rowChk (l : Row) : Int := if 16 < l.length then 9 else chkL none l
noncomputable def shortR (l : Row) : Prop := ∀ x ∈ l, x.1.length ≤ 4000000 ∧ x.2.2.length ≤ 4000000
noncomputable def before {α : Type} (l : List α) : Nat → Option α
 | 0 => none
 | i + 1 => l[i]?
theorem foldI_chk (l : Row) : ∀ (r : List Run) (i : Nat), l.drop i = r → i ≤ l.length → foldI (fun i (x : Run) (_ : Unit) self => if runChk (before l i) x ≠ 0 then some (runChk (before l i) x) else self ()) (fun _ => some (0 : Int)) i r () = some (chkL (before l i) r)
 | [], i, _, _ => rfl
 | x :: r, i, h, hi => by
  have hx : l[i]? = some x := by rw [← List.head?_drop, h]; rfl
  have hr : l.drop (i + 1) = r := by rw [← List.drop_drop, h]; rfl
  have hl : i < l.length := (List.getElem?_eq_some_iff.1 hx).1
  simp only [foldI, chkL]
  rw [foldI_chk l r (i + 1) hr (by omega)]
  have e : before l (i + 1) = some x := hx
  rw [e]
  by_cases hc : runChk (before l i) x ≠ 0
  ·rw [if_pos hc, if_pos hc]
  ·rw [if_neg hc, if_neg hc]
theorem style_alike_eq (N : Nat) (a b : Run) : q16 N (a, b) = some (decide (alikeP a b)) := by
 unfold q16
 simp only [cnd_ite, band_tt, ieq_tt, beqb_t, n8_eq, seq_dec, decide_eq_true_eq]
 by_cases h1 : a.2.1.1 = b.2.1.1 ∧ a.2.1.2.1 = b.2.1.2.1 ∧ a.2.1.2.2 = b.2.1.2.2
 ·rw [if_pos h1]
  have : a.2.1 = b.2.1 := by rw [sty_eq]; exact h1
  by_cases h2 : a.2.2 = []
  ·rw [if_pos h2]; simp [alikeP, this, h2]
  ·rw [if_neg h2]; simp [alikeP, h2]
 ·rw [if_neg h1]
  have : ¬ a.2.1 = b.2.1 := by rw [sty_eq]; exact h1
  simp [alikeP, this]
theorem style_check {l : Row} (hl : shortR l) : q17 fuelH l = some (rowChk l) := by
 unfold q17
 by_cases h : 16 < l.length
 ·rw [cnd_t (ilt_t (by simp only [len]; omega))]; simp [rowChk, h]
 ·rw [cnd_f (ilt_f (by simp only [len]; omega)), jn_e]
  refine Eq.trans (lst_loop (l := l) (fun (_ : Unit) (p : Nat) => (p : Int)) (fun i (x : Run) (_ : Unit) self => if runChk (before l i) x ≠ 0 then some (runChk (before l i) x) else self ()) (fun _ => some (0 : Int)) (fun self a i hi => ?_) (fun self a => ?_) fuelH 0 () (Nat.zero_le _) (by have := fuelH_eq; omega)) ?_
  ·rw [cnd_t (ilt_t (by simp only [len]; omega)), grd_t (inb_t (by simp only [len]; omega)), lget_i hi]
   obtain ⟨b1, b2⟩ := hl l[i] (List.getElem_mem hi)
   rw [bnd_s (ch_valid _ b1), bnd_s (show q15 fuelH l[i].2.1 = some (ile (n8 l[i].2.1.1) 6) from rfl), bnd_s (ch_valid _ b2)]
   simp only [cnd_ite, bnot_t, seq_t, ile, decide_eq_false_iff_not]
   rw [w64_succ hi (by omega)]
   cases i with
   | zero =>
    have e0 : before l 0 = none := rfl
    rw [e0, if_neg (show ¬ ilt (0 : Int) ((0 : Nat) : Int) = true by decide)]
    simp only [runChk]
    repeat' split
    all_goals first | rfl | (exfalso; omega) | simp_all
   | succ i =>
    have e0 : before l (i + 1) = some l[i] := by simp only [before]; exact List.getElem?_eq_getElem (by omega)
    rw [e0, if_pos (show ilt (0 : Int) ((i + 1 : Nat) : Int) = true from ilt_t (by omega)), w64_back (by omega), grd_t (inb_t (by simp only [len]; omega)), lget_i (show i < l.length by omega), bnd_s (style_alike_eq _ _ _)]
    simp only [runChk, decide_eq_true_eq]
    repeat' split
    all_goals first | rfl | (exfalso; omega) | simp_all
  ·rw [cnd_f (ilt_f (by simp only [len]; omega))]
  ·rw [List.drop_zero, foldI_chk l l 0 rfl (Nat.zero_le _)]
   simp [rowChk, h, before]
end Go.Mo
end

section
/-
  Plain facts: loops with an invariant; the normal form of a row.
-/
namespace Go.Mo
open Go Go.W Go.Lib
set_option maxRecDepth 100000
noncomputable def itI {α σ R : Type} (f : Nat → α → σ → Option R ⊕ σ) (e : σ → Option R) : Nat → List α → σ → Option R
 | _, [], a => e a
 | i, x :: l, a => match f i x a with
  | .inl r => r
  | .inr a' => itI f e (i + 1) l a'
noncomputable def Rnd {V R σ : Type} (X : Option R) (self : V → Option R) (next : σ → V) (I : σ → Prop) : Option R ⊕ σ → Prop
 | .inl r => X = r
 | .inr a => X = self (next a) ∧ I a
theorem lst_it {V R σ α : Type} {F : (V → Option R) → V → Option R} {l : List α} (st : σ → Nat → V) (f : Nat → α → σ → Option R ⊕ σ) (e : σ → Option R) (I : Nat → σ → Prop)
  (hstep : ∀ self a i (h : i < l.length), I i a → Rnd (F self (st a i)) self (fun a => st a (i + 1)) (I (i + 1)) (f i l[i] a))
  (hend : ∀ self a, I l.length a → F self (st a l.length) = e a) : ∀ (fuel i : Nat) (a : σ), i ≤ l.length → l.length - i < fuel → I i a → fixN F fuel (st a i) = itI f e i (l.drop i) a
 | 0, i, a, _, h, _ => by omega
 | fuel + 1, i, a, hi, h, hI => by
  rw [fixN_s]
  by_cases hl : i < l.length
  ·rw [List.drop_eq_getElem_cons hl, itI]
   have hs := hstep (fixN F fuel) a i hl hI
   cases hf : f i l[i] a with
   | inl r => rw [hf] at hs; exact hs
   | inr a' =>
    rw [hf] at hs
    rw [hs.1]
    exact lst_it st f e I hstep hend fuel (i + 1) a' (by omega) (by omega) hs.2
  ·obtain rfl : i = l.length := by omega
   rw [hend _ _ hI, List.drop_length]
   rfl
theorem itI_fold {α σ R : Type} (f : α → σ → σ) (e : σ → Option R) : ∀ (i : Nat) (l : List α) (a : σ), itI (fun _ x a => .inr (f x a)) e i l a = e (l.foldl (fun a x => f x a) a)
 | _, [], _ => rfl
 | i, x :: l, a => by simp only [itI, List.foldl_cons]; exact itI_fold f e (i + 1) l (f x a)
noncomputable def snoc (out : Row) (x : Run) : Row :=
 if x.1 = [] then out else match out.getLast? with
  | some p => if alikeP p x then out.dropLast ++ [(p.1 ++ x.1, p.2)] else out ++ [x]
  | none => out ++ [x]
noncomputable def normR (l : Row) : Row := l.foldl snoc []
noncomputable def tot : Row → Nat
 | [] => 0
 | x :: r => x.1.length + tot r
theorem tot_app (a b : Row) : tot (a ++ b) = tot a + tot b := by
 induction a with
 | nil => simp [tot]
 | cons x a ih => simp only [List.cons_append, tot, ih]; omega
theorem last_eq {l : Row} {p : Run} (h : l.getLast? = some p) : l = l.dropLast ++ [p] := by
 cases l with
 | nil => cases h
 | cons x l =>
  rw [List.getLast?_eq_some_getLast (List.cons_ne_nil x l)] at h
  injection h with h
  rw [← h]
  exact (List.dropLast_concat_getLast (List.cons_ne_nil x l)).symm
theorem snoc_tot (out : Row) (x : Run) : tot (snoc out x) = tot out + x.1.length := by
 unfold snoc
 split
 ·rename_i h; rw [h]; rfl
 ·split
  ·rename_i p hp
   split
   ·have := congrArg tot (last_eq hp)
    rw [tot_app] at this
    rw [tot_app]
    simp only [tot, List.length_append, Nat.add_zero] at this ⊢
    omega
   ·rw [tot_app]; simp [tot]
  ·rw [tot_app]; simp [tot]
theorem snoc_len (out : Row) (x : Run) : (snoc out x).length ≤ out.length + 1 := by
 unfold snoc
 split
 ·omega
 ·split
  ·split
   ·simp only [List.length_append, List.length_dropLast, List.length_singleton]; omega
   ·simp
  ·simp
theorem lget_last {out : Row} {p : Run} (h : out.getLast? = some p) (hb : out.length ≤ 100000000) (d : Run) : 0 < out.length ∧ w64 (isub (len out) 1) = ((out.length - 1 : Nat) : Int) ∧ lget out (toN (w64 (isub (len out) 1))) d = p := by
 have hl : 0 < out.length := by
  cases out with
  | nil => cases h
  | cons x l => simp
 have hw : w64 (isub (len out) 1) = ((out.length - 1 : Nat) : Int) := w64_pred hl (by omega)
 refine ⟨hl, hw, ?_⟩
 rw [hw, lget_i (show out.length - 1 < out.length by omega)]
 rw [List.getLast?_eq_getElem?, List.getElem?_eq_getElem (by omega)] at h
 injection h
theorem lset_last {out : Row} {p : Run} (h : out.getLast? = some p) (y : Run) : lset out (out.length - 1) y = out.dropLast ++ [y] := by
 have e := last_eq h
 have hl : out.length - 1 = out.dropLast.length := by simp
 rw [hl]
 conv => lhs; rw [e]
 unfold lset
 rw [List.set_append_right _ _ (by simp)]
 simp
theorem last_tot {out : Row} {p : Run} (h : out.getLast? = some p) : p.1.length ≤ tot out := by
 have := congrArg tot (last_eq h)
 rw [tot_app] at this
 simp only [tot, Nat.add_zero] at this
 omega
theorem tot_mem {l : Row} {x : Run} (h : x ∈ l) : x.1.length ≤ tot l := by
 induction l with
 | nil => cases h
 | cons y l ih =>
  simp only [tot]
  rcases List.mem_cons.1 h with rfl | h
  ·omega
  ·have := ih h; omega
noncomputable def NI (l : Row) (i : Nat) (out : Row) : Prop := out.length ≤ i ∧ tot out + tot (l.drop i) = tot l
theorem NI_step {l : Row} {i : Nat} (h : i < l.length) {out : Row} (hI : NI l i out) : NI l (i + 1) (snoc out l[i]) := by
 refine ⟨Nat.le_trans (snoc_len _ _) (Nat.succ_le_succ hI.1), ?_⟩
 have := hI.2
 rw [List.drop_eq_getElem_cons h] at this
 rw [snoc_tot]
 simp only [tot] at this
 omega
theorem style_norm_eq {l : Row} (hl : l.length ≤ 4000000) (ht : tot l ≤ 8000000) : q82 fuelH l = some (normR l) := by
 unfold q82
 rw [jn_e]
 refine Eq.trans (lst_it (l := l) (fun (a : Row) (p : Nat) => ((p : Int), a)) (fun _ x a => .inr (snoc a x)) (fun a => some a) (NI l) (fun self a i hi hI => ?_) (fun self a _ => ?_) fuelH 0 [] (Nat.zero_le _) (by have := fuelH_eq; omega) ⟨Nat.le_refl _, by simp [tot]⟩) ?_
 ·refine ⟨?_, NI_step hi hI⟩
  have hI1 := hI.1
  have hb : tot a ≤ 8000000 := by have := hI.2; omega
  have hx : l[i].1.length ≤ 8000000 := Nat.le_trans (tot_mem (List.getElem_mem hi)) ht
  simp only
  rw [cnd_t (ilt_t (by simp only [len]; omega)), grd_t (inb_t (by simp only [len]; omega)), lget_i hi, w64_succ hi (by omega)]
  have hroom : room (iadd (len a) (len ([l[i]] : Row))) 40 = true := room_t (by simp only [iadd, len, List.length_singleton]; omega)
  rw [grd_t hroom]
  simp only [cnd_ite, seq_t]
  by_cases he : l[i].1 = []
  ·rw [if_pos he]; simp only [snoc, he, if_true]
  ·rw [if_neg he]
   cases hla : a.getLast? with
   | none =>
    have ha : a = [] := List.getLast?_eq_none_iff.1 hla
    subst ha
    rw [if_neg (show ¬ ilt (0 : Int) (len ([] : Row)) = true by decide)]
    simp only [snoc, if_neg he, hla]
    rfl
   | some p =>
    obtain ⟨q1, q2, q3⟩ := lget_last hla (by omega) ([], (((0 : UInt8), (false, false)), []))
    have hin : inb (w64 (isub (len a) 1)) (len a) = true := by rw [q2]; exact inb_t (by simp only [len]; omega)
    have hp := last_tot hla
    rw [if_pos (show ilt (0 : Int) (len a) = true from ilt_t (by simp only [len]; omega)), grd_t hin, q3, bnd_s (style_alike_eq _ _ _), grd_t hin, grd_t (show catOk (iadd (len p.1) (len l[i].1)) = true from decide_eq_true (by simp only [iadd, len]; omega)), grd_t hin, q2]
    simp only [decide_eq_true_eq, snoc, if_neg he, hla]
    by_cases hk : alikeP p l[i]
    ·rw [if_pos hk, if_pos hk]
     have : toN ((a.length - 1 : Nat) : Int) = a.length - 1 := by simp [toN]
     rw [this, lset_last hla]
     rfl
    ·rw [if_neg hk, if_neg hk]; rfl
 ·simp only
  rw [cnd_f (ilt_f (by simp only [len]; omega))]
 ·rw [List.drop_zero, itI_fold]
  rfl
theorem style_Norm_eq {l : Row} (hl : l.length ≤ 4000000) (ht : tot l ≤ 8000000) : q83 fuelH l = some (normR l) := by
 unfold q83
 rw [bnd_s (style_norm_eq hl ht)]
end Go.Mo
end

section
/-
  Plain facts: the bytes of rows.
-/
namespace Go.Mo
open Go Go.W Go.Lib
set_option maxRecDepth 100000
noncomputable section
theorem chkL_ok : ∀ (l : List Run) (p : Option Run), chkL p l = 0 → ∀ x ∈ l, vld x.1 = true ∧ x.1 ≠ [] ∧ n8 x.2.1.1 ≤ 6 ∧ vld x.2.2 = true
 | [], _, _, x, hx => by cases hx
 | y :: l, p, h, x, hx => by
  simp only [chkL] at h
  split at h
  ·rename_i hc; exact absurd h hc
  ·rename_i hc
   rcases List.mem_cons.1 hx with rfl | hx
   ·have hc : runChk p x = 0 := by simpa using hc
    unfold runChk at hc
    split at hc
    ·cases hc
    ·split at hc
     ·cases hc
     ·split at hc
      ·cases hc
      ·split at hc
       ·cases hc
       ·rename_i h1 h2 h3 h4
        exact ⟨by simpa using h1, h2, by omega, by simpa using h4⟩
   ·exact chkL_ok l _ h x hx
theorem rowChk_ok {l : Row} (h : rowChk l = 0) : l.length ≤ 16 ∧ ∀ x ∈ l, vld x.1 = true ∧ x.1 ≠ [] ∧ n8 x.2.1.1 ≤ 6 ∧ vld x.2.2 = true := by
 unfold rowChk at h
 split at h
 ·cases h
 ·exact ⟨by omega, chkL_ok l _ h⟩
noncomputable def colT : List UInt8 := [7, 2, 4, 6, 1, 3, 5]
noncomputable def colB (c : UInt8) : UInt8 := lget colT (toN (n8 c)) 0
theorem colB_eq (N : Nat) {c : UInt8} (h : n8 c ≤ 6) : q18 N c = some (colB c) := by
 unfold q18
 rw [grd_t (inb_t (by have := n8_rng c; simp only [ofN]; omega))]
 rfl
noncomputable def runB (now : Sty) (x : Run) : List UInt8 :=
 (if x.2.1.1 ≠ now.1 then [colB x.2.1.1] else []) ++ (if x.2.1.2.1 ≠ now.2.1 then [if x.2.1.2.1 = true then 128 else 129] else []) ++ (if x.2.1.2.2 ≠ now.2.2 then [if x.2.1.2.2 = true then 130 else 131] else []) ++ latE x.1
noncomputable def rowB : Sty → Row → List UInt8
 | _, [] => []
 | now, x :: r => runB now x ++ rowB x.2.1 r
noncomputable def plainS : Sty := (0, false, false)
noncomputable def cost : Row → Nat
 | [] => 0
 | x :: r => 3 + x.1.length + cost r
theorem runB_len {now : Sty} {x : Run} (h : vld x.1 = true) : (runB now x).length ≤ 3 + x.1.length := by
 have := latE_len h
 have h1 : ∀ (p : Prop) [Decidable p] (y : UInt8), (if p then [y] else []).length ≤ 1 := fun p _ y => by split <;> simp
 have a1 := h1 (x.2.1.1 ≠ now.1) (colB x.2.1.1)
 have a2 := h1 (x.2.1.2.1 ≠ now.2.1) (if x.2.1.2.1 = true then 128 else 129)
 have a3 := h1 (x.2.1.2.2 ≠ now.2.2) (if x.2.1.2.2 = true then 130 else 131)
 unfold runB
 rw [List.length_append, List.length_append, List.length_append]
 omega
theorem rowB_len : ∀ {l : Row} {now : Sty}, (∀ x ∈ l, vld x.1 = true) → (rowB now l).length ≤ cost l
 | [], _, _ => Nat.le_refl _
 | x :: l, now, h => by
  have h1 := runB_len (now := now) (h x List.mem_cons_self)
  have h2 := rowB_len (l := l) (now := x.2.1) fun y hy => h y (List.mem_cons_of_mem _ hy)
  simp only [rowB, cost, List.length_append]
  omega
theorem cost_eq (l : Row) : cost l = 3 * l.length + tot l := by
 induction l with
 | nil => rfl
 | cons x l ih => simp only [cost, tot, List.length_cons, ih]; omega
theorem rowB_fold : ∀ (l : Row) (out : List UInt8) (now : Sty), (l.foldl (fun (a : List UInt8 × Sty) x => (a.1 ++ runB a.2 x, x.2.1)) (out, now)).1 = out ++ rowB now l
 | [], out, now => by simp [rowB]
 | x :: l, out, now => by simp only [List.foldl_cons, rowB]; rw [rowB_fold l]; simp
noncomputable def fits (l : Row) : Prop := ∀ x ∈ l, vld x.1 = true ∧ n8 x.2.1.1 ≤ 6 ∧ x.1.length ≤ 4000000
noncomputable def RI (l : Row) (B : Nat) (i : Nat) (a : List UInt8 × Sty) : Prop := a.1.length + cost (l.drop i) ≤ B
theorem RI_step {l : Row} {B i : Nat} (h : i < l.length) (hf : fits l) {a : List UInt8 × Sty} (hI : RI l B i a) : RI l B (i + 1) (a.1 ++ runB a.2 l[i], l[i].2.1) ∧ a.1.length + 3 + l[i].1.length ≤ B := by
 unfold RI at hI ⊢
 rw [List.drop_eq_getElem_cons h] at hI
 have := runB_len (now := a.2) (hf l[i] (List.getElem_mem h)).1
 simp only [cost] at hI
 simp only [List.length_append]
 omega
noncomputable def textL : Bool → List Row → List UInt8 → List UInt8 × Int
 | _, [], out => (out, 0)
 | first, r :: l, out => if rowChk r ≠ 0 then ([], rowChk r) else textL false l (out ++ (if first then [] else [138]) ++ rowB plainS r)
noncomputable def costL : List Row → Nat
 | [] => 0
 | r :: l => 1 + cost r + costL l
theorem itI_text : ∀ (l : List Row) (i : Nat) (out : List UInt8), itI (fun i r (a : List UInt8) => if rowChk r ≠ 0 then .inl (some (([] : List UInt8), rowChk r)) else .inr (a ++ (if i = 0 then [] else [138]) ++ rowB plainS r)) (fun a => some (a, (0 : Int))) i l out = some (textL (decide (i = 0)) l out)
 | [], i, out => rfl
 | r :: l, i, out => by
  simp only [itI, textL]
  by_cases h : rowChk r ≠ 0
  ·rw [if_pos h, if_pos h]
  ·rw [if_neg h, if_neg h]
   simp only
   rw [itI_text l (i + 1)]
   have : decide (i + 1 = 0) = false := decide_eq_false (by omega)
   rw [this]
   by_cases h0 : i = 0
   ·simp [h0]
   ·simp [h0]
theorem app_if {R : Type} {b : Bool} {p : Prop} [Decidable p] (hb : (b = true) = p) {y : UInt8} {X : Option UInt8} (hX : X = some y) (out : List UInt8) (ho : out.length ≤ 90000000) (k : List UInt8 → Option R) :
  jn k (fun w => cnd b (bnd X fun v => grd (room (iadd (len out) (len ([v] : List UInt8))) 1) (w (lapp out ([v] : List UInt8)))) (w out)) = k (out ++ if p then [y] else []) := by
 rw [jn_e, hX, bnd_some', grd_t (room_t (by simp only [iadd, len, List.length_singleton]; omega)), cnd_ite]
 by_cases h : p
 ·rw [if_pos (by rw [hb]; exact h), if_pos h]; rfl
 ·rw [if_neg (by rw [hb]; exact h), if_neg h, List.append_nil]
theorem app_enc {R : Type} {X : Option (List UInt8 × Int)} {y : List UInt8} (hX : X = some (y, 0)) (hy : y.length ≤ 4000000) (out : List UInt8) (ho : out.length ≤ 90000000) (k : List UInt8 → Option R) :
  (bnd X fun v => grd (room (iadd (len out) (len v.1)) 1) (k (lapp out v.1))) = k (out ++ y) := by
 rw [hX, bnd_some', grd_t (room_t (by simp only [iadd, len]; omega))]; rfl
theorem on_eq (N : Nat) (b : Bool) (y z : UInt8) : stl_on N (b, y, z) = some (if b = true then y else z) := by cases b <;> rfl
theorem if_len (p : Prop) [Decidable p] (y : UInt8) : (if p then [y] else []).length ≤ 1 := by split <;> simp
noncomputable def rowF {R : Type} (x : Row) (K : List UInt8 → Option R) (v8 : List UInt8 × Int × UInt8 × Bool × Bool → Option R) (v9 : List UInt8 × Int × UInt8 × Bool × Bool) : Option R :=
      cnd (ilt v9.2.1 (len x))
       (grd (inb v9.2.1 (len x))
        (jn (fun (v10 : List UInt8) =>
         jn (fun (v11 : List UInt8) =>
          jn (fun (v12 : List UInt8) =>
           bnd (q30 fuelH (lget x (toN v9.2.1) ([], (((0 : UInt8), (false, false)), []))).1) fun v13 =>
           grd (room (iadd (len v12) (len v13.1)) 1) <|
           v8 (lapp v12 v13.1, w64 (iadd v9.2.1 (1 : Int)), (lget x (toN v9.2.1) ([], (((0 : UInt8), (false, false)), []))).2.1))
          fun v14 =>
          cnd (bneb (lget x (toN v9.2.1) ([], (((0 : UInt8), (false, false)), []))).2.1.2.2 v9.2.2.2.2)
           (bnd (stl_on fuelH ((lget x (toN v9.2.1) ([], (((0 : UInt8), (false, false)), []))).2.1.2.2, (130 : UInt8), (131 : UInt8))) fun v15 =>
           grd (room (iadd (len v11) (len ([v15] : List UInt8))) 1) <|
           v14 (lapp v11 ([v15] : List UInt8)))
           (v14 v11))
         fun v16 =>
         cnd (bneb (lget x (toN v9.2.1) ([], (((0 : UInt8), (false, false)), []))).2.1.2.1 v9.2.2.2.1)
          (bnd (stl_on fuelH ((lget x (toN v9.2.1) ([], (((0 : UInt8), (false, false)), []))).2.1.2.1, (128 : UInt8), (129 : UInt8))) fun v17 =>
          grd (room (iadd (len v10) (len ([v17] : List UInt8))) 1) <|
          v16 (lapp v10 ([v17] : List UInt8)))
          (v16 v10))
        fun v18 =>
        cnd (ine (n8 (lget x (toN v9.2.1) ([], (((0 : UInt8), (false, false)), []))).2.1.1) (n8 v9.2.2.1))
         (bnd (q18 fuelH (lget x (toN v9.2.1) ([], (((0 : UInt8), (false, false)), []))).2.1.1) fun v19 =>
         grd (room (iadd (len v9.1) (len ([v19] : List UInt8))) 1) <|
         v18 (lapp v9.1 ([v19] : List UInt8)))
         (v18 v9.1)))
       (K v9.1)
theorem rowF_eq {R : Type} {x : Row} (hf : fits x) (hx : x.length ≤ 1000000) (K : List UInt8 → Option R) {b : List UInt8} (hb : b.length + cost x ≤ 80000000) : fixN (rowF x K) fuelH (b, (0 : Int), (0 : UInt8), false, false) = K (b ++ rowB plainS x) := by
 refine Eq.trans (lst_it (l := x) (fun (a : List UInt8 × Sty) (p : Nat) => (a.1, (p : Int), a.2)) (fun _ y a => .inr (a.1 ++ runB a.2 y, y.2.1)) (fun a => K a.1) (RI x 80000000) (fun self a j hj hJ => ?_) (fun self a _ => ?_) fuelH 0 (b, plainS) (Nat.zero_le _) (by have := fuelH_eq; omega) (by simpa [RI] using hb)) ?_
 ·obtain ⟨s1, s2⟩ := RI_step hj hf hJ
  refine ⟨?_, s1⟩
  obtain ⟨f1, f2, f3⟩ := hf x[j] (List.getElem_mem hj)
  unfold rowF
  simp only
  rw [cnd_t (ilt_t (by simp only [len]; omega)), grd_t (inb_t (by simp only [len]; omega)), lget_i hj, w64_succ hj (by omega)]
  have le := latE_len f1
  have henc : q30 fuelH x[j].1 = some (latE x[j].1, 0) := by rw [latin_encode f3, if_pos f1]
  have l1 := if_len (x[j].2.1.1 ≠ a.2.1) (colB x[j].2.1.1)
  have l2 := if_len (x[j].2.1.2.1 ≠ a.2.2.1) (if x[j].2.1.2.1 = true then 128 else 129)
  have l3 := if_len (x[j].2.1.2.2 ≠ a.2.2.2) (if x[j].2.1.2.2 = true then 130 else 131)
  refine Eq.trans (app_if (p := x[j].2.1.1 ≠ a.2.1) (by rw [ine_tt, ne_eq, n8_eq]) (colB_eq fuelH f2) a.1 (by omega) _) ?_
  refine Eq.trans (app_if (p := x[j].2.1.2.1 ≠ a.2.2.1) bneb_t (on_eq _ _ _ _) _ (by rw [List.length_append]; omega) _) ?_
  refine Eq.trans (app_if (p := x[j].2.1.2.2 ≠ a.2.2.2) bneb_t (on_eq _ _ _ _) _ (by rw [List.length_append, List.length_append]; omega) _) ?_
  refine Eq.trans (app_enc henc (by omega) _ (by rw [List.length_append, List.length_append, List.length_append]; omega) fun o => self (o, ((j + 1 : Nat) : Int), x[j].2.1)) ?_
  simp only [runB, List.append_assoc]
 ·unfold rowF
  simp only
  rw [cnd_f (ilt_f (by simp only [len]; omega))]
 ·rw [List.drop_zero, itI_fold, rowB_fold]
noncomputable def shortL (l : List Row) : Prop := ∀ r ∈ l, shortR r
theorem stl_text {l : List Row} (hs : shortL l) (hc : costL l ≤ 60000000) (hl : l.length ≤ 1000000) : stl_Text fuelH l = some (textL true l []) := by
 unfold stl_Text
 rw [jn_e]
 refine Eq.trans (lst_it (l := l) (fun (a : List UInt8) (p : Nat) => (a, (p : Int))) (fun i r a => if rowChk r ≠ 0 then .inl (some (([] : List UInt8), rowChk r)) else .inr (a ++ (if i = 0 then [] else [138]) ++ rowB plainS r)) (fun a => some (a, (0 : Int))) (fun i a => a.length + costL (l.drop i) ≤ 60000000) (fun self a i hi hI => ?_) (fun self a _ => ?_) fuelH 0 [] (Nat.zero_le _) (by have := fuelH_eq; omega) (by simpa using hc)) ?_
 ·have hsr := hs l[i] (List.getElem_mem hi)
  rw [List.drop_eq_getElem_cons hi] at hI
  simp only [costL] at hI
  by_cases hk : rowChk l[i] ≠ 0
  ·rw [if_pos hk]
   show _ = _
   simp only
   rw [cnd_t (ilt_t (by simp only [len]; omega)), jn_e, grd_t (inb_t (by simp only [len]; omega)), lget_i hi, bnd_s (style_check hsr), cnd_t (ine_t hk)]
  ·rw [if_neg hk]
   have hk0 : rowChk l[i] = 0 := by simpa using hk
   obtain ⟨hk1, hk2⟩ := rowChk_ok hk0
   have hf : fits l[i] := fun x hx => ⟨(hk2 x hx).1, (hk2 x hx).2.2.1, (hsr x hx).1⟩
   have hrl := rowB_len (now := plainS) fun x hx => (hk2 x hx).1
   refine ⟨?_, ?_⟩
   ·simp only
    rw [cnd_t (ilt_t (by simp only [len]; omega)), jn_e, grd_t (inb_t (by simp only [len]; omega)), lget_i hi, bnd_s (style_check hsr), cnd_f (ine_f hk0), jn_e, w64_succ hi (by omega)]
    by_cases h0 : i = 0
    ·subst h0
     rw [cnd_f (ilt_f (by omega))]
     refine Eq.trans (rowF_eq hf (by omega) (fun b => self (b, ((0 + 1 : Nat) : Int))) (by omega)) ?_
     simp
    ·rw [cnd_t (ilt_t (by omega)), grd_t (room_t (by simp only [iadd, len, List.length_singleton]; omega)), if_neg h0]
     refine Eq.trans (rowF_eq hf (by omega) (fun b => self (b, ((i + 1 : Nat) : Int))) (by simp only [lapp, List.length_append, List.length_singleton]; omega)) ?_
     rfl
   ·simp only [List.length_append]
    split <;> simp <;> omega
 ·simp only
  rw [cnd_f (ilt_f (by simp only [len]; omega))]
 ·rw [List.drop_zero, itI_text]
  rfl
end
end Go.Mo
end

section
/-
  Plain facts: rows that are read from bytes, on both sides.
-/
namespace Go.Mo
open Go Go.W Go.Lib
set_option maxRecDepth 100000
noncomputable section
noncomputable def g1 (a : UInt8) : Option Int := if 32 ≤ n8 a ∧ n8 a < 127 then some (n8 a) else (sgF a).map (·.1)
noncomputable def g2 (a b : UInt8) : Int × Int := (acG (accR a) b).getD (0, 0)
noncomputable def getS (a : UInt8) (t : List UInt8) : Int × Int := match g1 a with
 | some r => (r, 1)
 | none => match t with
  | [] => (0, 0)
  | b :: _ => g2 a b
theorem g2_any (a b : UInt8) : acG (accR a) b = some (g2 a b) ∧ (g2 a b = (0, 0) ∨ ∃ r, g2 a b = (r, 2) ∧ inRep r = true) := by
 have h0 : ∀ l : List Int, l.all (fun r => inRep r && inRep (low r)) = true → ∃ p, acG l b = some p ∧ (p = (0, 0) ∨ ∃ r, p = (r, 2) ∧ inRep r = true) := by
  intro l
  induction l with
  | nil => intro _; exact ⟨(0, 0), rfl, .inl rfl⟩
  | cons r l ih =>
   intro h
   rw [List.all_cons, Bool.and_eq_true, Bool.and_eq_true] at h
   obtain ⟨p, h1, h2⟩ := ih h.2
   simp only [acG]
   by_cases c1 : bas r = n8 b
   ·exact ⟨(r, 2), by rw [cnd_t (ieq_t c1)], .inr ⟨r, rfl, h.1.1⟩⟩
   ·rw [cnd_f (ieq_f c1)]
    by_cases c2 : bas (low r) = n8 b
    ·exact ⟨(low r, 2), by rw [cnd_t (ieq_t c2)], .inr ⟨_, rfl, h.1.2⟩⟩
    ·rw [cnd_f (ieq_f c2)]
     exact ⟨p, h1, h2⟩
 obtain ⟨p, h1, h2⟩ := h0 _ (accR_tab a).2.2
 unfold g2
 rw [h1]
 exact ⟨rfl, h2⟩
theorem g1_rep {a : UInt8} {r : Int} (h : g1 a = some r) : inRep r = true := by
 unfold g1 at h
 split at h
 ·rename_i hc
  injection h with h
  subst h
  unfold inRep
  rw [decide_eq_true hc.1, decide_eq_true (by omega : n8 a ≤ 126)]
  rfl
 ·obtain ⟨x, h1, h2⟩ := Option.map_eq_some_iff.1 h
  subst h2
  exact List.all_eq_true.1 sgs_rep x (List.mem_of_find?_eq_some h1)
theorem get_form (a : UInt8) (t : List UInt8) : q119 fuelH (a :: t) = some (getS a t) := by
 rw [latin_get_cons, cnd_ile, cnd_ilt]
 have hx : gtX a t = match sgF a with
   | some x => some (x.1, 1)
   | none => match t with
    | [] => some (0, 0)
    | b :: _ => some (g2 a b) := by
  unfold gtX
  rw [sgG_eq]
  unfold sgF
  cases sgs.find? fun x => n8 x.2 == n8 a with
  | some x => rfl
  | none => cases t with
   | nil => rfl
   | cons b t => exact (g2_any a b).1
 unfold getS g1
 by_cases h : 32 ≤ n8 a ∧ n8 a < 127
 ·rw [if_pos h.1, if_pos h.2, if_pos h]
 ·rw [if_neg h]
  have : (if 32 ≤ n8 a then if n8 a < 127 then some (n8 a, (1 : Int)) else gtX a t else gtX a t) = gtX a t := by
   split
   ·rw [if_neg (by omega)]
   ·rfl
  rw [this, hx]
  cases sgF a with
  | some x => rfl
  | none => cases t <;> rfl
theorem getS_any (a : UInt8) (t : List UInt8) : getS a t = (0, 0) ∨ (∃ r, g1 a = some r ∧ getS a t = (r, 1) ∧ inRep r = true) ∨ (∃ r b t', g1 a = none ∧ t = b :: t' ∧ g2 a b = (r, 2) ∧ getS a t = (r, 2) ∧ inRep r = true) := by
 unfold getS
 cases h1 : g1 a with
 | some r => exact .inr (.inl ⟨r, rfl, rfl, g1_rep h1⟩)
 | none => cases t with
  | nil => exact .inl rfl
  | cons b t' =>
   rcases (g2_any a b).2 with h | ⟨r, h, hr⟩
   ·exact .inl h
   ·exact .inr (.inr ⟨r, b, t', rfl, rfl, h, h, hr⟩)
theorem g2_138 (a : UInt8) : g2 a 138 = (0, 0) := of_decide_eq_true (all_u8 (P := fun a => decide (g2 a 138 = (0, 0))) (by kernel_rfl) a)
noncomputable def swB (s : Sty) (b : UInt8) : Option Sty :=
 if b = 128 ∨ b = 129 then some (s.1, decide (b = 128), s.2.2) else if b = 130 ∨ b = 131 then some (s.1, s.2.1, decide (b = 130)) else if 1 ≤ n8 b ∧ n8 b ≤ 7 then some (lget [4, 1, 5, 2, 6, 3, 0] (toN (n8 b - 1)) 0, s.2) else none
noncomputable def turnR (s : Sty) (b : UInt8) : Sty × Bool := match swB s b with
 | some s' => (s', true)
 | none => (s, false)
theorem tab_get {α : Type} {f g : Nat → α} (h : (List.range 256).map f = (List.range 256).map g) (b : UInt8) : f b.toNat = g b.toNat := by
 have := congrArg (fun l => l[b.toNat]?) h
 have hb := b.toNat_lt
 simpa [hb] using this
theorem turned_tab (N : Nat) (a : UInt8) (b c : Bool) : (List.range 256).map (fun n => q135 (N + 10) ((a, b, c), UInt8.ofNat n)) = (List.range 256).map (fun n => some (turnR (a, b, c) (UInt8.ofNat n))) := by kernel_rfl
theorem turned_eq (s : Sty) (b : UInt8) : q135 fuelH (s, b) = some (turnR s b) := by
 have := tab_get (turned_tab (fuelM + 4990) s.1 s.2.1 s.2.2) b
 have e : fuelH = fuelM + 4990 + 10 := rfl
 rw [e]
 simpa using this
theorem swB_138 (s : Sty) : swB s 138 = none := by
 unfold swB
 rw [if_neg (by decide), if_neg (by decide), if_neg (by decide)]
noncomputable def prs : List UInt8 → Sty → Row → Option Row
 | [], _, row => some row
 | a :: t, now, row => match swB now a with
  | some s => prs t s row
  | none => match g1 a with
   | some r => prs t now (row ++ [(enc r, now, [])])
   | none => match t with
    | [] => none
    | b :: t' => if (g2 a b).2 = 0 then none else prs t' now (row ++ [(enc (g2 a b).1, now, [])])
noncomputable def spl : List UInt8 → List UInt8 × List (List UInt8)
 | [] => ([], [])
 | a :: t => if a = 138 then ([], (spl t).1 :: (spl t).2) else (a :: (spl t).1, (spl t).2)
noncomputable def runSeg : List (List UInt8) → List Row → List Row × Int
 | [], out => (out, 0)
 | s :: r, out => match prs s plainS [] with
  | none => ([], 4)
  | some row => runSeg r (out ++ [normR row])
noncomputable def rwS : List UInt8 → List Row → Sty → Row → List Row × Int
 | [], out, _, row => (out ++ [normR row], 0)
 | a :: t, out, now, row => if a = 138 then rwS t (out ++ [normR row]) plainS [] else match swB now a with
  | some s => rwS t out s row
  | none => match g1 a with
   | some r => rwS t out now (row ++ [(enc r, now, [])])
   | none => match t with
    | [] => ([], 4)
    | b :: t' => if (g2 a b).2 = 0 then ([], 4) else rwS t' out now (row ++ [(enc (g2 a b).1, now, [])])
noncomputable def thenS (x : Option Row) (r : List (List UInt8)) (out : List Row) : List Row × Int := match x with
 | none => ([], 4)
 | some row => runSeg r (out ++ [normR row])
theorem rwS_eq : ∀ (n : Nat) (p : List UInt8) (out : List Row) (now : Sty) (row : Row), p.length ≤ n → rwS p out now row = thenS (prs (spl p).1 now row) (spl p).2 out
 | _, [], out, now, row, _ => rfl
 | 0, a :: t, _, _, _, h => by simp at h
 | n + 1, a :: t, out, now, row, h => by
  simp only [List.length_cons] at h
  unfold rwS spl
  by_cases ha : a = 138
  ·rw [if_pos ha, if_pos ha, rwS_eq n t _ _ _ (by omega)]
   rfl
  ·rw [if_neg ha, if_neg ha]
   simp only
   conv => rhs; unfold prs
   cases hs : swB now a with
   | some s => simp only; rw [rwS_eq n t _ _ _ (by omega)]
   | none =>
    simp only
    cases hg : g1 a with
    | some r => simp only; rw [rwS_eq n t _ _ _ (by omega)]
    | none =>
     simp only
     cases t with
     | nil => rfl
     | cons b t' =>
      simp only [List.length_cons] at h
      simp only
      by_cases hb : b = 138
      ·subst hb
       rw [g2_138, if_pos rfl]
       simp only [spl, if_true]
       rfl
      ·simp only [spl, if_neg hb]
       by_cases h2 : (g2 a b).2 = 0
       ·rw [if_pos h2, if_pos h2]; rfl
       ·rw [if_neg h2, if_neg h2, rwS_eq n t' _ _ _ (by omega)]
theorem enc_len4 {r : Int} (h : inRep r = true) : (enc r).length ≤ 4 := enc_len h
noncomputable def GI (B : Nat) (p : List UInt8) (row : Row) : Prop := row.length + p.length ≤ B ∧ tot row ≤ 4 * row.length
theorem GI_app {B : Nat} {p q : List UInt8} {row : Row} {r : Int} {s : Sty} (h : GI B p row) (hr : inRep r = true) (hq : q.length < p.length) : GI B q (row ++ [(enc r, s, [])]) := by
 have := enc_len4 hr
 have h2 := h.2
 have h1 := h.1
 refine ⟨by rw [List.length_append, List.length_singleton]; omega, ?_⟩
 rw [tot_app, List.length_append, List.length_singleton]
 simp only [tot]
 omega
theorem stl_rows_loop {B : Nat} (hB : B ≤ 1100000) : ∀ (fuel : Nat) (p : List UInt8) (out : List Row) (now : Sty) (row : Row), p.length < fuel → GI B p row → out.length + p.length ≤ B →
  fixN (fun v3 (v4 : (List UInt8) × (List Row) × Sty × Row) =>
  cnd (ilt (0 : Int) (len v4.1))
   (grd (inb (0 : Int) (len v4.1))
    (cnd (ieq (n8 (lget v4.1 (toN (0 : Int)) (0 : UInt8))) (n8 (138 : UInt8)))
     (bnd (q83 fuelH v4.2.2.2) fun v5 =>
     grd (room (iadd (len v4.2.1) (len ([v5] : List Row))) 24) <|
     grd (in2 (1 : Int) (len v4.1)) <|
     v3 (ldrop (toN (1 : Int)) v4.1, lapp v4.2.1 ([v5] : List Row), ((0 : UInt8), false, false), ([] : Row)))
     (grd (inb (0 : Int) (len v4.1))
      (bnd (q135 fuelH (v4.2.2.1, lget v4.1 (toN (0 : Int)) (0 : UInt8))) fun v6 =>
      cnd v6.2
       (grd (in2 (1 : Int) (len v4.1))
        (v3 (ldrop (toN (1 : Int)) v4.1, v4.2.1, v6.1, v4.2.2.2)))
       (bnd (q119 fuelH v4.1) fun v7 =>
       cnd (ieq v7.2 (0 : Int))
        (some (([] : List Row), (4 : Int)))
        (grd (room (iadd (len v4.2.2.2) (len ([(enc v7.1, v4.2.2.1, ([] : List UInt8))] : Row))) 40)
         (grd (in2 v7.2 (len v4.1))
          (v3 (ldrop (toN v7.2) v4.1, v4.2.1, v4.2.2.1, lapp v4.2.2.2 ([(enc v7.1, v4.2.2.1, ([] : List UInt8))] : Row))))))))))
   (bnd (q83 fuelH v4.2.2.2) fun v1 =>
  grd (room (iadd (len v4.2.1) (len ([v1] : List Row))) 24) <|
  some (lapp v4.2.1 ([v1] : List Row), (0 : Int)))) fuel (p, out, now, row) = some (rwS p out now row)
 | 0, p, _, _, _, h, _, _ => by omega
 | fuel + 1, p, out, now, row, h, hI, ho => by
  have hnorm : q83 fuelH row = some (normR row) := style_Norm_eq (by have := hI.1; omega) (by have := hI.1; have := hI.2; omega)
  have hroom : room (iadd (len out) (len ([normR row] : List Row))) 24 = true := room_t (by simp only [iadd, len, List.length_singleton]; omega)
  rw [fixN_s]
  cases p with
  | nil =>
   simp only
   rw [cnd_f (by rfl), hnorm, bnd_some', grd_t hroom]
   rfl
  | cons a t =>
   have hl1 : in2 (1 : Int) (len (a :: t)) = true := in2_t (by simp only [len, List.length_cons]; omega)
   have hl0 : inb (0 : Int) (len (a :: t)) = true := inb_t (by simp only [len, List.length_cons]; omega)
   have g0 : lget (a :: t) (toN (0 : Int)) 0 = a := rfl
   have d1 : ldrop (toN (1 : Int)) (a :: t) = t := rfl
   simp only [List.length_cons] at h ho
   simp only
   rw [cnd_t (ilt_t (by simp only [len, List.length_cons]; omega)), grd_t hl0, g0, d1]
   unfold rwS
   by_cases ha : a = 138
   ·subst ha
    rw [cnd_t (ieq_t rfl), hnorm, bnd_some', grd_t hroom, grd_t hl1, if_pos rfl]
    refine stl_rows_loop hB fuel t (out ++ [normR row]) plainS [] (by omega) ⟨?_, Nat.le_refl _⟩ (by rw [List.length_append, List.length_singleton]; omega)
    have := hI.1; simp only [List.length_cons] at this; simp; omega
   ·rw [cnd_f (ieq_f fun e => ha (n8_inj e)), if_neg ha, grd_t hl0, turned_eq, bnd_some']
    have hI1 := hI.1
    simp only [List.length_cons] at hI1
    unfold turnR
    cases hs : swB now a with
    | some s =>
     simp only
     rw [cnd_t rfl, grd_t hl1]
     exact stl_rows_loop hB fuel t out s row (by omega) ⟨by omega, hI.2⟩ (by omega)
    | none =>
     simp only
     rw [cnd_f rfl, get_form, bnd_some']
     rcases getS_any a t with h0 | ⟨r, h1, h2, hr⟩ | ⟨r, b, t', h1, h3, h4, h2, hr⟩
     ·rw [h0, cnd_t (ieq_t rfl)]
      unfold getS at h0
      cases hg : g1 a with
      | some r => rw [hg] at h0; simp at h0
      | none =>
       rw [hg] at h0
       simp only
       cases t with
       | nil => rfl
       | cons b t' => simp only at h0 ⊢; rw [h0, if_pos rfl]
     ·rw [h2, h1, cnd_f (ieq_f (show (1 : Int) ≠ 0 by decide)), grd_t (room_t (by simp only [iadd, len, List.length_singleton]; omega)), grd_t hl1]
      exact stl_rows_loop hB fuel t out now _ (by omega) (GI_app hI hr (by simp)) (by omega)
     ·subst h3
      rw [h2, h1, cnd_f (ieq_f (show (2 : Int) ≠ 0 by decide)), grd_t (room_t (by simp only [iadd, len, List.length_singleton]; omega)), grd_t (in2_t (by simp only [len, List.length_cons]; omega))]
      simp only [h4]
      rw [if_neg (by decide)]
      simp only [List.length_cons] at h ho
      exact stl_rows_loop hB fuel t' out now _ (by omega) (GI_app hI hr (by simp; omega)) (by omega)
theorem stl_rows {p : List UInt8} (hp : p.length ≤ 1100000) : stl_Rows fuelH p = some (thenS (prs (spl p).1 plainS []) (spl p).2 []) := by
 unfold stl_Rows
 rw [jn_e]
 refine Eq.trans (stl_rows_loop (B := 1100000) (by omega) fuelH p [] plainS [] (by have := fuelH_eq; omega) ⟨by simpa using hp, Nat.le_refl _⟩ (by simpa using hp)) ?_
 rw [rwS_eq _ _ _ _ _ (Nat.le_refl _)]
end
end Go.Mo
end

section
/-
  Plain facts: rows that are read by the reference; equality of rows; StlTexts returns true.
-/
namespace Go.Mo
open Go Go.W Go.Lib
set_option maxRecDepth 100000
noncomputable section
theorem run_eq {a b : Run} : (a = b) = (a.1 = b.1 ∧ a.2.1 = b.2.1 ∧ a.2.2 = b.2.2) := by
 obtain ⟨a1, a2, a3⟩ := a; obtain ⟨b1, b2, b3⟩ := b; simp
theorem same_fold {α : Type} : ∀ (l m : List α) [DecidableEq α], l.length = m.length → ∀ i, itI (fun i (x : α) (_ : Unit) => if some x = m[i]? then (.inr () : Option Bool ⊕ Unit) else .inl (some false)) (fun _ => some true) i (l.drop i) () = some (decide (l.drop i = m.drop i)) := by
 intro l m _ hl i
 generalize hr : l.drop i = r
 induction r generalizing i with
 | nil =>
  have h1 : l.length ≤ i := by have := congrArg List.length hr; simp at this; omega
  have : m.drop i = [] := by rw [List.drop_eq_nil_iff]; omega
  rw [this]; simp [itI]
 | cons x r ih =>
  have hx : l[i]? = some x := by rw [← List.head?_drop, hr]; rfl
  have hi := (List.getElem?_eq_some_iff.1 hx).1
  have hr' : l.drop (i + 1) = r := by rw [← List.drop_drop, hr]; rfl
  have hm : m.drop i = m[i] :: m.drop (i + 1) := List.drop_eq_getElem_cons (by omega)
  rw [hm]
  simp only [itI]
  by_cases h : some x = m[i]?
  ·rw [if_pos h]
   simp only
   rw [ih (i + 1) hr']
   rw [List.getElem?_eq_getElem (by omega)] at h
   injection h with h
   exact congrArg some (decide_eq_decide.2 ⟨fun e => by rw [h, e], fun e => by injection e⟩)
  ·rw [if_neg h]
   rw [List.getElem?_eq_getElem (by omega)] at h
   have : x ≠ m[i] := fun e => h (by rw [e])
   exact congrArg some (decide_eq_false fun e => this (by injection e)).symm
theorem eqRuns (a b : Row) (hl : a.length ≤ 4000000) : q152 fuelH (a, b) = some (decide (a = b)) := by
 unfold q152
 by_cases h : a.length = b.length
 ·rw [cnd_f (ine_f (by simp only [len]; omega)), jn_e]
  refine Eq.trans (lst_it (l := a) (fun (_ : Unit) (p : Nat) => (p : Int)) (fun i (x : Run) (_ : Unit) => if some x = b[i]? then .inr () else .inl (some false)) (fun _ => some true) (fun _ _ => True) (fun self _ i hi _ => ?_) (fun self _ _ => ?_) fuelH 0 () (Nat.zero_le _) (by have := fuelH_eq; omega) trivial) ?_
  ·have hb : i < b.length := by omega
   have e : cnd (ilt (i : Int) (len a)) (grd (inb (i : Int) (len a)) (grd (inb (i : Int) (len b)) (cnd (bnot (band (seq (lget a (toN (i : Int)) ([], (((0 : UInt8), (false, false)), []))).1 (lget b (toN (i : Int)) ([], (((0 : UInt8), (false, false)), []))).1) (band (band (ieq (n8 (lget a (toN (i : Int)) ([], (((0 : UInt8), (false, false)), []))).2.1.1) (n8 (lget b (toN (i : Int)) ([], (((0 : UInt8), (false, false)), []))).2.1.1)) (band (beqb (lget a (toN (i : Int)) ([], (((0 : UInt8), (false, false)), []))).2.1.2.1 (lget b (toN (i : Int)) ([], (((0 : UInt8), (false, false)), []))).2.1.2.1) (beqb (lget a (toN (i : Int)) ([], (((0 : UInt8), (false, false)), []))).2.1.2.2 (lget b (toN (i : Int)) ([], (((0 : UInt8), (false, false)), []))).2.1.2.2))) (seq (lget a (toN (i : Int)) ([], (((0 : UInt8), (false, false)), []))).2.2 (lget b (toN (i : Int)) ([], (((0 : UInt8), (false, false)), []))).2.2)))) (some false) (self (w64 (iadd (i : Int) 1)))))) (some true) = if a[i] = b[i] then self ((i + 1 : Nat) : Int) else some false := by
    rw [cnd_t (ilt_t (by simp only [len]; omega)), grd_t (inb_t (by simp only [len]; omega)), grd_t (inb_t (by simp only [len]; omega)), lget_i hi, lget_i hb, w64_succ hi (by omega), cnd_ite]
    simp only [bnot_t, Bool.eq_false_iff, ne_eq, band_tt, seq_t, ieq_tt, beqb_t, n8_eq, ← sty_eq, ← run_eq]
    by_cases hc : a[i] = b[i]
    ·rw [if_neg (by simpa using hc), if_pos hc]
    ·rw [if_pos hc, if_neg hc]
   rw [List.getElem?_eq_getElem hb]
   by_cases hc : a[i] = b[i]
   ·rw [if_pos (by rw [hc])]
    exact ⟨e.trans (if_pos hc), trivial⟩
   ·rw [if_neg (fun h => hc (by injection h))]
    exact e.trans (if_neg hc)
  ·simp only
   rw [cnd_f (ilt_f (by simp only [len]; omega))]
  ·exact same_fold a b h 0
 ·rw [cnd_t (ine_t (by simp only [len]; omega))]
  have : a ≠ b := fun e => h (by rw [e])
  simp [this]
theorem same_row (a b : Row) (hl : a.length ≤ 4000000) : q153 fuelH (a, b) = some (decide (a = b)) := by
 unfold q153
 rw [eqRuns a b hl, bnd_some']
theorem same_rows (a b : List Row) (hl : a.length ≤ 4000000) (h : ∀ r ∈ a, r.length ≤ 4000000) : q155 fuelH (a, b) = some (decide (a = b)) := by
 unfold q155 q154
 by_cases hab : a.length = b.length
 ·rw [cnd_f (ine_f (by simp only [len]; omega)), jn_e]
  have : ∀ X : Option Bool, (bnd X fun v0 => some v0) = X := fun X => by cases X <;> rfl
  rw [this]
  refine Eq.trans (lst_it (l := a) (fun (_ : Unit) (p : Nat) => (p : Int)) (fun i (x : Row) (_ : Unit) => if some x = b[i]? then .inr () else .inl (some false)) (fun _ => some true) (fun _ _ => True) (fun self _ i hi _ => ?_) (fun self _ _ => ?_) fuelH 0 () (Nat.zero_le _) (by have := fuelH_eq; omega) trivial) ?_
  ·have hb : i < b.length := by omega
   have e : cnd (ilt (i : Int) (len a)) (grd (inb (i : Int) (len a)) (grd (inb (i : Int) (len b)) (bnd (q153 fuelH (lget a (toN (i : Int)) [], lget b (toN (i : Int)) [])) fun v4 => cnd (bnot v4) (some false) (self (w64 (iadd (i : Int) 1)))))) (some true) = if a[i] = b[i] then self ((i + 1 : Nat) : Int) else some false := by
    rw [cnd_t (ilt_t (by simp only [len]; omega)), grd_t (inb_t (by simp only [len]; omega)), grd_t (inb_t (by simp only [len]; omega)), lget_i hi, lget_i hb, w64_succ hi (by omega), same_row _ _ (h _ (List.getElem_mem hi)), bnd_some', cnd_bnot]
   rw [List.getElem?_eq_getElem hb]
   by_cases hc : a[i] = b[i]
   ·rw [if_pos (by rw [hc])]
    exact ⟨e.trans (if_pos hc), trivial⟩
   ·rw [if_neg (fun h => hc (by injection h))]
    exact e.trans (if_neg hc)
  ·simp only
   rw [cnd_f (ilt_f (by simp only [len]; omega))]
  ·exact same_fold a b hab 0
 ·rw [cnd_t (ine_t (by simp only [len]; omega))]
  have : a ≠ b := fun e => hab (by rw [e])
  simp [this, bnd_some']
end
end Go.Mo
end

section
/-
  Plain facts: StlTexts returns true.
-/
namespace Go.Mo
open Go Go.W Go.Lib
set_option maxRecDepth 100000
noncomputable section
theorem awake24 : l24_awake fuelH () = some true := by kernel_rfl
theorem loop_inv {V R σ : Type} {F : (V → Option R) → V → Option R} {n : Nat} (st : σ → Nat → V) (I : Nat → σ → Prop) (r : Option R)
  (hstep : ∀ self a i, i < n → I i a → ∃ a', F self (st a i) = self (st a' (i + 1)) ∧ I (i + 1) a') (hend : ∀ self a, I n a → F self (st a n) = r) : ∀ (fuel i : Nat) (a : σ), i ≤ n → n - i < fuel → I i a → fixN F fuel (st a i) = r
 | 0, i, a, _, h, _ => by omega
 | fuel + 1, i, a, hi, h, hI => by
  rw [fixN_s]
  by_cases hl : i < n
  ·obtain ⟨a', h1, h2⟩ := hstep (fixN F fuel) a i hl hI
   rw [h1]
   exact loop_inv st I r hstep hend fuel (i + 1) a' (by omega) (by omega) h2
  ·obtain rfl : i = n := by omega
   exact hend _ _ hI
theorem bk_mem {α : Type} {f : α → Nat} {l : List α} {x : α} (h : x ∈ l) : f x ≤ bkL f l := by
 induction l with
 | nil => cases h
 | cons y l ih =>
  simp only [bkL]
  rcases List.mem_cons.1 h with rfl | h
  ·omega
  ·have := ih h; omega
noncomputable def wtU (x : Run) : Nat := x.1.length + 1 + (1 + (1 + 1) + (x.2.2.length + 1))
noncomputable def wtR (r : Row) : Nat := bkL wtU r + 1
theorem cost_wt (r : Row) : cost r ≤ bkL wtU r := by
 induction r with
 | nil => exact Nat.le_refl _
 | cons x r ih => simp only [cost, bkL, wtU]; omega
theorem costL_wt (l : List Row) : costL l ≤ bkL wtR l := by
 induction l with
 | nil => exact Nat.le_refl _
 | cons r l ih => have := cost_wt r; simp only [costL, bkL, wtR]; omega
theorem short_wt {l : List Row} {B : Nat} (h : bkL wtR l ≤ B) (hB : B ≤ 4000000) : shortL l := fun r hr x hx => by
 have h1 : bkL wtU r + 1 ≤ bkL wtR l := bk_mem (f := wtR) hr
 have h2 : x.1.length + 1 + (1 + (1 + 1) + (x.2.2.length + 1)) ≤ bkL wtU r := bk_mem (f := wtU) hx
 omega
theorem clone_rows {l : List Row} (h : l.length ≤ 4000000) : q137 fuelH l = some l := by
 have h1 : grd (room (iadd (len ([] : List Row)) (len l)) 24) (some (lapp ([] : List Row) l)) = some l := by
  rw [grd_t (room_t (by simp only [iadd, len, List.length_nil]; omega))]; rfl
 unfold q137
 cases l with
 | nil =>
  rw [cnd_f (by rfl)]
  exact univ_of rfl h1
 | cons r l =>
  rw [cnd_t (ine_t (by simp only [len, List.length_cons]; omega))]
  exact h1
theorem min_take {α : Type} (l : List α) (n : Nat) : ltake (toN (imin (len l) (n : Int))) l = l.take n ∧ in2 (imin (len l) (n : Int)) (len l) = true := by
 have e : toN (imin (len l) (n : Int)) = min l.length n := by simp only [toN, imin, len]; omega
 refine ⟨?_, in2_t (by simp only [imin, len]; omega)⟩
 rw [e]
 unfold ltake
 by_cases h : l.length ≤ n
 ·rw [Nat.min_eq_left h, List.take_length, List.take_of_length_le h]
 ·rw [Nat.min_eq_right (by omega)]
theorem textL_len : ∀ (l : List Row) (b : Bool) (out : List UInt8), (textL b l out).1.length ≤ out.length + costL l
 | [], _, out => by simp [textL]
 | r :: l, b, out => by
  simp only [textL]
  split
  ·simp
  ·rename_i h
   have hr := rowB_len (now := plainS) fun x hx => ((rowChk_ok (l := r) (by simpa using h)).2 x hx).1
   refine Nat.le_trans (textL_len l false _) ?_
   rw [List.length_append, List.length_append]
   simp only [costL]
   split <;> simp <;> omega
theorem prs_len : ∀ (n : Nat) (p : List UInt8) (now : Sty) (row row' : Row), p.length ≤ n → prs p now row = some row' → row'.length ≤ row.length + p.length
 | _, [], _, row, row', _, h => by simp only [prs, Option.some.injEq] at h; subst h; simp
 | 0, a :: t, _, _, _, h, _ => by simp at h
 | n + 1, a :: t, now, row, row', hn, h => by
  simp only [List.length_cons] at hn ⊢
  unfold prs at h
  split at h
  ·have := prs_len n t _ _ _ (by omega) h; omega
  ·split at h
   ·have := prs_len n t _ _ _ (by omega) h
    rw [List.length_append, List.length_singleton] at this; omega
   ·split at h
    ·cases h
    ·rename_i b t'
     split at h
     ·cases h
     ·simp only [List.length_cons] at hn ⊢
      have := prs_len n t' _ _ _ (by omega) h
      rw [List.length_append, List.length_singleton] at this; omega
theorem fold_len : ∀ (l out : Row), (l.foldl snoc out).length ≤ out.length + l.length
 | [], out => Nat.le_refl _
 | x :: l, out => by
  have h1 := snoc_len out x
  have h2 := fold_len l (snoc out x)
  simp only [List.foldl_cons, List.length_cons]
  omega
theorem normR_len (l : Row) : (normR l).length ≤ l.length := by
 have := fold_len l []
 simpa [normR] using this
theorem spl_len : ∀ p : List UInt8, (spl p).1.length ≤ p.length ∧ (spl p).2.length ≤ p.length ∧ ∀ s ∈ (spl p).2, s.length ≤ p.length
 | [] => ⟨Nat.le_refl _, Nat.le_refl _, fun s h => by cases h⟩
 | a :: t => by
  obtain ⟨h1, h2, h3⟩ := spl_len t
  simp only [spl]
  split
  ·refine ⟨Nat.zero_le _, by simp only [List.length_cons]; omega, fun s hs => ?_⟩
   simp only [List.length_cons]
   rcases List.mem_cons.1 hs with rfl | hs
   ·omega
   ·have := h3 s hs; omega
  ·refine ⟨by simp only [List.length_cons]; omega, by simp only [List.length_cons]; omega, fun s hs => ?_⟩
   have := h3 s hs
   simp only [List.length_cons]
   omega
theorem thenS_eq (s : List UInt8) (r : List (List UInt8)) (out : List Row) : thenS (prs s plainS []) r out = runSeg (s :: r) out := rfl
end
end Go.Mo
end

section
/-
  Plain facts: StlReturns returns true.
-/
namespace Go.Mo
open Go Go.W Go.Lib
set_option maxRecDepth 100000
noncomputable section
noncomputable def latC (r : Int) : Bool := match lat r with
 | [a] => (swB plainS a).isNone && decide (a ≠ 138) && decide (g1 a = some r)
 | [a, b] => (swB plainS a).isNone && decide (a ≠ 138) && decide (b ≠ 138) && (g1 a).isNone && decide (g2 a b = (r, 2))
 | _ => false
theorem latC_tab {r : Int} (hr : inRep r = true) : latC r = true := all_rep (P := latC) (by kernel_rfl) hr
theorem swB_none {s s' : Sty} {a : UInt8} (h : swB s a = none) : swB s' a = none := by
 unfold swB at h ⊢
 split at h
 ·cases h
 ·rename_i h1
  split at h
  ·cases h
  ·rename_i h2
   split at h
   ·cases h
   ·rename_i h3
    rw [if_neg h1, if_neg h2, if_neg h3]
theorem lat_no {r : Int} (hr : inRep r = true) : ∀ b ∈ lat r, b ≠ 138 := by
 have h := latC_tab hr
 unfold latC at h
 split at h
 ·rename_i a he
  simp only [Bool.and_eq_true, decide_eq_true_eq] at h
  rw [he]; intro b hb; rw [List.mem_singleton.1 hb]; exact h.1.2
 ·rename_i a b he
  simp only [Bool.and_eq_true, decide_eq_true_eq] at h
  rw [he]; intro c hc
  rcases List.mem_cons.1 hc with rfl | hc
  ·exact h.1.1.1.2
  ·rw [List.mem_singleton.1 hc]; exact h.1.1.2
 ·cases h
theorem prs_lat {r : Int} (hr : inRep r = true) (t : List UInt8) (now : Sty) (row : Row) : prs (lat r ++ t) now row = prs t now (row ++ [(enc r, now, [])]) := by
 have h := latC_tab hr
 unfold latC at h
 split at h
 ·rename_i a he
  simp only [Bool.and_eq_true, decide_eq_true_eq, Option.isNone_iff_eq_none] at h
  rw [he, List.singleton_append]
  conv => lhs; unfold prs
  rw [swB_none (s' := now) h.1.1, h.2]
 ·rename_i a b he
  simp only [Bool.and_eq_true, decide_eq_true_eq, Option.isNone_iff_eq_none] at h
  rw [he, List.cons_append, List.singleton_append]
  conv => lhs; unfold prs
  rw [swB_none (s' := now) h.1.1.1.1, h.1.2]
  simp only
  rw [h.2]
  exact if_neg (show ¬ (2 : Int) = 0 by decide)
 ·cases h
noncomputable def chs1 (s : Sty) (l : List Int) : Row := l.map fun r => (enc r, s, [])
theorem prs_lats : ∀ (l : List Int) (t : List UInt8) (now : Sty) (row : Row), l.all inRep = true → prs (l.flatMap lat ++ t) now row = prs t now (row ++ chs1 now l)
 | [], t, now, row, _ => by simp [chs1]
 | r :: l, t, now, row, h => by
  rw [List.all_cons, Bool.and_eq_true] at h
  rw [List.flatMap_cons, List.append_assoc, prs_lat h.1, prs_lats l t now _ h.2]
  simp [chs1]
theorem swB_col {c : UInt8} (hc : n8 c ≤ 6) (s : Sty) : swB s (colB c) = some (c, s.2) := by
 have hcs : c = 0 ∨ c = 1 ∨ c = 2 ∨ c = 3 ∨ c = 4 ∨ c = 5 ∨ c = 6 := by
  have : c.toNat ≤ 6 := by unfold n8 at hc; omega
  have e : c = UInt8.ofNat c.toNat := by simp
  generalize c.toNat = k at this e
  have : k = 0 ∨ k = 1 ∨ k = 2 ∨ k = 3 ∨ k = 4 ∨ k = 5 ∨ k = 6 := by omega
  rcases this with rfl | rfl | rfl | rfl | rfl | rfl | rfl <;> subst e <;> simp
 rcases hcs with rfl | rfl | rfl | rfl | rfl | rfl | rfl <;> rfl
theorem prs_sw {s s' : Sty} {b : UInt8} (h : swB s b = some s') (t : List UInt8) (row : Row) : prs (b :: t) s row = prs t s' row := by
 conv => lhs; unfold prs
 rw [h]
theorem prs_run {x : Run} (h1 : vld x.1 = true) (h2 : n8 x.2.1.1 ≤ 6) (now : Sty) (t : List UInt8) (row : Row) : prs (runB now x ++ t) now row = prs t x.2.1 (row ++ chs1 x.2.1 (rns x.1)) := by
 unfold runB
 rw [List.append_assoc, List.append_assoc, List.append_assoc]
 have a1 : ∀ u, prs ((if x.2.1.1 ≠ now.1 then [colB x.2.1.1] else []) ++ u) now row = prs u (x.2.1.1, now.2) row := fun u => by
  split
  ·exact prs_sw (swB_col h2 now) u row
  ·rename_i h
   have h : x.2.1.1 = now.1 := by simpa using h
   rw [h]; rfl
 have a2 : ∀ u, prs ((if x.2.1.2.1 ≠ now.2.1 then [if x.2.1.2.1 = true then 128 else 129] else []) ++ u) (x.2.1.1, now.2) row = prs u (x.2.1.1, x.2.1.2.1, now.2.2) row := fun u => by
  split
  ·cases x.2.1.2.1 <;> exact prs_sw rfl u row
  ·rename_i h
   have h : x.2.1.2.1 = now.2.1 := by simpa using h
   rw [h]; rfl
 have a3 : ∀ u, prs ((if x.2.1.2.2 ≠ now.2.2 then [if x.2.1.2.2 = true then 130 else 131] else []) ++ u) (x.2.1.1, x.2.1.2.1, now.2.2) row = prs u x.2.1 row := fun u => by
  split
  ·have e : prs ((if x.2.1.2.2 = true then (130 : UInt8) else 131) :: u) (x.2.1.1, x.2.1.2.1, now.2.2) row = prs u (x.2.1.1, x.2.1.2.1, x.2.1.2.2) row := by
    cases x.2.1.2.2 <;> exact prs_sw rfl u row
   exact e
  ·rename_i h
   have h : x.2.1.2.2 = now.2.2 := by simpa using h
   rw [← h]; rfl
 rw [a1, a2, a3]
 exact prs_lats _ _ _ _ (rns_ok h1)
noncomputable def chsR (l : Row) : Row := l.flatMap fun x => chs1 x.2.1 (rns x.1)
theorem prs_row : ∀ (l : Row) (now : Sty) (row : Row), fits l → prs (rowB now l) now row = some (row ++ chsR l)
 | [], now, row, _ => by simp [rowB, prs, chsR]
 | x :: l, now, row, h => by
  have hx := h x List.mem_cons_self
  simp only [rowB]
  rw [prs_run hx.1 hx.2.1, prs_row l _ _ fun y hy => h y (List.mem_cons_of_mem _ hy)]
  simp [chsR]
noncomputable def bare (x : Run) : Run := (x.1, x.2.1, [])
theorem snoc_ne {out : Row} {x : Run} (h : x.1 ≠ []) : snoc out x = match out.getLast? with
  | some p => if alikeP p x then out.dropLast ++ [(p.1 ++ x.1, p.2)] else out ++ [x]
  | none => out ++ [x] := by unfold snoc; rw [if_neg h]; all_goals (cases out.getLast? <;> rfl)
theorem snoc_last (m : Row) (a b : List UInt8) (s : Sty) (hb : b ≠ []) : snoc (m ++ [(a, s, [])]) (b, s, []) = m ++ [(a ++ b, s, [])] := by
 rw [snoc_ne hb]
 simp only [List.getLast?_append, List.getLast?_singleton, Option.some_or]
 rw [if_pos ⟨rfl, rfl, rfl⟩, List.dropLast_concat]
theorem snoc_snoc (out : Row) {a : List UInt8} (ha : a ≠ []) (b : List UInt8) (s : Sty) : snoc (snoc out (a, s, [])) (b, s, []) = snoc out (a ++ b, s, []) := by
 by_cases hb : b = []
 ·subst hb
  rw [List.append_nil]
  exact (if_pos rfl : (if ([] : List UInt8) = [] then snoc out (a, s, []) else _) = _)
 ·have hab : (a ++ b : List UInt8) ≠ [] := by simp [ha]
  rw [snoc_ne (x := (a, s, [])) ha, snoc_ne (x := (a ++ b, s, [])) hab]
  cases out.getLast? with
  | none => exact snoc_last _ _ _ _ hb
  | some p =>
   simp only
   by_cases hp : p.2.1 = s ∧ p.2.2 = []
   ·have h1 : alikeP p (a, s, []) := ⟨hp.1, hp.2, rfl⟩
    have h2 : alikeP p (a ++ b, s, []) := ⟨hp.1, hp.2, rfl⟩
    rw [if_pos h1, if_pos h2]
    have e : p.2 = (s, []) := by rw [← hp.1, ← hp.2]
    rw [e, snoc_last _ _ _ _ hb, List.append_assoc]
   ·have h1 : ¬ alikeP p (a, s, []) := fun h => hp ⟨h.1, h.2.1⟩
    have h2 : ¬ alikeP p (a ++ b, s, []) := fun h => hp ⟨h.1, h.2.1⟩
    rw [if_neg h1, if_neg h2, snoc_last _ _ _ _ hb]
theorem enc_ne {r : Int} (hr : inRep r = true) : enc r ≠ [] := by
 have h := lat_ok hr
 intro e
 rw [e] at h
 have h1 := h.2.1; have h2 := h.2.2.1
 simp only [List.length_nil] at h1
 omega
theorem fold_chs : ∀ (l : List Int) (s : Sty) (out : Row), l.all inRep = true → (chs1 s l).foldl snoc out = snoc out (ofR l, s, [])
 | [], s, out, _ => by simp [chs1, ofR, snoc]
 | r :: l, s, out, h => by
  rw [List.all_cons, Bool.and_eq_true] at h
  have ih := fold_chs l s (snoc out (enc r, s, [])) h.2
  unfold chs1 at ih ⊢
  rw [List.map_cons, List.foldl_cons, ih, snoc_snoc _ (enc_ne h.1)]
  simp [ofR]
theorem fold_chsR : ∀ (l : Row) (out : Row), (∀ x ∈ l, vld x.1 = true) → (chsR l).foldl snoc out = (l.map bare).foldl snoc out
 | [], out, _ => rfl
 | x :: l, out, h => by
  have hx := h x List.mem_cons_self
  have ih := fun o => fold_chsR l o fun y hy => h y (List.mem_cons_of_mem _ hy)
  unfold chsR at ih ⊢
  rw [List.flatMap_cons, List.foldl_append, fold_chs _ _ _ (rns_ok hx), ofR_rns hx, ih]
  rfl
theorem norm_chsR {l : Row} (h : ∀ x ∈ l, vld x.1 = true) : normR (chsR l) = normR (l.map bare) := fold_chsR l [] h
noncomputable def tailB : Bool → List Row → List UInt8
 | _, [] => []
 | b, r :: l => (if b then [] else [138]) ++ (rowB plainS r ++ tailB false l)
theorem textL_cases : ∀ (l : List Row) (b : Bool) (out : List UInt8), ((∀ r ∈ l, rowChk r = 0) ∧ textL b l out = (out ++ tailB b l, 0)) ∨ ∃ e, e ≠ 0 ∧ textL b l out = ([], e)
 | [], b, out => .inl ⟨fun r h => (by cases h), (by simp [textL, tailB])⟩
 | r :: l, b, out => by
  simp only [textL]
  by_cases h : rowChk r ≠ 0
  ·rw [if_pos h]; exact .inr ⟨_, h, rfl⟩
  ·rw [if_neg h]
   rcases textL_cases l false (out ++ (if b then [] else [138]) ++ rowB plainS r) with ⟨h1, h2⟩ | h1
   ·refine .inl ⟨fun q hq => ?_, ?_⟩
    ·rcases List.mem_cons.1 hq with rfl | hq
     ·simpa using h
     ·exact h1 q hq
    ·rw [h2]; simp [tailB]
   ·exact .inr h1
theorem spl_app : ∀ (p t : List UInt8), (∀ a ∈ p, a ≠ 138) → spl (p ++ t) = (p ++ (spl t).1, (spl t).2)
 | [], t, _ => rfl
 | a :: p, t, h => by
  simp only [List.cons_append, spl]
  rw [if_neg (h a List.mem_cons_self), spl_app p t fun b hb => h b (List.mem_cons_of_mem _ hb)]
theorem colB_no {c : UInt8} (hc : n8 c ≤ 6) : colB c ≠ 138 := by
 intro e
 have := swB_col hc plainS
 rw [e, swB_138] at this
 cases this
theorem runB_no {x : Run} (h1 : vld x.1 = true) (h2 : n8 x.2.1.1 ≤ 6) (now : Sty) : ∀ b ∈ runB now x, b ≠ 138 := by
 intro b hb
 unfold runB at hb
 rcases List.mem_append.1 hb with hb | hb
 ·rcases List.mem_append.1 hb with hb | hb
  ·rcases List.mem_append.1 hb with hb | hb
   ·split at hb
    ·rw [List.mem_singleton.1 hb]; exact colB_no h2
    ·cases hb
   ·split at hb
    ·rw [List.mem_singleton.1 hb]; split <;> decide
    ·cases hb
  ·split at hb
   ·rw [List.mem_singleton.1 hb]; split <;> decide
   ·cases hb
 ·unfold latE at hb
  obtain ⟨r, hr, hb⟩ := List.mem_flatMap.1 hb
  exact lat_no (List.all_eq_true.1 (rns_ok h1) r hr) b hb
theorem rowB_no : ∀ (l : Row) (now : Sty), fits l → ∀ b ∈ rowB now l, b ≠ 138
 | [], _, _, b, hb => by cases hb
 | x :: l, now, h, b, hb => by
  simp only [rowB] at hb
  have hx := h x List.mem_cons_self
  rcases List.mem_append.1 hb with hb | hb
  ·exact runB_no hx.1 hx.2.1 now b hb
  ·exact rowB_no l _ (fun y hy => h y (List.mem_cons_of_mem _ hy)) b hb
theorem spl_tail : ∀ (l : List Row), (∀ r ∈ l, fits r) → spl (tailB false l) = ([], l.map (rowB plainS))
 | [], _ => rfl
 | r :: l, h => by
  have hr := rowB_no r plainS (h r List.mem_cons_self)
  show spl (138 :: (rowB plainS r ++ tailB false l)) = _
  simp only [spl, if_true]
  rw [spl_app _ _ hr, spl_tail l fun q hq => h q (List.mem_cons_of_mem _ hq)]
  simp
noncomputable def back (r : Row) : Row := normR (r.map bare)
theorem runSeg_rows : ∀ (l : List Row) (out : List Row), (∀ r ∈ l, fits r) → runSeg (l.map (rowB plainS)) out = (out ++ l.map back, 0)
 | [], out, _ => by simp [runSeg]
 | r :: l, out, h => by
  have hr := h r List.mem_cons_self
  simp only [List.map_cons, runSeg]
  rw [prs_row r plainS [] hr, List.nil_append]
  simp only
  rw [norm_chsR fun x hx => (hr x hx).1, runSeg_rows l _ fun q hq => h q (List.mem_cons_of_mem _ hq)]
  simp [back]
theorem rows_text {r : Row} {l : List Row} (h : ∀ q ∈ r :: l, fits q) : thenS (prs (spl (tailB true (r :: l))).1 plainS []) (spl (tailB true (r :: l))).2 [] = ((r :: l).map back, 0) := by
 have hr := rowB_no r plainS (h r List.mem_cons_self)
 have e : spl (tailB true (r :: l)) = (rowB plainS r, l.map (rowB plainS)) := by
  show spl ([] ++ (rowB plainS r ++ tailB false l)) = _
  rw [List.nil_append, spl_app _ _ hr, spl_tail l fun q hq => h q (List.mem_cons_of_mem _ hq)]
  simp
 rw [e, thenS_eq]
 exact runSeg_rows (r :: l) [] h
theorem bare_tot (l : Row) : tot (l.map bare) = tot l := by
 induction l with
 | nil => rfl
 | cons x l ih => simp only [List.map_cons, tot, ih]; rfl
theorem tot_cost (l : Row) : tot l ≤ cost l := by rw [cost_eq]; omega
end
end Go.Mo
end

section
/-
  Plain facts: regions, their check, a region by its name, the places of rows.
-/
namespace Go.Mo
open Go Go.W Go.Lib
set_option maxRecDepth 100000
noncomputable section
abbrev Reg := List UInt8 × Int × Int × Int × Int × UInt8 × Bool
abbrev Spot := Int × Int × Int
theorem from_eq (N : Nat) (a b c : Int) : q38 N (a, b, c) = some (decide (b ≤ a ∧ a ≤ c)) := by
 unfold q38
 rw [cnd_ile]
 by_cases h : b ≤ a
 ·simp [h, ile]
 ·simp [h]
def regChk (r : Reg) : Int :=
 if nm r.1 = false then 5 else
 if ¬ (0 ≤ r.2.1 ∧ r.2.1 ≤ 14) then 2 else
 if ¬ (1 ≤ r.2.2.1 ∧ r.2.2.1 ≤ 15 - r.2.1) then 2 else
 if ¬ (0 ≤ r.2.2.2.1 ∧ r.2.2.2.1 ≤ 31) then 2 else
 if ¬ (1 ≤ r.2.2.2.2.1 ∧ r.2.2.2.2.1 ≤ 32 - r.2.2.2.1) then 2 else
 if ¬ (1 ≤ n8 r.2.2.2.2.2.1 ∧ n8 r.2.2.2.2.2.1 ≤ 3) then 3 else 0
theorem dec_f {p : Prop} [Decidable p] : (decide p = false) = ¬ p := by by_cases h : p <;> simp [h]
theorem region_check (r : Reg) : q39 fuelH r = some (regChk r) := by
 unfold q39 regChk
 rw [lines_name, bnd_some']
 simp only [from_eq, bnd_some', cnd_ite, bnot_t, dec_f, ilt_tt]
 have e1 : n8 (1 : UInt8) = 1 := rfl
 have e3 : n8 (3 : UInt8) = 3 := rfl
 rw [e1, e3]
 by_cases h0 : nm r.1 = false
 ·rw [if_pos h0, if_pos h0]
 rw [if_neg h0, if_neg h0]
 by_cases h1 : 0 ≤ r.2.1 ∧ r.2.1 ≤ 14
 ·rw [if_neg (not_not_intro h1), if_neg (not_not_intro h1)]
  have w1 : w64 (isub 15 r.2.1) = 15 - r.2.1 := by unfold isub; rw [w64_id (by omega)]
  rw [w1]
  by_cases h2 : 1 ≤ r.2.2.1 ∧ r.2.2.1 ≤ 15 - r.2.1
  ·rw [if_neg (not_not_intro h2), if_neg (not_not_intro h2)]
   by_cases h3 : 0 ≤ r.2.2.2.1 ∧ r.2.2.2.1 ≤ 31
   ·rw [if_neg (not_not_intro h3), if_neg (not_not_intro h3)]
    have w2 : w64 (isub 32 r.2.2.2.1) = 32 - r.2.2.2.1 := by unfold isub; rw [w64_id (by omega)]
    rw [w2]
    by_cases h4 : 1 ≤ r.2.2.2.2.1 ∧ r.2.2.2.2.1 ≤ 32 - r.2.2.2.1
    ·rw [if_neg (not_not_intro h4), if_neg (not_not_intro h4)]
     by_cases h5 : n8 r.2.2.2.2.2.1 < 1
     ·rw [if_pos h5, if_pos (by omega)]
     ·rw [if_neg h5]
      by_cases h6 : 3 < n8 r.2.2.2.2.2.1
      ·rw [if_pos h6, if_pos (by omega)]
      ·rw [if_neg h6, if_neg (by omega)]
    ·rw [if_pos h4, if_pos h4]
   ·rw [if_pos h3, if_pos h3]
  ·rw [if_pos h2, if_pos h2]
 ·rw [if_pos h1, if_pos h1]
def chkRegs : Option Reg → List Reg → Int
 | _, [] => 0
 | p, r :: l => if regChk r ≠ 0 then regChk r else match p with
  | none => chkRegs (some r) l
  | some q => if r.1 = q.1 then 7 else if slt r.1 q.1 = true then 8 else chkRegs (some r) l
def regsChk (l : List Reg) : Int := if 16 < l.length then 9 else chkRegs none l
def regRnd (p : Option Reg) (r : Reg) : Option Int ⊕ Unit := if regChk r ≠ 0 then .inl (some (regChk r)) else match p with
  | none => .inr ()
  | some q => if r.1 = q.1 then .inl (some 7) else if slt r.1 q.1 = true then .inl (some 8) else .inr ()
theorem itI_regs (l : List Reg) : ∀ (r : List Reg) (i : Nat), l.drop i = r → i ≤ l.length → itI (fun i x (_ : Unit) => regRnd (before l i) x) (fun _ => some (0 : Int)) i r () = some (chkRegs (before l i) r)
 | [], i, _, _ => rfl
 | x :: r, i, h, hi => by
  have hx : l[i]? = some x := by rw [← List.head?_drop, h]; rfl
  have hr : l.drop (i + 1) = r := by rw [← List.drop_drop, h]; rfl
  have hl : i < l.length := (List.getElem?_eq_some_iff.1 hx).1
  simp only [itI, chkRegs, regRnd]
  have e : before l (i + 1) = some x := hx
  have ih := itI_regs l r (i + 1) hr (by omega)
  rw [e] at ih
  by_cases hc : regChk x ≠ 0
  ·rw [if_pos hc, if_pos hc]
  ·rw [if_neg hc, if_neg hc]
   cases before l i with
   | none => exact ih
   | some q =>
    simp only
    by_cases h7 : x.1 = q.1
    ·rw [if_pos h7, if_pos h7]
    ·rw [if_neg h7, if_neg h7]
     by_cases h8 : slt x.1 q.1 = true
     ·rw [if_pos h8, if_pos h8]
     ·rw [if_neg h8, if_neg h8]
      exact ih
theorem region_list (l : List Reg) : q40 fuelH l = some (regsChk l) := by
 unfold q40
 by_cases h : 16 < l.length
 ·rw [cnd_t (ilt_t (by simp only [len]; omega))]; simp [regsChk, h]
 ·rw [cnd_f (ilt_f (by simp only [len]; omega)), jn_e]
  refine Eq.trans (lst_it (l := l) (fun (_ : Unit) (p : Nat) => (p : Int)) (fun i x (_ : Unit) => regRnd (before l i) x) (fun _ => some (0 : Int)) (fun _ _ => True) (fun self a i hi _ => ?_) (fun self a _ => ?_) fuelH 0 () (Nat.zero_le _) (by have := fuelH_eq; omega) trivial) ?_
  ·rw [cnd_t (ilt_t (by simp only [len]; omega)), grd_t (inb_t (by simp only [len]; omega)), lget_i hi, bnd_s (region_check _)]
   unfold regRnd
   by_cases hc : regChk l[i] ≠ 0
   ·rw [if_pos hc, cnd_t (ine_t hc)]; rfl
   ·rw [if_neg hc, cnd_f (ine_f (by simpa using hc)), jn_e, w64_succ hi (by omega)]
    cases i with
    | zero =>
     rw [cnd_f (by rfl), cnd_f (by rfl)]
     exact ⟨rfl, trivial⟩
    | succ i =>
     have e0 : before l (i + 1) = some l[i] := by simp only [before]; exact List.getElem?_eq_getElem (by omega)
     have hin : inb ((i : Nat) : Int) (len l) = true := inb_t (by simp only [len]; omega)
     have hp : ilt (0 : Int) ((i + 1 : Nat) : Int) = true := ilt_t (by omega)
     rw [e0, cnd_t hp, w64_back (by omega), grd_t hin, lget_i (show i < l.length by omega), cnd_t hp, grd_t hin]
     simp only
     by_cases h7 : l[i + 1].1 = l[i].1
     ·rw [if_pos h7, cnd_t (by rw [seq_t]; exact h7)]; rfl
     ·rw [if_neg h7, cnd_f (by rw [← Bool.not_eq_true, seq_t]; exact h7)]
      by_cases h8 : slt l[i + 1].1 l[i].1 = true
      ·rw [if_pos h8, cnd_t h8]; rfl
      ·rw [if_neg h8, cnd_f (by simpa using h8)]
       exact ⟨rfl, trivial⟩
  ·rw [cnd_f (ilt_f (by simp only [len]; omega))]
  ·rw [List.drop_zero, itI_regs l l 0 rfl (Nat.zero_le _)]
   simp [regsChk, h, before]
def defR : Reg := ([], 11, 4, 0, 32, 2, true)
def noR : Reg := ([], 0, 0, 0, 0, 0, false)
def findR (l : List Reg) (n : List UInt8) : Option Reg := if n = [] then some defR else l.find? fun r => decide (r.1 = n)
def findP (l : List Reg) (n : List UInt8) : Reg × Bool := match findR l n with
 | some r => (r, true)
 | none => (noR, false)
theorem itI_find (n : List UInt8) : ∀ (l : List Reg) (i : Nat), itI (fun _ (x : Reg) (_ : Unit) => if x.1 = n then (.inl (some (x, true)) : Option (Reg × Bool) ⊕ Unit) else .inr ()) (fun _ => some (noR, false)) i l () = some (match l.find? fun r => decide (r.1 = n) with | some r => (r, true) | none => (noR, false))
 | [], _ => rfl
 | x :: l, i => by
  simp only [itI, List.find?_cons]
  by_cases h : x.1 = n
  ·rw [if_pos h, decide_eq_true h]
  ·rw [if_neg h, decide_eq_false h]
   exact itI_find n l (i + 1)
theorem region_find (l : List Reg) (hl : l.length ≤ 4000000) (n : List UInt8) : q42 fuelH (l, n) = some (findP l n) := by
 unfold q42 findP findR
 simp only
 by_cases h : n = []
 ·rw [cnd_t (by rw [seq_t]; exact h), if_pos h]; rfl
 ·rw [cnd_f (by rw [← Bool.not_eq_true, seq_t]; exact h), if_neg h, jn_e]
  refine Eq.trans (lst_it (l := l) (fun (_ : Unit) (p : Nat) => (p : Int)) (fun _ (x : Reg) (_ : Unit) => if x.1 = n then .inl (some (x, true)) else .inr ()) (fun _ => some (noR, false)) (fun _ _ => True) (fun self a i hi _ => ?_) (fun self a _ => ?_) fuelH 0 () (Nat.zero_le _) (by have := fuelH_eq; omega) trivial) (itI_find n l 0)
  ·have hin : inb (i : Int) (len l) = true := inb_t (by simp only [len]; omega)
   rw [cnd_t (ilt_t (by simp only [len]; omega)), grd_t hin, lget_i hi]
   by_cases hc : l[i].1 = n
   ·rw [if_pos hc, cnd_t (by rw [seq_t]; exact hc)]; rfl
   ·rw [if_neg hc, cnd_f (by rw [← Bool.not_eq_true, seq_t]; exact hc), w64_succ hi (by omega)]
    exact ⟨rfl, trivial⟩
  ·rw [cnd_f (ilt_f (by simp only [len]; omega))]
   rfl
end
end Go.Mo
end

section
/-
  Plain facts: the places of rows.
-/
namespace Go.Mo
open Go Go.W Go.Lib
set_option maxRecDepth 100000
noncomputable section
def usableR (r : Reg) : Prop := r = defR ∨ regChk r = 0
instance (r : Reg) : Decidable (usableR r) := by unfold usableR; infer_instance
theorem reg_eq {a b : Reg} : (a = b) = (a.1 = b.1 ∧ a.2.1 = b.2.1 ∧ a.2.2.1 = b.2.2.1 ∧ a.2.2.2.1 = b.2.2.2.1 ∧ a.2.2.2.2.1 = b.2.2.2.2.1 ∧ a.2.2.2.2.2.1 = b.2.2.2.2.2.1 ∧ a.2.2.2.2.2.2 = b.2.2.2.2.2.2) := by
 obtain ⟨a1, a2, a3, a4, a5, a6, a7⟩ := a; obtain ⟨b1, b2, b3, b4, b5, b6, b7⟩ := b; simp
theorem def_band (x : Reg) : (band (seq x.1 defR.1) (band (ieq x.2.1 defR.2.1) (band (ieq x.2.2.1 defR.2.2.1) (band (ieq x.2.2.2.1 defR.2.2.2.1) (band (ieq x.2.2.2.2.1 defR.2.2.2.2.1) (band (ieq (n8 x.2.2.2.2.2.1) (n8 defR.2.2.2.2.2.1)) (beqb x.2.2.2.2.2.2 defR.2.2.2.2.2.2)))))) = true) = (x = defR) := by
 simp only [band_tt, seq_t, ieq_tt, beqb_t, n8_eq]
 exact reg_eq.symm
theorem region_usable_eq (r : Reg) : q57 fuelH r = some (decide (usableR r)) := by
 unfold q57
 rw [bnd_s (show q41 fuelH () = some defR from rfl), region_check, bnd_some']
 by_cases h : r = defR
 ·rw [cnd_t ((def_band r).mpr h), @decide_eq_true (usableR r) _ (.inl h)]
 ·rw [cnd_f (by rw [← Bool.not_eq_true]; exact fun k => h ((def_band r).mp k))]
  congr 1
  by_cases h2 : regChk r = 0
  ·rw [ieq_t h2, @decide_eq_true (usableR r) _ (.inr h2)]
  ·rw [ieq_f h2, @decide_eq_false (usableR r) _ (fun k => k.elim h h2)]
theorem usable_bd {r : Reg} (h : usableR r) : 0 ≤ r.2.1 ∧ 1 ≤ r.2.2.1 ∧ r.2.1 + r.2.2.1 ≤ 15 ∧ 0 ≤ r.2.2.2.1 ∧ 1 ≤ r.2.2.2.2.1 ∧ r.2.2.2.1 + r.2.2.2.2.1 ≤ 32 ∧ 1 ≤ n8 r.2.2.2.2.2.1 ∧ n8 r.2.2.2.2.2.1 ≤ 3 := by
 rcases h with rfl | h
 ·decide
 ·unfold regChk at h
  split at h
  ·cases h
  split at h
  ·cases h
  split at h
  ·cases h
  split at h
  ·cases h
  split at h
  ·cases h
  split at h
  ·cases h
  omega
def colOf (r : Reg) (n : Int) : Int := if n8 r.2.2.2.2.2.1 = 3 then r.2.2.2.1 + (r.2.2.2.2.1 - n) else if n8 r.2.2.2.2.2.1 = 2 then r.2.2.2.1 + (r.2.2.2.2.1 - n).tdiv 2 else r.2.2.2.1
def topOf (r : Reg) (k : Nat) : Int := if r.2.2.2.2.2.2 = true then r.2.1 + (r.2.2.1 - (k : Int)) else r.2.1
def plRnd (r : Reg) (k : Nat) (i : Nat) (n : Int) (out : List Spot) : Option (List Spot × Int) ⊕ List Spot :=
 if n < 0 then .inl (some ([], 2)) else if r.2.2.2.2.1 < n then .inl (some ([], 11)) else .inr (out ++ [(topOf r k + (i : Int), colOf r n, n)])
def placeL (r : Reg) (k : Nat) : Nat → List Int → List Spot → List Spot × Int
 | _, [], out => (out, 0)
 | i, n :: l, out => if n < 0 then ([], 2) else if r.2.2.2.2.1 < n then ([], 11) else placeL r k (i + 1) l (out ++ [(topOf r k + (i : Int), colOf r n, n)])
def placeS (r : Reg) (l : List Int) : List Spot × Int := if ¬ usableR r then ([], 1) else if r.2.2.1 < (l.length : Int) then ([], 9) else placeL r l.length 0 l []
theorem itI_place (r : Reg) (k : Nat) : ∀ (l : List Int) (i : Nat) (out : List Spot), itI (plRnd r k) (fun a => some (a, (0 : Int))) i l out = some (placeL r k i l out)
 | [], i, out => rfl
 | n :: l, i, out => by
  simp only [itI, placeL, plRnd]
  by_cases h1 : n < 0
  ·rw [if_pos h1, if_pos h1]
  ·rw [if_neg h1, if_neg h1]
   by_cases h2 : r.2.2.2.2.1 < n
   ·rw [if_pos h2, if_pos h2]
   ·rw [if_neg h2, if_neg h2]
    exact itI_place r k l (i + 1) _
theorem jn_cnd {α β : Type} (K : α → Option β) (b : Bool) (x y : α) : jn K (fun v => cnd b (v x) (v y)) = K (if b = true then x else y) := by
 rw [jn_e]; cases b <;> rfl
theorem half_bd {x : Int} (h : 0 ≤ x) : 0 ≤ x.tdiv 2 ∧ x.tdiv 2 ≤ x := by
 rw [Int.tdiv_eq_ediv_of_nonneg h]; omega
theorem spot_w {r : Reg} (hu : usableR r) {k i : Nat} {n : Int} (hk : (k : Int) ≤ r.2.2.1) (hi : i < k) (h0 : 0 ≤ n) (hn : n ≤ r.2.2.2.2.1) :
  w64 (iadd (topOf r k) (i : Int)) = topOf r k + (i : Int) ∧ w64 (isub r.2.2.2.2.1 n) = r.2.2.2.2.1 - n ∧ w64 (iadd r.2.2.2.1 (r.2.2.2.2.1 - n)) = r.2.2.2.1 + (r.2.2.2.2.1 - n) ∧ w64 (idiv (r.2.2.2.2.1 - n) 2) = (r.2.2.2.2.1 - n).tdiv 2 ∧ w64 (iadd r.2.2.2.1 ((r.2.2.2.2.1 - n).tdiv 2)) = r.2.2.2.1 + (r.2.2.2.2.1 - n).tdiv 2 := by
 have hb := usable_bd hu
 have hd := half_bd (x := r.2.2.2.2.1 - n) (by omega)
 refine ⟨?_, ?_, ?_, ?_, ?_⟩
 ·unfold iadd topOf
  rw [w64_id]
  split <;> omega
 ·unfold isub; rw [w64_id (by omega)]
 ·unfold iadd; rw [w64_id (by omega)]
 ·unfold idiv; rw [w64_id (by omega)]
 ·unfold iadd; rw [w64_id (by omega)]
theorem region_place (r : Reg) (l : List Int) : q58 fuelH (r, l) = some (placeS r l) := by
 unfold q58 placeS
 simp only
 rw [region_usable_eq, bnd_some', cnd_bnot]
 by_cases hu : usableR r
 ·rw [if_pos hu, if_neg (not_not_intro hu)]
  have hb := usable_bd hu
  by_cases hk : r.2.2.1 < (l.length : Int)
  ·rw [cnd_t (ilt_t (show r.2.2.1 < len l from hk)), if_pos hk]
  ·rw [cnd_f (ilt_f (show ¬ r.2.2.1 < len l from hk)), if_neg hk, jn_cnd]
   have et : (if r.2.2.2.2.2.2 = true then w64 (iadd r.2.1 (w64 (isub r.2.2.1 (len l)))) else r.2.1) = topOf r l.length := by
    unfold topOf
    have e1 : w64 (isub r.2.2.1 (len l)) = r.2.2.1 - (l.length : Int) := by unfold isub len; rw [w64_id (by omega)]
    rw [e1]
    unfold iadd
    rw [w64_id (by omega)]
   rw [et, jn_e]
   refine Eq.trans (lst_it (l := l) (fun (a : List Spot) (p : Nat) => (a, (p : Int))) (plRnd r l.length) (fun a => some (a, (0 : Int))) (fun i a => a.length ≤ i) (fun self a i hi ha => ?_) (fun self a _ => ?_) fuelH 0 [] (Nat.zero_le _) (by have := fuelH_eq; omega) (Nat.le_refl _)) (itI_place r l.length l 0 [])
   ·have hin : inb (i : Int) (len l) = true := inb_t (by simp only [len]; omega)
    simp only
    rw [cnd_t (ilt_t (by simp only [len]; omega)), grd_t hin, lget_i hi, w64_succ hi (by omega)]
    unfold plRnd
    by_cases h1 : l[i] < 0
    ·rw [if_pos h1, cnd_t (ilt_t h1)]; rfl
    ·rw [if_neg h1, cnd_f (ilt_f h1)]
     by_cases h2 : r.2.2.2.2.1 < l[i]
     ·rw [if_pos h2, cnd_t (ilt_t h2)]; rfl
     ·rw [if_neg h2, cnd_f (ilt_f h2)]
      obtain ⟨q1, q2, q3, q4, q5⟩ := spot_w hu (k := l.length) (i := i) (n := l[i]) (by omega) hi (by omega) (by omega)
      have hroom : ∀ s : Spot, room (iadd (len a) (len [s])) 24 = true := fun s => room_t (by simp only [iadd, len, List.length_singleton]; omega)
      rw [q1, q2, q3, q4, q5]
      rw [grd_t (hroom _), grd_t (hroom _), grd_t (hroom _)]
      refine ⟨?_, by simp only [List.length_append, List.length_singleton]; omega⟩
      unfold colOf
      have e3 : n8 (3 : UInt8) = 3 := rfl
      have e2 : n8 (2 : UInt8) = 2 := rfl
      rw [cnd_ieq, cnd_ieq, e3, e2]
      by_cases c3 : n8 r.2.2.2.2.2.1 = 3
      ·rw [if_pos c3, if_pos c3]; rfl
      ·rw [if_neg c3, if_neg c3]
       by_cases c2 : n8 r.2.2.2.2.2.1 = 2
       ·rw [if_pos c2, if_pos c2]; rfl
       ·rw [if_neg c2, if_neg c2]; rfl
   ·simp only
    rw [cnd_f (ilt_f (by simp only [len]; omega))]
 ·rw [if_neg hu, if_pos hu]
end
end Go.Mo
end

section
/-
  Plain facts: the text and the length of a row; events and their check.
-/
namespace Go.Mo
open Go Go.W Go.Lib
set_option maxRecDepth 100000
noncomputable section
abbrev Ev := Int × (Int × Int) × List UInt8 × UInt8 × List UInt8 × List Row
theorem rune_count {s : List UInt8} (hs : s.length ≤ 4000000) : q52 fuelH s = some ((rns s).length : Int) := by
 unfold q52
 rw [jn_e]
 have hf : ∀ (l : List Int) (n : Nat), n + l.length ≤ 100000000 → foldR (fun (_ : Int) (a : Int) self => self (w64 (iadd a 1))) (fun a => some a) l (n : Int) = some ((n + l.length : Nat) : Int) := by
  intro l
  induction l with
  | nil => intro n _; rfl
  | cons r l ih =>
   intro n hn
   simp only [List.length_cons] at hn
   simp only [foldR]
   rw [w64_succ (show n < n + 1 by omega) (by omega), ih (n + 1) (by omega)]
   simp only [List.length_cons]
   congr 2
   omega
 refine (str_loop (s := s) (fun (a : Int) (p : Nat) => (a, s, ofN p)) (fun _ a self => self (w64 (iadd a 1))) (fun a => some a) (fun self a p hp => ?_) (fun self a p hp => ?_) fuelH 0 (0 : Int) (by have := fuelH_eq; omega)).trans ?_
 ·simp only [toN_ofN]
  rw [cnd_t (nlt_t (show p < nlen s from hp))]
  rfl
 ·simp only [toN_ofN]
  rw [cnd_f (nlt_f (show ¬ p < nlen s by unfold nlen; omega))]
 ·have := rns_len _ s (Nat.le_refl _)
  have h := hf (rns s) 0 (by omega)
  rw [List.drop_zero]
  simpa using h
theorem ch_len {s : List UInt8} (hs : s.length ≤ 4000000) (hv : vld s = true) : q53 fuelH s = some ((rns s).length : Int) := by
 unfold q53
 rw [ch_valid _ hs, bnd_some', hv, cnd_f (by rfl), rune_count hs]
 rfl
def lenT : Row → Nat
 | [] => 0
 | x :: l => (rns x.1).length + lenT l
def plainT (l : Row) : List UInt8 := l.flatMap (·.1)
def okR (l : Row) : Prop := l.length ≤ 16 ∧ (∀ x ∈ l, vld x.1 = true ∧ x.1.length ≤ 4000000) ∧ tot l ≤ 4000000
def smallR (l : Row) : Prop := shortR l ∧ tot l ≤ 4000000
def smallL (l : List Row) : Prop := ∀ r ∈ l, smallR r
theorem okR_of {l : Row} (hs : smallR l) (h : rowChk l = 0) : okR l := by
 obtain ⟨h1, h2⟩ := rowChk_ok h
 exact ⟨h1, fun x hx => ⟨(h2 x hx).1, (hs.1 x hx).1⟩, hs.2⟩
theorem lenT_le : ∀ (l : Row), (∀ x ∈ l, x.1.length ≤ 4000000) → lenT l ≤ 4000000 * l.length
 | [], _ => Nat.le_refl _
 | x :: l, h => by
  have h1 := rns_len _ x.1 (Nat.le_refl _)
  have h2 := h x List.mem_cons_self
  have h3 := lenT_le l fun y hy => h y (List.mem_cons_of_mem _ hy)
  simp only [lenT, List.length_cons]
  omega
theorem lenT_take : ∀ (l : Row) (i : Nat) (h : i < l.length), lenT (l.take (i + 1)) = lenT (l.take i) + (rns l[i].1).length
 | x :: l, 0, _ => by simp [lenT]
 | x :: l, i + 1, h => by
  have := lenT_take l i (by simpa using h)
  simp only [List.take_succ_cons, lenT, this, List.getElem_cons_succ]
  omega
theorem lenT_take_le (l : Row) (i : Nat) : lenT (l.take i) ≤ lenT l := by
 induction l generalizing i with
 | nil => simp [lenT]
 | cons x l ih => cases i with
  | zero => simp [lenT]
  | succ i => simp only [List.take_succ_cons, lenT]; have := ih i; omega
theorem len_loop {l : Row} (h : okR l) (L : List UInt8 → Option Int) (hL : ∀ s : List UInt8, s.length ≤ 4000000 → vld s = true → L s = some ((rns s).length : Int)) :
  fixN (fun (v2 : Int × Int → Option Int) (v3 : Int × Int) =>
  cnd (ilt v3.2 (len l))
   (grd (inb v3.2 (len l))
    (bnd (L (lget l (toN v3.2) ([], (((0 : UInt8), (false, false)), []))).1) fun v4 =>
    cnd (ilt v4 (0 : Int))
     (some (-1 : Int))
     (v2 (w64 (iadd v3.1 v4), w64 (iadd v3.2 (1 : Int))))))
   (some v3.1)) fuelH ((0 : Int), (0 : Int)) = some (lenT l : Int) := by
 have hb := lenT_le l fun x hx => (h.2.1 x hx).2
 have hl := h.1
 refine loop_inv (n := l.length) (fun (a : Nat) (i : Nat) => ((a : Int), (i : Int))) (fun i a => a = lenT (l.take i)) _ (fun self a i hi hI => ?_) (fun self a hI => ?_) fuelH 0 0 (Nat.zero_le _) (by have := fuelH_eq; omega) rfl
 ·refine ⟨a + (rns l[i].1).length, ?_, ?_⟩
  ·have ht := lenT_take l i hi
   have ht2 := lenT_take_le l (i + 1)
   simp only
   rw [cnd_t (ilt_t (by simp only [len]; omega)), grd_t (inb_t (by simp only [len]; omega)), lget_i hi, hL _ (h.2.1 _ (List.getElem_mem hi)).2 (h.2.1 _ (List.getElem_mem hi)).1, bnd_some', cnd_f (ilt_f (by omega)), w64_succ hi (by omega)]
   have e : w64 (iadd (a : Int) ((rns l[i].1).length : Int)) = ((a + (rns l[i].1).length : Nat) : Int) := by
    unfold iadd; rw [w64_id (by omega)]; omega
   rw [e]
  ·rw [lenT_take l i hi, hI]
 ·simp only
  rw [cnd_f (ilt_f (by simp only [len]; omega)), hI, List.take_length]
theorem style_len {l : Row} (h : okR l) : q54 fuelH l = some (lenT l : Int) := by
 unfold q54
 rw [jn_e]
 exact len_loop h (q53 fuelH) fun s => ch_len
theorem plainT_take (l : Row) (i : Nat) (h : i < l.length) : plainT (l.take (i + 1)) = plainT (l.take i) ++ l[i].1 := by
 unfold plainT
 rw [List.take_succ_eq_append_getElem h, List.flatMap_append]
 simp
theorem plainT_len : ∀ (l : Row), (plainT l).length = tot l
 | [] => rfl
 | x :: l => by
  have h3 := plainT_len l
  unfold plainT at h3 ⊢
  simp only [List.flatMap_cons, List.length_append, tot, h3]
theorem tot_take (l : Row) (i : Nat) : tot (l.take i) ≤ tot l := by
 have h := tot_app (l.take i) (l.drop i)
 rw [List.take_append_drop] at h
 omega
theorem plainT_le {l : Row} (h : okR l) (i : Nat) : (plainT (l.take i)).length ≤ 4000000 := by
 rw [plainT_len]
 have := tot_take l i
 have := h.2.2
 omega
theorem write_str {N : Nat} {a b : List UInt8} (h : a.length + b.length ≤ 100000000) : q46 N (((), a), b) = some ((b.length : Int), (), (), a ++ b) := by
 unfold q46
 show (grd (room (iadd (len a) (len b)) 1) (some (len b, (), (), lapp a b))) = _
 rw [grd_t (room_t (by simp only [iadd, len]; omega))]
 rfl
theorem style_plain {l : Row} (h : okR l) : q47 fuelH l = some (plainT l) := by
 unfold q47
 rw [jn_e]
 have hl := h.1
 refine loop_inv (n := l.length) (fun (a : List UInt8) (i : Nat) => ((i : Int), (), a)) (fun i a => a = plainT (l.take i)) _ (fun self a i hi hI => ?_) (fun self a hI => ?_) fuelH 0 [] (Nat.zero_le _) (by have := fuelH_eq; omega) rfl
 ·refine ⟨a ++ l[i].1, ?_, ?_⟩
  ·have h1 := plainT_le h i
   have h2 := (h.2.1 _ (List.getElem_mem hi)).2
   simp only
   rw [cnd_t (ilt_t (by simp only [len]; omega)), grd_t (inb_t (by simp only [len]; omega)), lget_i hi, write_str (by rw [hI]; omega), bnd_some', w64_succ hi (by omega)]
  ·rw [plainT_take l i hi, hI]
 ·simp only
  rw [cnd_f (ilt_f (by simp only [len]; omega)), hI, List.take_length]
def sp2 : List UInt8 → Bool
 | [] => false
 | [_] => false
 | a :: b :: t => ([32, 32] : List UInt8).isPrefixOf (a :: b :: t) || sp2 (b :: t)
theorem sp2_index : ∀ t : List UInt8, decide (0 ≤ index t [32, 32]) = sp2 t
 | [] => rfl
 | [a] => by
  have e : index [a] [32, 32] = if ([32, 32] : List UInt8).isPrefixOf [a] = true then 0 else if (index [] [32, 32] == -1) = true then -1 else index [] [32, 32] + 1 := rfl
  have hp : ([32, 32] : List UInt8).isPrefixOf [a] = false := by cases h : ((32 : UInt8) == a) <;> simp [List.isPrefixOf, h]
  rw [e, hp]
  rfl
 | a :: b :: t => by
  have ih := sp2_index (b :: t)
  have hg := index_ge (b :: t) [32, 32]
  have e : index (a :: b :: t) [32, 32] = if ([32, 32] : List UInt8).isPrefixOf (a :: b :: t) = true then 0 else if (index (b :: t) [32, 32] == -1) = true then -1 else index (b :: t) [32, 32] + 1 := rfl
  have e2 : sp2 (a :: b :: t) = (([32, 32] : List UInt8).isPrefixOf (a :: b :: t) || sp2 (b :: t)) := rfl
  rw [e, e2, ← ih]
  generalize index (b :: t) [32, 32] = m at hg ⊢
  cases ([32, 32] : List UInt8).isPrefixOf (a :: b :: t) with
  | true => rfl
  | false =>
   rw [if_neg (by decide), Bool.false_or]
   by_cases h1 : m = -1
   ·subst h1; rfl
   ·rw [if_neg (by simpa using h1), decide_eq_true (by omega), decide_eq_true (by omega)]
theorem sp2_contains (t : List UInt8) : contains t [32, 32] = sp2 t := sp2_index t
def neatT (t : List UInt8) : Bool := if t = [] then false else if n8 (lget t (toN (0 : Int)) 0) = n8 (32 : UInt8) then false else if n8 (lget t (toN (w64 (isub (len t) 1))) 0) = n8 (32 : UInt8) then false else !sp2 t
def rowE (l : Row) : Int := if rowChk l ≠ 0 then rowChk l else if neatT (plainT l) = false then 4 else if 32 < lenT l then 11 else 0
theorem event_row_eq {l : Row} (hs : smallR l) : q55 fuelH l = some (rowE l) := by
 unfold q55 rowE
 rw [bnd_s (style_check hs.1)]
 by_cases hk : rowChk l ≠ 0
 ·rw [cnd_t (ine_t hk), if_pos hk]
 ·rw [cnd_f (ine_f (by simpa using hk)), if_neg hk]
  have hr := okR_of hs (by simpa using hk)
  have hp := plainT_le hr l.length
  rw [List.take_length] at hp
  rw [bnd_s (style_plain hr)]
  generalize plainT l = t at hp ⊢
  unfold neatT
  by_cases h0 : t = []
  ·rw [cnd_t (by rw [seq_t]; exact h0), if_pos h0, if_pos rfl]
  ·have hl : 0 < t.length := List.length_pos_iff.2 h0
   have e1 : w64 (isub (len t) 1) = ((t.length - 1 : Nat) : Int) := w64_pred hl (by omega)
   have hin : inb (w64 (isub (len t) 1)) (len t) = true := by rw [e1]; exact inb_t (by simp only [len]; omega)
   rw [cnd_f (by rw [← Bool.not_eq_true, seq_t]; exact h0), if_neg h0, grd_t (inb_t (by simp only [len]; omega)), cnd_ieq]
   by_cases h1 : n8 (lget t (toN (0 : Int)) 0) = n8 (32 : UInt8)
   ·rw [if_pos h1, if_pos h1, if_pos rfl]
   ·rw [if_neg h1, if_neg h1, grd_t hin, cnd_ieq]
    by_cases h2 : n8 (lget t (toN (w64 (isub (len t) 1))) 0) = n8 (32 : UInt8)
    ·rw [if_pos h2, if_pos h2, if_pos rfl]
    ·rw [if_neg h2, if_neg h2]
     have hc : strings_Contains fuelH (t, [32, 32]) = some (sp2 t) := by
      show grd (decide (t.length < 4294967281)) (some (contains t [32, 32])) = _
      rw [grd_t (decide_eq_true (by omega)), sp2_contains]
     rw [bnd_s hc]
     by_cases h3 : sp2 t = true
     ·rw [cnd_t h3, h3, if_pos (by decide)]
     ·rw [cnd_f (by simpa using h3), Bool.eq_false_iff.2 h3, if_neg (by simp), bnd_s (style_len hr), cnd_ilt]
      by_cases h4 : 32 < lenT l
      ·rw [if_pos (by omega), if_pos h4]
      ·rw [if_neg (by omega), if_neg h4]
end
end Go.Mo
end

section
/-
  Plain facts: the check of an event, on both sides; spots; the length of an event.
-/
namespace Go.Mo
open Go Go.W Go.Lib
set_option maxRecDepth 100000
noncomputable section
theorem spans_eq (N : Nat) (s : Int × Int) : q43 N s = some (decide (0 ≤ s.1 ∧ s.1 < s.2 ∧ s.2 ≤ 5184000)) := by
 unfold q43
 rw [cnd_ile, cnd_ilt]
 by_cases h1 : 0 ≤ s.1
 ·rw [if_pos h1]
  by_cases h2 : s.1 < s.2
  ·rw [if_pos h2]; simp [h1, h2, ile]
  ·rw [if_neg h2]; simp [h2]
 ·rw [if_neg h1]; simp [h1]
def kindP (k : UInt8) : Bool := match q45 fuelH k with
 | some s => decide (seq s [] = decide (¬ (1 ≤ n8 k ∧ n8 k ≤ 4)))
 | none => false
theorem kind_tab (k : UInt8) : ∃ s, q45 fuelH k = some s ∧ seq s [] = decide (¬ (1 ≤ n8 k ∧ n8 k ≤ 4)) := by
 have h : kindP k = true := all_u8 (P := kindP) (by kernel_rfl) k
 unfold kindP at h
 split at h
 ·rename_i s hs
  exact ⟨s, hs, of_decide_eq_true h⟩
 ·cases h
theorem jn_sp {β : Type} (K : Bool → Option β) (s : List UInt8) (X : Option Bool) (hX : X = some (nm s)) : jn K (fun v => cnd (sne s ([] : List UInt8)) (bnd X fun w => v (bnot w)) (v false)) = K (decide (s ≠ [] ∧ nm s = false)) := by
 rw [jn_e, hX, bnd_some']
 by_cases h : s = []
 ·subst h; rfl
 ·rw [cnd_t (by simp [sne, h])]
  congr 1
  cases hn : nm s <;> simp [bnot, h]
def rowsE : List Row → Int → Int
 | [], k => k
 | l :: r, k => if rowE l ≠ 0 then rowE l else rowsE r k
def lens (l : List Row) : List Int := l.map fun r => (lenT r : Int)
def evChk (x : Ev) (rs : List Reg) : Int :=
 if x.1 < 1 then 2 else if 1099511627776 < x.1 then 2 else
 if ¬ (0 ≤ x.2.1.1 ∧ x.2.1.1 < x.2.1.2 ∧ x.2.1.2 ≤ 5184000) then 2 else
 match findR rs x.2.2.1 with
 | none => 6
 | some r =>
  if ¬ (1 ≤ n8 x.2.2.2.1 ∧ n8 x.2.2.2.1 ≤ 4) then 3 else
  if x.2.2.2.2.1 ≠ [] ∧ nm x.2.2.2.2.1 = false then 5 else
  if x.2.2.2.2.2.length = 0 then 9 else if 4 < x.2.2.2.2.2.length then 9 else
  rowsE x.2.2.2.2.2 (placeS r (lens x.2.2.2.2.2)).2
theorem rowE_ok {l : Row} (hs : smallR l) (h : rowE l = 0) : okR l := by
 unfold rowE at h
 split at h
 ·rename_i hc; exact absurd h hc
 ·rename_i hc; exact okR_of hs (by simpa using hc)
theorem event_lens_eq {x : Ev} (h : ∀ l ∈ x.2.2.2.2.2, okR l) (hl : x.2.2.2.2.2.length ≤ 1000000) : q56 fuelH x = some (lens x.2.2.2.2.2) := by
 unfold q56
 rw [jn_e]
 generalize x.2.2.2.2.2 = l at h hl ⊢
 refine loop_inv (n := l.length) (fun (a : List Int) (i : Nat) => (a, (i : Int))) (fun i a => a = lens (l.take i)) _ (fun self a i hi hI => ?_) (fun self a hI => ?_) fuelH 0 [] (Nat.zero_le _) (by have := fuelH_eq; omega) rfl
 ·refine ⟨a ++ [(lenT l[i] : Int)], ?_, ?_⟩
  ·have ha : a.length ≤ i := by rw [hI]; unfold lens; rw [List.length_map, List.length_take]; omega
   simp only
   rw [cnd_t (ilt_t (by simp only [len]; omega)), grd_t (inb_t (by simp only [len]; omega)), lget_i hi, style_len (h _ (List.getElem_mem hi)), bnd_some', grd_t (room_t (by simp only [iadd, len, List.length_singleton]; omega)), w64_succ hi (by omega)]
   rfl
  ·rw [hI]; unfold lens; rw [List.take_succ_eq_append_getElem hi, List.map_append]; rfl
 ·simp only
  rw [cnd_f (ilt_f (by simp only [len]; omega)), hI, List.take_length]
theorem itI_rows (K : Option Int) (k : Int) : ∀ (l : List Row) (i : Nat), ((∀ r ∈ l, rowE r = 0) → K = some k) → itI (fun _ (r : Row) (_ : Unit) => if rowE r ≠ 0 then (.inl (some (rowE r)) : Option Int ⊕ Unit) else .inr ()) (fun _ => K) i l () = some (rowsE l k)
 | [], i, h => h fun r hr => by cases hr
 | r :: l, i, h => by
  simp only [itI, rowsE]
  by_cases hc : rowE r ≠ 0
  ·rw [if_pos hc, if_pos hc]
  ·rw [if_neg hc, if_neg hc]
   refine itI_rows K k l (i + 1) fun hl => h fun q hq => ?_
   rcases List.mem_cons.1 hq with rfl | hq
   ·simpa using hc
   ·exact hl q hq
theorem event_check_eq {x : Ev} {rs : List Reg} (hs : smallL x.2.2.2.2.2) (hr : rs.length ≤ 4000000) : q59 fuelH (x, rs) = some (evChk x rs) := by
 unfold q59 evChk
 simp only
 rw [region_find _ hr, bnd_some', cnd_ilt]
 by_cases c1 : x.1 < 1
 ·rw [if_pos c1, if_pos c1]
 rw [if_neg c1, if_neg c1, cnd_ilt]
 by_cases c2 : 1099511627776 < x.1
 ·rw [if_pos c2, if_pos c2]
 rw [if_neg c2, if_neg c2, spans_eq, bnd_some', cnd_bnot]
 by_cases c3 : 0 ≤ x.2.1.1 ∧ x.2.1.1 < x.2.1.2 ∧ x.2.1.2 ≤ 5184000
 ·rw [if_pos c3, if_neg (not_not_intro c3)]
  unfold findP
  cases hf : findR rs x.2.2.1 with
  | none => rfl
  | some r =>
   simp only
   rw [cnd_f (by rfl)]
   obtain ⟨s, k1, k2⟩ := kind_tab x.2.2.2.1
   rw [bnd_s k1, k2, cnd_dec]
   by_cases c4 : 1 ≤ n8 x.2.2.2.1 ∧ n8 x.2.2.2.1 ≤ 4
   ·rw [if_neg (not_not_intro c4), if_neg (not_not_intro c4), jn_sp _ _ _ (lines_name _), cnd_dec]
    by_cases c5 : x.2.2.2.2.1 ≠ [] ∧ nm x.2.2.2.2.1 = false
    ·rw [if_pos c5, if_pos c5]
    rw [if_neg c5, if_neg c5]
    by_cases c6 : x.2.2.2.2.2.length = 0
    ·rw [cnd_t (ieq_t (by simp only [len]; omega)), if_pos c6]
    rw [cnd_f (ieq_f (by simp only [len]; omega)), if_neg c6]
    by_cases c7 : 4 < x.2.2.2.2.2.length
    ·rw [cnd_t (ilt_t (by simp only [len]; omega)), if_pos c7]
    rw [cnd_f (ilt_f (by simp only [len]; omega)), if_neg c7, jn_e]
    have hlen := @event_lens_eq x
    generalize x.2.2.2.2.2 = l at hs c6 c7 hlen ⊢
    refine Eq.trans (lst_it (l := l) (fun (_ : Unit) (p : Nat) => (p : Int)) (fun _ (r : Row) (_ : Unit) => if rowE r ≠ 0 then .inl (some (rowE r)) else .inr ()) (fun _ => bnd (q56 fuelH x) fun v5 => bnd (q58 fuelH (r, v5)) fun v6 => some v6.2) (fun _ _ => True) (fun self a i hi _ => ?_) (fun self a _ => ?_) fuelH 0 () (Nat.zero_le _) (by have := fuelH_eq; omega) trivial) (itI_rows _ _ l 0 fun hl => ?_)
    ·rw [cnd_t (ilt_t (by simp only [len]; omega)), grd_t (inb_t (by simp only [len]; omega)), lget_i hi, bnd_s (event_row_eq (hs _ (List.getElem_mem hi))), w64_succ hi (by omega)]
     by_cases hc : rowE l[i] ≠ 0
     ·rw [if_pos hc, cnd_t (ine_t hc)]; rfl
     ·rw [if_neg hc, cnd_f (ine_f (by simpa using hc))]
      exact ⟨rfl, trivial⟩
    ·rw [cnd_f (ilt_f (by simp only [len]; omega))]
    ·rw [bnd_s (hlen (fun q hq => rowE_ok (hs q hq) (hl q hq)) (by omega)), bnd_s (region_place _ _)]
   ·rw [if_pos c4, if_pos c4]
 ·rw [if_neg c3, if_pos c3]
end
end Go.Mo
end

section
/-
  Plain facts: the header of a document; events by their number; the length of an event.
-/
namespace Go.Mo
open Go Go.W Go.Lib
set_option maxRecDepth 100000
noncomputable section
abbrev Cmt := Int × Int × Int × Int × List UInt8 × List UInt8 × Bool × Bool
abbrev Doc := List UInt8 × List UInt8 × UInt8 × Bool × Int × List Reg × List Ev × List Cmt
def tvB (r : UInt8) : Bool := (q34 fuelH r).getD false
def cdB (r : UInt8) : Bool := (q35 fuelH r).getD false
theorem tv_eq (r : UInt8) : q34 fuelH r = some (tvB r) ∧ q35 fuelH r = some (cdB r) :=
 of_decide_eq_true (all_u8 (P := fun r => decide (q34 fuelH r = some (tvB r) ∧ q35 fuelH r = some (cdB r))) (by kernel_rfl) r)
def rateBad (r : UInt8) (drop : Bool) : Prop := tvB r = false ∨ (drop = true ∧ cdB r = false)
instance (r : UInt8) (drop : Bool) : Decidable (rateBad r drop) := by unfold rateBad; infer_instance
def headChk (d : Doc) : Int :=
 if vld d.1 = false then 10 else if 400 < d.1.length then 9 else if d.2.1 ≠ [] ∧ nm d.2.1 = false then 5 else
 if rateBad d.2.2.1 d.2.2.2.1 then 13 else if d.2.2.2.2.1 < 0 then 2 else if 1099511627776 < d.2.2.2.2.1 then 2 else 0
theorem rate_chk (r : UInt8) (b : Bool) : q36 fuelH (r, b) = some (if rateBad r b then 13 else 0) := by
 unfold q36
 obtain ⟨h1, h2⟩ := tv_eq r
 simp only
 rw [h1, bnd_some']
 by_cases c1 : tvB r = false
 ·rw [cnd_t (by rw [c1]; rfl), if_pos (show rateBad r b from .inl c1)]
 ·rw [cnd_f (by rw [← Bool.not_eq_true, bnot_t]; exact c1)]
  cases b with
  | false =>
   rw [cnd_f rfl, if_neg]
   rintro (h | h)
   ·exact c1 h
   ·cases h.1
  | true =>
   rw [cnd_t rfl, h2, bnd_some']
   by_cases c2 : cdB r = false
   ·rw [cnd_t (by rw [c2]; rfl), if_pos (show rateBad r true from .inr ⟨rfl, c2⟩)]
   ·rw [cnd_f (by rw [← Bool.not_eq_true, bnot_t]; exact c2), if_neg]
    rintro (h | h)
    ·exact c1 h
    ·exact c2 h.2
theorem header_eq {d : Doc} (hd : d.1.length ≤ 4000000) : q37 fuelH d = some (headChk d) := by
 unfold q37 headChk
 rw [jn_e, ch_valid _ hd, bnd_some']
 by_cases c1 : vld d.1 = false
 ·rw [cnd_t (by rw [c1]; rfl), if_pos c1]
 rw [cnd_f (by rw [← Bool.not_eq_true, bnot_t]; exact c1), if_neg c1]
 by_cases c2 : 400 < d.1.length
 ·rw [cnd_t (ilt_t (by simp only [len]; omega)), if_pos c2]
 rw [cnd_f (ilt_f (by simp only [len]; omega)), if_neg c2, lines_name, bnd_some', rate_chk, bnd_some']
 have hrest : cnd (ine (if rateBad d.2.2.1 d.2.2.2.1 then (13 : Int) else 0) 0) (some (if rateBad d.2.2.1 d.2.2.2.1 then (13 : Int) else 0)) (cnd (ilt d.2.2.2.2.1 0) (some (2 : Int)) (cnd (ilt 1099511627776 d.2.2.2.2.1) (some 2) (some 0))) = some (if rateBad d.2.2.1 d.2.2.2.1 then 13 else if d.2.2.2.2.1 < 0 then 2 else if 1099511627776 < d.2.2.2.2.1 then 2 else 0) := by
  by_cases c4 : rateBad d.2.2.1 d.2.2.2.1
  ·rw [if_pos c4, if_pos c4]; rfl
  ·rw [if_neg c4, if_neg c4, cnd_f (by rfl), cnd_ilt, cnd_ilt]
   by_cases c5 : d.2.2.2.2.1 < 0
   ·rw [if_pos c5, if_pos c5]
   rw [if_neg c5, if_neg c5]
   by_cases c6 : 1099511627776 < d.2.2.2.2.1
   ·rw [if_pos c6, if_pos c6]
   ·rw [if_neg c6, if_neg c6]
 rw [hrest]
 generalize (if rateBad d.2.2.1 d.2.2.2.1 then (13 : Int) else if d.2.2.2.2.1 < 0 then 2 else if 1099511627776 < d.2.2.2.2.1 then 2 else 0) = R
 by_cases c3 : d.2.1 = []
 ·rw [cnd_f (by simp [sne, c3]), if_neg fun h => h.1 c3]
 ·rw [cnd_t (by simp [sne, c3])]
  by_cases c4 : nm d.2.1 = false
  ·rw [cnd_t (by rw [c4]; rfl), if_pos ⟨c3, c4⟩]
  ·rw [cnd_f (by rw [← Bool.not_eq_true, bnot_t]; exact c4), if_neg fun h => c4 h.2]
def mapE : Nat → List Ev → List (Int × Int)
 | _, [] => []
 | i, x :: l => (x.1, (i : Int)) :: mapE (i + 1) l
def findE : Nat → List Ev → Int → Int
 | _, [], _ => -1
 | i, x :: l, k => if x.1 = k then (i : Int) else findE (i + 1) l k
def hasE (l : List Ev) (k : Int) : Prop := ∃ x ∈ l, x.1 = k
instance (l : List Ev) (k : Int) : Decidable (hasE l k) := by unfold hasE; infer_instance
theorem mapE_app : ∀ (a b : List Ev) (i : Nat), mapE i (a ++ b) = mapE i a ++ mapE (i + a.length) b
 | [], b, i => by simp [mapE]
 | x :: a, b, i => by
  simp only [List.cons_append, mapE, mapE_app a b (i + 1), List.length_cons]
  congr 3; omega
theorem mhas_mapE : ∀ (l : List Ev) (i : Nat) (k : Int), mhas ieq (mapE i l) k = decide (hasE l k)
 | [], i, k => by simp [mapE, mhas, hasE]
 | x :: l, i, k => by
  simp only [mapE, mhas, mhas_mapE l (i + 1) k]
  by_cases h : k = x.1
  ·rw [ieq_t h, decide_eq_true (show hasE (x :: l) k from ⟨x, List.mem_cons_self, h.symm⟩)]; rfl
  ·rw [ieq_f h]
   show (false || _) = _
   rw [Bool.false_or]
   exact decide_eq_decide.2 ⟨fun ⟨y, h1, h2⟩ => ⟨y, List.mem_cons_of_mem _ h1, h2⟩, fun ⟨y, h1, h2⟩ => by
    rcases List.mem_cons.1 h1 with rfl | h1
    ·exact absurd h2.symm h
    ·exact ⟨y, h1, h2⟩⟩
theorem mput_new {k v : Int} : ∀ (m : List (Int × Int)), mhas ieq m k = false → mput ieq m k v = m ++ [(k, v)]
 | [], _ => rfl
 | x :: m, h => by
  simp only [mhas, bor, Bool.or_eq_false_iff] at h
  simp only [mput, h.1, mput_new m h.2]
  rfl
theorem mget_mapE : ∀ (l : List Ev) (i : Nat) (k : Int), hasE l k → mget ieq 0 (mapE i l) k = findE i l k
 | [], i, k, h => by obtain ⟨x, h, _⟩ := h; cases h
 | x :: l, i, k, h => by
  simp only [mapE, mget, findE]
  by_cases hc : x.1 = k
  ·rw [ieq_t hc.symm, if_pos hc]; rfl
  ·rw [ieq_f (fun e => hc e.symm), if_neg hc]
   obtain ⟨y, h1, h2⟩ := h
   rcases List.mem_cons.1 h1 with rfl | h1
   ·exact absurd h2 hc
   ·exact mget_mapE l (i + 1) k ⟨y, h1, h2⟩
theorem findE_yes : ∀ (l : List Ev) (i : Nat) (k : Int), hasE l k → ∃ j, ∃ h : j < l.length, findE i l k = ((i + j : Nat) : Int) ∧ l[j].1 = k ∧ ¬ hasE (l.take j) k
 | [], i, k, h => by obtain ⟨x, h, _⟩ := h; cases h
 | x :: l, i, k, h => by
  simp only [findE]
  by_cases hc : x.1 = k
  ·exact ⟨0, by simp, by rw [if_pos hc]; rfl, hc, fun ⟨y, h1, _⟩ => by cases h1⟩
  ·obtain ⟨y, h1, h2⟩ := h
   rcases List.mem_cons.1 h1 with rfl | h1
   ·exact absurd h2 hc
   ·obtain ⟨j, hj, e1, e2, e3⟩ := findE_yes l (i + 1) k ⟨y, h1, h2⟩
    refine ⟨j + 1, by simpa using hj, ?_, by simpa using e2, ?_⟩
    ·rw [if_neg hc, e1]; congr 1; omega
    ·rintro ⟨z, h3, h4⟩
     rw [List.take_succ_cons] at h3
     rcases List.mem_cons.1 h3 with rfl | h3
     ·exact hc h4
     ·exact e3 ⟨z, h3, h4⟩
def lessE (a b : Ev) : Prop := a.2.1.1 < b.2.1.1 ∨ (a.2.1.1 = b.2.1.1 ∧ a.1 < b.1)
instance (a b : Ev) : Decidable (lessE a b) := by unfold lessE; infer_instance
theorem cmp_eq (N : Nat) (a b : Int) : q61 N (a, b) = some (if a < b then -1 else if b < a then 1 else 0) := by
 unfold q61
 have h : ∀ x : Int, q60 N x = some false := fun x => by
  show some (ine x x) = _
  rw [ine_f rfl]
 simp only
 rw [h, h, bnd_some', bnd_some', cnd_f rfl, cnd_f rfl, cnd_ilt, cnd_ilt]
 by_cases h1 : a < b
 ·rw [if_pos h1, if_pos h1]
 ·rw [if_neg h1, if_neg h1]
  by_cases h2 : b < a
  ·rw [if_pos h2, if_pos h2]
  ·rw [if_neg h2, if_neg h2]
theorem or_eq (a b : Int) : q62 fuelH [a, b] = some (if a ≠ 0 then a else b) := by
 have h : q62 fuelH [a, b] = cnd (ine a 0) (some a) (cnd (ine b 0) (some b) (some 0)) := by kernel_rfl
 rw [h, cnd_ine, cnd_ine]
 by_cases h1 : a ≠ 0
 ·rw [if_pos h1, if_pos h1]
 ·rw [if_neg h1, if_neg h1]
  by_cases h2 : b ≠ 0
  ·rw [if_pos h2]
  ·rw [if_neg h2]; congr 1; omega
theorem event_less (a b : Ev) : q63 fuelH (a, b) = some (decide (lessE a b)) := by
 unfold q63
 simp only
 rw [cmp_eq, bnd_some', cmp_eq, bnd_some', or_eq, bnd_some']
 congr 1
 by_cases h1 : a.2.1.1 < b.2.1.1
 ·rw [if_pos h1, if_pos (by decide), @decide_eq_true (lessE a b) _ (.inl h1)]; rfl
 ·rw [if_neg h1]
  by_cases h2 : b.2.1.1 < a.2.1.1
  ·rw [if_pos h2, if_pos (by decide), @decide_eq_false (lessE a b) _ (by unfold lessE; omega)]; rfl
  ·rw [if_neg h2, if_neg (by decide)]
   by_cases h3 : a.1 < b.1
   ·rw [if_pos h3, @decide_eq_true (lessE a b) _ (by unfold lessE; omega)]; rfl
   ·rw [if_neg h3, @decide_eq_false (lessE a b) _ (by unfold lessE; omega)]
    split <;> rfl
end
end Go.Mo
end

section
/-
  Plain facts: the events of a document, checked one after the other; the length of an event.
-/
namespace Go.Mo
open Go Go.W Go.Lib
set_option maxRecDepth 100000
noncomputable section
def errL {α : Type} (R : List α → α → Int) : List α → List α → Int
 | _, [] => 0
 | pre, x :: l => if R pre x ≠ 0 then R pre x else errL R (pre ++ [x]) l
theorem errL_zero {α : Type} {R : List α → α → Int} : ∀ (l pre : List α), errL R pre l = 0 → ∀ j (h : j < l.length), R (pre ++ l.take j) l[j] = 0
 | [], _, _, j, h => by simp at h
 | x :: l, pre, h0, j, h => by
  simp only [errL] at h0
  split at h0
  ·rename_i hc; exact absurd h0 hc
  ·rename_i hc
   cases j with
   | zero => simpa using hc
   | succ j =>
    have := errL_zero l (pre ++ [x]) h0 j (by simpa using h)
    simpa using this
theorem loop_err {V σ α ρ : Type} {F : (V → Option ρ) → V → Option ρ} {l : List α} (st : σ → Nat → V) (g : List α → σ) (R : List α → α → Int) (w : Int → ρ) (K : Option ρ)
  (hstep : ∀ self i (h : i < l.length), F self (st (g (l.take i)) i) = if R (l.take i) l[i] ≠ 0 then some (w (R (l.take i) l[i])) else self (st (g (l.take (i + 1))) (i + 1)))
  (hend : (∀ j (h : j < l.length), R (l.take j) l[j] = 0) → ∀ self, F self (st (g l) l.length) = K) :
  ∀ (fuel i : Nat), i ≤ l.length → l.length - i < fuel → (∀ j (h : j < l.length), j < i → R (l.take j) l[j] = 0) →
  fixN F fuel (st (g (l.take i)) i) = if errL R (l.take i) (l.drop i) ≠ 0 then some (w (errL R (l.take i) (l.drop i))) else K
 | 0, i, _, h, _ => by omega
 | fuel + 1, i, hi, h, hp => by
  rw [fixN_s]
  by_cases hl : i < l.length
  ·rw [hstep _ i hl, List.drop_eq_getElem_cons hl, errL]
   by_cases hc : R (l.take i) l[i] ≠ 0
   ·rw [if_pos hc, if_pos hc, if_pos hc]
   ·rw [if_neg hc, if_neg hc]
    have ih := loop_err st g R w K hstep hend fuel (i + 1) (by omega) (by omega) (fun j hj hji => by
     by_cases e : j = i
     ·subst e; simpa using hc
     ·exact hp j hj (by omega))
    rw [ih, List.take_succ_eq_append_getElem hl]
  ·obtain rfl : i = l.length := by omega
   rw [List.take_length, hend (fun j hj => hp j hj hj), List.drop_length]
   rfl
def sumT : List Row → Nat
 | [] => 0
 | r :: l => lenT r + sumT l
def evLen (x : Ev) : Int := ((x.2.2.2.2.2.length - 1 + sumT x.2.2.2.2.2 : Nat) : Int)
theorem sumT_take : ∀ (l : List Row) (i : Nat) (h : i < l.length), sumT (l.take (i + 1)) = sumT (l.take i) + lenT l[i]
 | x :: l, 0, _ => by simp [sumT]
 | x :: l, i + 1, h => by
  have := sumT_take l i (by simpa using h)
  simp only [List.take_succ_cons, sumT, this, List.getElem_cons_succ]
  omega
theorem lenT_tot {l : Row} (h : okR l) : lenT l ≤ 64000000 := by
 have h1 := lenT_le l fun x hx => (h.2.1 x hx).2
 have h2 := h.1
 omega
theorem sumT_le : ∀ (l : List Row), (∀ r ∈ l, okR r) → sumT l ≤ 64000000 * l.length
 | [], _ => Nat.le_refl _
 | r :: l, h => by
  have h1 := lenT_tot (h r List.mem_cons_self)
  have h2 := sumT_le l fun q hq => h q (List.mem_cons_of_mem _ hq)
  simp only [sumT, List.length_cons]
  omega
theorem sumT_take_le (l : List Row) (h : ∀ r ∈ l, okR r) (i : Nat) : sumT (l.take i) ≤ 64000000 * l.length := by
 have h1 := sumT_le (l.take i) fun r hr => h r (List.mem_of_mem_take hr)
 have : (l.take i).length ≤ l.length := by rw [List.length_take]; omega
 omega
theorem event_len_eq {x : Ev} (h : ∀ l ∈ x.2.2.2.2.2, okR l) (hl : x.2.2.2.2.2.length ≤ 1000) : q64 fuelH x = some (evLen x) := by
 unfold q64 evLen
 rw [jn_e, bnd_s (event_lens_eq h (by omega))]
 generalize x.2.2.2.2.2 = l at h hl ⊢
 have hll : (lens l).length = l.length := by unfold lens; rw [List.length_map]
 have e0 : imax (w64 (isub (len l) 1)) 0 = ((l.length - 1 : Nat) : Int) := by
  simp only [isub, imax, len]
  rw [w64_id (by omega)]
  omega
 rw [e0]
 refine loop_inv (n := l.length) (fun (a : Nat) (i : Nat) => ((a : Int), (i : Int))) (fun i a => a = l.length - 1 + sumT (l.take i)) _ (fun self a i hi hI => ?_) (fun self a hI => ?_) fuelH 0 (l.length - 1) (Nat.zero_le _) (by have := fuelH_eq; omega) (by simp [sumT])
 ·refine ⟨a + lenT l[i], ?_, ?_⟩
  ·have ht := sumT_take_le l h i
   have hb := lenT_tot (h _ (List.getElem_mem hi))
   have hin : inb (i : Int) (len (lens l)) = true := inb_t (by simp only [len, hll]; omega)
   have hg : lget (lens l) (toN (i : Int)) (0 : Int) = (lenT l[i] : Int) := by
    rw [lget_i (by omega)]
    simp [lens]
   simp only
   rw [cnd_t (ilt_t (by simp only [len, hll]; omega)), grd_t hin, hg, cnd_f (ilt_f (by omega)), w64_succ hi (by omega)]
   have e : w64 (iadd (a : Int) (lenT l[i] : Int)) = ((a + lenT l[i] : Nat) : Int) := by
    unfold iadd; rw [w64_id (by omega)]; omega
   rw [e]
  ·rw [sumT_take l i hi, hI]; omega
 ·simp only
  rw [cnd_f (ilt_f (by simp only [len, hll]; omega)), hI, List.take_length]
theorem rowsE_zero : ∀ (l : List Row) (k : Int), rowsE l k = 0 → (∀ r ∈ l, rowE r = 0) ∧ k = 0
 | [], k, h => ⟨fun r hr => (by cases hr), h⟩
 | r :: l, k, h => by
  simp only [rowsE] at h
  split at h
  ·rename_i hc; exact absurd h hc
  ·rename_i hc
   obtain ⟨h1, h2⟩ := rowsE_zero l k h
   refine ⟨fun q hq => ?_, h2⟩
   rcases List.mem_cons.1 hq with rfl | hq
   ·simpa using hc
   ·exact h1 q hq
theorem ev_ok {x : Ev} {rs : List Reg} (h : evChk x rs = 0) : 1 ≤ x.1 ∧ x.1 ≤ 1099511627776 ∧ (0 ≤ x.2.1.1 ∧ x.2.1.1 < x.2.1.2 ∧ x.2.1.2 ≤ 5184000) ∧ 0 < x.2.2.2.2.2.length ∧ x.2.2.2.2.2.length ≤ 4 ∧ (∀ r ∈ x.2.2.2.2.2, rowE r = 0) ∧ ∃ r, findR rs x.2.2.1 = some r ∧ (placeS r (lens x.2.2.2.2.2)).2 = 0 := by
 unfold evChk at h
 split at h
 ·cases h
 split at h
 ·cases h
 split at h
 ·cases h
 rename_i c1 c2 c3
 split at h
 ·cases h
 rename_i r hr
 split at h
 ·cases h
 split at h
 ·cases h
 split at h
 ·cases h
 split at h
 ·cases h
 rename_i c6 c7
 obtain ⟨h1, h2⟩ := rowsE_zero _ _ h
 exact ⟨by omega, by omega, by omega, by omega, by omega, h1, r, hr, h2⟩
def ordB (p : Option Ev) (x : Ev) : Bool := match p with
 | some q => decide (lessE q x)
 | none => true
def evRnd (rs : List Reg) (last : Int) (pre : List Ev) (x : Ev) : Int :=
 if evChk x rs ≠ 0 then evChk x rs else if last < x.1 then 2 else if ordB pre.getLast? x = false then 8 else if hasE pre x.1 then 7 else 0
def evsChk (d : Doc) : Int := errL (evRnd d.2.2.2.2.2.1 d.2.2.2.2.1) [] d.2.2.2.2.2.2.1
theorem evRnd_ok {rs : List Reg} {last : Int} {pre : List Ev} {x : Ev} (h : evRnd rs last pre x = 0) : evChk x rs = 0 ∧ x.1 ≤ last ∧ ordB pre.getLast? x = true ∧ ¬ hasE pre x.1 := by
 unfold evRnd at h
 split at h
 ·rename_i hc; exact absurd h hc
 rename_i c1
 split at h
 ·cases h
 rename_i c2
 split at h
 ·cases h
 rename_i c3
 split at h
 ·cases h
 rename_i c4
 exact ⟨by simpa using c1, by omega, by simpa using c3, c4⟩
theorem last_take {α : Type} {l : List α} {i : Nat} (h : i < l.length) : (l.take (i + 1)).getLast? = some l[i] := by
 rw [List.take_succ_eq_append_getElem h, List.getLast?_concat]
end
end Go.Mo
end

section
/-
  Plain facts: the comments of a document, on both sides.
-/
namespace Go.Mo
open Go Go.W Go.Lib
set_option maxRecDepth 100000
noncomputable section
theorem jn_u {α : Type} {K : Unit → Option α} {X : Option α} (h : K () = X) (T : (Unit → Option α) → Option α) : jn K T = T fun _ => X := by
 rw [jn_e, show K = fun _ => X from funext fun _ => h]
def cOrd (p : Option Cmt) (c : Cmt) : Bool := match p with
 | some q => decide (q.1 < c.1)
 | none => true
def evZ : Ev := (0, (0, 0), [], 0, [], [])
def evAt (l : List Ev) (k : Int) : Ev := lget l (toN (findE 0 l k)) evZ
def ancE (d : Doc) (c : Cmt) : Int :=
 if c.2.1 < 1 then 2 else if d.2.2.2.2.1 < c.2.1 then 2 else
 if c.2.2.2.2.2.2.2 = true then (if c.2.2.1 ≠ 0 then 2 else if c.2.2.2.1 ≠ 0 then 2 else 0) else
 if ¬ hasE d.2.2.2.2.2.2.1 c.2.1 then 6 else if c.2.2.1 < 0 then 2 else if c.2.2.2.1 ≤ c.2.2.1 then 2 else
 if evLen (evAt d.2.2.2.2.2.2.1 c.2.1) < c.2.2.2.1 then 2 else 0
def endE (c : Cmt) : Int := if nm c.2.2.2.2.1 = false then 5 else if vld c.2.2.2.2.2.1 = false then 10 else if c.2.2.2.2.2.1 = [] then 4 else if 400 < c.2.2.2.2.2.1.length then 9 else 0
def tailE (d : Doc) (c : Cmt) : Int := if ancE d c ≠ 0 then ancE d c else endE c
def cmtRnd (d : Doc) (pre : List Cmt) (c : Cmt) : Int :=
 if c.1 < 1 then 2 else if d.2.2.2.2.1 < c.1 then 2 else if cOrd pre.getLast? c = false then 8 else if hasE d.2.2.2.2.2.2.1 c.1 then 7 else tailE d c
def cmtsChk (d : Doc) : Int := if 64 < d.2.2.2.2.2.2.2.length then 9 else errL (cmtRnd d) [] d.2.2.2.2.2.2.2
def goodD (d : Doc) : Prop := (∀ x ∈ d.2.2.2.2.2.2.1, (∀ r ∈ x.2.2.2.2.2, okR r) ∧ x.2.2.2.2.2.length ≤ 4) ∧ d.2.2.2.2.2.2.1.length ≤ 400 ∧ ∀ c ∈ d.2.2.2.2.2.2.2, c.2.2.2.2.2.1.length ≤ 4000000
theorem evAt_lenS {d : Doc} (hg : goodD d) {k : Int} (h : hasE d.2.2.2.2.2.2.1 k) : inb (findE 0 d.2.2.2.2.2.2.1 k) (len d.2.2.2.2.2.2.1) = true ∧ 0 ≤ findE 0 d.2.2.2.2.2.2.1 k ∧ q64 fuelH (evAt d.2.2.2.2.2.2.1 k) = some (evLen (evAt d.2.2.2.2.2.2.1 k)) := by
 obtain ⟨j, hj, e1, e2, e3⟩ := findE_yes _ 0 k h
 have he : evAt d.2.2.2.2.2.2.1 k = d.2.2.2.2.2.2.1[j] := by
  unfold evAt
  rw [e1, Nat.zero_add, lget_i hj]
 obtain ⟨h1, h2⟩ := hg.1 _ (List.getElem_mem hj)
 rw [he]
 refine ⟨by rw [e1]; exact inb_t (by simp only [len]; omega), by omega, event_len_eq h1 (by omega)⟩
theorem anchored_eq {d : Doc} (hg : goodD d) (c : Cmt) : q65 fuelH (d, c, mapE 0 d.2.2.2.2.2.2.1) = some (ancE d c, mapE 0 d.2.2.2.2.2.2.1) := by
 unfold q65 ancE
 simp only
 rw [cnd_ilt]
 by_cases c1 : c.2.1 < 1
 ·rw [if_pos c1, if_pos c1]
 rw [if_neg c1, if_neg c1, cnd_ilt]
 by_cases c2 : d.2.2.2.2.1 < c.2.1
 ·rw [if_pos c2, if_pos c2]
 rw [if_neg c2, if_neg c2]
 by_cases c3 : c.2.2.2.2.2.2.2 = true
 ·rw [cnd_t c3, if_pos c3, cnd_ine, cnd_ine]
  by_cases c4 : c.2.2.1 ≠ 0
  ·rw [if_pos c4, if_pos c4]
  rw [if_neg c4, if_neg c4]
  by_cases c5 : c.2.2.2.1 ≠ 0
  ·rw [if_pos c5, if_pos c5]
  ·rw [if_neg c5, if_neg c5]
 ·rw [cnd_f (by simpa using c3), if_neg c3, mhas_mapE, cnd_bnot]
  by_cases c4 : hasE d.2.2.2.2.2.2.1 c.2.1
  ·rw [if_pos c4, if_neg (not_not_intro c4), cnd_ilt]
   by_cases c5 : c.2.2.1 < 0
   ·rw [if_pos c5, if_pos c5]
   rw [if_neg c5, if_neg c5, cnd_ile]
   by_cases c6 : c.2.2.2.1 ≤ c.2.2.1
   ·rw [if_pos c6, if_pos c6]
   obtain ⟨q1, q2, q3⟩ := evAt_lenS hg c4
   have hm : mget ieq (0 : Int) (mapE 0 d.2.2.2.2.2.2.1) c.2.1 = findE 0 d.2.2.2.2.2.2.1 c.2.1 := mget_mapE _ _ _ c4
   rw [if_neg c6, if_neg c6, hm, grd_t q1]
   refine Eq.trans (bnd_s (show q64 fuelH (lget d.2.2.2.2.2.2.1 (toN (findE 0 d.2.2.2.2.2.2.1 c.2.1)) evZ) = _ from q3)) ?_
   rw [cnd_ilt]
   by_cases c7 : evLen (evAt d.2.2.2.2.2.2.1 c.2.1) < c.2.2.2.1
   ·rw [if_pos c7, if_pos c7]
   ·rw [if_neg c7, if_neg c7]
  ·rw [if_neg c4, if_pos c4]
theorem comments_eq {d : Doc} (hg : goodD d) : q66 fuelH (d, mapE 0 d.2.2.2.2.2.2.1) = some (cmtsChk d, mapE 0 d.2.2.2.2.2.2.1) := by
 unfold q66 cmtsChk
 simp only
 by_cases h : 64 < d.2.2.2.2.2.2.2.length
 ·rw [cnd_t (ilt_t (by simp only [len]; omega)), if_pos h]
 rw [cnd_f (ilt_f (by simp only [len]; omega)), if_neg h, jn_e]
 have hanc := fun c => anchored_eq hg c
 have hvl := hg.2.2
 generalize hm : mapE 0 d.2.2.2.2.2.2.1 = m at hanc ⊢
 have hmh : ∀ k, mhas ieq m k = decide (hasE d.2.2.2.2.2.2.1 k) := fun k => by rw [← hm]; exact mhas_mapE _ _ _
 generalize hl : d.2.2.2.2.2.2.2 = l at h hvl ⊢
 refine Eq.trans (loop_err (l := l) (fun (_ : Unit) (p : Nat) => ((p : Int), m)) (fun _ => ()) (cmtRnd d) (fun e => (e, m)) (some (0, m)) (fun self i hi => ?_) (fun _ self => ?_) fuelH 0 (Nat.zero_le _) (by have := fuelH_eq; omega) (fun j _ hj => by omega)) ?_
 ·have hin : inb (i : Int) (len l) = true := inb_t (by simp only [len]; omega)
  have hv := hvl _ (List.getElem_mem hi)
  simp only
  rw [cnd_t (ilt_t (by simp only [len]; omega)), grd_t hin, lget_i hi]
  refine Eq.trans (jn_u (X := if tailE d l[i] ≠ 0 then some (tailE d l[i], m) else self (((i + 1 : Nat) : Int), m)) ?_ _) ?_
  ·skip
   rw [hanc, bnd_some']
   unfold tailE
   by_cases c1 : ancE d l[i] ≠ 0
   ·rw [if_pos c1, if_pos c1, cnd_t (ine_t c1)]
   ·rw [if_neg c1, cnd_f (ine_f (by simpa using c1)), lines_name, bnd_some']
    unfold endE
    by_cases c2 : nm l[i].2.2.2.2.1 = false
    ·rw [cnd_t (by rw [c2]; rfl), if_pos c2, if_pos (by decide)]
    rw [cnd_f (by rw [← Bool.not_eq_true, bnot_t]; exact c2), if_neg c2, ch_valid _ hv, bnd_some']
    by_cases c3 : vld l[i].2.2.2.2.2.1 = false
    ·rw [cnd_t (by rw [c3]; rfl), if_pos c3, if_pos (by decide)]
    rw [cnd_f (by rw [← Bool.not_eq_true, bnot_t]; exact c3), if_neg c3]
    by_cases c4 : l[i].2.2.2.2.2.1 = []
    ·rw [cnd_t (by rw [seq_t]; exact c4), if_pos c4, if_pos (by decide)]
    rw [cnd_f (by rw [← Bool.not_eq_true, seq_t]; exact c4), if_neg c4]
    by_cases c5 : 400 < l[i].2.2.2.2.2.1.length
    ·rw [cnd_t (ilt_t (by simp only [len]; omega)), if_pos c5, if_pos (by decide)]
    ·rw [cnd_f (ilt_f (by simp only [len]; omega)), if_neg c5, if_neg (by decide), w64_succ hi (by omega)]
  ·simp only
   rw [cnd_ilt, cnd_ilt]
   unfold cmtRnd
   by_cases c1 : l[i].1 < 1
   ·rw [if_pos c1, if_pos c1, if_pos (by decide)]
   rw [if_neg c1, if_neg c1]
   by_cases c2 : d.2.2.2.2.1 < l[i].1
   ·rw [if_pos c2, if_pos c2, if_pos (by decide)]
   rw [if_neg c2, if_neg c2, hmh]
   cases i with
   | zero =>
    rw [cnd_f (by rfl)]
    have e0 : cOrd (l.take 0).getLast? l[0] = true := rfl
    rw [e0, if_neg (show ¬ true = false by decide), cnd_dec]
    by_cases c3 : hasE d.2.2.2.2.2.2.1 l[0].1
    ·rw [if_pos c3, if_pos c3, if_pos (by decide)]
    ·rw [if_neg c3, if_neg c3]
   | succ i =>
    rw [cnd_t (ilt_t (by omega)), w64_back (by omega), grd_t (inb_t (by simp only [len]; omega)), lget_i (show i < l.length by omega), cnd_ile, cnd_dec]
    have e0 : cOrd (l.take (i + 1)).getLast? l[i + 1] = decide (l[i].1 < l[i + 1].1) := by rw [last_take (show i < l.length by omega)]; rfl
    rw [e0]
    by_cases c4 : l[i + 1].1 ≤ l[i].1
    ·rw [if_pos c4, decide_eq_false (by omega), if_pos rfl, if_pos (by decide)]
    rw [if_neg c4, decide_eq_true (by omega), if_neg (show ¬ true = false by decide)]
    by_cases c3 : hasE d.2.2.2.2.2.2.1 l[i + 1].1
    ·rw [if_pos c3, if_pos c3, if_pos (by decide)]
    ·rw [if_neg c3, if_neg c3]
 ·simp only
  rw [cnd_f (ilt_f (by simp only [len]; omega))]
 ·rw [List.take_zero, List.drop_zero]
  by_cases hc : errL (cmtRnd d) [] l ≠ 0
  ·rw [if_pos hc]
  ·rw [if_neg hc]
   have hc : errL (cmtRnd d) [] l = 0 := by simpa using hc
   rw [hc]
end
end Go.Mo
end

section
/-
  Plain facts: the check of a document is the specified one.
-/
namespace Go.Mo
open Go Go.W Go.Lib
set_option maxRecDepth 100000
noncomputable section
def docChk (d : Doc) : Int :=
 if headChk d ≠ 0 then headChk d else if regsChk d.2.2.2.2.2.1 ≠ 0 then regsChk d.2.2.2.2.2.1 else
 if 400 < d.2.2.2.2.2.2.1.length then 9 else if evsChk d ≠ 0 then evsChk d else cmtsChk d
def smallD (d : Doc) : Prop := d.1.length ≤ 4000000 ∧ d.2.2.2.2.2.1.length ≤ 4000000 ∧ (∀ x ∈ d.2.2.2.2.2.2.1, smallL x.2.2.2.2.2) ∧ ∀ c ∈ d.2.2.2.2.2.2.2, c.2.2.2.2.2.1.length ≤ 4000000
theorem good_of {d : Doc} (hs : smallD d) (hn : d.2.2.2.2.2.2.1.length ≤ 400) (h : ∀ j (h : j < d.2.2.2.2.2.2.1.length), evRnd d.2.2.2.2.2.1 d.2.2.2.2.1 (d.2.2.2.2.2.2.1.take j) d.2.2.2.2.2.2.1[j] = 0) : goodD d := by
 refine ⟨fun x hx => ?_, hn, hs.2.2.2⟩
 obtain ⟨j, hj, rfl⟩ := List.mem_iff_getElem.1 hx
 obtain ⟨h1, _⟩ := evRnd_ok (h j hj)
 obtain ⟨_, _, _, _, h4, h5, _⟩ := ev_ok h1
 exact ⟨fun r hr => rowE_ok (hs.2.2.1 _ hx r hr) (h5 r hr), h4⟩
theorem mput_take {l : List Ev} {i : Nat} (hi : i < l.length) (hn : ¬ hasE (l.take i) l[i].1) : mput ieq (mapE 0 (l.take i)) l[i].1 (i : Int) = mapE 0 (l.take (i + 1)) := by
 rw [mput_new _ (by rw [mhas_mapE, decide_eq_false hn]), List.take_succ_eq_append_getElem hi, mapE_app]
 have : (l.take i).length = i := by rw [List.length_take]; omega
 rw [this, Nat.zero_add]
 rfl
theorem document_check {d : Doc} (hs : smallD d) : q67 fuelH d = some (docChk d) := by
 unfold q67 docChk
 rw [bnd_s (header_eq hs.1)]
 by_cases c1 : headChk d ≠ 0
 ·rw [cnd_t (ine_t c1), if_pos c1]
 rw [cnd_f (ine_f (by simpa using c1)), if_neg c1, bnd_s (region_list _)]
 by_cases c2 : regsChk d.2.2.2.2.2.1 ≠ 0
 ·rw [cnd_t (ine_t c2), if_pos c2]
 rw [cnd_f (ine_f (by simpa using c2)), if_neg c2]
 by_cases c3 : 400 < d.2.2.2.2.2.2.1.length
 ·rw [cnd_t (ilt_t (by simp only [len]; omega)), if_pos c3]
 rw [cnd_f (ilt_f (by simp only [len]; omega)), if_neg c3, jn_e]
 have hgood := @good_of d hs (by omega)
 have hcm := @comments_eq d
 unfold evsChk
 have hev := hs.2.2.1
 generalize hl : d.2.2.2.2.2.2.1 = l at c3 hgood hcm hev ⊢
 refine Eq.trans (loop_err (l := l) (fun (a : List (Int × Int)) (p : Nat) => ((p : Int), a)) (fun pre => mapE 0 pre) (evRnd d.2.2.2.2.2.1 d.2.2.2.2.1) (fun e => e) (some (cmtsChk d)) (fun self i hi => ?_) (fun hz self => ?_) fuelH 0 (Nat.zero_le _) (by have := fuelH_eq; omega) (fun j _ hj => by omega)) ?_
 ·have hin : inb (i : Int) (len l) = true := inb_t (by simp only [len]; omega)
  have hx := hev _ (List.getElem_mem hi)
  simp only
  rw [cnd_t (ilt_t (by simp only [len]; omega)), grd_t hin, lget_i hi, bnd_s (event_check_eq hx hs.2.1), cnd_ilt, w64_succ hi (by omega)]
  unfold evRnd
  by_cases e1 : evChk l[i] d.2.2.2.2.2.1 ≠ 0
  ·rw [if_pos e1, if_pos e1, cnd_t (ine_t e1)]
  rw [if_neg e1, cnd_f (ine_f (by simpa using e1))]
  by_cases e2 : d.2.2.2.2.1 < l[i].1
  ·rw [if_pos e2, if_pos e2, if_pos (by decide)]
  rw [if_neg e2, if_neg e2]
  have hput := fun h => mput_take hi h
  cases i with
  | zero =>
   rw [cnd_f (by rfl), mhas_mapE, cnd_dec]
   have e0 : ordB (l.take 0).getLast? l[0] = true := rfl
   rw [e0, if_neg (show ¬ true = false by decide)]
   by_cases e3 : hasE (l.take 0) l[0].1
   ·rw [if_pos e3, if_pos e3, if_pos (by decide)]
   ·rw [if_neg e3, if_neg e3, hput e3, if_neg (by decide)]
  | succ i =>
   rw [cnd_t (ilt_t (by omega)), w64_back (by omega), grd_t (inb_t (by simp only [len]; omega)), lget_i (show i < l.length by omega), bnd_s (event_less _ _), mhas_mapE, cnd_dec, cnd_bnot]
   have e0 : ordB (l.take (i + 1)).getLast? l[i + 1] = decide (lessE l[i] l[i + 1]) := by rw [last_take (show i < l.length by omega)]; rfl
   rw [e0]
   by_cases e4 : lessE l[i] l[i + 1]
   ·rw [if_pos e4, decide_eq_true e4, if_neg (show ¬ true = false by decide)]
    by_cases e3 : hasE (l.take (i + 1)) l[i + 1].1
    ·rw [if_pos e3, if_pos e3, if_pos (by decide)]
    ·rw [if_neg e3, if_neg e3, hput e3, if_neg (by decide)]
   ·rw [if_neg e4, decide_eq_false e4, if_pos rfl, if_pos (by decide)]
 ·simp only
  rw [cnd_f (ilt_f (by simp only [len]; omega)), bnd_s (hcm (hgood hz))]
 ·rw [List.take_zero, List.drop_zero]
  split <;> rfl
end
end Go.Mo
end

section
/-
  Plain facts: the place of a good event, and its region.
-/
namespace Go.Mo
open Go Go.W Go.Lib
set_option maxRecDepth 100000
noncomputable section
theorem lens_loop {l : List Int} (hl : l.length ≤ 1000000) (h0 : ∀ n ∈ l, 0 ≤ n) (K : Option (List Spot × Int)) : fixN (fun (v5 : Int → Option (List Spot × Int)) (v6 : Int) =>
   cnd (ilt v6 (len l))
    (grd (inb v6 (len l))
     (cnd (ilt (lget l (toN v6) (0 : Int)) (0 : Int))
      (some (([] : List Spot), (10 : Int)))
      (v5 (w64 (iadd v6 (1 : Int))))))
    K) fuelH (0 : Int) = K := by
 refine loop_inv (n := l.length) (fun (_ : Unit) (i : Nat) => (i : Int)) (fun _ _ => True) _ (fun self a i hi _ => ⟨(), ?_, trivial⟩) (fun self a _ => ?_) fuelH 0 () (Nat.zero_le _) (by have := fuelH_eq; omega) trivial
 ·have := h0 _ (List.getElem_mem hi)
  rw [cnd_t (ilt_t (by simp only [len]; omega)), grd_t (inb_t (by simp only [len]; omega)), lget_i hi, cnd_f (ilt_f (by omega)), w64_succ hi (by omega)]
 ·rw [cnd_f (ilt_f (by simp only [len]; omega))]
theorem lens_pos (l : List Row) : ∀ n ∈ lens l, 0 ≤ n := by
 intro n hn
 obtain ⟨r, _, rfl⟩ := List.mem_map.1 hn
 omega
theorem spots_eq {x : Ev} {rs : List Reg} {r : Reg} (hrs : rs.length ≤ 4000000) (h : ∀ l ∈ x.2.2.2.2.2, okR l) (hl : x.2.2.2.2.2.length ≤ 1000) (hf : findR rs x.2.2.1 = some r) : q68 fuelH (x, rs) = some (placeS r (lens x.2.2.2.2.2)) := by
 unfold q68
 simp only
 rw [region_find _ hrs, bnd_some']
 unfold findP
 rw [hf]
 simp only
 rw [cnd_f (by rfl), event_lens_eq h (by omega), bnd_some', jn_e, lens_loop (by unfold lens; rw [List.length_map]; omega) (lens_pos _), region_place]
 rfl
theorem placeL_ok (r : Reg) (k : Nat) : ∀ (l : List Int) (i : Nat) (out : List Spot), (placeL r k i l out).2 = 0 → ∃ t, (placeL r k i l out).1 = out ++ t ∧ t.length = l.length ∧ ∀ n l', l = n :: l' → t[0]? = some (topOf r k + (i : Int), colOf r n, n)
 | [], i, out, _ => ⟨[], by simp [placeL], rfl, fun n l' h => by cases h⟩
 | n :: l, i, out, h => by
  simp only [placeL] at h ⊢
  by_cases h1 : n < 0
  ·rw [if_pos h1] at h; cases h
  rw [if_neg h1] at h ⊢
  by_cases h2 : r.2.2.2.2.1 < n
  ·rw [if_pos h2] at h; cases h
  rw [if_neg h2] at h ⊢
  obtain ⟨t, e1, e2, _⟩ := placeL_ok r k l (i + 1) _ h
  refine ⟨(topOf r k + (i : Int), colOf r n, n) :: t, by rw [e1]; simp, by simp [e2], fun m l' e => ?_⟩
  injection e with e3 e4
  subst e3
  rfl
theorem placeS_ok {r : Reg} {l : List Int} (h : (placeS r l).2 = 0) (hl : l ≠ []) : usableR r ∧ (l.length : Int) ≤ r.2.2.1 ∧ ∃ s t, (placeS r l).1 = s :: t ∧ s.1 = topOf r l.length ∧ t.length + 1 = l.length := by
 unfold placeS at h ⊢
 by_cases hu : usableR r
 ·rw [if_neg (not_not_intro hu)] at h ⊢
  by_cases hk : r.2.2.1 < (l.length : Int)
  ·rw [if_pos hk] at h; cases h
  rw [if_neg hk] at h ⊢
  refine ⟨hu, by omega, ?_⟩
  cases l with
  | nil => exact absurd rfl hl
  | cons n l' =>
   obtain ⟨t, e1, e2, e3⟩ := placeL_ok r _ _ _ _ h
   have e4 := e3 n l' rfl
   cases t with
   | nil => cases e2
   | cons s t =>
    refine ⟨s, t, by simpa using e1, ?_, by simpa using e2⟩
    simp only [List.getElem?_cons_zero, Option.some.injEq] at e4
    rw [e4]
    simp
 ·rw [if_pos hu] at h; cases h
def placeE (x : Ev) (rs : List Reg) : Int × UInt8 := match findR rs x.2.2.1 with
 | some r => (topOf r x.2.2.2.2.2.length, r.2.2.2.2.2.1)
 | none => (0, 0)
theorem place_bd {x : Ev} {rs : List Reg} (h : evChk x rs = 0) : 0 ≤ (placeE x rs).1 ∧ (placeE x rs).1 ≤ 14 ∧ 1 ≤ n8 (placeE x rs).2 ∧ n8 (placeE x rs).2 ≤ 3 := by
 obtain ⟨_, _, _, h4, h5, _, r, hf, hp⟩ := ev_ok h
 have hne : lens x.2.2.2.2.2 ≠ [] := by
  unfold lens; intro e; have := congrArg List.length e; rw [List.length_map] at this; simp only [List.length_nil] at this; omega
 obtain ⟨hu, hk, _⟩ := placeS_ok hp hne
 have hb := usable_bd hu
 have hll : (lens x.2.2.2.2.2).length = x.2.2.2.2.2.length := by unfold lens; rw [List.length_map]
 rw [hll] at hk
 unfold placeE
 rw [hf]
 unfold topOf
 simp only
 split <;> omega
theorem placed_stl {d : Doc} {x : Ev} (hs : smallL x.2.2.2.2.2) (hrs : d.2.2.2.2.2.1.length ≤ 4000000) (h : evChk x d.2.2.2.2.2.1 = 0) : q69 fuelH (d, x) = some (placeE x d.2.2.2.2.2.1) := by
 obtain ⟨_, _, _, h4, h5, h6, r, hf, hp⟩ := ev_ok h
 have hok : ∀ l ∈ x.2.2.2.2.2, okR l := fun l hl => rowE_ok (hs l hl) (h6 l hl)
 have hne : lens x.2.2.2.2.2 ≠ [] := by
  unfold lens; intro e; have := congrArg List.length e; rw [List.length_map] at this; simp only [List.length_nil] at this; omega
 obtain ⟨hu, hk, s, t, e1, e2, e3⟩ := placeS_ok hp hne
 have hll : (lens x.2.2.2.2.2).length = x.2.2.2.2.2.length := by unfold lens; rw [List.length_map]
 rw [hll] at e2
 have hE : placeE x d.2.2.2.2.2.1 = (s.1, r.2.2.2.2.2.1) := by unfold placeE; rw [hf, e2]
 have hF : q42 fuelH (d.2.2.2.2.2.1, x.2.2.1) = some (r, true) := by rw [region_find _ hrs]; unfold findP; rw [hf]
 unfold q69
 simp only
 rw [spots_eq hrs hok (by omega) hf, bnd_some', hF, bnd_some', e1, grd_t (inb_t (by simp only [len, List.length_cons]; omega)), hE]
 rfl
def letR (a : UInt8) : UInt8 := if a = 1 then 76 else if a = 2 then 67 else 82
def regOf (p : Int × UInt8) : Reg := ([82, b8 (48 + p.1 / 10), b8 (48 + p.1 % 10), letR p.2], p.1, 15 - p.1, 0, 32, p.2, false)
def regB (x : Option Reg) (r : Reg) : Bool := match x with
 | some y => seq y.1 r.1 && (ieq y.2.1 r.2.1 && (ieq y.2.2.1 r.2.2.1 && (ieq y.2.2.2.1 r.2.2.2.1 && (ieq y.2.2.2.2.1 r.2.2.2.2.1 && (ieq (n8 y.2.2.2.2.2.1) (n8 r.2.2.2.2.2.1) && beqb y.2.2.2.2.2.2 r.2.2.2.2.2.2)))))
 | none => false
theorem regB_t {x : Option Reg} {r : Reg} (h : regB x r = true) : x = some r := by
 cases x with
 | none => cases h
 | some y =>
  simp only [regB, Bool.and_eq_true, seq_t, ieq_tt, beqb_t, n8_eq] at h
  rw [← reg_eq] at h
  rw [h]
theorem okP_mem0 {p : Int × UInt8} (h : 0 ≤ p.1 ∧ p.1 ≤ 14 ∧ 1 ≤ n8 p.2 ∧ n8 p.2 ≤ 3) : ∃ n ∈ List.range 15, ∃ a ∈ ([1, 2, 3] : List UInt8), p = ((n : Int), a) := by
 obtain ⟨n, a⟩ := p
 obtain ⟨h1, h2, h3, h4⟩ := h
 simp only at h1 h2 h3 h4
 have hn : (n.toNat : Int) = n := by omega
 have ha : a ∈ ([1, 2, 3] : List UInt8) := by
  have e1 : n8 (1 : UInt8) = 1 := rfl
  have e2 : n8 (2 : UInt8) = 2 := rfl
  have e3 : n8 (3 : UInt8) = 3 := rfl
  have : n8 a = n8 (1 : UInt8) ∨ n8 a = n8 (2 : UInt8) ∨ n8 a = n8 (3 : UInt8) := by omega
  rcases this with e | e | e <;> rw [n8_inj e] <;> simp
 exact ⟨n.toNat, List.mem_range.2 (by omega), a, ha, by rw [hn]⟩
theorem regOf_tabS : ((List.range 15).all fun n => ([1, 2, 3] : List UInt8).all fun a => regB (q81 fuelH ((n : Int), a)) (regOf ((n : Int), a))) = true := by kernel_rfl
theorem regOf_stl {p : Int × UInt8} (h : 0 ≤ p.1 ∧ p.1 ≤ 14 ∧ 1 ≤ n8 p.2 ∧ n8 p.2 ≤ 3) : q81 fuelH p = some (regOf p) := by
 obtain ⟨n, hn, a, ha, rfl⟩ := okP_mem0 h
 exact regB_t (List.all_eq_true.1 (List.all_eq_true.1 regOf_tabS n hn) a ha)
end
end Go.Mo
end

section
/-
  Plain facts: regions in the order of their names; rows without ruby.
-/
namespace Go.Mo
open Go Go.W Go.Lib
set_option maxRecDepth 100000
noncomputable section
theorem slt_cons (a b : UInt8) (x y : List UInt8) : slt (a :: x) (b :: y) = true ↔ a.toNat < b.toNat ∨ (a = b ∧ slt x y = true) := by
 show (decide (a < b) || (a == b && Op.bytesLess x y)) = true ↔ _
 rw [Bool.or_eq_true, Bool.and_eq_true, decide_eq_true_eq, beq_iff_eq, UInt8.lt_iff_toNat_lt]
 rfl
theorem slt_tr : ∀ x y z : List UInt8, slt x y = true → slt y z = true → slt x z = true
 | x, [], z, h, _ => by cases x <;> cases h
 | x, b :: y, [], _, h => by cases h
 | [], b :: y, c :: z, _, _ => rfl
 | a :: x, b :: y, c :: z, h1, h2 => by
  rw [slt_cons] at h1 h2 ⊢
  rcases h1 with h1 | ⟨rfl, h1⟩
  ·rcases h2 with h2 | ⟨rfl, h2⟩
   ·exact .inl (by omega)
   ·exact .inl h1
  ·rcases h2 with h2 | ⟨rfl, h2⟩
   ·exact .inl h2
   ·exact .inr ⟨rfl, slt_tr x y z h1 h2⟩
theorem slt_tri : ∀ x y : List UInt8, slt x y = false → x ≠ y → slt y x = true
 | [], [], _, h => absurd rfl h
 | [], b :: y, h, _ => by cases h
 | a :: x, [], _, _ => rfl
 | a :: x, b :: y, h, hne => by
  rw [← Bool.not_eq_true, slt_cons] at h
  rw [slt_cons]
  by_cases h1 : b.toNat < a.toNat
  ·exact .inl h1
  ·have e : a = b := UInt8.toNat_inj.1 (by
    have : ¬ a.toNat < b.toNat := fun h2 => h (.inl h2)
    omega)
   subst e
   refine .inr ⟨rfl, slt_tri x y ?_ fun e => hne (by rw [e])⟩
   rw [← Bool.not_eq_true]
   exact fun h2 => h (.inr ⟨rfl, h2⟩)
def addS : List Reg → Reg → List Reg
 | [], r => [r]
 | x :: l, r => if slt x.1 r.1 = true then x :: addS l r else if x.1 = r.1 then x :: l else r :: x :: l
theorem addS_len (l : List Reg) (r : Reg) : (addS l r).length ≤ l.length + 1 := by
 induction l with
 | nil => simp [addS]
 | cons x l ih =>
  simp only [addS]
  split
  ·simp only [List.length_cons]; omega
  ·split <;> simp
theorem addS_at : ∀ (l : List Reg) (r : Reg) (k : Nat), k ≤ l.length → (∀ x ∈ l.take k, slt x.1 r.1 = true) → addS l r = l.take k ++ addS (l.drop k) r
 | l, r, 0, _, _ => rfl
 | [], r, k + 1, h, _ => by simp at h
 | x :: l, r, k + 1, h, hk => by
  simp only [addS, List.take_succ_cons, List.drop_succ_cons, List.cons_append]
  rw [if_pos (hk x (by simp)), addS_at l r k (by simpa using h) fun y hy => hk y (by simp [hy])]
theorem stl_add_eq {l : List Reg} (r : Reg) (hl : l.length ≤ 1000000) : stl_add fuelH (l, r) = some (addS l r) := by
 unfold stl_add
 simp only
 rw [jn_e]
 have hbody : ∀ k : Nat, k ≤ l.length → (∀ x ∈ l.take k, slt x.1 r.1 = true) → (∀ h : k < l.length, slt l[k].1 r.1 = false) →
  (jn (fun (_ : Unit) =>
   grd (in2 (k : Int) (len l)) <|
   grd (room (iadd (len ([] : List Reg)) (len (ltake (toN (k : Int)) l))) 56) <|
   grd (room (iadd (len (lapp ([] : List Reg) (ltake (toN (k : Int)) l))) (len ([r] : List Reg))) 56) <|
   grd (in2 (k : Int) (len l)) <|
   grd (room (iadd (len (lapp (lapp ([] : List Reg) (ltake (toN (k : Int)) l)) ([r] : List Reg))) (len (ldrop (toN (k : Int)) l))) 56) <|
   some (lapp (lapp (lapp ([] : List Reg) (ltake (toN (k : Int)) l)) ([r] : List Reg)) (ldrop (toN (k : Int)) l)))
  fun v2 =>
  cnd (ilt (k : Int) (len l))
   (grd (inb (k : Int) (len l))
    (cnd (seq (lget l (toN (k : Int)) ([], ((0 : Int), ((0 : Int), ((0 : Int), ((0 : Int), ((0 : UInt8), false))))))).1 r.1)
     (some l)
     (v2 ())))
   (v2 ())) = some (addS l r) := by
  intro k hk hlt hge
  have htl : (l.take k).length = k := by rw [List.length_take]; omega
  have hdl : (l.drop k).length = l.length - k := List.length_drop
  have hin : in2 (k : Int) (len l) = true := in2_t (by simp only [len]; omega)
  refine Eq.trans (jn_u (X := some (l.take k ++ r :: l.drop k)) ?_ _) ?_
  ·have e1 : ltake (toN (k : Int)) l = l.take k := by simp [ltake, toN]
   have e2 : ldrop (toN (k : Int)) l = l.drop k := by simp [ldrop, toN]
   rw [e1, e2, grd_t hin, grd_t (room_t (by simp only [iadd, len, List.length_nil]; omega)), grd_t (room_t (by simp only [iadd, len, lapp, List.length_append, List.length_nil, List.length_singleton]; omega)), grd_t hin, grd_t (room_t (by simp only [iadd, len, lapp, List.length_append, List.length_nil, List.length_singleton]; omega))]
   simp [lapp]
  ·simp only
   by_cases hc : k < l.length
   ·have hd := List.drop_eq_getElem_cons hc
    rw [cnd_t (ilt_t (by simp only [len]; omega)), grd_t (inb_t (by simp only [len]; omega)), lget_i hc, addS_at l r k hk hlt, hd]
    simp only [addS]
    rw [if_neg (by rw [hge hc]; decide)]
    by_cases he : l[k].1 = r.1
    ·rw [cnd_t (by rw [seq_t]; exact he), if_pos he, ← hd, List.take_append_drop]
    ·rw [cnd_f (by rw [← Bool.not_eq_true, seq_t]; exact he), if_neg he]
   ·rw [cnd_f (ilt_f (by simp only [len]; omega)), addS_at l r k hk hlt]
    have : l.drop k = [] := List.drop_eq_nil_of_le (by omega)
    rw [this]
    rfl
 have hloop : ∀ (fuel k : Nat), l.length - k < fuel → k ≤ l.length → (∀ x ∈ l.take k, slt x.1 r.1 = true) → ∀ K : Int → Option (List Reg), (∀ k : Nat, k ≤ l.length → (∀ x ∈ l.take k, slt x.1 r.1 = true) → (∀ h : k < l.length, slt l[k].1 r.1 = false) → K (k : Int) = some (addS l r)) →
  fixN (fun (v4 : Int → Option (List Reg)) (v5 : Int) =>
  cnd (ilt v5 (len l))
   (grd (inb v5 (len l))
    (cnd (slt (lget l (toN v5) ([], ((0 : Int), ((0 : Int), ((0 : Int), ((0 : Int), ((0 : UInt8), false))))))).1 r.1)
     (v4 (w64 (iadd v5 (1 : Int))))
     (K v5)))
   (K v5)) fuel (k : Int) = some (addS l r) := by
  intro fuel
  induction fuel with
  | zero => intro k h; omega
  | succ fuel ih =>
   intro k h hk hlt K hK
   rw [fixN_s]
   by_cases hc : k < l.length
   ·rw [cnd_t (ilt_t (by simp only [len]; omega)), grd_t (inb_t (by simp only [len]; omega)), lget_i hc, w64_succ hc (by omega)]
    by_cases hs : slt l[k].1 r.1 = true
    ·rw [cnd_t hs]
     refine ih (k + 1) (by omega) (by omega) (fun x hx => ?_) K hK
     rw [List.take_succ_eq_append_getElem hc] at hx
     rcases List.mem_append.1 hx with hx | hx
     ·exact hlt x hx
     ·rw [List.mem_singleton.1 hx]; exact hs
    ·rw [cnd_f (by simpa using hs)]
     exact hK k hk hlt fun _ => by simpa using hs
   ·rw [cnd_f (ilt_f (by simp only [len]; omega))]
    exact hK k hk hlt fun h => absurd h hc
 exact hloop fuelH 0 (by have := fuelH_eq; omega) (Nat.zero_le _) (fun x hx => by cases hx) _ hbody
end
end Go.Mo
end

section
/-
  Plain facts: the reference's list of regions is the same.
-/
namespace Go.Mo
open Go Go.W Go.Lib
set_option maxRecDepth 100000
noncomputable section
def srt (l : List Reg) : Prop := l.Pairwise fun a b => slt a.1 b.1 = true
theorem mem_addS : ∀ (l : List Reg) (r x : Reg), x ∈ addS l r → x ∈ l ∨ x = r
 | [], r, x, h => .inr (List.mem_singleton.1 h)
 | y :: l, r, x, h => by
  simp only [addS] at h
  split at h
  ·rcases List.mem_cons.1 h with rfl | h
   ·exact .inl List.mem_cons_self
   ·rcases mem_addS l r x h with h | h
    ·exact .inl (List.mem_cons_of_mem _ h)
    ·exact .inr h
  ·split at h
   ·exact .inl h
   ·rcases List.mem_cons.1 h with rfl | h
    ·exact .inr rfl
    ·exact .inl h
theorem srt_add : ∀ (l : List Reg) (r : Reg), srt l → srt (addS l r)
 | [], r, _ => List.pairwise_singleton _ _
 | x :: l, r, h => by
  have h1 := (List.pairwise_cons.1 h)
  simp only [addS]
  split
  ·rename_i hc
   refine List.pairwise_cons.2 ⟨fun y hy => ?_, srt_add l r h1.2⟩
   rcases mem_addS l r y hy with hy | rfl
   ·exact h1.1 y hy
   ·exact hc
  ·rename_i hc
   split
   ·exact h
   ·rename_i he
    have hr : slt r.1 x.1 = true := slt_tri _ _ (by simpa using hc) he
    refine List.pairwise_cons.2 ⟨fun y hy => ?_, h⟩
    rcases List.mem_cons.1 hy with rfl | hy
    ·exact hr
    ·exact slt_tr _ _ _ hr (h1.1 y hy)
end
end Go.Mo
end

section
/-
  Plain facts: rows without ruby, both sides; the day.
-/
namespace Go.Mo
open Go Go.W Go.Lib
set_option maxRecDepth 100000
noncomputable section
theorem bare_loop {l : List Row} (h : ∀ q ∈ l, okR q) (hl : l.length ≤ 1000) (Nrm : Row → Option Row) (hN : ∀ q : Row, q.length ≤ 4000000 → tot q ≤ 8000000 → Nrm q = some (normR q)) :
 fixN (fun (v2 : (List Row) × Int → Option (List Row)) (v3 : (List Row) × Int) =>
  cnd (ilt v3.2 (len l))
   (jn (fun (v4 : List Row) =>
    v2 (v4, w64 (iadd v3.2 (1 : Int))))
   fun v5 =>
   grd (inb v3.2 (len l)) <|
   jn (fun (v6 : Row) =>
    bnd (Nrm v6) fun v7 =>
    grd (room (iadd (len v3.1) (len ([v7] : List Row))) 24) <|
    v5 (lapp v3.1 ([v7] : List Row)))
   fun v8 =>
   fixN (fun v9 (v10 : Int × Row) =>
    cnd (ilt v10.1 (len (lget l (toN v3.2) [])))
     (grd (inb v10.1 (len (lget l (toN v3.2) [])))
      (grd (room (iadd (len v10.2) (len ([((lget (lget l (toN v3.2) []) (toN v10.1) ([], (((0 : UInt8), (false, false)), []))).1, (lget (lget l (toN v3.2) []) (toN v10.1) ([], (((0 : UInt8), (false, false)), []))).2.1, ([] : List UInt8))] : Row))) 40)
       (v9 (w64 (iadd v10.1 (1 : Int)), lapp v10.2 ([((lget (lget l (toN v3.2) []) (toN v10.1) ([], (((0 : UInt8), (false, false)), []))).1, (lget (lget l (toN v3.2) []) (toN v10.1) ([], (((0 : UInt8), (false, false)), []))).2.1, ([] : List UInt8))] : Row)))))
     (v8 v10.2)) fuelH ((0 : Int), ([] : Row)))
   (some v3.1)) fuelH (([] : List Row), (0 : Int)) = some (l.map back) := by
 refine loop_inv (n := l.length) (fun (a : List Row) (i : Nat) => (a, (i : Int))) (fun i a => a = (l.take i).map back) _ (fun self a i hi hI => ?_) (fun self a hI => ?_) fuelH 0 [] (Nat.zero_le _) (by have := fuelH_eq; omega) rfl
 ·refine ⟨a ++ [back l[i]], ?_, ?_⟩
  ·have hli := h l[i] (List.getElem_mem hi)
   have hq1 := hli.1
   have hq2 := hli.2.2
   have ha : a.length ≤ i := by rw [hI, List.length_map, List.length_take]; omega
   simp only
   rw [cnd_t (ilt_t (by simp only [len]; omega)), jn_e, grd_t (inb_t (by simp only [len]; omega)), lget_i hi, jn_e]
   generalize l[i] = q at hq1 hq2 ⊢
   refine loop_inv (n := q.length) (fun (b : Row) (j : Nat) => ((j : Int), b)) (fun j b => b = (q.take j).map bare) _ (fun self' b j hj hJ => ?_) (fun self' b hJ => ?_) fuelH 0 [] (Nat.zero_le _) (by have := fuelH_eq; omega) rfl
   ·refine ⟨b ++ [bare q[j]], ?_, ?_⟩
    ·have hbl : b.length ≤ 16 := by rw [hJ, List.length_map, List.length_take]; omega
     simp only
     rw [cnd_t (ilt_t (by simp only [len]; omega)), grd_t (inb_t (by simp only [len]; omega)), lget_i hj, grd_t (room_t (by simp only [iadd, len, List.length_singleton]; omega)), w64_succ hj (by omega)]
     rfl
    ·rw [hJ, List.take_succ_eq_append_getElem hj, List.map_append]; rfl
   ·simp only
    rw [cnd_f (ilt_f (by simp only [len]; omega))]
    rw [hJ, List.take_length]
    have hn : Nrm (q.map bare) = some (back q) := hN _ (by rw [List.length_map]; omega) (by rw [bare_tot]; omega)
    rw [hn, bnd_some', grd_t (room_t (by simp only [iadd, len, List.length_singleton]; omega)), w64_succ hi (by omega)]
    rfl
  ·rw [hI, List.take_succ_eq_append_getElem hi, List.map_append]; rfl
 ·simp only
  rw [cnd_f (ilt_f (by simp only [len]; omega)), hI, List.take_length]
theorem stl_bare_eq {l : List Row} (h : ∀ q ∈ l, okR q) (hl : l.length ≤ 1000) : stl_bare fuelH l = some (l.map back) := by
 unfold stl_bare
 rw [jn_e]
 exact bare_loop h hl (q83 fuelH) fun q => style_Norm_eq
def dayOf (r : UInt8) : Int := if r = 3 then 2160000 else 2592000
theorem day_stl {r : UInt8} (h : r = 3 ∨ r = 5) : q88 fuelH (r, false) = some (dayOf r) := by
 rcases h with rfl | rfl
 ·kernel_rfl
 ·kernel_rfl
def acceptRnd (rs : List Reg) (day : Int) (i : Nat) (x : Ev) (l : List Reg) : Option (Int × Int) ⊕ List Reg :=
 if day ≤ x.2.1.2 then .inl (some ((i : Int), 2)) else if 16 < (addS l (regOf (placeE x rs))).length then .inl (some ((i : Int), 9)) else .inr (addS l (regOf (placeE x rs)))
def acceptL (d : Doc) : Option (Int × Int) := itI (acceptRnd d.2.2.2.2.2.1 (dayOf d.2.2.1)) (fun _ => some (-1, 0)) 0 d.2.2.2.2.2.2.1 []
def acceptS (d : Doc) : Option (Int × Int) := if docChk d ≠ 0 then some (-1, docChk d) else if ¬ (d.2.2.1 = 3 ∨ d.2.2.1 = 5) then some (-1, 13) else acceptL d
theorem chk_evs {d : Doc} (h : docChk d = 0) : d.2.2.2.2.2.2.1.length ≤ 400 ∧ ∀ x ∈ d.2.2.2.2.2.2.1, evChk x d.2.2.2.2.2.1 = 0 := by
 unfold docChk at h
 split at h
 ·rename_i hc; exact absurd h hc
 split at h
 ·rename_i hc; exact absurd h hc
 split at h
 ·cases h
 rename_i hn
 split at h
 ·rename_i hc; exact absurd h hc
 rename_i hc
 have hc : evsChk d = 0 := by simpa using hc
 refine ⟨by omega, fun x hx => ?_⟩
 obtain ⟨j, hj, rfl⟩ := List.mem_iff_getElem.1 hx
 exact (evRnd_ok (errL_zero _ _ hc j hj)).1
theorem rate_cnd {α : Type} (r : UInt8) (X Y : Option α) : cnd (ine (n8 r) (n8 (3 : UInt8))) (cnd (ine (n8 r) (n8 (5 : UInt8))) X Y) Y = if ¬ (r = 3 ∨ r = 5) then X else Y := by
 rw [cnd_ine, cnd_ine]
 by_cases h3 : r = 3
 ·rw [if_neg (by rw [h3]; simp), if_neg (not_not_intro (.inl h3))]
 ·rw [if_pos (fun e => h3 (n8_inj e))]
  by_cases h5 : r = 5
  ·rw [if_neg (by rw [h5]; simp), if_neg (not_not_intro (.inr h5))]
  ·rw [if_pos (fun e => h5 (n8_inj e)), if_pos (fun e => e.elim h3 h5)]
end
end Go.Mo
end

section
/-
  Plain facts: what the form accepts, on both sides.
-/
namespace Go.Mo
open Go Go.W Go.Lib
set_option maxRecDepth 100000
noncomputable section
theorem acc_some (rs : List Reg) (day : Int) : ∀ (l : List Ev) (i : Nat) (a : List Reg), ∃ v, itI (acceptRnd rs day) (fun _ => some ((-1 : Int), (0 : Int))) i l a = some v
 | [], i, a => ⟨_, rfl⟩
 | x :: l, i, a => by
  simp only [itI, acceptRnd]
  by_cases h1 : day ≤ x.2.1.2
  ·rw [if_pos h1]; exact ⟨_, rfl⟩
  ·rw [if_neg h1]
   by_cases h2 : 16 < (addS a (regOf (placeE x rs))).length
   ·rw [if_pos h2]; exact ⟨_, rfl⟩
   ·rw [if_neg h2]; exact acc_some rs day l (i + 1) _
theorem accept_some (d : Doc) : ∃ v, acceptS d = some v := by
 unfold acceptS
 split
 ·exact ⟨_, rfl⟩
 split
 ·exact ⟨_, rfl⟩
 exact acc_some _ _ _ _ _
theorem stl_accept {d : Doc} (hs : smallD d) : q89 fuelH d = acceptS d := by
 unfold q89 acceptS
 rw [bnd_s (document_check hs)]
 by_cases c1 : docChk d ≠ 0
 ·rw [cnd_t (ine_t c1), if_pos c1]
 rw [cnd_f (ine_f (by simpa using c1)), if_neg c1, jn_e, rate_cnd]
 by_cases c2 : d.2.2.1 = 3 ∨ d.2.2.1 = 5
 ·rw [if_neg (not_not_intro c2), if_neg (not_not_intro c2), jn_e]
  obtain ⟨hn, hev⟩ := chk_evs (d := d) (by simpa using c1)
  unfold acceptL
  have hsm := hs.2.2.1
  have hpl := fun x hx => placed_stl (d := d) (x := x) (hsm x hx) hs.2.1 (hev x hx)
  generalize hl : d.2.2.2.2.2.2.1 = l at hn hev hpl ⊢
  refine Eq.trans (lst_it (l := l) (fun (a : List Reg) (p : Nat) => (a, (p : Int))) (acceptRnd d.2.2.2.2.2.1 (dayOf d.2.2.1)) (fun _ => some (-1, 0)) (fun i a => a.length ≤ i) (fun self a i hi ha => ?_) (fun self a _ => ?_) fuelH 0 [] (Nat.zero_le _) (by have := fuelH_eq; omega) (Nat.le_refl _)) ?_
  ·have hx := List.getElem_mem hi
   simp only
   rw [cnd_t (ilt_t (by simp only [len]; omega)), grd_t (inb_t (by simp only [len]; omega)), lget_i hi, bnd_s (day_stl c2), cnd_ile, bnd_s (hpl _ hx), bnd_s (regOf_stl (place_bd (hev _ hx))), bnd_s (stl_add_eq _ (by omega)), cnd_ilt, w64_succ hi (by omega)]
   unfold acceptRnd
   by_cases h1 : dayOf d.2.2.1 ≤ l[i].2.1.2
   ·rw [if_pos h1, if_pos h1]; rfl
   ·rw [if_neg h1, if_neg h1]
    have hal := addS_len a (regOf (placeE l[i] d.2.2.2.2.2.1))
    by_cases h2 : 16 < (addS a (regOf (placeE l[i] d.2.2.2.2.2.1))).length
    ·rw [if_pos h2, if_pos (by simp only [len]; omega)]; rfl
    ·rw [if_neg h2, if_neg (by simp only [len]; omega)]
     exact ⟨rfl, by omega⟩
  ·simp only
   rw [cnd_f (ilt_f (by simp only [len]; omega))]
  ·rw [List.drop_zero]
 ·rw [if_pos c2, if_pos c2]
end
end Go.Mo
end

section
/-
  Plain facts: the document as the form carries it, on both sides.
-/
namespace Go.Mo
open Go Go.W Go.Lib
set_option maxRecDepth 100000
noncomputable section
def noD : Doc := ([], [], 0, false, 0, [], [], [])
def evR (rs : List Reg) (i : Nat) (x : Ev) : Ev := (((i + 1 : Nat) : Int), x.2.1, (regOf (placeE x rs)).1, 1, [], x.2.2.2.2.2.map back)
def redRnd (rs : List Reg) (i : Nat) (x : Ev) (a : List Reg × List Ev) : Option Doc ⊕ List Reg × List Ev := .inr (addS a.1 (regOf (placeE x rs)), a.2 ++ [evR rs i x])
def redE (d : Doc) (a : List Reg × List Ev) : Option Doc := some (d.1, d.2.1, d.2.2.1, d.2.2.2.1, len d.2.2.2.2.2.2.1, a.1, a.2, [])
def redD (d : Doc) : Option Doc := if docChk d ≠ 0 then some noD else itI (redRnd d.2.2.2.2.2.1) (redE d) 0 d.2.2.2.2.2.2.1 ([], [])
theorem stl_reduce {d : Doc} (hs : smallD d) : q84 fuelH d = redD d := by
 unfold q84 redD
 rw [bnd_s (document_check hs)]
 by_cases c1 : docChk d ≠ 0
 ·rw [cnd_t (ine_t c1), if_pos c1]; rfl
 rw [cnd_f (ine_f (by simpa using c1)), if_neg c1, jn_e]
 obtain ⟨hn, hev⟩ := chk_evs (d := d) (by simpa using c1)
 unfold redE
 have hsm := hs.2.2.1
 have hpl := fun x hx => placed_stl (d := d) (x := x) (hsm x hx) hs.2.1 (hev x hx)
 have hok : ∀ x ∈ d.2.2.2.2.2.2.1, (∀ l ∈ x.2.2.2.2.2, okR l) ∧ x.2.2.2.2.2.length ≤ 4 := fun x hx => by
  obtain ⟨_, _, _, _, h5, h6, _⟩ := ev_ok (hev x hx)
  exact ⟨fun l hl => rowE_ok (hsm x hx l hl) (h6 l hl), h5⟩
 generalize hl : d.2.2.2.2.2.2.1 = l at hn hev hpl hok ⊢
 refine Eq.trans (lst_it (l := l) (fun (a : List Reg × List Ev) (p : Nat) => ((p : Int), d.1, d.2.1, d.2.2.1, d.2.2.2.1, len l, a.1, a.2, ([] : List Cmt))) (redRnd d.2.2.2.2.2.1) (fun a => some (d.1, d.2.1, d.2.2.1, d.2.2.2.1, len l, a.1, a.2, [])) (fun i a => a.1.length ≤ i ∧ a.2.length ≤ i) (fun self a i hi ha => ?_) (fun self a _ => ?_) fuelH 0 ([], []) (Nat.zero_le _) (by have := fuelH_eq; omega) ⟨Nat.le_refl _, Nat.le_refl _⟩) ?_
 ·have hx := List.getElem_mem hi
  have hal := addS_len a.1 (regOf (placeE l[i] d.2.2.2.2.2.1))
  simp only
  rw [cnd_t (ilt_t (by simp only [len]; omega)), grd_t (inb_t (by simp only [len]; omega)), lget_i hi, bnd_s (hpl _ hx), bnd_s (regOf_stl (place_bd (hev _ hx))), bnd_s (stl_add_eq _ (by omega)), bnd_s (stl_bare_eq (hok _ hx).1 (by have := (hok _ hx).2; omega)), grd_t (room_t (by simp only [iadd, len, List.length_singleton]; omega)), w64_succ hi (by omega)]
  exact ⟨rfl, by simp only; omega, by simp only [List.length_append, List.length_singleton]; omega⟩
 ·simp only
  rw [cnd_f (ilt_f (by simp only [len]; omega))]
 ·rw [List.drop_zero]
end
end Go.Mo
end

section
/-
  Plain facts: a document is the same as itself; StlAccepts returns true.
-/
namespace Go.Mo
open Go Go.W Go.Lib
set_option maxRecDepth 100000
noncomputable section
theorem regs_self {l : List Reg} (hl : l.length ≤ 1000000) : q151 fuelH (l, l) = some true := by
 unfold q151
 simp only
 rw [cnd_f (ine_f rfl), jn_e]
 refine loop_inv (n := l.length) (fun (_ : Unit) (i : Nat) => (i : Int)) (fun _ _ => True) _ (fun self a i hi _ => ⟨(), ?_, trivial⟩) (fun self a _ => ?_) fuelH 0 () (Nat.zero_le _) (by have := fuelH_eq; omega) trivial
 ·have hin : inb (i : Int) (len l) = true := inb_t (by simp only [len]; omega)
  rw [cnd_t (ilt_t (by simp only [len]; omega)), grd_t hin, grd_t hin, lget_i hi, w64_succ hi (by omega), cnd_f]
  rw [← Bool.not_eq_true, bnot_t, Bool.eq_false_iff]
  intro h
  refine h ?_
  simp only [band_tt, seq_t, ieq_tt, beqb_t]
  simp
 ·rw [cnd_f (ilt_f (by simp only [len]; omega))]
theorem ev_self {x : Ev} (h1 : x.2.2.2.2.2.length ≤ 4000000) (h2 : ∀ r ∈ x.2.2.2.2.2, r.length ≤ 4000000) : q156 fuelH (x, x) = some true := by
 unfold q156
 simp only
 rw [cnd_t (ieq_t rfl), cnd_t (by simp [band_tt, ieq_tt]), cnd_t (by rw [seq_t]), cnd_t (ieq_t rfl), cnd_t (by rw [seq_t]), same_rows _ _ h1 h2, bnd_some']
 simp
theorem evs_self {l : List Ev} (hl : l.length ≤ 1000000) (h : ∀ x ∈ l, x.2.2.2.2.2.length ≤ 4000000 ∧ ∀ r ∈ x.2.2.2.2.2, r.length ≤ 4000000) : q157 fuelH (l, l) = some true := by
 unfold q157
 simp only
 rw [cnd_f (ine_f rfl), jn_e]
 refine loop_inv (n := l.length) (fun (_ : Unit) (i : Nat) => (i : Int)) (fun _ _ => True) _ (fun self a i hi _ => ⟨(), ?_, trivial⟩) (fun self a _ => ?_) fuelH 0 () (Nat.zero_le _) (by have := fuelH_eq; omega) trivial
 ·have hin : inb (i : Int) (len l) = true := inb_t (by simp only [len]; omega)
  obtain ⟨h1, h2⟩ := h _ (List.getElem_mem hi)
  rw [cnd_t (ilt_t (by simp only [len]; omega)), grd_t hin, grd_t hin, lget_i hi, w64_succ hi (by omega), bnd_s (ev_self h1 h2), cnd_f (by rfl)]
 ·rw [cnd_f (ilt_f (by simp only [len]; omega))]
theorem doc_self {d : Doc} (h1 : d.2.2.2.2.2.1.length ≤ 1000000) (h2 : d.2.2.2.2.2.2.1.length ≤ 1000000) (h3 : ∀ x ∈ d.2.2.2.2.2.2.1, x.2.2.2.2.2.length ≤ 4000000 ∧ ∀ r ∈ x.2.2.2.2.2, r.length ≤ 4000000) (h4 : d.2.2.2.2.2.2.2 = []) : q159 fuelH (d, d) = some true := by
 unfold q159
 have hh : q150 fuelH d = some (d.1, d.2.1, d.2.2.1, d.2.2.2.1, d.2.2.2.2.1) := rfl
 simp only
 rw [hh, bnd_some', bnd_some', cnd_t (by simp [band_tt, ieq_tt, seq_t, beqb_t]), regs_self h1, bnd_some', cnd_t rfl, evs_self h2 h3, bnd_some', cnd_t rfl, h4]
 have : q158 fuelH ([], []) = some true := by kernel_rfl
 rw [this]
 rfl
theorem red_small {rs : List Reg} (d : Doc) : ∀ (l : List Ev) (i : Nat) (a : List Reg × List Ev), (∀ x ∈ l, (∀ q ∈ x.2.2.2.2.2, okR q) ∧ x.2.2.2.2.2.length ≤ 4) → (∀ x ∈ a.2, x.2.2.2.2.2.length ≤ 4000000 ∧ ∀ r ∈ x.2.2.2.2.2, r.length ≤ 4000000) →
  ∃ y : Doc, itI (redRnd rs) (redE d) i l a = some y ∧ y.2.2.2.2.2.1.length ≤ a.1.length + l.length ∧ y.2.2.2.2.2.2.1.length ≤ a.2.length + l.length ∧ (∀ x ∈ y.2.2.2.2.2.2.1, x.2.2.2.2.2.length ≤ 4000000 ∧ ∀ r ∈ x.2.2.2.2.2, r.length ≤ 4000000) ∧ y.2.2.2.2.2.2.2 = []
 | [], i, a, _, ha => ⟨_, rfl, Nat.le_refl _, Nat.le_refl _, ha, rfl⟩
 | x :: l, i, a, h, ha => by
  simp only [itI, redRnd]
  obtain ⟨k1, k2⟩ := h x List.mem_cons_self
  obtain ⟨y, e1, e2, e3, e4, e5⟩ := red_small (rs := rs) d l (i + 1) (addS a.1 (regOf (placeE x rs)), a.2 ++ [evR rs i x]) (fun z hz => h z (List.mem_cons_of_mem _ hz)) (fun z hz => by
   rcases List.mem_append.1 hz with hz | hz
   ·exact ha z hz
   ·rw [List.mem_singleton.1 hz]
    unfold evR
    simp only
    refine ⟨by rw [List.length_map]; omega, fun r hr => ?_⟩
    obtain ⟨q, hq, rfl⟩ := List.mem_map.1 hr
    have h1 := normR_len (q.map bare)
    have h2 := (k1 q hq).1
    rw [List.length_map] at h1
    show (normR (q.map bare)).length ≤ _
    omega)
  have hal := addS_len a.1 (regOf (placeE x rs))
  refine ⟨y, e1, ?_, ?_, e4, e5⟩
  ·simp only [List.length_cons] at e2 ⊢; omega
  ·simp only [List.length_append, List.length_cons, List.length_nil] at e3 ⊢; omega
theorem redD_small {d : Doc} (hs : smallD d) : ∃ y, redD d = some y ∧ q159 fuelH (y, y) = some true := by
 unfold redD
 by_cases c1 : docChk d ≠ 0
 ·rw [if_pos c1]
  exact ⟨_, rfl, doc_self (by simp [noD]) (by simp [noD]) (fun x hx => by cases hx) rfl⟩
 ·rw [if_neg c1]
  obtain ⟨hn, hev⟩ := chk_evs (d := d) (by simpa using c1)
  have hsm := hs.2.2.1
  obtain ⟨y, e1, e2, e3, e4, e5⟩ := red_small (rs := d.2.2.2.2.2.1) d d.2.2.2.2.2.2.1 0 ([], []) (fun x hx => by
   obtain ⟨_, _, _, _, h5, h6, _⟩ := ev_ok (hev x hx)
   exact ⟨fun l hl => rowE_ok (hsm x hx l hl) (h6 l hl), h5⟩) (fun x hx => by cases hx)
  simp only [List.length_nil, Nat.zero_add] at e2 e3
  exact ⟨y, e1, doc_self (by omega) (by omega) e4 e5⟩
end
end Go.Mo
end

section
/-
  Plain facts: StlAccepts returns true.
-/
namespace Go.Mo
open Go Go.W Go.Lib
set_option maxRecDepth 100000
noncomputable section
def wtG (r : Reg) : Nat := r.1.length + 1 + (1 + (1 + (1 + (1 + (1 + 1)))))
def wtX (x : Ev) : Nat := 1 + (1 + 1 + (x.2.2.1.length + 1 + (1 + (x.2.2.2.2.1.length + 1 + (bkL wtR x.2.2.2.2.2 + 1)))))
def wtC (c : Cmt) : Nat := 1 + (1 + (1 + (1 + (c.2.2.2.2.1.length + 1 + (c.2.2.2.2.2.1.length + 1 + (1 + 1))))))
def wtD (d : Doc) : Nat := d.1.length + 1 + (d.2.1.length + 1 + (1 + (1 + (1 + (bkL wtG d.2.2.2.2.2.1 + 1 + (bkL wtX d.2.2.2.2.2.2.1 + 1 + (bkL wtC d.2.2.2.2.2.2.2 + 1)))))))
def fewD (d : Doc) : Doc := (d.1, d.2.1, d.2.2.1, d.2.2.2.1, d.2.2.2.2.1, d.2.2.2.2.2.1.take 6, d.2.2.2.2.2.2.1.take 5, d.2.2.2.2.2.2.2.take 4)
theorem few_eq (d : Doc) : l24_few fuelH d = some (fewD d) := by
 unfold l24_few fewD
 obtain ⟨e1, e2⟩ := min_take d.2.2.2.2.2.2.1 5
 obtain ⟨e3, e4⟩ := min_take d.2.2.2.2.2.2.2 4
 obtain ⟨e5, e6⟩ := min_take d.2.2.2.2.2.1 6
 have e1 : ltake (toN (imin (len d.2.2.2.2.2.2.1) (5 : Int))) d.2.2.2.2.2.2.1 = _ := e1
 have e3 : ltake (toN (imin (len d.2.2.2.2.2.2.2) (4 : Int))) d.2.2.2.2.2.2.2 = _ := e3
 have e5 : ltake (toN (imin (len d.2.2.2.2.2.1) (6 : Int))) d.2.2.2.2.2.1 = _ := e5
 rw [grd_t (show in2 (imin (len d.2.2.2.2.2.2.1) (5 : Int)) (len d.2.2.2.2.2.2.1) = true from e2), grd_t (show in2 (imin (len d.2.2.2.2.2.2.2) (4 : Int)) (len d.2.2.2.2.2.2.2) = true from e4), grd_t (show in2 (imin (len d.2.2.2.2.2.1) (6 : Int)) (len d.2.2.2.2.2.1) = true from e6), e1, e3, e5]
theorem few_small {d : Doc} (hb : wtD d ≤ 1048576) : smallD (fewD d) := by
 unfold wtD at hb
 refine ⟨by show d.1.length ≤ _; omega, by show (d.2.2.2.2.2.1.take 6).length ≤ _; rw [List.length_take]; omega, fun x hx => ?_, fun c hc => ?_⟩
 ·have hx : x ∈ d.2.2.2.2.2.2.1 := List.mem_of_mem_take (show x ∈ d.2.2.2.2.2.2.1.take 5 from hx)
  have h1 : 1 + (1 + 1 + (x.2.2.1.length + 1 + (1 + (x.2.2.2.2.1.length + 1 + (bkL wtR x.2.2.2.2.2 + 1))))) ≤ bkL wtX d.2.2.2.2.2.2.1 := bk_mem (f := wtX) hx
  intro r hr
  have h2 : bkL wtU r + 1 ≤ bkL wtR x.2.2.2.2.2 := bk_mem (f := wtR) hr
  have h3 := cost_wt r
  have h4 := tot_cost r
  exact ⟨short_wt (l := x.2.2.2.2.2) (B := 1048576) (by omega) (by omega) r hr, by omega⟩
 ·have hc : c ∈ d.2.2.2.2.2.2.2 := List.mem_of_mem_take (show c ∈ d.2.2.2.2.2.2.2.take 4 from hc)
  have h1 : 1 + (1 + (1 + (1 + (c.2.2.2.2.1.length + 1 + (c.2.2.2.2.2.1.length + 1 + (1 + 1)))))) ≤ bkL wtC d.2.2.2.2.2.2.2 := bk_mem (f := wtC) hc
  omega
end
end Go.Mo
end

section
/-
  Plain facts: texts that are joined; the normal form of a row that is good.
-/
namespace Go.Mo
open Go Go.W Go.Lib
set_option maxRecDepth 100000
noncomputable section
def decP (t : List UInt8) (r : Int) : Bool := ieq ((decodeL (enc r ++ t)).1 : Int) r && decide ((decodeL (enc r ++ t)).2 = (enc r).length)
theorem dec_tab (t : List UInt8) : ((loRunes ++ hiRunes).all (decP t)) = true := by kernel_rfl
theorem dec_enc {r : Int} (hr : inRep r = true) (t : List UInt8) : ((decodeL (enc r ++ t)).1 : Int) = r ∧ (decodeL (enc r ++ t)).2 = (enc r).length := by
 have h : decP t r = true := all_rep (dec_tab t) hr
 unfold decP at h
 rw [Bool.and_eq_true, ieq_tt, decide_eq_true_eq] at h
 exact h
theorem enc_ne2 {r : Int} (hr : inRep r = true) : enc r ≠ [] := by
 have h := all_rep (P := fun r => !(enc r).isEmpty) (by kernel_rfl) hr
 intro e
 simp [e] at h
theorem rns_ofR : ∀ (l : List Int) (t : List UInt8), l.all inRep = true → rns (ofR l ++ t) = l ++ rns t
 | [], t, _ => rfl
 | r :: l, t, h => by
  rw [List.all_cons, Bool.and_eq_true] at h
  have e : ofR (r :: l) ++ t = enc r ++ (ofR l ++ t) := by unfold ofR; rw [List.flatMap_cons, List.append_assoc]
  obtain ⟨d1, d2⟩ := dec_enc h.1 (ofR l ++ t)
  rw [e, rns_step _ (by simp [enc_ne2 h.1]), d1, d2, List.drop_left, rns_ofR l t h.2]
  rfl
theorem vld_ofR : ∀ (l : List Int) (t : List UInt8), l.all inRep = true → vld (ofR l ++ t) = vld t
 | [], t, _ => rfl
 | r :: l, t, h => by
  rw [List.all_cons, Bool.and_eq_true] at h
  have e : ofR (r :: l) ++ t = enc r ++ (ofR l ++ t) := by unfold ofR; rw [List.flatMap_cons, List.append_assoc]
  obtain ⟨d1, d2⟩ := dec_enc h.1 (ofR l ++ t)
  rw [e, vld_step _ (by simp [enc_ne2 h.1]), d1, d2, List.drop_left, if_pos h.1, vld_ofR l t h.2]
theorem rns_cat {a : List UInt8} (h : vld a = true) (b : List UInt8) : rns (a ++ b) = rns a ++ rns b := by
 conv => lhs; rw [← ofR_rns h]
 exact rns_ofR _ _ (rns_ok h)
theorem vld_cat {a : List UInt8} (h : vld a = true) (b : List UInt8) : vld (a ++ b) = vld b := by
 conv => lhs; rw [← ofR_rns h]
 exact vld_ofR _ _ (rns_ok h)
theorem plainT_app (a b : Row) : plainT (a ++ b) = plainT a ++ plainT b := by unfold plainT; rw [List.flatMap_append]
theorem plainT_one (x : Run) : plainT [x] = x.1 := by unfold plainT; simp
theorem snoc_plain (out : Row) (x : Run) : plainT (snoc out x) = plainT out ++ x.1 := by
 unfold snoc
 split
 ·rename_i h; rw [h, List.append_nil]
 ·split
  ·rename_i p hp
   split
   ·rw [plainT_app, plainT_one]
    conv => rhs; rw [last_eq hp, plainT_app, plainT_one]
    simp
   ·rw [plainT_app, plainT_one]
  ·rw [plainT_app, plainT_one]
theorem fold_plain : ∀ (l out : Row), plainT (l.foldl snoc out) = plainT out ++ plainT l
 | [], out => by simp [plainT]
 | x :: l, out => by
  rw [List.foldl_cons, fold_plain l, snoc_plain]
  have : plainT (x :: l) = x.1 ++ plainT l := by unfold plainT; rw [List.flatMap_cons]
  rw [this, List.append_assoc]
theorem bare_plain (l : Row) : plainT (l.map bare) = plainT l := by unfold plainT; rw [List.flatMap_map]; rfl
theorem back_plain (l : Row) : plainT (back l) = plainT l := by
 unfold back normR
 rw [fold_plain, bare_plain]
 rfl
theorem lenT_plain : ∀ (l : Row), (∀ x ∈ l, vld x.1 = true) → lenT l = (rns (plainT l)).length
 | [], _ => rfl
 | x :: l, h => by
  have : plainT (x :: l) = x.1 ++ plainT l := by unfold plainT; rw [List.flatMap_cons]
  rw [this, rns_cat (h x List.mem_cons_self), List.length_append, ← lenT_plain l fun y hy => h y (List.mem_cons_of_mem _ hy)]
  rfl
def lst (p : Option Run) (out : Row) : Option Run := match out.getLast? with
 | some q => some q
 | none => p
theorem lst_cons (p : Option Run) (y : Run) (out : Row) : lst p (y :: out) = lst (some y) out := by
 unfold lst
 rw [List.getLast?_cons]
 cases out.getLast? <;> rfl
theorem chk_snoc : ∀ (out : Row) (p : Option Run) (x : Run), chkL p (out ++ [x]) = 0 ↔ chkL p out = 0 ∧ runChk (lst p out) x = 0
 | [], p, x => by
  simp only [List.nil_append, chkL, lst, List.getLast?_nil]
  by_cases h : runChk p x ≠ 0
  ·rw [if_pos h]; simp
  ·rw [if_neg h]; simpa using h
 | y :: out, p, x => by
  simp only [List.cons_append, chkL]
  by_cases h : runChk p y ≠ 0
  ·rw [if_pos h, if_pos h]; exact ⟨fun k => absurd k h, fun k => absurd k.1 h⟩
  ·rw [if_neg h, if_neg h, chk_snoc out (some y) x, lst_cons]
theorem runChk_zero {p : Option Run} {x : Run} : runChk p x = 0 ↔ vld x.1 = true ∧ x.1 ≠ [] ∧ n8 x.2.1.1 ≤ 6 ∧ vld x.2.2 = true ∧ ∀ q, p = some q → ¬ alikeP q x := by
 unfold runChk
 by_cases h1 : vld x.1 = false
 ·rw [if_pos h1]; simp [h1]
 rw [if_neg h1]
 by_cases h2 : x.1 = []
 ·rw [if_pos h2]; simp [h2]
 rw [if_neg h2]
 by_cases h3 : n8 x.2.1.1 ≤ 6
 ·rw [if_neg (not_not_intro h3)]
  by_cases h4 : vld x.2.2 = false
  ·rw [if_pos h4]; simp [h4]
  rw [if_neg h4]
  have h1 : vld x.1 = true := by simpa using h1
  have h4 : vld x.2.2 = true := by simpa using h4
  cases p with
  | none => exact ⟨fun _ => ⟨h1, h2, h3, h4, fun q hq => by cases hq⟩, fun _ => rfl⟩
  | some q =>
   simp only
   by_cases h5 : alikeP q x
   ·rw [if_pos h5]; exact ⟨fun k => (by cases k), fun k => absurd h5 (k.2.2.2.2 q rfl)⟩
   ·rw [if_neg h5]; exact ⟨fun _ => ⟨h1, h2, h3, h4, fun r hr => by injection hr with hr; rw [← hr]; exact h5⟩, fun _ => rfl⟩
 ·rw [if_pos h3]; exact ⟨fun k => (by cases k), fun k => absurd k.2.2.1 h3⟩
def goodS (out : Row) : Prop := chkL none out = 0 ∧ ∀ x ∈ out, x.2.2 = []
theorem snoc_good {out : Row} {x : Run} (h : goodS out) (h1 : vld x.1 = true) (h2 : n8 x.2.1.1 ≤ 6) (h3 : x.2.2 = []) : goodS (snoc out x) := by
 have hv : vld x.2.2 = true := by rw [h3]; rfl
 unfold snoc
 split
 ·exact h
 ·rename_i he
  split
  ·rename_i p hp
   have e := last_eq hp
   have hin : p ∈ out := by rw [e]; simp
   split
   ·rename_i ha
    have hc := h.1
    rw [e, chk_snoc, runChk_zero] at hc
    obtain ⟨c1, c2, c3, c4, c5, c6⟩ := hc
    refine ⟨(chk_snoc _ _ _).2 ⟨c1, runChk_zero.2 ⟨?_, by simp [he], c4, c5, fun q hq k => c6 q hq ⟨k.1, k.2.1, k.2.2⟩⟩⟩, fun y hy => ?_⟩
    ·rw [vld_cat c2]; exact h1
    ·rcases List.mem_append.1 hy with hy | hy
     ·exact h.2 y (List.dropLast_subset _ hy)
     ·rw [List.mem_singleton.1 hy]; exact h.2 p hin
   ·rename_i ha
    refine ⟨(chk_snoc _ _ _).2 ⟨h.1, runChk_zero.2 ⟨h1, he, h2, hv, fun q hq => ?_⟩⟩, fun y hy => ?_⟩
    ·unfold lst at hq
     rw [hp] at hq
     injection hq with hq
     rw [← hq]; exact ha
    ·rcases List.mem_append.1 hy with hy | hy
     ·exact h.2 y hy
     ·rw [List.mem_singleton.1 hy]; exact h3
  ·rename_i hp
   have : out = [] := List.getLast?_eq_none_iff.1 hp
   subst this
   refine ⟨(chk_snoc _ _ _).2 ⟨rfl, runChk_zero.2 ⟨h1, he, h2, hv, fun q hq => by cases hq⟩⟩, fun y hy => ?_⟩
   rw [List.nil_append] at hy
   rw [List.mem_singleton.1 hy]; exact h3
theorem fold_good : ∀ (l out : Row), goodS out → (∀ x ∈ l, vld x.1 = true ∧ n8 x.2.1.1 ≤ 6) → goodS ((l.map bare).foldl snoc out)
 | [], out, h, _ => h
 | x :: l, out, h, hl => by
  rw [List.map_cons, List.foldl_cons]
  have hx := hl x List.mem_cons_self
  exact fold_good l _ (snoc_good h hx.1 hx.2 rfl) fun y hy => hl y (List.mem_cons_of_mem _ hy)
theorem back_good {l : Row} (h : rowChk l = 0) : goodS (back l) := by
 obtain ⟨_, h2⟩ := rowChk_ok h
 exact fold_good l [] ⟨rfl, fun x hx => by cases hx⟩ fun x hx => ⟨(h2 x hx).1, (h2 x hx).2.2.1⟩
theorem back_len (l : Row) : (back l).length ≤ l.length := by
 have := normR_len (l.map bare)
 rw [List.length_map] at this
 exact this
theorem back_chk {l : Row} (h : rowChk l = 0) : rowChk (back l) = 0 := by
 have h1 := (rowChk_ok h).1
 have h2 := back_len l
 unfold rowChk
 rw [if_neg (by omega)]
 exact (back_good h).1
theorem back_lenT {l : Row} (h : rowChk l = 0) : lenT (back l) = lenT l := by
 rw [lenT_plain _ fun x hx => ((rowChk_ok (back_chk h)).2 x hx).1, lenT_plain _ fun x hx => ((rowChk_ok h).2 x hx).1, back_plain]
theorem rowE_zero {l : Row} (h : rowE l = 0) : rowChk l = 0 ∧ neatT (plainT l) = true ∧ lenT l ≤ 32 := by
 unfold rowE at h
 split at h
 ·rename_i hc; exact absurd h hc
 split at h
 ·cases h
 split at h
 ·cases h
 rename_i c1 c2 c3
 exact ⟨by simpa using c1, by simpa using c2, by omega⟩
theorem back_rowE {l : Row} (h : rowE l = 0) : rowE (back l) = 0 := by
 obtain ⟨h1, h2, h3⟩ := rowE_zero h
 unfold rowE
 rw [if_neg (by rw [back_chk h1]; simp), back_plain, h2, if_neg (by simp), back_lenT h1, if_neg (by omega)]
theorem rowsE_of : ∀ (l : List Row) (k : Int), (∀ r ∈ l, rowE r = 0) → rowsE l k = k
 | [], _, _ => rfl
 | r :: l, k, h => by
  simp only [rowsE]
  rw [if_neg (by rw [h r List.mem_cons_self]; simp)]
  exact rowsE_of l k fun q hq => h q (List.mem_cons_of_mem _ hq)
theorem lens_back {l : List Row} (h : ∀ r ∈ l, rowE r = 0) : lens (l.map back) = lens l := by
 unfold lens
 rw [List.map_map]
 exact List.map_congr_left fun r hr => by
  show (lenT (back r) : Int) = _
  rw [back_lenT (rowE_zero (h r hr)).1]
end
end Go.Mo
end

section
/-
  Plain facts: the regions of a reduced document; its events stand where they stood.
-/
namespace Go.Mo
open Go Go.W Go.Lib
set_option maxRecDepth 100000
noncomputable section
def okP (p : Int × UInt8) : Prop := 0 ≤ p.1 ∧ p.1 ≤ 14 ∧ 1 ≤ n8 p.2 ∧ n8 p.2 ≤ 3
theorem okP_mem {p : Int × UInt8} (h : okP p) : ∃ n ∈ List.range 15, ∃ a ∈ ([1, 2, 3] : List UInt8), p = ((n : Int), a) := okP_mem0 h
theorem reg_tab : ((List.range 15).all fun n => ([1, 2, 3] : List UInt8).all fun a => ieq (regChk (regOf ((n : Int), a))) 0) = true := by kernel_rfl
theorem regOf_chk {p : Int × UInt8} (h : okP p) : regChk (regOf p) = 0 := by
 obtain ⟨n, hn, a, ha, rfl⟩ := okP_mem h
 exact ieq_tt.mp (List.all_eq_true.1 (List.all_eq_true.1 reg_tab n hn) a ha)
theorem inj_tab : ((List.range 15).all fun n => ([1, 2, 3] : List UInt8).all fun a => (List.range 15).all fun m => ([1, 2, 3] : List UInt8).all fun b => !(seq (regOf ((n : Int), a)).1 (regOf ((m : Int), b)).1) || (Nat.beq n m && ieq (n8 a) (n8 b))) = true := by kernel_rfl
theorem regOf_inj {p q : Int × UInt8} (hp : okP p) (hq : okP q) (h : (regOf p).1 = (regOf q).1) : p = q := by
 obtain ⟨n, hn, a, ha, rfl⟩ := okP_mem hp
 obtain ⟨m, hm, b, hb, rfl⟩ := okP_mem hq
 have k := List.all_eq_true.1 (List.all_eq_true.1 (List.all_eq_true.1 (List.all_eq_true.1 inj_tab n hn) a ha) m hm) b hb
 rw [Bool.or_eq_true] at k
 rcases k with k | k
 ·have : seq (regOf ((n : Int), a)).1 (regOf ((m : Int), b)).1 = true := by rw [seq_t]; exact h
  rw [this] at k
  cases k
 ·rw [Bool.and_eq_true, ieq_tt] at k
  rw [Nat.eq_of_beq_eq_true k.1, n8_inj k.2]
def allR (L : List Reg) : Prop := ∀ r ∈ L, ∃ p, okP p ∧ r = regOf p
theorem addS_all {L : List Reg} {p : Int × UInt8} (hL : allR L) (hp : okP p) : allR (addS L (regOf p)) := fun r hr => by
 rcases mem_addS _ _ _ hr with hr | rfl
 ·exact hL r hr
 ·exact ⟨p, hp, rfl⟩
theorem addS_keep : ∀ (L : List Reg) (r x : Reg), x ∈ L → x ∈ addS L r
 | y :: L, r, x, h => by
  simp only [addS]
  split
  ·rcases List.mem_cons.1 h with rfl | h
   ·exact List.mem_cons_self
   ·exact List.mem_cons_of_mem _ (addS_keep L r x h)
  ·split
   ·exact h
   ·exact List.mem_cons_of_mem _ h
theorem addS_has : ∀ (L : List Reg) (p : Int × UInt8), allR L → okP p → regOf p ∈ addS L (regOf p)
 | [], p, _, _ => List.mem_singleton.2 rfl
 | y :: L, p, h, hp => by
  simp only [addS]
  split
  ·exact List.mem_cons_of_mem _ (addS_has L p (fun r hr => h r (List.mem_cons_of_mem _ hr)) hp)
  ·split
   ·rename_i he
    obtain ⟨q, hq, rfl⟩ := h y List.mem_cons_self
    rw [regOf_inj hq hp he]
    exact List.mem_cons_self
   ·exact List.mem_cons_self
theorem find_regOf {L : List Reg} {p : Int × UInt8} (hL : allR L) (hp : okP p) (hm : regOf p ∈ L) : findR L (regOf p).1 = some (regOf p) := by
 unfold findR
 rw [if_neg (by unfold regOf; simp)]
 cases hf : L.find? fun r => decide (r.1 = (regOf p).1) with
 | none =>
  have := List.find?_eq_none.1 hf _ hm
  simp at this
 | some r =>
  have h1 := List.find?_some hf
  obtain ⟨q, hq, rfl⟩ := hL r (List.mem_of_find?_eq_some hf)
  rw [regOf_inj hq hp (by simpa using h1)]
def regsR (rs : List Reg) : List Ev → List Reg → List Reg
 | [], a => a
 | x :: l, a => regsR rs l (addS a (regOf (placeE x rs)))
def evsR (rs : List Reg) : Nat → List Ev → List Ev
 | _, [] => []
 | i, x :: l => evR rs i x :: evsR rs (i + 1) l
theorem red_eq {rs : List Reg} {K : List Reg × List Ev → Option Doc} : ∀ (l : List Ev) (i : Nat) (a : List Reg × List Ev), itI (redRnd rs) K i l a = K (regsR rs l a.1, a.2 ++ evsR rs i l)
 | [], i, a => by simp [itI, regsR, evsR]
 | x :: l, i, a => by
  simp only [itI, redRnd]
  rw [red_eq l (i + 1)]
  simp only [regsR, evsR, List.append_assoc, List.singleton_append]
theorem evsR_len (rs : List Reg) : ∀ (l : List Ev) (i : Nat), (evsR rs i l).length = l.length
 | [], _ => rfl
 | x :: l, i => by simp only [evsR, List.length_cons, evsR_len rs l (i + 1)]
theorem evsR_get (rs : List Reg) : ∀ (l : List Ev) (i j : Nat), (evsR rs i l)[j]? = (l[j]?).map (evR rs (i + j))
 | [], _, _ => by simp [evsR]
 | x :: l, i, 0 => by simp [evsR]
 | x :: l, i, j + 1 => by
  simp only [evsR, List.getElem?_cons_succ]
  rw [evsR_get rs l (i + 1) j]
  have : i + 1 + j = i + (j + 1) := by omega
  rw [this]
theorem evsR_at (rs : List Reg) (l : List Ev) (j : Nat) (h : j < l.length) (h' : j < (evsR rs 0 l).length) : (evsR rs 0 l)[j] = evR rs j l[j] := by
 have := evsR_get rs l 0 j
 rw [List.getElem?_eq_getElem h', List.getElem?_eq_getElem h, Nat.zero_add] at this
 injection this
def goodE (rs : List Reg) (l : List Ev) : Prop := ∀ x ∈ l, evChk x rs = 0
theorem regsR_all {rs : List Reg} : ∀ (l : List Ev) (a : List Reg), goodE rs l → allR a → allR (regsR rs l a)
 | [], a, _, h => h
 | x :: l, a, hg, h => regsR_all l _ (fun y hy => hg y (List.mem_cons_of_mem _ hy)) (addS_all h (place_bd (hg x List.mem_cons_self)))
theorem regsR_keep {rs : List Reg} : ∀ (l : List Ev) (a : List Reg) (r : Reg), r ∈ a → r ∈ regsR rs l a
 | [], _, _, h => h
 | x :: l, a, r, h => regsR_keep l _ r (addS_keep _ _ _ h)
theorem regsR_has {rs : List Reg} : ∀ (l : List Ev) (a : List Reg), goodE rs l → allR a → ∀ x ∈ l, regOf (placeE x rs) ∈ regsR rs l a
 | y :: l, a, hg, h, x, hx => by
  have hy := place_bd (hg y List.mem_cons_self)
  rcases List.mem_cons.1 hx with rfl | hx
  ·exact regsR_keep l _ _ (addS_has a _ h hy)
  ·exact regsR_has l _ (fun z hz => hg z (List.mem_cons_of_mem _ hz)) (addS_all h hy) x hx
theorem regsR_find {rs : List Reg} {l : List Ev} (hg : goodE rs l) {x : Ev} (hx : x ∈ l) : findR (regsR rs l []) (regOf (placeE x rs)).1 = some (regOf (placeE x rs)) :=
 find_regOf (regsR_all l [] hg fun r hr => by cases hr) (place_bd (hg x hx)) (regsR_has l [] hg (fun r hr => by cases hr) x hx)
theorem place_fit {x : Ev} {rs : List Reg} (h : evChk x rs = 0) : (placeE x rs).1 + (x.2.2.2.2.2.length : Int) ≤ 15 := by
 obtain ⟨_, _, _, h4, h5, _, r, hf, hp⟩ := ev_ok h
 have hne : lens x.2.2.2.2.2 ≠ [] := by
  unfold lens; intro e; have := congrArg List.length e; rw [List.length_map] at this; simp only [List.length_nil] at this; omega
 obtain ⟨hu, hk, _⟩ := placeS_ok hp hne
 have hb := usable_bd hu
 have hll : (lens x.2.2.2.2.2).length = x.2.2.2.2.2.length := by unfold lens; rw [List.length_map]
 rw [hll] at hk
 unfold placeE
 rw [hf]
 unfold topOf
 simp only
 split <;> omega
end
end Go.Mo
end
