/-
  Texts put together, in build order: WXf WXg WXh WXi WK PA PB PC PD PE PF PG PHa PHb PHc PHd PMa PPa PFs QA QB QC QD QE QF QG RA RB RC RD RE RF RG RH RI RJ RK RL RM RN RO RP RQ RR RS PFt PI PJ.
-/
import Derived.Test.YtlljakdlfbgdhaaGreatDoorUdA
import Derived.KernelRfl
import Derived.Lib.ValidLaws
import Derived.Lib.TrimUEq
import Derived.Lib.MapLaws
import Derived.Test.YtlljakdlfbgdhaaGreatDoorYC
import Derived.Lib.IndexMore
set_option linter.all false

section
/-
  The functions do what their models say. Printed by a program.
-/
namespace Go.Mo
open Go Go.W Go.Proofs
noncomputable section
set_option maxRecDepth 100000
def a_q160 : Ann := .lf
theorem x_q160 (N : Nat) : execF E [⟨129, ps_r03_kind, rs_r03_kind, r03_kind N⟩, ⟨91, ps_q158, rs_q158, q158 N⟩, ⟨92, ps_q159, rs_q159, q159 N⟩] N Tryz.f208 a_q160 ps_q160 rs_q160 = q160 N := by kernel_rfl
def a_q161 : Ann := (.sq .lf (.sq (.jn ⟨[1], [2], [.s 5], [.v (.bool) []]⟩ .lf (.sq .lf (.jn ⟨[1], [2], [.s 14], [.v (.bool) []]⟩ .lf .lf))) .lf))
theorem x_q161 (N : Nat) : execF E [⟨151, ps_r07_Name, rs_r07_Name, r07_Name N⟩, ⟨112, ps_q154, rs_q154, q154 N⟩, ⟨186, ps_q155, rs_q155, q155 N⟩, ⟨208, ps_q160, rs_q160, q160 N⟩] N Tryz.f188 a_q161 ps_q161 rs_q161 = q161 N := by kernel_rfl
def a_q162 : Ann := (.sq .lf (.sq .lf (.jn ⟨[], [], [.s 3], [.v (.slice (.int .i32)) [0]]⟩ (.sq .lf (.lp ⟨[7], [], [.s 3, .o 5], [.v (.slice (.int .i32)) [0], .i]⟩ .lf)) .lf)))
theorem x_q162 (N : Nat) : execF E [] N Tryz.f222 a_q162 ps_q162 rs_q162 = q162 N := by kernel_rfl
def a_q163 : Ann := .lf
theorem x_q163 (N : Nat) : execF E [⟨112, ps_q154, rs_q154, q154 N⟩, ⟨222, ps_q162, rs_q162, q162 N⟩] N Tryz.f174 a_q163 ps_q163 rs_q163 = q163 N := by kernel_rfl
def a_q164 : Ann := .lf
theorem x_q164 (N : Nat) : execF E [⟨173, ps_q151, rs_q151, q151 N⟩] N Tryz.f223 a_q164 ps_q164 rs_q164 = q164 N := by kernel_rfl
def a_r22_Put : Ann := (.sq .lf (.sq .lf (.jn ⟨[0], [], [], []⟩ (.sq .lf (.lp ⟨[0], [], [.s 3], [.v (.int .i64) []]⟩ .lf)) (.jn ⟨[], [], [], []⟩ (.sq .lf (.lp ⟨[0], [], [.s 4], [.v (.int .i64) []]⟩ (.sq .lf (.jn ⟨[0, 4], [], [], []⟩ (.sq .lf (.lp ⟨[0, 4], [], [.s 5], [.v (.int .i32) []]⟩ .lf)) .lf)))) .lf))))
theorem x_r22_Put (N : Nat) : execF E [⟨223, ps_q164, rs_q164, q164 N⟩, ⟨176, ps_q148, rs_q148, q148 N⟩, ⟨177, ps_q149, rs_q149, q149 N⟩] N Tryz.f175 a_r22_Put ps_r22_Put rs_r22_Put = r22_Put N := by kernel_rfl
def a_q165 : Ann := (.sq .lf (.sq .lf (.sq .lf (.jn ⟨[], [], [.s 4], [.v Y8 [0]]⟩ (.sq .lf (.lp ⟨[12, 13], [11], [.s 4, .s 14], [.v Y8 [0], .v (.int .i64) []]⟩ .lf)) .lf))))
theorem x_q165 (N : Nat) : execF E [⟨112, ps_q154, rs_q154, q154 N⟩, ⟨174, ps_q163, rs_q163, q163 N⟩, ⟨175, ps_r22_Put, rs_r22_Put, r22_Put N⟩] N Tryz.f116 a_q165 ps_q165 rs_q165 = q165 N := by kernel_rfl
def a_r23_fill : Ann := (.sq .lf (.sq .lf (.jn ⟨[], [], [.s 7], [.v Y8 [0]]⟩ (.lp ⟨[1, 2], [], [.s 7], [.v Y8 [0]]⟩ .lf) .lf)))
theorem x_r23_fill (N : Nat) : execF E [] N Tryz.f189 a_r23_fill ps_r23_fill rs_r23_fill = r23_fill N := by kernel_rfl
def a_q166 : Ann := .lf
theorem x_q166 (N D : Nat) : execF E [⟨190, ps_q166, rs_q166, q166_r N D⟩] N Tryz.f190 a_q166 ps_q166 rs_q166 = q166_r N (D + 1) := by kernel_rfl
def a_q167 : Ann := .lf
theorem x_q167 (N : Nat) : execF E [⟨190, ps_q166, rs_q166, q166 N⟩] N Tryz.f191 a_q167 ps_q167 rs_q167 = q167 N := by kernel_rfl
def a_q168 : Ann := (.sq .lf (.sq .lf (.sq .lf (.jn ⟨[1], [2], [.s 5], [.v (.str) []]⟩ .lf .lf))))
theorem x_q168 (N : Nat) : execF E [⟨188, ps_q161, rs_q161, q161 N⟩, ⟨116, ps_q165, rs_q165, q165 N⟩, ⟨189, ps_r23_fill, rs_r23_fill, r23_fill N⟩, ⟨190, ps_q166, rs_q166, q166 N⟩, ⟨191, ps_q167, rs_q167, q167 N⟩] N Tryz.f132 a_q168 ps_q168 rs_q168 = q168 N := by kernel_rfl
def a_q169 : Ann := .lf
theorem x_q169 (N : Nat) : execF E [] N Tryz.f205 a_q169 ps_q169 rs_q169 = q169 N := by kernel_rfl
def a_q170 : Ann := (.sq .lf (.sq .lf (.sq .lf (.jn ⟨[0, 2, 4], [2], [.o 27], [.b 108 Y5 []]⟩ .lf (.sq .lf (.jn ⟨[0, 2, 4], [27, 2], [.s 5], [.v (.int .i64) []]⟩ (.lp ⟨[0, 2, 4], [27, 2], [.s 5], [.v (.int .i64) []]⟩ .lf) (.sq .lf (.jn ⟨[0, 2, 4], [2], [.o 27], [.b 108 Y5 []]⟩ .lf .lf))))))))
theorem x_q170 (N : Nat) : execF E [⟨203, ps_q146, rs_q146, q146 N⟩, ⟨204, ps_q147, rs_q147, q147 N⟩, ⟨122, ps_q152, rs_q152, q152 N⟩, ⟨132, ps_q168, rs_q168, q168 N⟩, ⟨205, ps_q169, rs_q169, q169 N⟩] N Tryz.f141 a_q170 ps_q170 rs_q170 = q170 N := by kernel_rfl
def a_q171 : Ann := .lf
theorem x_q171 (N : Nat) : execF E [] N Tryz.f206 a_q171 ps_q171 rs_q171 = q171 N := by kernel_rfl
end
end Go.Mo
end

section
/-
  The functions do what their models say. Printed by a program.
-/
namespace Go.Mo
open Go Go.W Go.Proofs
noncomputable section
set_option maxRecDepth 100000
def a_q172 : Ann := .lf
theorem x_q172 (N : Nat) : execF E [⟨186, ps_q155, rs_q155, q155 N⟩] N Tryz.f187 a_q172 ps_q172 rs_q172 = q172 N := by kernel_rfl
def a_q173 : Ann := (.sq .lf (.jn ⟨[], [], [], []⟩ (.sq .lf (.lp ⟨[5, 6], [], [.s 7], [.v (.int .i64) []]⟩ .lf)) .lf))
theorem x_q173 (N : Nat) : execF E [] N Tryz.f131 a_q173 ps_q173 rs_q173 = q173 N := by kernel_rfl
def a_q174 : Ann := (.sq .lf (.sq (.sq .lf (.sq .lf (.jn ⟨[1], [2], [.s 14], [.v (.bool) []]⟩ .lf .lf))) .lf))
theorem x_q174 (N : Nat) : execF E [⟨186, ps_q155, rs_q155, q155 N⟩, ⟨187, ps_q172, rs_q172, q172 N⟩, ⟨131, ps_q173, rs_q173, q173 N⟩] N Tryz.f130 a_q174 ps_q174 rs_q174 = q174 N := by kernel_rfl
def a_r23_Put : Ann := (.sq .lf (.sq .lf (.sq .lf (.sq .lf (.sq .lf (.jn ⟨[1, 5], [26, 2], [.s 6], [.v (.u8) []]⟩ .lf .lf))))))
theorem x_r23_Put (N : Nat) : execF E [⟨130, ps_q174, rs_q174, q174 N⟩, ⟨189, ps_r23_fill, rs_r23_fill, r23_fill N⟩] N Tryz.f133 a_r23_Put ps_r23_Put rs_r23_Put = r23_Put N := by kernel_rfl
def a_r23_Get : Ann := (.sq .lf (.sq .lf (.sq .lf (.jn ⟨[0, 2, 4], [2], [.o 11], [.b 111 Y2 [17]]⟩ (.sq .lf (.lp ⟨[0, 2, 4, 16, 17], [2], [.s 18, .o 11], [.v (.int .i64) [], .b 111 Y2 [17]]⟩ .lf)) .lf))))
theorem x_r23_Get (N : Nat) : execF E [⟨206, ps_q171, rs_q171, q171 N⟩, ⟨133, ps_r23_Put, rs_r23_Put, r23_Put N⟩, ⟨205, ps_q169, rs_q169, q169 N⟩] N Tryz.f142 a_r23_Get ps_r23_Get rs_r23_Get = r23_Get N := by kernel_rfl
def a_r23_Read : Ann := (.sq .lf (.sq .lf (.sq .lf (.sq .lf (.sq .lf (.sq .lf (.sq .lf (.sq .lf (.jn ⟨[2, 6], [16, 2], [.s 8], [.v (.slice Y2) [0]]⟩ (.lp ⟨[2, 6], [16, 2], [.s 0, .s 8], [.v Y8 [], .v (.slice Y2) [0]]⟩ .lf) .lf)))))))))
theorem x_r23_Read (N : Nat) : execF E [⟨141, ps_q170, rs_q170, q170 N⟩, ⟨142, ps_r23_Get, rs_r23_Get, r23_Get N⟩] N Tryz.f74 a_r23_Read ps_r23_Read rs_r23_Read = r23_Read N := by kernel_rfl
def a_q175 : Ann := .lf
theorem x_q175 (N : Nat) : execF E [] N Tryz.f207 a_q175 ps_q175 rs_q175 = q175 N := by kernel_rfl
def a_r23_Join : Ann := (.sq .lf (.sq .lf (.jn ⟨[0, 2], [2], [], []⟩ (.sq .lf (.lp ⟨[0, 2, 19, 20], [2], [.s 21], [.v (.int .i64) []]⟩ .lf)) (.sq .lf (.jn ⟨[0, 2, 8], [2], [], []⟩ (.sq .lf (.lp ⟨[0, 2, 8, 35, 36], [2], [.s 37], [.v (.int .i64) []]⟩ (.sq .lf (.sq .lf (.sq (.sq .lf (.jn ⟨[0, 2, 8, 35, 36, 37], [2], [.s 69], [.v (.bool) []]⟩ .lf .lf)) .lf))))) (.sq .lf (.jn ⟨[0, 2], [2], [.s 11], [.v Y8 [0]]⟩ (.sq .lf (.lp ⟨[0, 2, 8, 73, 74], [2], [.s 11, .s 75], [.v Y8 [0], .v (.int .i64) []]⟩ (.sq .lf (.sq .lf (.sq (.sq .lf (.jn ⟨[0, 2, 8, 11, 13, 73, 74, 75], [27, 21, 2], [], []⟩ .lf .lf)) .lf))))) .lf)))))))
theorem x_r23_Join (N : Nat) : execF E [⟨130, ps_q174, rs_q174, q174 N⟩, ⟨207, ps_q175, rs_q175, q175 N⟩] N Tryz.f143 a_r23_Join ps_r23_Join rs_r23_Join = r23_Join N := by kernel_rfl
def a_q176 : Ann := .lf
theorem x_q176 (N : Nat) : execF E [⟨208, ps_q160, rs_q160, q160 N⟩, ⟨91, ps_q158, rs_q158, q158 N⟩, ⟨92, ps_q159, rs_q159, q159 N⟩] N Tryz.f144 a_q176 ps_q176 rs_q176 = q176 N := by kernel_rfl
def a_q177 : Ann := .lf
theorem x_q177 (N : Nat) : execF E [] N Tryz.f114 a_q177 ps_q177 rs_q177 = q177 N := by kernel_rfl
def a_q178 : Ann := (.sq .lf (.sq (.jn ⟨[1, 2, 4], [4, 2], [.s 7], [.v (.bool) []]⟩ .lf .lf) .lf))
theorem x_q178 (N : Nat) : execF E [⟨114, ps_q177, rs_q177, q177 N⟩] N Tryz.f120 a_q178 ps_q178 rs_q178 = q178 N := by kernel_rfl
end
end Go.Mo
end

section
/-
  The functions do what their models say. Printed by a program.
-/
namespace Go.Mo
open Go Go.W Go.Proofs
noncomputable section
set_option maxRecDepth 100000
def a_r09_Norm : Ann := (.sq .lf (.sq .lf (.jn ⟨[2], [4], [.s 3], [.v Y4 [0]]⟩ (.sq .lf (.lp ⟨[2, 8, 9], [4], [.s 3, .s 10], [.v Y4 [0], .v (.int .i64) []]⟩ (.sq .lf (.sq .lf (.sq (.sq .lf (.sq .lf (.sq .lf (.jn ⟨[2, 3, 5, 8, 9, 10], [16, 11, 4], [], []⟩ .lf .lf)))) .lf))))) .lf)))
theorem x_r09_Norm (N : Nat) : execF E [] N Tryz.f96 a_r09_Norm ps_r09_Norm rs_r09_Norm = r09_Norm N := by kernel_rfl
def a_q179 : Ann := (.sq .lf (.sq .lf (.sq .lf (.jn ⟨[2, 4], [2], [.o 6], [.b 48 (.st Y4) [0]]⟩ (.lp ⟨[2, 4, 5], [2], [.s 0, .o 10, .o 6], [.v Y8 [], .b 51 Y10 [], .b 48 (.st Y4) [0]]⟩ .lf) .lf))))
theorem x_q179 (N : Nat) : execF E [⟨120, ps_q178, rs_q178, q178 N⟩, ⟨121, ps_r22_Get, rs_r22_Get, r22_Get N⟩, ⟨122, ps_q152, rs_q152, q152 N⟩, ⟨96, ps_r09_Norm, rs_r09_Norm, r09_Norm N⟩] N Tryz.f61 a_q179 ps_q179 rs_q179 = q179 N := by kernel_rfl
def a_r24_Rows : Ann := (.sq .lf (.sq .lf (.sq .lf (.jn ⟨[], [], [.s 4], [.v (.slice (.st Y4)) [0]]⟩ (.sq .lf (.lp ⟨[0], [], [.s 4, .s 5, .s 6], [.v (.slice (.st Y4)) [0], .v (.int .i64) [], .v (.int .i64) []]⟩ (.sq .lf (.sq (.jn ⟨[0, 4, 5, 6], [9], [], []⟩ .lf .lf) .lf)))) .lf))))
theorem x_r24_Rows (N : Nat) : execF E [⟨61, ps_q179, rs_q179, q179 N⟩] N Tryz.f23 a_r24_Rows ps_r24_Rows rs_r24_Rows = r24_Rows N := by kernel_rfl
def a_q180 : Ann := .lf
theorem x_q180 (N : Nat) : execF E [] N Tryz.f93 a_q180 ps_q180 rs_q180 = q180 N := by kernel_rfl
def a_q181 : Ann := .lf
theorem x_q181 (N : Nat) : execF E [⟨93, ps_q180, rs_q180, q180 N⟩] N Tryz.f38 a_q181 ps_q181 rs_q181 = q181 N := by kernel_rfl
def a_r24_with : Ann := (.sq .lf (.sq .lf (.sq .lf (.jn ⟨[3], [2], [.s 5, .s 6], [.v (.slice Y6) [0], .v (.bool) []]⟩ (.sq .lf (.lp ⟨[0, 3, 10, 11], [2], [.s 5, .s 6, .s 12], [.v (.slice Y6) [0], .v (.bool) [], .v (.int .i64) []]⟩ .lf)) .lf))))
theorem x_r24_with (N : Nat) : execF E [] N Tryz.f37 a_r24_with ps_r24_with rs_r24_with = r24_with N := by kernel_rfl
def a_q182 : Ann := .lf
theorem x_q182 (N : Nat) : execF E [] N Tryz.f153 a_q182 ps_q182 rs_q182 = q182 N := by kernel_rfl
def a_q183 : Ann := .lf
theorem x_q183 (N : Nat) : execF E [] N Tryz.f159 a_q183 ps_q183 rs_q183 = q183 N := by kernel_rfl
def a_r10_Find : Ann := (.sq .lf (.sq .lf (.jn ⟨[4], [2], [], []⟩ (.sq .lf (.lp ⟨[1, 4, 11, 12], [2], [.s 13], [.v (.int .i64) []]⟩ .lf)) .lf)))
theorem x_r10_Find (N : Nat) : execF E [⟨159, ps_q183, rs_q183, q183 N⟩] N Tryz.f95 a_r10_Find ps_r10_Find rs_r10_Find = r10_Find N := by kernel_rfl
def a_q184 : Ann := .lf
theorem x_q184 (N : Nat) : execF E [] N Tryz.f113 a_q184 ps_q184 rs_q184 = q184 N := by kernel_rfl
def a_q185 : Ann := (.sq .lf (.sq .lf (.jn ⟨[], [], [], []⟩ (.sq .lf (.lp ⟨[1, 10, 11], [2], [.s 12], [.v (.int .i64) []]⟩ .lf)) .lf)))
theorem x_q185 (N : Nat) : execF E [⟨112, ps_q154, rs_q154, q154 N⟩, ⟨113, ps_q184, rs_q184, q184 N⟩] N Tryz.f57 a_q185 ps_q185 rs_q185 = q185 N := by kernel_rfl
def a_q186 : Ann := (.sq .lf (.sq .lf (.jn ⟨[], [], [.s 3], [.v (.str) []]⟩ (.sq .lf (.lp ⟨[7, 8], [], [.s 3, .s 9], [.v (.str) [], .v (.int .i64) []]⟩ .lf)) .lf)))
theorem x_q186 (N : Nat) : execF E [] N Tryz.f155 a_q186 ps_q186 rs_q186 = q186 N := by kernel_rfl
def a_r11_neat : Ann := (.sq .lf (.sq .lf (.jn ⟨[], [], [], []⟩ (.sq .lf (.lp ⟨[0], [], [.s 3], [.v (.int .i64) []]⟩ .lf)) .lf)))
theorem x_r11_neat (N : Nat) : execF E [] N Tryz.f154 a_r11_neat ps_r11_neat rs_r11_neat = r11_neat N := by kernel_rfl
def a_r08_Len : Ann := .lf
theorem x_r08_Len (N : Nat) : execF E [⟨112, ps_q154, rs_q154, q154 N⟩, ⟨222, ps_q162, rs_q162, q162 N⟩] N Tryz.f212 a_r08_Len ps_r08_Len rs_r08_Len = r08_Len N := by kernel_rfl
def a_r09_Len : Ann := (.sq .lf (.sq .lf (.jn ⟨[], [], [.s 3], [.v (.int .i64) []]⟩ (.sq .lf (.lp ⟨[8, 9], [], [.s 3, .s 10], [.v (.int .i64) [], .v (.int .i64) []]⟩ .lf)) .lf)))
theorem x_r09_Len (N : Nat) : execF E [⟨212, ps_r08_Len, rs_r08_Len, r08_Len N⟩] N Tryz.f156 a_r09_Len ps_r09_Len rs_r09_Len = r09_Len N := by kernel_rfl
def a_q187 : Ann := .lf
theorem x_q187 (N : Nat) : execF E [⟨151, ps_r07_Name, rs_r07_Name, r07_Name N⟩] N Tryz.f152 a_q187 ps_q187 rs_q187 = q187 N := by kernel_rfl
def a_q188 : Ann := .lf
theorem x_q188 (N : Nat) : execF E [⟨152, ps_q187, rs_q187, q187 N⟩, ⟨159, ps_q183, rs_q183, q183 N⟩] N Tryz.f213 a_q188 ps_q188 rs_q188 = q188 N := by kernel_rfl
def a_q189 : Ann := (.sq .lf (.sq .lf (.sq .lf (.sq .lf (.jn ⟨[], [], [.s 6], [.v (.slice Y11) [0]]⟩ (.sq .lf (.lp ⟨[1, 2, 18, 19], [2], [.s 6, .s 20], [.v (.slice Y11) [0], .v (.int .i64) []]⟩ (.sq .lf (.sq .lf (.sq (.sq .lf (.sq .lf (.sq .lf (.sq .lf (.jn ⟨[1, 2, 6, 8, 9, 18, 19, 20], [18, 2], [.o 40], [.b 134 Y11 []]⟩ .lf .lf))))) .lf))))) .lf)))))
theorem x_q189 (N : Nat) : execF E [⟨213, ps_q188, rs_q188, q188 N⟩] N Tryz.f157 a_q189 ps_q189 rs_q189 = q189 N := by kernel_rfl
def a_q190 : Ann := (.sq .lf (.sq .lf (.sq .lf (.sq (.sq .lf (.sq .lf (.sq .lf (.sq .lf (.jn ⟨[2, 5], [33, 2], [.s 46], [.v (.bool) []]⟩ .lf .lf))))) (.sq .lf (.jn ⟨[5], [33], [.s 7], [.v (.slice (.int .i64)) [0]]⟩ (.sq .lf (.lp ⟨[5, 68, 69], [33], [.s 7, .s 70], [.v (.slice (.int .i64)) [0], .v (.int .i64) []]⟩ .lf)) .lf))))))
theorem x_q190 (N : Nat) : execF E [⟨153, ps_q182, rs_q182, q182 N⟩, ⟨95, ps_r10_Find, rs_r10_Find, r10_Find N⟩, ⟨151, ps_r07_Name, rs_r07_Name, r07_Name N⟩, ⟨57, ps_q185, rs_q185, q185 N⟩, ⟨155, ps_q186, rs_q186, q186 N⟩, ⟨154, ps_r11_neat, rs_r11_neat, r11_neat N⟩, ⟨156, ps_r09_Len, rs_r09_Len, r09_Len N⟩, ⟨157, ps_q189, rs_q189, q189 N⟩] N Tryz.f85 a_q190 ps_q190 rs_q190 = q190 N := by kernel_rfl
end
end Go.Mo
end

section
/-
  The functions do what their models say. Printed by a program.
-/
namespace Go.Mo
open Go Go.W Go.Proofs
noncomputable section
set_option maxRecDepth 100000
def a_q191 : Ann := .lf
theorem x_q191 (N : Nat) : execF E [⟨143, ps_r23_Join, rs_r23_Join, r23_Join N⟩, ⟨144, ps_q176, rs_q176, q176 N⟩, ⟨23, ps_r24_Rows, rs_r24_Rows, r24_Rows N⟩, ⟨38, ps_q181, rs_q181, q181 N⟩, ⟨37, ps_r24_with, rs_r24_with, r24_with N⟩, ⟨85, ps_q190, rs_q190, q190 N⟩] N Tryz.f75 a_q191 ps_q191 rs_q191 = q191 N := by kernel_rfl
def a_r11_Less : Ann := .lf
theorem x_r11_Less (N : Nat) : execF E [] N Tryz.f86 a_r11_Less ps_r11_Less rs_r11_Less = r11_Less N := by kernel_rfl
def a_q192 : Ann := (.sq .lf (.sq .lf (.jn ⟨[], [], [.s 3], [.v (.slice (.st Y4)) [0]]⟩ (.sq .lf (.lp ⟨[6, 7], [], [.s 3, .s 8], [.v (.slice (.st Y4)) [0], .v (.int .i64) []]⟩ .lf)) .lf)))
theorem x_q192 (N : Nat) : execF E [] N Tryz.f209 a_q192 ps_q192 rs_q192 = q192 N := by kernel_rfl
def a_q193 : Ann := .lf
theorem x_q193 (N : Nat) : execF E [⟨209, ps_q192, rs_q192, q192 N⟩] N Tryz.f145 a_q193 ps_q193 rs_q193 = q193 N := by kernel_rfl
def a_r12_Sort : Ann := (.sq .lf (.sq .lf (.jn ⟨[], [], [.s 3], [.v (.slice Y1) [0]]⟩ (.sq .lf (.lp ⟨[8, 9], [], [.s 3, .s 10], [.v (.slice Y1) [0], .v (.int .i64) []]⟩ (.sq .lf (.sq .lf (.jn ⟨[8, 9, 10], [], [.s 3], [.v (.slice Y1) [0]]⟩ (.sq .lf (.sq .lf (.jn ⟨[3, 5, 8, 9, 10], [12, 7], [.s 6], [.v (.int .i64) []]⟩ (.lp ⟨[3, 5, 8, 9, 10], [12, 7], [.s 6], [.v (.int .i64) []]⟩ .lf) .lf))) .lf))))) .lf)))
theorem x_r12_Sort (N : Nat) : execF E [⟨86, ps_r11_Less, rs_r11_Less, r11_Less N⟩, ⟨145, ps_q193, rs_q193, q193 N⟩] N Tryz.f76 a_r12_Sort ps_r12_Sort rs_r12_Sort = r12_Sort N := by kernel_rfl
def a_q194 : Ann := (.sq .lf (.sq .lf (.sq .lf (.sq .lf (.sq .lf (.jn ⟨[2, 5, 9], [14, 2], [.s 10, .o 29], [.v (.int .i64) [], .b 27 Y3 [6, 7]]⟩ (.sq .lf (.lp ⟨[2, 5, 9, 35], [14, 2], [.s 6, .s 10, .s 11, .s 34, .s 36, .o 29], [.v (.slice Y2) [], .v (.int .i64) [], .v (.int .i64) [], .v (.slice Y2) [], .v (.int .i64) [], .b 27 Y3 [6, 7]]⟩ (.sq .lf (.sq .lf (.sq (.sq .lf (.jn ⟨[2, 5, 6, 9, 10, 11, 12, 34, 35, 36], [29, 37, 38, 14, 2], [], []⟩ .lf .lf)) .lf))))) .lf))))))
theorem x_q194 (N : Nat) : execF E [⟨74, ps_r23_Read, rs_r23_Read, r23_Read N⟩, ⟨75, ps_q191, rs_q191, q191 N⟩, ⟨76, ps_r12_Sort, rs_r12_Sort, r12_Sort N⟩] N Tryz.f30 a_q194 ps_q194 rs_q194 = q194 N := by kernel_rfl
def a_q195 : Ann := .lf
theorem x_q195 (N : Nat) : execF E [] N Tryz.f40 a_q195 ps_q195 rs_q195 = q195 N := by kernel_rfl
def a_q196 : Ann := (.sq .lf (.sq .lf (.jn ⟨[], [], [], []⟩ (.sq .lf (.lp ⟨[0, 1, 12], [], [.s 13], [.v (.int .i64) []]⟩ .lf)) .lf)))
theorem x_q196 (N : Nat) : execF E [] N Tryz.f41 a_q196 ps_q196 rs_q196 = q196 N := by kernel_rfl
def a_q197 : Ann := (.sq .lf (.sq .lf (.jn ⟨[], [], [], []⟩ (.sq .lf (.lp ⟨[0, 1, 12], [], [.s 13], [.v (.int .i64) []]⟩ .lf)) .lf)))
theorem x_q197 (N : Nat) : execF E [] N Tryz.f123 a_q197 ps_q197 rs_q197 = q197 N := by kernel_rfl
def a_q198 : Ann := .lf
theorem x_q198 (N : Nat) : execF E [⟨123, ps_q197, rs_q197, q197 N⟩] N Tryz.f63 a_q198 ps_q198 rs_q198 = q198 N := by kernel_rfl
def a_q199 : Ann := (.sq .lf (.sq .lf (.jn ⟨[], [], [], []⟩ (.sq .lf (.lp ⟨[1, 2, 15, 16], [], [.s 17], [.v (.int .i64) []]⟩ .lf)) .lf)))
theorem x_q199 (N : Nat) : execF E [⟨63, ps_q198, rs_q198, q198 N⟩] N Tryz.f62 a_q199 ps_q199 rs_q199 = q199 N := by kernel_rfl
def a_q200 : Ann := .lf
theorem x_q200 (N : Nat) : execF E [⟨62, ps_q199, rs_q199, q199 N⟩, ⟨63, ps_q198, rs_q198, q198 N⟩] N Tryz.f25 a_q200 ps_q200 rs_q200 = q200 N := by kernel_rfl
def a_q201 : Ann := .lf
theorem x_q201 (N : Nat) : execF E [⟨25, ps_q200, rs_q200, q200 N⟩] N Tryz.f43 a_q201 ps_q201 rs_q201 = q201 N := by kernel_rfl
def a_q202 : Ann := (.sq .lf (.sq .lf (.jn ⟨[], [], [], []⟩ (.sq .lf (.lp ⟨[1, 2, 15, 16], [], [.s 17], [.v (.int .i64) []]⟩ .lf)) .lf)))
theorem x_q202 (N : Nat) : execF E [⟨43, ps_q201, rs_q201, q201 N⟩] N Tryz.f42 a_q202 ps_q202 rs_q202 = q202 N := by kernel_rfl
def a_q203 : Ann := (.sq .lf (.sq .lf (.jn ⟨[], [], [], []⟩ (.sq .lf (.lp ⟨[0, 1, 12], [], [.s 13], [.v (.int .i64) []]⟩ .lf)) .lf)))
theorem x_q203 (N : Nat) : execF E [] N Tryz.f44 a_q203 ps_q203 rs_q203 = q203 N := by kernel_rfl
def a_q204 : Ann := .lf
theorem x_q204 (N : Nat) : execF E [⟨40, ps_q195, rs_q195, q195 N⟩, ⟨41, ps_q196, rs_q196, q196 N⟩, ⟨42, ps_q202, rs_q202, q202 N⟩, ⟨43, ps_q201, rs_q201, q201 N⟩, ⟨44, ps_q203, rs_q203, q203 N⟩] N Tryz.f15 a_q204 ps_q204 rs_q204 = q204 N := by kernel_rfl
def a_l24_StlDecodes : Ann := .lf
theorem x_l24_StlDecodes (N : Nat) : execF E [⟨11, ps_l24_awake, rs_l24_awake, l24_awake N⟩, ⟨29, ps_q145, rs_q145, q145 N⟩, ⟨30, ps_q194, rs_q194, q194 N⟩, ⟨15, ps_q204, rs_q204, q204 N⟩] N Tryz.f8 a_l24_StlDecodes ps_l24_StlDecodes rs_l24_StlDecodes = l24_StlDecodes N := by kernel_rfl
end
end Go.Mo
end

section
/-
  The functions do what their models say. Printed by a program.
-/
namespace Go.Mo
open Go Go.W Go.Proofs
noncomputable section
set_option maxRecDepth 100000
theorem k_q11 (N : Nat) : ConOk E ⟨214, ps_q11, rs_q11, q11 N⟩ := conOf envOk (x_q11 N) trivial (show E.P.funcs[214]? = some Tryz.f214 from by kernel_rfl) (by kernel_rfl)
theorem k_utf8_ValidString (N : Nat) : ConOk E ⟨160, ps_utf8_ValidString, rs_utf8_ValidString, utf8_ValidString N⟩ := kh_utf8_ValidString N
theorem k_q12 (N : Nat) : ConOk E ⟨215, ps_q12, rs_q12, q12 N⟩ := conOf envOk (x_q12 N) trivial (show E.P.funcs[215]? = some Tryz.f215 from by kernel_rfl) (by kernel_rfl)
theorem k_q13 (N : Nat) : ConOk E ⟨161, ps_q13, rs_q13, q13 N⟩ := conOf envOk (x_q13 N) ⟨k_q12 N, trivial⟩ (show E.P.funcs[161]? = some Tryz.f161 from by kernel_rfl) (by kernel_rfl)
theorem k_q14 (N : Nat) : ConOk E ⟨97, ps_q14, rs_q14, q14 N⟩ := conOf envOk (x_q14 N) ⟨k_utf8_ValidString N, k_q13 N, trivial⟩ (show E.P.funcs[97]? = some Tryz.f97 from by kernel_rfl) (by kernel_rfl)
theorem k_q15 (N : Nat) : ConOk E ⟨109, ps_q15, rs_q15, q15 N⟩ := conOf envOk (x_q15 N) trivial (show E.P.funcs[109]? = some Tryz.f109 from by kernel_rfl) (by kernel_rfl)
theorem k_q16 (N : Nat) : ConOk E ⟨110, ps_q16, rs_q16, q16 N⟩ := conOf envOk (x_q16 N) trivial (show E.P.funcs[110]? = some Tryz.f110 from by kernel_rfl) (by kernel_rfl)
theorem k_q17 (N : Nat) : ConOk E ⟨53, ps_q17, rs_q17, q17 N⟩ := conOf envOk (x_q17 N) ⟨k_q14 N, k_q15 N, k_q16 N, trivial⟩ (show E.P.funcs[53]? = some Tryz.f53 from by kernel_rfl) (by kernel_rfl)
theorem k_q18 (N : Nat) : ConOk E ⟨54, ps_q18, rs_q18, q18 N⟩ := conOf envOk (x_q18 N) trivial (show E.P.funcs[54]? = some Tryz.f54 from by kernel_rfl) (by kernel_rfl)
theorem k_stl_on (N : Nat) : ConOk E ⟨55, ps_stl_on, rs_stl_on, stl_on N⟩ := conOf envOk (x_stl_on N) trivial (show E.P.funcs[55]? = some Tryz.f55 from by kernel_rfl) (by kernel_rfl)
theorem k_q19 (N : Nat) : ConOk E ⟨170, ps_q19, rs_q19, q19 N⟩ := conOf envOk (x_q19 N) ⟨k_q13 N, trivial⟩ (show E.P.funcs[170]? = some Tryz.f170 from by kernel_rfl) (by kernel_rfl)
theorem k_q20 (N : Nat) : ConOk E ⟨117, ps_q20, rs_q20, q20 N⟩ := conOf envOk (x_q20 N) trivial (show E.P.funcs[117]? = some Tryz.f117 from by kernel_rfl) (by kernel_rfl)
theorem k_q21 (N : Nat) : ConOk E ⟨172, ps_q21, rs_q21, q21 N⟩ := conOf envOk (x_q21 N) ⟨k_q13 N, trivial⟩ (show E.P.funcs[172]? = some Tryz.f172 from by kernel_rfl) (by kernel_rfl)
theorem k_bytealg_IndexByteString (N : Nat) : ConOk E ⟨270, ps_bytealg_IndexByteString, rs_bytealg_IndexByteString, bytealg_IndexByteString N⟩ := kh_bytealg_IndexByteString N
theorem k_q22 (N : Nat) : ConOk E ⟨261, ps_q22, rs_q22, q22 N⟩ := conOf envOk (x_q22 N) ⟨k_bytealg_IndexByteString N, trivial⟩ (show E.P.funcs[261]? = some Tryz.f261 from by kernel_rfl) (by kernel_rfl)
theorem k_q23 (N : Nat) : ConOk E ⟨242, ps_q23, rs_q23, q23 N⟩ := conOf envOk (x_q23 N) ⟨k_q22 N, trivial⟩ (show E.P.funcs[242]? = some Tryz.f242 from by kernel_rfl) (by kernel_rfl)
theorem k_q24 (N : Nat) : ConOk E ⟨243, ps_q24, rs_q24, q24 N⟩ := conOf envOk (x_q24 N) trivial (show E.P.funcs[243]? = some Tryz.f243 from by kernel_rfl) (by kernel_rfl)
theorem k_q25 (N : Nat) : ConOk E ⟨244, ps_q25, rs_q25, q25 N⟩ := conOf envOk (x_q25 N) trivial (show E.P.funcs[244]? = some Tryz.f244 from by kernel_rfl) (by kernel_rfl)
theorem k_q26 (N : Nat) : ConOk E ⟨220, ps_q26, rs_q26, q26 N⟩ := conOf envOk (x_q26 N) ⟨k_q23 N, k_q24 N, k_q25 N, trivial⟩ (show E.P.funcs[220]? = some Tryz.f220 from by kernel_rfl) (by kernel_rfl)
theorem k_q27 (N : Nat) : ConOk E ⟨171, ps_q27, rs_q27, q27 N⟩ := conOf envOk (x_q27 N) ⟨k_q26 N, trivial⟩ (show E.P.funcs[171]? = some Tryz.f171 from by kernel_rfl) (by kernel_rfl)
theorem k_q28 (N : Nat) : ConOk E ⟨119, ps_q28, rs_q28, q28 N⟩ := conOf envOk (x_q28 N) ⟨k_q13 N, trivial⟩ (show E.P.funcs[119]? = some Tryz.f119 from by kernel_rfl) (by kernel_rfl)
theorem k_q29 (N : Nat) : ConOk E ⟨111, ps_q29, rs_q29, q29 N⟩ := conOf envOk (x_q29 N) ⟨k_q19 N, k_q20 N, k_q21 N, k_q27 N, k_q28 N, trivial⟩ (show E.P.funcs[111]? = some Tryz.f111 from by kernel_rfl) (by kernel_rfl)
theorem k_q30 (N : Nat) : ConOk E ⟨56, ps_q30, rs_q30, q30 N⟩ := conOf envOk (x_q30 N) ⟨k_q14 N, k_q29 N, trivial⟩ (show E.P.funcs[56]? = some Tryz.f56 from by kernel_rfl) (by kernel_rfl)
theorem k_stl_Text (N : Nat) : ConOk E ⟨20, ps_stl_Text, rs_stl_Text, stl_Text N⟩ := conOf envOk (x_stl_Text N) ⟨k_q17 N, k_q18 N, k_stl_on N, k_q30 N, trivial⟩ (show E.P.funcs[20]? = some Tryz.f20 from by kernel_rfl) (by kernel_rfl)
theorem k_q31 (N : Nat) : ConOk E ⟨24, ps_q31, rs_q31, q31 N⟩ := conOf envOk (x_q31 N) trivial (show E.P.funcs[24]? = some Tryz.f24 from by kernel_rfl) (by kernel_rfl)
theorem k_q32 (N : Nat) : ConOk E ⟨98, ps_q32, rs_q32, q32 N⟩ := conOf envOk (x_q32 N) trivial (show E.P.funcs[98]? = some Tryz.f98 from by kernel_rfl) (by kernel_rfl)
theorem k_q33 (N : Nat) : ConOk E ⟨148, ps_q33, rs_q33, q33 N⟩ := conOf envOk (x_q33 N) trivial (show E.P.funcs[148]? = some Tryz.f148 from by kernel_rfl) (by kernel_rfl)
theorem k_q34 (N : Nat) : ConOk E ⟨146, ps_q34, rs_q34, q34 N⟩ := conOf envOk (x_q34 N) ⟨k_q33 N, trivial⟩ (show E.P.funcs[146]? = some Tryz.f146 from by kernel_rfl) (by kernel_rfl)
theorem k_q35 (N : Nat) : ConOk E ⟨147, ps_q35, rs_q35, q35 N⟩ := conOf envOk (x_q35 N) ⟨k_q33 N, trivial⟩ (show E.P.funcs[147]? = some Tryz.f147 from by kernel_rfl) (by kernel_rfl)
theorem k_q36 (N : Nat) : ConOk E ⟨99, ps_q36, rs_q36, q36 N⟩ := conOf envOk (x_q36 N) ⟨k_q34 N, k_q35 N, trivial⟩ (show E.P.funcs[99]? = some Tryz.f99 from by kernel_rfl) (by kernel_rfl)
theorem k_q37 (N : Nat) : ConOk E ⟨47, ps_q37, rs_q37, q37 N⟩ := conOf envOk (x_q37 N) ⟨k_q14 N, k_q32 N, k_q36 N, trivial⟩ (show E.P.funcs[47]? = some Tryz.f47 from by kernel_rfl) (by kernel_rfl)
theorem k_q38 (N : Nat) : ConOk E ⟨162, ps_q38, rs_q38, q38 N⟩ := conOf envOk (x_q38 N) trivial (show E.P.funcs[162]? = some Tryz.f162 from by kernel_rfl) (by kernel_rfl)
theorem k_q39 (N : Nat) : ConOk E ⟨100, ps_q39, rs_q39, q39 N⟩ := conOf envOk (x_q39 N) ⟨k_q32 N, k_q38 N, trivial⟩ (show E.P.funcs[100]? = some Tryz.f100 from by kernel_rfl) (by kernel_rfl)
theorem k_q40 (N : Nat) : ConOk E ⟨48, ps_q40, rs_q40, q40 N⟩ := conOf envOk (x_q40 N) ⟨k_q39 N, trivial⟩ (show E.P.funcs[48]? = some Tryz.f48 from by kernel_rfl) (by kernel_rfl)
theorem k_q41 (N : Nat) : ConOk E ⟨149, ps_q41, rs_q41, q41 N⟩ := conOf envOk (x_q41 N) trivial (show E.P.funcs[149]? = some Tryz.f149 from by kernel_rfl) (by kernel_rfl)
theorem k_q42 (N : Nat) : ConOk E ⟨81, ps_q42, rs_q42, q42 N⟩ := conOf envOk (x_q42 N) ⟨k_q41 N, trivial⟩ (show E.P.funcs[81]? = some Tryz.f81 from by kernel_rfl) (by kernel_rfl)
theorem k_q43 (N : Nat) : ConOk E ⟨101, ps_q43, rs_q43, q43 N⟩ := conOf envOk (x_q43 N) trivial (show E.P.funcs[101]? = some Tryz.f101 from by kernel_rfl) (by kernel_rfl)
theorem k_q44 (N : Nat) : ConOk E ⟨163, ps_q44, rs_q44, q44 N⟩ := conOf envOk (x_q44 N) trivial (show E.P.funcs[163]? = some Tryz.f163 from by kernel_rfl) (by kernel_rfl)
theorem k_q45 (N : Nat) : ConOk E ⟨102, ps_q45, rs_q45, q45 N⟩ := conOf envOk (x_q45 N) ⟨k_q44 N, trivial⟩ (show E.P.funcs[102]? = some Tryz.f102 from by kernel_rfl) (by kernel_rfl)
theorem k_strings_Builder_copyCheck (N : Nat) : ConOk E ⟨239, ps_strings_Builder_copyCheck, rs_strings_Builder_copyCheck, strings_Builder_copyCheck N⟩ := kh_strings_Builder_copyCheck N
theorem k_q46 (N : Nat) : ConOk E ⟨216, ps_q46, rs_q46, q46 N⟩ := conOf envOk (x_q46 N) ⟨k_strings_Builder_copyCheck N, trivial⟩ (show E.P.funcs[216]? = some Tryz.f216 from by kernel_rfl) (by kernel_rfl)
theorem k_q47 (N : Nat) : ConOk E ⟨164, ps_q47, rs_q47, q47 N⟩ := conOf envOk (x_q47 N) ⟨k_q46 N, trivial⟩ (show E.P.funcs[164]? = some Tryz.f164 from by kernel_rfl) (by kernel_rfl)
theorem k_q48 (N : Nat) : ConOk E ⟨271, ps_q48, rs_q48, q48 N⟩ := conOf envOk (x_q48 N) trivial (show E.P.funcs[271]? = some Tryz.f271 from by kernel_rfl) (by kernel_rfl)
theorem k_q49 (N : Nat) : ConOk E ⟨262, ps_q49, rs_q49, q49 N⟩ := conOf envOk (x_q49 N) ⟨k_q48 N, trivial⟩ (show E.P.funcs[262]? = some Tryz.f262 from by kernel_rfl) (by kernel_rfl)
theorem k_q50 (N : Nat) : ConOk E ⟨240, ps_q50, rs_q50, q50 N⟩ := conOf envOk (x_q50 N) ⟨k_q22 N, k_q25 N, k_q49 N, trivial⟩ (show E.P.funcs[240]? = some Tryz.f240 from by kernel_rfl) (by kernel_rfl)
theorem k_q51 (N : Nat) : ConOk E ⟨218, ps_q51, rs_q51, q51 N⟩ := conOf envOk (x_q51 N) ⟨k_q50 N, trivial⟩ (show E.P.funcs[218]? = some Tryz.f218 from by kernel_rfl) (by kernel_rfl)
theorem k_strings_Contains (N : Nat) : ConOk E ⟨165, ps_strings_Contains, rs_strings_Contains, strings_Contains N⟩ := kh_strings_Contains N
theorem k_q52 (N : Nat) : ConOk E ⟨241, ps_q52, rs_q52, q52 N⟩ := conOf envOk (x_q52 N) trivial (show E.P.funcs[241]? = some Tryz.f241 from by kernel_rfl) (by kernel_rfl)
theorem k_q53 (N : Nat) : ConOk E ⟨219, ps_q53, rs_q53, q53 N⟩ := conOf envOk (x_q53 N) ⟨k_q14 N, k_q52 N, trivial⟩ (show E.P.funcs[219]? = some Tryz.f219 from by kernel_rfl) (by kernel_rfl)
theorem k_q54 (N : Nat) : ConOk E ⟨166, ps_q54, rs_q54, q54 N⟩ := conOf envOk (x_q54 N) ⟨k_q53 N, trivial⟩ (show E.P.funcs[166]? = some Tryz.f166 from by kernel_rfl) (by kernel_rfl)
theorem k_q55 (N : Nat) : ConOk E ⟨103, ps_q55, rs_q55, q55 N⟩ := conOf envOk (x_q55 N) ⟨k_q17 N, k_q47 N, k_strings_Contains N, k_q54 N, trivial⟩ (show E.P.funcs[103]? = some Tryz.f103 from by kernel_rfl) (by kernel_rfl)
theorem k_q56 (N : Nat) : ConOk E ⟨105, ps_q56, rs_q56, q56 N⟩ := conOf envOk (x_q56 N) ⟨k_q54 N, trivial⟩ (show E.P.funcs[105]? = some Tryz.f105 from by kernel_rfl) (by kernel_rfl)
theorem k_q57 (N : Nat) : ConOk E ⟨167, ps_q57, rs_q57, q57 N⟩ := conOf envOk (x_q57 N) ⟨k_q41 N, k_q39 N, trivial⟩ (show E.P.funcs[167]? = some Tryz.f167 from by kernel_rfl) (by kernel_rfl)
theorem k_q58 (N : Nat) : ConOk E ⟨104, ps_q58, rs_q58, q58 N⟩ := conOf envOk (x_q58 N) ⟨k_q57 N, trivial⟩ (show E.P.funcs[104]? = some Tryz.f104 from by kernel_rfl) (by kernel_rfl)
theorem k_q59 (N : Nat) : ConOk E ⟨49, ps_q59, rs_q59, q59 N⟩ := conOf envOk (x_q59 N) ⟨k_q42 N, k_q43 N, k_q45 N, k_q32 N, k_q55 N, k_q56 N, k_q58 N, trivial⟩ (show E.P.funcs[49]? = some Tryz.f49 from by kernel_rfl) (by kernel_rfl)
theorem k_q60 (N : Nat) : ConOk E ⟨168, ps_q60, rs_q60, q60 N⟩ := conOf envOk (x_q60 N) trivial (show E.P.funcs[168]? = some Tryz.f168 from by kernel_rfl) (by kernel_rfl)
theorem k_q61 (N : Nat) : ConOk E ⟨107, ps_q61, rs_q61, q61 N⟩ := conOf envOk (x_q61 N) ⟨k_q60 N, trivial⟩ (show E.P.funcs[107]? = some Tryz.f107 from by kernel_rfl) (by kernel_rfl)
theorem k_q62 (N : Nat) : ConOk E ⟨106, ps_q62, rs_q62, q62 N⟩ := conOf envOk (x_q62 N) trivial (show E.P.funcs[106]? = some Tryz.f106 from by kernel_rfl) (by kernel_rfl)
theorem k_q63 (N : Nat) : ConOk E ⟨50, ps_q63, rs_q63, q63 N⟩ := conOf envOk (x_q63 N) ⟨k_q61 N, k_q62 N, trivial⟩ (show E.P.funcs[50]? = some Tryz.f50 from by kernel_rfl) (by kernel_rfl)
theorem k_q64 (N : Nat) : ConOk E ⟨169, ps_q64, rs_q64, q64 N⟩ := conOf envOk (x_q64 N) ⟨k_q56 N, trivial⟩ (show E.P.funcs[169]? = some Tryz.f169 from by kernel_rfl) (by kernel_rfl)
theorem k_q65 (N : Nat) : ConOk E ⟨108, ps_q65, rs_q65, q65 N⟩ := conOf envOk (x_q65 N) ⟨k_q64 N, trivial⟩ (show E.P.funcs[108]? = some Tryz.f108 from by kernel_rfl) (by kernel_rfl)
theorem k_q66 (N : Nat) : ConOk E ⟨51, ps_q66, rs_q66, q66 N⟩ := conOf envOk (x_q66 N) ⟨k_q65 N, k_q32 N, k_q14 N, trivial⟩ (show E.P.funcs[51]? = some Tryz.f51 from by kernel_rfl) (by kernel_rfl)
theorem k_q67 (N : Nat) : ConOk E ⟨18, ps_q67, rs_q67, q67 N⟩ := conOf envOk (x_q67 N) ⟨k_q37 N, k_q40 N, k_q59 N, k_q63 N, k_q66 N, trivial⟩ (show E.P.funcs[18]? = some Tryz.f18 from by kernel_rfl) (by kernel_rfl)
theorem k_q68 (N : Nat) : ConOk E ⟨80, ps_q68, rs_q68, q68 N⟩ := conOf envOk (x_q68 N) ⟨k_q42 N, k_q56 N, k_q58 N, trivial⟩ (show E.P.funcs[80]? = some Tryz.f80 from by kernel_rfl) (by kernel_rfl)
theorem k_q69 (N : Nat) : ConOk E ⟨33, ps_q69, rs_q69, q69 N⟩ := conOf envOk (x_q69 N) ⟨k_q68 N, k_q42 N, trivial⟩ (show E.P.funcs[33]? = some Tryz.f33 from by kernel_rfl) (by kernel_rfl)
theorem k_q70 (N : Nat) : ConOk E ⟨235, ps_q70, rs_q70, q70 N⟩ := conOf envOk (x_q70 N) trivial (show E.P.funcs[235]? = some Tryz.f235 from by kernel_rfl) (by kernel_rfl)
theorem k_q71 (N : Nat) : ConOk E ⟨256, ps_q71, rs_q71, q71 N⟩ := conOf envOk (x_q71 N) trivial (show E.P.funcs[256]? = some Tryz.f256 from by kernel_rfl) (by kernel_rfl)
theorem k_q72 (N : Nat) : ConOk E ⟨255, ps_q72, rs_q72, q72 N⟩ := conOf envOk (x_q72 N) trivial (show E.P.funcs[255]? = some Tryz.f255 from by kernel_rfl) (by kernel_rfl)
theorem k_q73 (N : Nat) : ConOk E ⟨257, ps_q73, rs_q73, q73 N⟩ := conOf envOk (x_q73 N) trivial (show E.P.funcs[257]? = some Tryz.f257 from by kernel_rfl) (by kernel_rfl)
theorem k_q74 (N : Nat) : ConOk E ⟨258, ps_q74, rs_q74, q74 N⟩ := conOf envOk (x_q74 N) trivial (show E.P.funcs[258]? = some Tryz.f258 from by kernel_rfl) (by kernel_rfl)
theorem k_q75 (N : Nat) : ConOk E ⟨268, ps_q75, rs_q75, q75 N⟩ := conOf envOk (x_q75 N) trivial (show E.P.funcs[268]? = some Tryz.f268 from by kernel_rfl) (by kernel_rfl)
theorem k_q76 (N : Nat) : ConOk E ⟨269, ps_q76, rs_q76, q76 N⟩ := conOf envOk (x_q76 N) trivial (show E.P.funcs[269]? = some Tryz.f269 from by kernel_rfl) (by kernel_rfl)
theorem k_q77 (N : Nat) : ConOk E ⟨259, ps_q77, rs_q77, q77 N⟩ := conOf envOk (x_q77 N) ⟨k_q75 N, k_q76 N, trivial⟩ (show E.P.funcs[259]? = some Tryz.f259 from by kernel_rfl) (by kernel_rfl)
theorem k_q78 (N : Nat) : ConOk E ⟨210, ps_q78, rs_q78, q78 N⟩ := conOf envOk (x_q78 N) ⟨k_q70 N, trivial⟩ (show E.P.funcs[210]? = some Tryz.f210 from by kernel_rfl) (by kernel_rfl)
theorem k_q79 (N : Nat) : ConOk E ⟨150, ps_q79, rs_q79, q79 N⟩ := conOf envOk (x_q79 N) ⟨k_q78 N, trivial⟩ (show E.P.funcs[150]? = some Tryz.f150 from by kernel_rfl) (by kernel_rfl)
theorem k_q80 (N : Nat) : ConOk E ⟨82, ps_q80, rs_q80, q80 N⟩ := conOf envOk (x_q80 N) ⟨k_q79 N, trivial⟩ (show E.P.funcs[82]? = some Tryz.f82 from by kernel_rfl) (by kernel_rfl)
theorem k_q81 (N : Nat) : ConOk E ⟨34, ps_q81, rs_q81, q81 N⟩ := conOf envOk (x_q81 N) ⟨k_q80 N, trivial⟩ (show E.P.funcs[34]? = some Tryz.f34 from by kernel_rfl) (by kernel_rfl)
theorem k_stl_add (N : Nat) : ConOk E ⟨32, ps_stl_add, rs_stl_add, stl_add N⟩ := conOf envOk (x_stl_add N) trivial (show E.P.funcs[32]? = some Tryz.f32 from by kernel_rfl) (by kernel_rfl)
theorem k_q82 (N : Nat) : ConOk E ⟨64, ps_q82, rs_q82, q82 N⟩ := conOf envOk (x_q82 N) ⟨k_q16 N, trivial⟩ (show E.P.funcs[64]? = some Tryz.f64 from by kernel_rfl) (by kernel_rfl)
theorem k_q83 (N : Nat) : ConOk E ⟨26, ps_q83, rs_q83, q83 N⟩ := conOf envOk (x_q83 N) ⟨k_q82 N, trivial⟩ (show E.P.funcs[26]? = some Tryz.f26 from by kernel_rfl) (by kernel_rfl)
theorem k_stl_bare (N : Nat) : ConOk E ⟨45, ps_stl_bare, rs_stl_bare, stl_bare N⟩ := conOf envOk (x_stl_bare N) ⟨k_q83 N, trivial⟩ (show E.P.funcs[45]? = some Tryz.f45 from by kernel_rfl) (by kernel_rfl)
theorem k_q84 (N : Nat) : ConOk E ⟨16, ps_q84, rs_q84, q84 N⟩ := conOf envOk (x_q84 N) ⟨k_q67 N, k_q69 N, k_q81 N, k_stl_add N, k_stl_bare N, trivial⟩ (show E.P.funcs[16]? = some Tryz.f16 from by kernel_rfl) (by kernel_rfl)
theorem k_l24_awake (N : Nat) : ConOk E ⟨11, ps_l24_awake, rs_l24_awake, l24_awake N⟩ := conOf envOk (x_l24_awake N) ⟨k_stl_Text N, k_q31 N, k_q84 N, trivial⟩ (show E.P.funcs[11]? = some Tryz.f11 from by kernel_rfl) (by kernel_rfl)
theorem k_q85 (N : Nat) : ConOk E ⟨192, ps_q85, rs_q85, q85 N⟩ := conOf envOk (x_q85 N) trivial (show E.P.funcs[192]? = some Tryz.f192 from by kernel_rfl) (by kernel_rfl)
theorem k_q86 (N : Nat) : ConOk E ⟨193, ps_q86, rs_q86, q86 N⟩ := conOf envOk (x_q86 N) ⟨k_q85 N, trivial⟩ (show E.P.funcs[193]? = some Tryz.f193 from by kernel_rfl) (by kernel_rfl)
theorem k_q87 (N : Nat) : ConOk E ⟨183, ps_q87, rs_q87, q87 N⟩ := conOf envOk (x_q87 N) trivial (show E.P.funcs[183]? = some Tryz.f183 from by kernel_rfl) (by kernel_rfl)
theorem k_q88 (N : Nat) : ConOk E ⟨226, ps_q88, rs_q88, q88 N⟩ := conOf envOk (x_q88 N) trivial (show E.P.funcs[226]? = some Tryz.f226 from by kernel_rfl) (by kernel_rfl)
theorem k_q89 (N : Nat) : ConOk E ⟨228, ps_q89, rs_q89, q89 N⟩ := conOf envOk (x_q89 N) trivial (show E.P.funcs[228]? = some Tryz.f228 from by kernel_rfl) (by kernel_rfl)
theorem k_q90 (N : Nat) : ConOk E ⟨263, ps_q90, rs_q90, q90 N⟩ := conOf envOk (x_q90 N) trivial (show E.P.funcs[263]? = some Tryz.f263 from by kernel_rfl) (by kernel_rfl)
theorem k_q91 (N : Nat) : ConOk E ⟨272, ps_q91, rs_q91, q91 N⟩ := conOf envOk (x_q91 N) trivial (show E.P.funcs[272]? = some Tryz.f272 from by kernel_rfl) (by kernel_rfl)
theorem k_q92 (N : Nat) : ConOk E ⟨264, ps_q92, rs_q92, q92 N⟩ := conOf envOk (x_q92 N) ⟨k_q91 N, trivial⟩ (show E.P.funcs[264]? = some Tryz.f264 from by kernel_rfl) (by kernel_rfl)
theorem k_q93 (N : Nat) : ConOk E ⟨249, ps_q93, rs_q93, q93 N⟩ := conOf envOk (x_q93 N) ⟨k_q90 N, k_q92 N, trivial⟩ (show E.P.funcs[249]? = some Tryz.f249 from by kernel_rfl) (by kernel_rfl)
theorem k_q94 (N : Nat) : ConOk E ⟨250, ps_q94, rs_q94, q94 N⟩ := conOf envOk (x_q94 N) trivial (show E.P.funcs[250]? = some Tryz.f250 from by kernel_rfl) (by kernel_rfl)
theorem k_q95 (N : Nat) : ConOk E ⟨229, ps_q95, rs_q95, q95 N⟩ := conOf envOk (x_q95 N) ⟨k_q93 N, k_q94 N, trivial⟩ (show E.P.funcs[229]? = some Tryz.f229 from by kernel_rfl) (by kernel_rfl)
theorem k_q96 (N : Nat) : ConOk E ⟨194, ps_q96, rs_q96, q96 N⟩ := conOf envOk (x_q96 N) ⟨k_q88 N, k_q89 N, k_q95 N, trivial⟩ (show E.P.funcs[194]? = some Tryz.f194 from by kernel_rfl) (by kernel_rfl)
theorem k_q97 (N : Nat) : ConOk E ⟨118, ps_q97, rs_q97, q97 N⟩ := conOf envOk (x_q97 N) ⟨k_q13 N, trivial⟩ (show E.P.funcs[118]? = some Tryz.f118 from by kernel_rfl) (by kernel_rfl)
theorem k_q98 (N : Nat) : ConOk E ⟨60, ps_q98, rs_q98, q98 N⟩ := conOf envOk (x_q98 N) ⟨k_q20 N, k_q97 N, k_q28 N, trivial⟩ (show E.P.funcs[60]? = some Tryz.f60 from by kernel_rfl) (by kernel_rfl)
theorem k_q99 (N : Nat) : ConOk E ⟨265, ps_q99, rs_q99, q99 N⟩ := conOf envOk (x_q99 N) trivial (show E.P.funcs[265]? = some Tryz.f265 from by kernel_rfl) (by kernel_rfl)
theorem k_q100 (N : Nat) : ConOk E ⟨251, ps_q100, rs_q100, q100 N⟩ := conOf envOk (x_q100 N) ⟨k_q99 N, trivial⟩ (show E.P.funcs[251]? = some Tryz.f251 from by kernel_rfl) (by kernel_rfl)
theorem k_q101 (N : Nat) : ConOk E ⟨230, ps_q101, rs_q101, q101 N⟩ := conOf envOk (x_q101 N) ⟨k_strings_Builder_copyCheck N, k_q100 N, trivial⟩ (show E.P.funcs[230]? = some Tryz.f230 from by kernel_rfl) (by kernel_rfl)
theorem k_q102 (N : Nat) : ConOk E ⟨195, ps_q102, rs_q102, q102 N⟩ := conOf envOk (x_q102 N) ⟨k_q98 N, k_q101 N, trivial⟩ (show E.P.funcs[195]? = some Tryz.f195 from by kernel_rfl) (by kernel_rfl)
theorem k_q103 (N : Nat) : ConOk E ⟨77, ps_q103, rs_q103, q103 N⟩ := conOf envOk (x_q103 N) ⟨k_q34 N, k_q35 N, trivial⟩ (show E.P.funcs[77]? = some Tryz.f77 from by kernel_rfl) (by kernel_rfl)
theorem k_q104 (N : Nat) : ConOk E ⟨78, ps_q104, rs_q104, q104 N⟩ := conOf envOk (x_q104 N) ⟨k_q33 N, trivial⟩ (show E.P.funcs[78]? = some Tryz.f78 from by kernel_rfl) (by kernel_rfl)
theorem k_q105 (N : Nat) : ConOk E ⟨79, ps_q105, rs_q105, q105 N⟩ := conOf envOk (x_q105 N) trivial (show E.P.funcs[79]? = some Tryz.f79 from by kernel_rfl) (by kernel_rfl)
theorem k_q106 (N : Nat) : ConOk E ⟨200, ps_q106, rs_q106, q106 N⟩ := conOf envOk (x_q106 N) ⟨k_q103 N, k_q104 N, k_q105 N, trivial⟩ (show E.P.funcs[200]? = some Tryz.f200 from by kernel_rfl) (by kernel_rfl)
theorem k_q107 (N : Nat) : ConOk E ⟨181, ps_q107, rs_q107, q107 N⟩ := conOf envOk (x_q107 N) ⟨k_q32 N, k_q14 N, k_q106 N, trivial⟩ (show E.P.funcs[181]? = some Tryz.f181 from by kernel_rfl) (by kernel_rfl)
theorem k_q108 (N : Nat) : ConOk E ⟨246, ps_q108, rs_q108, q108 N⟩ := conOf envOk (x_q108 N) trivial (show E.P.funcs[246]? = some Tryz.f246 from by kernel_rfl) (by kernel_rfl)
theorem k_q109 (N : Nat) : ConOk E ⟨247, ps_q109, rs_q109, q109 N⟩ := conOf envOk (x_q109 N) trivial (show E.P.funcs[247]? = some Tryz.f247 from by kernel_rfl) (by kernel_rfl)
theorem k_bits_Mul (N : Nat) : ConOk E ⟨224, ps_bits_Mul, rs_bits_Mul, bits_Mul N⟩ := conOf envOk (x_bits_Mul N) ⟨k_q108 N, k_q109 N, trivial⟩ (show E.P.funcs[224]? = some Tryz.f224 from by kernel_rfl) (by kernel_rfl)
theorem k_q110 (N : Nat) : ConOk E ⟨182, ps_q110, rs_q110, q110 N⟩ := conOf envOk (x_q110 N) ⟨k_bits_Mul N, trivial⟩ (show E.P.funcs[182]? = some Tryz.f182 from by kernel_rfl) (by kernel_rfl)
theorem k_q111 (N : Nat) : ConOk E ⟨184, ps_q111, rs_q111, q111 N⟩ := conOf envOk (x_q111 N) trivial (show E.P.funcs[184]? = some Tryz.f184 from by kernel_rfl) (by kernel_rfl)
theorem k_q112 (N : Nat) : ConOk E ⟨185, ps_q112, rs_q112, q112 N⟩ := conOf envOk (x_q112 N) ⟨k_q111 N, trivial⟩ (show E.P.funcs[185]? = some Tryz.f185 from by kernel_rfl) (by kernel_rfl)
theorem k_q113 (N : Nat) : ConOk E ⟨127, ps_q113, rs_q113, q113 N⟩ := conOf envOk (x_q113 N) ⟨k_q107 N, k_q30 N, k_q110 N, k_q87 N, k_q111 N, k_q112 N, trivial⟩ (show E.P.funcs[127]? = some Tryz.f127 from by kernel_rfl) (by kernel_rfl)
theorem k_q114 (N : Nat) : ConOk E ⟨196, ps_q114, rs_q114, q114 N⟩ := conOf envOk (x_q114 N) trivial (show E.P.funcs[196]? = some Tryz.f196 from by kernel_rfl) (by kernel_rfl)
theorem k_q115 (N : Nat) : ConOk E ⟨134, ps_q115, rs_q115, q115 N⟩ := conOf envOk (x_q115 N) ⟨k_q85 N, k_q86 N, k_q87 N, k_q96 N, k_q102 N, k_q113 N, k_q114 N, trivial⟩ (show E.P.funcs[134]? = some Tryz.f134 from by kernel_rfl) (by kernel_rfl)
theorem k_q116 (N : Nat) : ConOk E ⟨197, ps_q116, rs_q116, q116 N⟩ := conOf envOk (x_q116 N) trivial (show E.P.funcs[197]? = some Tryz.f197 from by kernel_rfl) (by kernel_rfl)
theorem k_bytealg_IndexByte (N : Nat) : ConOk E ⟨180, ps_bytealg_IndexByte, rs_bytealg_IndexByte, bytealg_IndexByte N⟩ := kh_bytealg_IndexByte N
theorem k_q117 (N : Nat) : ConOk E ⟨125, ps_q117, rs_q117, q117 N⟩ := conOf envOk (x_q117 N) ⟨k_bytealg_IndexByte N, trivial⟩ (show E.P.funcs[125]? = some Tryz.f125 from by kernel_rfl) (by kernel_rfl)
theorem k_q118 (N : Nat) : ConOk E ⟨266, ps_q118, rs_q118, q118 N⟩ := conOf envOk (x_q118 N) trivial (show E.P.funcs[266]? = some Tryz.f266 from by kernel_rfl) (by kernel_rfl)
theorem k_q119 (N : Nat) : ConOk E ⟨253, ps_q119, rs_q119, q119 N⟩ := conOf envOk (x_q119 N) ⟨k_q118 N, trivial⟩ (show E.P.funcs[253]? = some Tryz.f253 from by kernel_rfl) (by kernel_rfl)
theorem k_q120 (N : Nat) : ConOk E ⟨231, ps_q120, rs_q120, q120 N⟩ := conOf envOk (x_q120 N) ⟨k_q117 N, k_q114 N, k_q25 N, k_q119 N, trivial⟩ (show E.P.funcs[231]? = some Tryz.f231 from by kernel_rfl) (by kernel_rfl)
theorem k_q121 (N : Nat) : ConOk E ⟨198, ps_q121, rs_q121, q121 N⟩ := conOf envOk (x_q121 N) ⟨k_q120 N, trivial⟩ (show E.P.funcs[198]? = some Tryz.f198 from by kernel_rfl) (by kernel_rfl)
theorem k_q122 (N : Nat) : ConOk E ⟨126, ps_q122, rs_q122, q122 N⟩ := conOf envOk (x_q122 N) trivial (show E.P.funcs[126]? = some Tryz.f126 from by kernel_rfl) (by kernel_rfl)
theorem k_q123 (N : Nat) : ConOk E ⟨179, ps_q123, rs_q123, q123 N⟩ := conOf envOk (x_q123 N) trivial (show E.P.funcs[179]? = some Tryz.f179 from by kernel_rfl) (by kernel_rfl)
theorem k_q124 (N : Nat) : ConOk E ⟨124, ps_q124, rs_q124, q124 N⟩ := conOf envOk (x_q124 N) ⟨k_q123 N, k_q117 N, trivial⟩ (show E.P.funcs[124]? = some Tryz.f124 from by kernel_rfl) (by kernel_rfl)
theorem k_tape_Put (N : Nat) : ConOk E ⟨128, ps_tape_Put, rs_tape_Put, tape_Put N⟩ := conOf envOk (x_tape_Put N) ⟨k_q124 N, k_q110 N, trivial⟩ (show E.P.funcs[128]? = some Tryz.f128 from by kernel_rfl) (by kernel_rfl)
theorem k_tape_Get (N : Nat) : ConOk E ⟨135, ps_tape_Get, rs_tape_Get, tape_Get N⟩ := conOf envOk (x_tape_Get N) ⟨k_q116 N, k_q121 N, k_q122 N, k_tape_Put N, k_q114 N, trivial⟩ (show E.P.funcs[135]? = some Tryz.f135 from by kernel_rfl) (by kernel_rfl)
theorem k_q125 (N : Nat) : ConOk E ⟨71, ps_q125, rs_q125, q125 N⟩ := conOf envOk (x_q125 N) ⟨k_q115 N, k_tape_Get N, trivial⟩ (show E.P.funcs[71]? = some Tryz.f71 from by kernel_rfl) (by kernel_rfl)
theorem k_q126 (N : Nat) : ConOk E ⟨199, ps_q126, rs_q126, q126 N⟩ := conOf envOk (x_q126 N) trivial (show E.P.funcs[199]? = some Tryz.f199 from by kernel_rfl) (by kernel_rfl)
theorem k_q127 (N : Nat) : ConOk E ⟨136, ps_q127, rs_q127, q127 N⟩ := conOf envOk (x_q127 N) ⟨k_q124 N, k_q126 N, trivial⟩ (show E.P.funcs[136]? = some Tryz.f136 from by kernel_rfl) (by kernel_rfl)
theorem k_q128 (N : Nat) : ConOk E ⟨137, ps_q128, rs_q128, q128 N⟩ := conOf envOk (x_q128 N) ⟨k_q106 N, k_q104 N, k_q105 N, trivial⟩ (show E.P.funcs[137]? = some Tryz.f137 from by kernel_rfl) (by kernel_rfl)
theorem k_q129 (N : Nat) : ConOk E ⟨59, ps_q129, rs_q129, q129 N⟩ := conOf envOk (x_q129 N) ⟨k_q18 N, trivial⟩ (show E.P.funcs[59]? = some Tryz.f59 from by kernel_rfl) (by kernel_rfl)
theorem k_stl_Rows (N : Nat) : ConOk E ⟨22, ps_stl_Rows, rs_stl_Rows, stl_Rows N⟩ := conOf envOk (x_stl_Rows N) ⟨k_q83 N, k_q129 N, k_q98 N, trivial⟩ (show E.P.funcs[22]? = some Tryz.f22 from by kernel_rfl) (by kernel_rfl)
theorem k_q130 (N : Nat) : ConOk E ⟨72, ps_q130, rs_q130, q130 N⟩ := conOf envOk (x_q130 N) ⟨k_q127 N, k_q81 N, k_q128 N, k_stl_Rows N, k_stl_add N, k_q59 N, trivial⟩ (show E.P.funcs[72]? = some Tryz.f72 from by kernel_rfl) (by kernel_rfl)
theorem k_q131 (N : Nat) : ConOk E ⟨31, ps_q131, rs_q131, q131 N⟩ := conOf envOk (x_q131 N) ⟨k_q103 N, k_q104 N, k_q105 N, trivial⟩ (show E.P.funcs[31]? = some Tryz.f31 from by kernel_rfl) (by kernel_rfl)
theorem k_q132 (N : Nat) : ConOk E ⟨65, ps_q132, rs_q132, q132 N⟩ := conOf envOk (x_q132 N) ⟨k_q103 N, k_q131 N, k_q104 N, k_q105 N, trivial⟩ (show E.P.funcs[65]? = some Tryz.f65 from by kernel_rfl) (by kernel_rfl)
theorem k_q133 (N : Nat) : ConOk E ⟨52, ps_q133, rs_q133, q133 N⟩ := conOf envOk (x_q133 N) trivial (show E.P.funcs[52]? = some Tryz.f52 from by kernel_rfl) (by kernel_rfl)
theorem k_q134 (N : Nat) : ConOk E ⟨232, ps_q134, rs_q134, q134 N⟩ := conOf envOk (x_q134 N) trivial (show E.P.funcs[232]? = some Tryz.f232 from by kernel_rfl) (by kernel_rfl)
theorem k_q135 (N : Nat) : ConOk E ⟨201, ps_q135, rs_q135, q135 N⟩ := conOf envOk (x_q135 N) ⟨k_q133 N, k_q134 N, trivial⟩ (show E.P.funcs[201]? = some Tryz.f201 from by kernel_rfl) (by kernel_rfl)
theorem k_q136 (N : Nat) : ConOk E ⟨138, ps_q136, rs_q136, q136 N⟩ := conOf envOk (x_q136 N) ⟨k_q135 N, trivial⟩ (show E.P.funcs[138]? = some Tryz.f138 from by kernel_rfl) (by kernel_rfl)
theorem k_q137 (N : Nat) : ConOk E ⟨140, ps_q137, rs_q137, q137 N⟩ := conOf envOk (x_q137 N) ⟨k_q61 N, k_q62 N, trivial⟩ (show E.P.funcs[140]? = some Tryz.f140 from by kernel_rfl) (by kernel_rfl)
theorem k_q138 (N : Nat) : ConOk E ⟨233, ps_q138, rs_q138, q138 N⟩ := conOf envOk (x_q138 N) ⟨k_q137 N, trivial⟩ (show E.P.funcs[233]? = some Tryz.f233 from by kernel_rfl) (by kernel_rfl)
theorem k_q139 (N : Nat) : ConOk E ⟨267, ps_q139, rs_q139, q139 N⟩ := conOf envOk (x_q139 N) ⟨k_q137 N, trivial⟩ (show E.P.funcs[267]? = some Tryz.f267 from by kernel_rfl) (by kernel_rfl)
theorem k_q140 (N : Nat) : ConOk E ⟨254, ps_q140, rs_q140, q140 N⟩ := conOf envOk (x_q140 N) ⟨k_q137 N, k_q139 N, trivial⟩ (show E.P.funcs[254]? = some Tryz.f254 from by kernel_rfl) (by kernel_rfl)
theorem kr_q141 (N : Nat) : ∀ D, ConOk E ⟨234, ps_q141, rs_q141, q141_r N D⟩
 | 0 => fun _ _ h => by cases h
 | D + 1 => by
  have hc : CallsOk E [⟨140, ps_q137, rs_q137, q137 N⟩, ⟨254, ps_q140, rs_q140, q140 N⟩, ⟨234, ps_q141, rs_q141, q141_r N D⟩] := callsOk_all ⟨k_q137 N, k_q140 N, kr_q141 N D, trivial⟩
  rw [← x_q141 N D]
  exact execF_ok envOk hc (drawn_ok envOk hc) (show E.P.funcs[234]? = some Tryz.f234 from by kernel_rfl) (by kernel_rfl) _ _ _
theorem k_q141 (N : Nat) : ConOk E ⟨234, ps_q141, rs_q141, q141 N⟩ := kr_q141 N N
theorem k_q142 (N : Nat) : ConOk E ⟨202, ps_q142, rs_q142, q142 N⟩ := conOf envOk (x_q142 N) ⟨k_q137 N, k_q138 N, k_q141 N, trivial⟩ (show E.P.funcs[202]? = some Tryz.f202 from by kernel_rfl) (by kernel_rfl)
theorem k_q143 (N : Nat) : ConOk E ⟨139, ps_q143, rs_q143, q143 N⟩ := conOf envOk (x_q143 N) ⟨k_q137 N, k_q142 N, trivial⟩ (show E.P.funcs[139]? = some Tryz.f139 from by kernel_rfl) (by kernel_rfl)
theorem k_q144 (N : Nat) : ConOk E ⟨73, ps_q144, rs_q144, q144 N⟩ := conOf envOk (x_q144 N) ⟨k_q136 N, k_q143 N, k_q137 N, trivial⟩ (show E.P.funcs[73]? = some Tryz.f73 from by kernel_rfl) (by kernel_rfl)
theorem k_q145 (N : Nat) : ConOk E ⟨29, ps_q145, rs_q145, q145 N⟩ := conOf envOk (x_q145 N) ⟨k_q125 N, k_q130 N, k_q132 N, k_q144 N, trivial⟩ (show E.P.funcs[29]? = some Tryz.f29 from by kernel_rfl) (by kernel_rfl)
theorem k_q146 (N : Nat) : ConOk E ⟨203, ps_q146, rs_q146, q146 N⟩ := conOf envOk (x_q146 N) trivial (show E.P.funcs[203]? = some Tryz.f203 from by kernel_rfl) (by kernel_rfl)
theorem k_q147 (N : Nat) : ConOk E ⟨204, ps_q147, rs_q147, q147 N⟩ := conOf envOk (x_q147 N) ⟨k_q146 N, trivial⟩ (show E.P.funcs[204]? = some Tryz.f204 from by kernel_rfl) (by kernel_rfl)
theorem k_q148 (N : Nat) : ConOk E ⟨176, ps_q148, rs_q148, q148 N⟩ := conOf envOk (x_q148 N) trivial (show E.P.funcs[176]? = some Tryz.f176 from by kernel_rfl) (by kernel_rfl)
theorem k_q149 (N : Nat) : ConOk E ⟨177, ps_q149, rs_q149, q149 N⟩ := conOf envOk (x_q149 N) trivial (show E.P.funcs[177]? = some Tryz.f177 from by kernel_rfl) (by kernel_rfl)
theorem k_r22_Get (N : Nat) : ConOk E ⟨121, ps_r22_Get, rs_r22_Get, r22_Get N⟩ := conOf envOk (x_r22_Get N) ⟨k_q148 N, k_q149 N, trivial⟩ (show E.P.funcs[121]? = some Tryz.f121 from by kernel_rfl) (by kernel_rfl)
theorem k_q150 (N : Nat) : ConOk E ⟨221, ps_q150, rs_q150, q150 N⟩ := conOf envOk (x_q150 N) trivial (show E.P.funcs[221]? = some Tryz.f221 from by kernel_rfl) (by kernel_rfl)
theorem k_q151 (N : Nat) : ConOk E ⟨173, ps_q151, rs_q151, q151 N⟩ := conOf envOk (x_q151 N) ⟨k_q150 N, trivial⟩ (show E.P.funcs[173]? = some Tryz.f173 from by kernel_rfl) (by kernel_rfl)
theorem k_r08_Of (N : Nat) : ConOk E ⟨178, ps_r08_Of, rs_r08_Of, r08_Of N⟩ := conOf envOk (x_r08_Of N) ⟨k_q151 N, trivial⟩ (show E.P.funcs[178]? = some Tryz.f178 from by kernel_rfl) (by kernel_rfl)
theorem k_q152 (N : Nat) : ConOk E ⟨122, ps_q152, rs_q152, q152 N⟩ := conOf envOk (x_q152 N) ⟨k_r22_Get N, k_r08_Of N, trivial⟩ (show E.P.funcs[122]? = some Tryz.f122 from by kernel_rfl) (by kernel_rfl)
theorem k_q153 (N : Nat) : ConOk E ⟨211, ps_q153, rs_q153, q153 N⟩ := conOf envOk (x_q153 N) trivial (show E.P.funcs[211]? = some Tryz.f211 from by kernel_rfl) (by kernel_rfl)
theorem k_r07_Name (N : Nat) : ConOk E ⟨151, ps_r07_Name, rs_r07_Name, r07_Name N⟩ := conOf envOk (x_r07_Name N) ⟨k_q153 N, trivial⟩ (show E.P.funcs[151]? = some Tryz.f151 from by kernel_rfl) (by kernel_rfl)
theorem k_q154 (N : Nat) : ConOk E ⟨112, ps_q154, rs_q154, q154 N⟩ := conOf envOk (x_q154 N) ⟨k_q151 N, trivial⟩ (show E.P.funcs[112]? = some Tryz.f112 from by kernel_rfl) (by kernel_rfl)
theorem k_q155 (N : Nat) : ConOk E ⟨186, ps_q155, rs_q155, q155 N⟩ := conOf envOk (x_q155 N) trivial (show E.P.funcs[186]? = some Tryz.f186 from by kernel_rfl) (by kernel_rfl)
theorem k_q156 (N : Nat) : ConOk E ⟨89, ps_q156, rs_q156, q156 N⟩ := conOf envOk (x_q156 N) trivial (show E.P.funcs[89]? = some Tryz.f89 from by kernel_rfl) (by kernel_rfl)
theorem k_q157 (N : Nat) : ConOk E ⟨90, ps_q157, rs_q157, q157 N⟩ := conOf envOk (x_q157 N) trivial (show E.P.funcs[90]? = some Tryz.f90 from by kernel_rfl) (by kernel_rfl)
theorem k_r03_kind (N : Nat) : ConOk E ⟨129, ps_r03_kind, rs_r03_kind, r03_kind N⟩ := conOf envOk (x_r03_kind N) ⟨k_q156 N, k_q157 N, trivial⟩ (show E.P.funcs[129]? = some Tryz.f129 from by kernel_rfl) (by kernel_rfl)
theorem k_q158 (N : Nat) : ConOk E ⟨91, ps_q158, rs_q158, q158 N⟩ := conOf envOk (x_q158 N) ⟨k_q156 N, trivial⟩ (show E.P.funcs[91]? = some Tryz.f91 from by kernel_rfl) (by kernel_rfl)
theorem k_q159 (N : Nat) : ConOk E ⟨92, ps_q159, rs_q159, q159 N⟩ := conOf envOk (x_q159 N) trivial (show E.P.funcs[92]? = some Tryz.f92 from by kernel_rfl) (by kernel_rfl)
theorem k_q160 (N : Nat) : ConOk E ⟨208, ps_q160, rs_q160, q160 N⟩ := conOf envOk (x_q160 N) ⟨k_r03_kind N, k_q158 N, k_q159 N, trivial⟩ (show E.P.funcs[208]? = some Tryz.f208 from by kernel_rfl) (by kernel_rfl)
theorem k_q161 (N : Nat) : ConOk E ⟨188, ps_q161, rs_q161, q161 N⟩ := conOf envOk (x_q161 N) ⟨k_r07_Name N, k_q154 N, k_q155 N, k_q160 N, trivial⟩ (show E.P.funcs[188]? = some Tryz.f188 from by kernel_rfl) (by kernel_rfl)
theorem k_q162 (N : Nat) : ConOk E ⟨222, ps_q162, rs_q162, q162 N⟩ := conOf envOk (x_q162 N) trivial (show E.P.funcs[222]? = some Tryz.f222 from by kernel_rfl) (by kernel_rfl)
theorem k_q163 (N : Nat) : ConOk E ⟨174, ps_q163, rs_q163, q163 N⟩ := conOf envOk (x_q163 N) ⟨k_q154 N, k_q162 N, trivial⟩ (show E.P.funcs[174]? = some Tryz.f174 from by kernel_rfl) (by kernel_rfl)
theorem k_q164 (N : Nat) : ConOk E ⟨223, ps_q164, rs_q164, q164 N⟩ := conOf envOk (x_q164 N) ⟨k_q151 N, trivial⟩ (show E.P.funcs[223]? = some Tryz.f223 from by kernel_rfl) (by kernel_rfl)
theorem k_r22_Put (N : Nat) : ConOk E ⟨175, ps_r22_Put, rs_r22_Put, r22_Put N⟩ := conOf envOk (x_r22_Put N) ⟨k_q164 N, k_q148 N, k_q149 N, trivial⟩ (show E.P.funcs[175]? = some Tryz.f175 from by kernel_rfl) (by kernel_rfl)
theorem k_q165 (N : Nat) : ConOk E ⟨116, ps_q165, rs_q165, q165 N⟩ := conOf envOk (x_q165 N) ⟨k_q154 N, k_q163 N, k_r22_Put N, trivial⟩ (show E.P.funcs[116]? = some Tryz.f116 from by kernel_rfl) (by kernel_rfl)
theorem k_r23_fill (N : Nat) : ConOk E ⟨189, ps_r23_fill, rs_r23_fill, r23_fill N⟩ := conOf envOk (x_r23_fill N) trivial (show E.P.funcs[189]? = some Tryz.f189 from by kernel_rfl) (by kernel_rfl)
theorem kr_q166 (N : Nat) : ∀ D, ConOk E ⟨190, ps_q166, rs_q166, q166_r N D⟩
 | 0 => fun _ _ h => by cases h
 | D + 1 => by
  have hc : CallsOk E [⟨190, ps_q166, rs_q166, q166_r N D⟩] := callsOk_all ⟨kr_q166 N D, trivial⟩
  rw [← x_q166 N D]
  exact execF_ok envOk hc (drawn_ok envOk hc) (show E.P.funcs[190]? = some Tryz.f190 from by kernel_rfl) (by kernel_rfl) _ _ _
theorem k_q166 (N : Nat) : ConOk E ⟨190, ps_q166, rs_q166, q166 N⟩ := kr_q166 N N
theorem k_q167 (N : Nat) : ConOk E ⟨191, ps_q167, rs_q167, q167 N⟩ := conOf envOk (x_q167 N) ⟨k_q166 N, trivial⟩ (show E.P.funcs[191]? = some Tryz.f191 from by kernel_rfl) (by kernel_rfl)
theorem k_q168 (N : Nat) : ConOk E ⟨132, ps_q168, rs_q168, q168 N⟩ := conOf envOk (x_q168 N) ⟨k_q161 N, k_q165 N, k_r23_fill N, k_q166 N, k_q167 N, trivial⟩ (show E.P.funcs[132]? = some Tryz.f132 from by kernel_rfl) (by kernel_rfl)
theorem k_q169 (N : Nat) : ConOk E ⟨205, ps_q169, rs_q169, q169 N⟩ := conOf envOk (x_q169 N) trivial (show E.P.funcs[205]? = some Tryz.f205 from by kernel_rfl) (by kernel_rfl)
theorem k_q170 (N : Nat) : ConOk E ⟨141, ps_q170, rs_q170, q170 N⟩ := conOf envOk (x_q170 N) ⟨k_q146 N, k_q147 N, k_q152 N, k_q168 N, k_q169 N, trivial⟩ (show E.P.funcs[141]? = some Tryz.f141 from by kernel_rfl) (by kernel_rfl)
theorem k_q171 (N : Nat) : ConOk E ⟨206, ps_q171, rs_q171, q171 N⟩ := conOf envOk (x_q171 N) trivial (show E.P.funcs[206]? = some Tryz.f206 from by kernel_rfl) (by kernel_rfl)
theorem k_q172 (N : Nat) : ConOk E ⟨187, ps_q172, rs_q172, q172 N⟩ := conOf envOk (x_q172 N) ⟨k_q155 N, trivial⟩ (show E.P.funcs[187]? = some Tryz.f187 from by kernel_rfl) (by kernel_rfl)
theorem k_q173 (N : Nat) : ConOk E ⟨131, ps_q173, rs_q173, q173 N⟩ := conOf envOk (x_q173 N) trivial (show E.P.funcs[131]? = some Tryz.f131 from by kernel_rfl) (by kernel_rfl)
theorem k_q174 (N : Nat) : ConOk E ⟨130, ps_q174, rs_q174, q174 N⟩ := conOf envOk (x_q174 N) ⟨k_q155 N, k_q172 N, k_q173 N, trivial⟩ (show E.P.funcs[130]? = some Tryz.f130 from by kernel_rfl) (by kernel_rfl)
theorem k_r23_Put (N : Nat) : ConOk E ⟨133, ps_r23_Put, rs_r23_Put, r23_Put N⟩ := conOf envOk (x_r23_Put N) ⟨k_q174 N, k_r23_fill N, trivial⟩ (show E.P.funcs[133]? = some Tryz.f133 from by kernel_rfl) (by kernel_rfl)
theorem k_r23_Get (N : Nat) : ConOk E ⟨142, ps_r23_Get, rs_r23_Get, r23_Get N⟩ := conOf envOk (x_r23_Get N) ⟨k_q171 N, k_r23_Put N, k_q169 N, trivial⟩ (show E.P.funcs[142]? = some Tryz.f142 from by kernel_rfl) (by kernel_rfl)
theorem k_r23_Read (N : Nat) : ConOk E ⟨74, ps_r23_Read, rs_r23_Read, r23_Read N⟩ := conOf envOk (x_r23_Read N) ⟨k_q170 N, k_r23_Get N, trivial⟩ (show E.P.funcs[74]? = some Tryz.f74 from by kernel_rfl) (by kernel_rfl)
theorem k_q175 (N : Nat) : ConOk E ⟨207, ps_q175, rs_q175, q175 N⟩ := conOf envOk (x_q175 N) trivial (show E.P.funcs[207]? = some Tryz.f207 from by kernel_rfl) (by kernel_rfl)
theorem k_r23_Join (N : Nat) : ConOk E ⟨143, ps_r23_Join, rs_r23_Join, r23_Join N⟩ := conOf envOk (x_r23_Join N) ⟨k_q174 N, k_q175 N, trivial⟩ (show E.P.funcs[143]? = some Tryz.f143 from by kernel_rfl) (by kernel_rfl)
theorem k_q176 (N : Nat) : ConOk E ⟨144, ps_q176, rs_q176, q176 N⟩ := conOf envOk (x_q176 N) ⟨k_q160 N, k_q158 N, k_q159 N, trivial⟩ (show E.P.funcs[144]? = some Tryz.f144 from by kernel_rfl) (by kernel_rfl)
theorem k_q177 (N : Nat) : ConOk E ⟨114, ps_q177, rs_q177, q177 N⟩ := conOf envOk (x_q177 N) trivial (show E.P.funcs[114]? = some Tryz.f114 from by kernel_rfl) (by kernel_rfl)
theorem k_q178 (N : Nat) : ConOk E ⟨120, ps_q178, rs_q178, q178 N⟩ := conOf envOk (x_q178 N) ⟨k_q177 N, trivial⟩ (show E.P.funcs[120]? = some Tryz.f120 from by kernel_rfl) (by kernel_rfl)
theorem k_r09_Norm (N : Nat) : ConOk E ⟨96, ps_r09_Norm, rs_r09_Norm, r09_Norm N⟩ := conOf envOk (x_r09_Norm N) trivial (show E.P.funcs[96]? = some Tryz.f96 from by kernel_rfl) (by kernel_rfl)
theorem k_q179 (N : Nat) : ConOk E ⟨61, ps_q179, rs_q179, q179 N⟩ := conOf envOk (x_q179 N) ⟨k_q178 N, k_r22_Get N, k_q152 N, k_r09_Norm N, trivial⟩ (show E.P.funcs[61]? = some Tryz.f61 from by kernel_rfl) (by kernel_rfl)
theorem k_r24_Rows (N : Nat) : ConOk E ⟨23, ps_r24_Rows, rs_r24_Rows, r24_Rows N⟩ := conOf envOk (x_r24_Rows N) ⟨k_q179 N, trivial⟩ (show E.P.funcs[23]? = some Tryz.f23 from by kernel_rfl) (by kernel_rfl)
theorem k_q180 (N : Nat) : ConOk E ⟨93, ps_q180, rs_q180, q180 N⟩ := conOf envOk (x_q180 N) trivial (show E.P.funcs[93]? = some Tryz.f93 from by kernel_rfl) (by kernel_rfl)
theorem k_q181 (N : Nat) : ConOk E ⟨38, ps_q181, rs_q181, q181 N⟩ := conOf envOk (x_q181 N) ⟨k_q180 N, trivial⟩ (show E.P.funcs[38]? = some Tryz.f38 from by kernel_rfl) (by kernel_rfl)
theorem k_r24_with (N : Nat) : ConOk E ⟨37, ps_r24_with, rs_r24_with, r24_with N⟩ := conOf envOk (x_r24_with N) trivial (show E.P.funcs[37]? = some Tryz.f37 from by kernel_rfl) (by kernel_rfl)
theorem k_q182 (N : Nat) : ConOk E ⟨153, ps_q182, rs_q182, q182 N⟩ := conOf envOk (x_q182 N) trivial (show E.P.funcs[153]? = some Tryz.f153 from by kernel_rfl) (by kernel_rfl)
theorem k_q183 (N : Nat) : ConOk E ⟨159, ps_q183, rs_q183, q183 N⟩ := conOf envOk (x_q183 N) trivial (show E.P.funcs[159]? = some Tryz.f159 from by kernel_rfl) (by kernel_rfl)
theorem k_r10_Find (N : Nat) : ConOk E ⟨95, ps_r10_Find, rs_r10_Find, r10_Find N⟩ := conOf envOk (x_r10_Find N) ⟨k_q183 N, trivial⟩ (show E.P.funcs[95]? = some Tryz.f95 from by kernel_rfl) (by kernel_rfl)
theorem k_q184 (N : Nat) : ConOk E ⟨113, ps_q184, rs_q184, q184 N⟩ := conOf envOk (x_q184 N) trivial (show E.P.funcs[113]? = some Tryz.f113 from by kernel_rfl) (by kernel_rfl)
theorem k_q185 (N : Nat) : ConOk E ⟨57, ps_q185, rs_q185, q185 N⟩ := conOf envOk (x_q185 N) ⟨k_q154 N, k_q184 N, trivial⟩ (show E.P.funcs[57]? = some Tryz.f57 from by kernel_rfl) (by kernel_rfl)
theorem k_q186 (N : Nat) : ConOk E ⟨155, ps_q186, rs_q186, q186 N⟩ := conOf envOk (x_q186 N) trivial (show E.P.funcs[155]? = some Tryz.f155 from by kernel_rfl) (by kernel_rfl)
theorem k_r11_neat (N : Nat) : ConOk E ⟨154, ps_r11_neat, rs_r11_neat, r11_neat N⟩ := conOf envOk (x_r11_neat N) trivial (show E.P.funcs[154]? = some Tryz.f154 from by kernel_rfl) (by kernel_rfl)
theorem k_r08_Len (N : Nat) : ConOk E ⟨212, ps_r08_Len, rs_r08_Len, r08_Len N⟩ := conOf envOk (x_r08_Len N) ⟨k_q154 N, k_q162 N, trivial⟩ (show E.P.funcs[212]? = some Tryz.f212 from by kernel_rfl) (by kernel_rfl)
theorem k_r09_Len (N : Nat) : ConOk E ⟨156, ps_r09_Len, rs_r09_Len, r09_Len N⟩ := conOf envOk (x_r09_Len N) ⟨k_r08_Len N, trivial⟩ (show E.P.funcs[156]? = some Tryz.f156 from by kernel_rfl) (by kernel_rfl)
theorem k_q187 (N : Nat) : ConOk E ⟨152, ps_q187, rs_q187, q187 N⟩ := conOf envOk (x_q187 N) ⟨k_r07_Name N, trivial⟩ (show E.P.funcs[152]? = some Tryz.f152 from by kernel_rfl) (by kernel_rfl)
theorem k_q188 (N : Nat) : ConOk E ⟨213, ps_q188, rs_q188, q188 N⟩ := conOf envOk (x_q188 N) ⟨k_q187 N, k_q183 N, trivial⟩ (show E.P.funcs[213]? = some Tryz.f213 from by kernel_rfl) (by kernel_rfl)
theorem k_q189 (N : Nat) : ConOk E ⟨157, ps_q189, rs_q189, q189 N⟩ := conOf envOk (x_q189 N) ⟨k_q188 N, trivial⟩ (show E.P.funcs[157]? = some Tryz.f157 from by kernel_rfl) (by kernel_rfl)
theorem k_q190 (N : Nat) : ConOk E ⟨85, ps_q190, rs_q190, q190 N⟩ := conOf envOk (x_q190 N) ⟨k_q182 N, k_r10_Find N, k_r07_Name N, k_q185 N, k_q186 N, k_r11_neat N, k_r09_Len N, k_q189 N, trivial⟩ (show E.P.funcs[85]? = some Tryz.f85 from by kernel_rfl) (by kernel_rfl)
theorem k_q191 (N : Nat) : ConOk E ⟨75, ps_q191, rs_q191, q191 N⟩ := conOf envOk (x_q191 N) ⟨k_r23_Join N, k_q176 N, k_r24_Rows N, k_q181 N, k_r24_with N, k_q190 N, trivial⟩ (show E.P.funcs[75]? = some Tryz.f75 from by kernel_rfl) (by kernel_rfl)
theorem k_r11_Less (N : Nat) : ConOk E ⟨86, ps_r11_Less, rs_r11_Less, r11_Less N⟩ := conOf envOk (x_r11_Less N) trivial (show E.P.funcs[86]? = some Tryz.f86 from by kernel_rfl) (by kernel_rfl)
theorem k_q192 (N : Nat) : ConOk E ⟨209, ps_q192, rs_q192, q192 N⟩ := conOf envOk (x_q192 N) trivial (show E.P.funcs[209]? = some Tryz.f209 from by kernel_rfl) (by kernel_rfl)
theorem k_q193 (N : Nat) : ConOk E ⟨145, ps_q193, rs_q193, q193 N⟩ := conOf envOk (x_q193 N) ⟨k_q192 N, trivial⟩ (show E.P.funcs[145]? = some Tryz.f145 from by kernel_rfl) (by kernel_rfl)
theorem k_r12_Sort (N : Nat) : ConOk E ⟨76, ps_r12_Sort, rs_r12_Sort, r12_Sort N⟩ := conOf envOk (x_r12_Sort N) ⟨k_r11_Less N, k_q193 N, trivial⟩ (show E.P.funcs[76]? = some Tryz.f76 from by kernel_rfl) (by kernel_rfl)
theorem k_q194 (N : Nat) : ConOk E ⟨30, ps_q194, rs_q194, q194 N⟩ := conOf envOk (x_q194 N) ⟨k_r23_Read N, k_q191 N, k_r12_Sort N, trivial⟩ (show E.P.funcs[30]? = some Tryz.f30 from by kernel_rfl) (by kernel_rfl)
theorem k_q195 (N : Nat) : ConOk E ⟨40, ps_q195, rs_q195, q195 N⟩ := conOf envOk (x_q195 N) trivial (show E.P.funcs[40]? = some Tryz.f40 from by kernel_rfl) (by kernel_rfl)
theorem k_q196 (N : Nat) : ConOk E ⟨41, ps_q196, rs_q196, q196 N⟩ := conOf envOk (x_q196 N) trivial (show E.P.funcs[41]? = some Tryz.f41 from by kernel_rfl) (by kernel_rfl)
theorem k_q197 (N : Nat) : ConOk E ⟨123, ps_q197, rs_q197, q197 N⟩ := conOf envOk (x_q197 N) trivial (show E.P.funcs[123]? = some Tryz.f123 from by kernel_rfl) (by kernel_rfl)
theorem k_q198 (N : Nat) : ConOk E ⟨63, ps_q198, rs_q198, q198 N⟩ := conOf envOk (x_q198 N) ⟨k_q197 N, trivial⟩ (show E.P.funcs[63]? = some Tryz.f63 from by kernel_rfl) (by kernel_rfl)
theorem k_q199 (N : Nat) : ConOk E ⟨62, ps_q199, rs_q199, q199 N⟩ := conOf envOk (x_q199 N) ⟨k_q198 N, trivial⟩ (show E.P.funcs[62]? = some Tryz.f62 from by kernel_rfl) (by kernel_rfl)
theorem k_q200 (N : Nat) : ConOk E ⟨25, ps_q200, rs_q200, q200 N⟩ := conOf envOk (x_q200 N) ⟨k_q199 N, k_q198 N, trivial⟩ (show E.P.funcs[25]? = some Tryz.f25 from by kernel_rfl) (by kernel_rfl)
theorem k_q201 (N : Nat) : ConOk E ⟨43, ps_q201, rs_q201, q201 N⟩ := conOf envOk (x_q201 N) ⟨k_q200 N, trivial⟩ (show E.P.funcs[43]? = some Tryz.f43 from by kernel_rfl) (by kernel_rfl)
theorem k_q202 (N : Nat) : ConOk E ⟨42, ps_q202, rs_q202, q202 N⟩ := conOf envOk (x_q202 N) ⟨k_q201 N, trivial⟩ (show E.P.funcs[42]? = some Tryz.f42 from by kernel_rfl) (by kernel_rfl)
theorem k_q203 (N : Nat) : ConOk E ⟨44, ps_q203, rs_q203, q203 N⟩ := conOf envOk (x_q203 N) trivial (show E.P.funcs[44]? = some Tryz.f44 from by kernel_rfl) (by kernel_rfl)
theorem k_q204 (N : Nat) : ConOk E ⟨15, ps_q204, rs_q204, q204 N⟩ := conOf envOk (x_q204 N) ⟨k_q195 N, k_q196 N, k_q202 N, k_q201 N, k_q203 N, trivial⟩ (show E.P.funcs[15]? = some Tryz.f15 from by kernel_rfl) (by kernel_rfl)
theorem k_l24_StlDecodes (N : Nat) : ConOk E ⟨8, ps_l24_StlDecodes, rs_l24_StlDecodes, l24_StlDecodes N⟩ := conOf envOk (x_l24_StlDecodes N) ⟨k_l24_awake N, k_q145 N, k_q194 N, k_q204 N, trivial⟩ (show E.P.funcs[8]? = some Tryz.f8 from by kernel_rfl) (by kernel_rfl)
end
end Go.Mo
end

section
/-
  Plain facts on the words of models; what is made of bytes.
-/
namespace Go.Mo
open Go Go.W
theorem grd_t {α : Type} {b : Bool} {k : Option α} (h : b = true) : grd b k = k := by subst h; rfl
theorem cnd_t {α : Type} {b : Bool} {x y : Option α} (h : b = true) : cnd b x y = x := by subst h; rfl
theorem cnd_f {α : Type} {b : Bool} {x y : Option α} (h : b = false) : cnd b x y = y := by subst h; rfl
theorem bnd_s {α β : Type} {x : Option α} {a : α} {k : α → Option β} (h : x = some a) : bnd x k = k a := by subst h; rfl
theorem jn_e {F α : Type} {k : F} {t : F → Option α} : jn k t = t k := rfl
theorem fixN_s {V R : Type} {F : (V → Option R) → V → Option R} {n : Nat} {v : V} : fixN F (n + 1) v = F (fixN F n) v := rfl
theorem w64_id {x : Int} (h : -9223372036854775808 ≤ x ∧ x ≤ 9223372036854775807) : w64 x = x := by
 show IntKind.wrap .i64 x = x
 unfold IntKind.wrap
 simp only [IntKind.bits, IntKind.signed, Bool.true_and, decide_eq_true_eq, show (2 : Int) ^ 64 = 18446744073709551616 from rfl, show (2 : Int) ^ (64 - 1) = 9223372036854775808 from rfl]
 split <;> omega
theorem wru64_id {x : Int} (h : 0 ≤ x ∧ x < 18446744073709551616) : wr .u64 x = x := by
 show IntKind.wrap .u64 x = x
 unfold IntKind.wrap
 simp only [IntKind.bits, IntKind.signed, Bool.false_and, Bool.false_eq_true, if_false]
 omega
theorem ilt_t {a b : Int} (h : a < b) : ilt a b = true := decide_eq_true h
theorem ilt_f {a b : Int} (h : ¬ a < b) : ilt a b = false := decide_eq_false h
theorem ile_t {a b : Int} (h : a ≤ b) : ile a b = true := decide_eq_true h
theorem ile_f {a b : Int} (h : ¬ a ≤ b) : ile a b = false := decide_eq_false h
theorem ieq_t {a b : Int} (h : a = b) : ieq a b = true := by subst h; simp [ieq]
theorem ieq_f {a b : Int} (h : a ≠ b) : ieq a b = false := by simp [ieq, h]
theorem ine_t {a b : Int} (h : a ≠ b) : ine a b = true := by simp [ine, h]
theorem ine_f {a b : Int} (h : a = b) : ine a b = false := by simp [ine, h]
theorem inb_t {i n : Int} (h : 0 ≤ i ∧ i < n) : inb i n = true := decide_eq_true h
theorem in2_t {i n : Int} (h : 0 ≤ i ∧ i ≤ n) : in2 i n = true := decide_eq_true h
theorem in3_t {l h n : Int} (q : 0 ≤ l ∧ l ≤ h ∧ h ≤ n) : in3 l h n = true := decide_eq_true q
theorem room_t {n : Int} {b : Nat} (h : n * b ≤ 140737488355328) : room n b = true := decide_eq_true h
theorem mkOk_t {l c : Int} {b : Nat} (h : 0 ≤ l ∧ l ≤ c ∧ c * b ≤ 140737488355328) : mkOk l c b = true := decide_eq_true h
theorem rep_loop {b : UInt8} {n : Nat} (hn : n ≤ 1024) : ∀ (fuel bp : Nat) (buf : List UInt8), n - bp < fuel → 1 ≤ bp → bp ≤ n → buf.length = n → buf.take bp = List.replicate bp b →
  fixN (fun v5 (v6 : Int × List UInt8) =>
        cnd (ilt v6.1 (n : Int))
         (grd (in2 v6.1 (ofN (nlen v6.2)))
          (grd (in2 (imin v6.1 (n : Int)) (ofN (nlen v6.2)))
           (v5 (w64 (iadd v6.1 (imin (len (cutl v6.2 0 (toN (imin v6.1 (n : Int))))) (ofN (nsub (nlen v6.2) (toN v6.1))))), putl v6.2 (toN v6.1) (ltake (nsub (nlen v6.2) (toN v6.1)) (cutl v6.2 0 (toN (imin v6.1 (n : Int)))))))))
         (some v6.2)) fuel ((bp : Int), buf) = some (List.replicate n b)
 | 0, bp, buf, h, _, _, _, _ => by omega
 | fuel + 1, bp, buf, h, h1, h2, h3, h4 => by
  rw [fixN_s]
  simp only
  by_cases he : bp = n
  ·subst he
   rw [cnd_f (ilt_f (by omega))]
   rw [← h3, List.take_length, h3] at h4
   rw [h4]
  ·have hmin : imin (bp : Int) (n : Int) = (bp : Int) := by show min (bp : Int) n = bp; omega
   rw [cnd_t (ilt_t (by omega)), grd_t (in2_t (by simp only [ofN, nlen]; omega)), hmin, grd_t (in2_t (by simp only [ofN, nlen]; omega))]
   have hc : cutl buf 0 (toN (bp : Int)) = List.replicate bp b := by
    simp only [cutl, toN, List.drop_zero, Int.toNat_natCast]
    exact h4
   have hsub : nsub (nlen buf) (toN (bp : Int)) = n - bp := by simp [nsub, nlen, toN, h3]
   rw [hc, hsub]
   have hl : imin (len (List.replicate bp b)) (ofN (n - bp)) = ((min bp (n - bp) : Nat) : Int) := by
    simp only [imin, len, ofN, List.length_replicate]; omega
   have hw : w64 (iadd (bp : Int) (imin (len (List.replicate bp b)) (ofN (n - bp)))) = ((bp + min bp (n - bp) : Nat) : Int) := by
    rw [hl]
    simp only [iadd]
    rw [w64_id (by omega)]
    omega
   rw [hw]
   have ht : ltake (n - bp) (List.replicate bp b) = List.replicate (min bp (n - bp)) b := by
    simp only [ltake, List.take_replicate]
    rw [Nat.min_comm]
   rw [ht]
   have hp : putl buf (toN (bp : Int)) (List.replicate (min bp (n - bp)) b) = List.replicate (bp + min bp (n - bp)) b ++ buf.drop (bp + min bp (n - bp)) := by
    simp only [putl, toN, Int.toNat_natCast, List.length_replicate]
    rw [h4, List.replicate_append_replicate]
   rw [hp]
   refine rep_loop hn fuel _ _ (by omega) (by omega) (by omega) ?_ ?_
   ·simp [h3]; omega
   ·rw [List.take_left' (by simp)]
theorem n8_inj {a b : UInt8} (h : n8 a = n8 b) : a = b := by
 unfold n8 at h
 apply UInt8.toNat_inj.1
 omega
end Go.Mo
end

section
/-
  Plain facts: rates, labels, the repertoire of characters.
-/
namespace Go.Mo
open Go Go.W
set_option maxRecDepth 100000
theorem all_u8 {P : UInt8 → Bool} (h : ((List.range 256).all fun n => P (UInt8.ofNat n)) = true) (x : UInt8) : P x = true := by
 have h1 : x.toNat < 256 := x.toNat_lt
 have := List.all_eq_true.1 h x.toNat (List.mem_range.2 h1)
 simpa using this
end Go.Mo
end

section
/-
  Plain facts: the repertoire of characters.
-/
namespace Go.Mo
open Go Go.W
set_option maxRecDepth 100000
noncomputable def fuelM : Nat := Classical.choose (⟨7995000, rfl⟩ : ∃ n : Nat, n = 7995000)
noncomputable def fuelH : Nat := fuelM + 5000
theorem fuelH_eq : fuelH = 8000000 := by
 have h : fuelM = 7995000 := Classical.choose_spec (⟨7995000, rfl⟩ : ∃ n : Nat, n = 7995000)
 unfold fuelH
 rw [h]
noncomputable def hiRunes : List Int := [161, 162, 163, 164, 165, 166, 167, 169, 171, 174, 176, 183, 187, 189, 191, 192, 193, 194, 195, 196, 197, 198, 199, 200, 201, 202, 203, 204, 205, 206, 207, 209, 210, 211, 212, 213, 214, 216, 217, 218, 219, 220, 223, 224, 225, 226, 227, 228, 229, 230, 231, 232, 233, 234, 235, 236, 237, 238, 239, 241, 242, 243, 244, 245, 246, 248, 249, 250, 251, 252, 338, 339, 8212, 8216, 8217, 8220, 8221, 8226, 8230, 8482, 9834]
noncomputable def loRunes : List Int := (List.range 95).map fun n => ((n + 32 : Nat) : Int)
noncomputable def chain : List Int → Int → Int → Option Int
 | [], _, _ => some (-1)
 | c :: l, i, r => cnd (ieq c r) (some i) (chain l (iadd i 1) r)
noncomputable def rep : List UInt8 := [32, 33, 34, 35, 36, 37, 38, 39, 40, 41, 42, 43, 44, 45, 46, 47, 48, 49, 50, 51, 52, 53, 54, 55, 56, 57, 58, 59, 60, 61, 62, 63, 64, 65, 66, 67, 68, 69, 70, 71, 72, 73, 74, 75, 76, 77, 78, 79, 80, 81, 82, 83, 84, 85, 86, 87, 88, 89, 90, 91, 92, 93, 94, 95, 96, 97, 98, 99, 100, 101, 102, 103, 104, 105, 106, 107, 108, 109, 110, 111, 112, 113, 114, 115, 116, 117, 118, 119, 120, 121, 122, 123, 124, 125, 126, 194, 161, 194, 162, 194, 163, 194, 164, 194, 165, 194, 166, 194, 167, 194, 169, 194, 171, 194, 174, 194, 176, 194, 183, 194, 187, 194, 189, 194, 191, 195, 128, 195, 129, 195, 130, 195, 131, 195, 132, 195, 133, 195, 134, 195, 135, 195, 136, 195, 137, 195, 138, 195, 139, 195, 140, 195, 141, 195, 142, 195, 143, 195, 145, 195, 146, 195, 147, 195, 148, 195, 149, 195, 150, 195, 152, 195, 153, 195, 154, 195, 155, 195, 156, 195, 159, 195, 160, 195, 161, 195, 162, 195, 163, 195, 164, 195, 165, 195, 166, 195, 167, 195, 168, 195, 169, 195, 170, 195, 171, 195, 172, 195, 173, 195, 174, 195, 175, 195, 177, 195, 178, 195, 179, 195, 180, 195, 181, 195, 182, 195, 184, 195, 185, 195, 186, 195, 187, 195, 188, 197, 146, 197, 147, 226, 128, 148, 226, 128, 152, 226, 128, 153, 226, 128, 156, 226, 128, 157, 226, 128, 162, 226, 128, 166, 226, 132, 162, 226, 153, 170]
theorem place_eqN (N : Nat) (r : Int) : q12 (N + 300) (rep, r) = chain (loRunes ++ hiRunes) 0 r := by kernel_rfl
theorem place_eq (r : Int) : q12 fuelH (rep, r) = chain (loRunes ++ hiRunes) 0 r := place_eqN (fuelM + 4700) r
theorem r08_indexN (N : Nat) (r : Int) : q151 N r = cnd (ile 32 r) (cnd (ile r 126) (some (w64 (wr .i32 (isub r 32)))) (q12 N (rep, r))) (q12 N (rep, r)) := by kernel_rfl
theorem r08_index (r : Int) : q151 fuelH r = cnd (ile 32 r) (cnd (ile r 126) (some (w64 (wr .i32 (isub r 32)))) (q12 fuelH (rep, r))) (q12 fuelH (rep, r)) := r08_indexN fuelH r
theorem ch_indexN (N : Nat) (r : Int) : q13 N r = cnd (ile 32 r) (cnd (ile r 126) (some (w64 (wr .i32 (isub r 32)))) (bnd (q12 N (rep, r)) fun v => some v)) (bnd (q12 N (rep, r)) fun v => some v) := by kernel_rfl
theorem ch_index (r : Int) : q13 fuelH r = cnd (ile 32 r) (cnd (ile r 126) (some (w64 (wr .i32 (isub r 32)))) (bnd (q12 fuelH (rep, r)) fun v => some v)) (bnd (q12 fuelH (rep, r)) fun v => some v) := ch_indexN fuelH r
theorem chain_ok : ∀ (l : List Int) (i r : Int), 0 ≤ i → ∃ k, chain l i r = some k ∧ (k < 0 ↔ l.contains r = false)
 | [], i, r, _ => ⟨-1, rfl, by simp⟩
 | c :: l, i, r, h => by
  by_cases hc : c = r
  ·exact ⟨i, by simp only [chain]; rw [cnd_t (ieq_t hc)], by subst hc; simp; omega⟩
  ·obtain ⟨k, h1, h2⟩ := chain_ok l (iadd i 1) r (by show 0 ≤ i + 1; omega)
   refine ⟨k, by simp only [chain]; rw [cnd_f (ieq_f hc)]; exact h1, ?_⟩
   rw [h2]
   simp only [List.contains_cons, Bool.or_eq_false_iff]
   exact ⟨fun h => ⟨by simpa using fun e => hc e.symm, h⟩, fun h => h.2⟩
noncomputable def inRep (r : Int) : Bool := (decide (32 ≤ r) && decide (r ≤ 126)) || hiRunes.contains r
theorem wi32_id {x : Int} (h : 0 ≤ x ∧ x < 1000) : wr .i32 x = x := by
 show IntKind.wrap .i32 x = x
 unfold IntKind.wrap
 simp only [IntKind.bits, IntKind.signed, Bool.true_and, decide_eq_true_eq, show (2 : Int) ^ 32 = 4294967296 from rfl, show (2 : Int) ^ (32 - 1) = 2147483648 from rfl]
 split <;> omega
theorem lo_mem (r : Int) : loRunes.contains r = (decide (32 ≤ r) && decide (r ≤ 126)) := by
 rw [Bool.eq_iff_iff]
 simp only [loRunes, List.contains_iff_mem, List.mem_map, List.mem_range, Bool.and_eq_true, decide_eq_true_eq]
 constructor
 ·rintro ⟨n, hn, rfl⟩; omega
 ·intro h; exact ⟨(r - 32).toNat, by omega, by omega⟩
theorem index_some (r : Int) : ∃ i, q13 fuelH r = some i ∧ q151 fuelH r = some i ∧ (i < 0 ↔ inRep r = false) := by
 rw [ch_index, r08_index, place_eq]
 obtain ⟨k, h1, h2⟩ := chain_ok (loRunes ++ hiRunes) 0 r (Int.le_refl _)
 have hin : (loRunes ++ hiRunes).contains r = inRep r := by
  unfold inRep
  rw [← lo_mem]
  simp [List.contains_eq_mem, List.mem_append]
 rw [hin] at h2
 by_cases ha : 32 ≤ r
 ·rw [cnd_t (ile_t ha), cnd_t (ile_t ha)]
  by_cases hb : r ≤ 126
  ·rw [cnd_t (ile_t hb), cnd_t (ile_t hb)]
   refine ⟨_, rfl, rfl, ?_⟩
   have : w64 (wr .i32 (isub r 32)) = r - 32 := by
    simp only [isub]
    rw [wi32_id (by omega), w64_id (by omega)]
   rw [this]
   simp [inRep, ha, hb]
  ·rw [cnd_f (ile_f hb), cnd_f (ile_f hb)]
   exact ⟨k, by rw [bnd_s h1], h1, h2⟩
 ·rw [cnd_f (ile_f ha), cnd_f (ile_f ha)]
  exact ⟨k, by rw [bnd_s h1], h1, h2⟩
theorem index_stl (r : Int) : ∃ i, q13 fuelH r = some i ∧ (i < 0 ↔ inRep r = false) := by
 rw [ch_index, place_eq]
 obtain ⟨k, h1, h2⟩ := chain_ok (loRunes ++ hiRunes) 0 r (Int.le_refl _)
 have hin : (loRunes ++ hiRunes).contains r = inRep r := by
  unfold inRep
  rw [← lo_mem]
  simp [List.contains_eq_mem, List.mem_append]
 rw [hin] at h2
 by_cases ha : 32 ≤ r
 ·rw [cnd_t (ile_t ha)]
  by_cases hb : r ≤ 126
  ·rw [cnd_t (ile_t hb)]
   refine ⟨_, rfl, ?_⟩
   have : w64 (wr .i32 (isub r 32)) = r - 32 := by
    simp only [isub]
    rw [wi32_id (by omega), w64_id (by omega)]
   rw [this]
   simp [inRep, ha, hb]
  ·rw [cnd_f (ile_f hb)]
   exact ⟨k, by rw [bnd_s h1], h2⟩
 ·rw [cnd_f (ile_f ha)]
  exact ⟨k, by rw [bnd_s h1], h2⟩
end Go.Mo
end

section
/-
  Plain facts: texts of the repertoire.
-/
namespace Go.Mo
open Go Go.W Go.Lib
set_option maxRecDepth 100000
theorem dec_pos (l : List UInt8) : 1 ≤ (decodeL l).2 := by
 unfold decodeL Utf8.decode
 simp only
 repeat' split
 all_goals first | exact Nat.le_refl _ | (show 1 ≤ _; omega)
theorem decR_eq (s : List UInt8) (p : Nat) : decR s p = ((decodeL (s.drop p)).1 : Int) := by
 have := decodeL_drop (bst s) p
 have e : (bst s).data.toList = s := rfl
 rw [e] at this
 unfold decR
 rw [this]
theorem decW_eq (s : List UInt8) (p : Nat) : decW s p = (decodeL (s.drop p)).2 := by
 have := decodeL_drop (bst s) p
 have e : (bst s).data.toList = s := rfl
 rw [e] at this
 unfold decW
 rw [this]
noncomputable def rok : Nat → List UInt8 → Bool
 | 0, _ => true
 | n + 1, l => if l = [] then true else if inRep ((decodeL l).1 : Int) = true then rok n (l.drop (decodeL l).2) else false
noncomputable def vld (l : List UInt8) : Bool := rok l.length l
theorem rok_nil : ∀ n, rok n [] = true
 | 0 => rfl
 | n + 1 => by simp [rok]
theorem rok_fuel : ∀ (n m : Nat) (l : List UInt8), l.length ≤ n → l.length ≤ m → rok n l = rok m l
 | 0, m, l, h, _ => by
  have : l = [] := List.eq_nil_of_length_eq_zero (by omega)
  subst this
  rw [rok_nil, rok_nil]
 | n + 1, 0, l, _, h => by
  have : l = [] := List.eq_nil_of_length_eq_zero (by omega)
  subst this
  rw [rok_nil, rok_nil]
 | n + 1, m + 1, l, h1, h2 => by
  by_cases hl : l = []
  ·subst hl; rw [rok_nil, rok_nil]
  ·have hp := dec_pos l
   have hlen : 0 < l.length := List.length_pos_iff.2 hl
   simp only [rok, hl, if_false]
   split
   ·exact rok_fuel n m _ (by simp; omega) (by simp; omega)
   ·rfl
theorem vld_step (l : List UInt8) (hl : l ≠ []) : vld l = if inRep ((decodeL l).1 : Int) = true then vld (l.drop (decodeL l).2) else false := by
 have hp := dec_pos l
 have hlen : 0 < l.length := List.length_pos_iff.2 hl
 unfold vld
 obtain ⟨n, hn⟩ : ∃ n, l.length = n + 1 := ⟨l.length - 1, by omega⟩
 rw [hn]
 simp only [rok, hl, if_false]
 split
 ·exact rok_fuel _ _ _ (by simp; omega) (Nat.le_refl _)
 ·rfl
theorem vld_valid : ∀ (n : Nat) (l : List UInt8), l.length ≤ n → vld l = true → validD l = true
 | n, l, h, hv => by
  by_cases hl : l = []
  ·subst hl; rfl
  ·have hlen : 0 < l.length := List.length_pos_iff.2 hl
   have hp := dec_pos l
   rw [vld_step l hl] at hv
   split at hv
   ·rename_i hr
    rw [validD_step l hl, if_neg ?_]
    ·cases n with
     | zero => omega
     | succ n => exact vld_valid n _ (by simp; omega) hv
    ·rintro ⟨e, _⟩
     rw [e] at hr
     exact absurd hr (by decide)
   ·cases hv
theorem valid_loop {s : List UInt8} (hs : s.length ≤ 100000000) (Ix : Int → Option Int) (hI : ∀ r : Int, ∃ i, Ix r = some i ∧ (i < 0 ↔ inRep r = false)) : ∀ (fuel p : Nat), s.length - p < fuel → p ≤ s.length →
  fixN (fun v2 (v3 : (List UInt8) × Int) =>
  cnd (nlt (toN v3.2) (nlen v3.1))
   (bnd (Ix (decR v3.1 (toN v3.2))) fun v4 =>
   cnd (ilt v4 (0 : Int))
    (some false)
    (v2 (v3.1, ofN (nadd (toN v3.2) (decW v3.1 (toN v3.2))))))
   (some true)) fuel (s, ofN p) = some (vld (s.drop p))
 | 0, p, h, _ => by omega
 | fuel + 1, p, h, hp => by
  rw [fixN_s]
  have et : toN (ofN p) = p := by simp [toN, ofN]
  simp only [et]
  by_cases hl : p < s.length
  ·have hne : s.drop p ≠ [] := by intro e; have := congrArg List.length e; simp at this; omega
   have hw := dec_pos (s.drop p)
   have hle := decodeL_le (s.drop p) hne
   rw [List.length_drop] at hle
   rw [cnd_t (show nlt p (nlen s) = true from decide_eq_true hl)]
   obtain ⟨i, h1, h2⟩ := hI (decR s p)
   rw [bnd_s h1]
   rw [vld_step _ hne, ← decR_eq]
   by_cases hi : i < 0
   ·rw [cnd_t (ilt_t hi), if_neg (by rw [h2.1 hi]; decide)]
   ·rw [cnd_f (ilt_f hi)]
    have hin : inRep (decR s p) = true := by
     cases hq : inRep (decR s p) with
     | true => rfl
     | false => exact absurd (h2.2 hq) hi
    rw [if_pos hin, decW_eq, List.drop_drop]
    show fixN _ fuel (s, ofN (p + (decodeL (s.drop p)).2)) = _
    exact valid_loop hs Ix hI fuel _ (by omega) (by omega)
  ·rw [cnd_f (show nlt p (nlen s) = false from decide_eq_false hl)]
   have : s.drop p = [] := by simp; omega
   rw [this]
   rfl
theorem r08_valid (s : List UInt8) (hs : s.length ≤ 4000000) : q154 fuelH s = some (vld s) := by
 unfold q154
 simp only [jn_e]
 have := valid_loop (s := s) (by omega) (q151 fuelH) (fun r => by obtain ⟨i, _, h2, h3⟩ := index_some r; exact ⟨i, h2, h3⟩) fuelH 0 (by have := fuelH_eq; omega) (Nat.zero_le _)
 simpa using this
theorem ch_valid (s : List UInt8) (hs : s.length ≤ 4000000) : q14 fuelH s = some (vld s) := by
 unfold q14
 have hv : utf8_ValidString fuelH s = some (validD s) := by
  show grd (catOk (len s)) (some (validD s)) = _
  exact grd_t (decide_eq_true (by simp only [len]; omega))
 rw [bnd_s hv]
 simp only [jn_e]
 cases hd : validD s with
 | false =>
  rw [cnd_t (show bnot false = true from rfl)]
  cases hq : vld s with
  | false => rfl
  | true => rw [vld_valid _ s (Nat.le_refl _) hq] at hd; cases hd
 | true =>
  rw [cnd_f (show bnot true = false from rfl)]
  have := valid_loop (s := s) (by omega) (q13 fuelH) (fun r => by obtain ⟨i, h2, h3⟩ := index_stl r; exact ⟨i, h2, h3⟩) fuelH 0 (by have := fuelH_eq; omega) (Nat.zero_le _)
  simpa using this
end Go.Mo
end

section
/-
  Plain facts: names; the check of a header.
-/
namespace Go.Mo
open Go Go.W Go.Lib
set_option maxRecDepth 100000
theorem cnd_dec {α : Type} {p : Prop} [Decidable p] {x y : Option α} : cnd (decide p) x y = if p then x else y := by
 by_cases h : p
 ·rw [cnd_t (decide_eq_true h), if_pos h]
 ·rw [cnd_f (decide_eq_false h), if_neg h]
theorem cnd_ilt {α : Type} {a b : Int} {x y : Option α} : cnd (ilt a b) x y = if a < b then x else y := cnd_dec
theorem cnd_ile {α : Type} {a b : Int} {x y : Option α} : cnd (ile a b) x y = if a ≤ b then x else y := cnd_dec
theorem cnd_ieq {α : Type} {a b : Int} {x y : Option α} : cnd (ieq a b) x y = if a = b then x else y := by
 by_cases h : a = b
 ·rw [cnd_t (ieq_t h), if_pos h]
 ·rw [cnd_f (ieq_f h), if_neg h]
theorem cnd_ine {α : Type} {a b : Int} {x y : Option α} : cnd (ine a b) x y = if a ≠ b then x else y := by
 by_cases h : a = b
 ·rw [cnd_f (ine_f h), if_neg (by simp [h])]
 ·rw [cnd_t (ine_t h), if_pos h]
noncomputable def okc (c : Int) : Bool := decide ((65 ≤ c ∧ c ≤ 90) ∨ (48 ≤ c ∧ c ≤ 57) ∨ c = 95 ∨ c = 45)
theorem nm_body (c : Int) (X : Option Bool) :
  (cnd (ilt c (n8 (65 : UInt8)))
          (cnd (ilt c (n8 (48 : UInt8)))
           (cnd (ine c (n8 (95 : UInt8)))
            (cnd (ine c (n8 (45 : UInt8)))
             (some false)
             X)
            X)
           (cnd (ilt (n8 (57 : UInt8)) c)
            (cnd (ine c (n8 (95 : UInt8)))
             (cnd (ine c (n8 (45 : UInt8)))
              (some false)
              X)
             X)
            X))
          (cnd (ilt (n8 (90 : UInt8)) c)
           (cnd (ilt c (n8 (48 : UInt8)))
            (cnd (ine c (n8 (95 : UInt8)))
             (cnd (ine c (n8 (45 : UInt8)))
              (some false)
              X)
             X)
            (cnd (ilt (n8 (57 : UInt8)) c)
             (cnd (ine c (n8 (95 : UInt8)))
              (cnd (ine c (n8 (45 : UInt8)))
               (some false)
               X)
              X)
             X))
           X)) = cnd (okc c) X (some false) := by
 have e1 : n8 (65 : UInt8) = 65 := rfl
 have e2 : n8 (48 : UInt8) = 48 := rfl
 have e3 : n8 (95 : UInt8) = 95 := rfl
 have e4 : n8 (45 : UInt8) = 45 := rfl
 have e5 : n8 (57 : UInt8) = 57 := rfl
 have e6 : n8 (90 : UInt8) = 90 := rfl
 rw [e1, e2, e3, e4, e5, e6]
 simp only [cnd_ilt, cnd_ine, okc, cnd_dec]
 repeat' split
 all_goals first | rfl | (exfalso; omega)
noncomputable def upc (c : Int) : Bool := decide (65 ≤ c ∧ c ≤ 90)
noncomputable def nm (s : List UInt8) : Bool := decide (1 ≤ s.length ∧ s.length ≤ 16) && upc (n8 (s.getD 0 0)) && s.all fun c => okc (n8 c)
theorem all_step {s : List UInt8} {i : Nat} (h : i < s.length) (P : UInt8 → Bool) : (s.drop i).all P = (P s[i] && (s.drop (i + 1)).all P) := by
 rw [List.drop_eq_getElem_cons h, List.all_cons]
theorem nm_loop {s : List UInt8} (hs : s.length ≤ 16) : ∀ (fuel i : Nat), s.length - i < fuel → i ≤ s.length →
  fixN (fun v2 (v3 : Int) =>
        cnd (ilt v3 (len s))
         (grd (inb v3 (len s)) (cnd (okc (n8 (lget s (toN v3) (0 : UInt8)))) (v2 (w64 (iadd v3 (1 : Int)))) (some false)))
         (some true)) fuel (i : Int) = some ((s.drop i).all fun c => okc (n8 c))
 | 0, i, h, _ => by omega
 | fuel + 1, i, h, hi => by
  rw [fixN_s]
  by_cases hl : i < s.length
  ·have g : lget s (toN (i : Int)) 0 = s[i] := by simp [lget, toN, hl]
   rw [cnd_t (ilt_t (by simp only [len]; omega)), grd_t (inb_t (by simp only [len]; omega)), g, all_step hl]
   have hw : w64 (iadd (i : Int) 1) = ((i + 1 : Nat) : Int) := by
    simp only [iadd]; rw [w64_id (by omega)]; omega
   rw [hw, nm_loop hs fuel (i + 1) (by omega) (by omega)]
   cases okc (n8 s[i]) <;> rfl
  ·rw [cnd_f (ilt_f (by simp only [len]; omega))]
   have : s.drop i = [] := by simp; omega
   rw [this]
   rfl
theorem lines_name (s : List UInt8) : q32 fuelH s = some (nm s) := by
 unfold q32
 simp only [jn_e, nm_body]
 by_cases h1 : s.length < 1
 ·rw [cnd_t (ilt_t (by simp only [len]; omega))]
  simp [nm]; omega
 ·rw [cnd_f (ilt_f (by simp only [len]; omega))]
  by_cases h2 : 16 < s.length
  ·rw [cnd_t (ilt_t (by simp only [len]; omega))]
   simp [nm]; omega
  ·rw [cnd_f (ilt_f (by simp only [len]; omega)), grd_t (inb_t (by simp only [len]; omega))]
   have e0 : lget s (toN 0) 0 = s.getD 0 0 := rfl
   have e1 : n8 (65 : UInt8) = 65 := rfl
   have e2 : n8 (90 : UInt8) = 90 := rfl
   rw [e0, e1, e2, cnd_ilt]
   have hd : decide (1 ≤ s.length ∧ s.length ≤ 16) = true := decide_eq_true (by omega)
   split
   ·rename_i h3
    have : upc (n8 (s.getD 0 0)) = false := decide_eq_false (by omega)
    simp only [nm, this, Bool.and_false, Bool.false_and]
   ·rw [grd_t (inb_t (by simp only [len]; omega)), cnd_ilt]
    split
    ·rename_i h4
     have : upc (n8 (s.getD 0 0)) = false := decide_eq_false (by omega)
     simp only [nm, this, Bool.and_false, Bool.false_and]
    ·have hu : upc (n8 (s.getD 0 0)) = true := decide_eq_true (by omega)
     have := nm_loop (s := s) (by omega) fuelH 0 (by have := fuelH_eq; omega) (Nat.zero_le _)
     simp only [nm, hu, hd, Bool.true_and]
     simpa using this
end Go.Mo
end

section
/-
  Plain facts: the check of a header.
-/
namespace Go.Mo
open Go Go.W Go.Lib
set_option maxRecDepth 100000
abbrev Lbl := Int × Int × Int × Int × Bool
abbrev Hdr := UInt8 × (List UInt8) × (List UInt8) × Int × Int × Lbl × Lbl × Int × Int
theorem cnd_bnot {α : Type} {p : Prop} [Decidable p] {x y : Option α} : cnd (bnot (decide p)) x y = if p then y else x := by
 by_cases hp : p <;> simp [hp, bnot, cnd]
theorem bnd_some' {α β : Type} {a : α} {k : α → Option β} : bnd (some a) k = k a := rfl
theorem rng_eq {α : Type} {n lo hi : Int} {x r : Option α} : cnd (bnot (decide (lo ≤ n ∧ n ≤ hi))) x r = cnd (ilt n lo) x (cnd (ilt hi n) x r) := by
 rw [cnd_bnot, cnd_ilt, cnd_ilt]
 repeat' split
 all_goals first | rfl | (exfalso; omega)
end Go.Mo
end

section
/-
  Plain facts: the characters of a text, and the text of characters.
-/
namespace Go.Mo
open Go Go.W Go.Lib
set_option maxRecDepth 100000
noncomputable def rnsF : Nat → List UInt8 → List Int
 | 0, _ => []
 | n + 1, l => if l = [] then [] else ((decodeL l).1 : Int) :: rnsF n (l.drop (decodeL l).2)
noncomputable def rns (l : List UInt8) : List Int := rnsF l.length l
noncomputable def ofR (l : List Int) : List UInt8 := l.flatMap enc
theorem rnsF_nil : ∀ n, rnsF n [] = []
 | 0 => rfl
 | n + 1 => by simp [rnsF]
theorem rnsF_fuel : ∀ (n m : Nat) (l : List UInt8), l.length ≤ n → l.length ≤ m → rnsF n l = rnsF m l
 | 0, m, l, h, _ => by
  have : l = [] := List.eq_nil_of_length_eq_zero (by omega)
  subst this
  rw [rnsF_nil, rnsF_nil]
 | n + 1, 0, l, _, h => by
  have : l = [] := List.eq_nil_of_length_eq_zero (by omega)
  subst this
  rw [rnsF_nil, rnsF_nil]
 | n + 1, m + 1, l, h1, h2 => by
  by_cases hl : l = []
  ·subst hl; rw [rnsF_nil, rnsF_nil]
  ·have hp := dec_pos l
   have hlen : 0 < l.length := List.length_pos_iff.2 hl
   simp only [rnsF, hl, if_false]
   rw [rnsF_fuel n m _ (by simp; omega) (by simp; omega)]
theorem rns_step (l : List UInt8) (hl : l ≠ []) : rns l = ((decodeL l).1 : Int) :: rns (l.drop (decodeL l).2) := by
 have hp := dec_pos l
 have hlen : 0 < l.length := List.length_pos_iff.2 hl
 unfold rns
 obtain ⟨n, hn⟩ : ∃ n, l.length = n + 1 := ⟨l.length - 1, by omega⟩
 rw [hn]
 simp only [rnsF, hl, if_false]
 rw [rnsF_fuel n _ _ (by simp; omega) (Nat.le_refl _)]
theorem rep_mem {r : Int} (h : inRep r = true) : r ∈ loRunes ++ hiRunes := by
 unfold inRep at h
 rw [← lo_mem, Bool.or_eq_true] at h
 rw [List.mem_append]
 rcases h with h | h
 ·exact .inl (List.contains_iff_mem.1 h)
 ·exact .inr (List.contains_iff_mem.1 h)
theorem all_rep {P : Int → Bool} (h : ((loRunes ++ hiRunes).all P) = true) {r : Int} (hr : inRep r = true) : P r = true :=
 List.all_eq_true.1 h r (rep_mem hr)
theorem enc_rep {r : Int} (hr : inRep r = true) : enc r = encodeRune r :=
 of_decide_eq_true (all_rep (P := fun r => decide (enc r = encodeRune r)) (by kernel_rfl) hr)
theorem enc_dec (l : List UInt8) (hl : l ≠ []) (hr : inRep ((decodeL l).1 : Int) = true) : enc ((decodeL l).1 : Int) = l.take (decodeL l).2 := by
 rw [enc_rep hr]
 refine encode_decode l hl ?_
 rintro ⟨e, _⟩
 rw [e] at hr
 exact absurd hr (by decide)
theorem rns_rep : ∀ (n : Nat) (l : List UInt8), l.length ≤ n → vld l = true → (rns l).all inRep = true ∧ ofR (rns l) = l
 | n, l, h, hv => by
  by_cases hl : l = []
  ·subst hl; exact ⟨rfl, rfl⟩
  ·have hlen : 0 < l.length := List.length_pos_iff.2 hl
   have hp := dec_pos l
   rw [vld_step l hl] at hv
   split at hv
   ·rename_i hr
    cases n with
    | zero => omega
    | succ n =>
     obtain ⟨h1, h2⟩ := rns_rep n _ (by simp; omega) hv
     rw [rns_step l hl]
     refine ⟨by rw [List.all_cons, hr, h1]; rfl, ?_⟩
     unfold ofR at h2 ⊢
     rw [List.flatMap_cons, h2, enc_dec l hl hr, List.take_append_drop]
   ·cases hv
theorem rns_ok {l : List UInt8} (h : vld l = true) : (rns l).all inRep = true := (rns_rep _ l (Nat.le_refl _) h).1
theorem ofR_rns {l : List UInt8} (h : vld l = true) : ofR (rns l) = l := (rns_rep _ l (Nat.le_refl _) h).2
theorem rns_len : ∀ (n : Nat) (l : List UInt8), l.length ≤ n → (rns l).length ≤ l.length
 | n, l, h => by
  by_cases hl : l = []
  ·subst hl; exact Nat.le_refl _
  ·have hlen : 0 < l.length := List.length_pos_iff.2 hl
   have hp := dec_pos l
   rw [rns_step l hl]
   cases n with
   | zero => omega
   | succ n =>
    have := rns_len n (l.drop (decodeL l).2) (by simp; omega)
    simp at this ⊢
    omega
noncomputable def foldR {σ R : Type} (g : Int → σ → (σ → Option R) → Option R) (e : σ → Option R) : List Int → σ → Option R
 | [], a => e a
 | r :: l, a => g r a fun a' => foldR g e l a'
theorem str_loop {V R σ : Type} {F : (V → Option R) → V → Option R} {s : List UInt8} (st : σ → Nat → V) (g : Int → σ → (σ → Option R) → Option R) (e : σ → Option R)
  (hstep : ∀ self a p, p < s.length → F self (st a p) = g (decR s p) a fun a' => self (st a' (p + decW s p)))
  (hend : ∀ self a p, s.length ≤ p → F self (st a p) = e a) : ∀ (fuel p : Nat) (a : σ), s.length - p < fuel → fixN F fuel (st a p) = foldR g e (rns (s.drop p)) a
 | 0, p, a, h => by omega
 | fuel + 1, p, a, h => by
  rw [fixN_s]
  by_cases hp : p < s.length
  ·have hne : s.drop p ≠ [] := by intro e; have := congrArg List.length e; simp at this; omega
   have hw := dec_pos (s.drop p)
   rw [hstep _ _ _ hp, rns_step _ hne, ← decR_eq, foldR, List.drop_drop, ← decW_eq]
   congr 1
   funext a'
   rw [decW_eq]
   have := str_loop st g e hstep hend fuel (p + (decodeL (s.drop p)).2) a' (by omega)
   exact this
  ·rw [hend _ _ _ (by omega)]
   have : s.drop p = [] := by simp; omega
   rw [this]
   rfl
noncomputable def foldI {α σ R : Type} (g : Nat → α → σ → (σ → Option R) → Option R) (e : σ → Option R) : Nat → List α → σ → Option R
 | _, [], a => e a
 | i, x :: l, a => g i x a fun a' => foldI g e (i + 1) l a'
theorem lst_loop {V R σ α : Type} {F : (V → Option R) → V → Option R} {l : List α} (st : σ → Nat → V) (g : Nat → α → σ → (σ → Option R) → Option R) (e : σ → Option R)
  (hstep : ∀ self a i (h : i < l.length), F self (st a i) = g i l[i] a fun a' => self (st a' (i + 1)))
  (hend : ∀ self a, F self (st a l.length) = e a) : ∀ (fuel i : Nat) (a : σ), i ≤ l.length → l.length - i < fuel → fixN F fuel (st a i) = foldI g e i (l.drop i) a
 | 0, i, a, _, h => by omega
 | fuel + 1, i, a, hi, h => by
  rw [fixN_s]
  by_cases hl : i < l.length
  ·rw [hstep _ _ _ hl, List.drop_eq_getElem_cons hl, foldI]
   congr 1
   funext a'
   exact lst_loop st g e hstep hend fuel (i + 1) a' (by omega) (by omega)
  ·obtain rfl : i = l.length := by omega
   rw [hend, List.drop_length]
   rfl
theorem w64_succ {i n : Nat} (h : i < n) (hn : n ≤ 9223372036854775807) : w64 (iadd (i : Int) 1) = ((i + 1 : Nat) : Int) := by
 simp only [iadd]; rw [w64_id (by omega)]; omega
theorem lget_i {α : Type} {l : List α} {i : Nat} {d : α} (h : i < l.length) : lget l (toN (i : Int)) d = l[i] := by simp [lget, toN, h]
theorem nlt_t {a b : Nat} (h : a < b) : nlt a b = true := decide_eq_true h
theorem nlt_f {a b : Nat} (h : ¬ a < b) : nlt a b = false := decide_eq_false h
theorem toN_ofN (n : Nat) : toN (ofN n) = n := by simp [toN, ofN]
end Go.Mo
end

section
/-
  Plain facts: the characters of the tape form.
-/
namespace Go.Mo
open Go Go.W Go.Lib
set_option maxRecDepth 100000
noncomputable def ixE (r : Int) : Option Int := cnd (ile 32 r) (cnd (ile r 126) (some (w64 (wr .i32 (isub r 32)))) (chain (loRunes ++ hiRunes) 0 r)) (chain (loRunes ++ hiRunes) 0 r)
theorem bnd_id {α : Type} (x : Option α) : (bnd x fun v => some v) = x := by cases x <;> rfl
theorem ch_ix (r : Int) : q13 fuelH r = ixE r := by
 rw [ch_index, place_eq, bnd_id]
 rfl
theorem r08_ix (r : Int) : q151 fuelH r = ixE r := by
 rw [r08_index, place_eq]
 rfl
noncomputable def ix (r : Int) : Int := (ixE r).getD 0
theorem ix_tab : ((loRunes ++ hiRunes).all fun r => decide (ixE r = some (ix r) ∧ 0 ≤ ix r)) = true := by kernel_rfl
theorem ix_ok {r : Int} (hr : inRep r = true) : ixE r = some (ix r) ∧ 0 ≤ ix r := of_decide_eq_true (all_rep (P := fun r => decide (ixE r = some (ix r) ∧ 0 ≤ ix r)) ix_tab hr)
noncomputable def up (r : Int) : Int := if (97 ≤ r ∧ r ≤ 122) ∨ (224 ≤ r ∧ r ≤ 255) then r - 32 else if r = 339 then 338 else r
noncomputable def upK (x v0 : Int) : Option Int :=
 cnd (ilt v0 (0 : Int))
  (some (0 : Int))
  (jn (fun (v1 : Bool) =>
   cnd v1
    (some (wr .i32 (isub x (32 : Int))))
    (cnd (ieq x (339 : Int))
     (some (338 : Int))
     (some x)))
  fun v2 =>
  cnd (ile (97 : Int) x)
   (cnd (ile x (122 : Int))
    (v2 (ile x (122 : Int)))
    (cnd (ile (224 : Int) x)
     (v2 (ile x (255 : Int)))
     (v2 false)))
   (cnd (ile (224 : Int) x)
    (v2 (ile x (255 : Int)))
    (v2 false)))
theorem upper_eq {r : Int} (hr : inRep r = true) : q21 fuelH r = some (up r) := by
 have h : q21 fuelH r = bnd (q13 fuelH r) (upK r) := rfl
 rw [h, ch_ix, (ix_ok hr).1, bnd_some']
 exact of_decide_eq_true (all_rep (P := fun r => decide (upK r (ix r) = some (up r))) (by kernel_rfl) hr)
noncomputable def basT : List Int := [33, 99, 76, 36, 89, 124, 83, 67, 34, 82, 111, 46, 34, 50, 63, 65, 65, 65, 65, 65, 65, 65, 67, 69, 69, 69, 69, 73, 73, 73, 73, 78, 79, 79, 79, 79, 79, 79, 85, 85, 85, 85, 115, 97, 97, 97, 97, 97, 97, 97, 99, 101, 101, 101, 101, 105, 105, 105, 105, 110, 111, 111, 111, 111, 111, 111, 117, 117, 117, 117, 79, 111, 45, 39, 39, 34, 34, 46, 46, 84, 35]
noncomputable def bas (r : Int) : Int := if r < 127 then r else basT.getD ((ix r).toNat - 95) 0
noncomputable def basB : List UInt8 := [33, 99, 76, 36, 89, 124, 83, 67, 34, 82, 111, 46, 34, 50, 63, 65, 65, 65, 65, 65, 65, 65, 67, 69, 69, 69, 69, 73, 73, 73, 73, 78, 79, 79, 79, 79, 79, 79, 85, 85, 85, 85, 115, 97, 97, 97, 97, 97, 97, 97, 99, 101, 101, 101, 101, 105, 105, 105, 105, 110, 111, 111, 111, 111, 111, 111, 117, 117, 117, 117, 79, 111, 45, 39, 39, 34, 34, 46, 46, 84, 35]
noncomputable def basK (x v0 : Int) : Option Int :=
 cnd (ilt v0 (0 : Int))
  (some (0 : Int))
  (cnd (ilt v0 (95 : Int))
   (some x)
   (grd (inb (w64 (isub v0 (95 : Int))) (len basB))
    (some (wr .i32 (n8 (lget basB (toN (w64 (isub v0 (95 : Int)))) (0 : UInt8)))))))
theorem base_eq {r : Int} (hr : inRep r = true) : q28 fuelH r = some (bas r) := by
 have h : q28 fuelH r = bnd (q13 fuelH r) (basK r) := by kernel_rfl
 rw [h, ch_ix, (ix_ok hr).1, bnd_some']
 exact of_decide_eq_true (all_rep (P := fun r => decide (basK r (ix r) = some (bas r))) (by kernel_rfl) hr)
noncomputable def accs : List (UInt8 × List UInt8 × List Int) := [(193, [195, 128, 195, 136, 195, 140, 195, 146, 195, 153], [192, 200, 204, 210, 217]), (194, [195, 129, 195, 137, 195, 141, 195, 147, 195, 154], [193, 201, 205, 211, 218]), (195, [195, 130, 195, 138, 195, 142, 195, 148, 195, 155], [194, 202, 206, 212, 219]), (196, [195, 131, 195, 145, 195, 149], [195, 209, 213]), (197, [], []), (198, [], []), (199, [], []), (200, [195, 132, 195, 139, 195, 143, 195, 150, 195, 156], [196, 203, 207, 214, 220]), (201, [], []), (202, [195, 133], [197]), (203, [195, 135], [199])]
theorem cont_tab : (accs.all fun a => (loRunes ++ hiRunes).all fun r => decide (q27 fuelH (a.2.1, up r) = some (a.2.2.contains (up r)))) = true := by kernel_rfl
theorem cont_eq {a : UInt8 × List UInt8 × List Int} (ha : a ∈ accs) {r : Int} (hr : inRep r = true) : q27 fuelH (a.2.1, up r) = some (a.2.2.contains (up r)) :=
 of_decide_eq_true (all_rep (P := fun r => decide (q27 fuelH (a.2.1, up r) = some (a.2.2.contains (up r)))) (List.all_eq_true.1 cont_tab a ha) hr)
noncomputable def sgs : List (Int × UInt8) := [(161, 161), (162, 162), (163, 163), (164, 164), (165, 165), (166, 166), (167, 167), (169, 168), (8216, 169), (8220, 170), (171, 171), (174, 172), (8212, 173), (8226, 174), (8230, 175), (176, 176), (8482, 180), (183, 183), (8217, 185), (8221, 186), (187, 187), (189, 189), (191, 191), (9834, 213), (198, 225), (216, 233), (338, 234), (230, 241), (248, 249), (339, 250), (223, 251)]
noncomputable def sgC : List (Int × UInt8) → Int → Option (List UInt8) → Option (List UInt8)
 | [], _, k => k
 | (c, b) :: l, r, k => cnd (ieq c r) (some [b]) (sgC l r k)
noncomputable def acC : List (UInt8 × List UInt8 × List Int) → Int → Option (List UInt8)
 | [], _ => some []
 | (b, s, _) :: l, r => bnd (q21 fuelH r) fun v7 => bnd (q27 fuelH (s, v7)) fun v8 => cnd v8 (bnd (q28 fuelH r) fun v9 => some [b, b8 v9]) (acC l r)
theorem latin_put_eq (r : Int) : q29 fuelH r = bnd (q19 fuelH r) fun v0 => cnd (bnot v0) (some []) (cnd (ilt r 127) (some [b8 r]) (sgC sgs r (acC accs r))) := by kernel_rfl
noncomputable def acP : List (UInt8 × List UInt8 × List Int) → Int → List UInt8
 | [], _ => []
 | (b, _, l) :: r, x => if l.contains (up x) then [b, b8 (bas x)] else acP r x
theorem acC_eq {r : Int} (hr : inRep r = true) : ∀ (l : List (UInt8 × List UInt8 × List Int)), (∀ a ∈ l, a ∈ accs) → acC l r = some (acP l r)
 | [], _ => rfl
 | (b, s, m) :: l, h => by
  simp only [acC, acP]
  have := cont_eq (h (b, s, m) (by simp)) hr
  rw [upper_eq hr, bnd_some', bnd_s this, base_eq hr, bnd_some', acC_eq hr l fun a ha => h a (by simp [ha])]
  cases m.contains (up r) <;> rfl
noncomputable def sgP : List (Int × UInt8) → Int → List UInt8 → List UInt8
 | [], _, k => k
 | (c, b) :: l, r, k => if c = r then [b] else sgP l r k
theorem sgC_eq : ∀ (l : List (Int × UInt8)) (r : Int) (k : List UInt8), sgC l r (some k) = some (sgP l r k)
 | [], _, _ => rfl
 | (c, b) :: l, r, k => by
  simp only [sgC, sgP]
  rw [sgC_eq l r k]
  by_cases h : c = r
  ·rw [cnd_t (ieq_t h), if_pos h]
  ·rw [cnd_f (ieq_f h), if_neg h]
noncomputable def lat (r : Int) : List UInt8 := if r < 127 then [b8 r] else sgP sgs r (acP accs r)
theorem latin_put {r : Int} (hr : inRep r = true) : q29 fuelH r = some (lat r) := by
 have hc : q19 fuelH r = some true := by
  unfold q19
  rw [ch_ix, (ix_ok hr).1, bnd_some', ile_t (ix_ok hr).2]
 rw [latin_put_eq, bnd_s hc, cnd_f (by rfl), acC_eq hr accs fun a h => h, sgC_eq, cnd_ilt]
 unfold lat
 split <;> rfl
noncomputable def sgl (c : UInt8) : Int := if 32 ≤ n8 c ∧ n8 c ≤ 126 then n8 c else ((sgs.find? fun x => x.2 == c).map (·.1)).getD 0
theorem single_eq (c : UInt8) : q148 fuelH c = some (sgl c) :=
 of_decide_eq_true (all_u8 (P := fun c => decide (q148 fuelH c = some (sgl c))) (by kernel_rfl) c)
noncomputable def dbl (a b : UInt8) : Int :=
 let c := if 97 ≤ n8 b ∧ n8 b ≤ 122 then b - 32 else b
 match (accs.filter fun x => x.1 == a).flatMap fun x => x.2.2.filter fun r => bas r == n8 c with
 | [] => 0
 | r :: _ => if 97 ≤ n8 b ∧ n8 b ≤ 122 then r + 32 else r
theorem double_eq {n k : Nat} (hn : n < 11) (hk : k < 58) : q149 fuelH (UInt8.ofNat (n + 193), UInt8.ofNat (k + 65)) = some (dbl (UInt8.ofNat (n + 193)) (UInt8.ofNat (k + 65))) := by
 have : ((List.range 11).all fun n => (List.range 58).all fun k => decide (q149 fuelH (UInt8.ofNat (n + 193), UInt8.ofNat (k + 65)) = some (dbl (UInt8.ofNat (n + 193)) (UInt8.ofNat (k + 65))))) = true := by kernel_rfl
 exact of_decide_eq_true (List.all_eq_true.1 (List.all_eq_true.1 this n (List.mem_range.2 hn)) k (List.mem_range.2 hk))
noncomputable def sg256 : List Int := (List.range 256).map fun n => sgl (UInt8.ofNat n)
noncomputable def db638 : List (List Int) := (List.range 11).map fun n => (List.range 58).map fun k => dbl (UInt8.ofNat (n + 193)) (UInt8.ofNat (k + 65))
noncomputable def idxI : List Int → Int → Nat → Option Nat
 | [], _, _ => none
 | c :: l, r, i => if c = r then some i else idxI l r (i + 1)
noncomputable def idxII : List (List Int) → Int → Nat → Option (Nat × Nat)
 | [], _, _ => none
 | c :: l, r, i => match idxI c r 0 with
  | some k => some (i, k)
  | none => idxII l r (i + 1)
noncomputable def latR (r : Int) : List UInt8 := match idxI sg256 r 0 with
 | some i => [UInt8.ofNat i]
 | none => match idxII db638 r 0 with
  | some (a, b) => [UInt8.ofNat (a + 193), UInt8.ofNat (b + 65)]
  | none => []
theorem latR_eq {r : Int} (hr : inRep r = true) : latR r = lat r :=
 of_decide_eq_true (all_rep (P := fun r => decide (latR r = lat r)) (by kernel_rfl) hr)
end Go.Mo
end

section
/-
  Plain facts: the bytes of a character by the specification.
-/
namespace Go.Mo
open Go Go.W Go.Lib
set_option maxRecDepth 100000
theorem b8_nat {n : Nat} (h : n < 256) : b8 (n : Int) = UInt8.ofNat n := by
 unfold b8
 congr 1
 omega
theorem foldI_idx {R : Type} (r : Int) (y : Nat → R) (K : Option R) : ∀ (l : List Int) (i : Nat), foldI (fun i c (_ : Unit) self => cnd (ieq c r) (some (y i)) (self ())) (fun _ => K) i l () = match idxI l r i with
  | some j => some (y j)
  | none => K
 | [], i => rfl
 | c :: l, i => by
  simp only [foldI, idxI]
  by_cases h : c = r
  ·rw [cnd_t (ieq_t h), if_pos h]
  ·rw [cnd_f (ieq_f h), if_neg h]
   exact foldI_idx r y K l (i + 1)
theorem foldI_idx2 {R : Type} (r : Int) (y : Nat → Nat → R) (K : Option R) : ∀ (l : List (List Int)) (i : Nat), foldI (fun i c (_ : Unit) self => match idxI c r 0 with
  | some k => some (y i k)
  | none => self ()) (fun _ => K) i l () = match idxII l r i with
  | some (j, k) => some (y j k)
  | none => K
 | [], i => rfl
 | c :: l, i => by
  simp only [foldI, idxII]
  cases idxI c r 0 with
  | some k => rfl
  | none => exact foldI_idx2 r y K l (i + 1)
theorem put_loops {r : Int} (T : List Int) (hT : T.length = 256) (hg : ∀ (i : Nat) (h : i < T.length), T[i] = sgl (UInt8.ofNat i)) (D : List (List Int)) (hD : D.length = 11)
  (hd : ∀ (i : Nat) (h : i < D.length), D[i].length = 58 ∧ ∀ (k : Nat) (h' : k < D[i].length), D[i][k] = dbl (UInt8.ofNat (i + 193)) (UInt8.ofNat (k + 65))) (hc : q164 fuelH r = some true) :
  r22_Put fuelH r = match idxI T r 0 with
   | some i => some [UInt8.ofNat i]
   | none => match idxII D r 0 with
    | some (a, b) => some [UInt8.ofNat (a + 193), UInt8.ofNat (b + 65)]
    | none => some [] := by
 have h5 : fuelH = 8000000 := fuelH_eq
 unfold r22_Put
 rw [bnd_s hc, cnd_f (by rfl), jn_e, jn_e]
 generalize hQ : fuelH = Q at h5 ⊢
 have hsg : ∀ c, q148 Q c = some (sgl c) := by rw [← hQ]; exact single_eq
 have hdb : ∀ n k : Nat, n < 11 → k < 58 → q149 Q (UInt8.ofNat (n + 193), UInt8.ofNat (k + 65)) = some (dbl (UInt8.ofNat (n + 193)) (UInt8.ofNat (k + 65))) := by rw [← hQ]; exact fun n k h h' => double_eq h h'
 refine Eq.trans (lst_loop (l := T) (fun (_ : Unit) (p : Nat) => (p : Int)) (fun i c (_ : Unit) self => cnd (ieq c r) (some [UInt8.ofNat i]) (self ())) (fun _ => match idxII D r 0 with
    | some (a, b) => some [UInt8.ofNat (a + 193), UInt8.ofNat (b + 65)]
    | none => some []) (fun self a i hi => ?_) (fun self a => ?_) Q 0 () (Nat.zero_le _) (by rw [hT, h5]; decide)) ?_
 ·have h1 : i < 256 := by omega
  rw [cnd_t (ilt_t (by omega)), b8_nat h1, hsg, bnd_some', w64_succ h1 (by omega), hg i hi]
 ·rw [hT, cnd_f (ilt_f (by omega))]
  show fixN _ Q 193 = _
  rw [show (193 : Int) = ((0 + 193 : Nat) : Int) from rfl]
  refine Eq.trans (lst_loop (l := D) (fun (_ : Unit) (p : Nat) => ((p + 193 : Nat) : Int)) (fun i c (_ : Unit) self => match idxI c r 0 with
   | some k => some [UInt8.ofNat (i + 193), UInt8.ofNat (k + 65)]
   | none => self ()) (fun _ => some []) (fun self a i hi => ?_) (fun self a => ?_) Q 0 () (Nat.zero_le _) (by rw [hD, h5]; decide)) ?_
  ·have h1 : i < 11 := by omega
   obtain ⟨hl, hr⟩ := hd i hi
   rw [cnd_t (ile_t (by omega)), jn_e, b8_nat (show i + 193 < 256 by omega), show (65 : Int) = ((0 + 65 : Nat) : Int) from rfl]
   have hw : w64 (iadd ((i + 193 : Nat) : Int) 1) = ((i + 1 + 193 : Nat) : Int) := by
    simp only [iadd]; rw [w64_id (by omega)]; omega
   rw [hw]
   refine Eq.trans (lst_loop (l := D[i]) (fun (_ : Unit) (p : Nat) => ((p + 65 : Nat) : Int)) (fun k c (_ : Unit) self => cnd (ieq c r) (some [UInt8.ofNat (i + 193), UInt8.ofNat (k + 65)]) (self ())) (fun _ => self ((i + 1 + 193 : Nat) : Int)) (fun self a k hk => ?_) (fun self a => ?_) Q 0 () (Nat.zero_le _) (by rw [hl, h5]; decide)) ?_
   ·have h2 : k < 58 := by omega
    rw [cnd_t (ile_t (by omega)), b8_nat (show k + 65 < 256 by omega), hdb i k h1 h2, bnd_some', hr k hk]
    have hw : wr .i32 (iadd ((k + 65 : Nat) : Int) 1) = ((k + 1 + 65 : Nat) : Int) := by
     rw [wi32_id (by simp only [iadd]; omega)]
     simp only [iadd]; omega
    rw [hw]
   ·rw [hl, cnd_f (ile_f (by omega))]
   ·rw [List.drop_zero, foldI_idx r (fun k => [UInt8.ofNat (i + 193), UInt8.ofNat (k + 65)])]
  ·rw [hD, cnd_f (ile_f (by omega))]
  ·rw [List.drop_zero, foldI_idx2 r (fun i k => [UInt8.ofNat (i + 193), UInt8.ofNat (k + 65)])]
 ·rw [List.drop_zero, foldI_idx r (fun k => [UInt8.ofNat k])]
theorem r22_put {r : Int} (hr : inRep r = true) : r22_Put fuelH r = some (lat r) := by
 have hc : q164 fuelH r = some true := by
  unfold q164
  rw [r08_ix, (ix_ok hr).1, bnd_some', ile_t (ix_ok hr).2]
 rw [← latR_eq hr, put_loops sg256 (by unfold sg256; rw [List.length_map, List.length_range]) (fun i h => by simp only [sg256, List.getElem_map, List.getElem_range]) db638 (by unfold db638; rw [List.length_map, List.length_range])
  (fun i h => by
   have e : db638[i] = (List.range 58).map fun k => dbl (UInt8.ofNat (i + 193)) (UInt8.ofNat (k + 65)) := by simp only [db638, List.getElem_map, List.getElem_range]
   refine ⟨by rw [e, List.length_map, List.length_range], fun k h' => ?_⟩
   simp only [e, List.getElem_map, List.getElem_range]) hc]
 unfold latR
 generalize idxI sg256 r 0 = a
 generalize idxII db638 r 0 = b
 cases a with
 | some j => rfl
 | none => cases b with
  | some p => rfl
  | none => rfl
theorem lat_tab : ((loRunes ++ hiRunes).all fun r => decide ((lat r).length ≤ (enc r).length ∧ 0 < (lat r).length)) = true := by kernel_rfl
theorem lat_ok {r : Int} (hr : inRep r = true) : q29 fuelH r = some (lat r) ∧ (lat r).length ≤ (enc r).length ∧ 0 < (lat r).length ∧ r22_Put fuelH r = some (lat r) := by
 have := of_decide_eq_true (all_rep (P := fun r => decide ((lat r).length ≤ (enc r).length ∧ 0 < (lat r).length)) lat_tab hr)
 exact ⟨latin_put hr, this.1, this.2, r22_put hr⟩
end Go.Mo
end

section
/-
  Plain facts: texts in the characters of the tape form.
-/
namespace Go.Mo
open Go Go.W Go.Lib
set_option maxRecDepth 100000
noncomputable def latE (s : List UInt8) : List UInt8 := (rns s).flatMap lat
theorem lat_len : ∀ (l : List Int), l.all inRep = true → (l.flatMap lat).length ≤ (ofR l).length
 | [], _ => Nat.le_refl _
 | r :: l, h => by
  rw [List.all_cons, Bool.and_eq_true] at h
  have h1 := (lat_ok h.1).2.1
  have h2 := lat_len l h.2
  unfold ofR at h2 ⊢
  simp only [List.flatMap_cons, List.length_append]
  omega
theorem latE_len {s : List UInt8} (h : vld s = true) : (latE s).length ≤ s.length := by
 have := lat_len (rns s) (rns_ok h)
 rwa [ofR_rns h] at this
theorem put_fold {R : Type} (Put : Int → Option (List UInt8)) (hP : ∀ r, inRep r = true → Put r = some (lat r)) (k : List UInt8 → Option R) : ∀ (l : List Int) (out : List UInt8), l.all inRep = true → out.length + (ofR l).length ≤ 100000000 →
  foldR (fun r out self => bnd (Put r) fun v => grd (room (iadd (len out) (len v)) 1) (self (lapp out v))) k l out = k (out ++ l.flatMap lat)
 | [], out, _, _ => by simp [foldR]
 | r :: l, out, h, hb => by
  rw [List.all_cons, Bool.and_eq_true] at h
  have h1 := (lat_ok h.1).2.1
  simp only [ofR, List.flatMap_cons, List.length_append] at hb
  rw [foldR, bnd_s (hP r h.1), grd_t (room_t (by simp only [iadd, len]; omega))]
  show foldR _ _ _ (lapp out (lat r)) = _
  rw [put_fold Put hP k l _ h.2 (by simp only [lapp, List.length_append, ofR]; omega)]
  simp [lapp]
theorem latin_encode {s : List UInt8} (hs : s.length ≤ 4000000) : q30 fuelH s = if vld s = true then some (latE s, 0) else some ([], 10) := by
 unfold q30
 rw [bnd_s (ch_valid s hs)]
 cases hv : vld s with
 | false => rfl
 | true =>
  rw [cnd_f (by rfl), jn_e, if_pos rfl]
  rw [show (([] : List UInt8), s, ofN 0) = (fun (a : List UInt8) (p : Nat) => (a, s, ofN p)) [] 0 from rfl]
  refine (str_loop (s := s) (fun (a : List UInt8) (p : Nat) => (a, s, ofN p)) (fun r out self => bnd (q29 fuelH r) fun v => grd (room (iadd (len out) (len v)) 1) (self (lapp out v))) (fun out => some (out, 0)) (fun self a p hp => ?_) (fun self a p hp => ?_) fuelH 0 [] (by have := fuelH_eq; omega)).trans ?_
  ·simp only [toN_ofN]
   rw [cnd_t (nlt_t (show p < nlen s from hp))]
   rfl
  ·simp only [toN_ofN]
   rw [cnd_f (nlt_f (show ¬ p < nlen s by unfold nlen; omega))]
  ·rw [List.drop_zero, put_fold (q29 fuelH) (fun r h => (lat_ok h).1) _ _ _ (rns_ok hv) (by rw [ofR_rns hv]; simp; omega)]
   rfl
theorem snoc_fold {R : Type} (k : List Int → Option R) : ∀ (l out : List Int), out.length + l.length ≤ 100000000 →
  foldR (fun r out self => grd (room (iadd (len out) (len [r])) 4) (self (lapp out [r]))) k l out = k (out ++ l)
 | [], out, _ => by simp [foldR]
 | r :: l, out, h => by
  simp only [List.length_cons] at h
  rw [foldR, grd_t (room_t (by simp [iadd, len]; omega))]
  show foldR _ _ _ (lapp out [r]) = _
  rw [snoc_fold k l _ (by simp [lapp]; omega)]
  simp [lapp]
theorem r08_runes_eq {s : List UInt8} (hs : s.length ≤ 4000000) : q162 fuelH s = some (rns s) := by
 unfold q162
 rw [jn_e]
 rw [show (([] : List Int), s, ofN 0) = (fun (a : List Int) (p : Nat) => (a, s, ofN p)) [] 0 from rfl]
 refine (str_loop (s := s) (fun (a : List Int) (p : Nat) => (a, s, ofN p)) (fun r out self => grd (room (iadd (len out) (len [r])) 4) (self (lapp out [r]))) (fun out => some out) (fun self a p hp => ?_) (fun self a p hp => ?_) fuelH 0 [] (by have := fuelH_eq; omega)).trans ?_
 ·simp only [toN_ofN]
  rw [cnd_t (nlt_t (show p < nlen s from hp))]
  rfl
 ·simp only [toN_ofN]
  rw [cnd_f (nlt_f (show ¬ p < nlen s by unfold nlen; omega))]
 ·have := rns_len _ s (Nat.le_refl _)
  rw [List.drop_zero, snoc_fold _ _ _ (by simp; omega)]
  rfl
theorem put_foldI {R : Type} (Put : Int → Option (List UInt8)) (hP : ∀ r, inRep r = true → Put r = some (lat r)) (k : List UInt8 → Option R) : ∀ (l : List Int) (i : Nat) (out : List UInt8), l.all inRep = true → out.length + (ofR l).length ≤ 100000000 →
  foldI (fun _ r out self => bnd (Put r) fun v => grd (room (iadd (len out) (len v)) 1) (self (lapp out v))) k i l out = k (out ++ l.flatMap lat)
 | [], i, out, _, _ => by simp [foldI]
 | r :: l, i, out, h, hb => by
  rw [List.all_cons, Bool.and_eq_true] at h
  have h1 := (lat_ok h.1).2.1
  simp only [ofR, List.flatMap_cons, List.length_append] at hb
  rw [foldI, bnd_s (hP r h.1), grd_t (room_t (by simp only [iadd, len]; omega))]
  show foldI _ _ _ _ (lapp out (lat r)) = _
  rw [put_foldI Put hP k l (i + 1) _ h.2 (by simp only [lapp, List.length_append, ofR]; omega)]
  simp [lapp]
theorem r22_encode {s : List UInt8} (hs : s.length ≤ 4000000) : q165 fuelH s = if vld s = true then some (latE s, 0) else some ([], 10) := by
 unfold q165
 rw [bnd_s (r08_valid s hs)]
 cases hv : vld s with
 | false => rfl
 | true =>
  have hc : q163 fuelH s = some (rns s) := by
   unfold q163
   rw [bnd_s (r08_valid s hs), hv, cnd_f (by rfl), bnd_s (r08_runes_eq hs)]
  have hl := rns_len _ s (Nat.le_refl _)
  rw [cnd_f (by rfl), jn_e, if_pos rfl, bnd_s hc]
  rw [show (([] : List UInt8), (0 : Int)) = (fun (a : List UInt8) (p : Nat) => (a, (p : Int))) [] 0 from rfl]
  refine (lst_loop (l := rns s) (fun (a : List UInt8) (p : Nat) => (a, (p : Int))) (fun _ r out self => bnd (r22_Put fuelH r) fun v => grd (room (iadd (len out) (len v)) 1) (self (lapp out v))) (fun out => some (out, 0)) (fun self a i hi => ?_) (fun self a => ?_) fuelH 0 [] (Nat.zero_le _) (by have := fuelH_eq; omega)).trans ?_
  ·rw [cnd_t (ilt_t (by simp only [len]; omega)), grd_t (inb_t (by simp only [len]; omega)), lget_i hi, w64_succ hi (by omega)]
  ·rw [cnd_f (ilt_f (by simp only [len]; omega))]
  ·rw [List.drop_zero, put_foldI (r22_Put fuelH) (fun r h => (lat_ok h).2.2.2) _ _ _ _ (rns_ok hv) (by rw [ofR_rns hv]; simp; omega)]
   rfl
end Go.Mo
end

section
/-
  Small plain facts: bytes, lengths, equality of texts.
-/
namespace Go.Mo
open Go Go.W Go.Lib
set_option maxRecDepth 100000
noncomputable section
theorem catOk_t {n : Int} (h : n ≤ 9223372036854775807) : catOk n = true := decide_eq_true h
theorem n8_rng (c : UInt8) : 0 ≤ n8 c ∧ n8 c < 256 := by
 unfold n8
 have : c.toNat < 256 := c.toNat_lt
 omega
theorem enc_len {r : Int} (hr : inRep r = true) : (enc r).length ≤ 4 :=
 of_decide_eq_true (all_rep (P := fun r => decide ((enc r).length ≤ 4)) (by kernel_rfl) hr)
theorem sgs_rep : (sgs.all fun x => inRep x.1) = true := by kernel_rfl
theorem seq_dec (x y : List UInt8) : seq x y = decide (x = y) := by
 unfold seq
 by_cases h : x = y
 ·subst h; simp
 ·rw [decide_eq_false h]
  simpa using h
end
end Go.Mo
end

section
/-
  Plain facts: characters of the tape form read back.
-/
namespace Go.Mo
open Go Go.W Go.Lib
set_option maxRecDepth 100000
noncomputable section
noncomputable def low (r : Int) : Int := if (65 ≤ r ∧ r ≤ 90) ∨ (192 ≤ r ∧ r < 223) then r + 32 else if r = 338 then 339 else r
noncomputable def lowK (x v0 : Int) : Option Int :=
 cnd (ilt v0 (0 : Int))
  (some (0 : Int))
  (jn (fun (v1 : Bool) =>
   cnd v1
    (some (wr .i32 (iadd x (32 : Int))))
    (cnd (ieq x (338 : Int))
     (some (339 : Int))
     (some x)))
  fun v2 =>
  cnd (ile (65 : Int) x)
   (cnd (ile x (90 : Int))
    (v2 (ile x (90 : Int)))
    (cnd (ile (192 : Int) x)
     (v2 (ilt x (223 : Int)))
     (v2 false)))
   (cnd (ile (192 : Int) x)
    (v2 (ilt x (223 : Int)))
    (v2 false)))
theorem lower_eq {r : Int} (hr : inRep r = true) : q97 fuelH r = some (low r) := by
 have h : q97 fuelH r = bnd (q13 fuelH r) (lowK r) := by kernel_rfl
 rw [h, ch_ix, (ix_ok hr).1, bnd_some']
 exact of_decide_eq_true (all_rep (P := fun r => decide (lowK r (ix r) = some (low r))) (by kernel_rfl) hr)
noncomputable def accS (a : UInt8) : List UInt8 := match accs.find? fun x => x.1 == a with
 | some x => x.2.1
 | none => []
noncomputable def accR (a : UInt8) : List Int := match accs.find? fun x => x.1 == a with
 | some x => x.2.2
 | none => []
theorem accR_tab (a : UInt8) : q20 fuelH a = some (accS a) ∧ rns (accS a) = accR a ∧ (accR a).all (fun r => inRep r && inRep (low r)) = true :=
 of_decide_eq_true (all_u8 (P := fun a => decide (q20 fuelH a = some (accS a) ∧ rns (accS a) = accR a ∧ (accR a).all (fun r => inRep r && inRep (low r)) = true)) (by kernel_rfl) a)
noncomputable def sgStr : List UInt8 := [194, 161, 194, 162, 194, 163, 194, 164, 194, 165, 194, 166, 194, 167, 194, 169, 226, 128, 152, 226, 128, 156, 194, 171, 194, 174, 226, 128, 148, 226, 128, 162, 226, 128, 166, 194, 176, 226, 132, 162, 194, 183, 226, 128, 153, 226, 128, 157, 194, 187, 194, 189, 194, 191, 226, 153, 170, 195, 134, 195, 152, 197, 146, 195, 166, 195, 184, 197, 147, 195, 159]
noncomputable def sgB : List UInt8 := [161, 162, 163, 164, 165, 166, 167, 168, 169, 170, 171, 172, 173, 174, 175, 176, 180, 183, 185, 186, 187, 189, 191, 213, 225, 233, 234, 241, 249, 250, 251]
theorem sgStr_rns : rns sgStr = sgs.map (·.1) := by kernel_rfl
noncomputable def gS (a : UInt8) (r i : Int) (self : Int → Option (Int × Int)) : Option (Int × Int) :=
 grd (inb i (len sgB)) (cnd (ieq (n8 (lget sgB (toN i) (0 : UInt8))) (n8 a)) (some (r, (1 : Int))) (self (w64 (iadd i (1 : Int)))))
noncomputable def sgG : List (Int × UInt8) → UInt8 → Option (Int × Int) → Option (Int × Int)
 | [], _, K => K
 | (r, b) :: l, a, K => cnd (ieq (n8 b) (n8 a)) (some (r, (1 : Int))) (sgG l a K)
theorem gS_eq (a : UInt8) (K : Option (Int × Int)) : foldR (gS a) (fun _ => K) (sgs.map (·.1)) 0 = sgG sgs a K := by kernel_rfl
noncomputable def inner (r w : Int) (x : List UInt8) (K : Option (Int × Int)) : Option (Int × Int) :=
 fixN (fun v8 (v9 : Int) =>
        cnd (ilt v9 (2 : Int))
         (grd (inb v9 (ofN 2))
          (bnd (q28 fuelH (lget ([r, w] : List Int) (toN v9) (0 : Int))) fun v10 =>
          grd (inb (1 : Int) (len x)) <|
          cnd (ieq v10 (wr .i32 (n8 (lget x (toN (1 : Int)) (0 : UInt8)))))
           (some (lget ([r, w] : List Int) (toN v9) (0 : Int), (2 : Int)))
           (v8 (w64 (iadd v9 (1 : Int))))))
         K) fuelH (0 : Int)
theorem wr8 (c : UInt8) : wr .i32 (n8 c) = n8 c := by
 have := n8_rng c
 exact wi32_id (by omega)
theorem inner_eq {r w : Int} (hr : inRep r = true) (hw : inRep w = true) (a b : UInt8) (t : List UInt8) (K : Option (Int × Int)) :
  inner r w (a :: b :: t) K = cnd (ieq (bas r) (n8 b)) (some (r, 2)) (cnd (ieq (bas w) (n8 b)) (some (w, 2)) K) := by
 unfold inner
 refine Eq.trans (lst_loop (l := [r, w]) (fun (_ : Unit) (p : Nat) => (p : Int)) (fun _ c (_ : Unit) self => bnd (q28 fuelH c) fun v10 => cnd (ieq v10 (n8 b)) (some (c, (2 : Int))) (self ())) (fun _ => K) (fun self a' i hi => ?_) (fun self a => ?_) fuelH 0 () (Nat.zero_le _) (by have := fuelH_eq; show 2 - 0 < fuelH; omega)) ?_
 ·have hi2 : i < 2 := hi
  rw [cnd_t (ilt_t (by omega)), grd_t (inb_t (by simp only [ofN]; omega)), lget_i hi, w64_succ hi2 (by omega)]
  rw [show lget (a :: b :: t) (toN (1 : Int)) 0 = b from rfl, wr8]
  have hg : inb (1 : Int) (len (a :: b :: t)) = true := inb_t (by simp only [len, List.length_cons]; omega)
  rw [hg]
  rfl
 ·exact cnd_f (by rfl)
 ·rw [List.drop_zero]
  simp only [foldI]
  rw [base_eq hr, base_eq hw]
  rfl
noncomputable def acG : List Int → UInt8 → Option (Int × Int)
 | [], _ => some (0, 0)
 | r :: l, b => cnd (ieq (bas r) (n8 b)) (some (r, (2 : Int))) (cnd (ieq (bas (low r)) (n8 b)) (some (low r, (2 : Int))) (acG l b))
theorem acG_eq (a b : UInt8) (t : List UInt8) : ∀ l : List Int, l.all (fun r => inRep r && inRep (low r)) = true →
  foldR (fun r (_ : Unit) self => bnd (q97 fuelH r) fun v7 => inner r v7 (a :: b :: t) (self ())) (fun _ => some (0, 0)) l () = acG l b
 | [], _ => rfl
 | r :: l, h => by
  rw [List.all_cons, Bool.and_eq_true, Bool.and_eq_true] at h
  rw [foldR, lower_eq h.1.1, bnd_some', inner_eq h.1.1 h.1.2]
  show cnd _ _ (cnd _ _ (foldR _ _ l ())) = _
  rw [acG_eq a b t l h.2]
  rfl
noncomputable def acH (a : UInt8) : List UInt8 → Option (Int × Int)
 | [] => some (0, 0)
 | b :: _ => acG (accR a) b
noncomputable def gtX (a : UInt8) (t : List UInt8) : Option (Int × Int) := sgG sgs a (acH a t)
noncomputable def gtZ (x : List UInt8) : Option (Int × Int) :=
   jn (fun (v1 : Unit) =>
    cnd (ilt (len x) (2 : Int))
     (some ((0 : Int), (0 : Int)))
     (jn (fun (v2 : Unit) =>
      some ((0 : Int), (0 : Int)))
     fun v3 =>
     grd (inb (0 : Int) (len x)) <|
     bnd (q20 fuelH (lget x (toN (0 : Int)) (0 : UInt8))) fun v4 =>
     fixN (fun v5 (v6 : (List UInt8) × Int) =>
      cnd (nlt (toN v6.2) (nlen v6.1))
       (bnd (q97 fuelH (decR v6.1 (toN v6.2))) fun v7 =>
       inner (decR v6.1 (toN v6.2)) v7 x (v5 (v6.1, ofN (nadd (toN v6.2) (decW v6.1 (toN v6.2))))))
       (v3 ())) fuelH (v4, ofN 0)))
   fun v11 =>
   fixN (fun v12 (v13 : Int × (List UInt8) × Int) =>
    cnd (nlt (toN v13.2.2) (nlen v13.2.1))
     (grd (inb v13.1 (len sgB))
      (grd (inb (0 : Int) (len x))
       (cnd (ieq (n8 (lget sgB (toN v13.1) (0 : UInt8))) (n8 (lget x (toN (0 : Int)) (0 : UInt8))))
        (some (decR v13.2.1 (toN v13.2.2), (1 : Int)))
        (v12 (w64 (iadd v13.1 (1 : Int)), v13.2.1, ofN (nadd (toN v13.2.2) (decW v13.2.1 (toN v13.2.2))))))))
     (v11 ())) fuelH ((0 : Int), sgStr, ofN 0)
noncomputable def gtY (x : List UInt8) : Option (Int × Int) :=
 jn (fun (_ : Unit) =>
   gtZ x)
  fun v14 =>
  grd (inb (0 : Int) (len x)) <|
  cnd (ile (n8 (32 : UInt8)) (n8 (lget x (toN (0 : Int)) (0 : UInt8))))
   (grd (inb (0 : Int) (len x))
    (cnd (ilt (n8 (lget x (toN (0 : Int)) (0 : UInt8))) (n8 (127 : UInt8)))
     (grd (inb (0 : Int) (len x))
      (some (wr .i32 (n8 (lget x (toN (0 : Int)) (0 : UInt8))), (1 : Int))))
     (v14 ())))
   (v14 ())
theorem gtY_eq (x : List UInt8) : q98 fuelH x = cnd (ieq (len x) (0 : Int)) (some ((0 : Int), (0 : Int))) (gtY x) := by kernel_rfl
theorem gtZ_eq (a : UInt8) (t : List UInt8) : gtZ (a :: t) = gtX a t := by
 have hb : inb (0 : Int) (len (a :: t)) = true := inb_t (by simp only [len, List.length_cons]; omega)
 have g0 : lget (a :: t) (toN (0 : Int)) 0 = a := rfl
 have hS : sgStr.length = 71 := by kernel_rfl
 unfold gtZ
 rw [jn_e, hb, g0]
 have e : ∀ K : Option (Int × Int), fixN (fun v12 (v13 : Int × (List UInt8) × Int) =>
    cnd (nlt (toN v13.2.2) (nlen v13.2.1))
     (grd (inb v13.1 (len sgB))
      (grd true
       (cnd (ieq (n8 (lget sgB (toN v13.1) (0 : UInt8))) (n8 a))
        (some (decR v13.2.1 (toN v13.2.2), (1 : Int)))
        (v12 (w64 (iadd v13.1 (1 : Int)), v13.2.1, ofN (nadd (toN v13.2.2) (decW v13.2.1 (toN v13.2.2))))))))
     K) fuelH ((0 : Int), sgStr, ofN 0) = sgG sgs a K := by
  intro K
  refine Eq.trans (str_loop (s := sgStr) (fun (i : Int) (p : Nat) => (i, sgStr, ofN p)) (gS a) (fun _ => K) (fun self i p hp => ?_) (fun self i p hp => ?_) fuelH 0 0 (by rw [hS]; decide)) ?_
  ·rw [cnd_t (nlt_t (show toN (ofN p) < nlen sgStr by rw [toN_ofN]; exact hp))]
   simp only [toN_ofN]
   rfl
  ·rw [cnd_f (nlt_f (show ¬ toN (ofN p) < nlen sgStr by rw [toN_ofN]; unfold nlen; omega))]
  ·rw [List.drop_zero, sgStr_rns, gS_eq]
 have e' : acH a t = cnd (ilt (len (a :: t)) (2 : Int))
     (some ((0 : Int), (0 : Int)))
     (jn (fun (v2 : Unit) =>
      some ((0 : Int), (0 : Int)))
     fun v3 =>
     grd true <|
     bnd (q20 fuelH a) fun v4 =>
     fixN (fun v5 (v6 : (List UInt8) × Int) =>
      cnd (nlt (toN v6.2) (nlen v6.1))
       (bnd (q97 fuelH (decR v6.1 (toN v6.2))) fun v7 =>
       inner (decR v6.1 (toN v6.2)) v7 (a :: t) (v5 (v6.1, ofN (nadd (toN v6.2) (decW v6.1 (toN v6.2))))))
       (v3 ())) fuelH (v4, ofN 0)) := by
  cases t with
  | nil => rfl
  | cons b t =>
   obtain ⟨h1, h2, h3⟩ := accR_tab a
   have hl : (accS a).length < 100 := of_decide_eq_true (all_u8 (P := fun a => decide ((accS a).length < 100)) (by kernel_rfl) a)
   rw [cnd_f (ilt_f (by simp only [len, List.length_cons]; omega)), jn_e, h1, grd_t rfl, bnd_some']
   refine Eq.symm (Eq.trans (str_loop (s := accS a) (fun (_ : Unit) (p : Nat) => (accS a, ofN p)) (fun r (_ : Unit) self => bnd (q97 fuelH r) fun v7 => inner r v7 (a :: b :: t) (self ())) (fun _ => some (0, 0)) (fun self i p hp => ?_) (fun self i p hp => ?_) fuelH 0 () (by have := fuelH_eq; omega)) ?_)
   ·rw [cnd_t (nlt_t (show toN (ofN p) < nlen (accS a) by rw [toN_ofN]; exact hp))]
    simp only [toN_ofN]
    rfl
   ·rw [cnd_f (nlt_f (show ¬ toN (ofN p) < nlen (accS a) by rw [toN_ofN]; unfold nlen; omega))]
   ·rw [List.drop_zero, h2, acG_eq a b t _ h3]
    rfl
 unfold gtX
 rw [e']
 exact e _
theorem latin_get_cons (a : UInt8) (t : List UInt8) : q98 fuelH (a :: t) = cnd (ile 32 (n8 a)) (cnd (ilt (n8 a) 127) (some (n8 a, 1)) (gtX a t)) (gtX a t) := by
 have hb : inb (0 : Int) (len (a :: t)) = true := inb_t (by simp only [len, List.length_cons]; omega)
 have g0 : lget (a :: t) (toN (0 : Int)) 0 = a := rfl
 rw [gtY_eq, cnd_f (ieq_f (by simp only [len, List.length_cons]; omega))]
 unfold gtY
 rw [jn_e, hb, g0, wr8]
 show grd true (cnd _ (grd true (cnd _ (grd true _) (gtZ (a :: t)))) (gtZ (a :: t))) = _
 rw [gtZ_eq]
 rfl
noncomputable def sgF (a : UInt8) : Option (Int × UInt8) := sgs.find? fun x => n8 x.2 == n8 a
theorem sgG_eq (a : UInt8) (K : Option (Int × Int)) : ∀ l : List (Int × UInt8), sgG l a K = match l.find? fun x => n8 x.2 == n8 a with
  | some x => some (x.1, 1)
  | none => K
 | [] => rfl
 | (r, b) :: l => by
  simp only [sgG, List.find?_cons]
  by_cases h : n8 b = n8 a
  ·rw [cnd_t (ieq_t h), show (n8 b == n8 a) = true from by simp [h]]
  ·rw [cnd_f (ieq_f h), show (n8 b == n8 a) = false from by simp [h], sgG_eq a K l]
noncomputable def latB (r : Int) : Bool := match lat r with
 | [a] => (decide (32 ≤ n8 a) && decide (n8 a < 127) && decide (n8 a = r)) || (!(decide (32 ≤ n8 a) && decide (n8 a < 127)) && decide ((sgF a).map (·.1) = some r))
 | [a, b] => !(decide (32 ≤ n8 a) && decide (n8 a < 127)) && (sgF a).isNone && decide (acG (accR a) b = some (r, 2))
 | _ => false
theorem latin_get_lat {r : Int} (hr : inRep r = true) (t : List UInt8) : q98 fuelH (lat r ++ t) = some (r, ((lat r).length : Int)) := by
 have hb : latB r = true := all_rep (P := latB) (by kernel_rfl) hr
 unfold latB at hb
 have hx : ∀ a (u : List UInt8), (decide (32 ≤ n8 a) && decide (n8 a < 127)) = false → q98 fuelH (a :: u) = gtX a u := by
  intro a u h
  rw [latin_get_cons, cnd_ile, cnd_ilt]
  simp only [Bool.and_eq_false_iff, decide_eq_false_iff_not] at h
  split
  ·rw [if_neg (by omega)]
  ·rfl
 split at hb
 ·rename_i a he
  rw [he]
  show q98 fuelH (a :: t) = some (r, 1)
  simp only [Bool.or_eq_true, Bool.and_eq_true, decide_eq_true_eq, Bool.not_eq_true'] at hb
  rcases hb with ⟨⟨h1, h2⟩, h3⟩ | ⟨h1, h2⟩
  ·rw [latin_get_cons, cnd_t (ile_t h1), cnd_t (ilt_t h2), h3]
  ·rw [hx a t h1]
   unfold gtX
   rw [sgG_eq]
   unfold sgF at h2
   cases hf : sgs.find? fun x => n8 x.2 == n8 a with
   | none => rw [hf] at h2; simp at h2
   | some x =>
    rw [hf] at h2
    simp only [Option.map_some, Option.some.injEq] at h2
    simp only [h2]
 ·rename_i a b he
  rw [he]
  show q98 fuelH (a :: b :: t) = some (r, 2)
  simp only [Bool.and_eq_true, decide_eq_true_eq, Bool.not_eq_true', Option.isNone_iff_eq_none] at hb
  rw [hx a _ hb.1.1]
  unfold gtX
  rw [sgG_eq]
  have := hb.1.2
  unfold sgF at this
  rw [this]
  exact hb.2
 ·cases hb
end
end Go.Mo
end

section
/-
  Plain facts: the specification's reader of headers.
-/
namespace Go.Mo
open Go Go.W Go.Lib
set_option maxRecDepth 100000
noncomputable section
noncomputable def mks : List UInt8 := [193, 193, 193, 193, 193, 194, 194, 194, 194, 194, 195, 195, 195, 195, 195, 196, 196, 196, 200, 200, 200, 200, 200, 202, 203]
noncomputable def lts : List UInt8 := [65, 69, 73, 79, 85, 65, 69, 73, 79, 85, 65, 69, 73, 79, 85, 65, 78, 79, 65, 69, 73, 79, 85, 65, 67]
noncomputable def chs : List Int := [192, 200, 204, 210, 217, 193, 201, 205, 211, 218, 194, 202, 206, 212, 219, 195, 209, 213, 196, 203, 207, 214, 220, 197, 199]
noncomputable def dblK (a : UInt8) (v0 : Bool) (v1 : UInt8) : Option Int :=
 jn (fun (_ : Unit) => some (0 : Int)) fun v3 =>
 fixN (fun v4 (v5 : Int) =>
    cnd (ilt v5 (len mks))
     (grd (inb v5 (len mks))
      (cnd (ieq (n8 (lget mks (toN v5) (0 : UInt8))) (n8 a))
       (grd (inb v5 (len lts))
        (cnd (ieq (n8 (lget lts (toN v5) (0 : UInt8))) (n8 v1))
         (cnd v0
          (grd (inb v5 (len chs))
           (some (wr .i32 (iadd (lget chs (toN v5) (0 : Int)) (32 : Int)))))
          (grd (inb v5 (len chs))
           (some (lget chs (toN v5) (0 : Int)))))
         (v4 (w64 (iadd v5 (1 : Int))))))
       (v4 (w64 (iadd v5 (1 : Int))))))
     (v3 ())) fuelH (0 : Int)
noncomputable def dblV (a b : UInt8) (v0 : Bool) : Option Int :=
 jn (fun (v1 : UInt8) => dblK a v0 v1) fun v6 => cnd v0 (v6 (b8 (isub (n8 b) (n8 (32 : UInt8))))) (v6 b)
theorem double_form (a b : UInt8) : q149 fuelH (a, b) = jn (fun (v0 : Bool) => dblV a b v0) fun v7 => cnd (ile (n8 (97 : UInt8)) (n8 b)) (v7 (ile (n8 b) (n8 (122 : UInt8)))) (v7 false) := by kernel_rfl
theorem dblK_none {a : UInt8} (h : mks.all (fun m => n8 m != n8 a) = true) (v0 : Bool) (v1 : UInt8) : dblK a v0 v1 = some 0 := by
 unfold dblK
 rw [jn_e]
 have hl : mks.length = 25 := rfl
 refine Eq.trans (lst_loop (l := mks) (fun (_ : Unit) (p : Nat) => (p : Int)) (fun _ _ (_ : Unit) self => self ()) (fun _ => some 0) (fun self a' i hi => ?_) (fun self a => ?_) fuelH 0 () (Nat.zero_le _) (by rw [hl]; decide)) ?_
 ·have hm : n8 mks[i] ≠ n8 a := by
   have := List.all_eq_true.1 h mks[i] (List.getElem_mem hi)
   simpa using this
  rw [cnd_t (ilt_t (by simp only [len]; omega)), grd_t (inb_t (by simp only [len]; omega)), lget_i hi, cnd_f (ieq_f hm), w64_succ hi (by omega)]
 ·rw [cnd_f (ilt_f (by simp only [len]; omega))]
 ·rfl
theorem cnd_same {α : Type} {b : Bool} {x y r : Option α} (hx : x = r) (hy : y = r) : cnd b x y = r := by cases b <;> assumption
theorem double_none {a : UInt8} (h : mks.all (fun m => n8 m != n8 a) = true) (b : UInt8) : q149 fuelH (a, b) = some 0 := by
 have hv : ∀ v0, dblV a b v0 = some 0 := by
  intro v0
  unfold dblV
  rw [jn_e]
  exact cnd_same (dblK_none h _ _) (dblK_none h _ _)
 rw [double_form, jn_e]
 exact cnd_same (hv _) (hv _)
noncomputable def mk7 : List UInt8 := [193, 194, 195, 196, 200, 202, 203]
theorem mk7_tab (a : UInt8) : mk7.contains a = true ∨ (mks.all (fun m => n8 m != n8 a) = true ∧ accR a = []) :=
 of_decide_eq_true (all_u8 (P := fun a => decide (mk7.contains a = true ∨ (mks.all (fun m => n8 m != n8 a) = true ∧ accR a = []))) (by kernel_rfl) a)
noncomputable def dok (a b : UInt8) : Bool := match q149 fuelH (a, b) with
 | some d => decide (acG (accR a) b = if d = 0 then some (0, 0) else some (d, 2))
 | none => false
theorem dok_tab (b : UInt8) : (mk7.all fun a => dok a b) = true := all_u8 (P := fun b => mk7.all fun a => dok a b) (by kernel_rfl) b
theorem double_acG (a b : UInt8) : ∃ d, q149 fuelH (a, b) = some d ∧ acG (accR a) b = if d = 0 then some (0, 0) else some (d, 2) := by
 rcases mk7_tab a with h | ⟨h, h2⟩
 ·have := List.all_eq_true.1 (dok_tab b) a (List.contains_iff_mem.1 h)
  unfold dok at this
  cases hd : q149 fuelH (a, b) with
  | none => rw [hd] at this; cases this
  | some d => rw [hd] at this; exact ⟨d, rfl, of_decide_eq_true this⟩
 ·exact ⟨0, double_none h b, by rw [h2]; rfl⟩
noncomputable def sok (a : UInt8) : Bool := if 32 ≤ n8 a ∧ n8 a < 127 then decide (sgl a = n8 a) else match sgF a with
 | some x => decide (sgl a = x.1 ∧ x.1 ≠ 0)
 | none => decide (sgl a = 0)
theorem sok_tab (a : UInt8) : sok a = true := all_u8 (P := sok) (by kernel_rfl) a
theorem get_same (x : List UInt8) : r22_Get fuelH x = q98 fuelH x := by
 cases x with
 | nil => kernel_rfl
 | cons a t =>
  have hR : q98 fuelH (a :: t) = if 32 ≤ n8 a ∧ n8 a < 127 then some (n8 a, 1) else gtX a t := by
   rw [latin_get_cons, cnd_ile, cnd_ilt]
   by_cases h1 : 32 ≤ n8 a
   ·rw [if_pos h1]
    by_cases h2 : n8 a < 127
    ·rw [if_pos h2, if_pos ⟨h1, h2⟩]
    ·rw [if_neg h2, if_neg (fun h => h2 h.2)]
   ·rw [if_neg h1, if_neg (fun h => h1 h.1)]
  unfold r22_Get
  have hb : inb (0 : Int) (len (a :: t)) = true := inb_t (by simp only [len, List.length_cons]; omega)
  have g0 : lget (a :: t) (toN (0 : Int)) 0 = a := rfl
  rw [cnd_f (ieq_f (by simp only [len, List.length_cons]; omega)), grd_t hb, g0, single_eq, bnd_some', cnd_ine, hR]
  have hs := sok_tab a
  unfold sok at hs
  have hX : sgl a = 0 → sgF a = none → (cnd (ilt (1 : Int) (len (a :: t)))
     (grd (inb (0 : Int) (len (a :: t)))
      (grd (inb (1 : Int) (len (a :: t)))
       (bnd (q149 fuelH (a, lget (a :: t) (toN (1 : Int)) (0 : UInt8))) fun v1 =>
       cnd (ine v1 (0 : Int))
        (some (v1, (2 : Int)))
        (some ((0 : Int), (0 : Int))))))
     (some ((0 : Int), (0 : Int)))) = gtX a t := by
   intro h0 hf
   unfold gtX
   rw [sgG_eq]
   unfold sgF at hf
   rw [hf]
   cases t with
   | nil => rfl
   | cons b t =>
    obtain ⟨d, h1, h2⟩ := double_acG a b
    rw [cnd_t (ilt_t (by simp only [len, List.length_cons]; omega)), grd_t (inb_t (by simp only [len, List.length_cons]; omega)), grd_t (inb_t (by simp only [len, List.length_cons]; omega))]
    show bnd (q149 fuelH (a, b)) _ = acG (accR a) b
    rw [h1, bnd_some', h2, cnd_ine]
    by_cases hd : d = 0
    ·rw [if_neg (by simp [hd]), if_pos hd]
    ·rw [if_pos hd, if_neg hd]
  have hY : (if sgl a ≠ 0 then some (sgl a, (1 : Int)) else (cnd (ilt (1 : Int) (len (a :: t)))
     (grd (inb (0 : Int) (len (a :: t)))
      (grd (inb (1 : Int) (len (a :: t)))
       (bnd (q149 fuelH (a, lget (a :: t) (toN (1 : Int)) (0 : UInt8))) fun v1 =>
       cnd (ine v1 (0 : Int))
        (some (v1, (2 : Int)))
        (some ((0 : Int), (0 : Int))))))
     (some ((0 : Int), (0 : Int))))) = if 32 ≤ n8 a ∧ n8 a < 127 then some (n8 a, 1) else gtX a t := by
   by_cases hc : 32 ≤ n8 a ∧ n8 a < 127
   ·rw [if_pos hc] at hs
    have := of_decide_eq_true hs
    rw [if_pos hc, this, if_pos (by omega)]
   ·rw [if_neg hc] at hs
    rw [if_neg hc]
    cases hf : sgF a with
    | some y =>
     rw [hf] at hs
     have := of_decide_eq_true hs
     rw [this.1, if_pos this.2]
     unfold gtX
     rw [sgG_eq]
     unfold sgF at hf
     rw [hf]
    | none =>
     rw [hf] at hs
     have := of_decide_eq_true hs
     rw [if_neg (by simp [this])]
     exact hX this hf
  exact hY
theorem of_eq {l : List Int} (hl : l.length ≤ 4000000) (h : l.all inRep = true) : r08_Of fuelH l = some (ofR l) := by
 unfold r08_Of
 rw [jn_e, show (([] : List UInt8), (0 : Int)) = (fun (s : List UInt8) (p : Nat) => (s, (p : Int))) [] 0 from rfl]
 refine Eq.trans (lst_loop (l := l) (fun (s : List UInt8) (p : Nat) => (s, (p : Int))) (fun _ r s self => bnd (q151 fuelH r) fun v4 => cnd (ilt v4 (0 : Int)) (some ([] : List UInt8)) (grd (catOk (iadd (len s) (len (enc r)))) (self (lapp s (enc r))))) (fun s => some s) (fun self s i hi => ?_) (fun self s => ?_) fuelH 0 [] (Nat.zero_le _) (by have := fuelH_eq; omega)) ?_
 ·rw [cnd_t (ilt_t (by simp only [len]; omega)), grd_t (inb_t (by simp only [len]; omega)), lget_i hi, w64_succ hi (by omega)]
 ·rw [cnd_f (ilt_f (by simp only [len]; omega))]
 ·rw [List.drop_zero]
  have : ∀ (l : List Int) (i : Nat) (s : List UInt8), l.all inRep = true → s.length + 4 * l.length ≤ 100000000 → foldI (fun _ r s self => bnd (q151 fuelH r) fun v4 => cnd (ilt v4 (0 : Int)) (some ([] : List UInt8)) (grd (catOk (iadd (len s) (len (enc r)))) (self (lapp s (enc r))))) (fun s => some s) i l s = some (s ++ ofR l) := by
   intro l
   induction l with
   | nil => intro i s _ _; simp [foldI, ofR]
   | cons r l ih =>
    intro i s h hb
    rw [List.all_cons, Bool.and_eq_true] at h
    simp only [List.length_cons] at hb
    have he := enc_len h.1
    have hx := (ix_ok h.1).2
    rw [foldI, r08_ix, (ix_ok h.1).1, bnd_some', cnd_f (ilt_f (by omega)), grd_t (catOk_t (by simp only [iadd, len]; omega))]
    show foldI _ _ _ l (s ++ enc r) = _
    rw [ih (i + 1) (s ++ enc r) h.2 (by rw [List.length_append]; omega)]
    unfold ofR
    rw [List.flatMap_cons, List.append_assoc]
  rw [this l 0 [] h (by simp only [List.length_nil]; omega)]
  rfl
theorem ofR_len : ∀ l : List Int, l.all inRep = true → (ofR l).length ≤ 4 * l.length
 | [], _ => Nat.le_refl _
 | r :: l, h => by
  rw [List.all_cons, Bool.and_eq_true] at h
  have h1 := enc_len h.1
  have h2 := ofR_len l h.2
  unfold ofR at h2 ⊢
  rw [List.flatMap_cons, List.length_append, List.length_cons]
  omega
noncomputable def dec22F : ((List UInt8) × List Int → Option (List UInt8 × Int)) → (List UInt8) × List Int → Option (List UInt8 × Int) := fun v3 (v4 : (List UInt8) × List Int) =>
  cnd (ilt (0 : Int) (len v4.1))
   (bnd (r22_Get fuelH v4.1) fun v5 =>
   cnd (ieq v5.2 (0 : Int))
    (some (([] : List UInt8), (4 : Int)))
    (grd (room (iadd (len v4.2) (len ([v5.1] : List Int))) 4)
     (grd (in2 v5.2 (len v4.1))
      (v3 (ldrop (toN v5.2) v4.1, lapp v4.2 ([v5.1] : List Int))))))
   (bnd (r08_Of fuelH v4.2) fun v1 => some (v1, (0 : Int)))
theorem dec22_form (x : List UInt8) : q152 fuelH x = fixN dec22F fuelH (x, []) := by
 unfold q152
 rw [jn_e]
 exact congrArg (fun F => fixN F fuelH (x, ([] : List Int))) (rfl : _ = dec22F)
end
end Go.Mo
end

section
/-
  Plain facts: rates, names, on both sides.
-/
namespace Go.Mo
open Go Go.W Go.Lib
set_option maxRecDepth 100000
noncomputable section
theorem valid_tab : ((List.range 256).all fun n => decide (q34 0 (UInt8.ofNat n) = q156 0 (UInt8.ofNat n) ∧ q35 0 (UInt8.ofNat n) = q157 0 (UInt8.ofNat n) ∧ q104 0 (UInt8.ofNat n) = q158 0 (UInt8.ofNat n))) = true := by kernel_rfl
theorem rate_eq (N : Nat) (r : UInt8) : q34 N r = q156 N r ∧ q35 N r = q157 N r ∧ q104 N r = q158 N r :=
 of_decide_eq_true (all_u8 (P := fun r => decide (q34 0 r = q156 0 r ∧ q35 0 r = q157 0 r ∧ q104 0 r = q158 0 r)) valid_tab r)
theorem digit_eq (N : Nat) (c : UInt8) : q153 N c = some (decide (48 ≤ n8 c ∧ n8 c ≤ 57)) := by
 unfold q153
 have e1 : n8 (48 : UInt8) = 48 := rfl
 have e2 : n8 (57 : UInt8) = 57 := rfl
 rw [e1, e2, cnd_ile]
 split
 ·simp only [ile, Option.some.injEq, decide_eq_decide]; omega
 ·simp only [Option.some.injEq]; exact (decide_eq_false (by omega)).symm
theorem r07_body {s : List UInt8} {i : Nat} (h : i < s.length) (X : Option Bool) (N : Nat) :
  (grd (inb (i : Int) (len s)) <|
     cnd (ile (n8 (65 : UInt8)) (n8 (lget s (toN (i : Int)) (0 : UInt8))))
      (grd (inb (i : Int) (len s))
       ((fun (v4 : Bool) =>
      cnd (bnot v4)
       (cnd (ieq (i : Int) (0 : Int))
        (some false)
        (grd (inb (i : Int) (len s))
         (bnd (q153 N (lget s (toN (i : Int)) (0 : UInt8))) fun v5 =>
         cnd (bnot v5)
          (grd (inb (i : Int) (len s))
           (cnd (ine (n8 (lget s (toN (i : Int)) (0 : UInt8))) (n8 (95 : UInt8)))
            (grd (inb (i : Int) (len s))
             (cnd (ine (n8 (lget s (toN (i : Int)) (0 : UInt8))) (n8 (45 : UInt8)))
              (some false)
              X))
            X))
          X)))
       X) (ile (n8 (lget s (toN (i : Int)) (0 : UInt8))) (n8 (90 : UInt8)))))
      ((fun (v4 : Bool) =>
      cnd (bnot v4)
       (cnd (ieq (i : Int) (0 : Int))
        (some false)
        (grd (inb (i : Int) (len s))
         (bnd (q153 N (lget s (toN (i : Int)) (0 : UInt8))) fun v5 =>
         cnd (bnot v5)
          (grd (inb (i : Int) (len s))
           (cnd (ine (n8 (lget s (toN (i : Int)) (0 : UInt8))) (n8 (95 : UInt8)))
            (grd (inb (i : Int) (len s))
             (cnd (ine (n8 (lget s (toN (i : Int)) (0 : UInt8))) (n8 (45 : UInt8)))
              (some false)
              X))
            X))
          X)))
       X) false)) = if upc (n8 s[i]) = true then X else if i = 0 then some false else if okc (n8 s[i]) = true then X else some false := by
 have hb : inb (i : Int) (len s) = true := inb_t (by simp only [len]; omega)
 have g : lget s (toN (i : Int)) 0 = s[i] := by simp [lget, toN, h]
 have e1 : n8 (65 : UInt8) = 65 := rfl
 have e2 : n8 (90 : UInt8) = 90 := rfl
 have e3 : n8 (95 : UInt8) = 95 := rfl
 have e4 : n8 (45 : UInt8) = 45 := rfl
 simp only [grd_t hb, g, e1, e2, e3, e4]
 rw [bnd_s (digit_eq N s[i])]
 generalize n8 s[i] = c
 have hi : ((i : Int) = 0) ↔ i = 0 := by omega
 have b1 : ∀ (p : Prop) [Decidable p] (x y : Option Bool), cnd (bnot (decide p)) x y = if p then y else x := fun p _ x y => by
  by_cases hp : p <;> simp [hp, bnot, cnd]
 have b2 : ∀ x y : Option Bool, cnd (bnot false) x y = x := fun _ _ => rfl
 simp only [cnd_ile, cnd_ieq, cnd_ine, cnd_dec, ile, b1, b2, upc, okc, decide_eq_true_eq, hi]
 repeat' split
 all_goals first | rfl | (exfalso; omega)
theorem r07_name (s : List UInt8) : r07_Name fuelH s = some (nm s) := by
 unfold r07_Name
 by_cases h1 : s.length < 1
 ·rw [cnd_t (ilt_t (by simp only [len]; omega))]
  simp [nm]; omega
 ·rw [cnd_f (ilt_f (by simp only [len]; omega))]
  by_cases h2 : 16 < s.length
  ·rw [cnd_t (ilt_t (by simp only [len]; omega))]
   simp [nm]; omega
  ·rw [cnd_f (ilt_f (by simp only [len]; omega))]
   simp only [jn_e]
   have hd : decide (1 ≤ s.length ∧ s.length ≤ 16) = true := decide_eq_true (by omega)
   have loop : ∀ (fuel i : Nat), s.length - i < fuel → i ≤ s.length → fixN (fun v2 (v3 : Int) =>
    cnd (ilt v3 (len s))
     (grd (inb v3 (len s)) <|
     cnd (ile (n8 (65 : UInt8)) (n8 (lget s (toN v3) (0 : UInt8))))
      (grd (inb v3 (len s))
       ((fun (v4 : Bool) =>
      cnd (bnot v4)
       (cnd (ieq v3 (0 : Int))
        (some false)
        (grd (inb v3 (len s))
         (bnd (q153 fuelH (lget s (toN v3) (0 : UInt8))) fun v5 =>
         cnd (bnot v5)
          (grd (inb v3 (len s))
           (cnd (ine (n8 (lget s (toN v3) (0 : UInt8))) (n8 (95 : UInt8)))
            (grd (inb v3 (len s))
             (cnd (ine (n8 (lget s (toN v3) (0 : UInt8))) (n8 (45 : UInt8)))
              (some false)
              (v2 (w64 (iadd v3 (1 : Int))))))
            (v2 (w64 (iadd v3 (1 : Int))))))
          (v2 (w64 (iadd v3 (1 : Int)))))))
       (v2 (w64 (iadd v3 (1 : Int))))) (ile (n8 (lget s (toN v3) (0 : UInt8))) (n8 (90 : UInt8)))))
      ((fun (v4 : Bool) =>
      cnd (bnot v4)
       (cnd (ieq v3 (0 : Int))
        (some false)
        (grd (inb v3 (len s))
         (bnd (q153 fuelH (lget s (toN v3) (0 : UInt8))) fun v5 =>
         cnd (bnot v5)
          (grd (inb v3 (len s))
           (cnd (ine (n8 (lget s (toN v3) (0 : UInt8))) (n8 (95 : UInt8)))
            (grd (inb v3 (len s))
             (cnd (ine (n8 (lget s (toN v3) (0 : UInt8))) (n8 (45 : UInt8)))
              (some false)
              (v2 (w64 (iadd v3 (1 : Int))))))
            (v2 (w64 (iadd v3 (1 : Int))))))
          (v2 (w64 (iadd v3 (1 : Int)))))))
       (v2 (w64 (iadd v3 (1 : Int))))) false))
     (some true)) fuel (i : Int) = some (bif decide (i = 0) then upc (n8 (s.getD 0 0)) && s.all (fun c => okc (n8 c)) else (s.drop i).all fun c => okc (n8 c)) := by
    intro fuel
    induction fuel with
    | zero => intro i h; omega
    | succ fuel ih =>
     intro i h hi
     rw [fixN_s]
     by_cases hl : i < s.length
     ·rw [cnd_t (ilt_t (by simp only [len]; omega)), r07_body hl]
      have hw : w64 (iadd (i : Int) 1) = ((i + 1 : Nat) : Int) := by
       simp only [iadd]; rw [w64_id (by omega)]; omega
      rw [hw, ih (i + 1) (by omega) (by omega)]
      have hup : upc (n8 s[i]) = true → okc (n8 s[i]) = true := fun h => by
       have := of_decide_eq_true h
       exact decide_eq_true (.inl this)
      have e0 : decide (i + 1 = 0) = false := decide_eq_false (by omega)
      simp only [e0, cond_false]
      by_cases hz : i = 0
      ·subst hz
       have g0 : s.getD 0 0 = s[0] := by simp [hl]
       have hs : s.all (fun c => okc (n8 c)) = (okc (n8 s[0]) && (s.drop 1).all fun c => okc (n8 c)) := by
        have := all_step (s := s) (i := 0) hl (fun c => okc (n8 c))
        simpa using this
       simp only [decide_true, cond_true, if_true, g0, hs]
       cases hu : upc (n8 s[0]) with
       | true => simp [hup hu]
       | false => simp
      ·have : decide (i = 0) = false := decide_eq_false hz
       simp only [this, cond_false, hz, if_false, all_step hl]
       cases hu : upc (n8 s[i]) with
       | true => simp [hup hu]
       | false => cases okc (n8 s[i]) <;> simp
     ·rw [cnd_f (ilt_f (by simp only [len]; omega))]
      have hz : decide (i = 0) = false := decide_eq_false (by omega)
      have : s.drop i = [] := by simp; omega
      rw [hz, this]
      rfl
   have := loop fuelH 0 (by have := fuelH_eq; omega) (Nat.zero_le _)
   simp only [decide_true, cond_true] at this
   simp only [nm, hd, Bool.true_and]
   exact this
end
end Go.Mo
end

section
/-
  Plain facts: rows of text, their check, their normal form.
-/
namespace Go.Mo
open Go Go.W Go.Lib
set_option maxRecDepth 100000
abbrev Sty := UInt8 × Bool × Bool
abbrev Run := List UInt8 × Sty × List UInt8
abbrev Row := List Run
theorem cnd_ite {α : Type} {b : Bool} {x y : Option α} : cnd b x y = if b = true then x else y := by cases b <;> rfl
theorem bnot_t {b : Bool} : (bnot b = true) = (b = false) := by cases b <;> simp [bnot]
theorem seq_t {a b : List UInt8} : (seq a b = true) = (a = b) := by rw [seq_dec]; simp
theorem ieq_tt {a b : Int} : (ieq a b = true) = (a = b) := by simp [ieq]
theorem ine_tt {a b : Int} : (ine a b = true) = (a ≠ b) := by simp [ine]
theorem ilt_tt {a b : Int} : (ilt a b = true) = (a < b) := by simp [ilt]
theorem beqb_t {a b : Bool} : (beqb a b = true) = (a = b) := by simp [beqb]
theorem band_tt {a b : Bool} : (band a b = true) = (a = true ∧ b = true) := by simp [band]
theorem n8_eq {a b : UInt8} : (n8 a = n8 b) = (a = b) := propext ⟨n8_inj, fun h => by rw [h]⟩
theorem w64_pred {i : Nat} (h : 0 < i) (hn : i ≤ 9223372036854775807) : w64 (isub (i : Int) 1) = ((i - 1 : Nat) : Int) := by
 simp only [isub]; rw [w64_id (by omega)]; omega
theorem w64_back {i : Nat} (hn : i < 9223372036854775807) : w64 (isub ((i + 1 : Nat) : Int) 1) = (i : Int) := by
 rw [w64_pred (Nat.succ_pos i) (by omega)]; rfl
theorem sty_eq {a b : Sty} : (a = b) = (a.1 = b.1 ∧ a.2.1 = b.2.1 ∧ a.2.2 = b.2.2) := by
 obtain ⟨a1, a2, a3⟩ := a; obtain ⟨b1, b2, b3⟩ := b; simp
noncomputable def alikeP (a b : Run) : Prop := a.2.1 = b.2.1 ∧ a.2.2 = [] ∧ b.2.2 = []
instance (a b : Run) : Decidable (alikeP a b) := by unfold alikeP; infer_instance
noncomputable def runChk (p : Option Run) (x : Run) : Int :=
 if vld x.1 = false then 10 else if x.1 = [] then 4 else if ¬ n8 x.2.1.1 ≤ 6 then 12 else if vld x.2.2 = false then 10 else match p with
  | none => 0
  | some p => if alikeP p x then 8 else 0
noncomputable def chkL : Option Run → List Run → Int
 | _, [] => 0
 | p, x :: r => if runChk p x ≠ 0 then runChk p x else chkL (some x) r
noncomputable def rowChk (l : Row) : Int := if 16 < l.length then 9 else chkL none l
noncomputable def shortR (l : Row) : Prop := ∀ x ∈ l, x.1.length ≤ 4000000 ∧ x.2.2.length ≤ 4000000
noncomputable def before {α : Type} (l : List α) : Nat → Option α
 | 0 => none
 | i + 1 => l[i]?
theorem foldI_chk (l : Row) : ∀ (r : List Run) (i : Nat), l.drop i = r → i ≤ l.length → foldI (fun i (x : Run) (_ : Unit) self => if runChk (before l i) x ≠ 0 then some (runChk (before l i) x) else self ()) (fun _ => some (0 : Int)) i r () = some (chkL (before l i) r)
 | [], i, _, _ => rfl
 | x :: r, i, h, hi => by
  have hx : l[i]? = some x := by rw [← List.head?_drop, h]; rfl
  have hr : l.drop (i + 1) = r := by rw [← List.drop_drop, h]; rfl
  have hl : i < l.length := (List.getElem?_eq_some_iff.1 hx).1
  simp only [foldI, chkL]
  rw [foldI_chk l r (i + 1) hr (by omega)]
  have e : before l (i + 1) = some x := hx
  rw [e]
  by_cases hc : runChk (before l i) x ≠ 0
  ·rw [if_pos hc, if_pos hc]
  ·rw [if_neg hc, if_neg hc]
theorem style_alike_eq (N : Nat) (a b : Run) : q16 N (a, b) = some (decide (alikeP a b)) := by
 unfold q16
 simp only [cnd_ite, band_tt, ieq_tt, beqb_t, n8_eq, seq_dec, decide_eq_true_eq]
 by_cases h1 : a.2.1.1 = b.2.1.1 ∧ a.2.1.2.1 = b.2.1.2.1 ∧ a.2.1.2.2 = b.2.1.2.2
 ·rw [if_pos h1]
  have : a.2.1 = b.2.1 := by rw [sty_eq]; exact h1
  by_cases h2 : a.2.2 = []
  ·rw [if_pos h2]; simp [alikeP, this, h2]
  ·rw [if_neg h2]; simp [alikeP, h2]
 ·rw [if_neg h1]
  have : ¬ a.2.1 = b.2.1 := by rw [sty_eq]; exact h1
  simp [alikeP, this]
theorem style_check {l : Row} (hl : shortR l) : q17 fuelH l = some (rowChk l) := by
 unfold q17
 by_cases h : 16 < l.length
 ·rw [cnd_t (ilt_t (by simp only [len]; omega))]; simp [rowChk, h]
 ·rw [cnd_f (ilt_f (by simp only [len]; omega)), jn_e]
  refine Eq.trans (lst_loop (l := l) (fun (_ : Unit) (p : Nat) => (p : Int)) (fun i (x : Run) (_ : Unit) self => if runChk (before l i) x ≠ 0 then some (runChk (before l i) x) else self ()) (fun _ => some (0 : Int)) (fun self a i hi => ?_) (fun self a => ?_) fuelH 0 () (Nat.zero_le _) (by have := fuelH_eq; omega)) ?_
  ·rw [cnd_t (ilt_t (by simp only [len]; omega)), grd_t (inb_t (by simp only [len]; omega)), lget_i hi]
   obtain ⟨b1, b2⟩ := hl l[i] (List.getElem_mem hi)
   rw [bnd_s (ch_valid _ b1), bnd_s (show q15 fuelH l[i].2.1 = some (ile (n8 l[i].2.1.1) 6) from rfl), bnd_s (ch_valid _ b2)]
   simp only [cnd_ite, bnot_t, seq_t, ile, decide_eq_false_iff_not]
   rw [w64_succ hi (by omega)]
   cases i with
   | zero =>
    have e0 : before l 0 = none := rfl
    rw [e0, if_neg (show ¬ ilt (0 : Int) ((0 : Nat) : Int) = true by decide)]
    simp only [runChk]
    repeat' split
    all_goals first | rfl | (exfalso; omega) | simp_all
   | succ i =>
    have e0 : before l (i + 1) = some l[i] := by simp only [before]; exact List.getElem?_eq_getElem (by omega)
    rw [e0, if_pos (show ilt (0 : Int) ((i + 1 : Nat) : Int) = true from ilt_t (by omega)), w64_back (by omega), grd_t (inb_t (by simp only [len]; omega)), lget_i (show i < l.length by omega), bnd_s (style_alike_eq _ _ _)]
    simp only [runChk, decide_eq_true_eq]
    repeat' split
    all_goals first | rfl | (exfalso; omega) | simp_all
  ·rw [cnd_f (ilt_f (by simp only [len]; omega))]
  ·rw [List.drop_zero, foldI_chk l l 0 rfl (Nat.zero_le _)]
   simp [rowChk, h, before]
theorem r09_check {l : Row} (hl : shortR l) : q185 fuelH l = some (rowChk l) := by
 unfold q185
 by_cases h : 16 < l.length
 ·rw [cnd_t (ilt_t (by simp only [len]; omega))]; simp [rowChk, h]
 ·rw [cnd_f (ilt_f (by simp only [len]; omega)), jn_e]
  refine Eq.trans (lst_loop (l := l) (fun (_ : Unit) (p : Nat) => (p : Int)) (fun i (x : Run) (_ : Unit) self => if runChk (before l i) x ≠ 0 then some (runChk (before l i) x) else self ()) (fun _ => some (0 : Int)) (fun self a i hi => ?_) (fun self a => ?_) fuelH 0 () (Nat.zero_le _) (by have := fuelH_eq; omega)) ?_
  ·rw [cnd_t (ilt_t (by simp only [len]; omega)), grd_t (inb_t (by simp only [len]; omega)), lget_i hi]
   obtain ⟨b1, b2⟩ := hl l[i] (List.getElem_mem hi)
   rw [bnd_s (r08_valid _ b1), bnd_s (show q184 fuelH l[i].2.1 = some (ile (n8 l[i].2.1.1) 6) from rfl), bnd_s (r08_valid _ b2)]
   simp only [cnd_ite, bnot_t, seq_t, ile, decide_eq_false_iff_not]
   rw [w64_succ hi (by omega)]
   cases i with
   | zero =>
    have e0 : before l 0 = none := rfl
    rw [e0, if_neg (show ¬ ilt (0 : Int) ((0 : Nat) : Int) = true by decide)]
    simp only [runChk]
    repeat' split
    all_goals first | rfl | (exfalso; omega) | simp_all
   | succ i =>
    have e0 : before l (i + 1) = some l[i] := by simp only [before]; exact List.getElem?_eq_getElem (by omega)
    have hin : inb ((i : Nat) : Int) (len l) = true := inb_t (by simp only [len]; omega)
    rw [e0, if_pos (show ilt (0 : Int) ((i + 1 : Nat) : Int) = true from ilt_t (by omega)), w64_back (by omega), grd_t hin, grd_t hin, lget_i (show i < l.length by omega)]
    simp only [runChk, alikeP, band_tt, ieq_tt, beqb_t, n8_eq, ← sty_eq]
    repeat' split
    all_goals first | rfl | (exfalso; omega) | simp_all
  ·rw [cnd_f (ilt_f (by simp only [len]; omega))]
  ·rw [List.drop_zero, foldI_chk l l 0 rfl (Nat.zero_le _)]
   simp [rowChk, h, before]
end Go.Mo
end

section
/-
  Plain facts: loops with an invariant; the normal form of a row.
-/
namespace Go.Mo
open Go Go.W Go.Lib
set_option maxRecDepth 100000
noncomputable def itI {α σ R : Type} (f : Nat → α → σ → Option R ⊕ σ) (e : σ → Option R) : Nat → List α → σ → Option R
 | _, [], a => e a
 | i, x :: l, a => match f i x a with
  | .inl r => r
  | .inr a' => itI f e (i + 1) l a'
noncomputable def Rnd {V R σ : Type} (X : Option R) (self : V → Option R) (next : σ → V) (I : σ → Prop) : Option R ⊕ σ → Prop
 | .inl r => X = r
 | .inr a => X = self (next a) ∧ I a
theorem lst_it {V R σ α : Type} {F : (V → Option R) → V → Option R} {l : List α} (st : σ → Nat → V) (f : Nat → α → σ → Option R ⊕ σ) (e : σ → Option R) (I : Nat → σ → Prop)
  (hstep : ∀ self a i (h : i < l.length), I i a → Rnd (F self (st a i)) self (fun a => st a (i + 1)) (I (i + 1)) (f i l[i] a))
  (hend : ∀ self a, I l.length a → F self (st a l.length) = e a) : ∀ (fuel i : Nat) (a : σ), i ≤ l.length → l.length - i < fuel → I i a → fixN F fuel (st a i) = itI f e i (l.drop i) a
 | 0, i, a, _, h, _ => by omega
 | fuel + 1, i, a, hi, h, hI => by
  rw [fixN_s]
  by_cases hl : i < l.length
  ·rw [List.drop_eq_getElem_cons hl, itI]
   have hs := hstep (fixN F fuel) a i hl hI
   cases hf : f i l[i] a with
   | inl r => rw [hf] at hs; exact hs
   | inr a' =>
    rw [hf] at hs
    rw [hs.1]
    exact lst_it st f e I hstep hend fuel (i + 1) a' (by omega) (by omega) hs.2
  ·obtain rfl : i = l.length := by omega
   rw [hend _ _ hI, List.drop_length]
   rfl
theorem itI_fold {α σ R : Type} (f : α → σ → σ) (e : σ → Option R) : ∀ (i : Nat) (l : List α) (a : σ), itI (fun _ x a => .inr (f x a)) e i l a = e (l.foldl (fun a x => f x a) a)
 | _, [], _ => rfl
 | i, x :: l, a => by simp only [itI, List.foldl_cons]; exact itI_fold f e (i + 1) l (f x a)
noncomputable def snoc (out : Row) (x : Run) : Row :=
 if x.1 = [] then out else match out.getLast? with
  | some p => if alikeP p x then out.dropLast ++ [(p.1 ++ x.1, p.2)] else out ++ [x]
  | none => out ++ [x]
noncomputable def normR (l : Row) : Row := l.foldl snoc []
noncomputable def tot : Row → Nat
 | [] => 0
 | x :: r => x.1.length + tot r
theorem tot_app (a b : Row) : tot (a ++ b) = tot a + tot b := by
 induction a with
 | nil => simp [tot]
 | cons x a ih => simp only [List.cons_append, tot, ih]; omega
theorem last_eq {l : Row} {p : Run} (h : l.getLast? = some p) : l = l.dropLast ++ [p] := by
 cases l with
 | nil => cases h
 | cons x l =>
  rw [List.getLast?_eq_some_getLast (List.cons_ne_nil x l)] at h
  injection h with h
  rw [← h]
  exact (List.dropLast_concat_getLast (List.cons_ne_nil x l)).symm
theorem snoc_tot (out : Row) (x : Run) : tot (snoc out x) = tot out + x.1.length := by
 unfold snoc
 split
 ·rename_i h; rw [h]; rfl
 ·split
  ·rename_i p hp
   split
   ·have := congrArg tot (last_eq hp)
    rw [tot_app] at this
    rw [tot_app]
    simp only [tot, List.length_append, Nat.add_zero] at this ⊢
    omega
   ·rw [tot_app]; simp [tot]
  ·rw [tot_app]; simp [tot]
theorem snoc_len (out : Row) (x : Run) : (snoc out x).length ≤ out.length + 1 := by
 unfold snoc
 split
 ·omega
 ·split
  ·split
   ·simp only [List.length_append, List.length_dropLast, List.length_singleton]; omega
   ·simp
  ·simp
theorem lget_last {out : Row} {p : Run} (h : out.getLast? = some p) (hb : out.length ≤ 100000000) (d : Run) : 0 < out.length ∧ w64 (isub (len out) 1) = ((out.length - 1 : Nat) : Int) ∧ lget out (toN (w64 (isub (len out) 1))) d = p := by
 have hl : 0 < out.length := by
  cases out with
  | nil => cases h
  | cons x l => simp
 have hw : w64 (isub (len out) 1) = ((out.length - 1 : Nat) : Int) := w64_pred hl (by omega)
 refine ⟨hl, hw, ?_⟩
 rw [hw, lget_i (show out.length - 1 < out.length by omega)]
 rw [List.getLast?_eq_getElem?, List.getElem?_eq_getElem (by omega)] at h
 injection h
theorem lset_last {out : Row} {p : Run} (h : out.getLast? = some p) (y : Run) : lset out (out.length - 1) y = out.dropLast ++ [y] := by
 have e := last_eq h
 have hl : out.length - 1 = out.dropLast.length := by simp
 rw [hl]
 conv => lhs; rw [e]
 unfold lset
 rw [List.set_append_right _ _ (by simp)]
 simp
theorem last_tot {out : Row} {p : Run} (h : out.getLast? = some p) : p.1.length ≤ tot out := by
 have := congrArg tot (last_eq h)
 rw [tot_app] at this
 simp only [tot, Nat.add_zero] at this
 omega
theorem tot_mem {l : Row} {x : Run} (h : x ∈ l) : x.1.length ≤ tot l := by
 induction l with
 | nil => cases h
 | cons y l ih =>
  simp only [tot]
  rcases List.mem_cons.1 h with rfl | h
  ·omega
  ·have := ih h; omega
noncomputable def NI (l : Row) (i : Nat) (out : Row) : Prop := out.length ≤ i ∧ tot out + tot (l.drop i) = tot l
theorem NI_step {l : Row} {i : Nat} (h : i < l.length) {out : Row} (hI : NI l i out) : NI l (i + 1) (snoc out l[i]) := by
 refine ⟨Nat.le_trans (snoc_len _ _) (Nat.succ_le_succ hI.1), ?_⟩
 have := hI.2
 rw [List.drop_eq_getElem_cons h] at this
 rw [snoc_tot]
 simp only [tot] at this
 omega
theorem style_norm_eq {l : Row} (hl : l.length ≤ 4000000) (ht : tot l ≤ 8000000) : q82 fuelH l = some (normR l) := by
 unfold q82
 rw [jn_e]
 refine Eq.trans (lst_it (l := l) (fun (a : Row) (p : Nat) => ((p : Int), a)) (fun _ x a => .inr (snoc a x)) (fun a => some a) (NI l) (fun self a i hi hI => ?_) (fun self a _ => ?_) fuelH 0 [] (Nat.zero_le _) (by have := fuelH_eq; omega) ⟨Nat.le_refl _, by simp [tot]⟩) ?_
 ·refine ⟨?_, NI_step hi hI⟩
  have hI1 := hI.1
  have hb : tot a ≤ 8000000 := by have := hI.2; omega
  have hx : l[i].1.length ≤ 8000000 := Nat.le_trans (tot_mem (List.getElem_mem hi)) ht
  simp only
  rw [cnd_t (ilt_t (by simp only [len]; omega)), grd_t (inb_t (by simp only [len]; omega)), lget_i hi, w64_succ hi (by omega)]
  have hroom : room (iadd (len a) (len ([l[i]] : Row))) 40 = true := room_t (by simp only [iadd, len, List.length_singleton]; omega)
  rw [grd_t hroom]
  simp only [cnd_ite, seq_t]
  by_cases he : l[i].1 = []
  ·rw [if_pos he]; simp only [snoc, he, if_true]
  ·rw [if_neg he]
   cases hla : a.getLast? with
   | none =>
    have ha : a = [] := List.getLast?_eq_none_iff.1 hla
    subst ha
    rw [if_neg (show ¬ ilt (0 : Int) (len ([] : Row)) = true by decide)]
    simp only [snoc, if_neg he, hla]
    rfl
   | some p =>
    obtain ⟨q1, q2, q3⟩ := lget_last hla (by omega) ([], (((0 : UInt8), (false, false)), []))
    have hin : inb (w64 (isub (len a) 1)) (len a) = true := by rw [q2]; exact inb_t (by simp only [len]; omega)
    have hp := last_tot hla
    rw [if_pos (show ilt (0 : Int) (len a) = true from ilt_t (by simp only [len]; omega)), grd_t hin, q3, bnd_s (style_alike_eq _ _ _), grd_t hin, grd_t (show catOk (iadd (len p.1) (len l[i].1)) = true from decide_eq_true (by simp only [iadd, len]; omega)), grd_t hin, q2]
    simp only [decide_eq_true_eq, snoc, if_neg he, hla]
    by_cases hk : alikeP p l[i]
    ·rw [if_pos hk, if_pos hk]
     have : toN ((a.length - 1 : Nat) : Int) = a.length - 1 := by simp [toN]
     rw [this, lset_last hla]
     rfl
    ·rw [if_neg hk, if_neg hk]; rfl
 ·simp only
  rw [cnd_f (ilt_f (by simp only [len]; omega))]
 ·rw [List.drop_zero, itI_fold]
  rfl
theorem style_Norm_eq {l : Row} (hl : l.length ≤ 4000000) (ht : tot l ≤ 8000000) : q83 fuelH l = some (normR l) := by
 unfold q83
 rw [bnd_s (style_norm_eq hl ht)]
theorem r09_Norm_eq {l : Row} (hl : l.length ≤ 4000000) (ht : tot l ≤ 8000000) : r09_Norm fuelH l = some (normR l) := by
 unfold r09_Norm
 rw [jn_e]
 refine Eq.trans (lst_it (l := l) (fun (a : Row) (p : Nat) => (a, (p : Int))) (fun _ x a => .inr (snoc a x)) (fun a => some a) (NI l) (fun self a i hi hI => ?_) (fun self a _ => ?_) fuelH 0 [] (Nat.zero_le _) (by have := fuelH_eq; omega) ⟨Nat.le_refl _, by simp [tot]⟩) ?_
 ·refine ⟨?_, NI_step hi hI⟩
  have hI1 := hI.1
  have hb : tot a ≤ 8000000 := by have := hI.2; omega
  have hx : l[i].1.length ≤ 8000000 := Nat.le_trans (tot_mem (List.getElem_mem hi)) ht
  simp only
  rw [cnd_t (ilt_t (by simp only [len]; omega)), grd_t (inb_t (by simp only [len]; omega)), lget_i hi, w64_succ hi (by omega), jn_e]
  have hroom : room (iadd (len a) (len ([l[i]] : Row))) 40 = true := room_t (by simp only [iadd, len, List.length_singleton]; omega)
  rw [grd_t hroom]
  simp only [cnd_ite, seq_t]
  by_cases he : l[i].1 = []
  ·rw [if_pos he]; simp only [snoc, he, if_true]
  ·rw [if_neg he]
   cases hla : a.getLast? with
   | none =>
    have ha : a = [] := List.getLast?_eq_none_iff.1 hla
    subst ha
    rw [if_neg (show ¬ ilt (0 : Int) (len ([] : Row)) = true by decide)]
    simp only [snoc, if_neg he, hla]
    rfl
   | some p =>
    obtain ⟨q1, q2, q3⟩ := lget_last hla (by omega) ([], (((0 : UInt8), (false, false)), []))
    have hin : inb (w64 (isub (len a) 1)) (len a) = true := by rw [q2]; exact inb_t (by simp only [len]; omega)
    have hp := last_tot hla
    rw [if_pos (show ilt (0 : Int) (len a) = true from ilt_t (by simp only [len]; omega)), grd_t hin, q3, grd_t hin, grd_t hin, grd_t (show catOk (iadd (len p.1) (len l[i].1)) = true from decide_eq_true (by simp only [iadd, len]; omega)), grd_t hin, q2]
    simp only [band_tt, ieq_tt, beqb_t, n8_eq, ← sty_eq]
    simp only [snoc, if_neg he, hla, alikeP]
    have : toN ((a.length - 1 : Nat) : Int) = a.length - 1 := by simp [toN]
    rw [this, lset_last hla]
    by_cases h1 : p.2.1 = l[i].2.1
    ·by_cases h2 : p.2.2 = []
     ·by_cases h3 : l[i].2.2 = []
      ·simp only [h1, h2, h3, if_true, and_self]; rfl
      ·simp only [h1, h2, h3, if_true, and_false, if_false]; rfl
     ·simp only [h1, h2, if_true, false_and, and_false, if_false]; rfl
    ·simp only [h1, false_and, if_false]; rfl
 ·simp only
  rw [cnd_f (ilt_f (by simp only [len]; omega))]
 ·rw [List.drop_zero, itI_fold]
  rfl
end Go.Mo
end

section
/-
  Plain facts: the bytes of rows.
-/
namespace Go.Mo
open Go Go.W Go.Lib
set_option maxRecDepth 100000
noncomputable section
theorem chkL_ok : ∀ (l : List Run) (p : Option Run), chkL p l = 0 → ∀ x ∈ l, vld x.1 = true ∧ x.1 ≠ [] ∧ n8 x.2.1.1 ≤ 6 ∧ vld x.2.2 = true
 | [], _, _, x, hx => by cases hx
 | y :: l, p, h, x, hx => by
  simp only [chkL] at h
  split at h
  ·rename_i hc; exact absurd h hc
  ·rename_i hc
   rcases List.mem_cons.1 hx with rfl | hx
   ·have hc : runChk p x = 0 := by simpa using hc
    unfold runChk at hc
    split at hc
    ·cases hc
    ·split at hc
     ·cases hc
     ·split at hc
      ·cases hc
      ·split at hc
       ·cases hc
       ·rename_i h1 h2 h3 h4
        exact ⟨by simpa using h1, h2, by omega, by simpa using h4⟩
   ·exact chkL_ok l _ h x hx
theorem rowChk_ok {l : Row} (h : rowChk l = 0) : l.length ≤ 16 ∧ ∀ x ∈ l, vld x.1 = true ∧ x.1 ≠ [] ∧ n8 x.2.1.1 ≤ 6 ∧ vld x.2.2 = true := by
 unfold rowChk at h
 split at h
 ·cases h
 ·exact ⟨by omega, chkL_ok l _ h⟩
noncomputable def plainS : Sty := (0, false, false)
end
end Go.Mo
end

section
/-
  Plain facts: rows that are read from bytes, on both sides.
-/
namespace Go.Mo
open Go Go.W Go.Lib
set_option maxRecDepth 100000
noncomputable section
noncomputable def g1 (a : UInt8) : Option Int := if 32 ≤ n8 a ∧ n8 a < 127 then some (n8 a) else (sgF a).map (·.1)
noncomputable def g2 (a b : UInt8) : Int × Int := (acG (accR a) b).getD (0, 0)
noncomputable def getS (a : UInt8) (t : List UInt8) : Int × Int := match g1 a with
 | some r => (r, 1)
 | none => match t with
  | [] => (0, 0)
  | b :: _ => g2 a b
theorem g2_any (a b : UInt8) : acG (accR a) b = some (g2 a b) ∧ (g2 a b = (0, 0) ∨ ∃ r, g2 a b = (r, 2) ∧ inRep r = true) := by
 have h0 : ∀ l : List Int, l.all (fun r => inRep r && inRep (low r)) = true → ∃ p, acG l b = some p ∧ (p = (0, 0) ∨ ∃ r, p = (r, 2) ∧ inRep r = true) := by
  intro l
  induction l with
  | nil => intro _; exact ⟨(0, 0), rfl, .inl rfl⟩
  | cons r l ih =>
   intro h
   rw [List.all_cons, Bool.and_eq_true, Bool.and_eq_true] at h
   obtain ⟨p, h1, h2⟩ := ih h.2
   simp only [acG]
   by_cases c1 : bas r = n8 b
   ·exact ⟨(r, 2), by rw [cnd_t (ieq_t c1)], .inr ⟨r, rfl, h.1.1⟩⟩
   ·rw [cnd_f (ieq_f c1)]
    by_cases c2 : bas (low r) = n8 b
    ·exact ⟨(low r, 2), by rw [cnd_t (ieq_t c2)], .inr ⟨_, rfl, h.1.2⟩⟩
    ·rw [cnd_f (ieq_f c2)]
     exact ⟨p, h1, h2⟩
 obtain ⟨p, h1, h2⟩ := h0 _ (accR_tab a).2.2
 unfold g2
 rw [h1]
 exact ⟨rfl, h2⟩
theorem g1_rep {a : UInt8} {r : Int} (h : g1 a = some r) : inRep r = true := by
 unfold g1 at h
 split at h
 ·rename_i hc
  injection h with h
  subst h
  unfold inRep
  rw [decide_eq_true hc.1, decide_eq_true (by omega : n8 a ≤ 126)]
  rfl
 ·obtain ⟨x, h1, h2⟩ := Option.map_eq_some_iff.1 h
  subst h2
  exact List.all_eq_true.1 sgs_rep x (List.mem_of_find?_eq_some h1)
theorem get_form (a : UInt8) (t : List UInt8) : q98 fuelH (a :: t) = some (getS a t) := by
 rw [latin_get_cons, cnd_ile, cnd_ilt]
 have hx : gtX a t = match sgF a with
   | some x => some (x.1, 1)
   | none => match t with
    | [] => some (0, 0)
    | b :: _ => some (g2 a b) := by
  unfold gtX
  rw [sgG_eq]
  unfold sgF
  cases sgs.find? fun x => n8 x.2 == n8 a with
  | some x => rfl
  | none => cases t with
   | nil => rfl
   | cons b t => exact (g2_any a b).1
 unfold getS g1
 by_cases h : 32 ≤ n8 a ∧ n8 a < 127
 ·rw [if_pos h.1, if_pos h.2, if_pos h]
 ·rw [if_neg h]
  have : (if 32 ≤ n8 a then if n8 a < 127 then some (n8 a, (1 : Int)) else gtX a t else gtX a t) = gtX a t := by
   split
   ·rw [if_neg (by omega)]
   ·rfl
  rw [this, hx]
  cases sgF a with
  | some x => rfl
  | none => cases t <;> rfl
theorem getS_any (a : UInt8) (t : List UInt8) : getS a t = (0, 0) ∨ (∃ r, g1 a = some r ∧ getS a t = (r, 1) ∧ inRep r = true) ∨ (∃ r b t', g1 a = none ∧ t = b :: t' ∧ g2 a b = (r, 2) ∧ getS a t = (r, 2) ∧ inRep r = true) := by
 unfold getS
 cases h1 : g1 a with
 | some r => exact .inr (.inl ⟨r, rfl, rfl, g1_rep h1⟩)
 | none => cases t with
  | nil => exact .inl rfl
  | cons b t' =>
   rcases (g2_any a b).2 with h | ⟨r, h, hr⟩
   ·exact .inl h
   ·exact .inr (.inr ⟨r, b, t', rfl, rfl, h, h, hr⟩)
theorem g2_138 (a : UInt8) : g2 a 138 = (0, 0) := of_decide_eq_true (all_u8 (P := fun a => decide (g2 a 138 = (0, 0))) (by kernel_rfl) a)
noncomputable def swB (s : Sty) (b : UInt8) : Option Sty :=
 if b = 128 ∨ b = 129 then some (s.1, decide (b = 128), s.2.2) else if b = 130 ∨ b = 131 then some (s.1, s.2.1, decide (b = 130)) else if 1 ≤ n8 b ∧ n8 b ≤ 7 then some (lget [4, 1, 5, 2, 6, 3, 0] (toN (n8 b - 1)) 0, s.2) else none
noncomputable def turnR (s : Sty) (b : UInt8) : Sty × Bool := match swB s b with
 | some s' => (s', true)
 | none => (s, false)
theorem tab_get {α : Type} {f g : Nat → α} (h : (List.range 256).map f = (List.range 256).map g) (b : UInt8) : f b.toNat = g b.toNat := by
 have := congrArg (fun l => l[b.toNat]?) h
 have hb := b.toNat_lt
 simpa [hb] using this
theorem turned_tab (N : Nat) (a : UInt8) (b c : Bool) : (List.range 256).map (fun n => q129 (N + 10) ((a, b, c), UInt8.ofNat n)) = (List.range 256).map (fun n => some (turnR (a, b, c) (UInt8.ofNat n))) := by kernel_rfl
theorem switched_tab (N : Nat) (a : UInt8) (b c : Bool) : (List.range 256).map (fun n => q178 N ((a, b, c), UInt8.ofNat n)) = (List.range 256).map (fun n => some (turnR (a, b, c) (UInt8.ofNat n))) := by kernel_rfl
theorem turned_eq (s : Sty) (b : UInt8) : q129 fuelH (s, b) = some (turnR s b) := by
 have := tab_get (turned_tab (fuelM + 4990) s.1 s.2.1 s.2.2) b
 have e : fuelH = fuelM + 4990 + 10 := rfl
 rw [e]
 simpa using this
theorem switched_eq (s : Sty) (b : UInt8) : q178 fuelH (s, b) = some (turnR s b) := by
 have := tab_get (switched_tab fuelH s.1 s.2.1 s.2.2) b
 simpa using this
noncomputable def prs : List UInt8 → Sty → Row → Option Row
 | [], _, row => some row
 | a :: t, now, row => match swB now a with
  | some s => prs t s row
  | none => match g1 a with
   | some r => prs t now (row ++ [(enc r, now, [])])
   | none => match t with
    | [] => none
    | b :: t' => if (g2 a b).2 = 0 then none else prs t' now (row ++ [(enc (g2 a b).1, now, [])])
noncomputable def spl : List UInt8 → List UInt8 × List (List UInt8)
 | [] => ([], [])
 | a :: t => if a = 138 then ([], (spl t).1 :: (spl t).2) else (a :: (spl t).1, (spl t).2)
noncomputable def runSeg : List (List UInt8) → List Row → List Row × Int
 | [], out => (out, 0)
 | s :: r, out => match prs s plainS [] with
  | none => ([], 4)
  | some row => runSeg r (out ++ [normR row])
noncomputable def rwS : List UInt8 → List Row → Sty → Row → List Row × Int
 | [], out, _, row => (out ++ [normR row], 0)
 | a :: t, out, now, row => if a = 138 then rwS t (out ++ [normR row]) plainS [] else match swB now a with
  | some s => rwS t out s row
  | none => match g1 a with
   | some r => rwS t out now (row ++ [(enc r, now, [])])
   | none => match t with
    | [] => ([], 4)
    | b :: t' => if (g2 a b).2 = 0 then ([], 4) else rwS t' out now (row ++ [(enc (g2 a b).1, now, [])])
noncomputable def thenS (x : Option Row) (r : List (List UInt8)) (out : List Row) : List Row × Int := match x with
 | none => ([], 4)
 | some row => runSeg r (out ++ [normR row])
theorem rwS_eq : ∀ (n : Nat) (p : List UInt8) (out : List Row) (now : Sty) (row : Row), p.length ≤ n → rwS p out now row = thenS (prs (spl p).1 now row) (spl p).2 out
 | _, [], out, now, row, _ => rfl
 | 0, a :: t, _, _, _, h => by simp at h
 | n + 1, a :: t, out, now, row, h => by
  simp only [List.length_cons] at h
  unfold rwS spl
  by_cases ha : a = 138
  ·rw [if_pos ha, if_pos ha, rwS_eq n t _ _ _ (by omega)]
   rfl
  ·rw [if_neg ha, if_neg ha]
   simp only
   conv => rhs; unfold prs
   cases hs : swB now a with
   | some s => simp only; rw [rwS_eq n t _ _ _ (by omega)]
   | none =>
    simp only
    cases hg : g1 a with
    | some r => simp only; rw [rwS_eq n t _ _ _ (by omega)]
    | none =>
     simp only
     cases t with
     | nil => rfl
     | cons b t' =>
      simp only [List.length_cons] at h
      simp only
      by_cases hb : b = 138
      ·subst hb
       rw [g2_138, if_pos rfl]
       simp only [spl, if_true]
       rfl
      ·simp only [spl, if_neg hb]
       by_cases h2 : (g2 a b).2 = 0
       ·rw [if_pos h2, if_pos h2]; rfl
       ·rw [if_neg h2, if_neg h2, rwS_eq n t' _ _ _ (by omega)]
theorem enc_len4 {r : Int} (h : inRep r = true) : (enc r).length ≤ 4 := enc_len h
noncomputable def GI (B : Nat) (p : List UInt8) (row : Row) : Prop := row.length + p.length ≤ B ∧ tot row ≤ 4 * row.length
theorem GI_app {B : Nat} {p q : List UInt8} {row : Row} {r : Int} {s : Sty} (h : GI B p row) (hr : inRep r = true) (hq : q.length < p.length) : GI B q (row ++ [(enc r, s, [])]) := by
 have := enc_len4 hr
 have h2 := h.2
 have h1 := h.1
 refine ⟨by rw [List.length_append, List.length_singleton]; omega, ?_⟩
 rw [tot_app, List.length_append, List.length_singleton]
 simp only [tot]
 omega
theorem stl_rows_loop {B : Nat} (hB : B ≤ 1100000) : ∀ (fuel : Nat) (p : List UInt8) (out : List Row) (now : Sty) (row : Row), p.length < fuel → GI B p row → out.length + p.length ≤ B →
  fixN (fun v3 (v4 : (List UInt8) × (List Row) × Sty × Row) =>
  cnd (ilt (0 : Int) (len v4.1))
   (grd (inb (0 : Int) (len v4.1))
    (cnd (ieq (n8 (lget v4.1 (toN (0 : Int)) (0 : UInt8))) (n8 (138 : UInt8)))
     (bnd (q83 fuelH v4.2.2.2) fun v5 =>
     grd (room (iadd (len v4.2.1) (len ([v5] : List Row))) 24) <|
     grd (in2 (1 : Int) (len v4.1)) <|
     v3 (ldrop (toN (1 : Int)) v4.1, lapp v4.2.1 ([v5] : List Row), ((0 : UInt8), false, false), ([] : Row)))
     (grd (inb (0 : Int) (len v4.1))
      (bnd (q129 fuelH (v4.2.2.1, lget v4.1 (toN (0 : Int)) (0 : UInt8))) fun v6 =>
      cnd v6.2
       (grd (in2 (1 : Int) (len v4.1))
        (v3 (ldrop (toN (1 : Int)) v4.1, v4.2.1, v6.1, v4.2.2.2)))
       (bnd (q98 fuelH v4.1) fun v7 =>
       cnd (ieq v7.2 (0 : Int))
        (some (([] : List Row), (4 : Int)))
        (grd (room (iadd (len v4.2.2.2) (len ([(enc v7.1, v4.2.2.1, ([] : List UInt8))] : Row))) 40)
         (grd (in2 v7.2 (len v4.1))
          (v3 (ldrop (toN v7.2) v4.1, v4.2.1, v4.2.2.1, lapp v4.2.2.2 ([(enc v7.1, v4.2.2.1, ([] : List UInt8))] : Row))))))))))
   (bnd (q83 fuelH v4.2.2.2) fun v1 =>
  grd (room (iadd (len v4.2.1) (len ([v1] : List Row))) 24) <|
  some (lapp v4.2.1 ([v1] : List Row), (0 : Int)))) fuel (p, out, now, row) = some (rwS p out now row)
 | 0, p, _, _, _, h, _, _ => by omega
 | fuel + 1, p, out, now, row, h, hI, ho => by
  have hnorm : q83 fuelH row = some (normR row) := style_Norm_eq (by have := hI.1; omega) (by have := hI.1; have := hI.2; omega)
  have hroom : room (iadd (len out) (len ([normR row] : List Row))) 24 = true := room_t (by simp only [iadd, len, List.length_singleton]; omega)
  rw [fixN_s]
  cases p with
  | nil =>
   simp only
   rw [cnd_f (by rfl), hnorm, bnd_some', grd_t hroom]
   rfl
  | cons a t =>
   have hl1 : in2 (1 : Int) (len (a :: t)) = true := in2_t (by simp only [len, List.length_cons]; omega)
   have hl0 : inb (0 : Int) (len (a :: t)) = true := inb_t (by simp only [len, List.length_cons]; omega)
   have g0 : lget (a :: t) (toN (0 : Int)) 0 = a := rfl
   have d1 : ldrop (toN (1 : Int)) (a :: t) = t := rfl
   simp only [List.length_cons] at h ho
   simp only
   rw [cnd_t (ilt_t (by simp only [len, List.length_cons]; omega)), grd_t hl0, g0, d1]
   unfold rwS
   by_cases ha : a = 138
   ·subst ha
    rw [cnd_t (ieq_t rfl), hnorm, bnd_some', grd_t hroom, grd_t hl1, if_pos rfl]
    refine stl_rows_loop hB fuel t (out ++ [normR row]) plainS [] (by omega) ⟨?_, Nat.le_refl _⟩ (by rw [List.length_append, List.length_singleton]; omega)
    have := hI.1; simp only [List.length_cons] at this; simp; omega
   ·rw [cnd_f (ieq_f fun e => ha (n8_inj e)), if_neg ha, grd_t hl0, turned_eq, bnd_some']
    have hI1 := hI.1
    simp only [List.length_cons] at hI1
    unfold turnR
    cases hs : swB now a with
    | some s =>
     simp only
     rw [cnd_t rfl, grd_t hl1]
     exact stl_rows_loop hB fuel t out s row (by omega) ⟨by omega, hI.2⟩ (by omega)
    | none =>
     simp only
     rw [cnd_f rfl, get_form, bnd_some']
     rcases getS_any a t with h0 | ⟨r, h1, h2, hr⟩ | ⟨r, b, t', h1, h3, h4, h2, hr⟩
     ·rw [h0, cnd_t (ieq_t rfl)]
      unfold getS at h0
      cases hg : g1 a with
      | some r => rw [hg] at h0; simp at h0
      | none =>
       rw [hg] at h0
       simp only
       cases t with
       | nil => rfl
       | cons b t' => simp only at h0 ⊢; rw [h0, if_pos rfl]
     ·rw [h2, h1, cnd_f (ieq_f (show (1 : Int) ≠ 0 by decide)), grd_t (room_t (by simp only [iadd, len, List.length_singleton]; omega)), grd_t hl1]
      exact stl_rows_loop hB fuel t out now _ (by omega) (GI_app hI hr (by simp)) (by omega)
     ·subst h3
      rw [h2, h1, cnd_f (ieq_f (show (2 : Int) ≠ 0 by decide)), grd_t (room_t (by simp only [iadd, len, List.length_singleton]; omega)), grd_t (in2_t (by simp only [len, List.length_cons]; omega))]
      simp only [h4]
      rw [if_neg (by decide)]
      simp only [List.length_cons] at h ho
      exact stl_rows_loop hB fuel t' out now _ (by omega) (GI_app hI hr (by simp; omega)) (by omega)
theorem stl_rows {p : List UInt8} (hp : p.length ≤ 1100000) : stl_Rows fuelH p = some (thenS (prs (spl p).1 plainS []) (spl p).2 []) := by
 unfold stl_Rows
 rw [jn_e]
 refine Eq.trans (stl_rows_loop (B := 1100000) (by omega) fuelH p [] plainS [] (by have := fuelH_eq; omega) ⟨by simpa using hp, Nat.le_refl _⟩ (by simpa using hp)) ?_
 rw [rwS_eq _ _ _ _ _ (Nat.le_refl _)]
end
end Go.Mo
end

section
/-
  Plain facts: rows that are read by the reference; equality of rows; StlTexts returns true.
-/
namespace Go.Mo
open Go Go.W Go.Lib
set_option maxRecDepth 100000
noncomputable section
theorem dec_one {x : List UInt8} {r : Int} (hx : q98 fuelH x = some (r, (x.length : Int))) (h0 : 0 < x.length) (hl : x.length ≤ 4) (hr : inRep r = true) : q152 fuelH x = some (enc r, 0) := by
 rw [dec22_form]
 show fixN dec22F (fuelM + 4998 + 1 + 1) (x, []) = _
 rw [fixN_s]
 unfold dec22F
 simp only
 rw [cnd_t (ilt_t (by simp only [len]; omega)), get_same, hx, bnd_some', cnd_f (ieq_f (by simp only; omega)), grd_t (room_t (by simp only [iadd, len, List.length_singleton, List.length_nil]; omega)), grd_t (in2_t (by simp only [len]; omega))]
 have hd : ldrop (toN (x.length : Int)) x = [] := by simp [ldrop, toN]
 simp only
 rw [hd, fixN_s]
 simp only
 rw [cnd_f (by rfl)]
 show (bnd (r08_Of fuelH [r]) fun v1 => some (v1, (0 : Int))) = _
 rw [of_eq (by simp) (by simp [hr]), bnd_some']
 simp [ofR]
theorem parse_loop {B : Nat} (hB : B ≤ 900000) : ∀ (fuel : Nat) (p : List UInt8) (now : Sty) (row : Row), p.length < fuel → GI B p row →
  fixN (fun v3 (v4 : (List UInt8) × Sty × Row) =>
  cnd (ilt (0 : Int) (len v4.1))
   (grd (inb (0 : Int) (len v4.1))
    (bnd (q178 fuelH (v4.2.1, lget v4.1 (toN (0 : Int)) (0 : UInt8))) fun v5 =>
    cnd v5.2
     (grd (in2 (1 : Int) (len v4.1))
      (v3 (ldrop (toN (1 : Int)) v4.1, v5.1, v4.2.2)))
     (bnd (r22_Get fuelH v4.1) fun v6 =>
     cnd (ieq v6.2 (0 : Int))
      (some (([] : Row), (4 : Int)))
      (grd (in2 v6.2 (len v4.1))
       (bnd (q152 fuelH (ltake (toN v6.2) v4.1)) fun v7 =>
       grd (room (iadd (len v4.2.2) (len ([(v7.1, v4.2.1, ([] : List UInt8))] : Row))) 40) <|
       grd (in2 v6.2 (len v4.1)) <|
       v3 (ldrop (toN v6.2) v4.1, v4.2.1, lapp v4.2.2 ([(v7.1, v4.2.1, ([] : List UInt8))] : Row)))))))
   (bnd (r09_Norm fuelH v4.2.2) fun v1 =>
  some (v1, (0 : Int)))) fuel (p, now, row) = some (match prs p now row with
   | none => ([], 4)
   | some row' => (normR row', 0))
 | 0, p, _, _, h, _ => by omega
 | fuel + 1, p, now, row, h, hI => by
  rw [fixN_s]
  cases p with
  | nil =>
   have hnorm : r09_Norm fuelH row = some (normR row) := r09_Norm_eq (by have := hI.1; omega) (by have := hI.1; have := hI.2; omega)
   simp only
   rw [cnd_f (by rfl), hnorm, bnd_some']
   rfl
  | cons a t =>
   have hl1 : in2 (1 : Int) (len (a :: t)) = true := in2_t (by simp only [len, List.length_cons]; omega)
   have hl0 : inb (0 : Int) (len (a :: t)) = true := inb_t (by simp only [len, List.length_cons]; omega)
   have g0 : lget (a :: t) (toN (0 : Int)) 0 = a := rfl
   have d1 : ldrop (toN (1 : Int)) (a :: t) = t := rfl
   simp only [List.length_cons] at h
   have hI1 := hI.1
   simp only [List.length_cons] at hI1
   simp only
   rw [cnd_t (ilt_t (by simp only [len, List.length_cons]; omega)), grd_t hl0, g0, d1, switched_eq, bnd_some']
   conv => rhs; unfold prs
   unfold turnR
   cases hs : swB now a with
   | some s =>
    simp only
    rw [cnd_t rfl, grd_t hl1]
    exact parse_loop hB fuel t s row (by omega) ⟨by omega, hI.2⟩
   | none =>
    simp only
    rw [cnd_f rfl, get_same, get_form, bnd_some']
    rcases getS_any a t with h0 | ⟨r, h1, h2, hr⟩ | ⟨r, b, t', h1, h3, h4, h2, hr⟩
    ·rw [h0, cnd_t (ieq_t rfl)]
     unfold getS at h0
     cases hg : g1 a with
     | some r => rw [hg] at h0; simp at h0
     | none =>
      rw [hg] at h0
      simp only
      cases t with
      | nil => rfl
      | cons b t' => simp only at h0 ⊢; rw [h0, if_pos rfl]
    ·have hd : q152 fuelH (ltake (toN (1 : Int)) (a :: t)) = some (enc r, 0) := by
      show q152 fuelH [a] = _
      refine dec_one ?_ (by simp) (by simp) hr
      rw [get_form]
      simp only [getS, h1]
      rfl
     rw [h2, h1, cnd_f (ieq_f (show (1 : Int) ≠ 0 by decide)), grd_t hl1]
     simp only
     rw [hd, bnd_some', grd_t (room_t (by simp only [iadd, len, List.length_singleton]; omega)), grd_t hl1]
     exact parse_loop hB fuel t now _ (by omega) (GI_app hI hr (by simp))
    ·subst h3
     have hd : q152 fuelH (ltake (toN (2 : Int)) (a :: b :: t')) = some (enc r, 0) := by
      show q152 fuelH [a, b] = _
      refine dec_one ?_ (by simp) (by simp) hr
      rw [get_form]
      simp only [getS, h1, h4]
      rfl
     have hl2 : in2 (2 : Int) (len (a :: b :: t')) = true := in2_t (by simp only [len, List.length_cons]; omega)
     rw [h2, h1, cnd_f (ieq_f (show (2 : Int) ≠ 0 by decide)), grd_t hl2]
     simp only
     rw [hd, bnd_some', grd_t (room_t (by simp only [iadd, len, List.length_singleton]; omega)), grd_t hl2]
     simp only [h4]
     rw [if_neg (by decide)]
     simp only [List.length_cons] at h
     exact parse_loop hB fuel t' now _ (by omega) (GI_app hI hr (by simp; omega))
theorem parse_row {p : List UInt8} (hp : p.length ≤ 300000) : q179 fuelH p = some (match prs p plainS [] with
   | none => ([], 4)
   | some row' => (normR row', 0)) := by
 unfold q179
 rw [jn_e]
 exact parse_loop (B := 300000) (by omega) fuelH p plainS [] (by have := fuelH_eq; omega) ⟨by simpa using hp, Nat.le_refl _⟩
noncomputable def segOf (p : List UInt8) (fr i : Nat) : List UInt8 := (p.take i).drop fr
theorem segOf_next {p : List UInt8} {fr i : Nat} (h : i < p.length) (hf : fr ≤ i) : segOf p fr (i + 1) = segOf p fr i ++ [p[i]] := by
 unfold segOf
 rw [List.take_succ_eq_append_getElem h, List.drop_append_of_le_length (by rw [List.length_take]; omega)]
theorem ref_rows_loop {p : List UInt8} (hp : p.length ≤ 300000) : ∀ (fuel i fr : Nat) (out : List Row), p.length + 1 - i < fuel → fr ≤ i → i ≤ p.length → out.length ≤ i →
  fixN (fun v2 (v3 : (List Row) × Int × Int) =>
  cnd (ile v3.2.2 (len p))
   (jn (fun (v4 : Unit) =>
    grd (in3 v3.2.1 v3.2.2 (len p)) <|
    bnd (q179 fuelH (ldrop (toN v3.2.1) (ltake (toN v3.2.2) p))) fun v5 =>
    cnd (ine v5.2 (0 : Int))
     (some (([] : List Row), v5.2))
     (grd (room (iadd (len v3.1) (len ([v5.1] : List Row))) 24)
      (v2 (lapp v3.1 ([v5.1] : List Row), w64 (iadd v3.2.2 (1 : Int)), w64 (iadd v3.2.2 (1 : Int))))))
   fun v6 =>
   cnd (ilt v3.2.2 (len p))
    (grd (inb v3.2.2 (len p))
     (cnd (ine (n8 (lget p (toN v3.2.2) (0 : UInt8))) (n8 (138 : UInt8)))
      (v2 (v3.1, v3.2.1, w64 (iadd v3.2.2 (1 : Int))))
      (v6 ())))
    (v6 ()))
   (some (v3.1, (0 : Int)))) fuel (out, (fr : Int), (i : Int)) = some (runSeg ((segOf p fr i ++ (spl (p.drop i)).1) :: (spl (p.drop i)).2) out)
 | 0, i, fr, out, h, _, _, _ => by omega
 | fuel + 1, i, fr, out, h, hf, hi, ho => by
  rw [fixN_s]
  simp only
  have hseg : (segOf p fr i).length ≤ 300000 := by unfold segOf; rw [List.length_drop, List.length_take]; omega
  have hpr : q179 fuelH (ldrop (toN (fr : Int)) (ltake (toN (i : Int)) p)) = _ := parse_row (p := segOf p fr i) hseg
  rw [cnd_t (ile_t (by simp only [len]; omega)), jn_e, grd_t (in3_t (by simp only [len]; omega)), hpr, bnd_some']
  by_cases hl : i < p.length
  ·rw [cnd_t (ilt_t (by simp only [len]; omega)), grd_t (inb_t (by simp only [len]; omega)), lget_i hl, w64_succ hl (by omega), List.drop_eq_getElem_cons hl]
   by_cases hb : p[i] = 138
   ·rw [cnd_f (ine_f (by rw [hb]))]
    simp only [spl, if_pos hb, List.append_nil]
    simp only [runSeg]
    cases prs (segOf p fr i) plainS [] with
    | none => exact cnd_t (ine_t (show (4 : Int) ≠ 0 by decide))
    | some row =>
     refine (cnd_f (ine_f rfl)).trans ?_
     rw [grd_t (room_t (by simp only [iadd, len, List.length_singleton]; omega))]
     refine (ref_rows_loop hp fuel (i + 1) (i + 1) (out ++ [normR row]) (by omega) (Nat.le_refl _) (by omega) (by rw [List.length_append, List.length_singleton]; omega)).trans ?_
     have : segOf p (i + 1) (i + 1) = [] := by unfold segOf; simp
     rw [this]
     rfl
   ·rw [cnd_t (ine_t fun e => hb (n8_inj e))]
    rw [ref_rows_loop hp fuel (i + 1) fr out (by omega) (by omega) (by omega) (by omega), segOf_next hl hf]
    simp only [spl, if_neg hb, List.append_assoc, List.singleton_append]
  ·have hi : i = p.length := by omega
   rw [cnd_f (ilt_f (by simp only [len]; omega))]
   have hd : p.drop i = [] := by rw [hi]; simp
   rw [hd]
   simp only [spl, List.append_nil, runSeg]
   cases prs (segOf p fr i) plainS [] with
   | none => exact cnd_t (ine_t (show (4 : Int) ≠ 0 by decide))
   | some row =>
    refine (cnd_f (ine_f rfl)).trans ?_
    rw [grd_t (room_t (by simp only [iadd, len, List.length_singleton]; omega))]
    have hw : w64 (iadd (i : Int) 1) = ((i + 1 : Nat) : Int) := by
     simp only [iadd]; rw [w64_id (by omega)]; omega
    rw [hw]
    cases fuel with
    | zero => omega
    | succ fuel =>
     rw [fixN_s]
     simp only
     rw [cnd_f (ile_f (by simp only [len]; omega))]
     rfl
theorem r24_rows {p : List UInt8} (hp : p.length ≤ 300000) : r24_Rows fuelH p = some (thenS (prs (spl p).1 plainS []) (spl p).2 []) := by
 unfold r24_Rows
 rw [jn_e]
 refine (ref_rows_loop hp fuelH 0 0 [] (by have := fuelH_eq; omega) (Nat.le_refl _) (Nat.zero_le _) (Nat.zero_le _)).trans ?_
 have : segOf p 0 0 = [] := rfl
 rw [this, List.drop_zero, List.nil_append]
 rfl
theorem run_eq {a b : Run} : (a = b) = (a.1 = b.1 ∧ a.2.1 = b.2.1 ∧ a.2.2 = b.2.2) := by
 obtain ⟨a1, a2, a3⟩ := a; obtain ⟨b1, b2, b3⟩ := b; simp
theorem same_fold {α : Type} : ∀ (l m : List α) [DecidableEq α], l.length = m.length → ∀ i, itI (fun i (x : α) (_ : Unit) => if some x = m[i]? then (.inr () : Option Bool ⊕ Unit) else .inl (some false)) (fun _ => some true) i (l.drop i) () = some (decide (l.drop i = m.drop i)) := by
 intro l m _ hl i
 generalize hr : l.drop i = r
 induction r generalizing i with
 | nil =>
  have h1 : l.length ≤ i := by have := congrArg List.length hr; simp at this; omega
  have : m.drop i = [] := by rw [List.drop_eq_nil_iff]; omega
  rw [this]; simp [itI]
 | cons x r ih =>
  have hx : l[i]? = some x := by rw [← List.head?_drop, hr]; rfl
  have hi := (List.getElem?_eq_some_iff.1 hx).1
  have hr' : l.drop (i + 1) = r := by rw [← List.drop_drop, hr]; rfl
  have hm : m.drop i = m[i] :: m.drop (i + 1) := List.drop_eq_getElem_cons (by omega)
  rw [hm]
  simp only [itI]
  by_cases h : some x = m[i]?
  ·rw [if_pos h]
   simp only
   rw [ih (i + 1) hr']
   rw [List.getElem?_eq_getElem (by omega)] at h
   injection h with h
   exact congrArg some (decide_eq_decide.2 ⟨fun e => by rw [h, e], fun e => by injection e⟩)
  ·rw [if_neg h]
   rw [List.getElem?_eq_getElem (by omega)] at h
   have : x ≠ m[i] := fun e => h (by rw [e])
   exact congrArg some (decide_eq_false fun e => this (by injection e)).symm
theorem eqRuns (a b : Row) (hl : a.length ≤ 4000000) : q197 fuelH (a, b) = some (decide (a = b)) := by
 unfold q197
 by_cases h : a.length = b.length
 ·rw [cnd_f (ine_f (by simp only [len]; omega)), jn_e]
  refine Eq.trans (lst_it (l := a) (fun (_ : Unit) (p : Nat) => (p : Int)) (fun i (x : Run) (_ : Unit) => if some x = b[i]? then .inr () else .inl (some false)) (fun _ => some true) (fun _ _ => True) (fun self _ i hi _ => ?_) (fun self _ _ => ?_) fuelH 0 () (Nat.zero_le _) (by have := fuelH_eq; omega) trivial) ?_
  ·have hb : i < b.length := by omega
   have e : cnd (ilt (i : Int) (len a)) (grd (inb (i : Int) (len a)) (grd (inb (i : Int) (len b)) (cnd (bnot (band (seq (lget a (toN (i : Int)) ([], (((0 : UInt8), (false, false)), []))).1 (lget b (toN (i : Int)) ([], (((0 : UInt8), (false, false)), []))).1) (band (band (ieq (n8 (lget a (toN (i : Int)) ([], (((0 : UInt8), (false, false)), []))).2.1.1) (n8 (lget b (toN (i : Int)) ([], (((0 : UInt8), (false, false)), []))).2.1.1)) (band (beqb (lget a (toN (i : Int)) ([], (((0 : UInt8), (false, false)), []))).2.1.2.1 (lget b (toN (i : Int)) ([], (((0 : UInt8), (false, false)), []))).2.1.2.1) (beqb (lget a (toN (i : Int)) ([], (((0 : UInt8), (false, false)), []))).2.1.2.2 (lget b (toN (i : Int)) ([], (((0 : UInt8), (false, false)), []))).2.1.2.2))) (seq (lget a (toN (i : Int)) ([], (((0 : UInt8), (false, false)), []))).2.2 (lget b (toN (i : Int)) ([], (((0 : UInt8), (false, false)), []))).2.2)))) (some false) (self (w64 (iadd (i : Int) 1)))))) (some true) = if a[i] = b[i] then self ((i + 1 : Nat) : Int) else some false := by
    rw [cnd_t (ilt_t (by simp only [len]; omega)), grd_t (inb_t (by simp only [len]; omega)), grd_t (inb_t (by simp only [len]; omega)), lget_i hi, lget_i hb, w64_succ hi (by omega), cnd_ite]
    simp only [bnot_t, Bool.eq_false_iff, ne_eq, band_tt, seq_t, ieq_tt, beqb_t, n8_eq, ← sty_eq, ← run_eq]
    by_cases hc : a[i] = b[i]
    ·rw [if_neg (by simpa using hc), if_pos hc]
    ·rw [if_pos hc, if_neg hc]
   rw [List.getElem?_eq_getElem hb]
   by_cases hc : a[i] = b[i]
   ·rw [if_pos (by rw [hc])]
    exact ⟨e.trans (if_pos hc), trivial⟩
   ·rw [if_neg (fun h => hc (by injection h))]
    exact e.trans (if_neg hc)
  ·simp only
   rw [cnd_f (ilt_f (by simp only [len]; omega))]
  ·exact same_fold a b h 0
 ·rw [cnd_t (ine_t (by simp only [len]; omega))]
  have : a ≠ b := fun e => h (by rw [e])
  simp [this]
theorem same_row (a b : Row) (hl : a.length ≤ 4000000) : q198 fuelH (a, b) = some (decide (a = b)) := by
 unfold q198
 rw [eqRuns a b hl, bnd_some']
theorem same_rows (a b : List Row) (hl : a.length ≤ 4000000) (h : ∀ r ∈ a, r.length ≤ 4000000) : q200 fuelH (a, b) = some (decide (a = b)) := by
 unfold q200 q199
 by_cases hab : a.length = b.length
 ·rw [cnd_f (ine_f (by simp only [len]; omega)), jn_e]
  have : ∀ X : Option Bool, (bnd X fun v0 => some v0) = X := fun X => by cases X <;> rfl
  rw [this]
  refine Eq.trans (lst_it (l := a) (fun (_ : Unit) (p : Nat) => (p : Int)) (fun i (x : Row) (_ : Unit) => if some x = b[i]? then .inr () else .inl (some false)) (fun _ => some true) (fun _ _ => True) (fun self _ i hi _ => ?_) (fun self _ _ => ?_) fuelH 0 () (Nat.zero_le _) (by have := fuelH_eq; omega) trivial) ?_
  ·have hb : i < b.length := by omega
   have e : cnd (ilt (i : Int) (len a)) (grd (inb (i : Int) (len a)) (grd (inb (i : Int) (len b)) (bnd (q198 fuelH (lget a (toN (i : Int)) [], lget b (toN (i : Int)) [])) fun v4 => cnd (bnot v4) (some false) (self (w64 (iadd (i : Int) 1)))))) (some true) = if a[i] = b[i] then self ((i + 1 : Nat) : Int) else some false := by
    rw [cnd_t (ilt_t (by simp only [len]; omega)), grd_t (inb_t (by simp only [len]; omega)), grd_t (inb_t (by simp only [len]; omega)), lget_i hi, lget_i hb, w64_succ hi (by omega), same_row _ _ (h _ (List.getElem_mem hi)), bnd_some', cnd_bnot]
   rw [List.getElem?_eq_getElem hb]
   by_cases hc : a[i] = b[i]
   ·rw [if_pos (by rw [hc])]
    exact ⟨e.trans (if_pos hc), trivial⟩
   ·rw [if_neg (fun h => hc (by injection h))]
    exact e.trans (if_neg hc)
  ·simp only
   rw [cnd_f (ilt_f (by simp only [len]; omega))]
  ·exact same_fold a b hab 0
 ·rw [cnd_t (ine_t (by simp only [len]; omega))]
  have : a ≠ b := fun e => hab (by rw [e])
  simp [this, bnd_some']
end
end Go.Mo
end

section
/-
  Plain facts: StlTexts returns true.
-/
namespace Go.Mo
open Go Go.W Go.Lib
set_option maxRecDepth 100000
noncomputable section
theorem awake24 : l24_awake fuelH () = some true := by kernel_rfl
theorem loop_inv {V R σ : Type} {F : (V → Option R) → V → Option R} {n : Nat} (st : σ → Nat → V) (I : Nat → σ → Prop) (r : Option R)
  (hstep : ∀ self a i, i < n → I i a → ∃ a', F self (st a i) = self (st a' (i + 1)) ∧ I (i + 1) a') (hend : ∀ self a, I n a → F self (st a n) = r) : ∀ (fuel i : Nat) (a : σ), i ≤ n → n - i < fuel → I i a → fixN F fuel (st a i) = r
 | 0, i, a, _, h, _ => by omega
 | fuel + 1, i, a, hi, h, hI => by
  rw [fixN_s]
  by_cases hl : i < n
  ·obtain ⟨a', h1, h2⟩ := hstep (fixN F fuel) a i hl hI
   rw [h1]
   exact loop_inv st I r hstep hend fuel (i + 1) a' (by omega) (by omega) h2
  ·obtain rfl : i = n := by omega
   exact hend _ _ hI
theorem clone_rows {l : List Row} (h : l.length ≤ 4000000) : q133 fuelH l = some l := by
 have h1 : grd (room (iadd (len ([] : List Row)) (len l)) 24) (some (lapp ([] : List Row) l)) = some l := by
  rw [grd_t (room_t (by simp only [iadd, len, List.length_nil]; omega))]; rfl
 unfold q133
 cases l with
 | nil =>
  rw [cnd_f (by rfl)]
  exact univ_of rfl h1
 | cons r l =>
  rw [cnd_t (ine_t (by simp only [len, List.length_cons]; omega))]
  exact h1
theorem min_take {α : Type} (l : List α) (n : Nat) : ltake (toN (imin (len l) (n : Int))) l = l.take n ∧ in2 (imin (len l) (n : Int)) (len l) = true := by
 have e : toN (imin (len l) (n : Int)) = min l.length n := by simp only [toN, imin, len]; omega
 refine ⟨?_, in2_t (by simp only [imin, len]; omega)⟩
 rw [e]
 unfold ltake
 by_cases h : l.length ≤ n
 ·rw [Nat.min_eq_left h, List.take_length, List.take_of_length_le h]
 ·rw [Nat.min_eq_right (by omega)]
theorem prs_len : ∀ (n : Nat) (p : List UInt8) (now : Sty) (row row' : Row), p.length ≤ n → prs p now row = some row' → row'.length ≤ row.length + p.length
 | _, [], _, row, row', _, h => by simp only [prs, Option.some.injEq] at h; subst h; simp
 | 0, a :: t, _, _, _, h, _ => by simp at h
 | n + 1, a :: t, now, row, row', hn, h => by
  simp only [List.length_cons] at hn ⊢
  unfold prs at h
  split at h
  ·have := prs_len n t _ _ _ (by omega) h; omega
  ·split at h
   ·have := prs_len n t _ _ _ (by omega) h
    rw [List.length_append, List.length_singleton] at this; omega
   ·split at h
    ·cases h
    ·rename_i b t'
     split at h
     ·cases h
     ·simp only [List.length_cons] at hn ⊢
      have := prs_len n t' _ _ _ (by omega) h
      rw [List.length_append, List.length_singleton] at this; omega
theorem spl_len : ∀ p : List UInt8, (spl p).1.length ≤ p.length ∧ (spl p).2.length ≤ p.length ∧ ∀ s ∈ (spl p).2, s.length ≤ p.length
 | [] => ⟨Nat.le_refl _, Nat.le_refl _, fun s h => by cases h⟩
 | a :: t => by
  obtain ⟨h1, h2, h3⟩ := spl_len t
  simp only [spl]
  split
  ·refine ⟨Nat.zero_le _, by simp only [List.length_cons]; omega, fun s hs => ?_⟩
   simp only [List.length_cons]
   rcases List.mem_cons.1 hs with rfl | hs
   ·omega
   ·have := h3 s hs; omega
  ·refine ⟨by simp only [List.length_cons]; omega, by simp only [List.length_cons]; omega, fun s hs => ?_⟩
   have := h3 s hs
   simp only [List.length_cons]
   omega
theorem thenS_eq (s : List UInt8) (r : List (List UInt8)) (out : List Row) : thenS (prs s plainS []) r out = runSeg (s :: r) out := rfl
end
end Go.Mo
end

section
/-
  Plain facts: StlReturns returns true.
-/
namespace Go.Mo
open Go Go.W Go.Lib
set_option maxRecDepth 100000
noncomputable section
end
end Go.Mo
end

section
/-
  Plain facts: regions, their check, a region by its name, the places of rows.
-/
namespace Go.Mo
open Go Go.W Go.Lib
set_option maxRecDepth 100000
noncomputable section
abbrev Reg := List UInt8 × Int × Int × Int × Int × UInt8 × Bool
abbrev Spot := Int × Int × Int
theorem from_eq (N : Nat) (a b c : Int) : q38 N (a, b, c) = some (decide (b ≤ a ∧ a ≤ c)) := by
 unfold q38
 rw [cnd_ile]
 by_cases h : b ≤ a
 ·simp [h, ile]
 ·simp [h]
def regChk (r : Reg) : Int :=
 if nm r.1 = false then 5 else
 if ¬ (0 ≤ r.2.1 ∧ r.2.1 ≤ 14) then 2 else
 if ¬ (1 ≤ r.2.2.1 ∧ r.2.2.1 ≤ 15 - r.2.1) then 2 else
 if ¬ (0 ≤ r.2.2.2.1 ∧ r.2.2.2.1 ≤ 31) then 2 else
 if ¬ (1 ≤ r.2.2.2.2.1 ∧ r.2.2.2.2.1 ≤ 32 - r.2.2.2.1) then 2 else
 if ¬ (1 ≤ n8 r.2.2.2.2.2.1 ∧ n8 r.2.2.2.2.2.1 ≤ 3) then 3 else 0
theorem dec_f {p : Prop} [Decidable p] : (decide p = false) = ¬ p := by by_cases h : p <;> simp [h]
theorem region_check (r : Reg) : q39 fuelH r = some (regChk r) := by
 unfold q39 regChk
 rw [lines_name, bnd_some']
 simp only [from_eq, bnd_some', cnd_ite, bnot_t, dec_f, ilt_tt]
 have e1 : n8 (1 : UInt8) = 1 := rfl
 have e3 : n8 (3 : UInt8) = 3 := rfl
 rw [e1, e3]
 by_cases h0 : nm r.1 = false
 ·rw [if_pos h0, if_pos h0]
 rw [if_neg h0, if_neg h0]
 by_cases h1 : 0 ≤ r.2.1 ∧ r.2.1 ≤ 14
 ·rw [if_neg (not_not_intro h1), if_neg (not_not_intro h1)]
  have w1 : w64 (isub 15 r.2.1) = 15 - r.2.1 := by unfold isub; rw [w64_id (by omega)]
  rw [w1]
  by_cases h2 : 1 ≤ r.2.2.1 ∧ r.2.2.1 ≤ 15 - r.2.1
  ·rw [if_neg (not_not_intro h2), if_neg (not_not_intro h2)]
   by_cases h3 : 0 ≤ r.2.2.2.1 ∧ r.2.2.2.1 ≤ 31
   ·rw [if_neg (not_not_intro h3), if_neg (not_not_intro h3)]
    have w2 : w64 (isub 32 r.2.2.2.1) = 32 - r.2.2.2.1 := by unfold isub; rw [w64_id (by omega)]
    rw [w2]
    by_cases h4 : 1 ≤ r.2.2.2.2.1 ∧ r.2.2.2.2.1 ≤ 32 - r.2.2.2.1
    ·rw [if_neg (not_not_intro h4), if_neg (not_not_intro h4)]
     by_cases h5 : n8 r.2.2.2.2.2.1 < 1
     ·rw [if_pos h5, if_pos (by omega)]
     ·rw [if_neg h5]
      by_cases h6 : 3 < n8 r.2.2.2.2.2.1
      ·rw [if_pos h6, if_pos (by omega)]
      ·rw [if_neg h6, if_neg (by omega)]
    ·rw [if_pos h4, if_pos h4]
   ·rw [if_pos h3, if_pos h3]
  ·rw [if_pos h2, if_pos h2]
 ·rw [if_pos h1, if_pos h1]
theorem r10_check (r : Reg) : q187 fuelH r = some (regChk r) := by
 unfold q187 regChk
 rw [r07_name, bnd_some']
 simp only [cnd_ite, bnot_t, ilt_tt, ine_tt]
 by_cases h0 : nm r.1 = false
 ·rw [if_pos h0, if_pos h0]
 rw [if_neg h0, if_neg h0]
 by_cases h1 : 0 ≤ r.2.1 ∧ r.2.1 ≤ 14
 ·rw [if_neg (by omega), if_neg (by omega), if_neg (not_not_intro h1)]
  have w1 : w64 (isub 15 r.2.1) = 15 - r.2.1 := by unfold isub; rw [w64_id (by omega)]
  rw [w1]
  by_cases h2 : 1 ≤ r.2.2.1 ∧ r.2.2.1 ≤ 15 - r.2.1
  ·rw [if_neg (by omega), if_neg (by omega), if_neg (not_not_intro h2)]
   by_cases h3 : 0 ≤ r.2.2.2.1 ∧ r.2.2.2.1 ≤ 31
   ·rw [if_neg (by omega), if_neg (by omega), if_neg (not_not_intro h3)]
    have w2 : w64 (isub 32 r.2.2.2.1) = 32 - r.2.2.2.1 := by unfold isub; rw [w64_id (by omega)]
    rw [w2]
    by_cases h4 : 1 ≤ r.2.2.2.2.1 ∧ r.2.2.2.2.1 ≤ 32 - r.2.2.2.1
    ·rw [if_neg (by omega), if_neg (by omega), if_neg (not_not_intro h4)]
     have e1 : n8 (1 : UInt8) = 1 := rfl
     have e2 : n8 (2 : UInt8) = 2 := rfl
     have e3 : n8 (3 : UInt8) = 3 := rfl
     rw [e1, e2, e3]
     by_cases c1 : n8 r.2.2.2.2.2.1 = 1
     ·rw [if_neg (not_not_intro c1), if_neg (by omega)]
     rw [if_pos c1]
     by_cases c2 : n8 r.2.2.2.2.2.1 = 2
     ·rw [if_neg (not_not_intro c2), if_neg (by omega)]
     rw [if_pos c2]
     by_cases c3 : n8 r.2.2.2.2.2.1 = 3
     ·rw [if_neg (not_not_intro c3), if_neg (by omega)]
     ·rw [if_pos c3, if_pos (by omega)]
    ·rw [if_pos h4]
     by_cases h : r.2.2.2.2.1 < 1
     ·rw [if_pos h]
     ·rw [if_neg h, if_pos (by omega)]
   ·rw [if_pos h3]
    by_cases h : r.2.2.2.1 < 0
    ·rw [if_pos h]
    ·rw [if_neg h, if_pos (by omega)]
  ·rw [if_pos h2]
   by_cases h : r.2.2.1 < 1
   ·rw [if_pos h]
   ·rw [if_neg h, if_pos (by omega)]
 ·rw [if_pos h1]
  by_cases h : r.2.1 < 0
  ·rw [if_pos h]
  ·rw [if_neg h, if_pos (by omega)]
def defR : Reg := ([], 11, 4, 0, 32, 2, true)
def noR : Reg := ([], 0, 0, 0, 0, 0, false)
def findR (l : List Reg) (n : List UInt8) : Option Reg := if n = [] then some defR else l.find? fun r => decide (r.1 = n)
def findP (l : List Reg) (n : List UInt8) : Reg × Bool := match findR l n with
 | some r => (r, true)
 | none => (noR, false)
theorem itI_find (n : List UInt8) : ∀ (l : List Reg) (i : Nat), itI (fun _ (x : Reg) (_ : Unit) => if x.1 = n then (.inl (some (x, true)) : Option (Reg × Bool) ⊕ Unit) else .inr ()) (fun _ => some (noR, false)) i l () = some (match l.find? fun r => decide (r.1 = n) with | some r => (r, true) | none => (noR, false))
 | [], _ => rfl
 | x :: l, i => by
  simp only [itI, List.find?_cons]
  by_cases h : x.1 = n
  ·rw [if_pos h, decide_eq_true h]
  ·rw [if_neg h, decide_eq_false h]
   exact itI_find n l (i + 1)
theorem region_find (l : List Reg) (hl : l.length ≤ 4000000) (n : List UInt8) : q42 fuelH (l, n) = some (findP l n) := by
 unfold q42 findP findR
 simp only
 by_cases h : n = []
 ·rw [cnd_t (by rw [seq_t]; exact h), if_pos h]; rfl
 ·rw [cnd_f (by rw [← Bool.not_eq_true, seq_t]; exact h), if_neg h, jn_e]
  refine Eq.trans (lst_it (l := l) (fun (_ : Unit) (p : Nat) => (p : Int)) (fun _ (x : Reg) (_ : Unit) => if x.1 = n then .inl (some (x, true)) else .inr ()) (fun _ => some (noR, false)) (fun _ _ => True) (fun self a i hi _ => ?_) (fun self a _ => ?_) fuelH 0 () (Nat.zero_le _) (by have := fuelH_eq; omega) trivial) (itI_find n l 0)
  ·have hin : inb (i : Int) (len l) = true := inb_t (by simp only [len]; omega)
   rw [cnd_t (ilt_t (by simp only [len]; omega)), grd_t hin, lget_i hi]
   by_cases hc : l[i].1 = n
   ·rw [if_pos hc, cnd_t (by rw [seq_t]; exact hc)]; rfl
   ·rw [if_neg hc, cnd_f (by rw [← Bool.not_eq_true, seq_t]; exact hc), w64_succ hi (by omega)]
    exact ⟨rfl, trivial⟩
  ·rw [cnd_f (ilt_f (by simp only [len]; omega))]
   rfl
theorem r10_find : r10_Find fuelH = q42 fuelH := by kernel_rfl
end
end Go.Mo
end

section
/-
  Plain facts: the places of rows.
-/
namespace Go.Mo
open Go Go.W Go.Lib
set_option maxRecDepth 100000
noncomputable section
def usableR (r : Reg) : Prop := r = defR ∨ regChk r = 0
instance (r : Reg) : Decidable (usableR r) := by unfold usableR; infer_instance
theorem reg_eq {a b : Reg} : (a = b) = (a.1 = b.1 ∧ a.2.1 = b.2.1 ∧ a.2.2.1 = b.2.2.1 ∧ a.2.2.2.1 = b.2.2.2.1 ∧ a.2.2.2.2.1 = b.2.2.2.2.1 ∧ a.2.2.2.2.2.1 = b.2.2.2.2.2.1 ∧ a.2.2.2.2.2.2 = b.2.2.2.2.2.2) := by
 obtain ⟨a1, a2, a3, a4, a5, a6, a7⟩ := a; obtain ⟨b1, b2, b3, b4, b5, b6, b7⟩ := b; simp
theorem def_band (x : Reg) : (band (seq x.1 defR.1) (band (ieq x.2.1 defR.2.1) (band (ieq x.2.2.1 defR.2.2.1) (band (ieq x.2.2.2.1 defR.2.2.2.1) (band (ieq x.2.2.2.2.1 defR.2.2.2.2.1) (band (ieq (n8 x.2.2.2.2.2.1) (n8 defR.2.2.2.2.2.1)) (beqb x.2.2.2.2.2.2 defR.2.2.2.2.2.2)))))) = true) = (x = defR) := by
 simp only [band_tt, seq_t, ieq_tt, beqb_t, n8_eq]
 exact reg_eq.symm
theorem region_usable_eq (r : Reg) : q57 fuelH r = some (decide (usableR r)) := by
 unfold q57
 rw [bnd_s (show q41 fuelH () = some defR from rfl), region_check, bnd_some']
 by_cases h : r = defR
 ·rw [cnd_t ((def_band r).mpr h), @decide_eq_true (usableR r) _ (.inl h)]
 ·rw [cnd_f (by rw [← Bool.not_eq_true]; exact fun k => h ((def_band r).mp k))]
  congr 1
  by_cases h2 : regChk r = 0
  ·rw [ieq_t h2, @decide_eq_true (usableR r) _ (.inr h2)]
  ·rw [ieq_f h2, @decide_eq_false (usableR r) _ (fun k => k.elim h h2)]
theorem r10_usable_eq (r : Reg) : q188 fuelH r = some (decide (usableR r)) := by
 unfold q188
 rw [bnd_s (show q183 fuelH () = some defR from rfl), r10_check, bnd_some']
 by_cases h2 : regChk r = 0
 ·rw [cnd_t (ieq_t h2), @decide_eq_true (usableR r) _ (.inr h2)]
 ·rw [cnd_f (ieq_f h2)]
  congr 1
  have hd := def_band r
  by_cases h : r = defR
  ·rw [@decide_eq_true (usableR r) _ (.inl h)]
   exact hd.mpr h
  ·rw [@decide_eq_false (usableR r) _ (fun k => k.elim h h2), ← Bool.not_eq_true]
   exact fun k => h (hd.mp k)
theorem usable_bd {r : Reg} (h : usableR r) : 0 ≤ r.2.1 ∧ 1 ≤ r.2.2.1 ∧ r.2.1 + r.2.2.1 ≤ 15 ∧ 0 ≤ r.2.2.2.1 ∧ 1 ≤ r.2.2.2.2.1 ∧ r.2.2.2.1 + r.2.2.2.2.1 ≤ 32 ∧ 1 ≤ n8 r.2.2.2.2.2.1 ∧ n8 r.2.2.2.2.2.1 ≤ 3 := by
 rcases h with rfl | h
 ·decide
 ·unfold regChk at h
  split at h
  ·cases h
  split at h
  ·cases h
  split at h
  ·cases h
  split at h
  ·cases h
  split at h
  ·cases h
  split at h
  ·cases h
  omega
def colOf (r : Reg) (n : Int) : Int := if n8 r.2.2.2.2.2.1 = 3 then r.2.2.2.1 + (r.2.2.2.2.1 - n) else if n8 r.2.2.2.2.2.1 = 2 then r.2.2.2.1 + (r.2.2.2.2.1 - n).tdiv 2 else r.2.2.2.1
def topOf (r : Reg) (k : Nat) : Int := if r.2.2.2.2.2.2 = true then r.2.1 + (r.2.2.1 - (k : Int)) else r.2.1
def plRnd (r : Reg) (k : Nat) (i : Nat) (n : Int) (out : List Spot) : Option (List Spot × Int) ⊕ List Spot :=
 if n < 0 then .inl (some ([], 2)) else if r.2.2.2.2.1 < n then .inl (some ([], 11)) else .inr (out ++ [(topOf r k + (i : Int), colOf r n, n)])
def placeL (r : Reg) (k : Nat) : Nat → List Int → List Spot → List Spot × Int
 | _, [], out => (out, 0)
 | i, n :: l, out => if n < 0 then ([], 2) else if r.2.2.2.2.1 < n then ([], 11) else placeL r k (i + 1) l (out ++ [(topOf r k + (i : Int), colOf r n, n)])
def placeS (r : Reg) (l : List Int) : List Spot × Int := if ¬ usableR r then ([], 1) else if r.2.2.1 < (l.length : Int) then ([], 9) else placeL r l.length 0 l []
theorem itI_place (r : Reg) (k : Nat) : ∀ (l : List Int) (i : Nat) (out : List Spot), itI (plRnd r k) (fun a => some (a, (0 : Int))) i l out = some (placeL r k i l out)
 | [], i, out => rfl
 | n :: l, i, out => by
  simp only [itI, placeL, plRnd]
  by_cases h1 : n < 0
  ·rw [if_pos h1, if_pos h1]
  ·rw [if_neg h1, if_neg h1]
   by_cases h2 : r.2.2.2.2.1 < n
   ·rw [if_pos h2, if_pos h2]
   ·rw [if_neg h2, if_neg h2]
    exact itI_place r k l (i + 1) _
theorem jn_cnd {α β : Type} (K : α → Option β) (b : Bool) (x y : α) : jn K (fun v => cnd b (v x) (v y)) = K (if b = true then x else y) := by
 rw [jn_e]; cases b <;> rfl
theorem half_bd {x : Int} (h : 0 ≤ x) : 0 ≤ x.tdiv 2 ∧ x.tdiv 2 ≤ x := by
 rw [Int.tdiv_eq_ediv_of_nonneg h]; omega
theorem spot_w {r : Reg} (hu : usableR r) {k i : Nat} {n : Int} (hk : (k : Int) ≤ r.2.2.1) (hi : i < k) (h0 : 0 ≤ n) (hn : n ≤ r.2.2.2.2.1) :
  w64 (iadd (topOf r k) (i : Int)) = topOf r k + (i : Int) ∧ w64 (isub r.2.2.2.2.1 n) = r.2.2.2.2.1 - n ∧ w64 (iadd r.2.2.2.1 (r.2.2.2.2.1 - n)) = r.2.2.2.1 + (r.2.2.2.2.1 - n) ∧ w64 (idiv (r.2.2.2.2.1 - n) 2) = (r.2.2.2.2.1 - n).tdiv 2 ∧ w64 (iadd r.2.2.2.1 ((r.2.2.2.2.1 - n).tdiv 2)) = r.2.2.2.1 + (r.2.2.2.2.1 - n).tdiv 2 := by
 have hb := usable_bd hu
 have hd := half_bd (x := r.2.2.2.2.1 - n) (by omega)
 refine ⟨?_, ?_, ?_, ?_, ?_⟩
 ·unfold iadd topOf
  rw [w64_id]
  split <;> omega
 ·unfold isub; rw [w64_id (by omega)]
 ·unfold iadd; rw [w64_id (by omega)]
 ·unfold idiv; rw [w64_id (by omega)]
 ·unfold iadd; rw [w64_id (by omega)]
theorem region_place (r : Reg) (l : List Int) : q58 fuelH (r, l) = some (placeS r l) := by
 unfold q58 placeS
 simp only
 rw [region_usable_eq, bnd_some', cnd_bnot]
 by_cases hu : usableR r
 ·rw [if_pos hu, if_neg (not_not_intro hu)]
  have hb := usable_bd hu
  by_cases hk : r.2.2.1 < (l.length : Int)
  ·rw [cnd_t (ilt_t (show r.2.2.1 < len l from hk)), if_pos hk]
  ·rw [cnd_f (ilt_f (show ¬ r.2.2.1 < len l from hk)), if_neg hk, jn_cnd]
   have et : (if r.2.2.2.2.2.2 = true then w64 (iadd r.2.1 (w64 (isub r.2.2.1 (len l)))) else r.2.1) = topOf r l.length := by
    unfold topOf
    have e1 : w64 (isub r.2.2.1 (len l)) = r.2.2.1 - (l.length : Int) := by unfold isub len; rw [w64_id (by omega)]
    rw [e1]
    unfold iadd
    rw [w64_id (by omega)]
   rw [et, jn_e]
   refine Eq.trans (lst_it (l := l) (fun (a : List Spot) (p : Nat) => (a, (p : Int))) (plRnd r l.length) (fun a => some (a, (0 : Int))) (fun i a => a.length ≤ i) (fun self a i hi ha => ?_) (fun self a _ => ?_) fuelH 0 [] (Nat.zero_le _) (by have := fuelH_eq; omega) (Nat.le_refl _)) (itI_place r l.length l 0 [])
   ·have hin : inb (i : Int) (len l) = true := inb_t (by simp only [len]; omega)
    simp only
    rw [cnd_t (ilt_t (by simp only [len]; omega)), grd_t hin, lget_i hi, w64_succ hi (by omega)]
    unfold plRnd
    by_cases h1 : l[i] < 0
    ·rw [if_pos h1, cnd_t (ilt_t h1)]; rfl
    ·rw [if_neg h1, cnd_f (ilt_f h1)]
     by_cases h2 : r.2.2.2.2.1 < l[i]
     ·rw [if_pos h2, cnd_t (ilt_t h2)]; rfl
     ·rw [if_neg h2, cnd_f (ilt_f h2)]
      obtain ⟨q1, q2, q3, q4, q5⟩ := spot_w hu (k := l.length) (i := i) (n := l[i]) (by omega) hi (by omega) (by omega)
      have hroom : ∀ s : Spot, room (iadd (len a) (len [s])) 24 = true := fun s => room_t (by simp only [iadd, len, List.length_singleton]; omega)
      rw [q1, q2, q3, q4, q5]
      rw [grd_t (hroom _), grd_t (hroom _), grd_t (hroom _)]
      refine ⟨?_, by simp only [List.length_append, List.length_singleton]; omega⟩
      unfold colOf
      have e3 : n8 (3 : UInt8) = 3 := rfl
      have e2 : n8 (2 : UInt8) = 2 := rfl
      rw [cnd_ieq, cnd_ieq, e3, e2]
      by_cases c3 : n8 r.2.2.2.2.2.1 = 3
      ·rw [if_pos c3, if_pos c3]; rfl
      ·rw [if_neg c3, if_neg c3]
       by_cases c2 : n8 r.2.2.2.2.2.1 = 2
       ·rw [if_pos c2, if_pos c2]; rfl
       ·rw [if_neg c2, if_neg c2]; rfl
   ·simp only
    rw [cnd_f (ilt_f (by simp only [len]; omega))]
 ·rw [if_neg hu, if_pos hu]
theorem r10_place (r : Reg) (l : List Int) : q189 fuelH (r, l) = some (placeS r l) := by
 unfold q189 placeS
 simp only
 rw [r10_usable_eq, bnd_some', cnd_bnot]
 by_cases hu : usableR r
 ·rw [if_pos hu, if_neg (not_not_intro hu)]
  have hb := usable_bd hu
  by_cases hk : r.2.2.1 < (l.length : Int)
  ·rw [cnd_t (ilt_t (show r.2.2.1 < len l from hk)), if_pos hk]
  ·rw [cnd_f (ilt_f (show ¬ r.2.2.1 < len l from hk)), if_neg hk, jn_e]
   refine Eq.trans (lst_it (l := l) (fun (a : List Spot) (p : Nat) => (a, (p : Int))) (plRnd r l.length) (fun a => some (a, (0 : Int))) (fun i a => a.length ≤ i) (fun self a i hi ha => ?_) (fun self a _ => ?_) fuelH 0 [] (Nat.zero_le _) (by have := fuelH_eq; omega) (Nat.le_refl _)) (itI_place r l.length l 0 [])
   ·have hin : inb (i : Int) (len l) = true := inb_t (by simp only [len]; omega)
    simp only
    rw [cnd_t (ilt_t (by simp only [len]; omega)), grd_t hin, lget_i hi, w64_succ hi (by omega)]
    unfold plRnd
    by_cases h1 : l[i] < 0
    ·rw [if_pos h1, cnd_t (ilt_t h1)]; rfl
    ·rw [if_neg h1, cnd_f (ilt_f h1)]
     by_cases h2 : r.2.2.2.2.1 < l[i]
     ·rw [if_pos h2, cnd_t (ilt_t h2)]; rfl
     ·rw [if_neg h2, cnd_f (ilt_f h2), jn_cnd]
      obtain ⟨q1, q2, q3, q4, q5⟩ := spot_w hu (k := l.length) (i := i) (n := l[i]) (by omega) hi (by omega) (by omega)
      have et : (if r.2.2.2.2.2.2 = true then (w64 (iadd (w64 (iadd r.2.1 (i : Int))) (w64 (isub r.2.2.1 (len l)))), r.2.2.2.1, l[i]) else (w64 (iadd r.2.1 (i : Int)), r.2.2.2.1, l[i])) = ((topOf r l.length + (i : Int), r.2.2.2.1, l[i]) : Spot) := by
       have e1 : w64 (isub r.2.2.1 (len l)) = r.2.2.1 - (l.length : Int) := by unfold isub len; rw [w64_id (by omega)]
       have e2 : w64 (iadd r.2.1 (i : Int)) = r.2.1 + (i : Int) := by unfold iadd; rw [w64_id (by omega)]
       have e3 : w64 (iadd (r.2.1 + (i : Int)) (r.2.2.1 - (l.length : Int))) = r.2.1 + (r.2.2.1 - (l.length : Int)) + (i : Int) := by unfold iadd; rw [w64_id (by omega)]; omega
       rw [e1, e2, e3]
       unfold topOf
       split <;> rfl
      rw [et]
      simp only
      have hroom : ∀ s : Spot, room (iadd (len a) (len [s])) 24 = true := fun s => room_t (by simp only [iadd, len, List.length_singleton]; omega)
      rw [q2, q3, q4, q5]
      rw [grd_t (hroom _), grd_t (hroom _), grd_t (hroom _)]
      refine ⟨?_, by simp only [List.length_append, List.length_singleton]; omega⟩
      unfold colOf
      have e3 : n8 (3 : UInt8) = 3 := rfl
      have e2 : n8 (2 : UInt8) = 2 := rfl
      rw [cnd_ieq, cnd_ieq, e3, e2]
      by_cases c3 : n8 r.2.2.2.2.2.1 = 3
      ·rw [if_pos c3, if_pos c3]; rfl
      ·rw [if_neg c3, if_neg c3]
       by_cases c2 : n8 r.2.2.2.2.2.1 = 2
       ·rw [if_pos c2, if_pos c2]; rfl
       ·rw [if_neg c2, if_neg c2]; rfl
   ·simp only
    rw [cnd_f (ilt_f (by simp only [len]; omega))]
 ·rw [if_neg hu, if_pos hu]
end
end Go.Mo
end

section
/-
  Plain facts: the text and the length of a row; events and their check.
-/
namespace Go.Mo
open Go Go.W Go.Lib
set_option maxRecDepth 100000
noncomputable section
abbrev Ev := Int × (Int × Int) × List UInt8 × UInt8 × List UInt8 × List Row
theorem rune_count {s : List UInt8} (hs : s.length ≤ 4000000) : q52 fuelH s = some ((rns s).length : Int) := by
 unfold q52
 rw [jn_e]
 have hf : ∀ (l : List Int) (n : Nat), n + l.length ≤ 100000000 → foldR (fun (_ : Int) (a : Int) self => self (w64 (iadd a 1))) (fun a => some a) l (n : Int) = some ((n + l.length : Nat) : Int) := by
  intro l
  induction l with
  | nil => intro n _; rfl
  | cons r l ih =>
   intro n hn
   simp only [List.length_cons] at hn
   simp only [foldR]
   rw [w64_succ (show n < n + 1 by omega) (by omega), ih (n + 1) (by omega)]
   simp only [List.length_cons]
   congr 2
   omega
 refine (str_loop (s := s) (fun (a : Int) (p : Nat) => (a, s, ofN p)) (fun _ a self => self (w64 (iadd a 1))) (fun a => some a) (fun self a p hp => ?_) (fun self a p hp => ?_) fuelH 0 (0 : Int) (by have := fuelH_eq; omega)).trans ?_
 ·simp only [toN_ofN]
  rw [cnd_t (nlt_t (show p < nlen s from hp))]
  rfl
 ·simp only [toN_ofN]
  rw [cnd_f (nlt_f (show ¬ p < nlen s by unfold nlen; omega))]
 ·have := rns_len _ s (Nat.le_refl _)
  have h := hf (rns s) 0 (by omega)
  rw [List.drop_zero]
  simpa using h
theorem ch_len {s : List UInt8} (hs : s.length ≤ 4000000) (hv : vld s = true) : q53 fuelH s = some ((rns s).length : Int) := by
 unfold q53
 rw [ch_valid _ hs, bnd_some', hv, cnd_f (by rfl), rune_count hs]
 rfl
theorem r08_len {s : List UInt8} (hs : s.length ≤ 4000000) (hv : vld s = true) : r08_Len fuelH s = some ((rns s).length : Int) := by
 unfold r08_Len
 rw [r08_valid _ hs, bnd_some', hv, cnd_f (by rfl), r08_runes_eq hs]
 rfl
def lenT : Row → Nat
 | [] => 0
 | x :: l => (rns x.1).length + lenT l
def plainT (l : Row) : List UInt8 := l.flatMap (·.1)
def okR (l : Row) : Prop := l.length ≤ 16 ∧ (∀ x ∈ l, vld x.1 = true ∧ x.1.length ≤ 4000000) ∧ tot l ≤ 4000000
def smallR (l : Row) : Prop := shortR l ∧ tot l ≤ 4000000
def smallL (l : List Row) : Prop := ∀ r ∈ l, smallR r
theorem okR_of {l : Row} (hs : smallR l) (h : rowChk l = 0) : okR l := by
 obtain ⟨h1, h2⟩ := rowChk_ok h
 exact ⟨h1, fun x hx => ⟨(h2 x hx).1, (hs.1 x hx).1⟩, hs.2⟩
theorem lenT_le : ∀ (l : Row), (∀ x ∈ l, x.1.length ≤ 4000000) → lenT l ≤ 4000000 * l.length
 | [], _ => Nat.le_refl _
 | x :: l, h => by
  have h1 := rns_len _ x.1 (Nat.le_refl _)
  have h2 := h x List.mem_cons_self
  have h3 := lenT_le l fun y hy => h y (List.mem_cons_of_mem _ hy)
  simp only [lenT, List.length_cons]
  omega
theorem lenT_take : ∀ (l : Row) (i : Nat) (h : i < l.length), lenT (l.take (i + 1)) = lenT (l.take i) + (rns l[i].1).length
 | x :: l, 0, _ => by simp [lenT]
 | x :: l, i + 1, h => by
  have := lenT_take l i (by simpa using h)
  simp only [List.take_succ_cons, lenT, this, List.getElem_cons_succ]
  omega
theorem lenT_take_le (l : Row) (i : Nat) : lenT (l.take i) ≤ lenT l := by
 induction l generalizing i with
 | nil => simp [lenT]
 | cons x l ih => cases i with
  | zero => simp [lenT]
  | succ i => simp only [List.take_succ_cons, lenT]; have := ih i; omega
theorem len_loop {l : Row} (h : okR l) (L : List UInt8 → Option Int) (hL : ∀ s : List UInt8, s.length ≤ 4000000 → vld s = true → L s = some ((rns s).length : Int)) :
  fixN (fun (v2 : Int × Int → Option Int) (v3 : Int × Int) =>
  cnd (ilt v3.2 (len l))
   (grd (inb v3.2 (len l))
    (bnd (L (lget l (toN v3.2) ([], (((0 : UInt8), (false, false)), []))).1) fun v4 =>
    cnd (ilt v4 (0 : Int))
     (some (-1 : Int))
     (v2 (w64 (iadd v3.1 v4), w64 (iadd v3.2 (1 : Int))))))
   (some v3.1)) fuelH ((0 : Int), (0 : Int)) = some (lenT l : Int) := by
 have hb := lenT_le l fun x hx => (h.2.1 x hx).2
 have hl := h.1
 refine loop_inv (n := l.length) (fun (a : Nat) (i : Nat) => ((a : Int), (i : Int))) (fun i a => a = lenT (l.take i)) _ (fun self a i hi hI => ?_) (fun self a hI => ?_) fuelH 0 0 (Nat.zero_le _) (by have := fuelH_eq; omega) rfl
 ·refine ⟨a + (rns l[i].1).length, ?_, ?_⟩
  ·have ht := lenT_take l i hi
   have ht2 := lenT_take_le l (i + 1)
   simp only
   rw [cnd_t (ilt_t (by simp only [len]; omega)), grd_t (inb_t (by simp only [len]; omega)), lget_i hi, hL _ (h.2.1 _ (List.getElem_mem hi)).2 (h.2.1 _ (List.getElem_mem hi)).1, bnd_some', cnd_f (ilt_f (by omega)), w64_succ hi (by omega)]
   have e : w64 (iadd (a : Int) ((rns l[i].1).length : Int)) = ((a + (rns l[i].1).length : Nat) : Int) := by
    unfold iadd; rw [w64_id (by omega)]; omega
   rw [e]
  ·rw [lenT_take l i hi, hI]
 ·simp only
  rw [cnd_f (ilt_f (by simp only [len]; omega)), hI, List.take_length]
theorem style_len {l : Row} (h : okR l) : q54 fuelH l = some (lenT l : Int) := by
 unfold q54
 rw [jn_e]
 exact len_loop h (q53 fuelH) fun s => ch_len
theorem r09_len {l : Row} (h : okR l) : r09_Len fuelH l = some (lenT l : Int) := by
 unfold r09_Len
 rw [jn_e]
 exact len_loop h (r08_Len fuelH) fun s => r08_len
theorem plainT_take (l : Row) (i : Nat) (h : i < l.length) : plainT (l.take (i + 1)) = plainT (l.take i) ++ l[i].1 := by
 unfold plainT
 rw [List.take_succ_eq_append_getElem h, List.flatMap_append]
 simp
theorem plainT_len : ∀ (l : Row), (plainT l).length = tot l
 | [] => rfl
 | x :: l => by
  have h3 := plainT_len l
  unfold plainT at h3 ⊢
  simp only [List.flatMap_cons, List.length_append, tot, h3]
theorem tot_take (l : Row) (i : Nat) : tot (l.take i) ≤ tot l := by
 have h := tot_app (l.take i) (l.drop i)
 rw [List.take_append_drop] at h
 omega
theorem plainT_le {l : Row} (h : okR l) (i : Nat) : (plainT (l.take i)).length ≤ 4000000 := by
 rw [plainT_len]
 have := tot_take l i
 have := h.2.2
 omega
theorem write_str {N : Nat} {a b : List UInt8} (h : a.length + b.length ≤ 100000000) : q46 N (((), a), b) = some ((b.length : Int), (), (), a ++ b) := by
 unfold q46
 show (grd (room (iadd (len a) (len b)) 1) (some (len b, (), (), lapp a b))) = _
 rw [grd_t (room_t (by simp only [iadd, len]; omega))]
 rfl
theorem style_plain {l : Row} (h : okR l) : q47 fuelH l = some (plainT l) := by
 unfold q47
 rw [jn_e]
 have hl := h.1
 refine loop_inv (n := l.length) (fun (a : List UInt8) (i : Nat) => ((i : Int), (), a)) (fun i a => a = plainT (l.take i)) _ (fun self a i hi hI => ?_) (fun self a hI => ?_) fuelH 0 [] (Nat.zero_le _) (by have := fuelH_eq; omega) rfl
 ·refine ⟨a ++ l[i].1, ?_, ?_⟩
  ·have h1 := plainT_le h i
   have h2 := (h.2.1 _ (List.getElem_mem hi)).2
   simp only
   rw [cnd_t (ilt_t (by simp only [len]; omega)), grd_t (inb_t (by simp only [len]; omega)), lget_i hi, write_str (by rw [hI]; omega), bnd_some', w64_succ hi (by omega)]
  ·rw [plainT_take l i hi, hI]
 ·simp only
  rw [cnd_f (ilt_f (by simp only [len]; omega)), hI, List.take_length]
theorem r09_plain {l : Row} (h : okR l) : q186 fuelH l = some (plainT l) := by
 unfold q186
 rw [jn_e]
 have hl := h.1
 refine loop_inv (n := l.length) (fun (a : List UInt8) (i : Nat) => (a, (i : Int))) (fun i a => a = plainT (l.take i)) _ (fun self a i hi hI => ?_) (fun self a hI => ?_) fuelH 0 [] (Nat.zero_le _) (by have := fuelH_eq; omega) rfl
 ·refine ⟨a ++ l[i].1, ?_, ?_⟩
  ·have h1 := plainT_le h i
   have h2 := (h.2.1 _ (List.getElem_mem hi)).2
   simp only
   rw [cnd_t (ilt_t (by simp only [len]; omega)), grd_t (inb_t (by simp only [len]; omega)), lget_i hi, grd_t (catOk_t (by rw [hI]; simp only [iadd, len]; omega)), w64_succ hi (by omega)]
   rfl
  ·rw [plainT_take l i hi, hI]
 ·simp only
  rw [cnd_f (ilt_f (by simp only [len]; omega)), hI, List.take_length]
def sp2 : List UInt8 → Bool
 | [] => false
 | [_] => false
 | a :: b :: t => ([32, 32] : List UInt8).isPrefixOf (a :: b :: t) || sp2 (b :: t)
theorem sp2_index : ∀ t : List UInt8, decide (0 ≤ index t [32, 32]) = sp2 t
 | [] => rfl
 | [a] => by
  have e : index [a] [32, 32] = if ([32, 32] : List UInt8).isPrefixOf [a] = true then 0 else if (index [] [32, 32] == -1) = true then -1 else index [] [32, 32] + 1 := rfl
  have hp : ([32, 32] : List UInt8).isPrefixOf [a] = false := by cases h : ((32 : UInt8) == a) <;> simp [List.isPrefixOf, h]
  rw [e, hp]
  rfl
 | a :: b :: t => by
  have ih := sp2_index (b :: t)
  have hg := index_ge (b :: t) [32, 32]
  have e : index (a :: b :: t) [32, 32] = if ([32, 32] : List UInt8).isPrefixOf (a :: b :: t) = true then 0 else if (index (b :: t) [32, 32] == -1) = true then -1 else index (b :: t) [32, 32] + 1 := rfl
  have e2 : sp2 (a :: b :: t) = (([32, 32] : List UInt8).isPrefixOf (a :: b :: t) || sp2 (b :: t)) := rfl
  rw [e, e2, ← ih]
  generalize index (b :: t) [32, 32] = m at hg ⊢
  cases ([32, 32] : List UInt8).isPrefixOf (a :: b :: t) with
  | true => rfl
  | false =>
   rw [if_neg (by decide), Bool.false_or]
   by_cases h1 : m = -1
   ·subst h1; rfl
   ·rw [if_neg (by simpa using h1), decide_eq_true (by omega), decide_eq_true (by omega)]
theorem sp2_contains (t : List UInt8) : contains t [32, 32] = sp2 t := sp2_index t
def neatT (t : List UInt8) : Bool := if t = [] then false else if n8 (lget t (toN (0 : Int)) 0) = n8 (32 : UInt8) then false else if n8 (lget t (toN (w64 (isub (len t) 1))) 0) = n8 (32 : UInt8) then false else !sp2 t
theorem sp2_step {t : List UInt8} {i : Nat} (h : i + 1 < t.length) : sp2 (t.drop i) = (((32 == t[i]) && ((32 == t[i + 1]) && true)) || sp2 (t.drop (i + 1))) := by
 rw [List.drop_eq_getElem_cons (show i < t.length by omega), List.drop_eq_getElem_cons h]
 rfl
theorem beq_n {a : UInt8} (h : ¬ n8 a = n8 (32 : UInt8)) : ((32 : UInt8) == a) = false := by
 rw [beq_eq_false_iff_ne]; intro e; exact h (by rw [← e])
theorem beq_y {a : UInt8} (h : n8 a = n8 (32 : UInt8)) : ((32 : UInt8) == a) = true := by
 rw [n8_inj h]; rfl
theorem neat_loop {t : List UInt8} (ht : t.length ≤ 100000000) : ∀ (fuel i : Nat), t.length - (i + 1) < fuel → i + 1 ≤ t.length →
  fixN (fun (v2 : Int → Option Bool) (v3 : Int) =>
       cnd (ilt v3 (len t))
        (grd (inb v3 (len t))
         (cnd (ieq (n8 (lget t (toN v3) (0 : UInt8))) (n8 (32 : UInt8)))
          (grd (inb (w64 (isub v3 (1 : Int))) (len t))
           (cnd (ieq (n8 (lget t (toN (w64 (isub v3 (1 : Int)))) (0 : UInt8))) (n8 (32 : UInt8)))
            (some false)
            (v2 (w64 (iadd v3 (1 : Int))))))
          (v2 (w64 (iadd v3 (1 : Int))))))
        (some true)) fuel ((i + 1 : Nat) : Int) = some (!sp2 (t.drop i))
 | 0, i, h, _ => by omega
 | fuel + 1, i, h, hi => by
  rw [fixN_s]
  by_cases hl : i + 1 < t.length
  ·have h0 : inb ((i : Nat) : Int) (len t) = true := inb_t (by simp only [len]; omega)
   rw [cnd_t (ilt_t (by simp only [len]; omega)), grd_t (inb_t (by simp only [len]; omega)), lget_i hl, w64_succ hl (by omega), w64_back (by omega), grd_t h0, lget_i (show i < t.length by omega), sp2_step hl, neat_loop ht fuel (i + 1) (by omega) (by omega), cnd_ieq, cnd_ieq]
   by_cases c1 : n8 t[i + 1] = n8 (32 : UInt8)
   ·rw [if_pos c1, beq_y c1]
    by_cases c2 : n8 t[i] = n8 (32 : UInt8)
    ·rw [if_pos c2, beq_y c2]; rfl
    ·rw [if_neg c2, beq_n c2]; rfl
   ·rw [if_neg c1, beq_n c1]; simp
  ·rw [cnd_f (ilt_f (by simp only [len]; omega))]
   have : t.drop i = [t[i]] := by
    rw [List.drop_eq_getElem_cons (show i < t.length by omega), List.drop_eq_nil_of_le (by omega)]
   rw [this]
   rfl
theorem r11_neat_eq {t : List UInt8} (ht : t.length ≤ 4000000) : r11_neat fuelH t = some (neatT t) := by
 unfold r11_neat neatT
 by_cases h0 : t = []
 ·rw [cnd_t (by rw [seq_t]; exact h0), if_pos h0]
 ·have hl : 0 < t.length := List.length_pos_iff.2 h0
  have e1 : w64 (isub (len t) 1) = ((t.length - 1 : Nat) : Int) := w64_pred hl (by omega)
  have hin : inb (w64 (isub (len t) 1)) (len t) = true := by rw [e1]; exact inb_t (by simp only [len]; omega)
  rw [cnd_f (by rw [← Bool.not_eq_true, seq_t]; exact h0), if_neg h0, grd_t (inb_t (by simp only [len]; omega)), cnd_ieq]
  by_cases h1 : n8 (lget t (toN (0 : Int)) 0) = n8 (32 : UInt8)
  ·rw [if_pos h1, if_pos h1]
  ·rw [if_neg h1, if_neg h1, grd_t hin, cnd_ieq]
   by_cases h2 : n8 (lget t (toN (w64 (isub (len t) 1))) 0) = n8 (32 : UInt8)
   ·rw [if_pos h2, if_pos h2]
   ·rw [if_neg h2, if_neg h2, jn_e]
    exact neat_loop (by omega) fuelH 0 (by have := fuelH_eq; omega) hl
def rowE (l : Row) : Int := if rowChk l ≠ 0 then rowChk l else if neatT (plainT l) = false then 4 else if 32 < lenT l then 11 else 0
theorem event_row_eq {l : Row} (hs : smallR l) : q55 fuelH l = some (rowE l) := by
 unfold q55 rowE
 rw [bnd_s (style_check hs.1)]
 by_cases hk : rowChk l ≠ 0
 ·rw [cnd_t (ine_t hk), if_pos hk]
 ·rw [cnd_f (ine_f (by simpa using hk)), if_neg hk]
  have hr := okR_of hs (by simpa using hk)
  have hp := plainT_le hr l.length
  rw [List.take_length] at hp
  rw [bnd_s (style_plain hr)]
  generalize plainT l = t at hp ⊢
  unfold neatT
  by_cases h0 : t = []
  ·rw [cnd_t (by rw [seq_t]; exact h0), if_pos h0, if_pos rfl]
  ·have hl : 0 < t.length := List.length_pos_iff.2 h0
   have e1 : w64 (isub (len t) 1) = ((t.length - 1 : Nat) : Int) := w64_pred hl (by omega)
   have hin : inb (w64 (isub (len t) 1)) (len t) = true := by rw [e1]; exact inb_t (by simp only [len]; omega)
   rw [cnd_f (by rw [← Bool.not_eq_true, seq_t]; exact h0), if_neg h0, grd_t (inb_t (by simp only [len]; omega)), cnd_ieq]
   by_cases h1 : n8 (lget t (toN (0 : Int)) 0) = n8 (32 : UInt8)
   ·rw [if_pos h1, if_pos h1, if_pos rfl]
   ·rw [if_neg h1, if_neg h1, grd_t hin, cnd_ieq]
    by_cases h2 : n8 (lget t (toN (w64 (isub (len t) 1))) 0) = n8 (32 : UInt8)
    ·rw [if_pos h2, if_pos h2, if_pos rfl]
    ·rw [if_neg h2, if_neg h2]
     have hc : strings_Contains fuelH (t, [32, 32]) = some (sp2 t) := by
      show grd (decide (t.length < 4294967281)) (some (contains t [32, 32])) = _
      rw [grd_t (decide_eq_true (by omega)), sp2_contains]
     rw [bnd_s hc]
     by_cases h3 : sp2 t = true
     ·rw [cnd_t h3, h3, if_pos (by decide)]
     ·rw [cnd_f (by simpa using h3), Bool.eq_false_iff.2 h3, if_neg (by simp), bnd_s (style_len hr), cnd_ilt]
      by_cases h4 : 32 < lenT l
      ·rw [if_pos (by omega), if_pos h4]
      ·rw [if_neg (by omega), if_neg h4]
end
end Go.Mo
end

section
/-
  Plain facts: the check of an event, on both sides; spots; the length of an event.
-/
namespace Go.Mo
open Go Go.W Go.Lib
set_option maxRecDepth 100000
noncomputable section
theorem spans_eq (N : Nat) (s : Int × Int) : q43 N s = some (decide (0 ≤ s.1 ∧ s.1 < s.2 ∧ s.2 ≤ 5184000)) := by
 unfold q43
 rw [cnd_ile, cnd_ilt]
 by_cases h1 : 0 ≤ s.1
 ·rw [if_pos h1]
  by_cases h2 : s.1 < s.2
  ·rw [if_pos h2]; simp [h1, h2, ile]
  ·rw [if_neg h2]; simp [h2]
 ·rw [if_neg h1]; simp [h1]
theorem spanned_eq (N : Nat) (s : Int × Int) : q182 N s = some (decide (0 ≤ s.1 ∧ s.1 < s.2 ∧ s.2 ≤ 5184000)) := spans_eq N s
def kindP (k : UInt8) : Bool := match q45 fuelH k with
 | some s => decide (seq s [] = decide (¬ (1 ≤ n8 k ∧ n8 k ≤ 4)))
 | none => false
theorem kind_tab (k : UInt8) : ∃ s, q45 fuelH k = some s ∧ seq s [] = decide (¬ (1 ≤ n8 k ∧ n8 k ≤ 4)) := by
 have h : kindP k = true := all_u8 (P := kindP) (by kernel_rfl) k
 unfold kindP at h
 split at h
 ·rename_i s hs
  exact ⟨s, hs, of_decide_eq_true h⟩
 ·cases h
theorem jn_sp {β : Type} (K : Bool → Option β) (s : List UInt8) (X : Option Bool) (hX : X = some (nm s)) : jn K (fun v => cnd (sne s ([] : List UInt8)) (bnd X fun w => v (bnot w)) (v false)) = K (decide (s ≠ [] ∧ nm s = false)) := by
 rw [jn_e, hX, bnd_some']
 by_cases h : s = []
 ·subst h; rfl
 ·rw [cnd_t (by simp [sne, h])]
  congr 1
  cases hn : nm s <;> simp [bnot, h]
def rowsE : List Row → Int → Int
 | [], k => k
 | l :: r, k => if rowE l ≠ 0 then rowE l else rowsE r k
def lens (l : List Row) : List Int := l.map fun r => (lenT r : Int)
def evChk (x : Ev) (rs : List Reg) : Int :=
 if x.1 < 1 then 2 else if 1099511627776 < x.1 then 2 else
 if ¬ (0 ≤ x.2.1.1 ∧ x.2.1.1 < x.2.1.2 ∧ x.2.1.2 ≤ 5184000) then 2 else
 match findR rs x.2.2.1 with
 | none => 6
 | some r =>
  if ¬ (1 ≤ n8 x.2.2.2.1 ∧ n8 x.2.2.2.1 ≤ 4) then 3 else
  if x.2.2.2.2.1 ≠ [] ∧ nm x.2.2.2.2.1 = false then 5 else
  if x.2.2.2.2.2.length = 0 then 9 else if 4 < x.2.2.2.2.2.length then 9 else
  rowsE x.2.2.2.2.2 (placeS r (lens x.2.2.2.2.2)).2
theorem rowE_ok {l : Row} (hs : smallR l) (h : rowE l = 0) : okR l := by
 unfold rowE at h
 split at h
 ·rename_i hc; exact absurd h hc
 ·rename_i hc; exact okR_of hs (by simpa using hc)
theorem event_lens_eq {x : Ev} (h : ∀ l ∈ x.2.2.2.2.2, okR l) (hl : x.2.2.2.2.2.length ≤ 1000000) : q56 fuelH x = some (lens x.2.2.2.2.2) := by
 unfold q56
 rw [jn_e]
 generalize x.2.2.2.2.2 = l at h hl ⊢
 refine loop_inv (n := l.length) (fun (a : List Int) (i : Nat) => (a, (i : Int))) (fun i a => a = lens (l.take i)) _ (fun self a i hi hI => ?_) (fun self a hI => ?_) fuelH 0 [] (Nat.zero_le _) (by have := fuelH_eq; omega) rfl
 ·refine ⟨a ++ [(lenT l[i] : Int)], ?_, ?_⟩
  ·have ha : a.length ≤ i := by rw [hI]; unfold lens; rw [List.length_map, List.length_take]; omega
   simp only
   rw [cnd_t (ilt_t (by simp only [len]; omega)), grd_t (inb_t (by simp only [len]; omega)), lget_i hi, style_len (h _ (List.getElem_mem hi)), bnd_some', grd_t (room_t (by simp only [iadd, len, List.length_singleton]; omega)), w64_succ hi (by omega)]
   rfl
  ·rw [hI]; unfold lens; rw [List.take_succ_eq_append_getElem hi, List.map_append]; rfl
 ·simp only
  rw [cnd_f (ilt_f (by simp only [len]; omega)), hI, List.take_length]
theorem itI_rows (K : Option Int) (k : Int) : ∀ (l : List Row) (i : Nat), ((∀ r ∈ l, rowE r = 0) → K = some k) → itI (fun _ (r : Row) (_ : Unit) => if rowE r ≠ 0 then (.inl (some (rowE r)) : Option Int ⊕ Unit) else .inr ()) (fun _ => K) i l () = some (rowsE l k)
 | [], i, h => h fun r hr => by cases hr
 | r :: l, i, h => by
  simp only [itI, rowsE]
  by_cases hc : rowE r ≠ 0
  ·rw [if_pos hc, if_pos hc]
  ·rw [if_neg hc, if_neg hc]
   refine itI_rows K k l (i + 1) fun hl => h fun q hq => ?_
   rcases List.mem_cons.1 hq with rfl | hq
   ·simpa using hc
   ·exact hl q hq
theorem itI_rows2 (K : List Int → Option Int) (k : List Int → Int) (hK : ∀ a, K a = some (k a)) : ∀ (l : List Row) (i : Nat) (a : List Int), itI (fun _ (r : Row) (a : List Int) => if rowE r ≠ 0 then (.inl (some (rowE r)) : Option Int ⊕ List Int) else .inr (a ++ [(lenT r : Int)])) K i l a = some (rowsE l (k (a ++ lens l)))
 | [], i, a => by simp [itI, hK, rowsE, lens]
 | r :: l, i, a => by
  simp only [itI, rowsE]
  by_cases hc : rowE r ≠ 0
  ·rw [if_pos hc, if_pos hc]
  ·rw [if_neg hc, if_neg hc]
   simp only
   rw [itI_rows2 K k hK l (i + 1)]
   simp [lens]
theorem event_check_eq {x : Ev} {rs : List Reg} (hs : smallL x.2.2.2.2.2) (hr : rs.length ≤ 4000000) : q59 fuelH (x, rs) = some (evChk x rs) := by
 unfold q59 evChk
 simp only
 rw [region_find _ hr, bnd_some', cnd_ilt]
 by_cases c1 : x.1 < 1
 ·rw [if_pos c1, if_pos c1]
 rw [if_neg c1, if_neg c1, cnd_ilt]
 by_cases c2 : 1099511627776 < x.1
 ·rw [if_pos c2, if_pos c2]
 rw [if_neg c2, if_neg c2, spans_eq, bnd_some', cnd_bnot]
 by_cases c3 : 0 ≤ x.2.1.1 ∧ x.2.1.1 < x.2.1.2 ∧ x.2.1.2 ≤ 5184000
 ·rw [if_pos c3, if_neg (not_not_intro c3)]
  unfold findP
  cases hf : findR rs x.2.2.1 with
  | none => rfl
  | some r =>
   simp only
   rw [cnd_f (by rfl)]
   obtain ⟨s, k1, k2⟩ := kind_tab x.2.2.2.1
   rw [bnd_s k1, k2, cnd_dec]
   by_cases c4 : 1 ≤ n8 x.2.2.2.1 ∧ n8 x.2.2.2.1 ≤ 4
   ·rw [if_neg (not_not_intro c4), if_neg (not_not_intro c4), jn_sp _ _ _ (lines_name _), cnd_dec]
    by_cases c5 : x.2.2.2.2.1 ≠ [] ∧ nm x.2.2.2.2.1 = false
    ·rw [if_pos c5, if_pos c5]
    rw [if_neg c5, if_neg c5]
    by_cases c6 : x.2.2.2.2.2.length = 0
    ·rw [cnd_t (ieq_t (by simp only [len]; omega)), if_pos c6]
    rw [cnd_f (ieq_f (by simp only [len]; omega)), if_neg c6]
    by_cases c7 : 4 < x.2.2.2.2.2.length
    ·rw [cnd_t (ilt_t (by simp only [len]; omega)), if_pos c7]
    rw [cnd_f (ilt_f (by simp only [len]; omega)), if_neg c7, jn_e]
    have hlen := @event_lens_eq x
    generalize x.2.2.2.2.2 = l at hs c6 c7 hlen ⊢
    refine Eq.trans (lst_it (l := l) (fun (_ : Unit) (p : Nat) => (p : Int)) (fun _ (r : Row) (_ : Unit) => if rowE r ≠ 0 then .inl (some (rowE r)) else .inr ()) (fun _ => bnd (q56 fuelH x) fun v5 => bnd (q58 fuelH (r, v5)) fun v6 => some v6.2) (fun _ _ => True) (fun self a i hi _ => ?_) (fun self a _ => ?_) fuelH 0 () (Nat.zero_le _) (by have := fuelH_eq; omega) trivial) (itI_rows _ _ l 0 fun hl => ?_)
    ·rw [cnd_t (ilt_t (by simp only [len]; omega)), grd_t (inb_t (by simp only [len]; omega)), lget_i hi, bnd_s (event_row_eq (hs _ (List.getElem_mem hi))), w64_succ hi (by omega)]
     by_cases hc : rowE l[i] ≠ 0
     ·rw [if_pos hc, cnd_t (ine_t hc)]; rfl
     ·rw [if_neg hc, cnd_f (ine_f (by simpa using hc))]
      exact ⟨rfl, trivial⟩
    ·rw [cnd_f (ilt_f (by simp only [len]; omega))]
    ·rw [bnd_s (hlen (fun q hq => rowE_ok (hs q hq) (hl q hq)) (by omega)), bnd_s (region_place _ _)]
   ·rw [if_pos c4, if_pos c4]
 ·rw [if_neg c3, if_pos c3]
theorem r11_check_eq {x : Ev} {rs : List Reg} (hs : smallL x.2.2.2.2.2) (hr : rs.length ≤ 4000000) : q190 fuelH (x, rs) = some (evChk x rs) := by
 unfold q190 evChk
 simp only
 rw [cnd_ilt]
 by_cases c1 : x.1 < 1
 ·rw [if_pos c1, if_pos c1]
 rw [if_neg c1, if_neg c1, cnd_ilt]
 by_cases c2 : 1099511627776 < x.1
 ·rw [if_pos c2, if_pos c2]
 rw [if_neg c2, if_neg c2, spanned_eq, bnd_some', cnd_bnot]
 by_cases c3 : 0 ≤ x.2.1.1 ∧ x.2.1.1 < x.2.1.2 ∧ x.2.1.2 ≤ 5184000
 ·rw [if_pos c3, if_neg (not_not_intro c3), r10_find, region_find _ hr, bnd_some']
  unfold findP
  cases hf : findR rs x.2.2.1 with
  | none => rfl
  | some r =>
   simp only
   rw [cnd_f (by rfl)]
   have e1 : n8 (1 : UInt8) = 1 := rfl
   have e4 : n8 (4 : UInt8) = 4 := rfl
   rw [cnd_ilt, cnd_ilt, e1, e4]
   by_cases c4 : 1 ≤ n8 x.2.2.2.1 ∧ n8 x.2.2.2.1 ≤ 4
   ·rw [if_neg (by omega), if_neg (by omega), if_neg (not_not_intro c4), jn_sp _ _ _ (r07_name _), cnd_dec]
    by_cases c5 : x.2.2.2.2.1 ≠ [] ∧ nm x.2.2.2.2.1 = false
    ·rw [if_pos c5, if_pos c5]
    rw [if_neg c5, if_neg c5]
    by_cases c6 : x.2.2.2.2.2.length = 0
    ·rw [cnd_t (ieq_t (by simp only [len]; omega)), if_pos c6]
    rw [cnd_f (ieq_f (by simp only [len]; omega)), if_neg c6]
    by_cases c7 : 4 < x.2.2.2.2.2.length
    ·rw [cnd_t (ilt_t (by simp only [len]; omega)), if_pos c7]
    rw [cnd_f (ilt_f (by simp only [len]; omega)), if_neg c7, jn_e]
    generalize x.2.2.2.2.2 = l at hs c6 c7 ⊢
    refine Eq.trans (lst_it (l := l) (fun (a : List Int) (p : Nat) => (a, (p : Int))) (fun _ (r : Row) (a : List Int) => if rowE r ≠ 0 then .inl (some (rowE r)) else .inr (a ++ [(lenT r : Int)])) (fun a => bnd (q189 fuelH (r, a)) fun v4 => some v4.2) (fun i a => a.length ≤ i) (fun self a i hi ha => ?_) (fun self a _ => ?_) fuelH 0 [] (Nat.zero_le _) (by have := fuelH_eq; omega) (Nat.le_refl _)) (itI_rows2 _ (fun a => (placeS r a).2) (fun a => by rw [r10_place]; rfl) l 0 [])
    ·have hsr := hs _ (List.getElem_mem hi)
     have hin : inb (i : Int) (len l) = true := inb_t (by simp only [len]; omega)
     simp only
     rw [cnd_t (ilt_t (by simp only [len]; omega)), grd_t hin, lget_i hi, bnd_s (r09_check hsr.1), w64_succ hi (by omega)]
     generalize l[i] = q at hsr ⊢
     unfold rowE
     by_cases hk : rowChk q ≠ 0
     ·rw [if_pos hk, if_pos hk, cnd_t (ine_t hk)]; rfl
     ·have hok := okR_of hsr (by simpa using hk)
      have hp := plainT_le hok q.length
      rw [List.take_length] at hp
      rw [if_neg hk, cnd_f (ine_f (by simpa using hk)), bnd_s (r09_plain hok), bnd_s (r11_neat_eq hp), cnd_ite]
      by_cases hn : neatT (plainT q) = false
      ·rw [if_pos (by rw [hn]; rfl), if_pos hn, if_pos (by decide)]; rfl
      ·rw [if_neg (by rw [bnot_t]; exact hn), if_neg hn, bnd_s (r09_len hok), cnd_ilt]
       by_cases h4 : 32 < lenT q
       ·rw [if_pos (by omega), if_pos h4, if_pos (by decide)]; rfl
       ·rw [if_neg (by omega), if_neg h4, if_neg (by decide), bnd_s (r09_len hok), grd_t (room_t (by simp only [iadd, len, List.length_singleton]; omega))]
        exact ⟨rfl, by simp only [List.length_append, List.length_singleton]; omega⟩
    ·simp only
     rw [cnd_f (ilt_f (by simp only [len]; omega))]
   ·rw [if_pos c4]
    by_cases h : n8 x.2.2.2.1 < 1
    ·rw [if_pos h]
    ·rw [if_neg h, if_pos (by omega)]
 ·rw [if_neg c3, if_pos c3]
end
end Go.Mo
end

section
/-
  Plain facts: the header of a document; events by their number; the length of an event.
-/
namespace Go.Mo
open Go Go.W Go.Lib
set_option maxRecDepth 100000
noncomputable section
abbrev Cmt := Int × Int × Int × Int × List UInt8 × List UInt8 × Bool × Bool
abbrev Doc := List UInt8 × List UInt8 × UInt8 × Bool × Int × List Reg × List Ev × List Cmt
def hasE (l : List Ev) (k : Int) : Prop := ∃ x ∈ l, x.1 = k
instance (l : List Ev) (k : Int) : Decidable (hasE l k) := by unfold hasE; infer_instance
def lessE (a b : Ev) : Prop := a.2.1.1 < b.2.1.1 ∨ (a.2.1.1 = b.2.1.1 ∧ a.1 < b.1)
instance (a b : Ev) : Decidable (lessE a b) := by unfold lessE; infer_instance
theorem r11_less (N : Nat) (a b : Ev) : r11_Less N (a, b) = some (decide (lessE a b)) := by
 unfold r11_Less lessE
 simp only
 rw [cnd_ilt, cnd_ieq]
 by_cases h1 : a.2.1.1 < b.2.1.1
 ·rw [if_pos h1]; simp [h1]
 ·rw [if_neg h1]
  by_cases h2 : a.2.1.1 = b.2.1.1
  ·rw [if_pos h2]; simp [h2, ilt]
  ·rw [if_neg h2]; simp [h1, h2]
theorem cmp_eq (N : Nat) (a b : Int) : q61 N (a, b) = some (if a < b then -1 else if b < a then 1 else 0) := by
 unfold q61
 have h : ∀ x : Int, q60 N x = some false := fun x => by
  show some (ine x x) = _
  rw [ine_f rfl]
 simp only
 rw [h, h, bnd_some', bnd_some', cnd_f rfl, cnd_f rfl, cnd_ilt, cnd_ilt]
 by_cases h1 : a < b
 ·rw [if_pos h1, if_pos h1]
 ·rw [if_neg h1, if_neg h1]
  by_cases h2 : b < a
  ·rw [if_pos h2, if_pos h2]
  ·rw [if_neg h2, if_neg h2]
theorem or_eq (a b : Int) : q62 fuelH [a, b] = some (if a ≠ 0 then a else b) := by
 have h : q62 fuelH [a, b] = cnd (ine a 0) (some a) (cnd (ine b 0) (some b) (some 0)) := by kernel_rfl
 rw [h, cnd_ine, cnd_ine]
 by_cases h1 : a ≠ 0
 ·rw [if_pos h1, if_pos h1]
 ·rw [if_neg h1, if_neg h1]
  by_cases h2 : b ≠ 0
  ·rw [if_pos h2]
  ·rw [if_neg h2]; congr 1; omega
end
end Go.Mo
end

section
/-
  Plain facts: the events of a document, checked one after the other; the length of an event.
-/
namespace Go.Mo
open Go Go.W Go.Lib
set_option maxRecDepth 100000
noncomputable section
theorem rowsE_zero : ∀ (l : List Row) (k : Int), rowsE l k = 0 → (∀ r ∈ l, rowE r = 0) ∧ k = 0
 | [], k, h => ⟨fun r hr => (by cases hr), h⟩
 | r :: l, k, h => by
  simp only [rowsE] at h
  split at h
  ·rename_i hc; exact absurd h hc
  ·rename_i hc
   obtain ⟨h1, h2⟩ := rowsE_zero l k h
   refine ⟨fun q hq => ?_, h2⟩
   rcases List.mem_cons.1 hq with rfl | hq
   ·simpa using hc
   ·exact h1 q hq
theorem ev_ok {x : Ev} {rs : List Reg} (h : evChk x rs = 0) : 1 ≤ x.1 ∧ x.1 ≤ 1099511627776 ∧ (0 ≤ x.2.1.1 ∧ x.2.1.1 < x.2.1.2 ∧ x.2.1.2 ≤ 5184000) ∧ 0 < x.2.2.2.2.2.length ∧ x.2.2.2.2.2.length ≤ 4 ∧ (∀ r ∈ x.2.2.2.2.2, rowE r = 0) ∧ ∃ r, findR rs x.2.2.1 = some r ∧ (placeS r (lens x.2.2.2.2.2)).2 = 0 := by
 unfold evChk at h
 split at h
 ·cases h
 split at h
 ·cases h
 split at h
 ·cases h
 rename_i c1 c2 c3
 split at h
 ·cases h
 rename_i r hr
 split at h
 ·cases h
 split at h
 ·cases h
 split at h
 ·cases h
 split at h
 ·cases h
 rename_i c6 c7
 obtain ⟨h1, h2⟩ := rowsE_zero _ _ h
 exact ⟨by omega, by omega, by omega, by omega, by omega, h1, r, hr, h2⟩
end
end Go.Mo
end

section
/-
  Plain facts: the comments of a document, on both sides.
-/
namespace Go.Mo
open Go Go.W Go.Lib
set_option maxRecDepth 100000
noncomputable section
theorem jn_u {α : Type} {K : Unit → Option α} {X : Option α} (h : K () = X) (T : (Unit → Option α) → Option α) : jn K T = T fun _ => X := by
 rw [jn_e, show K = fun _ => X from funext fun _ => h]
end
end Go.Mo
end

section
/-
  Plain facts: the check of a document is the specified one.
-/
namespace Go.Mo
open Go Go.W Go.Lib
set_option maxRecDepth 100000
noncomputable section
end
end Go.Mo
end

section
/-
  Plain facts: the place of a good event, and its region.
-/
namespace Go.Mo
open Go Go.W Go.Lib
set_option maxRecDepth 100000
noncomputable section
def letR (a : UInt8) : UInt8 := if a = 1 then 76 else if a = 2 then 67 else 82
def regOf (p : Int × UInt8) : Reg := ([82, b8 (48 + p.1 / 10), b8 (48 + p.1 % 10), letR p.2], p.1, 15 - p.1, 0, 32, p.2, false)
def regB (x : Option Reg) (r : Reg) : Bool := match x with
 | some y => seq y.1 r.1 && (ieq y.2.1 r.2.1 && (ieq y.2.2.1 r.2.2.1 && (ieq y.2.2.2.1 r.2.2.2.1 && (ieq y.2.2.2.2.1 r.2.2.2.2.1 && (ieq (n8 y.2.2.2.2.2.1) (n8 r.2.2.2.2.2.1) && beqb y.2.2.2.2.2.2 r.2.2.2.2.2.2)))))
 | none => false
theorem regB_t {x : Option Reg} {r : Reg} (h : regB x r = true) : x = some r := by
 cases x with
 | none => cases h
 | some y =>
  simp only [regB, Bool.and_eq_true, seq_t, ieq_tt, beqb_t, n8_eq] at h
  rw [← reg_eq] at h
  rw [h]
theorem okP_mem0 {p : Int × UInt8} (h : 0 ≤ p.1 ∧ p.1 ≤ 14 ∧ 1 ≤ n8 p.2 ∧ n8 p.2 ≤ 3) : ∃ n ∈ List.range 15, ∃ a ∈ ([1, 2, 3] : List UInt8), p = ((n : Int), a) := by
 obtain ⟨n, a⟩ := p
 obtain ⟨h1, h2, h3, h4⟩ := h
 simp only at h1 h2 h3 h4
 have hn : (n.toNat : Int) = n := by omega
 have ha : a ∈ ([1, 2, 3] : List UInt8) := by
  have e1 : n8 (1 : UInt8) = 1 := rfl
  have e2 : n8 (2 : UInt8) = 2 := rfl
  have e3 : n8 (3 : UInt8) = 3 := rfl
  have : n8 a = n8 (1 : UInt8) ∨ n8 a = n8 (2 : UInt8) ∨ n8 a = n8 (3 : UInt8) := by omega
  rcases this with e | e | e <;> rw [n8_inj e] <;> simp
 exact ⟨n.toNat, List.mem_range.2 (by omega), a, ha, by rw [hn]⟩
theorem regOf_tabS : ((List.range 15).all fun n => ([1, 2, 3] : List UInt8).all fun a => regB (q81 fuelH ((n : Int), a)) (regOf ((n : Int), a))) = true := by kernel_rfl
theorem regOf_stl {p : Int × UInt8} (h : 0 ≤ p.1 ∧ p.1 ≤ 14 ∧ 1 ≤ n8 p.2 ∧ n8 p.2 ≤ 3) : q81 fuelH p = some (regOf p) := by
 obtain ⟨n, hn, a, ha, rfl⟩ := okP_mem0 h
 exact regB_t (List.all_eq_true.1 (List.all_eq_true.1 regOf_tabS n hn) a ha)
theorem regOf_tabR : ((List.range 15).all fun n => ([1, 2, 3] : List UInt8).all fun a => regB (q181 fuelH ((n : Int), a)) (regOf ((n : Int), a))) = true := by kernel_rfl
theorem regOf_eq {p : Int × UInt8} (h : 0 ≤ p.1 ∧ p.1 ≤ 14 ∧ 1 ≤ n8 p.2 ∧ n8 p.2 ≤ 3) : q81 fuelH p = some (regOf p) ∧ q181 fuelH p = some (regOf p) := by
 refine ⟨regOf_stl h, ?_⟩
 obtain ⟨n, hn, a, ha, rfl⟩ := okP_mem0 h
 exact regB_t (List.all_eq_true.1 (List.all_eq_true.1 regOf_tabR n hn) a ha)
end
end Go.Mo
end

section
/-
  Plain facts: regions in the order of their names; rows without ruby.
-/
namespace Go.Mo
open Go Go.W Go.Lib
set_option maxRecDepth 100000
noncomputable section
theorem slt_cons (a b : UInt8) (x y : List UInt8) : slt (a :: x) (b :: y) = true ↔ a.toNat < b.toNat ∨ (a = b ∧ slt x y = true) := by
 show (decide (a < b) || (a == b && Op.bytesLess x y)) = true ↔ _
 rw [Bool.or_eq_true, Bool.and_eq_true, decide_eq_true_eq, beq_iff_eq, UInt8.lt_iff_toNat_lt]
 rfl
theorem slt_irr : ∀ x : List UInt8, slt x x = false
 | [] => rfl
 | a :: x => by
  rw [← Bool.not_eq_true, slt_cons]
  rintro (h | h)
  ·omega
  ·rw [slt_irr x] at h; cases h.2
theorem slt_tr : ∀ x y z : List UInt8, slt x y = true → slt y z = true → slt x z = true
 | x, [], z, h, _ => by cases x <;> cases h
 | x, b :: y, [], _, h => by cases h
 | [], b :: y, c :: z, _, _ => rfl
 | a :: x, b :: y, c :: z, h1, h2 => by
  rw [slt_cons] at h1 h2 ⊢
  rcases h1 with h1 | ⟨rfl, h1⟩
  ·rcases h2 with h2 | ⟨rfl, h2⟩
   ·exact .inl (by omega)
   ·exact .inl h1
  ·rcases h2 with h2 | ⟨rfl, h2⟩
   ·exact .inl h2
   ·exact .inr ⟨rfl, slt_tr x y z h1 h2⟩
theorem slt_tri : ∀ x y : List UInt8, slt x y = false → x ≠ y → slt y x = true
 | [], [], _, h => absurd rfl h
 | [], b :: y, h, _ => by cases h
 | a :: x, [], _, _ => rfl
 | a :: x, b :: y, h, hne => by
  rw [← Bool.not_eq_true, slt_cons] at h
  rw [slt_cons]
  by_cases h1 : b.toNat < a.toNat
  ·exact .inl h1
  ·have e : a = b := UInt8.toNat_inj.1 (by
    have : ¬ a.toNat < b.toNat := fun h2 => h (.inl h2)
    omega)
   subst e
   refine .inr ⟨rfl, slt_tri x y ?_ fun e => hne (by rw [e])⟩
   rw [← Bool.not_eq_true]
   exact fun h2 => h (.inr ⟨rfl, h2⟩)
def addS : List Reg → Reg → List Reg
 | [], r => [r]
 | x :: l, r => if slt x.1 r.1 = true then x :: addS l r else if x.1 = r.1 then x :: l else r :: x :: l
theorem addS_len (l : List Reg) (r : Reg) : (addS l r).length ≤ l.length + 1 := by
 induction l with
 | nil => simp [addS]
 | cons x l ih =>
  simp only [addS]
  split
  ·simp only [List.length_cons]; omega
  ·split <;> simp
theorem addS_at : ∀ (l : List Reg) (r : Reg) (k : Nat), k ≤ l.length → (∀ x ∈ l.take k, slt x.1 r.1 = true) → addS l r = l.take k ++ addS (l.drop k) r
 | l, r, 0, _, _ => rfl
 | [], r, k + 1, h, _ => by simp at h
 | x :: l, r, k + 1, h, hk => by
  simp only [addS, List.take_succ_cons, List.drop_succ_cons, List.cons_append]
  rw [if_pos (hk x (by simp)), addS_at l r k (by simpa using h) fun y hy => hk y (by simp [hy])]
theorem stl_add_eq {l : List Reg} (r : Reg) (hl : l.length ≤ 1000000) : stl_add fuelH (l, r) = some (addS l r) := by
 unfold stl_add
 simp only
 rw [jn_e]
 have hbody : ∀ k : Nat, k ≤ l.length → (∀ x ∈ l.take k, slt x.1 r.1 = true) → (∀ h : k < l.length, slt l[k].1 r.1 = false) →
  (jn (fun (_ : Unit) =>
   grd (in2 (k : Int) (len l)) <|
   grd (room (iadd (len ([] : List Reg)) (len (ltake (toN (k : Int)) l))) 56) <|
   grd (room (iadd (len (lapp ([] : List Reg) (ltake (toN (k : Int)) l))) (len ([r] : List Reg))) 56) <|
   grd (in2 (k : Int) (len l)) <|
   grd (room (iadd (len (lapp (lapp ([] : List Reg) (ltake (toN (k : Int)) l)) ([r] : List Reg))) (len (ldrop (toN (k : Int)) l))) 56) <|
   some (lapp (lapp (lapp ([] : List Reg) (ltake (toN (k : Int)) l)) ([r] : List Reg)) (ldrop (toN (k : Int)) l)))
  fun v2 =>
  cnd (ilt (k : Int) (len l))
   (grd (inb (k : Int) (len l))
    (cnd (seq (lget l (toN (k : Int)) ([], ((0 : Int), ((0 : Int), ((0 : Int), ((0 : Int), ((0 : UInt8), false))))))).1 r.1)
     (some l)
     (v2 ())))
   (v2 ())) = some (addS l r) := by
  intro k hk hlt hge
  have htl : (l.take k).length = k := by rw [List.length_take]; omega
  have hdl : (l.drop k).length = l.length - k := List.length_drop
  have hin : in2 (k : Int) (len l) = true := in2_t (by simp only [len]; omega)
  refine Eq.trans (jn_u (X := some (l.take k ++ r :: l.drop k)) ?_ _) ?_
  ·have e1 : ltake (toN (k : Int)) l = l.take k := by simp [ltake, toN]
   have e2 : ldrop (toN (k : Int)) l = l.drop k := by simp [ldrop, toN]
   rw [e1, e2, grd_t hin, grd_t (room_t (by simp only [iadd, len, List.length_nil]; omega)), grd_t (room_t (by simp only [iadd, len, lapp, List.length_append, List.length_nil, List.length_singleton]; omega)), grd_t hin, grd_t (room_t (by simp only [iadd, len, lapp, List.length_append, List.length_nil, List.length_singleton]; omega))]
   simp [lapp]
  ·simp only
   by_cases hc : k < l.length
   ·have hd := List.drop_eq_getElem_cons hc
    rw [cnd_t (ilt_t (by simp only [len]; omega)), grd_t (inb_t (by simp only [len]; omega)), lget_i hc, addS_at l r k hk hlt, hd]
    simp only [addS]
    rw [if_neg (by rw [hge hc]; decide)]
    by_cases he : l[k].1 = r.1
    ·rw [cnd_t (by rw [seq_t]; exact he), if_pos he, ← hd, List.take_append_drop]
    ·rw [cnd_f (by rw [← Bool.not_eq_true, seq_t]; exact he), if_neg he]
   ·rw [cnd_f (ilt_f (by simp only [len]; omega)), addS_at l r k hk hlt]
    have : l.drop k = [] := List.drop_eq_nil_of_le (by omega)
    rw [this]
    rfl
 have hloop : ∀ (fuel k : Nat), l.length - k < fuel → k ≤ l.length → (∀ x ∈ l.take k, slt x.1 r.1 = true) → ∀ K : Int → Option (List Reg), (∀ k : Nat, k ≤ l.length → (∀ x ∈ l.take k, slt x.1 r.1 = true) → (∀ h : k < l.length, slt l[k].1 r.1 = false) → K (k : Int) = some (addS l r)) →
  fixN (fun (v4 : Int → Option (List Reg)) (v5 : Int) =>
  cnd (ilt v5 (len l))
   (grd (inb v5 (len l))
    (cnd (slt (lget l (toN v5) ([], ((0 : Int), ((0 : Int), ((0 : Int), ((0 : Int), ((0 : UInt8), false))))))).1 r.1)
     (v4 (w64 (iadd v5 (1 : Int))))
     (K v5)))
   (K v5)) fuel (k : Int) = some (addS l r) := by
  intro fuel
  induction fuel with
  | zero => intro k h; omega
  | succ fuel ih =>
   intro k h hk hlt K hK
   rw [fixN_s]
   by_cases hc : k < l.length
   ·rw [cnd_t (ilt_t (by simp only [len]; omega)), grd_t (inb_t (by simp only [len]; omega)), lget_i hc, w64_succ hc (by omega)]
    by_cases hs : slt l[k].1 r.1 = true
    ·rw [cnd_t hs]
     refine ih (k + 1) (by omega) (by omega) (fun x hx => ?_) K hK
     rw [List.take_succ_eq_append_getElem hc] at hx
     rcases List.mem_append.1 hx with hx | hx
     ·exact hlt x hx
     ·rw [List.mem_singleton.1 hx]; exact hs
    ·rw [cnd_f (by simpa using hs)]
     exact hK k hk hlt fun _ => by simpa using hs
   ·rw [cnd_f (ilt_f (by simp only [len]; omega))]
    exact hK k hk hlt fun h => absurd h hc
 exact hloop fuelH 0 (by have := fuelH_eq; omega) (Nat.zero_le _) (fun x hx => by cases hx) _ hbody
end
end Go.Mo
end

section
/-
  Plain facts: the reference's list of regions is the same.
-/
namespace Go.Mo
open Go Go.W Go.Lib
set_option maxRecDepth 100000
noncomputable section
def srt (l : List Reg) : Prop := l.Pairwise fun a b => slt a.1 b.1 = true
theorem slt_asym {x y : List UInt8} (h : slt x y = true) : slt y x = false := by
 rw [← Bool.not_eq_true]
 intro h2
 have := slt_tr _ _ _ h h2
 rw [slt_irr] at this
 cases this
theorem slt_ne {x y : List UInt8} (h : slt x y = true) : x ≠ y := fun e => by
 subst e; rw [slt_irr] at h; cases h
theorem mem_addS : ∀ (l : List Reg) (r x : Reg), x ∈ addS l r → x ∈ l ∨ x = r
 | [], r, x, h => .inr (List.mem_singleton.1 h)
 | y :: l, r, x, h => by
  simp only [addS] at h
  split at h
  ·rcases List.mem_cons.1 h with rfl | h
   ·exact .inl List.mem_cons_self
   ·rcases mem_addS l r x h with h | h
    ·exact .inl (List.mem_cons_of_mem _ h)
    ·exact .inr h
  ·split at h
   ·exact .inl h
   ·rcases List.mem_cons.1 h with rfl | h
    ·exact .inr rfl
    ·exact .inl h
theorem srt_add : ∀ (l : List Reg) (r : Reg), srt l → srt (addS l r)
 | [], r, _ => List.pairwise_singleton _ _
 | x :: l, r, h => by
  have h1 := (List.pairwise_cons.1 h)
  simp only [addS]
  split
  ·rename_i hc
   refine List.pairwise_cons.2 ⟨fun y hy => ?_, srt_add l r h1.2⟩
   rcases mem_addS l r y hy with hy | rfl
   ·exact h1.1 y hy
   ·exact hc
  ·rename_i hc
   split
   ·exact h
   ·rename_i he
    have hr : slt r.1 x.1 = true := slt_tri _ _ (by simpa using hc) he
    refine List.pairwise_cons.2 ⟨fun y hy => ?_, h⟩
    rcases List.mem_cons.1 hy with rfl | hy
    ·exact hr
    ·exact slt_tr _ _ _ hr (h1.1 y hy)
def wthF (l : List Reg) (r : Reg) (v2 : (List Reg) × Bool × Int → Option (List Reg)) (v3 : (List Reg) × Bool × Int) : Option (List Reg) :=
  cnd (ilt v3.2.2 (len l))
   (grd (inb v3.2.2 (len l))
    (cnd (seq (lget l (toN v3.2.2) ([], ((0 : Int), ((0 : Int), ((0 : Int), ((0 : Int), ((0 : UInt8), false))))))).1 r.1)
     (some l)
     (cnd (bnot v3.2.1)
      (cnd (slt r.1 (lget l (toN v3.2.2) ([], ((0 : Int), ((0 : Int), ((0 : Int), ((0 : Int), ((0 : UInt8), false))))))).1)
       (grd (room (iadd (len v3.1) (len ([r] : List Reg))) 56)
        (grd (room (iadd (len (lapp v3.1 ([r] : List Reg))) (len ([lget l (toN v3.2.2) ([], ((0 : Int), ((0 : Int), ((0 : Int), ((0 : Int), ((0 : UInt8), false))))))] : List Reg))) 56)
         (v2 (lapp (lapp v3.1 ([r] : List Reg)) ([lget l (toN v3.2.2) ([], ((0 : Int), ((0 : Int), ((0 : Int), ((0 : Int), ((0 : UInt8), false))))))] : List Reg), true, w64 (iadd v3.2.2 (1 : Int))))))
       (grd (room (iadd (len v3.1) (len ([lget l (toN v3.2.2) ([], ((0 : Int), ((0 : Int), ((0 : Int), ((0 : Int), ((0 : UInt8), false))))))] : List Reg))) 56)
        (v2 (lapp v3.1 ([lget l (toN v3.2.2) ([], ((0 : Int), ((0 : Int), ((0 : Int), ((0 : Int), ((0 : UInt8), false))))))] : List Reg), v3.2.1, w64 (iadd v3.2.2 (1 : Int))))))
      (grd (room (iadd (len v3.1) (len ([lget l (toN v3.2.2) ([], ((0 : Int), ((0 : Int), ((0 : Int), ((0 : Int), ((0 : UInt8), false))))))] : List Reg))) 56)
       (v2 (lapp v3.1 ([lget l (toN v3.2.2) ([], ((0 : Int), ((0 : Int), ((0 : Int), ((0 : Int), ((0 : UInt8), false))))))] : List Reg), v3.2.1, w64 (iadd v3.2.2 (1 : Int))))))))
   (cnd (bnot v3.2.1)
   (grd (room (iadd (len v3.1) (len ([r] : List Reg))) 56)
    (some (lapp v3.1 ([r] : List Reg))))
   (some v3.1))
theorem wth_put {l : List Reg} {r : Reg} (hl : l.length ≤ 1000000) : ∀ (fuel i : Nat) (out : List Reg), l.length - i < fuel → i ≤ l.length → out.length ≤ i + 1 → (∀ x ∈ l.drop i, x.1 ≠ r.1) → fixN (wthF l r) fuel (out, true, (i : Int)) = some (out ++ l.drop i)
 | 0, i, _, h, _, _, _ => by omega
 | fuel + 1, i, out, h, hi, ho, hne => by
  rw [fixN_s]
  unfold wthF
  by_cases hc : i < l.length
  ·have hd := List.drop_eq_getElem_cons hc
   have h1 : l[i].1 ≠ r.1 := hne _ (by rw [hd]; exact List.mem_cons_self)
   simp only
   rw [cnd_t (ilt_t (by simp only [len]; omega)), grd_t (inb_t (by simp only [len]; omega)), lget_i hc, cnd_f (by rw [← Bool.not_eq_true, seq_t]; exact h1), cnd_f (by rfl), grd_t (room_t (by simp only [iadd, len, List.length_singleton]; omega)), w64_succ hc (by omega)]
   refine (wth_put hl fuel (i + 1) _ (by omega) (by omega) (by simp only [lapp, List.length_append, List.length_singleton]; omega) fun x hx => hne x (by rw [hd]; exact List.mem_cons_of_mem _ hx)).trans ?_
   rw [hd]
   simp [lapp]
  ·simp only
   rw [cnd_f (ilt_f (by simp only [len]; omega)), cnd_f (by rfl), List.drop_eq_nil_of_le (by omega), List.append_nil]
theorem wth_loop {l : List Reg} {r : Reg} (hs : srt l) (hl : l.length ≤ 1000000) : ∀ (fuel i : Nat), l.length - i < fuel → i ≤ l.length → (∀ x ∈ l.take i, slt x.1 r.1 = true) → fixN (wthF l r) fuel (l.take i, false, (i : Int)) = some (addS l r)
 | 0, i, h, _, _ => by omega
 | fuel + 1, i, h, hi, hlt => by
  have htl : (l.take i).length = i := by rw [List.length_take]; omega
  have ha := addS_at l r i hi hlt
  rw [fixN_s]
  unfold wthF
  by_cases hc : i < l.length
  ·have hd := List.drop_eq_getElem_cons hc
   simp only
   rw [cnd_t (ilt_t (by simp only [len]; omega)), grd_t (inb_t (by simp only [len]; omega)), lget_i hc]
   rw [hd] at ha
   simp only [addS] at ha
   by_cases he : l[i].1 = r.1
   ·rw [cnd_t (by rw [seq_t]; exact he), ha, if_neg (by rw [he, slt_irr]; decide), if_pos he, ← hd, List.take_append_drop]
   ·rw [cnd_f (by rw [← Bool.not_eq_true, seq_t]; exact he), cnd_t (by rfl)]
    by_cases hr : slt r.1 l[i].1 = true
    ·rw [cnd_t hr, grd_t (room_t (by simp only [iadd, len, List.length_singleton]; omega)), grd_t (room_t (by simp only [iadd, len, lapp, List.length_append, List.length_singleton]; omega)), w64_succ hc (by omega)]
     have hsd : srt (l[i] :: l.drop (i + 1)) := by rw [← hd]; exact List.Pairwise.sublist (List.drop_sublist i l) hs
     refine (wth_put hl fuel (i + 1) _ (by omega) (by omega) (by simp only [lapp, List.length_append, List.length_singleton]; omega) fun x hx => ?_).trans ?_
     ·exact (slt_ne (slt_tr _ _ _ hr ((List.pairwise_cons.1 hsd).1 x hx))).symm
     ·rw [ha, if_neg (by rw [slt_asym hr]; decide), if_neg he]
      simp [lapp]
    ·have hlt2 : slt l[i].1 r.1 = true := slt_tri _ _ (by simpa using hr) fun e => he e.symm
     rw [cnd_f (by simpa using hr), grd_t (room_t (by simp only [iadd, len, List.length_singleton]; omega)), w64_succ hc (by omega)]
     have e : lapp (l.take i) [l[i]] = l.take (i + 1) := (List.take_succ_eq_append_getElem hc).symm
     rw [e]
     refine wth_loop hs hl fuel (i + 1) (by omega) (by omega) fun x hx => ?_
     rw [List.take_succ_eq_append_getElem hc] at hx
     rcases List.mem_append.1 hx with hx | hx
     ·exact hlt x hx
     ·rw [List.mem_singleton.1 hx]; exact hlt2
  ·simp only
   rw [cnd_f (ilt_f (by simp only [len]; omega)), cnd_t (by rfl), grd_t (room_t (by simp only [iadd, len, List.length_singleton]; omega)), ha, List.drop_eq_nil_of_le (by omega)]
   rfl
theorem r24_with_eq {l : List Reg} (r : Reg) (hs : srt l) (hl : l.length ≤ 1000000) : r24_with fuelH (l, r) = some (addS l r) := by
 unfold r24_with
 simp only
 rw [jn_e]
 exact wth_loop hs hl fuelH 0 (by have := fuelH_eq; omega) (Nat.zero_le _) fun x hx => by cases hx
end
end Go.Mo
end

section
/-
  Plain facts: rows without ruby, both sides; the day.
-/
namespace Go.Mo
open Go Go.W Go.Lib
set_option maxRecDepth 100000
noncomputable section
def dayOf (r : UInt8) : Int := if r = 3 then 2160000 else 2592000
end
end Go.Mo
end

section
/-
  Plain facts: what the form accepts, on both sides.
-/
namespace Go.Mo
open Go Go.W Go.Lib
set_option maxRecDepth 100000
noncomputable section
end
end Go.Mo
end

section
/-
  Plain facts: the document as the form carries it, on both sides.
-/
namespace Go.Mo
open Go Go.W Go.Lib
set_option maxRecDepth 100000
noncomputable section
def noD : Doc := ([], [], 0, false, 0, [], [], [])
end
end Go.Mo
end

section
/-
  Plain facts: a document is the same as itself; StlAccepts returns true.
-/
namespace Go.Mo
open Go Go.W Go.Lib
set_option maxRecDepth 100000
noncomputable section
theorem regs_self {l : List Reg} (hl : l.length ≤ 1000000) : q196 fuelH (l, l) = some true := by
 unfold q196
 simp only
 rw [cnd_f (ine_f rfl), jn_e]
 refine loop_inv (n := l.length) (fun (_ : Unit) (i : Nat) => (i : Int)) (fun _ _ => True) _ (fun self a i hi _ => ⟨(), ?_, trivial⟩) (fun self a _ => ?_) fuelH 0 () (Nat.zero_le _) (by have := fuelH_eq; omega) trivial
 ·have hin : inb (i : Int) (len l) = true := inb_t (by simp only [len]; omega)
  rw [cnd_t (ilt_t (by simp only [len]; omega)), grd_t hin, grd_t hin, lget_i hi, w64_succ hi (by omega), cnd_f]
  rw [← Bool.not_eq_true, bnot_t, Bool.eq_false_iff]
  intro h
  refine h ?_
  simp only [band_tt, seq_t, ieq_tt, beqb_t]
  simp
 ·rw [cnd_f (ilt_f (by simp only [len]; omega))]
theorem ev_self {x : Ev} (h1 : x.2.2.2.2.2.length ≤ 4000000) (h2 : ∀ r ∈ x.2.2.2.2.2, r.length ≤ 4000000) : q201 fuelH (x, x) = some true := by
 unfold q201
 simp only
 rw [cnd_t (ieq_t rfl), cnd_t (by simp [band_tt, ieq_tt]), cnd_t (by rw [seq_t]), cnd_t (ieq_t rfl), cnd_t (by rw [seq_t]), same_rows _ _ h1 h2, bnd_some']
 simp
theorem evs_self {l : List Ev} (hl : l.length ≤ 1000000) (h : ∀ x ∈ l, x.2.2.2.2.2.length ≤ 4000000 ∧ ∀ r ∈ x.2.2.2.2.2, r.length ≤ 4000000) : q202 fuelH (l, l) = some true := by
 unfold q202
 simp only
 rw [cnd_f (ine_f rfl), jn_e]
 refine loop_inv (n := l.length) (fun (_ : Unit) (i : Nat) => (i : Int)) (fun _ _ => True) _ (fun self a i hi _ => ⟨(), ?_, trivial⟩) (fun self a _ => ?_) fuelH 0 () (Nat.zero_le _) (by have := fuelH_eq; omega) trivial
 ·have hin : inb (i : Int) (len l) = true := inb_t (by simp only [len]; omega)
  obtain ⟨h1, h2⟩ := h _ (List.getElem_mem hi)
  rw [cnd_t (ilt_t (by simp only [len]; omega)), grd_t hin, grd_t hin, lget_i hi, w64_succ hi (by omega), bnd_s (ev_self h1 h2), cnd_f (by rfl)]
 ·rw [cnd_f (ilt_f (by simp only [len]; omega))]
theorem doc_self {d : Doc} (h1 : d.2.2.2.2.2.1.length ≤ 1000000) (h2 : d.2.2.2.2.2.2.1.length ≤ 1000000) (h3 : ∀ x ∈ d.2.2.2.2.2.2.1, x.2.2.2.2.2.length ≤ 4000000 ∧ ∀ r ∈ x.2.2.2.2.2, r.length ≤ 4000000) (h4 : d.2.2.2.2.2.2.2 = []) : q204 fuelH (d, d) = some true := by
 unfold q204
 have hh : q195 fuelH d = some (d.1, d.2.1, d.2.2.1, d.2.2.2.1, d.2.2.2.2.1) := rfl
 simp only
 rw [hh, bnd_some', bnd_some', cnd_t (by simp [band_tt, ieq_tt, seq_t, beqb_t]), regs_self h1, bnd_some', cnd_t rfl, evs_self h2 h3, bnd_some', cnd_t rfl, h4]
 have : q203 fuelH ([], []) = some true := by kernel_rfl
 rw [this]
 rfl
end
end Go.Mo
end

section
/-
  Plain facts: StlAccepts returns true.
-/
namespace Go.Mo
open Go Go.W Go.Lib
set_option maxRecDepth 100000
noncomputable section
end
end Go.Mo
end

section
/-
  Plain facts: texts that are joined; the normal form of a row that is good.
-/
namespace Go.Mo
open Go Go.W Go.Lib
set_option maxRecDepth 100000
noncomputable section
theorem plainT_app (a b : Row) : plainT (a ++ b) = plainT a ++ plainT b := by unfold plainT; rw [List.flatMap_append]
theorem plainT_one (x : Run) : plainT [x] = x.1 := by unfold plainT; simp
theorem snoc_plain (out : Row) (x : Run) : plainT (snoc out x) = plainT out ++ x.1 := by
 unfold snoc
 split
 ·rename_i h; rw [h, List.append_nil]
 ·split
  ·rename_i p hp
   split
   ·rw [plainT_app, plainT_one]
    conv => rhs; rw [last_eq hp, plainT_app, plainT_one]
    simp
   ·rw [plainT_app, plainT_one]
  ·rw [plainT_app, plainT_one]
theorem fold_plain : ∀ (l out : Row), plainT (l.foldl snoc out) = plainT out ++ plainT l
 | [], out => by simp [plainT]
 | x :: l, out => by
  rw [List.foldl_cons, fold_plain l, snoc_plain]
  have : plainT (x :: l) = x.1 ++ plainT l := by unfold plainT; rw [List.flatMap_cons]
  rw [this, List.append_assoc]
theorem rowE_zero {l : Row} (h : rowE l = 0) : rowChk l = 0 ∧ neatT (plainT l) = true ∧ lenT l ≤ 32 := by
 unfold rowE at h
 split at h
 ·rename_i hc; exact absurd h hc
 split at h
 ·cases h
 split at h
 ·cases h
 rename_i c1 c2 c3
 exact ⟨by simpa using c1, by simpa using c2, by omega⟩
end
end Go.Mo
end

section
/-
  Plain facts: the regions of a reduced document; its events stand where they stood.
-/
namespace Go.Mo
open Go Go.W Go.Lib
set_option maxRecDepth 100000
noncomputable section
def okP (p : Int × UInt8) : Prop := 0 ≤ p.1 ∧ p.1 ≤ 14 ∧ 1 ≤ n8 p.2 ∧ n8 p.2 ≤ 3
theorem okP_mem {p : Int × UInt8} (h : okP p) : ∃ n ∈ List.range 15, ∃ a ∈ ([1, 2, 3] : List UInt8), p = ((n : Int), a) := okP_mem0 h
theorem inj_tab : ((List.range 15).all fun n => ([1, 2, 3] : List UInt8).all fun a => (List.range 15).all fun m => ([1, 2, 3] : List UInt8).all fun b => !(seq (regOf ((n : Int), a)).1 (regOf ((m : Int), b)).1) || (Nat.beq n m && ieq (n8 a) (n8 b))) = true := by kernel_rfl
theorem regOf_inj {p q : Int × UInt8} (hp : okP p) (hq : okP q) (h : (regOf p).1 = (regOf q).1) : p = q := by
 obtain ⟨n, hn, a, ha, rfl⟩ := okP_mem hp
 obtain ⟨m, hm, b, hb, rfl⟩ := okP_mem hq
 have k := List.all_eq_true.1 (List.all_eq_true.1 (List.all_eq_true.1 (List.all_eq_true.1 inj_tab n hn) a ha) m hm) b hb
 rw [Bool.or_eq_true] at k
 rcases k with k | k
 ·have : seq (regOf ((n : Int), a)).1 (regOf ((m : Int), b)).1 = true := by rw [seq_t]; exact h
  rw [this] at k
  cases k
 ·rw [Bool.and_eq_true, ieq_tt] at k
  rw [Nat.eq_of_beq_eq_true k.1, n8_inj k.2]
def allR (L : List Reg) : Prop := ∀ r ∈ L, ∃ p, okP p ∧ r = regOf p
theorem addS_all {L : List Reg} {p : Int × UInt8} (hL : allR L) (hp : okP p) : allR (addS L (regOf p)) := fun r hr => by
 rcases mem_addS _ _ _ hr with hr | rfl
 ·exact hL r hr
 ·exact ⟨p, hp, rfl⟩
theorem addS_keep : ∀ (L : List Reg) (r x : Reg), x ∈ L → x ∈ addS L r
 | y :: L, r, x, h => by
  simp only [addS]
  split
  ·rcases List.mem_cons.1 h with rfl | h
   ·exact List.mem_cons_self
   ·exact List.mem_cons_of_mem _ (addS_keep L r x h)
  ·split
   ·exact h
   ·exact List.mem_cons_of_mem _ h
theorem find_regOf {L : List Reg} {p : Int × UInt8} (hL : allR L) (hp : okP p) (hm : regOf p ∈ L) : findR L (regOf p).1 = some (regOf p) := by
 unfold findR
 rw [if_neg (by unfold regOf; simp)]
 cases hf : L.find? fun r => decide (r.1 = (regOf p).1) with
 | none =>
  have := List.find?_eq_none.1 hf _ hm
  simp at this
 | some r =>
  have h1 := List.find?_some hf
  obtain ⟨q, hq, rfl⟩ := hL r (List.mem_of_find?_eq_some hf)
  rw [regOf_inj hq hp (by simpa using h1)]
end
end Go.Mo
end

section
/-
  Plain facts: a reduced document is good; StlReduced returns true.
-/
namespace Go.Mo
open Go Go.W Go.Lib
set_option maxRecDepth 100000
noncomputable section
end
end Go.Mo
end

section
/-
  Plain facts of the headers of the tape form.
-/
namespace Go.Mo
open Go Go.W Go.Lib
set_option maxRecDepth 100000
noncomputable section
theorem clone_eq (N : Nat) (x : List UInt8) (h : (x.length : Int) ≤ 140737488355328) : q122 N x = some x := by
 have h1 : grd (room (iadd (len ([] : List UInt8)) (len x)) 1) (some (lapp ([] : List UInt8) x)) = some x := by
  rw [grd_t (room_t (by simp [iadd, len]; omega))]
  rfl
 unfold q122
 cases x with
 | nil =>
  rw [cnd_f (by rfl)]
  exact univ_of rfl h1
 | cons a x =>
  rw [cnd_t (ine_t (by simp [len]; omega))]
  exact h1
theorem mul_tab : ((List.range 1025).all fun n => decide (q109 0 (1, (n : Int)) = some (0, (n : Int)))) = true := by kernel_rfl
theorem mul_one {N n : Nat} (h : n ≤ 1024) : bits_Mul N (1, (n : Int)) = some (0, (n : Int)) := by
 have := List.all_eq_true.1 mul_tab n (List.mem_range.2 (by omega))
 have e : q109 N (1, (n : Int)) = some (0, (n : Int)) := of_decide_eq_true this
 unfold bits_Mul
 rw [bnd_s e]
theorem repeat_eq {N : Nat} (hN : 1100 ≤ N) (b : UInt8) {n : Nat} (h0 : 0 < n) (hn : n ≤ 1024) : q110 N ([b], (n : Int)) = some (List.replicate n b) := by
 unfold q110
 simp only
 rw [cnd_f (ieq_f (by omega)), cnd_f (ilt_f (by omega))]
 have e1 : wr .u64 (len [b]) = 1 := by rw [wru64_id (by simp [len])]; rfl
 have e2 : wr .u64 (n : Int) = (n : Int) := wru64_id (by omega)
 rw [e1, e2, bnd_s (mul_one hn)]
 simp only
 have ew : w64 (n : Int) = (n : Int) := w64_id (by omega)
 rw [cnd_f (by rfl), cnd_f (ilt_f (by omega)), cnd_f (by rfl), ew]
 simp only [jn_e]
 rw [cnd_f (ilt_f (by omega)), grd_t (mkOk_t (by omega))]
 refine univL_of fun l hl => ?_
 have hl : l.length = n := by simpa [toN] using hl
 rw [grd_t (in3_t (by simp only [len]; omega))]
 have ht : ltake (toN (n : Int)) l = l := by simp only [ltake, toN, Int.toNat_natCast]; rw [List.take_of_length_le (by omega)]
 rw [ht]
 have hm : imin (len [b]) (len l) = ((1 : Nat) : Int) := by simp only [imin, len, List.length_singleton]; omega
 rw [hm]
 have hq : putl l 0 (ltake (nlen l) [b]) = b :: l.drop 1 := by
  simp only [putl, ltake, nlen, List.take_zero, List.nil_append]
  rw [List.take_of_length_le (by simp; omega)]
  rfl
 rw [hq]
 refine rep_loop hn N 1 _ (by omega) (Nat.le_refl _) h0 (by simp; omega) rfl
theorem kind_eq (N : Nat) (x : UInt8 × Bool) : q103 N x = r03_kind N x := by
 unfold q103 r03_kind
 rw [(rate_eq N x.1).1, (rate_eq N x.1).2.1]
theorem check_eq (N : Nat) (x : UInt8 × Int × Int × Int × Int × Bool) : q106 N x = q160 N x := by
 unfold q106 q160
 rw [kind_eq, (rate_eq N x.1).2.2]
 congr 1
 funext v0
 congr 2
 congr 1
 congr 1
 congr 1
 congr 1
 congr 1
 by_cases hF : ilt x.2.2.2.2.1 0 = true
 ·rw [cnd_t hF, cnd_t hF]
 ·have hF : ilt x.2.2.2.2.1 0 = false := by simpa using hF
  rw [cnd_f hF, cnd_f hF]
  have h0 : ¬ x.2.2.2.2.1 < 0 := of_decide_eq_false hF
  congr 1
  funext v1
  congr 1
  cases hd : x.2.2.2.2.2 with
  | true =>
   rw [cnd_t rfl]
   congr 2
  | false =>
   rw [cnd_f rfl]
   have e : q105 N (x.1, false) = some 0 := rfl
   rw [bnd_s e, cnd_f (ilt_f h0)]
   have c2 : ∀ b : Bool, cnd b (some (0 : Int)) (some 0) = some 0 := fun b => by cases b <;> rfl
   rw [c2, c2]
theorem within_eq (N : Nat) (n lo hi : Int) : q155 N (n, lo, hi) = some (decide (lo ≤ n ∧ n ≤ hi)) := by
 unfold q155
 simp only
 rw [cnd_ile]
 split
 ·simp only [ile, Option.some.injEq, decide_eq_decide]; omega
 ·simp only [Option.some.injEq]; exact (decide_eq_false (by omega)).symm
theorem checkHeader_eq (h : Hdr) (h2 : h.2.2.1.length ≤ 4000000) : q107 fuelH h = q161 fuelH h := by
 unfold q107 q161
 simp only [ch_valid _ h2, r08_valid _ h2, lines_name, r07_name, within_eq, bnd_some', rng_eq, check_eq]
 kernel_rfl
end
end Go.Mo
end

section
/-
  Plain facts: digits and the bytes of a header.
-/
namespace Go.Mo
open Go Go.W Go.Lib
set_option maxRecDepth 100000
noncomputable def dg (v : Int) : UInt8 := b8 (w64 (iadd 48 (imod v 10)))
noncomputable def dv (v : Int) : Int := w64 (idiv v 10)
theorem digits2 (v : Int) : q111 fuelH (v, 2) = some [dg (dv v), dg v] := by kernel_rfl
theorem digits3 (v : Int) : q111 fuelH (v, 3) = some [dg (dv (dv v)), dg (dv v), dg v] := by kernel_rfl
theorem digits5 (v : Int) : q111 fuelH (v, 5) = some [dg (dv (dv (dv (dv v)))), dg (dv (dv (dv v))), dg (dv (dv v)), dg (dv v), dg v] := by kernel_rfl
theorem r23_digits2 (v : Int) : q166 fuelH (v, 2) = some [dg (dv v), dg v] := by kernel_rfl
theorem r23_digits3 (v : Int) : q166 fuelH (v, 3) = some [dg (dv (dv v)), dg (dv v), dg v] := by kernel_rfl
theorem r23_digits5 (v : Int) : q166 fuelH (v, 5) = some [dg (dv (dv (dv (dv v)))), dg (dv (dv (dv v))), dg (dv (dv v)), dg (dv v), dg v] := by kernel_rfl
noncomputable def clk (l : Lbl) : List UInt8 := [dg (dv l.1), dg l.1, dg (dv l.2.1), dg l.2.1, dg (dv l.2.2.1), dg l.2.2.1, dg (dv l.2.2.2.1), dg l.2.2.2.1]
theorem clock_eq (l : Lbl) : q112 fuelH l = some (clk l) := by kernel_rfl
theorem label_eq (l : Lbl) : q167 fuelH l = some (clk l) := by kernel_rfl
noncomputable def hdg (h : Hdr) (n : Int) : List UInt8 :=
 [dg (dv (dv n)), dg (dv n), dg n] ++ [dg (dv (dv (dv (dv h.2.2.2.1)))), dg (dv (dv (dv h.2.2.2.1))), dg (dv (dv h.2.2.2.1)), dg (dv h.2.2.2.1), dg h.2.2.2.1] ++ [dg (dv (dv (dv (dv h.2.2.2.2.1)))), dg (dv (dv (dv h.2.2.2.2.1))), dg (dv (dv h.2.2.2.2.1)), dg (dv h.2.2.2.2.1), dg h.2.2.2.2.1] ++ clk h.2.2.2.2.2.1 ++ clk h.2.2.2.2.2.2.1 ++ [dg (dv h.2.2.2.2.2.2.2.1), dg h.2.2.2.2.2.2.2.1] ++ [dg (dv h.2.2.2.2.2.2.2.2), dg h.2.2.2.2.2.2.2.2]
noncomputable def sig (r : UInt8) : List UInt8 := if r = 5 then [83, 84, 76, 51, 48, 46, 48, 49] else [83, 84, 76, 50, 53, 46, 48, 49]
noncomputable def pad (l : List UInt8) (n : Nat) : List UInt8 := l ++ List.replicate (n - l.length) 32
noncomputable def hby (h : Hdr) : List UInt8 := sig h.1 ++ pad h.2.1 16 ++ pad (hdg h ((latE h.2.2.1).length : Int)) 40 ++ pad (latE h.2.2.1) 960
theorem sig_len (r : UInt8) : (sig r).length = 8 := by unfold sig; split <;> rfl
theorem hdg_len (h : Hdr) (n : Int) : (hdg h n).length = 33 := rfl
theorem pad_len {l : List UInt8} {n : Nat} (h : l.length ≤ n) : (pad l n).length = n := by simp [pad]; omega
theorem fill_eq {l : List UInt8} {n : Nat} (hn : n ≤ 1100) (hl : l.length ≤ n) : r23_fill fuelH (l, (n : Int), 32) = some (pad l n) := by
 unfold r23_fill
 rw [jn_e, grd_t (room_t (by simp [iadd, len]; omega))]
 have : ∀ (fuel : Nat) (m : List UInt8), n - m.length < fuel → m.length ≤ n → fixN (fun v2 (v3 : List UInt8) =>
  cnd (ilt (len v3) (n : Int))
   (grd (room (iadd (len v3) (len ([32] : List UInt8))) 1)
    (v2 (lapp v3 ([32] : List UInt8))))
   (some v3)) fuel m = some (pad m n) := by
  intro fuel
  induction fuel with
  | zero => intro m h; omega
  | succ fuel ih =>
   intro m h h2
   rw [fixN_s]
   by_cases hm : m.length < n
   ·rw [cnd_t (ilt_t (by simp only [len]; omega)), grd_t (room_t (by simp [iadd, len]; omega)), ih _ (by simp [lapp]; omega) (by simp [lapp]; omega)]
    congr 1
    unfold pad lapp
    obtain ⟨k, hk⟩ : ∃ k, n - m.length = k + 1 := ⟨n - m.length - 1, by omega⟩
    rw [hk, List.replicate_succ, List.length_append, List.append_assoc]
    simp only [List.length_singleton, show n - (m.length + 1) = k by omega]
    rfl
   ·rw [cnd_f (ilt_f (by simp only [len]; omega))]
    unfold pad
    rw [show n - m.length = 0 by omega]
    simp
 have := this fuelH (lapp [] l) (by have := fuelH_eq; simp [lapp]; omega) (by simp [lapp]; omega)
 simpa [lapp] using this
end Go.Mo
end

section
/-
  Plain facts: what the check of a header lets through; the bytes of a header.
-/
namespace Go.Mo
open Go Go.W Go.Lib
set_option maxRecDepth 100000
noncomputable section
noncomputable def lblOk (l : Lbl) : Prop := (0 ≤ l.1 ∧ l.1 ≤ 23) ∧ (0 ≤ l.2.1 ∧ l.2.1 ≤ 59) ∧ (0 ≤ l.2.2.1 ∧ l.2.2.1 ≤ 59) ∧ (0 ≤ l.2.2.2.1 ∧ l.2.2.2.1 ≤ 59)
structure HdrOk (h : Hdr) : Prop where
 rate : h.1 = 3 ∨ h.1 = 5
 lang : h.2.1 = [] ∨ nm h.2.1 = true
 ttl : vld h.2.2.1 = true
 ttlL : h.2.2.1.length ≤ 400
 blocks : 0 ≤ h.2.2.2.1 ∧ h.2.2.2.1 ≤ 99999
 groups : 0 ≤ h.2.2.2.2.1 ∧ h.2.2.2.2.1 ≤ 99999
 start : lblOk h.2.2.2.2.2.1
 first : lblOk h.2.2.2.2.2.2.1
 rows : 0 ≤ h.2.2.2.2.2.2.2.1 ∧ h.2.2.2.2.2.2.2.1 ≤ 99
 cols : 0 ≤ h.2.2.2.2.2.2.2.2 ∧ h.2.2.2.2.2.2.2.2 ≤ 99
 d1 : h.2.2.2.2.2.1.2.2.2.2 = false
 d2 : h.2.2.2.2.2.2.1.2.2.2.2 = false
theorem r03_ok (N : Nat) {r : UInt8} (l : Lbl) (hr : r = 3 ∨ r = 5) : ∃ e, q160 N (r, l) = some e ∧ (e = 0 → lblOk l) := by
 obtain ⟨H, M, S, F, D⟩ := l
 cases D with
 | true =>
  refine ⟨13, ?_, fun h => absurd h (by decide)⟩
  rcases hr with rfl | rfl <;> kernel_rfl
 | false =>
  have e : ∃ n : Int, (n = 25 ∨ n = 30) ∧ q160 N (r, H, M, S, F, false) = cnd (ilt H 0) (some 2) (cnd (ilt 23 H) (some 2) (cnd (ilt M 0) (some 2) (cnd (ilt 59 M) (some 2) (cnd (ilt S 0) (some 2) (cnd (ilt 59 S) (some 2) (cnd (ilt F 0) (some 2) (cnd (ile n F) (some 2) (some 0)))))))) := by
   rcases hr with rfl | rfl
   ·exact ⟨25, .inl rfl, by kernel_rfl⟩
   ·exact ⟨30, .inr rfl, by kernel_rfl⟩
  obtain ⟨n, hn, e⟩ := e
  rw [e]
  by_cases h1 : H < 0
  ·exact ⟨2, cnd_t (ilt_t h1), fun h => absurd h (by decide)⟩
  rw [cnd_f (ilt_f h1)]
  by_cases h2 : 23 < H
  ·exact ⟨2, cnd_t (ilt_t h2), fun h => absurd h (by decide)⟩
  rw [cnd_f (ilt_f h2)]
  by_cases h3 : M < 0
  ·exact ⟨2, cnd_t (ilt_t h3), fun h => absurd h (by decide)⟩
  rw [cnd_f (ilt_f h3)]
  by_cases h4 : 59 < M
  ·exact ⟨2, cnd_t (ilt_t h4), fun h => absurd h (by decide)⟩
  rw [cnd_f (ilt_f h4)]
  by_cases h5 : S < 0
  ·exact ⟨2, cnd_t (ilt_t h5), fun h => absurd h (by decide)⟩
  rw [cnd_f (ilt_f h5)]
  by_cases h6 : 59 < S
  ·exact ⟨2, cnd_t (ilt_t h6), fun h => absurd h (by decide)⟩
  rw [cnd_f (ilt_f h6)]
  by_cases h7 : F < 0
  ·exact ⟨2, cnd_t (ilt_t h7), fun h => absurd h (by decide)⟩
  rw [cnd_f (ilt_f h7)]
  by_cases h8 : n ≤ F
  ·exact ⟨2, cnd_t (ile_t h8), fun h => absurd h (by decide)⟩
  rw [cnd_f (ile_f h8)]
  exact ⟨0, rfl, fun _ => ⟨⟨by show 0 ≤ H; omega, by show H ≤ 23; omega⟩, ⟨by show 0 ≤ M; omega, by show M ≤ 59; omega⟩, ⟨by show 0 ≤ S; omega, by show S ≤ 59; omega⟩, ⟨by show 0 ≤ F; omega, by show F ≤ 59; omega⟩⟩⟩
noncomputable def ckC (h : Hdr) : Option Int :=
 bnd (q155 fuelH (h.2.2.2.1, (0 : Int), (99999 : Int))) fun v3 =>
 cnd (bnot v3) (some (2 : Int))
  (bnd (q155 fuelH (h.2.2.2.2.1, (0 : Int), (99999 : Int))) fun v4 =>
  cnd (bnot v4) (some (2 : Int))
   (bnd (q155 fuelH (h.2.2.2.2.2.2.2.1, (0 : Int), (99 : Int))) fun v5 =>
   cnd (bnot v5) (some (2 : Int))
    (bnd (q155 fuelH (h.2.2.2.2.2.2.2.2, (0 : Int), (99 : Int))) fun v6 =>
    cnd (bnot v6) (some (2 : Int))
     (cnd (ilt h.2.2.2.1 h.2.2.2.2.1) (some (8 : Int))
      (bnd (q160 fuelH (h.1, h.2.2.2.2.2.1)) fun v7 =>
      cnd (ine v7 (0 : Int)) (some v7)
       (bnd (q160 fuelH (h.1, h.2.2.2.2.2.2.1)) fun v8 =>
       cnd (ine v8 (0 : Int)) (some v8)
        (cnd h.2.2.2.2.2.1.2.2.2.2 (some (13 : Int))
         (cnd h.2.2.2.2.2.2.1.2.2.2.2 (some (13 : Int)) (some (0 : Int))))))))))
noncomputable def ckB (h : Hdr) (v1 : Bool) : Option Int :=
 cnd v1 (some (5 : Int))
  (bnd (q154 fuelH h.2.2.1) fun v2 => cnd (bnot v2) (some (10 : Int)) (cnd (ilt (400 : Int) (len h.2.2.1)) (some (9 : Int)) (ckC h)))
noncomputable def ckA (h : Hdr) (v0 : Bool) : Option Int :=
 cnd v0 (some (13 : Int)) (cnd (sne h.2.1 ([] : List UInt8)) (bnd (r07_Name fuelH h.2.1) fun v10 => ckB h (bnot v10)) (ckB h false))
theorem ck_eq (h : Hdr) : q161 fuelH h = cnd (ine (n8 h.1) (n8 (3 : UInt8))) (ckA h (ine (n8 h.1) (n8 (5 : UInt8)))) (ckA h false) := by kernel_rfl
theorem check_ok {h : Hdr} (h2 : h.2.2.1.length ≤ 4000000) : ∃ e, q161 fuelH h = some e ∧ (e = 0 → HdrOk h) := by
 rw [ck_eq]
 by_cases hr : h.1 = 3 ∨ h.1 = 5
 ·have ea : cnd (ine (n8 h.1) (n8 (3 : UInt8))) (ckA h (ine (n8 h.1) (n8 (5 : UInt8)))) (ckA h false) = ckA h false := by
   rcases hr with hr | hr
   ·rw [hr]; rfl
   ·rw [hr]; rfl
  rw [ea]
  have eb : ∃ b : Bool, ckA h false = ckB h b ∧ (b = false → h.2.1 = [] ∨ nm h.2.1 = true) := by
   unfold ckA
   rw [cnd_f rfl]
   by_cases hl : h.2.1 = []
   ·exact ⟨false, cnd_f (by simp [sne, hl]), fun _ => .inl hl⟩
   ·refine ⟨bnot (nm h.2.1), ?_, fun hb => .inr (by cases hq : nm h.2.1 <;> simp_all [bnot])⟩
    rw [cnd_t (by simp [sne, hl]), bnd_s (r07_name h.2.1)]
  obtain ⟨b, eb, hb⟩ := eb
  rw [eb]
  unfold ckB
  cases b with
  | true => exact ⟨5, rfl, fun h => absurd h (by decide)⟩
  | false =>
   rw [cnd_f rfl, bnd_s (r08_valid _ h2)]
   cases hv : vld h.2.2.1 with
   | false => exact ⟨10, rfl, fun h => absurd h (by decide)⟩
   | true =>
    rw [cnd_f (by rfl)]
    by_cases hL : (400 : Int) < len h.2.2.1
    ·exact ⟨9, cnd_t (ilt_t hL), fun h => absurd h (by decide)⟩
    rw [cnd_f (ilt_f hL)]
    unfold ckC
    rw [within_eq, bnd_some', cnd_bnot]
    by_cases q1 : 0 ≤ h.2.2.2.1 ∧ h.2.2.2.1 ≤ 99999
    case neg => exact ⟨2, if_neg q1, fun h => absurd h (by decide)⟩
    rw [if_pos q1, within_eq, bnd_some', cnd_bnot]
    by_cases q2 : 0 ≤ h.2.2.2.2.1 ∧ h.2.2.2.2.1 ≤ 99999
    case neg => exact ⟨2, if_neg q2, fun h => absurd h (by decide)⟩
    rw [if_pos q2, within_eq, bnd_some', cnd_bnot]
    by_cases q3 : 0 ≤ h.2.2.2.2.2.2.2.1 ∧ h.2.2.2.2.2.2.2.1 ≤ 99
    case neg => exact ⟨2, if_neg q3, fun h => absurd h (by decide)⟩
    rw [if_pos q3, within_eq, bnd_some', cnd_bnot]
    by_cases q4 : 0 ≤ h.2.2.2.2.2.2.2.2 ∧ h.2.2.2.2.2.2.2.2 ≤ 99
    case neg => exact ⟨2, if_neg q4, fun h => absurd h (by decide)⟩
    rw [if_pos q4, cnd_ilt]
    by_cases q5 : h.2.2.2.1 < h.2.2.2.2.1
    ·exact ⟨8, if_pos q5, fun h => absurd h (by decide)⟩
    rw [if_neg q5]
    obtain ⟨e1, f1, g1⟩ := r03_ok fuelH h.2.2.2.2.2.1 hr
    obtain ⟨e2, f2, g2⟩ := r03_ok fuelH h.2.2.2.2.2.2.1 hr
    rw [bnd_s f1, cnd_ine]
    by_cases z1 : e1 = 0
    case neg => exact ⟨e1, if_pos z1, fun h => absurd h z1⟩
    rw [if_neg (by simp [z1]), bnd_s f2, cnd_ine]
    by_cases z2 : e2 = 0
    case neg => exact ⟨e2, if_pos z2, fun h => absurd h z2⟩
    rw [if_neg (by simp [z2])]
    cases d1 : h.2.2.2.2.2.1.2.2.2.2 with
    | true => exact ⟨13, rfl, fun h => absurd h (by decide)⟩
    | false =>
     cases d2 : h.2.2.2.2.2.2.1.2.2.2.2 with
     | true => exact ⟨13, rfl, fun h => absurd h (by decide)⟩
     | false => exact ⟨0, rfl, fun _ => ⟨hr, hb rfl, hv, by simp only [len] at hL; omega, q1, q2, g1 z1, g2 z2, q3, q4, d1, d2⟩⟩
 ·have h3 : n8 h.1 ≠ n8 (3 : UInt8) := fun e => hr (.inl (n8_inj e))
  have h5 : n8 h.1 ≠ n8 (5 : UInt8) := fun e => hr (.inr (n8_inj e))
  refine ⟨13, ?_, fun h => absurd h (by decide)⟩
  rw [cnd_t (ine_t h3), ine_t h5]
  rfl
theorem lang_len {h : Hdr} (H : HdrOk h) : h.2.1.length ≤ 16 := by
 rcases H.lang with e | e
 ·rw [e]; decide
 ·simp only [nm, Bool.and_eq_true, decide_eq_true_eq] at e
  exact e.1.1.2
end
end Go.Mo
end
