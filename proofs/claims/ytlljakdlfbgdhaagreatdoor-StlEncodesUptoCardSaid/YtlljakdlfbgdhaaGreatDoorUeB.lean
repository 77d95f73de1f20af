/-
  Texts put together, in build order: WXb WXc WXd WXe WXf WK PA PB PC PD PE PF PG PHa PHb PHc PHd PMa PPa PFs QA QB QC QD QE QF QG RA RB RC RD RE RF RG RH.
-/
import Derived.Test.YtlljakdlfbgdhaaGreatDoorUeA
import Derived.KernelRfl
import Derived.Lib.ValidLaws
import Derived.Lib.TrimUEq
import Derived.Lib.MapLaws
import Derived.Test.YtlljakdlfbgdhaaGreatDoorZC
import Derived.Lib.IndexMore
set_option linter.all false

section
/-
  The functions do what their models say. Printed by a program.
-/
namespace Go.Mo
open Go Go.W Go.Proofs
noncomputable section
set_option maxRecDepth 100000
def a_stl_place_region : Ann := (.sq .lf (.sq .lf (.jn ⟨[1, 2], [4, 2], [.s 3], [.v (.str) []]⟩ .lf .lf)))
theorem x_stl_place_region (N : Nat) : execF E [⟨82, ps_lines_Decimal, rs_lines_Decimal, lines_Decimal N⟩] N Tryz.f34 a_stl_place_region ps_stl_place_region rs_stl_place_region = stl_place_region N := by kernel_rfl
def a_stl_add : Ann := (.sq .lf (.sq .lf (.jn ⟨[0, 3], [2], [.s 5], [.v (.int .i64) []]⟩ (.lp ⟨[0, 3], [2], [.s 5], [.v (.int .i64) []]⟩ .lf) (.jn ⟨[0, 3, 5], [2], [], []⟩ .lf .lf))))
theorem x_stl_add (N : Nat) : execF E [] N Tryz.f32 a_stl_add ps_stl_add rs_stl_add = stl_add N := by kernel_rfl
def a_style_norm : Ann := (.sq .lf (.sq .lf (.jn ⟨[2, 3], [2], [.o 4], [.b 48 (.st (.slice (.st (.pair (.str) (.pair (.st (.pair (.u8) (.pair (.bool) (.bool)))) (.str)))))) [0]]⟩ (.sq .lf (.lp ⟨[2, 3, 7, 8], [2], [.s 9, .o 4], [.v (.int .i64) [], .b 48 (.st (.slice (.st (.pair (.str) (.pair (.st (.pair (.u8) (.pair (.bool) (.bool)))) (.str)))))) [0]]⟩ .lf)) .lf)))
theorem x_style_norm (N : Nat) : execF E [⟨110, ps_style_alike, rs_style_alike, style_alike N⟩] N Tryz.f64 a_style_norm ps_style_norm rs_style_norm = style_norm N := by kernel_rfl
def a_style_Norm : Ann := .lf
theorem x_style_Norm (N : Nat) : execF E [⟨64, ps_style_norm, rs_style_norm, style_norm N⟩] N Tryz.f26 a_style_Norm ps_style_Norm rs_style_Norm = style_Norm N := by kernel_rfl
def a_stl_bare : Ann := (.sq .lf (.sq .lf (.jn ⟨[], [], [.s 3], [.v (.slice (.st (.slice (.st (.pair (.str) (.pair (.st (.pair (.u8) (.pair (.bool) (.bool)))) (.str))))))) [0]]⟩ (.sq .lf (.lp ⟨[9, 10], [], [.s 3, .s 11], [.v (.slice (.st (.slice (.st (.pair (.str) (.pair (.st (.pair (.u8) (.pair (.bool) (.bool)))) (.str))))))) [0], .v (.int .i64) []]⟩ (.sq .lf (.sq .lf (.jn ⟨[9, 10, 11], [], [.s 3], [.v (.slice (.st (.slice (.st (.pair (.str) (.pair (.st (.pair (.u8) (.pair (.bool) (.bool)))) (.str))))))) [0]]⟩ (.sq .lf (.sq .lf (.jn ⟨[3, 6, 9, 10, 11], [7], [.o 15], [.b 48 (.st (.slice (.st (.pair (.str) (.pair (.st (.pair (.u8) (.pair (.bool) (.bool)))) (.str)))))) [0]]⟩ (.sq .lf (.lp ⟨[3, 6, 9, 10, 11, 16, 17], [7], [.s 18, .o 15], [.v (.int .i64) [], .b 48 (.st (.slice (.st (.pair (.str) (.pair (.st (.pair (.u8) (.pair (.bool) (.bool)))) (.str)))))) [0]]⟩ .lf)) .lf))) .lf))))) .lf)))
theorem x_stl_bare (N : Nat) : execF E [⟨26, ps_style_Norm, rs_style_Norm, style_Norm N⟩] N Tryz.f45 a_stl_bare ps_stl_bare rs_stl_bare = stl_bare N := by kernel_rfl
def a_stl_Reduce : Ann := (.sq .lf (.sq .lf (.sq .lf (.jn ⟨[2, 3], [4], [.o 21], [.b 27 (.st (.pair (.str) (.pair (.str) (.pair (.u8) (.pair (.bool) (.pair (.int .i64) (.pair (.slice (.st (.pair (.str) (.pair (.int .i64) (.pair (.int .i64) (.pair (.int .i64) (.pair (.int .i64) (.pair (.u8) (.bool))))))))) (.pair (.slice (.st (.pair (.int .i64) (.pair (.st (.pair (.int .i64) (.int .i64))) (.pair (.str) (.pair (.u8) (.pair (.str) (.slice (.st (.slice (.st (.pair (.str) (.pair (.st (.pair (.u8) (.pair (.bool) (.bool)))) (.str)))))))))))))) (.slice (.st (.pair (.int .i64) (.pair (.int .i64) (.pair (.int .i64) (.pair (.int .i64) (.pair (.str) (.pair (.str) (.pair (.bool) (.bool)))))))))))))))))) [6, 7]]⟩ (.sq .lf (.lp ⟨[1, 2, 3, 24, 25], [4, 2], [.s 26, .o 21], [.v (.int .i64) [], .b 27 (.st (.pair (.str) (.pair (.str) (.pair (.u8) (.pair (.bool) (.pair (.int .i64) (.pair (.slice (.st (.pair (.str) (.pair (.int .i64) (.pair (.int .i64) (.pair (.int .i64) (.pair (.int .i64) (.pair (.u8) (.bool))))))))) (.pair (.slice (.st (.pair (.int .i64) (.pair (.st (.pair (.int .i64) (.int .i64))) (.pair (.str) (.pair (.u8) (.pair (.str) (.slice (.st (.slice (.st (.pair (.str) (.pair (.st (.pair (.u8) (.pair (.bool) (.bool)))) (.str)))))))))))))) (.slice (.st (.pair (.int .i64) (.pair (.int .i64) (.pair (.int .i64) (.pair (.int .i64) (.pair (.str) (.pair (.str) (.pair (.bool) (.bool)))))))))))))))))) [6, 7]]⟩ .lf)) .lf))))
theorem x_stl_Reduce (N : Nat) : execF E [⟨18, ps_document_Check, rs_document_Check, document_Check N⟩, ⟨33, ps_stl_placed, rs_stl_placed, stl_placed N⟩, ⟨34, ps_stl_place_region, rs_stl_place_region, stl_place_region N⟩, ⟨32, ps_stl_add, rs_stl_add, stl_add N⟩, ⟨45, ps_stl_bare, rs_stl_bare, stl_bare N⟩] N Tryz.f16 a_stl_Reduce ps_stl_Reduce rs_stl_Reduce = stl_Reduce N := by kernel_rfl
def a_l24_awake : Ann := .lf
theorem x_l24_awake (N : Nat) : execF E [⟨20, ps_stl_Text, rs_stl_Text, stl_Text N⟩, ⟨24, ps_slices_Equal_Lbyte_byte, rs_slices_Equal_Lbyte_byte, slices_Equal_Lbyte_byte N⟩, ⟨16, ps_stl_Reduce, rs_stl_Reduce, stl_Reduce N⟩] N Tryz.f11 a_l24_awake ps_l24_awake rs_l24_awake = l24_awake N := by kernel_rfl
def a_l24_few : Ann := .lf
theorem x_l24_few (N : Nat) : execF E [] N Tryz.f12 a_l24_few ps_l24_few rs_l24_few = l24_few N := by kernel_rfl
def a_timecode_rateError : Ann := .lf
theorem x_timecode_rateError (N : Nat) : execF E [⟨146, ps_timebase_Valid, rs_timebase_Valid, timebase_Valid N⟩, ⟨147, ps_timebase_CanDrop, rs_timebase_CanDrop, timebase_CanDrop N⟩] N Tryz.f77 a_timecode_rateError ps_timecode_rateError rs_timecode_rateError = timecode_rateError N := by kernel_rfl
def a_timebase_Nominal : Ann := .lf
theorem x_timebase_Nominal (N : Nat) : execF E [⟨148, ps_timebase_of, rs_timebase_of, timebase_of N⟩] N Tryz.f78 a_timebase_Nominal ps_timebase_Nominal rs_timebase_Nominal = timebase_Nominal N := by kernel_rfl
def a_timecode_dropped : Ann := .lf
theorem x_timecode_dropped (N : Nat) : execF E [] N Tryz.f79 a_timecode_dropped ps_timecode_dropped rs_timecode_dropped = timecode_dropped N := by kernel_rfl
def a_timecode_Day : Ann := .lf
theorem x_timecode_Day (N : Nat) : execF E [⟨77, ps_timecode_rateError, rs_timecode_rateError, timecode_rateError N⟩, ⟨78, ps_timebase_Nominal, rs_timebase_Nominal, timebase_Nominal N⟩, ⟨79, ps_timecode_dropped, rs_timecode_dropped, timecode_dropped N⟩] N Tryz.f31 a_timecode_Day ps_timecode_Day rs_timecode_Day = timecode_Day N := by kernel_rfl
def a_stl_Accept : Ann := (.sq .lf (.sq .lf (.jn ⟨[1], [2], [], []⟩ .lf (.sq .lf (.jn ⟨[], [], [], []⟩ (.sq .lf (.lp ⟨[1, 22, 23], [2], [.s 5, .s 24], [.v (.slice (.st (.pair (.str) (.pair (.int .i64) (.pair (.int .i64) (.pair (.int .i64) (.pair (.int .i64) (.pair (.u8) (.bool))))))))) [], .v (.int .i64) []]⟩ .lf)) .lf)))))
theorem x_stl_Accept (N : Nat) : execF E [⟨18, ps_document_Check, rs_document_Check, document_Check N⟩, ⟨31, ps_timecode_Day, rs_timecode_Day, timecode_Day N⟩, ⟨33, ps_stl_placed, rs_stl_placed, stl_placed N⟩, ⟨34, ps_stl_place_region, rs_stl_place_region, stl_place_region N⟩, ⟨32, ps_stl_add, rs_stl_add, stl_add N⟩] N Tryz.f13 a_stl_Accept ps_stl_Accept rs_stl_Accept = stl_Accept N := by kernel_rfl
def a_timecode_Label : Ann := (.sq .lf (.sq .lf (.sq .lf (.sq .lf (.sq .lf (.sq .lf (.sq .lf (.jn ⟨[1, 6, 9], [2], [.s 14], [.v (.int .i64) []]⟩ .lf .lf))))))))
theorem x_timecode_Label (N : Nat) : execF E [⟨77, ps_timecode_rateError, rs_timecode_rateError, timecode_rateError N⟩, ⟨31, ps_timecode_Day, rs_timecode_Day, timecode_Day N⟩, ⟨78, ps_timebase_Nominal, rs_timebase_Nominal, timebase_Nominal N⟩, ⟨79, ps_timecode_dropped, rs_timecode_dropped, timecode_dropped N⟩] N Tryz.f65 a_timecode_Label ps_timecode_Label rs_timecode_Label = timecode_Label N := by kernel_rfl
def a_tape_timed : Ann := .lf
theorem x_tape_timed (N : Nat) : execF E [] N Tryz.f179 a_tape_timed ps_tape_timed rs_tape_timed = tape_timed N := by kernel_rfl

def a_bytes_IndexByte : Ann := .lf
theorem x_bytes_IndexByte (N : Nat) : execF E [⟨180, ps_bytealg_IndexByte, rs_bytealg_IndexByte, bytealg_IndexByte N⟩] N Tryz.f125 a_bytes_IndexByte ps_bytes_IndexByte rs_bytes_IndexByte = bytes_IndexByte N := by kernel_rfl
def a_tape_Check : Ann := (.sq .lf (.sq (.sq .lf (.sq .lf (.jn ⟨[1], [2], [.s 22], [.v (.bool) []]⟩ .lf .lf))) .lf))
theorem x_tape_Check (N : Nat) : execF E [⟨179, ps_tape_timed, rs_tape_timed, tape_timed N⟩, ⟨125, ps_bytes_IndexByte, rs_bytes_IndexByte, bytes_IndexByte N⟩] N Tryz.f124 a_tape_Check ps_tape_Check rs_tape_Check = tape_Check N := by kernel_rfl
def a_bytes_Clone : Ann := .lf
theorem x_bytes_Clone (N : Nat) : execF E [] N Tryz.f126 a_bytes_Clone ps_bytes_Clone rs_bytes_Clone = bytes_Clone N := by kernel_rfl
def a_tape_Split : Ann := (.sq .lf (.sq .lf (.sq .lf (.sq .lf (.sq .lf (.sq .lf (.sq .lf (.jn ⟨[], [], [.s 8], [.v (.slice (.st (.pair (.int .i64) (.pair (.int .i64) (.pair (.u8) (.pair (.u8) (.pair (.st (.pair (.int .i64) (.pair (.int .i64) (.pair (.int .i64) (.pair (.int .i64) (.bool)))))) (.pair (.st (.pair (.int .i64) (.pair (.int .i64) (.pair (.int .i64) (.pair (.int .i64) (.bool)))))) (.pair (.int .i64) (.pair (.u8) (.pair (.bool) (.slice (.u8))))))))))))) [0]]⟩ (.sq .lf (.lp ⟨[1, 2, 7, 29], [2], [.s 8, .s 30], [.v (.slice (.st (.pair (.int .i64) (.pair (.int .i64) (.pair (.u8) (.pair (.u8) (.pair (.st (.pair (.int .i64) (.pair (.int .i64) (.pair (.int .i64) (.pair (.int .i64) (.bool)))))) (.pair (.st (.pair (.int .i64) (.pair (.int .i64) (.pair (.int .i64) (.pair (.int .i64) (.bool)))))) (.pair (.int .i64) (.pair (.u8) (.pair (.bool) (.slice (.u8))))))))))))) [0], .v (.int .i64) []]⟩ (.sq .lf (.sq .lf (.sq (.sq .lf (.sq .lf (.sq .lf (.jn ⟨[1, 2, 7, 8, 9, 10, 29, 30], [30, 2], [.o 36], [.b 111 (.st (.pair (.int .i64) (.pair (.int .i64) (.pair (.u8) (.pair (.u8) (.pair (.st (.pair (.int .i64) (.pair (.int .i64) (.pair (.int .i64) (.pair (.int .i64) (.bool)))))) (.pair (.st (.pair (.int .i64) (.pair (.int .i64) (.pair (.int .i64) (.pair (.int .i64) (.bool)))))) (.pair (.int .i64) (.pair (.u8) (.pair (.bool) (.slice (.u8)))))))))))) [17]]⟩ .lf .lf)))) .lf))))) .lf))))))))
theorem x_tape_Split (N : Nat) : execF E [⟨124, ps_tape_Check, rs_tape_Check, tape_Check N⟩, ⟨125, ps_bytes_IndexByte, rs_bytes_IndexByte, bytes_IndexByte N⟩, ⟨126, ps_bytes_Clone, rs_bytes_Clone, bytes_Clone N⟩] N Tryz.f66 a_tape_Split ps_tape_Split rs_tape_Split = tape_Split N := by kernel_rfl
end
end Go.Mo
end

section
/-
  The functions do what their models say. Printed by a program.
-/
namespace Go.Mo
open Go Go.W Go.Proofs
noncomputable section
set_option maxRecDepth 100000
def a_timecode_Check : Ann := .lf
theorem x_timecode_Check (N : Nat) : execF E [⟨77, ps_timecode_rateError, rs_timecode_rateError, timecode_rateError N⟩, ⟨78, ps_timebase_Nominal, rs_timebase_Nominal, timebase_Nominal N⟩, ⟨79, ps_timecode_dropped, rs_timecode_dropped, timecode_dropped N⟩] N Tryz.f200 a_timecode_Check ps_timecode_Check rs_timecode_Check = timecode_Check N := by kernel_rfl
def a_tape_CheckHeader : Ann := (.sq .lf (.sq (.jn ⟨[1], [2], [.s 6], [.v (.bool) []]⟩ .lf (.sq .lf (.jn ⟨[1], [2], [.s 15], [.v (.bool) []]⟩ .lf .lf))) (.jn ⟨[1], [2], [], []⟩ (.sq .lf (.lp ⟨[1, 84], [2], [.s 85], [.v (.int .i64) []]⟩ .lf)) .lf)))
theorem x_tape_CheckHeader (N : Nat) : execF E [⟨98, ps_lines_Name, rs_lines_Name, lines_Name N⟩, ⟨97, ps_charset_Valid, rs_charset_Valid, charset_Valid N⟩, ⟨200, ps_timecode_Check, rs_timecode_Check, timecode_Check N⟩] N Tryz.f181 a_tape_CheckHeader ps_tape_CheckHeader rs_tape_CheckHeader = tape_CheckHeader N := by kernel_rfl
def a_bits_Mul32 : Ann := .lf
theorem x_bits_Mul32 (N : Nat) : execF E [] N Tryz.f246 a_bits_Mul32 ps_bits_Mul32 rs_bits_Mul32 = bits_Mul32 N := by kernel_rfl
def a_bits_Mul64 : Ann := .lf
theorem x_bits_Mul64 (N : Nat) : execF E [] N Tryz.f247 a_bits_Mul64 ps_bits_Mul64 rs_bits_Mul64 = bits_Mul64 N := by kernel_rfl
def a_bits_Mul : Ann := .lf
theorem x_bits_Mul (N : Nat) : execF E [⟨246, ps_bits_Mul32, rs_bits_Mul32, bits_Mul32 N⟩, ⟨247, ps_bits_Mul64, rs_bits_Mul64, bits_Mul64 N⟩] N Tryz.f224 a_bits_Mul ps_bits_Mul rs_bits_Mul = bits_Mul N := by kernel_rfl
def a_bytes_Repeat : Ann := (.sq .lf (.sq .lf (.sq .lf (.sq .lf (.sq .lf (.sq .lf (.sq .lf (.sq .lf (.jn ⟨[0, 7], [], [.s 8], [.v (.int .i64) []]⟩ .lf (.sq .lf (.sq .lf (.jn ⟨[9], [], [.o 36], [.r 40 (.u8)]⟩ (.lp ⟨[7, 8, 9], [], [.s 10, .o 36], [.v (.int .i64) [], .r 40 (.u8)]⟩ .lf) .lf))))))))))))
theorem x_bytes_Repeat (N : Nat) : execF E [⟨224, ps_bits_Mul, rs_bits_Mul, bits_Mul N⟩] N Tryz.f182 a_bytes_Repeat ps_bytes_Repeat rs_bytes_Repeat = bytes_Repeat N := by kernel_rfl
def a_tape_signature : Ann := .lf
theorem x_tape_signature (N : Nat) : execF E [] N Tryz.f183 a_tape_signature ps_tape_signature rs_tape_signature = tape_signature N := by kernel_rfl
def a_tape_digits : Ann := (.sq .lf (.sq .lf (.jn ⟨[5], [], [.o 4], [.r 4 (.u8)]⟩ (.sq .lf (.lp ⟨[5], [], [.s 0, .s 6, .o 4], [.v (.int .i64) [], .v (.int .i64) [], .r 4 (.u8)]⟩ .lf)) .lf)))
theorem x_tape_digits (N : Nat) : execF E [] N Tryz.f184 a_tape_digits ps_tape_digits rs_tape_digits = tape_digits N := by kernel_rfl
def a_tape_clock : Ann := .lf
theorem x_tape_clock (N : Nat) : execF E [⟨184, ps_tape_digits, rs_tape_digits, tape_digits N⟩] N Tryz.f185 a_tape_clock ps_tape_clock rs_tape_clock = tape_clock N := by kernel_rfl
def a_tape_PutHeader : Ann := .lf
theorem x_tape_PutHeader (N : Nat) : execF E [⟨181, ps_tape_CheckHeader, rs_tape_CheckHeader, tape_CheckHeader N⟩, ⟨56, ps_latin_Encode, rs_latin_Encode, latin_Encode N⟩, ⟨182, ps_bytes_Repeat, rs_bytes_Repeat, bytes_Repeat N⟩, ⟨183, ps_tape_signature, rs_tape_signature, tape_signature N⟩, ⟨184, ps_tape_digits, rs_tape_digits, tape_digits N⟩, ⟨185, ps_tape_clock, rs_tape_clock, tape_clock N⟩] N Tryz.f127 a_tape_PutHeader ps_tape_PutHeader rs_tape_PutHeader = tape_PutHeader N := by kernel_rfl
def a_tape_Put : Ann := (.sq .lf (.sq .lf (.sq .lf (.jn ⟨[1], [2], [.s 5], [.v (.u8) []]⟩ .lf .lf))))
theorem x_tape_Put (N : Nat) : execF E [⟨124, ps_tape_Check, rs_tape_Check, tape_Check N⟩, ⟨182, ps_bytes_Repeat, rs_bytes_Repeat, bytes_Repeat N⟩] N Tryz.f128 a_tape_Put ps_tape_Put rs_tape_Put = tape_Put N := by kernel_rfl
def a_tape_Write : Ann := (.sq .lf (.sq .lf (.sq .lf (.sq .lf (.jn ⟨[], [], [.s 6], [.v (.slice (.u8)) [0]]⟩ (.sq .lf (.lp ⟨[25, 26], [], [.s 6, .s 27], [.v (.slice (.u8)) [0], .v (.int .i64) []]⟩ .lf)) .lf)))))
theorem x_tape_Write (N : Nat) : execF E [⟨127, ps_tape_PutHeader, rs_tape_PutHeader, tape_PutHeader N⟩, ⟨128, ps_tape_Put, rs_tape_Put, tape_Put N⟩] N Tryz.f67 a_tape_Write ps_tape_Write rs_tape_Write = tape_Write N := by kernel_rfl
end
end Go.Mo
end

section
/-
  The functions do what their models say. Printed by a program.
-/
namespace Go.Mo
open Go Go.W Go.Proofs
noncomputable section
set_option maxRecDepth 100000
def a_stl_Encode : Ann := (.sq .lf (.sq .lf (.sq .lf (.sq .lf (.jn ⟨[6], [], [.s 7, .o 25], [.v (.slice (.st (.pair (.int .i64) (.pair (.int .i64) (.pair (.u8) (.pair (.u8) (.pair (.st (.pair (.int .i64) (.pair (.int .i64) (.pair (.int .i64) (.pair (.int .i64) (.bool)))))) (.pair (.st (.pair (.int .i64) (.pair (.int .i64) (.pair (.int .i64) (.pair (.int .i64) (.bool)))))) (.pair (.int .i64) (.pair (.u8) (.pair (.bool) (.slice (.u8))))))))))))) [0], .b 108 (.st (.pair (.u8) (.pair (.str) (.pair (.str) (.pair (.int .i64) (.pair (.int .i64) (.pair (.st (.pair (.int .i64) (.pair (.int .i64) (.pair (.int .i64) (.pair (.int .i64) (.bool)))))) (.pair (.st (.pair (.int .i64) (.pair (.int .i64) (.pair (.int .i64) (.pair (.int .i64) (.bool)))))) (.pair (.int .i64) (.int .i64)))))))))) []]⟩ (.sq .lf (.lp ⟨[1, 6, 35, 36], [2], [.s 7, .s 37, .o 25], [.v (.slice (.st (.pair (.int .i64) (.pair (.int .i64) (.pair (.u8) (.pair (.u8) (.pair (.st (.pair (.int .i64) (.pair (.int .i64) (.pair (.int .i64) (.pair (.int .i64) (.bool)))))) (.pair (.st (.pair (.int .i64) (.pair (.int .i64) (.pair (.int .i64) (.pair (.int .i64) (.bool)))))) (.pair (.int .i64) (.pair (.u8) (.pair (.bool) (.slice (.u8))))))))))))) [0], .v (.int .i64) [], .b 108 (.st (.pair (.u8) (.pair (.str) (.pair (.str) (.pair (.int .i64) (.pair (.int .i64) (.pair (.st (.pair (.int .i64) (.pair (.int .i64) (.pair (.int .i64) (.pair (.int .i64) (.bool)))))) (.pair (.st (.pair (.int .i64) (.pair (.int .i64) (.pair (.int .i64) (.pair (.int .i64) (.bool)))))) (.pair (.int .i64) (.int .i64)))))))))) []]⟩ (.sq .lf (.sq .lf (.sq (.sq .lf (.sq .lf (.sq .lf (.sq .lf (.sq .lf (.jn ⟨[1, 6, 7, 9, 11, 35, 36, 37], [55, 39, 33, 2], [.o 25], [.b 108 (.st (.pair (.u8) (.pair (.str) (.pair (.str) (.pair (.int .i64) (.pair (.int .i64) (.pair (.st (.pair (.int .i64) (.pair (.int .i64) (.pair (.int .i64) (.pair (.int .i64) (.bool)))))) (.pair (.st (.pair (.int .i64) (.pair (.int .i64) (.pair (.int .i64) (.pair (.int .i64) (.bool)))))) (.pair (.int .i64) (.int .i64)))))))))) []]⟩ .lf .lf)))))) .lf))))) .lf)))))
theorem x_stl_Encode (N : Nat) : execF E [⟨13, ps_stl_Accept, rs_stl_Accept, stl_Accept N⟩, ⟨33, ps_stl_placed, rs_stl_placed, stl_placed N⟩, ⟨65, ps_timecode_Label, rs_timecode_Label, timecode_Label N⟩, ⟨20, ps_stl_Text, rs_stl_Text, stl_Text N⟩, ⟨66, ps_tape_Split, rs_tape_Split, tape_Split N⟩, ⟨67, ps_tape_Write, rs_tape_Write, tape_Write N⟩] N Tryz.f27 a_stl_Encode ps_stl_Encode rs_stl_Encode = stl_Encode N := by kernel_rfl
def a_r08_Repertoire : Ann := .lf
theorem x_r08_Repertoire (N : Nat) : execF E [] N Tryz.f221 a_r08_Repertoire ps_r08_Repertoire rs_r08_Repertoire = r08_Repertoire N := by kernel_rfl
def a_r08_Index : Ann := (.sq .lf (.jn ⟨[0], [], [], []⟩ .lf (.sq .lf (.jn ⟨[], [], [], []⟩ (.sq .lf (.lp ⟨[0, 16], [], [.s 3, .o 6], [.v (.int .i64) [], .i]⟩ .lf)) .lf))))
theorem x_r08_Index (N : Nat) : execF E [⟨221, ps_r08_Repertoire, rs_r08_Repertoire, r08_Repertoire N⟩] N Tryz.f173 a_r08_Index ps_r08_Index rs_r08_Index = r08_Index N := by kernel_rfl
def a_r08_Valid : Ann := (.sq .lf (.jn ⟨[], [], [], []⟩ (.sq .lf (.lp ⟨[6], [], [.o 4], [.i]⟩ .lf)) .lf))
theorem x_r08_Valid (N : Nat) : execF E [⟨173, ps_r08_Index, rs_r08_Index, r08_Index N⟩] N Tryz.f112 a_r08_Valid ps_r08_Valid rs_r08_Valid = r08_Valid N := by kernel_rfl
def a_r07_digit : Ann := .lf
theorem x_r07_digit (N : Nat) : execF E [] N Tryz.f211 a_r07_digit ps_r07_digit rs_r07_digit = r07_digit N := by kernel_rfl
def a_r07_Name : Ann := (.sq .lf (.sq .lf (.jn ⟨[], [], [], []⟩ (.sq .lf (.lp ⟨[0], [], [.s 3], [.v (.int .i64) []]⟩ (.sq .lf (.sq (.jn ⟨[0, 3], [], [.s 4], [.v (.bool) []]⟩ .lf .lf) .lf)))) .lf)))
theorem x_r07_Name (N : Nat) : execF E [⟨211, ps_r07_digit, rs_r07_digit, r07_digit N⟩] N Tryz.f151 a_r07_Name ps_r07_Name rs_r07_Name = r07_Name N := by kernel_rfl
def a_r02_Valid : Ann := .lf
theorem x_r02_Valid (N : Nat) : execF E [] N Tryz.f89 a_r02_Valid ps_r02_Valid rs_r02_Valid = r02_Valid N := by kernel_rfl
def a_r02_CanDrop : Ann := .lf
theorem x_r02_CanDrop (N : Nat) : execF E [] N Tryz.f90 a_r02_CanDrop ps_r02_CanDrop rs_r02_CanDrop = r02_CanDrop N := by kernel_rfl
def a_r12_checkHead : Ann := (.sq .lf (.sq (.sq .lf (.sq .lf (.sq .lf (.sq .lf (.jn ⟨[1], [2], [.s 13], [.v (.bool) []]⟩ .lf (.sq .lf (.jn ⟨[1], [2], [.s 23], [.v (.bool) []]⟩ .lf .lf))))))) .lf))
theorem x_r12_checkHead (N : Nat) : execF E [⟨112, ps_r08_Valid, rs_r08_Valid, r08_Valid N⟩, ⟨151, ps_r07_Name, rs_r07_Name, r07_Name N⟩, ⟨89, ps_r02_Valid, rs_r02_Valid, r02_Valid N⟩, ⟨90, ps_r02_CanDrop, rs_r02_CanDrop, r02_CanDrop N⟩] N Tryz.f83 a_r12_checkHead ps_r12_checkHead rs_r12_checkHead = r12_checkHead N := by kernel_rfl
def a_r10_Check : Ann := .lf
theorem x_r10_Check (N : Nat) : execF E [⟨151, ps_r07_Name, rs_r07_Name, r07_Name N⟩] N Tryz.f152 a_r10_Check ps_r10_Check rs_r10_Check = r10_Check N := by kernel_rfl
def a_r10_CheckList : Ann := (.sq .lf (.sq .lf (.jn ⟨[], [], [], []⟩ (.sq .lf (.lp ⟨[0, 9, 10], [], [.s 11], [.v (.int .i64) []]⟩ (.sq .lf (.sq .lf (.sq (.sq .lf (.sq .lf (.jn ⟨[0, 3, 4, 9, 10, 11], [14], [], []⟩ .lf .lf))) .lf))))) .lf)))
theorem x_r10_CheckList (N : Nat) : execF E [⟨152, ps_r10_Check, rs_r10_Check, r10_Check N⟩] N Tryz.f84 a_r10_CheckList ps_r10_CheckList rs_r10_CheckList = r10_CheckList N := by kernel_rfl
def a_r11_spanned : Ann := .lf
theorem x_r11_spanned (N : Nat) : execF E [] N Tryz.f153 a_r11_spanned ps_r11_spanned rs_r11_spanned = r11_spanned N := by kernel_rfl
def a_r10_Default : Ann := .lf
theorem x_r10_Default (N : Nat) : execF E [] N Tryz.f159 a_r10_Default ps_r10_Default rs_r10_Default = r10_Default N := by kernel_rfl
def a_r10_Find : Ann := (.sq .lf (.sq .lf (.jn ⟨[4], [2], [], []⟩ (.sq .lf (.lp ⟨[1, 4, 11, 12], [2], [.s 13], [.v (.int .i64) []]⟩ .lf)) .lf)))
theorem x_r10_Find (N : Nat) : execF E [⟨159, ps_r10_Default, rs_r10_Default, r10_Default N⟩] N Tryz.f95 a_r10_Find ps_r10_Find rs_r10_Find = r10_Find N := by kernel_rfl
def a_r09_Valid : Ann := .lf
theorem x_r09_Valid (N : Nat) : execF E [] N Tryz.f113 a_r09_Valid ps_r09_Valid rs_r09_Valid = r09_Valid N := by kernel_rfl
def a_r09_Check : Ann := (.sq .lf (.sq .lf (.jn ⟨[], [], [], []⟩ (.sq .lf (.lp ⟨[1, 10, 11], [2], [.s 12], [.v (.int .i64) []]⟩ .lf)) .lf)))
theorem x_r09_Check (N : Nat) : execF E [⟨112, ps_r08_Valid, rs_r08_Valid, r08_Valid N⟩, ⟨113, ps_r09_Valid, rs_r09_Valid, r09_Valid N⟩] N Tryz.f57 a_r09_Check ps_r09_Check rs_r09_Check = r09_Check N := by kernel_rfl
def a_r09_Plain : Ann := (.sq .lf (.sq .lf (.jn ⟨[], [], [.s 3], [.v (.str) []]⟩ (.sq .lf (.lp ⟨[7, 8], [], [.s 3, .s 9], [.v (.str) [], .v (.int .i64) []]⟩ .lf)) .lf)))
theorem x_r09_Plain (N : Nat) : execF E [] N Tryz.f155 a_r09_Plain ps_r09_Plain rs_r09_Plain = r09_Plain N := by kernel_rfl
def a_r11_neat : Ann := (.sq .lf (.sq .lf (.jn ⟨[], [], [], []⟩ (.sq .lf (.lp ⟨[0], [], [.s 3], [.v (.int .i64) []]⟩ .lf)) .lf)))
theorem x_r11_neat (N : Nat) : execF E [] N Tryz.f154 a_r11_neat ps_r11_neat rs_r11_neat = r11_neat N := by kernel_rfl
def a_r08_runes : Ann := (.sq .lf (.sq .lf (.jn ⟨[], [], [.s 3], [.v (.slice (.int .i32)) [0]]⟩ (.sq .lf (.lp ⟨[7], [], [.s 3, .o 5], [.v (.slice (.int .i32)) [0], .i]⟩ .lf)) .lf)))
theorem x_r08_runes (N : Nat) : execF E [] N Tryz.f222 a_r08_runes ps_r08_runes rs_r08_runes = r08_runes N := by kernel_rfl
def a_r08_Len : Ann := .lf
theorem x_r08_Len (N : Nat) : execF E [⟨112, ps_r08_Valid, rs_r08_Valid, r08_Valid N⟩, ⟨222, ps_r08_runes, rs_r08_runes, r08_runes N⟩] N Tryz.f212 a_r08_Len ps_r08_Len rs_r08_Len = r08_Len N := by kernel_rfl
def a_r09_Len : Ann := (.sq .lf (.sq .lf (.jn ⟨[], [], [.s 3], [.v (.int .i64) []]⟩ (.sq .lf (.lp ⟨[8, 9], [], [.s 3, .s 10], [.v (.int .i64) [], .v (.int .i64) []]⟩ .lf)) .lf)))
theorem x_r09_Len (N : Nat) : execF E [⟨212, ps_r08_Len, rs_r08_Len, r08_Len N⟩] N Tryz.f156 a_r09_Len ps_r09_Len rs_r09_Len = r09_Len N := by kernel_rfl
def a_r10_usable : Ann := .lf
theorem x_r10_usable (N : Nat) : execF E [⟨152, ps_r10_Check, rs_r10_Check, r10_Check N⟩, ⟨159, ps_r10_Default, rs_r10_Default, r10_Default N⟩] N Tryz.f213 a_r10_usable ps_r10_usable rs_r10_usable = r10_usable N := by kernel_rfl
def a_r10_Place : Ann := (.sq .lf (.sq .lf (.sq .lf (.sq .lf (.jn ⟨[], [], [.s 6], [.v (.slice (.st (.pair (.int .i64) (.pair (.int .i64) (.int .i64))))) [0]]⟩ (.sq .lf (.lp ⟨[1, 2, 18, 19], [2], [.s 6, .s 20], [.v (.slice (.st (.pair (.int .i64) (.pair (.int .i64) (.int .i64))))) [0], .v (.int .i64) []]⟩ (.sq .lf (.sq .lf (.sq (.sq .lf (.sq .lf (.sq .lf (.sq .lf (.jn ⟨[1, 2, 6, 8, 9, 18, 19, 20], [18, 2], [.o 40], [.b 134 (.st (.pair (.int .i64) (.pair (.int .i64) (.int .i64)))) []]⟩ .lf .lf))))) .lf))))) .lf)))))
theorem x_r10_Place (N : Nat) : execF E [⟨213, ps_r10_usable, rs_r10_usable, r10_usable N⟩] N Tryz.f157 a_r10_Place ps_r10_Place rs_r10_Place = r10_Place N := by kernel_rfl
def a_r11_Check : Ann := (.sq .lf (.sq .lf (.sq .lf (.sq (.sq .lf (.sq .lf (.sq .lf (.sq .lf (.jn ⟨[2, 5], [33, 2], [.s 46], [.v (.bool) []]⟩ .lf .lf))))) (.sq .lf (.jn ⟨[5], [33], [.s 7], [.v (.slice (.int .i64)) [0]]⟩ (.sq .lf (.lp ⟨[5, 68, 69], [33], [.s 7, .s 70], [.v (.slice (.int .i64)) [0], .v (.int .i64) []]⟩ .lf)) .lf))))))
theorem x_r11_Check (N : Nat) : execF E [⟨153, ps_r11_spanned, rs_r11_spanned, r11_spanned N⟩, ⟨95, ps_r10_Find, rs_r10_Find, r10_Find N⟩, ⟨151, ps_r07_Name, rs_r07_Name, r07_Name N⟩, ⟨57, ps_r09_Check, rs_r09_Check, r09_Check N⟩, ⟨155, ps_r09_Plain, rs_r09_Plain, r09_Plain N⟩, ⟨154, ps_r11_neat, rs_r11_neat, r11_neat N⟩, ⟨156, ps_r09_Len, rs_r09_Len, r09_Len N⟩, ⟨157, ps_r10_Place, rs_r10_Place, r10_Place N⟩] N Tryz.f85 a_r11_Check ps_r11_Check rs_r11_Check = r11_Check N := by kernel_rfl
def a_r11_Less : Ann := .lf
theorem x_r11_Less (N : Nat) : execF E [] N Tryz.f86 a_r11_Less ps_r11_Less rs_r11_Less = r11_Less N := by kernel_rfl
def a_r12_Find : Ann := (.sq .lf (.jn ⟨[], [], [], []⟩ (.sq .lf (.lp ⟨[1, 8, 9], [], [.s 10], [.v (.int .i64) []]⟩ .lf)) .lf))
theorem x_r12_Find (N : Nat) : execF E [] N Tryz.f87 a_r12_Find ps_r12_Find rs_r12_Find = r12_Find N := by kernel_rfl
def a_r11_Len : Ann := (.sq .lf (.sq .lf (.jn ⟨[], [], [.s 3], [.v (.int .i64) []]⟩ (.sq .lf (.lp ⟨[8, 9], [], [.s 3, .s 10], [.v (.int .i64) [], .v (.int .i64) []]⟩ .lf)) .lf)))
theorem x_r11_Len (N : Nat) : execF E [⟨156, ps_r09_Len, rs_r09_Len, r09_Len N⟩] N Tryz.f158 a_r11_Len ps_r11_Len rs_r11_Len = r11_Len N := by kernel_rfl
def a_r12_checkComment : Ann := (.sq .lf (.sq .lf (.sq .lf (.jn ⟨[2, 5], [10, 2], [], []⟩ .lf (.sq .lf (.sq .lf (.jn ⟨[5], [10], [], []⟩ .lf .lf)))))))
theorem x_r12_checkComment (N : Nat) : execF E [⟨87, ps_r12_Find, rs_r12_Find, r12_Find N⟩, ⟨158, ps_r11_Len, rs_r11_Len, r11_Len N⟩, ⟨151, ps_r07_Name, rs_r07_Name, r07_Name N⟩, ⟨112, ps_r08_Valid, rs_r08_Valid, r08_Valid N⟩] N Tryz.f88 a_r12_checkComment ps_r12_checkComment rs_r12_checkComment = r12_checkComment N := by kernel_rfl
def a_r12_Check : Ann := (.sq .lf (.sq .lf (.sq .lf (.sq .lf (.jn ⟨[1], [2], [], []⟩ (.sq .lf (.lp ⟨[1, 26, 27], [2], [.s 28], [.v (.int .i64) []]⟩ .lf)) (.sq .lf (.jn ⟨[], [], [], []⟩ (.sq .lf (.lp ⟨[1, 71], [2], [.s 72], [.v (.int .i64) []]⟩ .lf)) .lf)))))))
theorem x_r12_Check (N : Nat) : execF E [⟨83, ps_r12_checkHead, rs_r12_checkHead, r12_checkHead N⟩, ⟨84, ps_r10_CheckList, rs_r10_CheckList, r10_CheckList N⟩, ⟨85, ps_r11_Check, rs_r11_Check, r11_Check N⟩, ⟨86, ps_r11_Less, rs_r11_Less, r11_Less N⟩, ⟨87, ps_r12_Find, rs_r12_Find, r12_Find N⟩, ⟨88, ps_r12_checkComment, rs_r12_checkComment, r12_checkComment N⟩] N Tryz.f35 a_r12_Check ps_r12_Check rs_r12_Check = r12_Check N := by kernel_rfl
def a_r02_Nominal : Ann := .lf
theorem x_r02_Nominal (N : Nat) : execF E [⟨89, ps_r02_Valid, rs_r02_Valid, r02_Valid N⟩] N Tryz.f91 a_r02_Nominal ps_r02_Nominal rs_r02_Nominal = r02_Nominal N := by kernel_rfl
def a_r03_Dropped : Ann := .lf
theorem x_r03_Dropped (N : Nat) : execF E [] N Tryz.f92 a_r03_Dropped ps_r03_Dropped rs_r03_Dropped = r03_Dropped N := by kernel_rfl
def a_r03_Day : Ann := (.sq .lf (.jn ⟨[0, 1], [], [], []⟩ .lf .lf))
theorem x_r03_Day (N : Nat) : execF E [⟨89, ps_r02_Valid, rs_r02_Valid, r02_Valid N⟩, ⟨90, ps_r02_CanDrop, rs_r02_CanDrop, r02_CanDrop N⟩, ⟨91, ps_r02_Nominal, rs_r02_Nominal, r02_Nominal N⟩, ⟨92, ps_r03_Dropped, rs_r03_Dropped, r03_Dropped N⟩] N Tryz.f36 a_r03_Day ps_r03_Day rs_r03_Day = r03_Day N := by kernel_rfl
def a_r11_Spots : Ann := (.sq .lf (.sq .lf (.sq .lf (.sq .lf (.jn ⟨[6], [13], [.s 8], [.v (.slice (.int .i64)) [0]]⟩ (.sq .lf (.lp ⟨[6, 21, 22], [13], [.s 8, .s 23], [.v (.slice (.int .i64)) [0], .v (.int .i64) []]⟩ .lf)) .lf)))))
theorem x_r11_Spots (N : Nat) : execF E [⟨95, ps_r10_Find, rs_r10_Find, r10_Find N⟩, ⟨156, ps_r09_Len, rs_r09_Len, r09_Len N⟩, ⟨157, ps_r10_Place, rs_r10_Place, r10_Place N⟩] N Tryz.f94 a_r11_Spots ps_r11_Spots rs_r11_Spots = r11_Spots N := by kernel_rfl
end
end Go.Mo
end

section
/-
  The functions do what their models say. Printed by a program.
-/
namespace Go.Mo
open Go Go.W Go.Proofs
noncomputable section
set_option maxRecDepth 100000
def a_r24_place : Ann := .lf
theorem x_r24_place (N : Nat) : execF E [⟨94, ps_r11_Spots, rs_r11_Spots, r11_Spots N⟩, ⟨95, ps_r10_Find, rs_r10_Find, r10_Find N⟩] N Tryz.f39 a_r24_place ps_r24_place rs_r24_place = r24_place N := by kernel_rfl
def a_r24_letters : Ann := .lf
theorem x_r24_letters (N : Nat) : execF E [] N Tryz.f93 a_r24_letters ps_r24_letters rs_r24_letters = r24_letters N := by kernel_rfl
def a_r24_region : Ann := .lf
theorem x_r24_region (N : Nat) : execF E [⟨93, ps_r24_letters, rs_r24_letters, r24_letters N⟩] N Tryz.f38 a_r24_region ps_r24_region rs_r24_region = r24_region N := by kernel_rfl
def a_r24_with : Ann := (.sq .lf (.sq .lf (.sq .lf (.jn ⟨[3], [2], [.s 5, .s 6], [.v (.slice (.st (.pair (.str) (.pair (.int .i64) (.pair (.int .i64) (.pair (.int .i64) (.pair (.int .i64) (.pair (.u8) (.bool))))))))) [0], .v (.bool) []]⟩ (.sq .lf (.lp ⟨[0, 3, 10, 11], [2], [.s 5, .s 6, .s 12], [.v (.slice (.st (.pair (.str) (.pair (.int .i64) (.pair (.int .i64) (.pair (.int .i64) (.pair (.int .i64) (.pair (.u8) (.bool))))))))) [0], .v (.bool) [], .v (.int .i64) []]⟩ .lf)) .lf))))
theorem x_r24_with (N : Nat) : execF E [] N Tryz.f37 a_r24_with ps_r24_with rs_r24_with = r24_with N := by kernel_rfl
def a_r24_Accept : Ann := (.sq .lf (.sq .lf (.jn ⟨[1], [2], [], []⟩ .lf (.sq .lf (.jn ⟨[], [], [], []⟩ (.sq .lf (.lp ⟨[1, 23, 24], [2], [.s 5, .s 25], [.v (.slice (.st (.pair (.str) (.pair (.int .i64) (.pair (.int .i64) (.pair (.int .i64) (.pair (.int .i64) (.pair (.u8) (.bool))))))))) [], .v (.int .i64) []]⟩ .lf)) .lf)))))
theorem x_r24_Accept (N : Nat) : execF E [⟨35, ps_r12_Check, rs_r12_Check, r12_Check N⟩, ⟨36, ps_r03_Day, rs_r03_Day, r03_Day N⟩, ⟨39, ps_r24_place, rs_r24_place, r24_place N⟩, ⟨38, ps_r24_region, rs_r24_region, r24_region N⟩, ⟨37, ps_r24_with, rs_r24_with, r24_with N⟩] N Tryz.f14 a_r24_Accept ps_r24_Accept rs_r24_Accept = r24_Accept N := by kernel_rfl
def a_r03_kind : Ann := .lf
theorem x_r03_kind (N : Nat) : execF E [⟨89, ps_r02_Valid, rs_r02_Valid, r02_Valid N⟩, ⟨90, ps_r02_CanDrop, rs_r02_CanDrop, r02_CanDrop N⟩] N Tryz.f129 a_r03_kind ps_r03_kind rs_r03_kind = r03_kind N := by kernel_rfl
def a_r03_Label : Ann := (.sq .lf (.sq .lf (.sq .lf (.sq .lf (.jn ⟨[1, 6, 9], [2], [.s 2], [.v (.int .i64) []]⟩ .lf .lf)))))
theorem x_r03_Label (N : Nat) : execF E [⟨129, ps_r03_kind, rs_r03_kind, r03_kind N⟩, ⟨36, ps_r03_Day, rs_r03_Day, r03_Day N⟩, ⟨91, ps_r02_Nominal, rs_r02_Nominal, r02_Nominal N⟩, ⟨92, ps_r03_Dropped, rs_r03_Dropped, r03_Dropped N⟩] N Tryz.f68 a_r03_Label ps_r03_Label rs_r03_Label = r03_Label N := by kernel_rfl
def a_r24_colors : Ann := .lf
theorem x_r24_colors (N : Nat) : execF E [] N Tryz.f114 a_r24_colors ps_r24_colors rs_r24_colors = r24_colors N := by kernel_rfl
def a_r24_onOff : Ann := .lf
theorem x_r24_onOff (N : Nat) : execF E [] N Tryz.f115 a_r24_onOff ps_r24_onOff rs_r24_onOff = r24_onOff N := by kernel_rfl
def a_r08_Chars : Ann := .lf
theorem x_r08_Chars (N : Nat) : execF E [⟨112, ps_r08_Valid, rs_r08_Valid, r08_Valid N⟩, ⟨222, ps_r08_runes, rs_r08_runes, r08_runes N⟩] N Tryz.f174 a_r08_Chars ps_r08_Chars rs_r08_Chars = r08_Chars N := by kernel_rfl
def a_r22_Carries : Ann := .lf
theorem x_r22_Carries (N : Nat) : execF E [⟨173, ps_r08_Index, rs_r08_Index, r08_Index N⟩] N Tryz.f223 a_r22_Carries ps_r22_Carries rs_r22_Carries = r22_Carries N := by kernel_rfl
def a_r22_single : Ann := (.sq .lf (.jn ⟨[0], [], [], []⟩ .lf (.sq .lf (.sq .lf (.jn ⟨[], [], [], []⟩ (.sq .lf (.lp ⟨[0, 4, 17, 18], [4, 7], [.s 19], [.v (.int .i64) []]⟩ .lf)) .lf)))))
theorem x_r22_single (N : Nat) : execF E [] N Tryz.f176 a_r22_single ps_r22_single rs_r22_single = r22_single N := by kernel_rfl
def a_r22_double : Ann := (.sq .lf (.jn ⟨[0, 1], [], [.s 5], [.v (.bool) []]⟩ .lf (.sq .lf (.jn ⟨[0, 5], [], [.s 6], [.v (.u8) []]⟩ .lf (.sq .lf (.sq .lf (.sq .lf (.jn ⟨[], [], [], []⟩ (.sq .lf (.lp ⟨[0, 5, 6, 8, 9, 24, 25], [7, 11], [.s 26], [.v (.int .i64) []]⟩ .lf)) .lf))))))))
theorem x_r22_double (N : Nat) : execF E [] N Tryz.f177 a_r22_double ps_r22_double rs_r22_double = r22_double N := by kernel_rfl
def a_r22_Put : Ann := (.sq .lf (.sq .lf (.jn ⟨[0], [], [], []⟩ (.sq .lf (.lp ⟨[0], [], [.s 3], [.v (.int .i64) []]⟩ .lf)) (.jn ⟨[], [], [], []⟩ (.sq .lf (.lp ⟨[0], [], [.s 4], [.v (.int .i64) []]⟩ (.sq .lf (.jn ⟨[0, 4], [], [], []⟩ (.sq .lf (.lp ⟨[0, 4], [], [.s 5], [.v (.int .i32) []]⟩ .lf)) .lf)))) .lf))))
theorem x_r22_Put (N : Nat) : execF E [⟨223, ps_r22_Carries, rs_r22_Carries, r22_Carries N⟩, ⟨176, ps_r22_single, rs_r22_single, r22_single N⟩, ⟨177, ps_r22_double, rs_r22_double, r22_double N⟩] N Tryz.f175 a_r22_Put ps_r22_Put rs_r22_Put = r22_Put N := by kernel_rfl
def a_r22_Encode : Ann := (.sq .lf (.sq .lf (.sq .lf (.jn ⟨[], [], [.s 4], [.v (.slice (.u8)) [0]]⟩ (.sq .lf (.lp ⟨[12, 13], [11], [.s 4, .s 14], [.v (.slice (.u8)) [0], .v (.int .i64) []]⟩ .lf)) .lf))))
theorem x_r22_Encode (N : Nat) : execF E [⟨112, ps_r08_Valid, rs_r08_Valid, r08_Valid N⟩, ⟨174, ps_r08_Chars, rs_r08_Chars, r08_Chars N⟩, ⟨175, ps_r22_Put, rs_r22_Put, r22_Put N⟩] N Tryz.f116 a_r22_Encode ps_r22_Encode rs_r22_Encode = r22_Encode N := by kernel_rfl
def a_r24_row : Ann := (.sq .lf (.sq .lf (.sq .lf (.jn ⟨[], [], [.s 3], [.v (.slice (.u8)) [0]]⟩ (.sq .lf (.lp ⟨[4, 14, 15], [], [.s 3, .s 16, .o 9], [.v (.slice (.u8)) [0], .v (.int .i64) [], .b 51 (.st (.pair (.u8) (.pair (.bool) (.bool)))) []]⟩ (.sq .lf (.sq .lf (.jn ⟨[4, 14, 15, 16], [], [.s 3, .o 9], [.v (.slice (.u8)) [0], .b 51 (.st (.pair (.u8) (.pair (.bool) (.bool)))) []]⟩ (.sq .lf (.jn ⟨[4, 6, 14, 15, 16], [21, 9], [.s 3], [.v (.slice (.u8)) [0]]⟩ (.sq .lf (.sq (.sq .lf (.lp ⟨[4, 6, 14, 15, 16, 26, 27], [21, 9], [.s 3, .s 28], [.v (.slice (.u8)) [0], .v (.int .i64) []]⟩ .lf)) .lf)) (.jn ⟨[4, 6, 14, 15, 16], [21, 9], [.s 3], [.v (.slice (.u8)) [0]]⟩ .lf (.jn ⟨[4, 6, 14, 15, 16], [21, 9], [.s 3], [.v (.slice (.u8)) [0]]⟩ .lf .lf)))) .lf))))) .lf))))
theorem x_r24_row (N : Nat) : execF E [⟨114, ps_r24_colors, rs_r24_colors, r24_colors N⟩, ⟨115, ps_r24_onOff, rs_r24_onOff, r24_onOff N⟩, ⟨116, ps_r22_Encode, rs_r22_Encode, r22_Encode N⟩] N Tryz.f58 a_r24_row ps_r24_row rs_r24_row = r24_row N := by kernel_rfl
def a_r24_Text : Ann := (.sq .lf (.sq .lf (.jn ⟨[], [], [.s 4], [.v (.slice (.u8)) [0]]⟩ (.sq .lf (.lp ⟨[9, 10], [], [.s 4, .s 11], [.v (.slice (.u8)) [0], .v (.int .i64) []]⟩ .lf)) .lf)))
theorem x_r24_Text (N : Nat) : execF E [⟨57, ps_r09_Check, rs_r09_Check, r09_Check N⟩, ⟨58, ps_r24_row, rs_r24_row, r24_row N⟩] N Tryz.f21 a_r24_Text ps_r24_Text rs_r24_Text = r24_Text N := by kernel_rfl
def a_r23_within : Ann := .lf
theorem x_r23_within (N : Nat) : execF E [] N Tryz.f186 a_r23_within ps_r23_within rs_r23_within = r23_within N := by kernel_rfl
def a_r23_clock : Ann := .lf
theorem x_r23_clock (N : Nat) : execF E [⟨186, ps_r23_within, rs_r23_within, r23_within N⟩] N Tryz.f187 a_r23_clock ps_r23_clock rs_r23_clock = r23_clock N := by kernel_rfl
def a_r23_filled : Ann := (.sq .lf (.jn ⟨[], [], [], []⟩ (.sq .lf (.lp ⟨[5, 6], [], [.s 7], [.v (.int .i64) []]⟩ .lf)) .lf))
theorem x_r23_filled (N : Nat) : execF E [] N Tryz.f131 a_r23_filled ps_r23_filled rs_r23_filled = r23_filled N := by kernel_rfl
def a_r23_Check : Ann := (.sq .lf (.sq (.sq .lf (.sq .lf (.jn ⟨[1], [2], [.s 14], [.v (.bool) []]⟩ .lf .lf))) .lf))
theorem x_r23_Check (N : Nat) : execF E [⟨186, ps_r23_within, rs_r23_within, r23_within N⟩, ⟨187, ps_r23_clock, rs_r23_clock, r23_clock N⟩, ⟨131, ps_r23_filled, rs_r23_filled, r23_filled N⟩] N Tryz.f130 a_r23_Check ps_r23_Check rs_r23_Check = r23_Check N := by kernel_rfl
def a_r23_Split : Ann := (.sq .lf (.sq .lf (.sq .lf (.sq .lf (.sq .lf (.sq .lf (.jn ⟨[], [], [.s 7], [.v (.slice (.st (.pair (.int .i64) (.pair (.int .i64) (.pair (.u8) (.pair (.u8) (.pair (.st (.pair (.int .i64) (.pair (.int .i64) (.pair (.int .i64) (.pair (.int .i64) (.bool)))))) (.pair (.st (.pair (.int .i64) (.pair (.int .i64) (.pair (.int .i64) (.pair (.int .i64) (.bool)))))) (.pair (.int .i64) (.pair (.u8) (.pair (.bool) (.slice (.u8))))))))))))) [0]]⟩ (.sq .lf (.lp ⟨[2], [], [.s 1, .s 7, .s 8, .o 2], [.v (.slice (.u8)) [], .v (.slice (.st (.pair (.int .i64) (.pair (.int .i64) (.pair (.u8) (.pair (.u8) (.pair (.st (.pair (.int .i64) (.pair (.int .i64) (.pair (.int .i64) (.pair (.int .i64) (.bool)))))) (.pair (.st (.pair (.int .i64) (.pair (.int .i64) (.pair (.int .i64) (.pair (.int .i64) (.bool)))))) (.pair (.int .i64) (.pair (.u8) (.pair (.bool) (.slice (.u8))))))))))))) [0], .v (.bool) [], .b 111 (.st (.pair (.int .i64) (.pair (.int .i64) (.pair (.u8) (.pair (.u8) (.pair (.st (.pair (.int .i64) (.pair (.int .i64) (.pair (.int .i64) (.pair (.int .i64) (.bool)))))) (.pair (.st (.pair (.int .i64) (.pair (.int .i64) (.pair (.int .i64) (.pair (.int .i64) (.bool)))))) (.pair (.int .i64) (.pair (.u8) (.pair (.bool) (.slice (.u8)))))))))))) []]⟩ (.jn ⟨[1, 2, 7], [24, 2], [], []⟩ .lf .lf))) .lf)))))))
theorem x_r23_Split (N : Nat) : execF E [⟨130, ps_r23_Check, rs_r23_Check, r23_Check N⟩, ⟨131, ps_r23_filled, rs_r23_filled, r23_filled N⟩] N Tryz.f69 a_r23_Split ps_r23_Split rs_r23_Split = r23_Split N := by kernel_rfl
end
end Go.Mo
end

section
/-
  The functions do what their models say. Printed by a program.
-/
namespace Go.Mo
open Go Go.W Go.Proofs
noncomputable section
set_option maxRecDepth 100000
def a_r03_Check : Ann := .lf
theorem x_r03_Check (N : Nat) : execF E [⟨129, ps_r03_kind, rs_r03_kind, r03_kind N⟩, ⟨91, ps_r02_Nominal, rs_r02_Nominal, r02_Nominal N⟩, ⟨92, ps_r03_Dropped, rs_r03_Dropped, r03_Dropped N⟩] N Tryz.f208 a_r03_Check ps_r03_Check rs_r03_Check = r03_Check N := by kernel_rfl
def a_r23_CheckHeader : Ann := (.sq .lf (.sq (.jn ⟨[1], [2], [.s 5], [.v (.bool) []]⟩ .lf (.sq .lf (.jn ⟨[1], [2], [.s 14], [.v (.bool) []]⟩ .lf .lf))) .lf))
theorem x_r23_CheckHeader (N : Nat) : execF E [⟨151, ps_r07_Name, rs_r07_Name, r07_Name N⟩, ⟨112, ps_r08_Valid, rs_r08_Valid, r08_Valid N⟩, ⟨186, ps_r23_within, rs_r23_within, r23_within N⟩, ⟨208, ps_r03_Check, rs_r03_Check, r03_Check N⟩] N Tryz.f188 a_r23_CheckHeader ps_r23_CheckHeader rs_r23_CheckHeader = r23_CheckHeader N := by kernel_rfl
def a_r23_fill : Ann := (.sq .lf (.sq .lf (.jn ⟨[], [], [.s 7], [.v (.slice (.u8)) [0]]⟩ (.lp ⟨[1, 2], [], [.s 7], [.v (.slice (.u8)) [0]]⟩ .lf) .lf)))
theorem x_r23_fill (N : Nat) : execF E [] N Tryz.f189 a_r23_fill ps_r23_fill rs_r23_fill = r23_fill N := by kernel_rfl
def a_r23_digits : Ann := .lf
theorem x_r23_digits (N D : Nat) : execF E [⟨190, ps_r23_digits, rs_r23_digits, r23_digits_r N D⟩] N Tryz.f190 a_r23_digits ps_r23_digits rs_r23_digits = r23_digits_r N (D + 1) := by kernel_rfl
def a_r23_label : Ann := .lf
theorem x_r23_label (N : Nat) : execF E [⟨190, ps_r23_digits, rs_r23_digits, r23_digits N⟩] N Tryz.f191 a_r23_label ps_r23_label rs_r23_label = r23_label N := by kernel_rfl
def a_r23_PutHeader : Ann := (.sq .lf (.sq .lf (.sq .lf (.jn ⟨[1], [2], [.s 5], [.v (.str) []]⟩ .lf .lf))))
theorem x_r23_PutHeader (N : Nat) : execF E [⟨188, ps_r23_CheckHeader, rs_r23_CheckHeader, r23_CheckHeader N⟩, ⟨116, ps_r22_Encode, rs_r22_Encode, r22_Encode N⟩, ⟨189, ps_r23_fill, rs_r23_fill, r23_fill N⟩, ⟨190, ps_r23_digits, rs_r23_digits, r23_digits N⟩, ⟨191, ps_r23_label, rs_r23_label, r23_label N⟩] N Tryz.f132 a_r23_PutHeader ps_r23_PutHeader rs_r23_PutHeader = r23_PutHeader N := by kernel_rfl
def a_r23_Put : Ann := (.sq .lf (.sq .lf (.sq .lf (.sq .lf (.sq .lf (.jn ⟨[1, 5], [26, 2], [.s 6], [.v (.u8) []]⟩ .lf .lf))))))
theorem x_r23_Put (N : Nat) : execF E [⟨130, ps_r23_Check, rs_r23_Check, r23_Check N⟩, ⟨189, ps_r23_fill, rs_r23_fill, r23_fill N⟩] N Tryz.f133 a_r23_Put ps_r23_Put rs_r23_Put = r23_Put N := by kernel_rfl
def a_r23_Write : Ann := (.sq .lf (.sq .lf (.sq .lf (.sq .lf (.jn ⟨[], [], [.s 6], [.v (.slice (.u8)) [0]]⟩ (.sq .lf (.lp ⟨[25, 26], [], [.s 6, .s 27], [.v (.slice (.u8)) [0], .v (.int .i64) []]⟩ .lf)) .lf)))))
theorem x_r23_Write (N : Nat) : execF E [⟨132, ps_r23_PutHeader, rs_r23_PutHeader, r23_PutHeader N⟩, ⟨133, ps_r23_Put, rs_r23_Put, r23_Put N⟩] N Tryz.f70 a_r23_Write ps_r23_Write rs_r23_Write = r23_Write N := by kernel_rfl
def a_r24_Encode : Ann := (.sq .lf (.sq .lf (.sq .lf (.sq .lf (.jn ⟨[6], [], [.s 7, .o 25], [.v (.slice (.st (.pair (.int .i64) (.pair (.int .i64) (.pair (.u8) (.pair (.u8) (.pair (.st (.pair (.int .i64) (.pair (.int .i64) (.pair (.int .i64) (.pair (.int .i64) (.bool)))))) (.pair (.st (.pair (.int .i64) (.pair (.int .i64) (.pair (.int .i64) (.pair (.int .i64) (.bool)))))) (.pair (.int .i64) (.pair (.u8) (.pair (.bool) (.slice (.u8))))))))))))) [0], .b 108 (.st (.pair (.u8) (.pair (.str) (.pair (.str) (.pair (.int .i64) (.pair (.int .i64) (.pair (.st (.pair (.int .i64) (.pair (.int .i64) (.pair (.int .i64) (.pair (.int .i64) (.bool)))))) (.pair (.st (.pair (.int .i64) (.pair (.int .i64) (.pair (.int .i64) (.pair (.int .i64) (.bool)))))) (.pair (.int .i64) (.int .i64)))))))))) []]⟩ (.sq .lf (.lp ⟨[1, 6, 35, 36], [2], [.s 7, .s 37, .o 25], [.v (.slice (.st (.pair (.int .i64) (.pair (.int .i64) (.pair (.u8) (.pair (.u8) (.pair (.st (.pair (.int .i64) (.pair (.int .i64) (.pair (.int .i64) (.pair (.int .i64) (.bool)))))) (.pair (.st (.pair (.int .i64) (.pair (.int .i64) (.pair (.int .i64) (.pair (.int .i64) (.bool)))))) (.pair (.int .i64) (.pair (.u8) (.pair (.bool) (.slice (.u8))))))))))))) [0], .v (.int .i64) [], .b 108 (.st (.pair (.u8) (.pair (.str) (.pair (.str) (.pair (.int .i64) (.pair (.int .i64) (.pair (.st (.pair (.int .i64) (.pair (.int .i64) (.pair (.int .i64) (.pair (.int .i64) (.bool)))))) (.pair (.st (.pair (.int .i64) (.pair (.int .i64) (.pair (.int .i64) (.pair (.int .i64) (.bool)))))) (.pair (.int .i64) (.int .i64)))))))))) []]⟩ (.sq .lf (.sq .lf (.sq (.sq .lf (.sq .lf (.sq .lf (.sq .lf (.sq .lf (.jn ⟨[1, 6, 7, 9, 10, 35, 36, 37], [47, 41, 35, 2], [.o 25], [.b 108 (.st (.pair (.u8) (.pair (.str) (.pair (.str) (.pair (.int .i64) (.pair (.int .i64) (.pair (.st (.pair (.int .i64) (.pair (.int .i64) (.pair (.int .i64) (.pair (.int .i64) (.bool)))))) (.pair (.st (.pair (.int .i64) (.pair (.int .i64) (.pair (.int .i64) (.pair (.int .i64) (.bool)))))) (.pair (.int .i64) (.int .i64)))))))))) []]⟩ .lf .lf)))))) .lf))))) .lf)))))
theorem x_r24_Encode (N : Nat) : execF E [⟨14, ps_r24_Accept, rs_r24_Accept, r24_Accept N⟩, ⟨68, ps_r03_Label, rs_r03_Label, r03_Label N⟩, ⟨39, ps_r24_place, rs_r24_place, r24_place N⟩, ⟨21, ps_r24_Text, rs_r24_Text, r24_Text N⟩, ⟨69, ps_r23_Split, rs_r23_Split, r23_Split N⟩, ⟨70, ps_r23_Write, rs_r23_Write, r23_Write N⟩] N Tryz.f28 a_r24_Encode ps_r24_Encode rs_r24_Encode = r24_Encode N := by kernel_rfl
def a_l24_StlEncodes : Ann := .lf
theorem x_l24_StlEncodes (N : Nat) : execF E [⟨11, ps_l24_awake, rs_l24_awake, l24_awake N⟩, ⟨12, ps_l24_few, rs_l24_few, l24_few N⟩, ⟨27, ps_stl_Encode, rs_stl_Encode, stl_Encode N⟩, ⟨28, ps_r24_Encode, rs_r24_Encode, r24_Encode N⟩, ⟨24, ps_slices_Equal_Lbyte_byte, rs_slices_Equal_Lbyte_byte, slices_Equal_Lbyte_byte N⟩] N Tryz.f7 a_l24_StlEncodes ps_l24_StlEncodes rs_l24_StlEncodes = l24_StlEncodes N := by kernel_rfl
end
end Go.Mo
end

section
/-
  The functions do what their models say. Printed by a program.
-/
namespace Go.Mo
open Go Go.W Go.Proofs
noncomputable section
set_option maxRecDepth 100000
theorem k_utf8_word_string (N : Nat) : ConOk E ⟨214, ps_utf8_word_string, rs_utf8_word_string, utf8_word_string N⟩ := conOf envOk (x_utf8_word_string N) trivial (show E.P.funcs[214]? = some Tryz.f214 from by kernel_rfl) (by kernel_rfl)
theorem k_utf8_ValidString (N : Nat) : ConOk E ⟨160, ps_utf8_ValidString, rs_utf8_ValidString, utf8_ValidString N⟩ := kh_utf8_ValidString N
theorem k_charset_place (N : Nat) : ConOk E ⟨215, ps_charset_place, rs_charset_place, charset_place N⟩ := conOf envOk (x_charset_place N) trivial (show E.P.funcs[215]? = some Tryz.f215 from by kernel_rfl) (by kernel_rfl)
theorem k_charset_Index (N : Nat) : ConOk E ⟨161, ps_charset_Index, rs_charset_Index, charset_Index N⟩ := conOf envOk (x_charset_Index N) ⟨k_charset_place N, trivial⟩ (show E.P.funcs[161]? = some Tryz.f161 from by kernel_rfl) (by kernel_rfl)
theorem k_charset_Valid (N : Nat) : ConOk E ⟨97, ps_charset_Valid, rs_charset_Valid, charset_Valid N⟩ := conOf envOk (x_charset_Valid N) ⟨k_utf8_ValidString N, k_charset_Index N, trivial⟩ (show E.P.funcs[97]? = some Tryz.f97 from by kernel_rfl) (by kernel_rfl)
theorem k_style_Valid (N : Nat) : ConOk E ⟨109, ps_style_Valid, rs_style_Valid, style_Valid N⟩ := conOf envOk (x_style_Valid N) trivial (show E.P.funcs[109]? = some Tryz.f109 from by kernel_rfl) (by kernel_rfl)
theorem k_style_alike (N : Nat) : ConOk E ⟨110, ps_style_alike, rs_style_alike, style_alike N⟩ := conOf envOk (x_style_alike N) trivial (show E.P.funcs[110]? = some Tryz.f110 from by kernel_rfl) (by kernel_rfl)
theorem k_style_Check (N : Nat) : ConOk E ⟨53, ps_style_Check, rs_style_Check, style_Check N⟩ := conOf envOk (x_style_Check N) ⟨k_charset_Valid N, k_style_Valid N, k_style_alike N, trivial⟩ (show E.P.funcs[53]? = some Tryz.f53 from by kernel_rfl) (by kernel_rfl)
theorem k_stl_colorByte (N : Nat) : ConOk E ⟨54, ps_stl_colorByte, rs_stl_colorByte, stl_colorByte N⟩ := conOf envOk (x_stl_colorByte N) trivial (show E.P.funcs[54]? = some Tryz.f54 from by kernel_rfl) (by kernel_rfl)
theorem k_stl_on (N : Nat) : ConOk E ⟨55, ps_stl_on, rs_stl_on, stl_on N⟩ := conOf envOk (x_stl_on N) trivial (show E.P.funcs[55]? = some Tryz.f55 from by kernel_rfl) (by kernel_rfl)
theorem k_latin_Carries (N : Nat) : ConOk E ⟨170, ps_latin_Carries, rs_latin_Carries, latin_Carries N⟩ := conOf envOk (x_latin_Carries N) ⟨k_charset_Index N, trivial⟩ (show E.P.funcs[170]? = some Tryz.f170 from by kernel_rfl) (by kernel_rfl)
theorem k_latin_accented (N : Nat) : ConOk E ⟨117, ps_latin_accented, rs_latin_accented, latin_accented N⟩ := conOf envOk (x_latin_accented N) trivial (show E.P.funcs[117]? = some Tryz.f117 from by kernel_rfl) (by kernel_rfl)
theorem k_charset_Upper (N : Nat) : ConOk E ⟨172, ps_charset_Upper, rs_charset_Upper, charset_Upper N⟩ := conOf envOk (x_charset_Upper N) ⟨k_charset_Index N, trivial⟩ (show E.P.funcs[172]? = some Tryz.f172 from by kernel_rfl) (by kernel_rfl)
theorem k_bytealg_IndexByteString (N : Nat) : ConOk E ⟨270, ps_bytealg_IndexByteString, rs_bytealg_IndexByteString, bytealg_IndexByteString N⟩ := kh_bytealg_IndexByteString N
theorem k_stringslite_IndexByte (N : Nat) : ConOk E ⟨261, ps_stringslite_IndexByte, rs_stringslite_IndexByte, stringslite_IndexByte N⟩ := conOf envOk (x_stringslite_IndexByte N) ⟨k_bytealg_IndexByteString N, trivial⟩ (show E.P.funcs[261]? = some Tryz.f261 from by kernel_rfl) (by kernel_rfl)
theorem k_strings_IndexByte (N : Nat) : ConOk E ⟨242, ps_strings_IndexByte, rs_strings_IndexByte, strings_IndexByte N⟩ := conOf envOk (x_strings_IndexByte N) ⟨k_stringslite_IndexByte N, trivial⟩ (show E.P.funcs[242]? = some Tryz.f242 from by kernel_rfl) (by kernel_rfl)
theorem k_utf8_ValidRune (N : Nat) : ConOk E ⟨243, ps_utf8_ValidRune, rs_utf8_ValidRune, utf8_ValidRune N⟩ := conOf envOk (x_utf8_ValidRune N) trivial (show E.P.funcs[243]? = some Tryz.f243 from by kernel_rfl) (by kernel_rfl)
theorem k_bytealg_Cutover (N : Nat) : ConOk E ⟨244, ps_bytealg_Cutover, rs_bytealg_Cutover, bytealg_Cutover N⟩ := conOf envOk (x_bytealg_Cutover N) trivial (show E.P.funcs[244]? = some Tryz.f244 from by kernel_rfl) (by kernel_rfl)
theorem k_strings_IndexRune (N : Nat) : ConOk E ⟨220, ps_strings_IndexRune, rs_strings_IndexRune, strings_IndexRune N⟩ := conOf envOk (x_strings_IndexRune N) ⟨k_strings_IndexByte N, k_utf8_ValidRune N, k_bytealg_Cutover N, trivial⟩ (show E.P.funcs[220]? = some Tryz.f220 from by kernel_rfl) (by kernel_rfl)
theorem k_strings_ContainsRune (N : Nat) : ConOk E ⟨171, ps_strings_ContainsRune, rs_strings_ContainsRune, strings_ContainsRune N⟩ := conOf envOk (x_strings_ContainsRune N) ⟨k_strings_IndexRune N, trivial⟩ (show E.P.funcs[171]? = some Tryz.f171 from by kernel_rfl) (by kernel_rfl)
theorem k_charset_Base (N : Nat) : ConOk E ⟨119, ps_charset_Base, rs_charset_Base, charset_Base N⟩ := conOf envOk (x_charset_Base N) ⟨k_charset_Index N, trivial⟩ (show E.P.funcs[119]? = some Tryz.f119 from by kernel_rfl) (by kernel_rfl)
theorem k_latin_Put (N : Nat) : ConOk E ⟨111, ps_latin_Put, rs_latin_Put, latin_Put N⟩ := conOf envOk (x_latin_Put N) ⟨k_latin_Carries N, k_latin_accented N, k_charset_Upper N, k_strings_ContainsRune N, k_charset_Base N, trivial⟩ (show E.P.funcs[111]? = some Tryz.f111 from by kernel_rfl) (by kernel_rfl)
theorem k_latin_Encode (N : Nat) : ConOk E ⟨56, ps_latin_Encode, rs_latin_Encode, latin_Encode N⟩ := conOf envOk (x_latin_Encode N) ⟨k_charset_Valid N, k_latin_Put N, trivial⟩ (show E.P.funcs[56]? = some Tryz.f56 from by kernel_rfl) (by kernel_rfl)
theorem k_stl_Text (N : Nat) : ConOk E ⟨20, ps_stl_Text, rs_stl_Text, stl_Text N⟩ := conOf envOk (x_stl_Text N) ⟨k_style_Check N, k_stl_colorByte N, k_stl_on N, k_latin_Encode N, trivial⟩ (show E.P.funcs[20]? = some Tryz.f20 from by kernel_rfl) (by kernel_rfl)
theorem k_slices_Equal_Lbyte_byte (N : Nat) : ConOk E ⟨24, ps_slices_Equal_Lbyte_byte, rs_slices_Equal_Lbyte_byte, slices_Equal_Lbyte_byte N⟩ := conOf envOk (x_slices_Equal_Lbyte_byte N) trivial (show E.P.funcs[24]? = some Tryz.f24 from by kernel_rfl) (by kernel_rfl)
theorem k_lines_Name (N : Nat) : ConOk E ⟨98, ps_lines_Name, rs_lines_Name, lines_Name N⟩ := conOf envOk (x_lines_Name N) trivial (show E.P.funcs[98]? = some Tryz.f98 from by kernel_rfl) (by kernel_rfl)
theorem k_timebase_of (N : Nat) : ConOk E ⟨148, ps_timebase_of, rs_timebase_of, timebase_of N⟩ := conOf envOk (x_timebase_of N) trivial (show E.P.funcs[148]? = some Tryz.f148 from by kernel_rfl) (by kernel_rfl)
theorem k_timebase_Valid (N : Nat) : ConOk E ⟨146, ps_timebase_Valid, rs_timebase_Valid, timebase_Valid N⟩ := conOf envOk (x_timebase_Valid N) ⟨k_timebase_of N, trivial⟩ (show E.P.funcs[146]? = some Tryz.f146 from by kernel_rfl) (by kernel_rfl)
theorem k_timebase_CanDrop (N : Nat) : ConOk E ⟨147, ps_timebase_CanDrop, rs_timebase_CanDrop, timebase_CanDrop N⟩ := conOf envOk (x_timebase_CanDrop N) ⟨k_timebase_of N, trivial⟩ (show E.P.funcs[147]? = some Tryz.f147 from by kernel_rfl) (by kernel_rfl)
theorem k_document_rate (N : Nat) : ConOk E ⟨99, ps_document_rate, rs_document_rate, document_rate N⟩ := conOf envOk (x_document_rate N) ⟨k_timebase_Valid N, k_timebase_CanDrop N, trivial⟩ (show E.P.funcs[99]? = some Tryz.f99 from by kernel_rfl) (by kernel_rfl)
theorem k_document_header (N : Nat) : ConOk E ⟨47, ps_document_header, rs_document_header, document_header N⟩ := conOf envOk (x_document_header N) ⟨k_charset_Valid N, k_lines_Name N, k_document_rate N, trivial⟩ (show E.P.funcs[47]? = some Tryz.f47 from by kernel_rfl) (by kernel_rfl)
theorem k_region_from (N : Nat) : ConOk E ⟨162, ps_region_from, rs_region_from, region_from N⟩ := conOf envOk (x_region_from N) trivial (show E.P.funcs[162]? = some Tryz.f162 from by kernel_rfl) (by kernel_rfl)
theorem k_region_Check (N : Nat) : ConOk E ⟨100, ps_region_Check, rs_region_Check, region_Check N⟩ := conOf envOk (x_region_Check N) ⟨k_lines_Name N, k_region_from N, trivial⟩ (show E.P.funcs[100]? = some Tryz.f100 from by kernel_rfl) (by kernel_rfl)
theorem k_region_CheckList (N : Nat) : ConOk E ⟨48, ps_region_CheckList, rs_region_CheckList, region_CheckList N⟩ := conOf envOk (x_region_CheckList N) ⟨k_region_Check N, trivial⟩ (show E.P.funcs[48]? = some Tryz.f48 from by kernel_rfl) (by kernel_rfl)
theorem k_region_Default (N : Nat) : ConOk E ⟨149, ps_region_Default, rs_region_Default, region_Default N⟩ := conOf envOk (x_region_Default N) trivial (show E.P.funcs[149]? = some Tryz.f149 from by kernel_rfl) (by kernel_rfl)
theorem k_region_Find (N : Nat) : ConOk E ⟨81, ps_region_Find, rs_region_Find, region_Find N⟩ := conOf envOk (x_region_Find N) ⟨k_region_Default N, trivial⟩ (show E.P.funcs[81]? = some Tryz.f81 from by kernel_rfl) (by kernel_rfl)
theorem k_event_spans (N : Nat) : ConOk E ⟨101, ps_event_spans, rs_event_spans, event_spans N⟩ := conOf envOk (x_event_spans N) trivial (show E.P.funcs[101]? = some Tryz.f101 from by kernel_rfl) (by kernel_rfl)
theorem k_event_kinds (N : Nat) : ConOk E ⟨163, ps_event_kinds, rs_event_kinds, event_kinds N⟩ := conOf envOk (x_event_kinds N) trivial (show E.P.funcs[163]? = some Tryz.f163 from by kernel_rfl) (by kernel_rfl)
theorem k_event_KindName (N : Nat) : ConOk E ⟨102, ps_event_KindName, rs_event_KindName, event_KindName N⟩ := conOf envOk (x_event_KindName N) ⟨k_event_kinds N, trivial⟩ (show E.P.funcs[102]? = some Tryz.f102 from by kernel_rfl) (by kernel_rfl)
theorem k_strings_Builder_copyCheck (N : Nat) : ConOk E ⟨239, ps_strings_Builder_copyCheck, rs_strings_Builder_copyCheck, strings_Builder_copyCheck N⟩ := kh_strings_Builder_copyCheck N
theorem k_strings_Builder_WriteString (N : Nat) : ConOk E ⟨216, ps_strings_Builder_WriteString, rs_strings_Builder_WriteString, strings_Builder_WriteString N⟩ := conOf envOk (x_strings_Builder_WriteString N) ⟨k_strings_Builder_copyCheck N, trivial⟩ (show E.P.funcs[216]? = some Tryz.f216 from by kernel_rfl) (by kernel_rfl)
theorem k_style_Plain (N : Nat) : ConOk E ⟨164, ps_style_Plain, rs_style_Plain, style_Plain N⟩ := conOf envOk (x_style_Plain N) ⟨k_strings_Builder_WriteString N, trivial⟩ (show E.P.funcs[164]? = some Tryz.f164 from by kernel_rfl) (by kernel_rfl)
theorem k_bytealg_hashStr_string (N : Nat) : ConOk E ⟨271, ps_bytealg_hashStr_string, rs_bytealg_hashStr_string, bytealg_hashStr_string N⟩ := conOf envOk (x_bytealg_hashStr_string N) trivial (show E.P.funcs[271]? = some Tryz.f271 from by kernel_rfl) (by kernel_rfl)
theorem k_bytealg_IndexRabinKarp_string (N : Nat) : ConOk E ⟨262, ps_bytealg_IndexRabinKarp_string, rs_bytealg_IndexRabinKarp_string, bytealg_IndexRabinKarp_string N⟩ := conOf envOk (x_bytealg_IndexRabinKarp_string N) ⟨k_bytealg_hashStr_string N, trivial⟩ (show E.P.funcs[262]? = some Tryz.f262 from by kernel_rfl) (by kernel_rfl)
theorem k_stringslite_Index (N : Nat) : ConOk E ⟨240, ps_stringslite_Index, rs_stringslite_Index, stringslite_Index N⟩ := conOf envOk (x_stringslite_Index N) ⟨k_stringslite_IndexByte N, k_bytealg_Cutover N, k_bytealg_IndexRabinKarp_string N, trivial⟩ (show E.P.funcs[240]? = some Tryz.f240 from by kernel_rfl) (by kernel_rfl)
theorem k_strings_Index (N : Nat) : ConOk E ⟨218, ps_strings_Index, rs_strings_Index, strings_Index N⟩ := conOf envOk (x_strings_Index N) ⟨k_stringslite_Index N, trivial⟩ (show E.P.funcs[218]? = some Tryz.f218 from by kernel_rfl) (by kernel_rfl)
theorem k_strings_Contains (N : Nat) : ConOk E ⟨165, ps_strings_Contains, rs_strings_Contains, strings_Contains N⟩ := kh_strings_Contains N
theorem k_utf8_RuneCountInString (N : Nat) : ConOk E ⟨241, ps_utf8_RuneCountInString, rs_utf8_RuneCountInString, utf8_RuneCountInString N⟩ := conOf envOk (x_utf8_RuneCountInString N) trivial (show E.P.funcs[241]? = some Tryz.f241 from by kernel_rfl) (by kernel_rfl)
theorem k_charset_Len (N : Nat) : ConOk E ⟨219, ps_charset_Len, rs_charset_Len, charset_Len N⟩ := conOf envOk (x_charset_Len N) ⟨k_charset_Valid N, k_utf8_RuneCountInString N, trivial⟩ (show E.P.funcs[219]? = some Tryz.f219 from by kernel_rfl) (by kernel_rfl)
theorem k_style_Len (N : Nat) : ConOk E ⟨166, ps_style_Len, rs_style_Len, style_Len N⟩ := conOf envOk (x_style_Len N) ⟨k_charset_Len N, trivial⟩ (show E.P.funcs[166]? = some Tryz.f166 from by kernel_rfl) (by kernel_rfl)
theorem k_event_row (N : Nat) : ConOk E ⟨103, ps_event_row, rs_event_row, event_row N⟩ := conOf envOk (x_event_row N) ⟨k_style_Check N, k_style_Plain N, k_strings_Contains N, k_style_Len N, trivial⟩ (show E.P.funcs[103]? = some Tryz.f103 from by kernel_rfl) (by kernel_rfl)
theorem k_event_lens (N : Nat) : ConOk E ⟨105, ps_event_lens, rs_event_lens, event_lens N⟩ := conOf envOk (x_event_lens N) ⟨k_style_Len N, trivial⟩ (show E.P.funcs[105]? = some Tryz.f105 from by kernel_rfl) (by kernel_rfl)
theorem k_region_usable (N : Nat) : ConOk E ⟨167, ps_region_usable, rs_region_usable, region_usable N⟩ := conOf envOk (x_region_usable N) ⟨k_region_Default N, k_region_Check N, trivial⟩ (show E.P.funcs[167]? = some Tryz.f167 from by kernel_rfl) (by kernel_rfl)
theorem k_region_Place (N : Nat) : ConOk E ⟨104, ps_region_Place, rs_region_Place, region_Place N⟩ := conOf envOk (x_region_Place N) ⟨k_region_usable N, trivial⟩ (show E.P.funcs[104]? = some Tryz.f104 from by kernel_rfl) (by kernel_rfl)
theorem k_event_Check (N : Nat) : ConOk E ⟨49, ps_event_Check, rs_event_Check, event_Check N⟩ := conOf envOk (x_event_Check N) ⟨k_region_Find N, k_event_spans N, k_event_KindName N, k_lines_Name N, k_event_row N, k_event_lens N, k_region_Place N, trivial⟩ (show E.P.funcs[49]? = some Tryz.f49 from by kernel_rfl) (by kernel_rfl)
theorem k_cmp_isNaN_int64 (N : Nat) : ConOk E ⟨168, ps_cmp_isNaN_int64, rs_cmp_isNaN_int64, cmp_isNaN_int64 N⟩ := conOf envOk (x_cmp_isNaN_int64 N) trivial (show E.P.funcs[168]? = some Tryz.f168 from by kernel_rfl) (by kernel_rfl)
theorem k_cmp_Compare_int64 (N : Nat) : ConOk E ⟨107, ps_cmp_Compare_int64, rs_cmp_Compare_int64, cmp_Compare_int64 N⟩ := conOf envOk (x_cmp_Compare_int64 N) ⟨k_cmp_isNaN_int64 N, trivial⟩ (show E.P.funcs[107]? = some Tryz.f107 from by kernel_rfl) (by kernel_rfl)
theorem k_cmp_Or_int (N : Nat) : ConOk E ⟨106, ps_cmp_Or_int, rs_cmp_Or_int, cmp_Or_int N⟩ := conOf envOk (x_cmp_Or_int N) trivial (show E.P.funcs[106]? = some Tryz.f106 from by kernel_rfl) (by kernel_rfl)
theorem k_event_Less (N : Nat) : ConOk E ⟨50, ps_event_Less, rs_event_Less, event_Less N⟩ := conOf envOk (x_event_Less N) ⟨k_cmp_Compare_int64 N, k_cmp_Or_int N, trivial⟩ (show E.P.funcs[50]? = some Tryz.f50 from by kernel_rfl) (by kernel_rfl)
theorem k_event_Len (N : Nat) : ConOk E ⟨169, ps_event_Len, rs_event_Len, event_Len N⟩ := conOf envOk (x_event_Len N) ⟨k_event_lens N, trivial⟩ (show E.P.funcs[169]? = some Tryz.f169 from by kernel_rfl) (by kernel_rfl)
theorem k_document_anchored (N : Nat) : ConOk E ⟨108, ps_document_anchored, rs_document_anchored, document_anchored N⟩ := conOf envOk (x_document_anchored N) ⟨k_event_Len N, trivial⟩ (show E.P.funcs[108]? = some Tryz.f108 from by kernel_rfl) (by kernel_rfl)
theorem k_document_comments (N : Nat) : ConOk E ⟨51, ps_document_comments, rs_document_comments, document_comments N⟩ := conOf envOk (x_document_comments N) ⟨k_document_anchored N, k_lines_Name N, k_charset_Valid N, trivial⟩ (show E.P.funcs[51]? = some Tryz.f51 from by kernel_rfl) (by kernel_rfl)
theorem k_document_Check (N : Nat) : ConOk E ⟨18, ps_document_Check, rs_document_Check, document_Check N⟩ := conOf envOk (x_document_Check N) ⟨k_document_header N, k_region_CheckList N, k_event_Check N, k_event_Less N, k_document_comments N, trivial⟩ (show E.P.funcs[18]? = some Tryz.f18 from by kernel_rfl) (by kernel_rfl)
theorem k_event_Spots (N : Nat) : ConOk E ⟨80, ps_event_Spots, rs_event_Spots, event_Spots N⟩ := conOf envOk (x_event_Spots N) ⟨k_region_Find N, k_event_lens N, k_region_Place N, trivial⟩ (show E.P.funcs[80]? = some Tryz.f80 from by kernel_rfl) (by kernel_rfl)
theorem k_stl_placed (N : Nat) : ConOk E ⟨33, ps_stl_placed, rs_stl_placed, stl_placed N⟩ := conOf envOk (x_stl_placed N) ⟨k_event_Spots N, k_region_Find N, trivial⟩ (show E.P.funcs[33]? = some Tryz.f33 from by kernel_rfl) (by kernel_rfl)
theorem k_istrconv_small (N : Nat) : ConOk E ⟨235, ps_istrconv_small, rs_istrconv_small, istrconv_small N⟩ := conOf envOk (x_istrconv_small N) trivial (show E.P.funcs[235]? = some Tryz.f235 from by kernel_rfl) (by kernel_rfl)
theorem k_bits_Len64 (N : Nat) : ConOk E ⟨256, ps_bits_Len64, rs_bits_Len64, bits_Len64 N⟩ := conOf envOk (x_bits_Len64 N) trivial (show E.P.funcs[256]? = some Tryz.f256 from by kernel_rfl) (by kernel_rfl)
theorem k_istrconv_log10Pow2 (N : Nat) : ConOk E ⟨255, ps_istrconv_log10Pow2, rs_istrconv_log10Pow2, istrconv_log10Pow2 N⟩ := conOf envOk (x_istrconv_log10Pow2 N) trivial (show E.P.funcs[255]? = some Tryz.f255 from by kernel_rfl) (by kernel_rfl)
theorem k_istrconv_bool2_int (N : Nat) : ConOk E ⟨257, ps_istrconv_bool2_int, rs_istrconv_bool2_int, istrconv_bool2_int N⟩ := conOf envOk (x_istrconv_bool2_int N) trivial (show E.P.funcs[257]? = some Tryz.f257 from by kernel_rfl) (by kernel_rfl)
theorem k_istrconv_isPowerOfTwo (N : Nat) : ConOk E ⟨258, ps_istrconv_isPowerOfTwo, rs_istrconv_isPowerOfTwo, istrconv_isPowerOfTwo N⟩ := conOf envOk (x_istrconv_isPowerOfTwo N) trivial (show E.P.funcs[258]? = some Tryz.f258 from by kernel_rfl) (by kernel_rfl)
theorem k_bits_TrailingZeros32 (N : Nat) : ConOk E ⟨268, ps_bits_TrailingZeros32, rs_bits_TrailingZeros32, bits_TrailingZeros32 N⟩ := conOf envOk (x_bits_TrailingZeros32 N) trivial (show E.P.funcs[268]? = some Tryz.f268 from by kernel_rfl) (by kernel_rfl)
theorem k_bits_TrailingZeros64 (N : Nat) : ConOk E ⟨269, ps_bits_TrailingZeros64, rs_bits_TrailingZeros64, bits_TrailingZeros64 N⟩ := conOf envOk (x_bits_TrailingZeros64 N) trivial (show E.P.funcs[269]? = some Tryz.f269 from by kernel_rfl) (by kernel_rfl)
theorem k_bits_TrailingZeros (N : Nat) : ConOk E ⟨259, ps_bits_TrailingZeros, rs_bits_TrailingZeros, bits_TrailingZeros N⟩ := conOf envOk (x_bits_TrailingZeros N) ⟨k_bits_TrailingZeros32 N, k_bits_TrailingZeros64 N, trivial⟩ (show E.P.funcs[259]? = some Tryz.f259 from by kernel_rfl) (by kernel_rfl)
theorem k_istrconv_FormatInt (N : Nat) : ConOk E ⟨210, ps_istrconv_FormatInt, rs_istrconv_FormatInt, istrconv_FormatInt N⟩ := conOf envOk (x_istrconv_FormatInt N) ⟨k_istrconv_small N, trivial⟩ (show E.P.funcs[210]? = some Tryz.f210 from by kernel_rfl) (by kernel_rfl)
theorem k_strconv_FormatInt (N : Nat) : ConOk E ⟨150, ps_strconv_FormatInt, rs_strconv_FormatInt, strconv_FormatInt N⟩ := conOf envOk (x_strconv_FormatInt N) ⟨k_istrconv_FormatInt N, trivial⟩ (show E.P.funcs[150]? = some Tryz.f150 from by kernel_rfl) (by kernel_rfl)
theorem k_lines_Decimal (N : Nat) : ConOk E ⟨82, ps_lines_Decimal, rs_lines_Decimal, lines_Decimal N⟩ := conOf envOk (x_lines_Decimal N) ⟨k_strconv_FormatInt N, trivial⟩ (show E.P.funcs[82]? = some Tryz.f82 from by kernel_rfl) (by kernel_rfl)
theorem k_stl_place_region (N : Nat) : ConOk E ⟨34, ps_stl_place_region, rs_stl_place_region, stl_place_region N⟩ := conOf envOk (x_stl_place_region N) ⟨k_lines_Decimal N, trivial⟩ (show E.P.funcs[34]? = some Tryz.f34 from by kernel_rfl) (by kernel_rfl)
theorem k_stl_add (N : Nat) : ConOk E ⟨32, ps_stl_add, rs_stl_add, stl_add N⟩ := conOf envOk (x_stl_add N) trivial (show E.P.funcs[32]? = some Tryz.f32 from by kernel_rfl) (by kernel_rfl)
theorem k_style_norm (N : Nat) : ConOk E ⟨64, ps_style_norm, rs_style_norm, style_norm N⟩ := conOf envOk (x_style_norm N) ⟨k_style_alike N, trivial⟩ (show E.P.funcs[64]? = some Tryz.f64 from by kernel_rfl) (by kernel_rfl)
theorem k_style_Norm (N : Nat) : ConOk E ⟨26, ps_style_Norm, rs_style_Norm, style_Norm N⟩ := conOf envOk (x_style_Norm N) ⟨k_style_norm N, trivial⟩ (show E.P.funcs[26]? = some Tryz.f26 from by kernel_rfl) (by kernel_rfl)
theorem k_stl_bare (N : Nat) : ConOk E ⟨45, ps_stl_bare, rs_stl_bare, stl_bare N⟩ := conOf envOk (x_stl_bare N) ⟨k_style_Norm N, trivial⟩ (show E.P.funcs[45]? = some Tryz.f45 from by kernel_rfl) (by kernel_rfl)
theorem k_stl_Reduce (N : Nat) : ConOk E ⟨16, ps_stl_Reduce, rs_stl_Reduce, stl_Reduce N⟩ := conOf envOk (x_stl_Reduce N) ⟨k_document_Check N, k_stl_placed N, k_stl_place_region N, k_stl_add N, k_stl_bare N, trivial⟩ (show E.P.funcs[16]? = some Tryz.f16 from by kernel_rfl) (by kernel_rfl)
theorem k_l24_awake (N : Nat) : ConOk E ⟨11, ps_l24_awake, rs_l24_awake, l24_awake N⟩ := conOf envOk (x_l24_awake N) ⟨k_stl_Text N, k_slices_Equal_Lbyte_byte N, k_stl_Reduce N, trivial⟩ (show E.P.funcs[11]? = some Tryz.f11 from by kernel_rfl) (by kernel_rfl)
theorem k_l24_few (N : Nat) : ConOk E ⟨12, ps_l24_few, rs_l24_few, l24_few N⟩ := conOf envOk (x_l24_few N) trivial (show E.P.funcs[12]? = some Tryz.f12 from by kernel_rfl) (by kernel_rfl)
theorem k_timecode_rateError (N : Nat) : ConOk E ⟨77, ps_timecode_rateError, rs_timecode_rateError, timecode_rateError N⟩ := conOf envOk (x_timecode_rateError N) ⟨k_timebase_Valid N, k_timebase_CanDrop N, trivial⟩ (show E.P.funcs[77]? = some Tryz.f77 from by kernel_rfl) (by kernel_rfl)
theorem k_timebase_Nominal (N : Nat) : ConOk E ⟨78, ps_timebase_Nominal, rs_timebase_Nominal, timebase_Nominal N⟩ := conOf envOk (x_timebase_Nominal N) ⟨k_timebase_of N, trivial⟩ (show E.P.funcs[78]? = some Tryz.f78 from by kernel_rfl) (by kernel_rfl)
theorem k_timecode_dropped (N : Nat) : ConOk E ⟨79, ps_timecode_dropped, rs_timecode_dropped, timecode_dropped N⟩ := conOf envOk (x_timecode_dropped N) trivial (show E.P.funcs[79]? = some Tryz.f79 from by kernel_rfl) (by kernel_rfl)
theorem k_timecode_Day (N : Nat) : ConOk E ⟨31, ps_timecode_Day, rs_timecode_Day, timecode_Day N⟩ := conOf envOk (x_timecode_Day N) ⟨k_timecode_rateError N, k_timebase_Nominal N, k_timecode_dropped N, trivial⟩ (show E.P.funcs[31]? = some Tryz.f31 from by kernel_rfl) (by kernel_rfl)
theorem k_stl_Accept (N : Nat) : ConOk E ⟨13, ps_stl_Accept, rs_stl_Accept, stl_Accept N⟩ := conOf envOk (x_stl_Accept N) ⟨k_document_Check N, k_timecode_Day N, k_stl_placed N, k_stl_place_region N, k_stl_add N, trivial⟩ (show E.P.funcs[13]? = some Tryz.f13 from by kernel_rfl) (by kernel_rfl)
theorem k_timecode_Label (N : Nat) : ConOk E ⟨65, ps_timecode_Label, rs_timecode_Label, timecode_Label N⟩ := conOf envOk (x_timecode_Label N) ⟨k_timecode_rateError N, k_timecode_Day N, k_timebase_Nominal N, k_timecode_dropped N, trivial⟩ (show E.P.funcs[65]? = some Tryz.f65 from by kernel_rfl) (by kernel_rfl)
theorem k_tape_timed (N : Nat) : ConOk E ⟨179, ps_tape_timed, rs_tape_timed, tape_timed N⟩ := conOf envOk (x_tape_timed N) trivial (show E.P.funcs[179]? = some Tryz.f179 from by kernel_rfl) (by kernel_rfl)
theorem k_bytealg_IndexByte (N : Nat) : ConOk E ⟨180, ps_bytealg_IndexByte, rs_bytealg_IndexByte, bytealg_IndexByte N⟩ := kh_bytealg_IndexByte N
theorem k_bytes_IndexByte (N : Nat) : ConOk E ⟨125, ps_bytes_IndexByte, rs_bytes_IndexByte, bytes_IndexByte N⟩ := conOf envOk (x_bytes_IndexByte N) ⟨k_bytealg_IndexByte N, trivial⟩ (show E.P.funcs[125]? = some Tryz.f125 from by kernel_rfl) (by kernel_rfl)
theorem k_tape_Check (N : Nat) : ConOk E ⟨124, ps_tape_Check, rs_tape_Check, tape_Check N⟩ := conOf envOk (x_tape_Check N) ⟨k_tape_timed N, k_bytes_IndexByte N, trivial⟩ (show E.P.funcs[124]? = some Tryz.f124 from by kernel_rfl) (by kernel_rfl)
theorem k_bytes_Clone (N : Nat) : ConOk E ⟨126, ps_bytes_Clone, rs_bytes_Clone, bytes_Clone N⟩ := conOf envOk (x_bytes_Clone N) trivial (show E.P.funcs[126]? = some Tryz.f126 from by kernel_rfl) (by kernel_rfl)
theorem k_tape_Split (N : Nat) : ConOk E ⟨66, ps_tape_Split, rs_tape_Split, tape_Split N⟩ := conOf envOk (x_tape_Split N) ⟨k_tape_Check N, k_bytes_IndexByte N, k_bytes_Clone N, trivial⟩ (show E.P.funcs[66]? = some Tryz.f66 from by kernel_rfl) (by kernel_rfl)
theorem k_timecode_Check (N : Nat) : ConOk E ⟨200, ps_timecode_Check, rs_timecode_Check, timecode_Check N⟩ := conOf envOk (x_timecode_Check N) ⟨k_timecode_rateError N, k_timebase_Nominal N, k_timecode_dropped N, trivial⟩ (show E.P.funcs[200]? = some Tryz.f200 from by kernel_rfl) (by kernel_rfl)
theorem k_tape_CheckHeader (N : Nat) : ConOk E ⟨181, ps_tape_CheckHeader, rs_tape_CheckHeader, tape_CheckHeader N⟩ := conOf envOk (x_tape_CheckHeader N) ⟨k_lines_Name N, k_charset_Valid N, k_timecode_Check N, trivial⟩ (show E.P.funcs[181]? = some Tryz.f181 from by kernel_rfl) (by kernel_rfl)
theorem k_bits_Mul32 (N : Nat) : ConOk E ⟨246, ps_bits_Mul32, rs_bits_Mul32, bits_Mul32 N⟩ := conOf envOk (x_bits_Mul32 N) trivial (show E.P.funcs[246]? = some Tryz.f246 from by kernel_rfl) (by kernel_rfl)
theorem k_bits_Mul64 (N : Nat) : ConOk E ⟨247, ps_bits_Mul64, rs_bits_Mul64, bits_Mul64 N⟩ := conOf envOk (x_bits_Mul64 N) trivial (show E.P.funcs[247]? = some Tryz.f247 from by kernel_rfl) (by kernel_rfl)
theorem k_bits_Mul (N : Nat) : ConOk E ⟨224, ps_bits_Mul, rs_bits_Mul, bits_Mul N⟩ := conOf envOk (x_bits_Mul N) ⟨k_bits_Mul32 N, k_bits_Mul64 N, trivial⟩ (show E.P.funcs[224]? = some Tryz.f224 from by kernel_rfl) (by kernel_rfl)
theorem k_bytes_Repeat (N : Nat) : ConOk E ⟨182, ps_bytes_Repeat, rs_bytes_Repeat, bytes_Repeat N⟩ := conOf envOk (x_bytes_Repeat N) ⟨k_bits_Mul N, trivial⟩ (show E.P.funcs[182]? = some Tryz.f182 from by kernel_rfl) (by kernel_rfl)
theorem k_tape_signature (N : Nat) : ConOk E ⟨183, ps_tape_signature, rs_tape_signature, tape_signature N⟩ := conOf envOk (x_tape_signature N) trivial (show E.P.funcs[183]? = some Tryz.f183 from by kernel_rfl) (by kernel_rfl)
theorem k_tape_digits (N : Nat) : ConOk E ⟨184, ps_tape_digits, rs_tape_digits, tape_digits N⟩ := conOf envOk (x_tape_digits N) trivial (show E.P.funcs[184]? = some Tryz.f184 from by kernel_rfl) (by kernel_rfl)
theorem k_tape_clock (N : Nat) : ConOk E ⟨185, ps_tape_clock, rs_tape_clock, tape_clock N⟩ := conOf envOk (x_tape_clock N) ⟨k_tape_digits N, trivial⟩ (show E.P.funcs[185]? = some Tryz.f185 from by kernel_rfl) (by kernel_rfl)
theorem k_tape_PutHeader (N : Nat) : ConOk E ⟨127, ps_tape_PutHeader, rs_tape_PutHeader, tape_PutHeader N⟩ := conOf envOk (x_tape_PutHeader N) ⟨k_tape_CheckHeader N, k_latin_Encode N, k_bytes_Repeat N, k_tape_signature N, k_tape_digits N, k_tape_clock N, trivial⟩ (show E.P.funcs[127]? = some Tryz.f127 from by kernel_rfl) (by kernel_rfl)
theorem k_tape_Put (N : Nat) : ConOk E ⟨128, ps_tape_Put, rs_tape_Put, tape_Put N⟩ := conOf envOk (x_tape_Put N) ⟨k_tape_Check N, k_bytes_Repeat N, trivial⟩ (show E.P.funcs[128]? = some Tryz.f128 from by kernel_rfl) (by kernel_rfl)
theorem k_tape_Write (N : Nat) : ConOk E ⟨67, ps_tape_Write, rs_tape_Write, tape_Write N⟩ := conOf envOk (x_tape_Write N) ⟨k_tape_PutHeader N, k_tape_Put N, trivial⟩ (show E.P.funcs[67]? = some Tryz.f67 from by kernel_rfl) (by kernel_rfl)
theorem k_stl_Encode (N : Nat) : ConOk E ⟨27, ps_stl_Encode, rs_stl_Encode, stl_Encode N⟩ := conOf envOk (x_stl_Encode N) ⟨k_stl_Accept N, k_stl_placed N, k_timecode_Label N, k_stl_Text N, k_tape_Split N, k_tape_Write N, trivial⟩ (show E.P.funcs[27]? = some Tryz.f27 from by kernel_rfl) (by kernel_rfl)
theorem k_r08_Repertoire (N : Nat) : ConOk E ⟨221, ps_r08_Repertoire, rs_r08_Repertoire, r08_Repertoire N⟩ := conOf envOk (x_r08_Repertoire N) trivial (show E.P.funcs[221]? = some Tryz.f221 from by kernel_rfl) (by kernel_rfl)
theorem k_r08_Index (N : Nat) : ConOk E ⟨173, ps_r08_Index, rs_r08_Index, r08_Index N⟩ := conOf envOk (x_r08_Index N) ⟨k_r08_Repertoire N, trivial⟩ (show E.P.funcs[173]? = some Tryz.f173 from by kernel_rfl) (by kernel_rfl)
theorem k_r08_Valid (N : Nat) : ConOk E ⟨112, ps_r08_Valid, rs_r08_Valid, r08_Valid N⟩ := conOf envOk (x_r08_Valid N) ⟨k_r08_Index N, trivial⟩ (show E.P.funcs[112]? = some Tryz.f112 from by kernel_rfl) (by kernel_rfl)
theorem k_r07_digit (N : Nat) : ConOk E ⟨211, ps_r07_digit, rs_r07_digit, r07_digit N⟩ := conOf envOk (x_r07_digit N) trivial (show E.P.funcs[211]? = some Tryz.f211 from by kernel_rfl) (by kernel_rfl)
theorem k_r07_Name (N : Nat) : ConOk E ⟨151, ps_r07_Name, rs_r07_Name, r07_Name N⟩ := conOf envOk (x_r07_Name N) ⟨k_r07_digit N, trivial⟩ (show E.P.funcs[151]? = some Tryz.f151 from by kernel_rfl) (by kernel_rfl)
theorem k_r02_Valid (N : Nat) : ConOk E ⟨89, ps_r02_Valid, rs_r02_Valid, r02_Valid N⟩ := conOf envOk (x_r02_Valid N) trivial (show E.P.funcs[89]? = some Tryz.f89 from by kernel_rfl) (by kernel_rfl)
theorem k_r02_CanDrop (N : Nat) : ConOk E ⟨90, ps_r02_CanDrop, rs_r02_CanDrop, r02_CanDrop N⟩ := conOf envOk (x_r02_CanDrop N) trivial (show E.P.funcs[90]? = some Tryz.f90 from by kernel_rfl) (by kernel_rfl)
theorem k_r12_checkHead (N : Nat) : ConOk E ⟨83, ps_r12_checkHead, rs_r12_checkHead, r12_checkHead N⟩ := conOf envOk (x_r12_checkHead N) ⟨k_r08_Valid N, k_r07_Name N, k_r02_Valid N, k_r02_CanDrop N, trivial⟩ (show E.P.funcs[83]? = some Tryz.f83 from by kernel_rfl) (by kernel_rfl)
theorem k_r10_Check (N : Nat) : ConOk E ⟨152, ps_r10_Check, rs_r10_Check, r10_Check N⟩ := conOf envOk (x_r10_Check N) ⟨k_r07_Name N, trivial⟩ (show E.P.funcs[152]? = some Tryz.f152 from by kernel_rfl) (by kernel_rfl)
theorem k_r10_CheckList (N : Nat) : ConOk E ⟨84, ps_r10_CheckList, rs_r10_CheckList, r10_CheckList N⟩ := conOf envOk (x_r10_CheckList N) ⟨k_r10_Check N, trivial⟩ (show E.P.funcs[84]? = some Tryz.f84 from by kernel_rfl) (by kernel_rfl)
theorem k_r11_spanned (N : Nat) : ConOk E ⟨153, ps_r11_spanned, rs_r11_spanned, r11_spanned N⟩ := conOf envOk (x_r11_spanned N) trivial (show E.P.funcs[153]? = some Tryz.f153 from by kernel_rfl) (by kernel_rfl)
theorem k_r10_Default (N : Nat) : ConOk E ⟨159, ps_r10_Default, rs_r10_Default, r10_Default N⟩ := conOf envOk (x_r10_Default N) trivial (show E.P.funcs[159]? = some Tryz.f159 from by kernel_rfl) (by kernel_rfl)
theorem k_r10_Find (N : Nat) : ConOk E ⟨95, ps_r10_Find, rs_r10_Find, r10_Find N⟩ := conOf envOk (x_r10_Find N) ⟨k_r10_Default N, trivial⟩ (show E.P.funcs[95]? = some Tryz.f95 from by kernel_rfl) (by kernel_rfl)
theorem k_r09_Valid (N : Nat) : ConOk E ⟨113, ps_r09_Valid, rs_r09_Valid, r09_Valid N⟩ := conOf envOk (x_r09_Valid N) trivial (show E.P.funcs[113]? = some Tryz.f113 from by kernel_rfl) (by kernel_rfl)
theorem k_r09_Check (N : Nat) : ConOk E ⟨57, ps_r09_Check, rs_r09_Check, r09_Check N⟩ := conOf envOk (x_r09_Check N) ⟨k_r08_Valid N, k_r09_Valid N, trivial⟩ (show E.P.funcs[57]? = some Tryz.f57 from by kernel_rfl) (by kernel_rfl)
theorem k_r09_Plain (N : Nat) : ConOk E ⟨155, ps_r09_Plain, rs_r09_Plain, r09_Plain N⟩ := conOf envOk (x_r09_Plain N) trivial (show E.P.funcs[155]? = some Tryz.f155 from by kernel_rfl) (by kernel_rfl)
theorem k_r11_neat (N : Nat) : ConOk E ⟨154, ps_r11_neat, rs_r11_neat, r11_neat N⟩ := conOf envOk (x_r11_neat N) trivial (show E.P.funcs[154]? = some Tryz.f154 from by kernel_rfl) (by kernel_rfl)
theorem k_r08_runes (N : Nat) : ConOk E ⟨222, ps_r08_runes, rs_r08_runes, r08_runes N⟩ := conOf envOk (x_r08_runes N) trivial (show E.P.funcs[222]? = some Tryz.f222 from by kernel_rfl) (by kernel_rfl)
theorem k_r08_Len (N : Nat) : ConOk E ⟨212, ps_r08_Len, rs_r08_Len, r08_Len N⟩ := conOf envOk (x_r08_Len N) ⟨k_r08_Valid N, k_r08_runes N, trivial⟩ (show E.P.funcs[212]? = some Tryz.f212 from by kernel_rfl) (by kernel_rfl)
theorem k_r09_Len (N : Nat) : ConOk E ⟨156, ps_r09_Len, rs_r09_Len, r09_Len N⟩ := conOf envOk (x_r09_Len N) ⟨k_r08_Len N, trivial⟩ (show E.P.funcs[156]? = some Tryz.f156 from by kernel_rfl) (by kernel_rfl)
theorem k_r10_usable (N : Nat) : ConOk E ⟨213, ps_r10_usable, rs_r10_usable, r10_usable N⟩ := conOf envOk (x_r10_usable N) ⟨k_r10_Check N, k_r10_Default N, trivial⟩ (show E.P.funcs[213]? = some Tryz.f213 from by kernel_rfl) (by kernel_rfl)
theorem k_r10_Place (N : Nat) : ConOk E ⟨157, ps_r10_Place, rs_r10_Place, r10_Place N⟩ := conOf envOk (x_r10_Place N) ⟨k_r10_usable N, trivial⟩ (show E.P.funcs[157]? = some Tryz.f157 from by kernel_rfl) (by kernel_rfl)
theorem k_r11_Check (N : Nat) : ConOk E ⟨85, ps_r11_Check, rs_r11_Check, r11_Check N⟩ := conOf envOk (x_r11_Check N) ⟨k_r11_spanned N, k_r10_Find N, k_r07_Name N, k_r09_Check N, k_r09_Plain N, k_r11_neat N, k_r09_Len N, k_r10_Place N, trivial⟩ (show E.P.funcs[85]? = some Tryz.f85 from by kernel_rfl) (by kernel_rfl)
theorem k_r11_Less (N : Nat) : ConOk E ⟨86, ps_r11_Less, rs_r11_Less, r11_Less N⟩ := conOf envOk (x_r11_Less N) trivial (show E.P.funcs[86]? = some Tryz.f86 from by kernel_rfl) (by kernel_rfl)
theorem k_r12_Find (N : Nat) : ConOk E ⟨87, ps_r12_Find, rs_r12_Find, r12_Find N⟩ := conOf envOk (x_r12_Find N) trivial (show E.P.funcs[87]? = some Tryz.f87 from by kernel_rfl) (by kernel_rfl)
theorem k_r11_Len (N : Nat) : ConOk E ⟨158, ps_r11_Len, rs_r11_Len, r11_Len N⟩ := conOf envOk (x_r11_Len N) ⟨k_r09_Len N, trivial⟩ (show E.P.funcs[158]? = some Tryz.f158 from by kernel_rfl) (by kernel_rfl)
theorem k_r12_checkComment (N : Nat) : ConOk E ⟨88, ps_r12_checkComment, rs_r12_checkComment, r12_checkComment N⟩ := conOf envOk (x_r12_checkComment N) ⟨k_r12_Find N, k_r11_Len N, k_r07_Name N, k_r08_Valid N, trivial⟩ (show E.P.funcs[88]? = some Tryz.f88 from by kernel_rfl) (by kernel_rfl)
theorem k_r12_Check (N : Nat) : ConOk E ⟨35, ps_r12_Check, rs_r12_Check, r12_Check N⟩ := conOf envOk (x_r12_Check N) ⟨k_r12_checkHead N, k_r10_CheckList N, k_r11_Check N, k_r11_Less N, k_r12_Find N, k_r12_checkComment N, trivial⟩ (show E.P.funcs[35]? = some Tryz.f35 from by kernel_rfl) (by kernel_rfl)
theorem k_r02_Nominal (N : Nat) : ConOk E ⟨91, ps_r02_Nominal, rs_r02_Nominal, r02_Nominal N⟩ := conOf envOk (x_r02_Nominal N) ⟨k_r02_Valid N, trivial⟩ (show E.P.funcs[91]? = some Tryz.f91 from by kernel_rfl) (by kernel_rfl)
theorem k_r03_Dropped (N : Nat) : ConOk E ⟨92, ps_r03_Dropped, rs_r03_Dropped, r03_Dropped N⟩ := conOf envOk (x_r03_Dropped N) trivial (show E.P.funcs[92]? = some Tryz.f92 from by kernel_rfl) (by kernel_rfl)
theorem k_r03_Day (N : Nat) : ConOk E ⟨36, ps_r03_Day, rs_r03_Day, r03_Day N⟩ := conOf envOk (x_r03_Day N) ⟨k_r02_Valid N, k_r02_CanDrop N, k_r02_Nominal N, k_r03_Dropped N, trivial⟩ (show E.P.funcs[36]? = some Tryz.f36 from by kernel_rfl) (by kernel_rfl)
theorem k_r11_Spots (N : Nat) : ConOk E ⟨94, ps_r11_Spots, rs_r11_Spots, r11_Spots N⟩ := conOf envOk (x_r11_Spots N) ⟨k_r10_Find N, k_r09_Len N, k_r10_Place N, trivial⟩ (show E.P.funcs[94]? = some Tryz.f94 from by kernel_rfl) (by kernel_rfl)
theorem k_r24_place (N : Nat) : ConOk E ⟨39, ps_r24_place, rs_r24_place, r24_place N⟩ := conOf envOk (x_r24_place N) ⟨k_r11_Spots N, k_r10_Find N, trivial⟩ (show E.P.funcs[39]? = some Tryz.f39 from by kernel_rfl) (by kernel_rfl)
theorem k_r24_letters (N : Nat) : ConOk E ⟨93, ps_r24_letters, rs_r24_letters, r24_letters N⟩ := conOf envOk (x_r24_letters N) trivial (show E.P.funcs[93]? = some Tryz.f93 from by kernel_rfl) (by kernel_rfl)
theorem k_r24_region (N : Nat) : ConOk E ⟨38, ps_r24_region, rs_r24_region, r24_region N⟩ := conOf envOk (x_r24_region N) ⟨k_r24_letters N, trivial⟩ (show E.P.funcs[38]? = some Tryz.f38 from by kernel_rfl) (by kernel_rfl)
theorem k_r24_with (N : Nat) : ConOk E ⟨37, ps_r24_with, rs_r24_with, r24_with N⟩ := conOf envOk (x_r24_with N) trivial (show E.P.funcs[37]? = some Tryz.f37 from by kernel_rfl) (by kernel_rfl)
theorem k_r24_Accept (N : Nat) : ConOk E ⟨14, ps_r24_Accept, rs_r24_Accept, r24_Accept N⟩ := conOf envOk (x_r24_Accept N) ⟨k_r12_Check N, k_r03_Day N, k_r24_place N, k_r24_region N, k_r24_with N, trivial⟩ (show E.P.funcs[14]? = some Tryz.f14 from by kernel_rfl) (by kernel_rfl)
theorem k_r03_kind (N : Nat) : ConOk E ⟨129, ps_r03_kind, rs_r03_kind, r03_kind N⟩ := conOf envOk (x_r03_kind N) ⟨k_r02_Valid N, k_r02_CanDrop N, trivial⟩ (show E.P.funcs[129]? = some Tryz.f129 from by kernel_rfl) (by kernel_rfl)
theorem k_r03_Label (N : Nat) : ConOk E ⟨68, ps_r03_Label, rs_r03_Label, r03_Label N⟩ := conOf envOk (x_r03_Label N) ⟨k_r03_kind N, k_r03_Day N, k_r02_Nominal N, k_r03_Dropped N, trivial⟩ (show E.P.funcs[68]? = some Tryz.f68 from by kernel_rfl) (by kernel_rfl)
theorem k_r24_colors (N : Nat) : ConOk E ⟨114, ps_r24_colors, rs_r24_colors, r24_colors N⟩ := conOf envOk (x_r24_colors N) trivial (show E.P.funcs[114]? = some Tryz.f114 from by kernel_rfl) (by kernel_rfl)
theorem k_r24_onOff (N : Nat) : ConOk E ⟨115, ps_r24_onOff, rs_r24_onOff, r24_onOff N⟩ := conOf envOk (x_r24_onOff N) trivial (show E.P.funcs[115]? = some Tryz.f115 from by kernel_rfl) (by kernel_rfl)
theorem k_r08_Chars (N : Nat) : ConOk E ⟨174, ps_r08_Chars, rs_r08_Chars, r08_Chars N⟩ := conOf envOk (x_r08_Chars N) ⟨k_r08_Valid N, k_r08_runes N, trivial⟩ (show E.P.funcs[174]? = some Tryz.f174 from by kernel_rfl) (by kernel_rfl)
theorem k_r22_Carries (N : Nat) : ConOk E ⟨223, ps_r22_Carries, rs_r22_Carries, r22_Carries N⟩ := conOf envOk (x_r22_Carries N) ⟨k_r08_Index N, trivial⟩ (show E.P.funcs[223]? = some Tryz.f223 from by kernel_rfl) (by kernel_rfl)
theorem k_r22_single (N : Nat) : ConOk E ⟨176, ps_r22_single, rs_r22_single, r22_single N⟩ := conOf envOk (x_r22_single N) trivial (show E.P.funcs[176]? = some Tryz.f176 from by kernel_rfl) (by kernel_rfl)
theorem k_r22_double (N : Nat) : ConOk E ⟨177, ps_r22_double, rs_r22_double, r22_double N⟩ := conOf envOk (x_r22_double N) trivial (show E.P.funcs[177]? = some Tryz.f177 from by kernel_rfl) (by kernel_rfl)
theorem k_r22_Put (N : Nat) : ConOk E ⟨175, ps_r22_Put, rs_r22_Put, r22_Put N⟩ := conOf envOk (x_r22_Put N) ⟨k_r22_Carries N, k_r22_single N, k_r22_double N, trivial⟩ (show E.P.funcs[175]? = some Tryz.f175 from by kernel_rfl) (by kernel_rfl)
theorem k_r22_Encode (N : Nat) : ConOk E ⟨116, ps_r22_Encode, rs_r22_Encode, r22_Encode N⟩ := conOf envOk (x_r22_Encode N) ⟨k_r08_Valid N, k_r08_Chars N, k_r22_Put N, trivial⟩ (show E.P.funcs[116]? = some Tryz.f116 from by kernel_rfl) (by kernel_rfl)
theorem k_r24_row (N : Nat) : ConOk E ⟨58, ps_r24_row, rs_r24_row, r24_row N⟩ := conOf envOk (x_r24_row N) ⟨k_r24_colors N, k_r24_onOff N, k_r22_Encode N, trivial⟩ (show E.P.funcs[58]? = some Tryz.f58 from by kernel_rfl) (by kernel_rfl)
theorem k_r24_Text (N : Nat) : ConOk E ⟨21, ps_r24_Text, rs_r24_Text, r24_Text N⟩ := conOf envOk (x_r24_Text N) ⟨k_r09_Check N, k_r24_row N, trivial⟩ (show E.P.funcs[21]? = some Tryz.f21 from by kernel_rfl) (by kernel_rfl)
theorem k_r23_within (N : Nat) : ConOk E ⟨186, ps_r23_within, rs_r23_within, r23_within N⟩ := conOf envOk (x_r23_within N) trivial (show E.P.funcs[186]? = some Tryz.f186 from by kernel_rfl) (by kernel_rfl)
theorem k_r23_clock (N : Nat) : ConOk E ⟨187, ps_r23_clock, rs_r23_clock, r23_clock N⟩ := conOf envOk (x_r23_clock N) ⟨k_r23_within N, trivial⟩ (show E.P.funcs[187]? = some Tryz.f187 from by kernel_rfl) (by kernel_rfl)
theorem k_r23_filled (N : Nat) : ConOk E ⟨131, ps_r23_filled, rs_r23_filled, r23_filled N⟩ := conOf envOk (x_r23_filled N) trivial (show E.P.funcs[131]? = some Tryz.f131 from by kernel_rfl) (by kernel_rfl)
theorem k_r23_Check (N : Nat) : ConOk E ⟨130, ps_r23_Check, rs_r23_Check, r23_Check N⟩ := conOf envOk (x_r23_Check N) ⟨k_r23_within N, k_r23_clock N, k_r23_filled N, trivial⟩ (show E.P.funcs[130]? = some Tryz.f130 from by kernel_rfl) (by kernel_rfl)
theorem k_r23_Split (N : Nat) : ConOk E ⟨69, ps_r23_Split, rs_r23_Split, r23_Split N⟩ := conOf envOk (x_r23_Split N) ⟨k_r23_Check N, k_r23_filled N, trivial⟩ (show E.P.funcs[69]? = some Tryz.f69 from by kernel_rfl) (by kernel_rfl)
theorem k_r03_Check (N : Nat) : ConOk E ⟨208, ps_r03_Check, rs_r03_Check, r03_Check N⟩ := conOf envOk (x_r03_Check N) ⟨k_r03_kind N, k_r02_Nominal N, k_r03_Dropped N, trivial⟩ (show E.P.funcs[208]? = some Tryz.f208 from by kernel_rfl) (by kernel_rfl)
theorem k_r23_CheckHeader (N : Nat) : ConOk E ⟨188, ps_r23_CheckHeader, rs_r23_CheckHeader, r23_CheckHeader N⟩ := conOf envOk (x_r23_CheckHeader N) ⟨k_r07_Name N, k_r08_Valid N, k_r23_within N, k_r03_Check N, trivial⟩ (show E.P.funcs[188]? = some Tryz.f188 from by kernel_rfl) (by kernel_rfl)
theorem k_r23_fill (N : Nat) : ConOk E ⟨189, ps_r23_fill, rs_r23_fill, r23_fill N⟩ := conOf envOk (x_r23_fill N) trivial (show E.P.funcs[189]? = some Tryz.f189 from by kernel_rfl) (by kernel_rfl)
theorem kr_r23_digits (N : Nat) : ∀ D, ConOk E ⟨190, ps_r23_digits, rs_r23_digits, r23_digits_r N D⟩
  | 0 => fun _ _ h => by cases h
  | D + 1 => by
    have hc : CallsOk E [⟨190, ps_r23_digits, rs_r23_digits, r23_digits_r N D⟩] := callsOk_all ⟨kr_r23_digits N D, trivial⟩
    rw [← x_r23_digits N D]
    exact execF_ok envOk hc (drawn_ok envOk hc) (show E.P.funcs[190]? = some Tryz.f190 from by kernel_rfl) (by kernel_rfl) _ _ _
theorem k_r23_digits (N : Nat) : ConOk E ⟨190, ps_r23_digits, rs_r23_digits, r23_digits N⟩ := kr_r23_digits N N
theorem k_r23_label (N : Nat) : ConOk E ⟨191, ps_r23_label, rs_r23_label, r23_label N⟩ := conOf envOk (x_r23_label N) ⟨k_r23_digits N, trivial⟩ (show E.P.funcs[191]? = some Tryz.f191 from by kernel_rfl) (by kernel_rfl)
theorem k_r23_PutHeader (N : Nat) : ConOk E ⟨132, ps_r23_PutHeader, rs_r23_PutHeader, r23_PutHeader N⟩ := conOf envOk (x_r23_PutHeader N) ⟨k_r23_CheckHeader N, k_r22_Encode N, k_r23_fill N, k_r23_digits N, k_r23_label N, trivial⟩ (show E.P.funcs[132]? = some Tryz.f132 from by kernel_rfl) (by kernel_rfl)
theorem k_r23_Put (N : Nat) : ConOk E ⟨133, ps_r23_Put, rs_r23_Put, r23_Put N⟩ := conOf envOk (x_r23_Put N) ⟨k_r23_Check N, k_r23_fill N, trivial⟩ (show E.P.funcs[133]? = some Tryz.f133 from by kernel_rfl) (by kernel_rfl)
theorem k_r23_Write (N : Nat) : ConOk E ⟨70, ps_r23_Write, rs_r23_Write, r23_Write N⟩ := conOf envOk (x_r23_Write N) ⟨k_r23_PutHeader N, k_r23_Put N, trivial⟩ (show E.P.funcs[70]? = some Tryz.f70 from by kernel_rfl) (by kernel_rfl)
theorem k_r24_Encode (N : Nat) : ConOk E ⟨28, ps_r24_Encode, rs_r24_Encode, r24_Encode N⟩ := conOf envOk (x_r24_Encode N) ⟨k_r24_Accept N, k_r03_Label N, k_r24_place N, k_r24_Text N, k_r23_Split N, k_r23_Write N, trivial⟩ (show E.P.funcs[28]? = some Tryz.f28 from by kernel_rfl) (by kernel_rfl)
theorem k_l24_StlEncodes (N : Nat) : ConOk E ⟨7, ps_l24_StlEncodes, rs_l24_StlEncodes, l24_StlEncodes N⟩ := conOf envOk (x_l24_StlEncodes N) ⟨k_l24_awake N, k_l24_few N, k_stl_Encode N, k_r24_Encode N, k_slices_Equal_Lbyte_byte N, trivial⟩ (show E.P.funcs[7]? = some Tryz.f7 from by kernel_rfl) (by kernel_rfl)
end
end Go.Mo
end

section
/-
  Plain facts on the words of models; what is made of bytes.
-/
namespace Go.Mo
open Go Go.W

theorem grd_t {α : Type} {b : Bool} {k : Option α} (h : b = true) : grd b k = k := by subst h; rfl
theorem cnd_t {α : Type} {b : Bool} {x y : Option α} (h : b = true) : cnd b x y = x := by subst h; rfl
theorem cnd_f {α : Type} {b : Bool} {x y : Option α} (h : b = false) : cnd b x y = y := by subst h; rfl
theorem bnd_s {α β : Type} {x : Option α} {a : α} {k : α → Option β} (h : x = some a) : bnd x k = k a := by subst h; rfl
theorem jn_e {F α : Type} {k : F} {t : F → Option α} : jn k t = t k := rfl
theorem fixN_s {V R : Type} {F : (V → Option R) → V → Option R} {n : Nat} {v : V} : fixN F (n + 1) v = F (fixN F n) v := rfl
theorem w64_id {x : Int} (h : -9223372036854775808 ≤ x ∧ x ≤ 9223372036854775807) : w64 x = x := by
  show IntKind.wrap .i64 x = x
  unfold IntKind.wrap
  simp only [IntKind.bits, IntKind.signed, Bool.true_and, decide_eq_true_eq, show (2 : Int) ^ 64 = 18446744073709551616 from rfl, show (2 : Int) ^ (64 - 1) = 9223372036854775808 from rfl]
  split <;> omega
theorem wru64_id {x : Int} (h : 0 ≤ x ∧ x < 18446744073709551616) : wr .u64 x = x := by
  show IntKind.wrap .u64 x = x
  unfold IntKind.wrap
  simp only [IntKind.bits, IntKind.signed, Bool.false_and, Bool.false_eq_true, if_false]
  omega
theorem ilt_t {a b : Int} (h : a < b) : ilt a b = true := decide_eq_true h
theorem ilt_f {a b : Int} (h : ¬ a < b) : ilt a b = false := decide_eq_false h
theorem ile_t {a b : Int} (h : a ≤ b) : ile a b = true := decide_eq_true h
theorem ile_f {a b : Int} (h : ¬ a ≤ b) : ile a b = false := decide_eq_false h
theorem ieq_t {a b : Int} (h : a = b) : ieq a b = true := by subst h; simp [ieq]
theorem ieq_f {a b : Int} (h : a ≠ b) : ieq a b = false := by simp [ieq, h]
theorem ine_t {a b : Int} (h : a ≠ b) : ine a b = true := by simp [ine, h]
theorem ine_f {a b : Int} (h : a = b) : ine a b = false := by simp [ine, h]
theorem inb_t {i n : Int} (h : 0 ≤ i ∧ i < n) : inb i n = true := decide_eq_true h
theorem in2_t {i n : Int} (h : 0 ≤ i ∧ i ≤ n) : in2 i n = true := decide_eq_true h
theorem in3_t {l h n : Int} (q : 0 ≤ l ∧ l ≤ h ∧ h ≤ n) : in3 l h n = true := decide_eq_true q
theorem room_t {n : Int} {b : Nat} (h : n * b ≤ 140737488355328) : room n b = true := decide_eq_true h
theorem mkOk_t {l c : Int} {b : Nat} (h : 0 ≤ l ∧ l ≤ c ∧ c * b ≤ 140737488355328) : mkOk l c b = true := decide_eq_true h

theorem rep_loop {b : UInt8} {n : Nat} (hn : n ≤ 1024) : ∀ (fuel bp : Nat) (buf : List UInt8), n - bp < fuel → 1 ≤ bp → bp ≤ n → buf.length = n → buf.take bp = List.replicate bp b →
    fixN (fun v5 (v6 : Int × List UInt8) =>
                cnd (ilt v6.1 (n : Int))
                  (grd (in2 v6.1 (ofN (nlen v6.2)))
                    (grd (in2 (imin v6.1 (n : Int)) (ofN (nlen v6.2)))
                      (v5 (w64 (iadd v6.1 (imin (len (cutl v6.2 0 (toN (imin v6.1 (n : Int))))) (ofN (nsub (nlen v6.2) (toN v6.1))))), putl v6.2 (toN v6.1) (ltake (nsub (nlen v6.2) (toN v6.1)) (cutl v6.2 0 (toN (imin v6.1 (n : Int)))))))))
                  (some v6.2)) fuel ((bp : Int), buf) = some (List.replicate n b)
  | 0, bp, buf, h, _, _, _, _ => by omega
  | fuel + 1, bp, buf, h, h1, h2, h3, h4 => by
    rw [fixN_s]
    simp only
    by_cases he : bp = n
    · subst he
      rw [cnd_f (ilt_f (by omega))]
      rw [← h3, List.take_length, h3] at h4
      rw [h4]
    · have hmin : imin (bp : Int) (n : Int) = (bp : Int) := by show min (bp : Int) n = bp; omega
      rw [cnd_t (ilt_t (by omega)), grd_t (in2_t (by simp only [ofN, nlen]; omega)), hmin, grd_t (in2_t (by simp only [ofN, nlen]; omega))]
      have hc : cutl buf 0 (toN (bp : Int)) = List.replicate bp b := by
        simp only [cutl, toN, List.drop_zero, Int.toNat_natCast]
        exact h4
      have hsub : nsub (nlen buf) (toN (bp : Int)) = n - bp := by simp [nsub, nlen, toN, h3]
      rw [hc, hsub]
      have hl : imin (len (List.replicate bp b)) (ofN (n - bp)) = ((min bp (n - bp) : Nat) : Int) := by
        simp only [imin, len, ofN, List.length_replicate]; omega
      have hw : w64 (iadd (bp : Int) (imin (len (List.replicate bp b)) (ofN (n - bp)))) = ((bp + min bp (n - bp) : Nat) : Int) := by
        rw [hl]
        simp only [iadd]
        rw [w64_id (by omega)]
        omega
      rw [hw]
      have ht : ltake (n - bp) (List.replicate bp b) = List.replicate (min bp (n - bp)) b := by
        simp only [ltake, List.take_replicate]
        rw [Nat.min_comm]
      rw [ht]
      have hp : putl buf (toN (bp : Int)) (List.replicate (min bp (n - bp)) b) = List.replicate (bp + min bp (n - bp)) b ++ buf.drop (bp + min bp (n - bp)) := by
        simp only [putl, toN, Int.toNat_natCast, List.length_replicate]
        rw [h4, List.replicate_append_replicate]
      rw [hp]
      refine rep_loop hn fuel _ _ (by omega) (by omega) (by omega) ?_ ?_
      · simp [h3]; omega
      · rw [List.take_left' (by simp)]
theorem n8_inj {a b : UInt8} (h : n8 a = n8 b) : a = b := by
  unfold n8 at h
  apply UInt8.toNat_inj.1
  omega
theorem equal_loop {x y : List UInt8} (hl : x.length = y.length) (hb : x.length ≤ 100000000) : ∀ (fuel i : Nat), x.length - i < fuel → i ≤ x.length → x.take i = y.take i →
    fixN (fun v2 (v3 : Int) =>
      cnd (ilt v3 (len x))
        (grd (inb v3 (len x))
          (grd (inb v3 (len y))
            (cnd (ine (n8 (lget x (toN v3) (0 : UInt8))) (n8 (lget y (toN v3) (0 : UInt8))))
              (some false)
              (v2 (w64 (iadd v3 (1 : Int)))))))
        (some true)) fuel (i : Int) = some (decide (x = y))
  | 0, i, h, _, _ => by omega
  | fuel + 1, i, h, h1, h2 => by
    rw [fixN_s]
    by_cases he : i = x.length
    · rw [cnd_f (ilt_f (by simp only [len]; omega))]
      rw [he, List.take_length, hl, List.take_length] at h2
      simp [h2]
    · have hx : i < x.length := by omega
      have hy : i < y.length := by omega
      rw [cnd_t (ilt_t (by simp only [len]; omega)), grd_t (inb_t (by simp only [len]; omega)), grd_t (inb_t (by simp only [len]; omega))]
      have gx : lget x (toN (i : Int)) 0 = x[i] := by simp [lget, toN, hx]
      have gy : lget y (toN (i : Int)) 0 = y[i] := by simp [lget, toN, hy]
      rw [gx, gy]
      by_cases hc : x[i] = y[i]
      · rw [cnd_f (ine_f (by rw [hc]))]
        have hw : w64 (iadd (i : Int) 1) = ((i + 1 : Nat) : Int) := by
          simp only [iadd]; rw [w64_id (by omega)]; omega
        rw [hw]
        exact equal_loop hl hb fuel (i + 1) (by omega) (by omega) (by rw [List.take_succ_eq_append_getElem hx, List.take_succ_eq_append_getElem hy, h2, hc])
      · rw [cnd_t (ine_t fun h => hc (n8_inj h))]
        have : x ≠ y := fun h => hc (by subst h; rfl)
        simp [this]
theorem equal_eq {N : Nat} (x y : List UInt8) (hb : x.length ≤ 100000000) (hN : 100000001 ≤ N ∨ x.length < N) : slices_Equal_Lbyte_byte N (x, y) = some (decide (x = y)) := by
  unfold slices_Equal_Lbyte_byte
  simp only [jn_e]
  by_cases hl : x.length = y.length
  · rw [cnd_f (ine_f (by simp only [len]; omega))]
    exact equal_loop hl hb N 0 (by omega) (Nat.zero_le _) rfl
  · rw [cnd_t (ine_t (by simp only [len]; omega))]
    have : x ≠ y := fun h => hl (by rw [h])
    simp [this]

end Go.Mo
end

section
/-
  Plain facts: rates, labels, the repertoire of characters.
-/
namespace Go.Mo
open Go Go.W
set_option maxRecDepth 100000

theorem all_u8 {P : UInt8 → Bool} (h : ((List.range 256).all fun n => P (UInt8.ofNat n)) = true) (x : UInt8) : P x = true := by
  have h1 : x.toNat < 256 := x.toNat_lt
  have := List.all_eq_true.1 h x.toNat (List.mem_range.2 h1)
  simpa using this
end Go.Mo
end

section
/-
  Plain facts: the repertoire of characters.
-/
namespace Go.Mo
open Go Go.W
set_option maxRecDepth 100000
/-- some number: the kernel does not know which -/
noncomputable def fuelM : Nat := Classical.choose (⟨7995000, rfl⟩ : ∃ n : Nat, n = 7995000)
noncomputable def fuelH : Nat := fuelM + 5000
theorem fuelH_eq : fuelH = 8000000 := by
  have h : fuelM = 7995000 := Classical.choose_spec (⟨7995000, rfl⟩ : ∃ n : Nat, n = 7995000)
  unfold fuelH
  rw [h]
/-- the characters behind ASCII -/
noncomputable def hiRunes : List Int := [161, 162, 163, 164, 165, 166, 167, 169, 171, 174, 176, 183, 187, 189, 191, 192, 193, 194, 195, 196, 197, 198, 199, 200, 201, 202, 203, 204, 205, 206, 207, 209, 210, 211, 212, 213, 214, 216, 217, 218, 219, 220, 223, 224, 225, 226, 227, 228, 229, 230, 231, 232, 233, 234, 235, 236, 237, 238, 239, 241, 242, 243, 244, 245, 246, 248, 249, 250, 251, 252, 338, 339, 8212, 8216, 8217, 8220, 8221, 8226, 8230, 8482, 9834]
noncomputable def loRunes : List Int := (List.range 95).map fun n => ((n + 32 : Nat) : Int)
noncomputable def chain : List Int → Int → Int → Option Int
  | [], _, _ => some (-1)
  | c :: l, i, r => cnd (ieq c r) (some i) (chain l (iadd i 1) r)
noncomputable def rep : List UInt8 := [32, 33, 34, 35, 36, 37, 38, 39, 40, 41, 42, 43, 44, 45, 46, 47, 48, 49, 50, 51, 52, 53, 54, 55, 56, 57, 58, 59, 60, 61, 62, 63, 64, 65, 66, 67, 68, 69, 70, 71, 72, 73, 74, 75, 76, 77, 78, 79, 80, 81, 82, 83, 84, 85, 86, 87, 88, 89, 90, 91, 92, 93, 94, 95, 96, 97, 98, 99, 100, 101, 102, 103, 104, 105, 106, 107, 108, 109, 110, 111, 112, 113, 114, 115, 116, 117, 118, 119, 120, 121, 122, 123, 124, 125, 126, 194, 161, 194, 162, 194, 163, 194, 164, 194, 165, 194, 166, 194, 167, 194, 169, 194, 171, 194, 174, 194, 176, 194, 183, 194, 187, 194, 189, 194, 191, 195, 128, 195, 129, 195, 130, 195, 131, 195, 132, 195, 133, 195, 134, 195, 135, 195, 136, 195, 137, 195, 138, 195, 139, 195, 140, 195, 141, 195, 142, 195, 143, 195, 145, 195, 146, 195, 147, 195, 148, 195, 149, 195, 150, 195, 152, 195, 153, 195, 154, 195, 155, 195, 156, 195, 159, 195, 160, 195, 161, 195, 162, 195, 163, 195, 164, 195, 165, 195, 166, 195, 167, 195, 168, 195, 169, 195, 170, 195, 171, 195, 172, 195, 173, 195, 174, 195, 175, 195, 177, 195, 178, 195, 179, 195, 180, 195, 181, 195, 182, 195, 184, 195, 185, 195, 186, 195, 187, 195, 188, 197, 146, 197, 147, 226, 128, 148, 226, 128, 152, 226, 128, 153, 226, 128, 156, 226, 128, 157, 226, 128, 162, 226, 128, 166, 226, 132, 162, 226, 153, 170]
theorem place_eqN (N : Nat) (r : Int) : charset_place (N + 300) (rep, r) = chain (loRunes ++ hiRunes) 0 r := by kernel_rfl
theorem place_eq (r : Int) : charset_place fuelH (rep, r) = chain (loRunes ++ hiRunes) 0 r := place_eqN (fuelM + 4700) r
theorem r08_indexN (N : Nat) (r : Int) : r08_Index N r = cnd (ile 32 r) (cnd (ile r 126) (some (w64 (wr .i32 (isub r 32)))) (charset_place N (rep, r))) (charset_place N (rep, r)) := by kernel_rfl
theorem r08_index (r : Int) : r08_Index fuelH r = cnd (ile 32 r) (cnd (ile r 126) (some (w64 (wr .i32 (isub r 32)))) (charset_place fuelH (rep, r))) (charset_place fuelH (rep, r)) := r08_indexN fuelH r
theorem ch_indexN (N : Nat) (r : Int) : charset_Index N r = cnd (ile 32 r) (cnd (ile r 126) (some (w64 (wr .i32 (isub r 32)))) (bnd (charset_place N (rep, r)) fun v => some v)) (bnd (charset_place N (rep, r)) fun v => some v) := by kernel_rfl
theorem ch_index (r : Int) : charset_Index fuelH r = cnd (ile 32 r) (cnd (ile r 126) (some (w64 (wr .i32 (isub r 32)))) (bnd (charset_place fuelH (rep, r)) fun v => some v)) (bnd (charset_place fuelH (rep, r)) fun v => some v) := ch_indexN fuelH r
theorem chain_ok : ∀ (l : List Int) (i r : Int), 0 ≤ i → ∃ k, chain l i r = some k ∧ (k < 0 ↔ l.contains r = false)
  | [], i, r, _ => ⟨-1, rfl, by simp⟩
  | c :: l, i, r, h => by
    by_cases hc : c = r
    · exact ⟨i, by simp only [chain]; rw [cnd_t (ieq_t hc)], by subst hc; simp; omega⟩
    · obtain ⟨k, h1, h2⟩ := chain_ok l (iadd i 1) r (by show 0 ≤ i + 1; omega)
      refine ⟨k, by simp only [chain]; rw [cnd_f (ieq_f hc)]; exact h1, ?_⟩
      rw [h2]
      simp only [List.contains_cons, Bool.or_eq_false_iff]
      exact ⟨fun h => ⟨by simpa using fun e => hc e.symm, h⟩, fun h => h.2⟩
noncomputable def inRep (r : Int) : Bool := (decide (32 ≤ r) && decide (r ≤ 126)) || hiRunes.contains r
theorem wi32_id {x : Int} (h : 0 ≤ x ∧ x < 1000) : wr .i32 x = x := by
  show IntKind.wrap .i32 x = x
  unfold IntKind.wrap
  simp only [IntKind.bits, IntKind.signed, Bool.true_and, decide_eq_true_eq, show (2 : Int) ^ 32 = 4294967296 from rfl, show (2 : Int) ^ (32 - 1) = 2147483648 from rfl]
  split <;> omega
theorem lo_mem (r : Int) : loRunes.contains r = (decide (32 ≤ r) && decide (r ≤ 126)) := by
  rw [Bool.eq_iff_iff]
  simp only [loRunes, List.contains_iff_mem, List.mem_map, List.mem_range, Bool.and_eq_true, decide_eq_true_eq]
  constructor
  · rintro ⟨n, hn, rfl⟩; omega
  · intro h; exact ⟨(r - 32).toNat, by omega, by omega⟩
theorem index_some (r : Int) : ∃ i, charset_Index fuelH r = some i ∧ r08_Index fuelH r = some i ∧ (i < 0 ↔ inRep r = false) := by
  rw [ch_index, r08_index, place_eq]
  obtain ⟨k, h1, h2⟩ := chain_ok (loRunes ++ hiRunes) 0 r (Int.le_refl _)
  have hin : (loRunes ++ hiRunes).contains r = inRep r := by
    unfold inRep
    rw [← lo_mem]
    simp [List.contains_eq_mem, List.mem_append]
  rw [hin] at h2
  by_cases ha : 32 ≤ r
  · rw [cnd_t (ile_t ha), cnd_t (ile_t ha)]
    by_cases hb : r ≤ 126
    · rw [cnd_t (ile_t hb), cnd_t (ile_t hb)]
      refine ⟨_, rfl, rfl, ?_⟩
      have : w64 (wr .i32 (isub r 32)) = r - 32 := by
        simp only [isub]
        rw [wi32_id (by omega), w64_id (by omega)]
      rw [this]
      simp [inRep, ha, hb]
    · rw [cnd_f (ile_f hb), cnd_f (ile_f hb)]
      exact ⟨k, by rw [bnd_s h1], h1, h2⟩
  · rw [cnd_f (ile_f ha), cnd_f (ile_f ha)]
    exact ⟨k, by rw [bnd_s h1], h1, h2⟩
theorem index_stl (r : Int) : ∃ i, charset_Index fuelH r = some i ∧ (i < 0 ↔ inRep r = false) := by
  rw [ch_index, place_eq]
  obtain ⟨k, h1, h2⟩ := chain_ok (loRunes ++ hiRunes) 0 r (Int.le_refl _)
  have hin : (loRunes ++ hiRunes).contains r = inRep r := by
    unfold inRep
    rw [← lo_mem]
    simp [List.contains_eq_mem, List.mem_append]
  rw [hin] at h2
  by_cases ha : 32 ≤ r
  · rw [cnd_t (ile_t ha)]
    by_cases hb : r ≤ 126
    · rw [cnd_t (ile_t hb)]
      refine ⟨_, rfl, ?_⟩
      have : w64 (wr .i32 (isub r 32)) = r - 32 := by
        simp only [isub]
        rw [wi32_id (by omega), w64_id (by omega)]
      rw [this]
      simp [inRep, ha, hb]
    · rw [cnd_f (ile_f hb)]
      exact ⟨k, by rw [bnd_s h1], h2⟩
  · rw [cnd_f (ile_f ha)]
    exact ⟨k, by rw [bnd_s h1], h2⟩
end Go.Mo
end

section
/-
  Plain facts: texts of the repertoire.
-/
namespace Go.Mo
open Go Go.W Go.Lib
set_option maxRecDepth 100000

theorem dec_pos (l : List UInt8) : 1 ≤ (decodeL l).2 := by
  unfold decodeL Utf8.decode
  simp only
  repeat' split
  all_goals first | exact Nat.le_refl _ | (show 1 ≤ _; omega)
theorem decR_eq (s : List UInt8) (p : Nat) : decR s p = ((decodeL (s.drop p)).1 : Int) := by
  have := decodeL_drop (bst s) p
  have e : (bst s).data.toList = s := rfl
  rw [e] at this
  unfold decR
  rw [this]
theorem decW_eq (s : List UInt8) (p : Nat) : decW s p = (decodeL (s.drop p)).2 := by
  have := decodeL_drop (bst s) p
  have e : (bst s).data.toList = s := rfl
  rw [e] at this
  unfold decW
  rw [this]

noncomputable def rok : Nat → List UInt8 → Bool
  | 0, _ => true
  | n + 1, l => if l = [] then true else if inRep ((decodeL l).1 : Int) = true then rok n (l.drop (decodeL l).2) else false
/-- characters of the repertoire alone -/
noncomputable def vld (l : List UInt8) : Bool := rok l.length l
theorem rok_nil : ∀ n, rok n [] = true
  | 0 => rfl
  | n + 1 => by simp [rok]
theorem rok_fuel : ∀ (n m : Nat) (l : List UInt8), l.length ≤ n → l.length ≤ m → rok n l = rok m l
  | 0, m, l, h, _ => by
    have : l = [] := List.eq_nil_of_length_eq_zero (by omega)
    subst this
    rw [rok_nil, rok_nil]
  | n + 1, 0, l, _, h => by
    have : l = [] := List.eq_nil_of_length_eq_zero (by omega)
    subst this
    rw [rok_nil, rok_nil]
  | n + 1, m + 1, l, h1, h2 => by
    by_cases hl : l = []
    · subst hl; rw [rok_nil, rok_nil]
    · have hp := dec_pos l
      have hlen : 0 < l.length := List.length_pos_iff.2 hl
      simp only [rok, hl, if_false]
      split
      · exact rok_fuel n m _ (by simp; omega) (by simp; omega)
      · rfl
theorem vld_step (l : List UInt8) (hl : l ≠ []) : vld l = if inRep ((decodeL l).1 : Int) = true then vld (l.drop (decodeL l).2) else false := by
  have hp := dec_pos l
  have hlen : 0 < l.length := List.length_pos_iff.2 hl
  unfold vld
  obtain ⟨n, hn⟩ : ∃ n, l.length = n + 1 := ⟨l.length - 1, by omega⟩
  rw [hn]
  simp only [rok, hl, if_false]
  split
  · exact rok_fuel _ _ _ (by simp; omega) (Nat.le_refl _)
  · rfl
theorem vld_valid : ∀ (n : Nat) (l : List UInt8), l.length ≤ n → vld l = true → validD l = true
  | n, l, h, hv => by
    by_cases hl : l = []
    · subst hl; rfl
    · have hlen : 0 < l.length := List.length_pos_iff.2 hl
      have hp := dec_pos l
      rw [vld_step l hl] at hv
      split at hv
      · rename_i hr
        rw [validD_step l hl, if_neg ?_]
        · cases n with
          | zero => omega
          | succ n => exact vld_valid n _ (by simp; omega) hv
        · rintro ⟨e, _⟩
          rw [e] at hr
          exact absurd hr (by decide)
      · cases hv

theorem valid_loop {s : List UInt8} (hs : s.length ≤ 100000000) (Ix : Int → Option Int) (hI : ∀ r : Int, ∃ i, Ix r = some i ∧ (i < 0 ↔ inRep r = false)) : ∀ (fuel p : Nat), s.length - p < fuel → p ≤ s.length →
    fixN (fun v2 (v3 : (List UInt8) × Int) =>
    cnd (nlt (toN v3.2) (nlen v3.1))
      (bnd (Ix (decR v3.1 (toN v3.2))) fun v4 =>
      cnd (ilt v4 (0 : Int))
        (some false)
        (v2 (v3.1, ofN (nadd (toN v3.2) (decW v3.1 (toN v3.2))))))
      (some true)) fuel (s, ofN p) = some (vld (s.drop p))
  | 0, p, h, _ => by omega
  | fuel + 1, p, h, hp => by
    rw [fixN_s]
    have et : toN (ofN p) = p := by simp [toN, ofN]
    simp only [et]
    by_cases hl : p < s.length
    · have hne : s.drop p ≠ [] := by intro e; have := congrArg List.length e; simp at this; omega
      have hw := dec_pos (s.drop p)
      have hle := decodeL_le (s.drop p) hne
      rw [List.length_drop] at hle
      rw [cnd_t (show nlt p (nlen s) = true from decide_eq_true hl)]
      obtain ⟨i, h1, h2⟩ := hI (decR s p)
      rw [bnd_s h1]
      rw [vld_step _ hne, ← decR_eq]
      by_cases hi : i < 0
      · rw [cnd_t (ilt_t hi), if_neg (by rw [h2.1 hi]; decide)]
      · rw [cnd_f (ilt_f hi)]
        have hin : inRep (decR s p) = true := by
          cases hq : inRep (decR s p) with
          | true => rfl
          | false => exact absurd (h2.2 hq) hi
        rw [if_pos hin, decW_eq, List.drop_drop]
        show fixN _ fuel (s, ofN (p + (decodeL (s.drop p)).2)) = _
        exact valid_loop hs Ix hI fuel _ (by omega) (by omega)
    · rw [cnd_f (show nlt p (nlen s) = false from decide_eq_false hl)]
      have : s.drop p = [] := by simp; omega
      rw [this]
      rfl
theorem r08_valid (s : List UInt8) (hs : s.length ≤ 4000000) : r08_Valid fuelH s = some (vld s) := by
  unfold r08_Valid
  simp only [jn_e]
  have := valid_loop (s := s) (by omega) (r08_Index fuelH) (fun r => by obtain ⟨i, _, h2, h3⟩ := index_some r; exact ⟨i, h2, h3⟩) fuelH 0 (by have := fuelH_eq; omega) (Nat.zero_le _)
  simpa using this
theorem ch_valid (s : List UInt8) (hs : s.length ≤ 4000000) : charset_Valid fuelH s = some (vld s) := by
  unfold charset_Valid
  have hv : utf8_ValidString fuelH s = some (validD s) := by
    show grd (catOk (len s)) (some (validD s)) = _
    exact grd_t (decide_eq_true (by simp only [len]; omega))
  rw [bnd_s hv]
  simp only [jn_e]
  cases hd : validD s with
  | false =>
    rw [cnd_t (show bnot false = true from rfl)]
    cases hq : vld s with
    | false => rfl
    | true => rw [vld_valid _ s (Nat.le_refl _) hq] at hd; cases hd
  | true =>
    rw [cnd_f (show bnot true = false from rfl)]
    have := valid_loop (s := s) (by omega) (charset_Index fuelH) (fun r => by obtain ⟨i, h2, h3⟩ := index_stl r; exact ⟨i, h2, h3⟩) fuelH 0 (by have := fuelH_eq; omega) (Nat.zero_le _)
    simpa using this
end Go.Mo
end

section
/-
  Plain facts: names; the check of a header.
-/
namespace Go.Mo
open Go Go.W Go.Lib
set_option maxRecDepth 100000

theorem cnd_dec {α : Type} {p : Prop} [Decidable p] {x y : Option α} : cnd (decide p) x y = if p then x else y := by
  by_cases h : p
  · rw [cnd_t (decide_eq_true h), if_pos h]
  · rw [cnd_f (decide_eq_false h), if_neg h]
theorem cnd_ilt {α : Type} {a b : Int} {x y : Option α} : cnd (ilt a b) x y = if a < b then x else y := cnd_dec
theorem cnd_ile {α : Type} {a b : Int} {x y : Option α} : cnd (ile a b) x y = if a ≤ b then x else y := cnd_dec
theorem cnd_ieq {α : Type} {a b : Int} {x y : Option α} : cnd (ieq a b) x y = if a = b then x else y := by
  by_cases h : a = b
  · rw [cnd_t (ieq_t h), if_pos h]
  · rw [cnd_f (ieq_f h), if_neg h]
theorem cnd_ine {α : Type} {a b : Int} {x y : Option α} : cnd (ine a b) x y = if a ≠ b then x else y := by
  by_cases h : a = b
  · rw [cnd_f (ine_f h), if_neg (by simp [h])]
  · rw [cnd_t (ine_t h), if_pos h]
/-- may stand in a name -/
noncomputable def okc (c : Int) : Bool := decide ((65 ≤ c ∧ c ≤ 90) ∨ (48 ≤ c ∧ c ≤ 57) ∨ c = 95 ∨ c = 45)
theorem nm_body (c : Int) (X : Option Bool) :
    (cnd (ilt c (n8 (65 : UInt8)))
                    (cnd (ilt c (n8 (48 : UInt8)))
                      (cnd (ine c (n8 (95 : UInt8)))
                        (cnd (ine c (n8 (45 : UInt8)))
                          (some false)
                          X)
                        X)
                      (cnd (ilt (n8 (57 : UInt8)) c)
                        (cnd (ine c (n8 (95 : UInt8)))
                          (cnd (ine c (n8 (45 : UInt8)))
                            (some false)
                            X)
                          X)
                        X))
                    (cnd (ilt (n8 (90 : UInt8)) c)
                      (cnd (ilt c (n8 (48 : UInt8)))
                        (cnd (ine c (n8 (95 : UInt8)))
                          (cnd (ine c (n8 (45 : UInt8)))
                            (some false)
                            X)
                          X)
                        (cnd (ilt (n8 (57 : UInt8)) c)
                          (cnd (ine c (n8 (95 : UInt8)))
                            (cnd (ine c (n8 (45 : UInt8)))
                              (some false)
                              X)
                            X)
                          X))
                      X)) = cnd (okc c) X (some false) := by
  have e1 : n8 (65 : UInt8) = 65 := rfl
  have e2 : n8 (48 : UInt8) = 48 := rfl
  have e3 : n8 (95 : UInt8) = 95 := rfl
  have e4 : n8 (45 : UInt8) = 45 := rfl
  have e5 : n8 (57 : UInt8) = 57 := rfl
  have e6 : n8 (90 : UInt8) = 90 := rfl
  rw [e1, e2, e3, e4, e5, e6]
  simp only [cnd_ilt, cnd_ine, okc, cnd_dec]
  repeat' split
  all_goals first | rfl | (exfalso; omega)
noncomputable def upc (c : Int) : Bool := decide (65 ≤ c ∧ c ≤ 90)
/-- a name -/
noncomputable def nm (s : List UInt8) : Bool := decide (1 ≤ s.length ∧ s.length ≤ 16) && upc (n8 (s.getD 0 0)) && s.all fun c => okc (n8 c)
theorem all_step {s : List UInt8} {i : Nat} (h : i < s.length) (P : UInt8 → Bool) : (s.drop i).all P = (P s[i] && (s.drop (i + 1)).all P) := by
  rw [List.drop_eq_getElem_cons h, List.all_cons]
theorem nm_loop {s : List UInt8} (hs : s.length ≤ 16) : ∀ (fuel i : Nat), s.length - i < fuel → i ≤ s.length →
    fixN (fun v2 (v3 : Int) =>
                cnd (ilt v3 (len s))
                  (grd (inb v3 (len s)) (cnd (okc (n8 (lget s (toN v3) (0 : UInt8)))) (v2 (w64 (iadd v3 (1 : Int)))) (some false)))
                  (some true)) fuel (i : Int) = some ((s.drop i).all fun c => okc (n8 c))
  | 0, i, h, _ => by omega
  | fuel + 1, i, h, hi => by
    rw [fixN_s]
    by_cases hl : i < s.length
    · have g : lget s (toN (i : Int)) 0 = s[i] := by simp [lget, toN, hl]
      rw [cnd_t (ilt_t (by simp only [len]; omega)), grd_t (inb_t (by simp only [len]; omega)), g, all_step hl]
      have hw : w64 (iadd (i : Int) 1) = ((i + 1 : Nat) : Int) := by
        simp only [iadd]; rw [w64_id (by omega)]; omega
      rw [hw, nm_loop hs fuel (i + 1) (by omega) (by omega)]
      cases okc (n8 s[i]) <;> rfl
    · rw [cnd_f (ilt_f (by simp only [len]; omega))]
      have : s.drop i = [] := by simp; omega
      rw [this]
      rfl
theorem lines_name (s : List UInt8) : lines_Name fuelH s = some (nm s) := by
  unfold lines_Name
  simp only [jn_e, nm_body]
  by_cases h1 : s.length < 1
  · rw [cnd_t (ilt_t (by simp only [len]; omega))]
    simp [nm]; omega
  · rw [cnd_f (ilt_f (by simp only [len]; omega))]
    by_cases h2 : 16 < s.length
    · rw [cnd_t (ilt_t (by simp only [len]; omega))]
      simp [nm]; omega
    · rw [cnd_f (ilt_f (by simp only [len]; omega)), grd_t (inb_t (by simp only [len]; omega))]
      have e0 : lget s (toN 0) 0 = s.getD 0 0 := rfl
      have e1 : n8 (65 : UInt8) = 65 := rfl
      have e2 : n8 (90 : UInt8) = 90 := rfl
      rw [e0, e1, e2, cnd_ilt]
      have hd : decide (1 ≤ s.length ∧ s.length ≤ 16) = true := decide_eq_true (by omega)
      split
      · rename_i h3
        have : upc (n8 (s.getD 0 0)) = false := decide_eq_false (by omega)
        simp only [nm, this, Bool.and_false, Bool.false_and]
      · rw [grd_t (inb_t (by simp only [len]; omega)), cnd_ilt]
        split
        · rename_i h4
          have : upc (n8 (s.getD 0 0)) = false := decide_eq_false (by omega)
          simp only [nm, this, Bool.and_false, Bool.false_and]
        · have hu : upc (n8 (s.getD 0 0)) = true := decide_eq_true (by omega)
          have := nm_loop (s := s) (by omega) fuelH 0 (by have := fuelH_eq; omega) (Nat.zero_le _)
          simp only [nm, hu, hd, Bool.true_and]
          simpa using this
end Go.Mo
end

section
/-
  Plain facts: the check of a header.
-/
namespace Go.Mo
open Go Go.W Go.Lib
set_option maxRecDepth 100000
abbrev Lbl := Int × Int × Int × Int × Bool
abbrev Hdr := UInt8 × (List UInt8) × (List UInt8) × Int × Int × Lbl × Lbl × Int × Int
theorem cnd_bnot {α : Type} {p : Prop} [Decidable p] {x y : Option α} : cnd (bnot (decide p)) x y = if p then y else x := by
  by_cases hp : p <;> simp [hp, bnot, cnd]
theorem bnd_some' {α β : Type} {a : α} {k : α → Option β} : bnd (some a) k = k a := rfl
theorem rng_eq {α : Type} {n lo hi : Int} {x r : Option α} : cnd (bnot (decide (lo ≤ n ∧ n ≤ hi))) x r = cnd (ilt n lo) x (cnd (ilt hi n) x r) := by
  rw [cnd_bnot, cnd_ilt, cnd_ilt]
  repeat' split
  all_goals first | rfl | (exfalso; omega)
end Go.Mo
end

section
/-
  Plain facts: the characters of a text, and the text of characters.
-/
namespace Go.Mo
open Go Go.W Go.Lib
set_option maxRecDepth 100000

noncomputable def rnsF : Nat → List UInt8 → List Int
  | 0, _ => []
  | n + 1, l => if l = [] then [] else ((decodeL l).1 : Int) :: rnsF n (l.drop (decodeL l).2)
/-- the characters of a text -/
noncomputable def rns (l : List UInt8) : List Int := rnsF l.length l
/-- the text of characters -/
noncomputable def ofR (l : List Int) : List UInt8 := l.flatMap enc
theorem rnsF_nil : ∀ n, rnsF n [] = []
  | 0 => rfl
  | n + 1 => by simp [rnsF]
theorem rnsF_fuel : ∀ (n m : Nat) (l : List UInt8), l.length ≤ n → l.length ≤ m → rnsF n l = rnsF m l
  | 0, m, l, h, _ => by
    have : l = [] := List.eq_nil_of_length_eq_zero (by omega)
    subst this
    rw [rnsF_nil, rnsF_nil]
  | n + 1, 0, l, _, h => by
    have : l = [] := List.eq_nil_of_length_eq_zero (by omega)
    subst this
    rw [rnsF_nil, rnsF_nil]
  | n + 1, m + 1, l, h1, h2 => by
    by_cases hl : l = []
    · subst hl; rw [rnsF_nil, rnsF_nil]
    · have hp := dec_pos l
      have hlen : 0 < l.length := List.length_pos_iff.2 hl
      simp only [rnsF, hl, if_false]
      rw [rnsF_fuel n m _ (by simp; omega) (by simp; omega)]
theorem rns_step (l : List UInt8) (hl : l ≠ []) : rns l = ((decodeL l).1 : Int) :: rns (l.drop (decodeL l).2) := by
  have hp := dec_pos l
  have hlen : 0 < l.length := List.length_pos_iff.2 hl
  unfold rns
  obtain ⟨n, hn⟩ : ∃ n, l.length = n + 1 := ⟨l.length - 1, by omega⟩
  rw [hn]
  simp only [rnsF, hl, if_false]
  rw [rnsF_fuel n _ _ (by simp; omega) (Nat.le_refl _)]
theorem rep_mem {r : Int} (h : inRep r = true) : r ∈ loRunes ++ hiRunes := by
  unfold inRep at h
  rw [← lo_mem, Bool.or_eq_true] at h
  rw [List.mem_append]
  rcases h with h | h
  · exact .inl (List.contains_iff_mem.1 h)
  · exact .inr (List.contains_iff_mem.1 h)
theorem all_rep {P : Int → Bool} (h : ((loRunes ++ hiRunes).all P) = true) {r : Int} (hr : inRep r = true) : P r = true :=
  List.all_eq_true.1 h r (rep_mem hr)
theorem enc_rep {r : Int} (hr : inRep r = true) : enc r = encodeRune r :=
  of_decide_eq_true (all_rep (P := fun r => decide (enc r = encodeRune r)) (by kernel_rfl) hr)
theorem enc_dec (l : List UInt8) (hl : l ≠ []) (hr : inRep ((decodeL l).1 : Int) = true) : enc ((decodeL l).1 : Int) = l.take (decodeL l).2 := by
  rw [enc_rep hr]
  refine encode_decode l hl ?_
  rintro ⟨e, _⟩
  rw [e] at hr
  exact absurd hr (by decide)
theorem rns_rep : ∀ (n : Nat) (l : List UInt8), l.length ≤ n → vld l = true → (rns l).all inRep = true ∧ ofR (rns l) = l
  | n, l, h, hv => by
    by_cases hl : l = []
    · subst hl; exact ⟨rfl, rfl⟩
    · have hlen : 0 < l.length := List.length_pos_iff.2 hl
      have hp := dec_pos l
      rw [vld_step l hl] at hv
      split at hv
      · rename_i hr
        cases n with
        | zero => omega
        | succ n =>
          obtain ⟨h1, h2⟩ := rns_rep n _ (by simp; omega) hv
          rw [rns_step l hl]
          refine ⟨by rw [List.all_cons, hr, h1]; rfl, ?_⟩
          unfold ofR at h2 ⊢
          rw [List.flatMap_cons, h2, enc_dec l hl hr, List.take_append_drop]
      · cases hv
theorem rns_ok {l : List UInt8} (h : vld l = true) : (rns l).all inRep = true := (rns_rep _ l (Nat.le_refl _) h).1
theorem ofR_rns {l : List UInt8} (h : vld l = true) : ofR (rns l) = l := (rns_rep _ l (Nat.le_refl _) h).2
theorem rns_len : ∀ (n : Nat) (l : List UInt8), l.length ≤ n → (rns l).length ≤ l.length
  | n, l, h => by
    by_cases hl : l = []
    · subst hl; exact Nat.le_refl _
    · have hlen : 0 < l.length := List.length_pos_iff.2 hl
      have hp := dec_pos l
      rw [rns_step l hl]
      cases n with
      | zero => omega
      | succ n =>
        have := rns_len n (l.drop (decodeL l).2) (by simp; omega)
        simp at this ⊢
        omega

noncomputable def foldR {σ R : Type} (g : Int → σ → (σ → Option R) → Option R) (e : σ → Option R) : List Int → σ → Option R
  | [], a => e a
  | r :: l, a => g r a fun a' => foldR g e l a'
/-- a loop over the characters of a text -/
theorem str_loop {V R σ : Type} {F : (V → Option R) → V → Option R} {s : List UInt8} (st : σ → Nat → V) (g : Int → σ → (σ → Option R) → Option R) (e : σ → Option R)
    (hstep : ∀ self a p, p < s.length → F self (st a p) = g (decR s p) a fun a' => self (st a' (p + decW s p)))
    (hend : ∀ self a p, s.length ≤ p → F self (st a p) = e a) : ∀ (fuel p : Nat) (a : σ), s.length - p < fuel → fixN F fuel (st a p) = foldR g e (rns (s.drop p)) a
  | 0, p, a, h => by omega
  | fuel + 1, p, a, h => by
    rw [fixN_s]
    by_cases hp : p < s.length
    · have hne : s.drop p ≠ [] := by intro e; have := congrArg List.length e; simp at this; omega
      have hw := dec_pos (s.drop p)
      rw [hstep _ _ _ hp, rns_step _ hne, ← decR_eq, foldR, List.drop_drop, ← decW_eq]
      congr 1
      funext a'
      rw [decW_eq]
      have := str_loop st g e hstep hend fuel (p + (decodeL (s.drop p)).2) a' (by omega)
      exact this
    · rw [hend _ _ _ (by omega)]
      have : s.drop p = [] := by simp; omega
      rw [this]
      rfl
noncomputable def foldI {α σ R : Type} (g : Nat → α → σ → (σ → Option R) → Option R) (e : σ → Option R) : Nat → List α → σ → Option R
  | _, [], a => e a
  | i, x :: l, a => g i x a fun a' => foldI g e (i + 1) l a'
/-- a loop over the elements of a list -/
theorem lst_loop {V R σ α : Type} {F : (V → Option R) → V → Option R} {l : List α} (st : σ → Nat → V) (g : Nat → α → σ → (σ → Option R) → Option R) (e : σ → Option R)
    (hstep : ∀ self a i (h : i < l.length), F self (st a i) = g i l[i] a fun a' => self (st a' (i + 1)))
    (hend : ∀ self a, F self (st a l.length) = e a) : ∀ (fuel i : Nat) (a : σ), i ≤ l.length → l.length - i < fuel → fixN F fuel (st a i) = foldI g e i (l.drop i) a
  | 0, i, a, _, h => by omega
  | fuel + 1, i, a, hi, h => by
    rw [fixN_s]
    by_cases hl : i < l.length
    · rw [hstep _ _ _ hl, List.drop_eq_getElem_cons hl, foldI]
      congr 1
      funext a'
      exact lst_loop st g e hstep hend fuel (i + 1) a' (by omega) (by omega)
    · obtain rfl : i = l.length := by omega
      rw [hend, List.drop_length]
      rfl
theorem w64_succ {i n : Nat} (h : i < n) (hn : n ≤ 9223372036854775807) : w64 (iadd (i : Int) 1) = ((i + 1 : Nat) : Int) := by
  simp only [iadd]; rw [w64_id (by omega)]; omega
theorem lget_i {α : Type} {l : List α} {i : Nat} {d : α} (h : i < l.length) : lget l (toN (i : Int)) d = l[i] := by simp [lget, toN, h]
theorem nlt_t {a b : Nat} (h : a < b) : nlt a b = true := decide_eq_true h
theorem nlt_f {a b : Nat} (h : ¬ a < b) : nlt a b = false := decide_eq_false h
theorem toN_ofN (n : Nat) : toN (ofN n) = n := by simp [toN, ofN]
end Go.Mo
end

section
/-
  Plain facts: the characters of the tape form.
-/
namespace Go.Mo
open Go Go.W Go.Lib
set_option maxRecDepth 100000

noncomputable def ixE (r : Int) : Option Int := cnd (ile 32 r) (cnd (ile r 126) (some (w64 (wr .i32 (isub r 32)))) (chain (loRunes ++ hiRunes) 0 r)) (chain (loRunes ++ hiRunes) 0 r)
theorem bnd_id {α : Type} (x : Option α) : (bnd x fun v => some v) = x := by cases x <;> rfl
theorem ch_ix (r : Int) : charset_Index fuelH r = ixE r := by
  rw [ch_index, place_eq, bnd_id]
  rfl
theorem r08_ix (r : Int) : r08_Index fuelH r = ixE r := by
  rw [r08_index, place_eq]
  rfl
noncomputable def ix (r : Int) : Int := (ixE r).getD 0
theorem ix_tab : ((loRunes ++ hiRunes).all fun r => decide (ixE r = some (ix r) ∧ 0 ≤ ix r)) = true := by kernel_rfl
theorem ix_ok {r : Int} (hr : inRep r = true) : ixE r = some (ix r) ∧ 0 ≤ ix r := of_decide_eq_true (all_rep (P := fun r => decide (ixE r = some (ix r) ∧ 0 ≤ ix r)) ix_tab hr)
/-- the capital letter -/
noncomputable def up (r : Int) : Int := if (97 ≤ r ∧ r ≤ 122) ∨ (224 ≤ r ∧ r ≤ 255) then r - 32 else if r = 339 then 338 else r
noncomputable def upK (x v0 : Int) : Option Int :=
  cnd (ilt v0 (0 : Int))
    (some (0 : Int))
    (jn (fun (v1 : Bool) =>
      cnd v1
        (some (wr .i32 (isub x (32 : Int))))
        (cnd (ieq x (339 : Int))
          (some (338 : Int))
          (some x)))
    fun v2 =>
    cnd (ile (97 : Int) x)
      (cnd (ile x (122 : Int))
        (v2 (ile x (122 : Int)))
        (cnd (ile (224 : Int) x)
          (v2 (ile x (255 : Int)))
          (v2 false)))
      (cnd (ile (224 : Int) x)
        (v2 (ile x (255 : Int)))
        (v2 false)))
theorem upper_eq {r : Int} (hr : inRep r = true) : charset_Upper fuelH r = some (up r) := by
  have h : charset_Upper fuelH r = bnd (charset_Index fuelH r) (upK r) := rfl
  rw [h, ch_ix, (ix_ok hr).1, bnd_some']
  exact of_decide_eq_true (all_rep (P := fun r => decide (upK r (ix r) = some (up r))) (by kernel_rfl) hr)
/-- the letter of a letter with a diacritic -/
noncomputable def basT : List Int := [33, 99, 76, 36, 89, 124, 83, 67, 34, 82, 111, 46, 34, 50, 63, 65, 65, 65, 65, 65, 65, 65, 67, 69, 69, 69, 69, 73, 73, 73, 73, 78, 79, 79, 79, 79, 79, 79, 85, 85, 85, 85, 115, 97, 97, 97, 97, 97, 97, 97, 99, 101, 101, 101, 101, 105, 105, 105, 105, 110, 111, 111, 111, 111, 111, 111, 117, 117, 117, 117, 79, 111, 45, 39, 39, 34, 34, 46, 46, 84, 35]
noncomputable def bas (r : Int) : Int := if r < 127 then r else basT.getD ((ix r).toNat - 95) 0
noncomputable def basB : List UInt8 := [33, 99, 76, 36, 89, 124, 83, 67, 34, 82, 111, 46, 34, 50, 63, 65, 65, 65, 65, 65, 65, 65, 67, 69, 69, 69, 69, 73, 73, 73, 73, 78, 79, 79, 79, 79, 79, 79, 85, 85, 85, 85, 115, 97, 97, 97, 97, 97, 97, 97, 99, 101, 101, 101, 101, 105, 105, 105, 105, 110, 111, 111, 111, 111, 111, 111, 117, 117, 117, 117, 79, 111, 45, 39, 39, 34, 34, 46, 46, 84, 35]
noncomputable def basK (x v0 : Int) : Option Int :=
  cnd (ilt v0 (0 : Int))
    (some (0 : Int))
    (cnd (ilt v0 (95 : Int))
      (some x)
      (grd (inb (w64 (isub v0 (95 : Int))) (len basB))
        (some (wr .i32 (n8 (lget basB (toN (w64 (isub v0 (95 : Int)))) (0 : UInt8)))))))
theorem base_eq {r : Int} (hr : inRep r = true) : charset_Base fuelH r = some (bas r) := by
  have h : charset_Base fuelH r = bnd (charset_Index fuelH r) (basK r) := by kernel_rfl
  rw [h, ch_ix, (ix_ok hr).1, bnd_some']
  exact of_decide_eq_true (all_rep (P := fun r => decide (basK r (ix r) = some (bas r))) (by kernel_rfl) hr)
/-- the bytes of diacritics, and their letters -/
noncomputable def accs : List (UInt8 × List UInt8 × List Int) := [(193, [195, 128, 195, 136, 195, 140, 195, 146, 195, 153], [192, 200, 204, 210, 217]), (194, [195, 129, 195, 137, 195, 141, 195, 147, 195, 154], [193, 201, 205, 211, 218]), (195, [195, 130, 195, 138, 195, 142, 195, 148, 195, 155], [194, 202, 206, 212, 219]), (196, [195, 131, 195, 145, 195, 149], [195, 209, 213]), (197, [], []), (198, [], []), (199, [], []), (200, [195, 132, 195, 139, 195, 143, 195, 150, 195, 156], [196, 203, 207, 214, 220]), (201, [], []), (202, [195, 133], [197]), (203, [195, 135], [199])]
theorem cont_tab : (accs.all fun a => (loRunes ++ hiRunes).all fun r => decide (strings_ContainsRune fuelH (a.2.1, up r) = some (a.2.2.contains (up r)))) = true := by kernel_rfl
theorem cont_eq {a : UInt8 × List UInt8 × List Int} (ha : a ∈ accs) {r : Int} (hr : inRep r = true) : strings_ContainsRune fuelH (a.2.1, up r) = some (a.2.2.contains (up r)) :=
  of_decide_eq_true (all_rep (P := fun r => decide (strings_ContainsRune fuelH (a.2.1, up r) = some (a.2.2.contains (up r)))) (List.all_eq_true.1 cont_tab a ha) hr)
noncomputable def sgs : List (Int × UInt8) := [(161, 161), (162, 162), (163, 163), (164, 164), (165, 165), (166, 166), (167, 167), (169, 168), (8216, 169), (8220, 170), (171, 171), (174, 172), (8212, 173), (8226, 174), (8230, 175), (176, 176), (8482, 180), (183, 183), (8217, 185), (8221, 186), (187, 187), (189, 189), (191, 191), (9834, 213), (198, 225), (216, 233), (338, 234), (230, 241), (248, 249), (339, 250), (223, 251)]
noncomputable def sgC : List (Int × UInt8) → Int → Option (List UInt8) → Option (List UInt8)
  | [], _, k => k
  | (c, b) :: l, r, k => cnd (ieq c r) (some [b]) (sgC l r k)
noncomputable def acC : List (UInt8 × List UInt8 × List Int) → Int → Option (List UInt8)
  | [], _ => some []
  | (b, s, _) :: l, r => bnd (charset_Upper fuelH r) fun v7 => bnd (strings_ContainsRune fuelH (s, v7)) fun v8 => cnd v8 (bnd (charset_Base fuelH r) fun v9 => some [b, b8 v9]) (acC l r)
theorem latin_put_eq (r : Int) : latin_Put fuelH r = bnd (latin_Carries fuelH r) fun v0 => cnd (bnot v0) (some []) (cnd (ilt r 127) (some [b8 r]) (sgC sgs r (acC accs r))) := by kernel_rfl
/-- the same without calls -/
noncomputable def acP : List (UInt8 × List UInt8 × List Int) → Int → List UInt8
  | [], _ => []
  | (b, _, l) :: r, x => if l.contains (up x) then [b, b8 (bas x)] else acP r x
theorem acC_eq {r : Int} (hr : inRep r = true) : ∀ (l : List (UInt8 × List UInt8 × List Int)), (∀ a ∈ l, a ∈ accs) → acC l r = some (acP l r)
  | [], _ => rfl
  | (b, s, m) :: l, h => by
    simp only [acC, acP]
    have := cont_eq (h (b, s, m) (by simp)) hr
    rw [upper_eq hr, bnd_some', bnd_s this, base_eq hr, bnd_some', acC_eq hr l fun a ha => h a (by simp [ha])]
    cases m.contains (up r) <;> rfl
noncomputable def sgP : List (Int × UInt8) → Int → List UInt8 → List UInt8
  | [], _, k => k
  | (c, b) :: l, r, k => if c = r then [b] else sgP l r k
theorem sgC_eq : ∀ (l : List (Int × UInt8)) (r : Int) (k : List UInt8), sgC l r (some k) = some (sgP l r k)
  | [], _, _ => rfl
  | (c, b) :: l, r, k => by
    simp only [sgC, sgP]
    rw [sgC_eq l r k]
    by_cases h : c = r
    · rw [cnd_t (ieq_t h), if_pos h]
    · rw [cnd_f (ieq_f h), if_neg h]
/-- the bytes of a character -/
noncomputable def lat (r : Int) : List UInt8 := if r < 127 then [b8 r] else sgP sgs r (acP accs r)
theorem latin_put {r : Int} (hr : inRep r = true) : latin_Put fuelH r = some (lat r) := by
  have hc : latin_Carries fuelH r = some true := by
    unfold latin_Carries
    rw [ch_ix, (ix_ok hr).1, bnd_some', ile_t (ix_ok hr).2]
  rw [latin_put_eq, bnd_s hc, cnd_f (by rfl), acC_eq hr accs fun a h => h, sgC_eq, cnd_ilt]
  unfold lat
  split <;> rfl


/-- the character of a byte -/
noncomputable def sgl (c : UInt8) : Int := if 32 ≤ n8 c ∧ n8 c ≤ 126 then n8 c else ((sgs.find? fun x => x.2 == c).map (·.1)).getD 0
theorem single_eq (c : UInt8) : r22_single fuelH c = some (sgl c) :=
  of_decide_eq_true (all_u8 (P := fun c => decide (r22_single fuelH c = some (sgl c))) (by kernel_rfl) c)
noncomputable def dbl (a b : UInt8) : Int :=
  let c := if 97 ≤ n8 b ∧ n8 b ≤ 122 then b - 32 else b
  match (accs.filter fun x => x.1 == a).flatMap fun x => x.2.2.filter fun r => bas r == n8 c with
  | [] => 0
  | r :: _ => if 97 ≤ n8 b ∧ n8 b ≤ 122 then r + 32 else r
theorem double_eq {n k : Nat} (hn : n < 11) (hk : k < 58) : r22_double fuelH (UInt8.ofNat (n + 193), UInt8.ofNat (k + 65)) = some (dbl (UInt8.ofNat (n + 193)) (UInt8.ofNat (k + 65))) := by
  have : ((List.range 11).all fun n => (List.range 58).all fun k => decide (r22_double fuelH (UInt8.ofNat (n + 193), UInt8.ofNat (k + 65)) = some (dbl (UInt8.ofNat (n + 193)) (UInt8.ofNat (k + 65))))) = true := by kernel_rfl
  exact of_decide_eq_true (List.all_eq_true.1 (List.all_eq_true.1 this n (List.mem_range.2 hn)) k (List.mem_range.2 hk))
noncomputable def sg256 : List Int := (List.range 256).map fun n => sgl (UInt8.ofNat n)
noncomputable def db638 : List (List Int) := (List.range 11).map fun n => (List.range 58).map fun k => dbl (UInt8.ofNat (n + 193)) (UInt8.ofNat (k + 65))
noncomputable def idxI : List Int → Int → Nat → Option Nat
  | [], _, _ => none
  | c :: l, r, i => if c = r then some i else idxI l r (i + 1)
noncomputable def idxII : List (List Int) → Int → Nat → Option (Nat × Nat)
  | [], _, _ => none
  | c :: l, r, i => match idxI c r 0 with
    | some k => some (i, k)
    | none => idxII l r (i + 1)
noncomputable def latR (r : Int) : List UInt8 := match idxI sg256 r 0 with
  | some i => [UInt8.ofNat i]
  | none => match idxII db638 r 0 with
    | some (a, b) => [UInt8.ofNat (a + 193), UInt8.ofNat (b + 65)]
    | none => []
theorem latR_eq {r : Int} (hr : inRep r = true) : latR r = lat r :=
  of_decide_eq_true (all_rep (P := fun r => decide (latR r = lat r)) (by kernel_rfl) hr)
end Go.Mo
end

section
/-
  Plain facts: the bytes of a character by the specification.
-/
namespace Go.Mo
open Go Go.W Go.Lib
set_option maxRecDepth 100000

theorem b8_nat {n : Nat} (h : n < 256) : b8 (n : Int) = UInt8.ofNat n := by
  unfold b8
  congr 1
  omega
theorem foldI_idx {R : Type} (r : Int) (y : Nat → R) (K : Option R) : ∀ (l : List Int) (i : Nat), foldI (fun i c (_ : Unit) self => cnd (ieq c r) (some (y i)) (self ())) (fun _ => K) i l () = match idxI l r i with
    | some j => some (y j)
    | none => K
  | [], i => rfl
  | c :: l, i => by
    simp only [foldI, idxI]
    by_cases h : c = r
    · rw [cnd_t (ieq_t h), if_pos h]
    · rw [cnd_f (ieq_f h), if_neg h]
      exact foldI_idx r y K l (i + 1)
theorem foldI_idx2 {R : Type} (r : Int) (y : Nat → Nat → R) (K : Option R) : ∀ (l : List (List Int)) (i : Nat), foldI (fun i c (_ : Unit) self => match idxI c r 0 with
    | some k => some (y i k)
    | none => self ()) (fun _ => K) i l () = match idxII l r i with
    | some (j, k) => some (y j k)
    | none => K
  | [], i => rfl
  | c :: l, i => by
    simp only [foldI, idxII]
    cases idxI c r 0 with
    | some k => rfl
    | none => exact foldI_idx2 r y K l (i + 1)
theorem put_loops {r : Int} (T : List Int) (hT : T.length = 256) (hg : ∀ (i : Nat) (h : i < T.length), T[i] = sgl (UInt8.ofNat i)) (D : List (List Int)) (hD : D.length = 11)
    (hd : ∀ (i : Nat) (h : i < D.length), D[i].length = 58 ∧ ∀ (k : Nat) (h' : k < D[i].length), D[i][k] = dbl (UInt8.ofNat (i + 193)) (UInt8.ofNat (k + 65))) (hc : r22_Carries fuelH r = some true) :
    r22_Put fuelH r = match idxI T r 0 with
      | some i => some [UInt8.ofNat i]
      | none => match idxII D r 0 with
        | some (a, b) => some [UInt8.ofNat (a + 193), UInt8.ofNat (b + 65)]
        | none => some [] := by
  have h5 : fuelH = 8000000 := fuelH_eq
  unfold r22_Put
  rw [bnd_s hc, cnd_f (by rfl), jn_e, jn_e]
  generalize hQ : fuelH = Q at h5 ⊢
  have hsg : ∀ c, r22_single Q c = some (sgl c) := by rw [← hQ]; exact single_eq
  have hdb : ∀ n k : Nat, n < 11 → k < 58 → r22_double Q (UInt8.ofNat (n + 193), UInt8.ofNat (k + 65)) = some (dbl (UInt8.ofNat (n + 193)) (UInt8.ofNat (k + 65))) := by rw [← hQ]; exact fun n k h h' => double_eq h h'
  refine Eq.trans (lst_loop (l := T) (fun (_ : Unit) (p : Nat) => (p : Int)) (fun i c (_ : Unit) self => cnd (ieq c r) (some [UInt8.ofNat i]) (self ())) (fun _ => match idxII D r 0 with
        | some (a, b) => some [UInt8.ofNat (a + 193), UInt8.ofNat (b + 65)]
        | none => some []) (fun self a i hi => ?_) (fun self a => ?_) Q 0 () (Nat.zero_le _) (by rw [hT, h5]; decide)) ?_
  · have h1 : i < 256 := by omega
    rw [cnd_t (ilt_t (by omega)), b8_nat h1, hsg, bnd_some', w64_succ h1 (by omega), hg i hi]
  · rw [hT, cnd_f (ilt_f (by omega))]
    show fixN _ Q 193 = _
    rw [show (193 : Int) = ((0 + 193 : Nat) : Int) from rfl]
    refine Eq.trans (lst_loop (l := D) (fun (_ : Unit) (p : Nat) => ((p + 193 : Nat) : Int)) (fun i c (_ : Unit) self => match idxI c r 0 with
      | some k => some [UInt8.ofNat (i + 193), UInt8.ofNat (k + 65)]
      | none => self ()) (fun _ => some []) (fun self a i hi => ?_) (fun self a => ?_) Q 0 () (Nat.zero_le _) (by rw [hD, h5]; decide)) ?_
    · have h1 : i < 11 := by omega
      obtain ⟨hl, hr⟩ := hd i hi
      rw [cnd_t (ile_t (by omega)), jn_e, b8_nat (show i + 193 < 256 by omega), show (65 : Int) = ((0 + 65 : Nat) : Int) from rfl]
      have hw : w64 (iadd ((i + 193 : Nat) : Int) 1) = ((i + 1 + 193 : Nat) : Int) := by
        simp only [iadd]; rw [w64_id (by omega)]; omega
      rw [hw]
      refine Eq.trans (lst_loop (l := D[i]) (fun (_ : Unit) (p : Nat) => ((p + 65 : Nat) : Int)) (fun k c (_ : Unit) self => cnd (ieq c r) (some [UInt8.ofNat (i + 193), UInt8.ofNat (k + 65)]) (self ())) (fun _ => self ((i + 1 + 193 : Nat) : Int)) (fun self a k hk => ?_) (fun self a => ?_) Q 0 () (Nat.zero_le _) (by rw [hl, h5]; decide)) ?_
      · have h2 : k < 58 := by omega
        rw [cnd_t (ile_t (by omega)), b8_nat (show k + 65 < 256 by omega), hdb i k h1 h2, bnd_some', hr k hk]
        have hw : wr .i32 (iadd ((k + 65 : Nat) : Int) 1) = ((k + 1 + 65 : Nat) : Int) := by
          rw [wi32_id (by simp only [iadd]; omega)]
          simp only [iadd]; omega
        rw [hw]
      · rw [hl, cnd_f (ile_f (by omega))]
      · rw [List.drop_zero, foldI_idx r (fun k => [UInt8.ofNat (i + 193), UInt8.ofNat (k + 65)])]
    · rw [hD, cnd_f (ile_f (by omega))]
    · rw [List.drop_zero, foldI_idx2 r (fun i k => [UInt8.ofNat (i + 193), UInt8.ofNat (k + 65)])]
  · rw [List.drop_zero, foldI_idx r (fun k => [UInt8.ofNat k])]
theorem r22_put {r : Int} (hr : inRep r = true) : r22_Put fuelH r = some (lat r) := by
  have hc : r22_Carries fuelH r = some true := by
    unfold r22_Carries
    rw [r08_ix, (ix_ok hr).1, bnd_some', ile_t (ix_ok hr).2]
  rw [← latR_eq hr, put_loops sg256 (by unfold sg256; rw [List.length_map, List.length_range]) (fun i h => by simp only [sg256, List.getElem_map, List.getElem_range]) db638 (by unfold db638; rw [List.length_map, List.length_range])
    (fun i h => by
      have e : db638[i] = (List.range 58).map fun k => dbl (UInt8.ofNat (i + 193)) (UInt8.ofNat (k + 65)) := by simp only [db638, List.getElem_map, List.getElem_range]
      refine ⟨by rw [e, List.length_map, List.length_range], fun k h' => ?_⟩
      simp only [e, List.getElem_map, List.getElem_range]) hc]
  unfold latR
  generalize idxI sg256 r 0 = a
  generalize idxII db638 r 0 = b
  cases a with
  | some j => rfl
  | none => cases b with
    | some p => rfl
    | none => rfl
theorem lat_tab : ((loRunes ++ hiRunes).all fun r => decide ((lat r).length ≤ (enc r).length ∧ 0 < (lat r).length)) = true := by kernel_rfl
theorem lat_ok {r : Int} (hr : inRep r = true) : latin_Put fuelH r = some (lat r) ∧ (lat r).length ≤ (enc r).length ∧ 0 < (lat r).length ∧ r22_Put fuelH r = some (lat r) := by
  have := of_decide_eq_true (all_rep (P := fun r => decide ((lat r).length ≤ (enc r).length ∧ 0 < (lat r).length)) lat_tab hr)
  exact ⟨latin_put hr, this.1, this.2, r22_put hr⟩
end Go.Mo
end

section
/-
  Plain facts: texts in the characters of the tape form.
-/
namespace Go.Mo
open Go Go.W Go.Lib
set_option maxRecDepth 100000

/-- the bytes of a text -/
noncomputable def latE (s : List UInt8) : List UInt8 := (rns s).flatMap lat
theorem lat_len : ∀ (l : List Int), l.all inRep = true → (l.flatMap lat).length ≤ (ofR l).length
  | [], _ => Nat.le_refl _
  | r :: l, h => by
    rw [List.all_cons, Bool.and_eq_true] at h
    have h1 := (lat_ok h.1).2.1
    have h2 := lat_len l h.2
    unfold ofR at h2 ⊢
    simp only [List.flatMap_cons, List.length_append]
    omega
theorem latE_len {s : List UInt8} (h : vld s = true) : (latE s).length ≤ s.length := by
  have := lat_len (rns s) (rns_ok h)
  rwa [ofR_rns h] at this
/-- all the bytes of characters behind bytes -/
theorem put_fold {R : Type} (Put : Int → Option (List UInt8)) (hP : ∀ r, inRep r = true → Put r = some (lat r)) (k : List UInt8 → Option R) : ∀ (l : List Int) (out : List UInt8), l.all inRep = true → out.length + (ofR l).length ≤ 100000000 →
    foldR (fun r out self => bnd (Put r) fun v => grd (room (iadd (len out) (len v)) 1) (self (lapp out v))) k l out = k (out ++ l.flatMap lat)
  | [], out, _, _ => by simp [foldR]
  | r :: l, out, h, hb => by
    rw [List.all_cons, Bool.and_eq_true] at h
    have h1 := (lat_ok h.1).2.1
    simp only [ofR, List.flatMap_cons, List.length_append] at hb
    rw [foldR, bnd_s (hP r h.1), grd_t (room_t (by simp only [iadd, len]; omega))]
    show foldR _ _ _ (lapp out (lat r)) = _
    rw [put_fold Put hP k l _ h.2 (by simp only [lapp, List.length_append, ofR]; omega)]
    simp [lapp]
theorem latin_encode {s : List UInt8} (hs : s.length ≤ 4000000) : latin_Encode fuelH s = if vld s = true then some (latE s, 0) else some ([], 10) := by
  unfold latin_Encode
  rw [bnd_s (ch_valid s hs)]
  cases hv : vld s with
  | false => rfl
  | true =>
    rw [cnd_f (by rfl), jn_e, if_pos rfl]
    rw [show (([] : List UInt8), s, ofN 0) = (fun (a : List UInt8) (p : Nat) => (a, s, ofN p)) [] 0 from rfl]
    refine (str_loop (s := s) (fun (a : List UInt8) (p : Nat) => (a, s, ofN p)) (fun r out self => bnd (latin_Put fuelH r) fun v => grd (room (iadd (len out) (len v)) 1) (self (lapp out v))) (fun out => some (out, 0)) (fun self a p hp => ?_) (fun self a p hp => ?_) fuelH 0 [] (by have := fuelH_eq; omega)).trans ?_
    · simp only [toN_ofN]
      rw [cnd_t (nlt_t (show p < nlen s from hp))]
      rfl
    · simp only [toN_ofN]
      rw [cnd_f (nlt_f (show ¬ p < nlen s by unfold nlen; omega))]
    · rw [List.drop_zero, put_fold (latin_Put fuelH) (fun r h => (lat_ok h).1) _ _ _ (rns_ok hv) (by rw [ofR_rns hv]; simp; omega)]
      rfl
theorem snoc_fold {R : Type} (k : List Int → Option R) : ∀ (l out : List Int), out.length + l.length ≤ 100000000 →
    foldR (fun r out self => grd (room (iadd (len out) (len [r])) 4) (self (lapp out [r]))) k l out = k (out ++ l)
  | [], out, _ => by simp [foldR]
  | r :: l, out, h => by
    simp only [List.length_cons] at h
    rw [foldR, grd_t (room_t (by simp [iadd, len]; omega))]
    show foldR _ _ _ (lapp out [r]) = _
    rw [snoc_fold k l _ (by simp [lapp]; omega)]
    simp [lapp]
theorem r08_runes_eq {s : List UInt8} (hs : s.length ≤ 4000000) : r08_runes fuelH s = some (rns s) := by
  unfold r08_runes
  rw [jn_e]
  rw [show (([] : List Int), s, ofN 0) = (fun (a : List Int) (p : Nat) => (a, s, ofN p)) [] 0 from rfl]
  refine (str_loop (s := s) (fun (a : List Int) (p : Nat) => (a, s, ofN p)) (fun r out self => grd (room (iadd (len out) (len [r])) 4) (self (lapp out [r]))) (fun out => some out) (fun self a p hp => ?_) (fun self a p hp => ?_) fuelH 0 [] (by have := fuelH_eq; omega)).trans ?_
  · simp only [toN_ofN]
    rw [cnd_t (nlt_t (show p < nlen s from hp))]
    rfl
  · simp only [toN_ofN]
    rw [cnd_f (nlt_f (show ¬ p < nlen s by unfold nlen; omega))]
  · have := rns_len _ s (Nat.le_refl _)
    rw [List.drop_zero, snoc_fold _ _ _ (by simp; omega)]
    rfl
theorem put_foldI {R : Type} (Put : Int → Option (List UInt8)) (hP : ∀ r, inRep r = true → Put r = some (lat r)) (k : List UInt8 → Option R) : ∀ (l : List Int) (i : Nat) (out : List UInt8), l.all inRep = true → out.length + (ofR l).length ≤ 100000000 →
    foldI (fun _ r out self => bnd (Put r) fun v => grd (room (iadd (len out) (len v)) 1) (self (lapp out v))) k i l out = k (out ++ l.flatMap lat)
  | [], i, out, _, _ => by simp [foldI]
  | r :: l, i, out, h, hb => by
    rw [List.all_cons, Bool.and_eq_true] at h
    have h1 := (lat_ok h.1).2.1
    simp only [ofR, List.flatMap_cons, List.length_append] at hb
    rw [foldI, bnd_s (hP r h.1), grd_t (room_t (by simp only [iadd, len]; omega))]
    show foldI _ _ _ _ (lapp out (lat r)) = _
    rw [put_foldI Put hP k l (i + 1) _ h.2 (by simp only [lapp, List.length_append, ofR]; omega)]
    simp [lapp]
theorem r22_encode {s : List UInt8} (hs : s.length ≤ 4000000) : r22_Encode fuelH s = if vld s = true then some (latE s, 0) else some ([], 10) := by
  unfold r22_Encode
  rw [bnd_s (r08_valid s hs)]
  cases hv : vld s with
  | false => rfl
  | true =>
    have hc : r08_Chars fuelH s = some (rns s) := by
      unfold r08_Chars
      rw [bnd_s (r08_valid s hs), hv, cnd_f (by rfl), bnd_s (r08_runes_eq hs)]
    have hl := rns_len _ s (Nat.le_refl _)
    rw [cnd_f (by rfl), jn_e, if_pos rfl, bnd_s hc]
    rw [show (([] : List UInt8), (0 : Int)) = (fun (a : List UInt8) (p : Nat) => (a, (p : Int))) [] 0 from rfl]
    refine (lst_loop (l := rns s) (fun (a : List UInt8) (p : Nat) => (a, (p : Int))) (fun _ r out self => bnd (r22_Put fuelH r) fun v => grd (room (iadd (len out) (len v)) 1) (self (lapp out v))) (fun out => some (out, 0)) (fun self a i hi => ?_) (fun self a => ?_) fuelH 0 [] (Nat.zero_le _) (by have := fuelH_eq; omega)).trans ?_
    · rw [cnd_t (ilt_t (by simp only [len]; omega)), grd_t (inb_t (by simp only [len]; omega)), lget_i hi, w64_succ hi (by omega)]
    · rw [cnd_f (ilt_f (by simp only [len]; omega))]
    · rw [List.drop_zero, put_foldI (r22_Put fuelH) (fun r h => (lat_ok h).2.2.2) _ _ _ _ (rns_ok hv) (by rw [ofR_rns hv]; simp; omega)]
      rfl
end Go.Mo
end

section
/-
  Small plain facts: bytes, lengths, equality of texts.
-/
namespace Go.Mo
open Go Go.W Go.Lib
set_option maxRecDepth 100000
noncomputable section
theorem catOk_t {n : Int} (h : n ≤ 9223372036854775807) : catOk n = true := decide_eq_true h
theorem n8_rng (c : UInt8) : 0 ≤ n8 c ∧ n8 c < 256 := by
  unfold n8
  have : c.toNat < 256 := c.toNat_lt
  omega
theorem seq_dec (x y : List UInt8) : seq x y = decide (x = y) := by
  unfold seq
  by_cases h : x = y
  · subst h; simp
  · rw [decide_eq_false h]
    simpa using h
end
end Go.Mo
end

section
/-
  Plain facts: characters of the tape form read back.
-/
namespace Go.Mo
open Go Go.W Go.Lib
set_option maxRecDepth 100000
noncomputable section

/-- the small letter -/
noncomputable def low (r : Int) : Int := if (65 ≤ r ∧ r ≤ 90) ∨ (192 ≤ r ∧ r < 223) then r + 32 else if r = 338 then 339 else r
noncomputable def accR (a : UInt8) : List Int := match accs.find? fun x => x.1 == a with
  | some x => x.2.2
  | none => []
noncomputable def acG : List Int → UInt8 → Option (Int × Int)
  | [], _ => some (0, 0)
  | r :: l, b => cnd (ieq (bas r) (n8 b)) (some (r, (2 : Int))) (cnd (ieq (bas (low r)) (n8 b)) (some (low r, (2 : Int))) (acG l b))
noncomputable def sgF (a : UInt8) : Option (Int × UInt8) := sgs.find? fun x => n8 x.2 == n8 a
end
end Go.Mo
end

section
/-
  Plain facts: the specification's reader of headers.
-/
namespace Go.Mo
open Go Go.W Go.Lib
set_option maxRecDepth 100000
noncomputable section

theorem cnd_same {α : Type} {b : Bool} {x y r : Option α} (hx : x = r) (hy : y = r) : cnd b x y = r := by cases b <;> assumption
end
end Go.Mo
end

section
/-
  Plain facts: rates, names, on both sides.
-/
namespace Go.Mo
open Go Go.W Go.Lib
set_option maxRecDepth 100000
noncomputable section
theorem valid_tab : ((List.range 256).all fun n => decide (timebase_Valid 0 (UInt8.ofNat n) = r02_Valid 0 (UInt8.ofNat n) ∧ timebase_CanDrop 0 (UInt8.ofNat n) = r02_CanDrop 0 (UInt8.ofNat n) ∧ timebase_Nominal 0 (UInt8.ofNat n) = r02_Nominal 0 (UInt8.ofNat n))) = true := by kernel_rfl
theorem rate_eq (N : Nat) (r : UInt8) : timebase_Valid N r = r02_Valid N r ∧ timebase_CanDrop N r = r02_CanDrop N r ∧ timebase_Nominal N r = r02_Nominal N r :=
  of_decide_eq_true (all_u8 (P := fun r => decide (timebase_Valid 0 r = r02_Valid 0 r ∧ timebase_CanDrop 0 r = r02_CanDrop 0 r ∧ timebase_Nominal 0 r = r02_Nominal 0 r)) valid_tab r)
theorem digit_eq (N : Nat) (c : UInt8) : r07_digit N c = some (decide (48 ≤ n8 c ∧ n8 c ≤ 57)) := by
  unfold r07_digit
  have e1 : n8 (48 : UInt8) = 48 := rfl
  have e2 : n8 (57 : UInt8) = 57 := rfl
  rw [e1, e2, cnd_ile]
  split
  · simp only [ile, Option.some.injEq, decide_eq_decide]; omega
  · simp only [Option.some.injEq]; exact (decide_eq_false (by omega)).symm
/-- one round -/
theorem r07_body {s : List UInt8} {i : Nat} (h : i < s.length) (X : Option Bool) (N : Nat) :
    (grd (inb (i : Int) (len s)) <|
          cnd (ile (n8 (65 : UInt8)) (n8 (lget s (toN (i : Int)) (0 : UInt8))))
            (grd (inb (i : Int) (len s))
              ((fun (v4 : Bool) =>
            cnd (bnot v4)
              (cnd (ieq (i : Int) (0 : Int))
                (some false)
                (grd (inb (i : Int) (len s))
                  (bnd (r07_digit N (lget s (toN (i : Int)) (0 : UInt8))) fun v5 =>
                  cnd (bnot v5)
                    (grd (inb (i : Int) (len s))
                      (cnd (ine (n8 (lget s (toN (i : Int)) (0 : UInt8))) (n8 (95 : UInt8)))
                        (grd (inb (i : Int) (len s))
                          (cnd (ine (n8 (lget s (toN (i : Int)) (0 : UInt8))) (n8 (45 : UInt8)))
                            (some false)
                            X))
                        X))
                    X)))
              X) (ile (n8 (lget s (toN (i : Int)) (0 : UInt8))) (n8 (90 : UInt8)))))
            ((fun (v4 : Bool) =>
            cnd (bnot v4)
              (cnd (ieq (i : Int) (0 : Int))
                (some false)
                (grd (inb (i : Int) (len s))
                  (bnd (r07_digit N (lget s (toN (i : Int)) (0 : UInt8))) fun v5 =>
                  cnd (bnot v5)
                    (grd (inb (i : Int) (len s))
                      (cnd (ine (n8 (lget s (toN (i : Int)) (0 : UInt8))) (n8 (95 : UInt8)))
                        (grd (inb (i : Int) (len s))
                          (cnd (ine (n8 (lget s (toN (i : Int)) (0 : UInt8))) (n8 (45 : UInt8)))
                            (some false)
                            X))
                        X))
                    X)))
              X) false)) = if upc (n8 s[i]) = true then X else if i = 0 then some false else if okc (n8 s[i]) = true then X else some false := by
  have hb : inb (i : Int) (len s) = true := inb_t (by simp only [len]; omega)
  have g : lget s (toN (i : Int)) 0 = s[i] := by simp [lget, toN, h]
  have e1 : n8 (65 : UInt8) = 65 := rfl
  have e2 : n8 (90 : UInt8) = 90 := rfl
  have e3 : n8 (95 : UInt8) = 95 := rfl
  have e4 : n8 (45 : UInt8) = 45 := rfl
  simp only [grd_t hb, g, e1, e2, e3, e4]
  rw [bnd_s (digit_eq N s[i])]
  generalize n8 s[i] = c
  have hi : ((i : Int) = 0) ↔ i = 0 := by omega
  have b1 : ∀ (p : Prop) [Decidable p] (x y : Option Bool), cnd (bnot (decide p)) x y = if p then y else x := fun p _ x y => by
    by_cases hp : p <;> simp [hp, bnot, cnd]
  have b2 : ∀ x y : Option Bool, cnd (bnot false) x y = x := fun _ _ => rfl
  simp only [cnd_ile, cnd_ieq, cnd_ine, cnd_dec, ile, b1, b2, upc, okc, decide_eq_true_eq, hi]
  repeat' split
  all_goals first | rfl | (exfalso; omega)
theorem r07_name (s : List UInt8) : r07_Name fuelH s = some (nm s) := by
  unfold r07_Name
  by_cases h1 : s.length < 1
  · rw [cnd_t (ilt_t (by simp only [len]; omega))]
    simp [nm]; omega
  · rw [cnd_f (ilt_f (by simp only [len]; omega))]
    by_cases h2 : 16 < s.length
    · rw [cnd_t (ilt_t (by simp only [len]; omega))]
      simp [nm]; omega
    · rw [cnd_f (ilt_f (by simp only [len]; omega))]
      simp only [jn_e]
      have hd : decide (1 ≤ s.length ∧ s.length ≤ 16) = true := decide_eq_true (by omega)
      have loop : ∀ (fuel i : Nat), s.length - i < fuel → i ≤ s.length → fixN (fun v2 (v3 : Int) =>
        cnd (ilt v3 (len s))
          (grd (inb v3 (len s)) <|
          cnd (ile (n8 (65 : UInt8)) (n8 (lget s (toN v3) (0 : UInt8))))
            (grd (inb v3 (len s))
              ((fun (v4 : Bool) =>
            cnd (bnot v4)
              (cnd (ieq v3 (0 : Int))
                (some false)
                (grd (inb v3 (len s))
                  (bnd (r07_digit fuelH (lget s (toN v3) (0 : UInt8))) fun v5 =>
                  cnd (bnot v5)
                    (grd (inb v3 (len s))
                      (cnd (ine (n8 (lget s (toN v3) (0 : UInt8))) (n8 (95 : UInt8)))
                        (grd (inb v3 (len s))
                          (cnd (ine (n8 (lget s (toN v3) (0 : UInt8))) (n8 (45 : UInt8)))
                            (some false)
                            (v2 (w64 (iadd v3 (1 : Int))))))
                        (v2 (w64 (iadd v3 (1 : Int))))))
                    (v2 (w64 (iadd v3 (1 : Int)))))))
              (v2 (w64 (iadd v3 (1 : Int))))) (ile (n8 (lget s (toN v3) (0 : UInt8))) (n8 (90 : UInt8)))))
            ((fun (v4 : Bool) =>
            cnd (bnot v4)
              (cnd (ieq v3 (0 : Int))
                (some false)
                (grd (inb v3 (len s))
                  (bnd (r07_digit fuelH (lget s (toN v3) (0 : UInt8))) fun v5 =>
                  cnd (bnot v5)
                    (grd (inb v3 (len s))
                      (cnd (ine (n8 (lget s (toN v3) (0 : UInt8))) (n8 (95 : UInt8)))
                        (grd (inb v3 (len s))
                          (cnd (ine (n8 (lget s (toN v3) (0 : UInt8))) (n8 (45 : UInt8)))
                            (some false)
                            (v2 (w64 (iadd v3 (1 : Int))))))
                        (v2 (w64 (iadd v3 (1 : Int))))))
                    (v2 (w64 (iadd v3 (1 : Int)))))))
              (v2 (w64 (iadd v3 (1 : Int))))) false))
          (some true)) fuel (i : Int) = some (bif decide (i = 0) then upc (n8 (s.getD 0 0)) && s.all (fun c => okc (n8 c)) else (s.drop i).all fun c => okc (n8 c)) := by
        intro fuel
        induction fuel with
        | zero => intro i h; omega
        | succ fuel ih =>
          intro i h hi
          rw [fixN_s]
          by_cases hl : i < s.length
          · rw [cnd_t (ilt_t (by simp only [len]; omega)), r07_body hl]
            have hw : w64 (iadd (i : Int) 1) = ((i + 1 : Nat) : Int) := by
              simp only [iadd]; rw [w64_id (by omega)]; omega
            rw [hw, ih (i + 1) (by omega) (by omega)]
            have hup : upc (n8 s[i]) = true → okc (n8 s[i]) = true := fun h => by
              have := of_decide_eq_true h
              exact decide_eq_true (.inl this)
            have e0 : decide (i + 1 = 0) = false := decide_eq_false (by omega)
            simp only [e0, cond_false]
            by_cases hz : i = 0
            · subst hz
              have g0 : s.getD 0 0 = s[0] := by simp [hl]
              have hs : s.all (fun c => okc (n8 c)) = (okc (n8 s[0]) && (s.drop 1).all fun c => okc (n8 c)) := by
                have := all_step (s := s) (i := 0) hl (fun c => okc (n8 c))
                simpa using this
              simp only [decide_true, cond_true, if_true, g0, hs]
              cases hu : upc (n8 s[0]) with
              | true => simp [hup hu]
              | false => simp
            · have : decide (i = 0) = false := decide_eq_false hz
              simp only [this, cond_false, hz, if_false, all_step hl]
              cases hu : upc (n8 s[i]) with
              | true => simp [hup hu]
              | false => cases okc (n8 s[i]) <;> simp
          · rw [cnd_f (ilt_f (by simp only [len]; omega))]
            have hz : decide (i = 0) = false := decide_eq_false (by omega)
            have : s.drop i = [] := by simp; omega
            rw [hz, this]
            rfl
      have := loop fuelH 0 (by have := fuelH_eq; omega) (Nat.zero_le _)
      simp only [decide_true, cond_true] at this
      simp only [nm, hd, Bool.true_and]
      exact this
end
end Go.Mo
end

section
/-
  Plain facts: rows of text, their check, their normal form.
-/
namespace Go.Mo
open Go Go.W Go.Lib
set_option maxRecDepth 100000
abbrev Sty := UInt8 × Bool × Bool
abbrev Run := List UInt8 × Sty × List UInt8
abbrev Row := List Run

theorem cnd_ite {α : Type} {b : Bool} {x y : Option α} : cnd b x y = if b = true then x else y := by cases b <;> rfl
theorem bnot_t {b : Bool} : (bnot b = true) = (b = false) := by cases b <;> simp [bnot]
theorem seq_t {a b : List UInt8} : (seq a b = true) = (a = b) := by rw [seq_dec]; simp
theorem ieq_tt {a b : Int} : (ieq a b = true) = (a = b) := by simp [ieq]
theorem ine_tt {a b : Int} : (ine a b = true) = (a ≠ b) := by simp [ine]
theorem ilt_tt {a b : Int} : (ilt a b = true) = (a < b) := by simp [ilt]
theorem beqb_t {a b : Bool} : (beqb a b = true) = (a = b) := by simp [beqb]
theorem bneb_t {a b : Bool} : (bneb a b = true) = (a ≠ b) := by simp [bneb]
theorem band_tt {a b : Bool} : (band a b = true) = (a = true ∧ b = true) := by simp [band]
theorem n8_eq {a b : UInt8} : (n8 a = n8 b) = (a = b) := propext ⟨n8_inj, fun h => by rw [h]⟩
theorem w64_pred {i : Nat} (h : 0 < i) (hn : i ≤ 9223372036854775807) : w64 (isub (i : Int) 1) = ((i - 1 : Nat) : Int) := by
  simp only [isub]; rw [w64_id (by omega)]; omega
theorem w64_back {i : Nat} (hn : i < 9223372036854775807) : w64 (isub ((i + 1 : Nat) : Int) 1) = (i : Int) := by
  rw [w64_pred (Nat.succ_pos i) (by omega)]; rfl
theorem sty_eq {a b : Sty} : (a = b) = (a.1 = b.1 ∧ a.2.1 = b.2.1 ∧ a.2.2 = b.2.2) := by
  obtain ⟨a1, a2, a3⟩ := a; obtain ⟨b1, b2, b3⟩ := b; simp

noncomputable def alikeP (a b : Run) : Prop := a.2.1 = b.2.1 ∧ a.2.2 = [] ∧ b.2.2 = []
instance (a b : Run) : Decidable (alikeP a b) := by unfold alikeP; infer_instance
/-- a run that follows another one -/
noncomputable def runChk (p : Option Run) (x : Run) : Int :=
  if vld x.1 = false then 10 else if x.1 = [] then 4 else if ¬ n8 x.2.1.1 ≤ 6 then 12 else if vld x.2.2 = false then 10 else match p with
    | none => 0
    | some p => if alikeP p x then 8 else 0
noncomputable def chkL : Option Run → List Run → Int
  | _, [] => 0
  | p, x :: r => if runChk p x ≠ 0 then runChk p x else chkL (some x) r
noncomputable def rowChk (l : Row) : Int := if 16 < l.length then 9 else chkL none l
noncomputable def shortR (l : Row) : Prop := ∀ x ∈ l, x.1.length ≤ 4000000 ∧ x.2.2.length ≤ 4000000
/-- the element ahead -/
noncomputable def before {α : Type} (l : List α) : Nat → Option α
  | 0 => none
  | i + 1 => l[i]?
theorem foldI_chk (l : Row) : ∀ (r : List Run) (i : Nat), l.drop i = r → i ≤ l.length → foldI (fun i (x : Run) (_ : Unit) self => if runChk (before l i) x ≠ 0 then some (runChk (before l i) x) else self ()) (fun _ => some (0 : Int)) i r () = some (chkL (before l i) r)
  | [], i, _, _ => rfl
  | x :: r, i, h, hi => by
    have hx : l[i]? = some x := by rw [← List.head?_drop, h]; rfl
    have hr : l.drop (i + 1) = r := by rw [← List.drop_drop, h]; rfl
    have hl : i < l.length := (List.getElem?_eq_some_iff.1 hx).1
    simp only [foldI, chkL]
    rw [foldI_chk l r (i + 1) hr (by omega)]
    have e : before l (i + 1) = some x := hx
    rw [e]
    by_cases hc : runChk (before l i) x ≠ 0
    · rw [if_pos hc, if_pos hc]
    · rw [if_neg hc, if_neg hc]
theorem style_alike_eq (N : Nat) (a b : Run) : style_alike N (a, b) = some (decide (alikeP a b)) := by
  unfold style_alike
  simp only [cnd_ite, band_tt, ieq_tt, beqb_t, n8_eq, seq_dec, decide_eq_true_eq]
  by_cases h1 : a.2.1.1 = b.2.1.1 ∧ a.2.1.2.1 = b.2.1.2.1 ∧ a.2.1.2.2 = b.2.1.2.2
  · rw [if_pos h1]
    have : a.2.1 = b.2.1 := by rw [sty_eq]; exact h1
    by_cases h2 : a.2.2 = []
    · rw [if_pos h2]; simp [alikeP, this, h2]
    · rw [if_neg h2]; simp [alikeP, h2]
  · rw [if_neg h1]
    have : ¬ a.2.1 = b.2.1 := by rw [sty_eq]; exact h1
    simp [alikeP, this]
theorem style_check {l : Row} (hl : shortR l) : style_Check fuelH l = some (rowChk l) := by
  unfold style_Check
  by_cases h : 16 < l.length
  · rw [cnd_t (ilt_t (by simp only [len]; omega))]; simp [rowChk, h]
  · rw [cnd_f (ilt_f (by simp only [len]; omega)), jn_e]
    refine Eq.trans (lst_loop (l := l) (fun (_ : Unit) (p : Nat) => (p : Int)) (fun i (x : Run) (_ : Unit) self => if runChk (before l i) x ≠ 0 then some (runChk (before l i) x) else self ()) (fun _ => some (0 : Int)) (fun self a i hi => ?_) (fun self a => ?_) fuelH 0 () (Nat.zero_le _) (by have := fuelH_eq; omega)) ?_
    · rw [cnd_t (ilt_t (by simp only [len]; omega)), grd_t (inb_t (by simp only [len]; omega)), lget_i hi]
      obtain ⟨b1, b2⟩ := hl l[i] (List.getElem_mem hi)
      rw [bnd_s (ch_valid _ b1), bnd_s (show style_Valid fuelH l[i].2.1 = some (ile (n8 l[i].2.1.1) 6) from rfl), bnd_s (ch_valid _ b2)]
      simp only [cnd_ite, bnot_t, seq_t, ile, decide_eq_false_iff_not]
      rw [w64_succ hi (by omega)]
      cases i with
      | zero =>
        have e0 : before l 0 = none := rfl
        rw [e0, if_neg (show ¬ ilt (0 : Int) ((0 : Nat) : Int) = true by decide)]
        simp only [runChk]
        repeat' split
        all_goals first | rfl | (exfalso; omega) | simp_all
      | succ i =>
        have e0 : before l (i + 1) = some l[i] := by simp only [before]; exact List.getElem?_eq_getElem (by omega)
        rw [e0, if_pos (show ilt (0 : Int) ((i + 1 : Nat) : Int) = true from ilt_t (by omega)), w64_back (by omega), grd_t (inb_t (by simp only [len]; omega)), lget_i (show i < l.length by omega), bnd_s (style_alike_eq _ _ _)]
        simp only [runChk, decide_eq_true_eq]
        repeat' split
        all_goals first | rfl | (exfalso; omega) | simp_all
    · rw [cnd_f (ilt_f (by simp only [len]; omega))]
    · rw [List.drop_zero, foldI_chk l l 0 rfl (Nat.zero_le _)]
      simp [rowChk, h, before]
theorem r09_check {l : Row} (hl : shortR l) : r09_Check fuelH l = some (rowChk l) := by
  unfold r09_Check
  by_cases h : 16 < l.length
  · rw [cnd_t (ilt_t (by simp only [len]; omega))]; simp [rowChk, h]
  · rw [cnd_f (ilt_f (by simp only [len]; omega)), jn_e]
    refine Eq.trans (lst_loop (l := l) (fun (_ : Unit) (p : Nat) => (p : Int)) (fun i (x : Run) (_ : Unit) self => if runChk (before l i) x ≠ 0 then some (runChk (before l i) x) else self ()) (fun _ => some (0 : Int)) (fun self a i hi => ?_) (fun self a => ?_) fuelH 0 () (Nat.zero_le _) (by have := fuelH_eq; omega)) ?_
    · rw [cnd_t (ilt_t (by simp only [len]; omega)), grd_t (inb_t (by simp only [len]; omega)), lget_i hi]
      obtain ⟨b1, b2⟩ := hl l[i] (List.getElem_mem hi)
      rw [bnd_s (r08_valid _ b1), bnd_s (show r09_Valid fuelH l[i].2.1 = some (ile (n8 l[i].2.1.1) 6) from rfl), bnd_s (r08_valid _ b2)]
      simp only [cnd_ite, bnot_t, seq_t, ile, decide_eq_false_iff_not]
      rw [w64_succ hi (by omega)]
      cases i with
      | zero =>
        have e0 : before l 0 = none := rfl
        rw [e0, if_neg (show ¬ ilt (0 : Int) ((0 : Nat) : Int) = true by decide)]
        simp only [runChk]
        repeat' split
        all_goals first | rfl | (exfalso; omega) | simp_all
      | succ i =>
        have e0 : before l (i + 1) = some l[i] := by simp only [before]; exact List.getElem?_eq_getElem (by omega)
        have hin : inb ((i : Nat) : Int) (len l) = true := inb_t (by simp only [len]; omega)
        rw [e0, if_pos (show ilt (0 : Int) ((i + 1 : Nat) : Int) = true from ilt_t (by omega)), w64_back (by omega), grd_t hin, grd_t hin, lget_i (show i < l.length by omega)]
        simp only [runChk, alikeP, band_tt, ieq_tt, beqb_t, n8_eq, ← sty_eq]
        repeat' split
        all_goals first | rfl | (exfalso; omega) | simp_all
    · rw [cnd_f (ilt_f (by simp only [len]; omega))]
    · rw [List.drop_zero, foldI_chk l l 0 rfl (Nat.zero_le _)]
      simp [rowChk, h, before]
end Go.Mo
end

section
/-
  Plain facts: loops with an invariant; the normal form of a row.
-/
namespace Go.Mo
open Go Go.W Go.Lib
set_option maxRecDepth 100000

noncomputable def itI {α σ R : Type} (f : Nat → α → σ → Option R ⊕ σ) (e : σ → Option R) : Nat → List α → σ → Option R
  | _, [], a => e a
  | i, x :: l, a => match f i x a with
    | .inl r => r
    | .inr a' => itI f e (i + 1) l a'
/-- one round: it ends with r, or goes on -/
noncomputable def Rnd {V R σ : Type} (X : Option R) (self : V → Option R) (next : σ → V) (I : σ → Prop) : Option R ⊕ σ → Prop
  | .inl r => X = r
  | .inr a => X = self (next a) ∧ I a
theorem lst_it {V R σ α : Type} {F : (V → Option R) → V → Option R} {l : List α} (st : σ → Nat → V) (f : Nat → α → σ → Option R ⊕ σ) (e : σ → Option R) (I : Nat → σ → Prop)
    (hstep : ∀ self a i (h : i < l.length), I i a → Rnd (F self (st a i)) self (fun a => st a (i + 1)) (I (i + 1)) (f i l[i] a))
    (hend : ∀ self a, I l.length a → F self (st a l.length) = e a) : ∀ (fuel i : Nat) (a : σ), i ≤ l.length → l.length - i < fuel → I i a → fixN F fuel (st a i) = itI f e i (l.drop i) a
  | 0, i, a, _, h, _ => by omega
  | fuel + 1, i, a, hi, h, hI => by
    rw [fixN_s]
    by_cases hl : i < l.length
    · rw [List.drop_eq_getElem_cons hl, itI]
      have hs := hstep (fixN F fuel) a i hl hI
      cases hf : f i l[i] a with
      | inl r => rw [hf] at hs; exact hs
      | inr a' =>
        rw [hf] at hs
        rw [hs.1]
        exact lst_it st f e I hstep hend fuel (i + 1) a' (by omega) (by omega) hs.2
    · obtain rfl : i = l.length := by omega
      rw [hend _ _ hI, List.drop_length]
      rfl
theorem itI_fold {α σ R : Type} (f : α → σ → σ) (e : σ → Option R) : ∀ (i : Nat) (l : List α) (a : σ), itI (fun _ x a => .inr (f x a)) e i l a = e (l.foldl (fun a x => f x a) a)
  | _, [], _ => rfl
  | i, x :: l, a => by simp only [itI, List.foldl_cons]; exact itI_fold f e (i + 1) l (f x a)

/-- the letters of a row -/
noncomputable def tot : Row → Nat
  | [] => 0
  | x :: r => x.1.length + tot r
theorem tot_app (a b : Row) : tot (a ++ b) = tot a + tot b := by
  induction a with
  | nil => simp [tot]
  | cons x a ih => simp only [List.cons_append, tot, ih]; omega
end Go.Mo
end

section
/-
  Plain facts: the bytes of rows.
-/
namespace Go.Mo
open Go Go.W Go.Lib
set_option maxRecDepth 100000
noncomputable section

theorem chkL_ok : ∀ (l : List Run) (p : Option Run), chkL p l = 0 → ∀ x ∈ l, vld x.1 = true ∧ x.1 ≠ [] ∧ n8 x.2.1.1 ≤ 6 ∧ vld x.2.2 = true
  | [], _, _, x, hx => by cases hx
  | y :: l, p, h, x, hx => by
    simp only [chkL] at h
    split at h
    · rename_i hc; exact absurd h hc
    · rename_i hc
      rcases List.mem_cons.1 hx with rfl | hx
      · have hc : runChk p x = 0 := by simpa using hc
        unfold runChk at hc
        split at hc
        · cases hc
        · split at hc
          · cases hc
          · split at hc
            · cases hc
            · split at hc
              · cases hc
              · rename_i h1 h2 h3 h4
                exact ⟨by simpa using h1, h2, by omega, by simpa using h4⟩
      · exact chkL_ok l _ h x hx
theorem rowChk_ok {l : Row} (h : rowChk l = 0) : l.length ≤ 16 ∧ ∀ x ∈ l, vld x.1 = true ∧ x.1 ≠ [] ∧ n8 x.2.1.1 ≤ 6 ∧ vld x.2.2 = true := by
  unfold rowChk at h
  split at h
  · cases h
  · exact ⟨by omega, chkL_ok l _ h⟩

noncomputable def colT : List UInt8 := [7, 2, 4, 6, 1, 3, 5]
noncomputable def colB (c : UInt8) : UInt8 := lget colT (toN (n8 c)) 0
theorem colB_eq (N : Nat) {c : UInt8} (h : n8 c ≤ 6) : stl_colorByte N c = some (colB c) := by
  unfold stl_colorByte
  rw [grd_t (inb_t (by have := n8_rng c; simp only [ofN]; omega))]
  rfl
noncomputable def runB (now : Sty) (x : Run) : List UInt8 :=
  (if x.2.1.1 ≠ now.1 then [colB x.2.1.1] else []) ++ (if x.2.1.2.1 ≠ now.2.1 then [if x.2.1.2.1 = true then 128 else 129] else []) ++ (if x.2.1.2.2 ≠ now.2.2 then [if x.2.1.2.2 = true then 130 else 131] else []) ++ latE x.1
noncomputable def rowB : Sty → Row → List UInt8
  | _, [] => []
  | now, x :: r => runB now x ++ rowB x.2.1 r
noncomputable def plainS : Sty := (0, false, false)
noncomputable def cost : Row → Nat
  | [] => 0
  | x :: r => 3 + x.1.length + cost r
theorem runB_len {now : Sty} {x : Run} (h : vld x.1 = true) : (runB now x).length ≤ 3 + x.1.length := by
  have := latE_len h
  have h1 : ∀ (p : Prop) [Decidable p] (y : UInt8), (if p then [y] else []).length ≤ 1 := fun p _ y => by split <;> simp
  have a1 := h1 (x.2.1.1 ≠ now.1) (colB x.2.1.1)
  have a2 := h1 (x.2.1.2.1 ≠ now.2.1) (if x.2.1.2.1 = true then 128 else 129)
  have a3 := h1 (x.2.1.2.2 ≠ now.2.2) (if x.2.1.2.2 = true then 130 else 131)
  unfold runB
  rw [List.length_append, List.length_append, List.length_append]
  omega
theorem rowB_len : ∀ {l : Row} {now : Sty}, (∀ x ∈ l, vld x.1 = true) → (rowB now l).length ≤ cost l
  | [], _, _ => Nat.le_refl _
  | x :: l, now, h => by
    have h1 := runB_len (now := now) (h x List.mem_cons_self)
    have h2 := rowB_len (l := l) (now := x.2.1) fun y hy => h y (List.mem_cons_of_mem _ hy)
    simp only [rowB, cost, List.length_append]
    omega
theorem cost_eq (l : Row) : cost l = 3 * l.length + tot l := by
  induction l with
  | nil => rfl
  | cons x l ih => simp only [cost, tot, List.length_cons, ih]; omega
theorem rowB_fold : ∀ (l : Row) (out : List UInt8) (now : Sty), (l.foldl (fun (a : List UInt8 × Sty) x => (a.1 ++ runB a.2 x, x.2.1)) (out, now)).1 = out ++ rowB now l
  | [], out, now => by simp [rowB]
  | x :: l, out, now => by simp only [List.foldl_cons, rowB]; rw [rowB_fold l]; simp
/-- a row's runs may be written -/
noncomputable def fits (l : Row) : Prop := ∀ x ∈ l, vld x.1 = true ∧ n8 x.2.1.1 ≤ 6 ∧ x.1.length ≤ 4000000
noncomputable def RI (l : Row) (B : Nat) (i : Nat) (a : List UInt8 × Sty) : Prop := a.1.length + cost (l.drop i) ≤ B
theorem RI_step {l : Row} {B i : Nat} (h : i < l.length) (hf : fits l) {a : List UInt8 × Sty} (hI : RI l B i a) : RI l B (i + 1) (a.1 ++ runB a.2 l[i], l[i].2.1) ∧ a.1.length + 3 + l[i].1.length ≤ B := by
  unfold RI at hI ⊢
  rw [List.drop_eq_getElem_cons h] at hI
  have := runB_len (now := a.2) (hf l[i] (List.getElem_mem h)).1
  simp only [cost] at hI
  simp only [List.length_append]
  omega
theorem r24_col {N : Nat} {c : UInt8} (hc : n8 c ≤ 6) (out : List UInt8) (ho : out.length ≤ 90000000) {R : Type} (K : List UInt8 → Option R) (hN : 8 ≤ N) :
    fixN (fun v16 (v17 : (List UInt8) × Int) =>
          cnd (ilt v17.2 (len ([4, 1, 5, 2, 6, 3, 0] : List UInt8)))
            (grd (inb v17.2 (len ([4, 1, 5, 2, 6, 3, 0] : List UInt8)))
              (cnd (ieq (n8 (lget ([4, 1, 5, 2, 6, 3, 0] : List UInt8) (toN v17.2) (0 : UInt8))) (n8 c))
                (grd (room (iadd (len v17.1) (len ([b8 (w64 (iadd v17.2 (1 : Int)))] : List UInt8))) 1)
                  (v16 (lapp v17.1 ([b8 (w64 (iadd v17.2 (1 : Int)))] : List UInt8), w64 (iadd v17.2 (1 : Int)))))
                (v16 (v17.1, w64 (iadd v17.2 (1 : Int))))))
            (K v17.1)) N (out, (0 : Int)) = K (out ++ [colB c]) := by
  have hl : ([4, 1, 5, 2, 6, 3, 0] : List UInt8).length = 7 := rfl
  refine Eq.trans (lst_it (l := ([4, 1, 5, 2, 6, 3, 0] : List UInt8)) (fun (a : List UInt8) (p : Nat) => (a, (p : Int))) (fun i x a => .inr (if x = c then a ++ [UInt8.ofNat (i + 1)] else a)) (fun a => K a) (fun i a => a.length ≤ 90000000 + i) (fun self a i hi hI => ?_) (fun self a _ => ?_) N 0 out (Nat.zero_le _) (by omega) (by omega)) ?_
  · refine ⟨?_, ?_⟩
    · simp only
      have h7 : i < 7 := hi
      rw [cnd_t (ilt_t (by simp only [len, hl]; omega)), grd_t (inb_t (by simp only [len, hl]; omega)), lget_i hi, w64_succ hi (by omega), b8_nat (by omega), cnd_ite]
      simp only [ieq_tt, n8_eq]
      split
      · rw [grd_t (room_t (by simp only [iadd, len, List.length_singleton]; omega))]; rfl
      · rfl
    · split
      · simp; omega
      · omega
  · simp only
    rw [cnd_f (ilt_f (by simp only [len]; omega))]
  · rw [List.drop_zero]
    simp only [itI, Nat.zero_add]
    have hcs : c = 0 ∨ c = 1 ∨ c = 2 ∨ c = 3 ∨ c = 4 ∨ c = 5 ∨ c = 6 := by
      have : c.toNat ≤ 6 := by unfold n8 at hc; omega
      have e : c = UInt8.ofNat c.toNat := by simp
      generalize c.toNat = k at this e
      have : k = 0 ∨ k = 1 ∨ k = 2 ∨ k = 3 ∨ k = 4 ∨ k = 5 ∨ k = 6 := by omega
      rcases this with rfl | rfl | rfl | rfl | rfl | rfl | rfl <;> subst e <;> simp
    rcases hcs with rfl | rfl | rfl | rfl | rfl | rfl | rfl <;> rfl

theorem col_jn {c : UInt8} (hc : n8 c ≤ 6) (d : UInt8) (out : List UInt8) (ho : out.length ≤ 90000000) {R : Type} (K : List UInt8 → Option R) :
    jn K (fun w => cnd (ine (n8 c) (n8 d)) (bnd (r24_colors fuelH ()) fun v15 => fixN (fun v16 (v17 : (List UInt8) × Int) =>
          cnd (ilt v17.2 (len v15))
            (grd (inb v17.2 (len v15))
              (cnd (ieq (n8 (lget v15 (toN v17.2) (0 : UInt8))) (n8 c))
                (grd (room (iadd (len v17.1) (len ([b8 (w64 (iadd v17.2 (1 : Int)))] : List UInt8))) 1)
                  (v16 (lapp v17.1 ([b8 (w64 (iadd v17.2 (1 : Int)))] : List UInt8), w64 (iadd v17.2 (1 : Int)))))
                (v16 (v17.1, w64 (iadd v17.2 (1 : Int))))))
            (w v17.1)) fuelH (out, (0 : Int))) (w out)) = K (out ++ if c ≠ d then [colB c] else []) := by
  rw [jn_e, bnd_s (show r24_colors fuelH () = some ([4, 1, 5, 2, 6, 3, 0] : List UInt8) from rfl), r24_col hc out ho K (by have := fuelH_eq; omega), cnd_ite]
  simp only [ine_tt, ne_eq, n8_eq]
  split <;> simp

noncomputable def textL : Bool → List Row → List UInt8 → List UInt8 × Int
  | _, [], out => (out, 0)
  | first, r :: l, out => if rowChk r ≠ 0 then ([], rowChk r) else textL false l (out ++ (if first then [] else [138]) ++ rowB plainS r)
noncomputable def costL : List Row → Nat
  | [] => 0
  | r :: l => 1 + cost r + costL l
theorem itI_text : ∀ (l : List Row) (i : Nat) (out : List UInt8), itI (fun i r (a : List UInt8) => if rowChk r ≠ 0 then .inl (some (([] : List UInt8), rowChk r)) else .inr (a ++ (if i = 0 then [] else [138]) ++ rowB plainS r)) (fun a => some (a, (0 : Int))) i l out = some (textL (decide (i = 0)) l out)
  | [], i, out => rfl
  | r :: l, i, out => by
    simp only [itI, textL]
    by_cases h : rowChk r ≠ 0
    · rw [if_pos h, if_pos h]
    · rw [if_neg h, if_neg h]
      simp only
      rw [itI_text l (i + 1)]
      have : decide (i + 1 = 0) = false := decide_eq_false (by omega)
      rw [this]
      by_cases h0 : i = 0
      · simp [h0]
      · simp [h0]
theorem app_if {R : Type} {b : Bool} {p : Prop} [Decidable p] (hb : (b = true) = p) {y : UInt8} {X : Option UInt8} (hX : X = some y) (out : List UInt8) (ho : out.length ≤ 90000000) (k : List UInt8 → Option R) :
    jn k (fun w => cnd b (bnd X fun v => grd (room (iadd (len out) (len ([v] : List UInt8))) 1) (w (lapp out ([v] : List UInt8)))) (w out)) = k (out ++ if p then [y] else []) := by
  rw [jn_e, hX, bnd_some', grd_t (room_t (by simp only [iadd, len, List.length_singleton]; omega)), cnd_ite]
  by_cases h : p
  · rw [if_pos (by rw [hb]; exact h), if_pos h]; rfl
  · rw [if_neg (by rw [hb]; exact h), if_neg h, List.append_nil]
theorem app_enc {R : Type} {X : Option (List UInt8 × Int)} {y : List UInt8} (hX : X = some (y, 0)) (hy : y.length ≤ 4000000) (out : List UInt8) (ho : out.length ≤ 90000000) (k : List UInt8 → Option R) :
    (bnd X fun v => grd (room (iadd (len out) (len v.1)) 1) (k (lapp out v.1))) = k (out ++ y) := by
  rw [hX, bnd_some', grd_t (room_t (by simp only [iadd, len]; omega))]; rfl
theorem on_eq (N : Nat) (b : Bool) (y z : UInt8) : stl_on N (b, y, z) = some (if b = true then y else z) := by cases b <;> rfl
theorem onOff_eq (N : Nat) (b : Bool) : r24_onOff N (b, 128) = some (if b = true then 128 else 129) ∧ r24_onOff N (b, 130) = some (if b = true then 130 else 131) := by cases b <;> exact ⟨rfl, rfl⟩
theorem if_len (p : Prop) [Decidable p] (y : UInt8) : (if p then [y] else []).length ≤ 1 := by split <;> simp
/-- the loop over the runs of a row, as the program has it -/
noncomputable def rowF {R : Type} (x : Row) (K : List UInt8 → Option R) (v8 : List UInt8 × Int × UInt8 × Bool × Bool → Option R) (v9 : List UInt8 × Int × UInt8 × Bool × Bool) : Option R :=
            cnd (ilt v9.2.1 (len x))
              (grd (inb v9.2.1 (len x))
                (jn (fun (v10 : List UInt8) =>
                  jn (fun (v11 : List UInt8) =>
                    jn (fun (v12 : List UInt8) =>
                      bnd (latin_Encode fuelH (lget x (toN v9.2.1) ([], (((0 : UInt8), (false, false)), []))).1) fun v13 =>
                      grd (room (iadd (len v12) (len v13.1)) 1) <|
                      v8 (lapp v12 v13.1, w64 (iadd v9.2.1 (1 : Int)), (lget x (toN v9.2.1) ([], (((0 : UInt8), (false, false)), []))).2.1))
                    fun v14 =>
                    cnd (bneb (lget x (toN v9.2.1) ([], (((0 : UInt8), (false, false)), []))).2.1.2.2 v9.2.2.2.2)
                      (bnd (stl_on fuelH ((lget x (toN v9.2.1) ([], (((0 : UInt8), (false, false)), []))).2.1.2.2, (130 : UInt8), (131 : UInt8))) fun v15 =>
                      grd (room (iadd (len v11) (len ([v15] : List UInt8))) 1) <|
                      v14 (lapp v11 ([v15] : List UInt8)))
                      (v14 v11))
                  fun v16 =>
                  cnd (bneb (lget x (toN v9.2.1) ([], (((0 : UInt8), (false, false)), []))).2.1.2.1 v9.2.2.2.1)
                    (bnd (stl_on fuelH ((lget x (toN v9.2.1) ([], (((0 : UInt8), (false, false)), []))).2.1.2.1, (128 : UInt8), (129 : UInt8))) fun v17 =>
                    grd (room (iadd (len v10) (len ([v17] : List UInt8))) 1) <|
                    v16 (lapp v10 ([v17] : List UInt8)))
                    (v16 v10))
                fun v18 =>
                cnd (ine (n8 (lget x (toN v9.2.1) ([], (((0 : UInt8), (false, false)), []))).2.1.1) (n8 v9.2.2.1))
                  (bnd (stl_colorByte fuelH (lget x (toN v9.2.1) ([], (((0 : UInt8), (false, false)), []))).2.1.1) fun v19 =>
                  grd (room (iadd (len v9.1) (len ([v19] : List UInt8))) 1) <|
                  v18 (lapp v9.1 ([v19] : List UInt8)))
                  (v18 v9.1)))
              (K v9.1)
theorem rowF_eq {R : Type} {x : Row} (hf : fits x) (hx : x.length ≤ 1000000) (K : List UInt8 → Option R) {b : List UInt8} (hb : b.length + cost x ≤ 80000000) : fixN (rowF x K) fuelH (b, (0 : Int), (0 : UInt8), false, false) = K (b ++ rowB plainS x) := by
  refine Eq.trans (lst_it (l := x) (fun (a : List UInt8 × Sty) (p : Nat) => (a.1, (p : Int), a.2)) (fun _ y a => .inr (a.1 ++ runB a.2 y, y.2.1)) (fun a => K a.1) (RI x 80000000) (fun self a j hj hJ => ?_) (fun self a _ => ?_) fuelH 0 (b, plainS) (Nat.zero_le _) (by have := fuelH_eq; omega) (by simpa [RI] using hb)) ?_
  · obtain ⟨s1, s2⟩ := RI_step hj hf hJ
    refine ⟨?_, s1⟩
    obtain ⟨f1, f2, f3⟩ := hf x[j] (List.getElem_mem hj)
    unfold rowF
    simp only
    rw [cnd_t (ilt_t (by simp only [len]; omega)), grd_t (inb_t (by simp only [len]; omega)), lget_i hj, w64_succ hj (by omega)]
    have le := latE_len f1
    have henc : latin_Encode fuelH x[j].1 = some (latE x[j].1, 0) := by rw [latin_encode f3, if_pos f1]
    have l1 := if_len (x[j].2.1.1 ≠ a.2.1) (colB x[j].2.1.1)
    have l2 := if_len (x[j].2.1.2.1 ≠ a.2.2.1) (if x[j].2.1.2.1 = true then 128 else 129)
    have l3 := if_len (x[j].2.1.2.2 ≠ a.2.2.2) (if x[j].2.1.2.2 = true then 130 else 131)
    refine Eq.trans (app_if (p := x[j].2.1.1 ≠ a.2.1) (by rw [ine_tt, ne_eq, n8_eq]) (colB_eq fuelH f2) a.1 (by omega) _) ?_
    refine Eq.trans (app_if (p := x[j].2.1.2.1 ≠ a.2.2.1) bneb_t (on_eq _ _ _ _) _ (by rw [List.length_append]; omega) _) ?_
    refine Eq.trans (app_if (p := x[j].2.1.2.2 ≠ a.2.2.2) bneb_t (on_eq _ _ _ _) _ (by rw [List.length_append, List.length_append]; omega) _) ?_
    refine Eq.trans (app_enc henc (by omega) _ (by rw [List.length_append, List.length_append, List.length_append]; omega) fun o => self (o, ((j + 1 : Nat) : Int), x[j].2.1)) ?_
    simp only [runB, List.append_assoc]
  · unfold rowF
    simp only
    rw [cnd_f (ilt_f (by simp only [len]; omega))]
  · rw [List.drop_zero, itI_fold, rowB_fold]
noncomputable def shortL (l : List Row) : Prop := ∀ r ∈ l, shortR r
theorem stl_text {l : List Row} (hs : shortL l) (hc : costL l ≤ 60000000) (hl : l.length ≤ 1000000) : stl_Text fuelH l = some (textL true l []) := by
  unfold stl_Text
  rw [jn_e]
  refine Eq.trans (lst_it (l := l) (fun (a : List UInt8) (p : Nat) => (a, (p : Int))) (fun i r a => if rowChk r ≠ 0 then .inl (some (([] : List UInt8), rowChk r)) else .inr (a ++ (if i = 0 then [] else [138]) ++ rowB plainS r)) (fun a => some (a, (0 : Int))) (fun i a => a.length + costL (l.drop i) ≤ 60000000) (fun self a i hi hI => ?_) (fun self a _ => ?_) fuelH 0 [] (Nat.zero_le _) (by have := fuelH_eq; omega) (by simpa using hc)) ?_
  · have hsr := hs l[i] (List.getElem_mem hi)
    rw [List.drop_eq_getElem_cons hi] at hI
    simp only [costL] at hI
    by_cases hk : rowChk l[i] ≠ 0
    · rw [if_pos hk]
      show _ = _
      simp only
      rw [cnd_t (ilt_t (by simp only [len]; omega)), jn_e, grd_t (inb_t (by simp only [len]; omega)), lget_i hi, bnd_s (style_check hsr), cnd_t (ine_t hk)]
    · rw [if_neg hk]
      have hk0 : rowChk l[i] = 0 := by simpa using hk
      obtain ⟨hk1, hk2⟩ := rowChk_ok hk0
      have hf : fits l[i] := fun x hx => ⟨(hk2 x hx).1, (hk2 x hx).2.2.1, (hsr x hx).1⟩
      have hrl := rowB_len (now := plainS) fun x hx => (hk2 x hx).1
      refine ⟨?_, ?_⟩
      · simp only
        rw [cnd_t (ilt_t (by simp only [len]; omega)), jn_e, grd_t (inb_t (by simp only [len]; omega)), lget_i hi, bnd_s (style_check hsr), cnd_f (ine_f hk0), jn_e, w64_succ hi (by omega)]
        by_cases h0 : i = 0
        · subst h0
          rw [cnd_f (ilt_f (by omega))]
          refine Eq.trans (rowF_eq hf (by omega) (fun b => self (b, ((0 + 1 : Nat) : Int))) (by omega)) ?_
          simp
        · rw [cnd_t (ilt_t (by omega)), grd_t (room_t (by simp only [iadd, len, List.length_singleton]; omega)), if_neg h0]
          refine Eq.trans (rowF_eq hf (by omega) (fun b => self (b, ((i + 1 : Nat) : Int))) (by simp only [lapp, List.length_append, List.length_singleton]; omega)) ?_
          rfl
      · simp only [List.length_append]
        split <;> simp <;> omega
  · simp only
    rw [cnd_f (ilt_f (by simp only [len]; omega))]
  · rw [List.drop_zero, itI_text]
    rfl
theorem r24_row_eq {x : Row} (hf : fits x) (hx : x.length ≤ 1000000) (hb : cost x ≤ 80000000) : r24_row fuelH x = some (rowB plainS x) := by
  unfold r24_row
  rw [jn_e]
  refine Eq.trans (lst_it (l := x) (fun (a : List UInt8 × Sty) (p : Nat) => (a.1, (p : Int), a.2)) (fun _ y a => .inr (a.1 ++ runB a.2 y, y.2.1)) (fun a => some a.1) (RI x 80000000) (fun self a j hj hJ => ?_) (fun self a _ => ?_) fuelH 0 ([], plainS) (Nat.zero_le _) (by have := fuelH_eq; omega) (by simpa [RI] using hb)) ?_
  · obtain ⟨s1, s2⟩ := RI_step hj hf hJ
    refine ⟨?_, s1⟩
    obtain ⟨f1, f2, f3⟩ := hf x[j] (List.getElem_mem hj)
    simp only
    rw [cnd_t (ilt_t (by simp only [len]; omega)), jn_e, grd_t (inb_t (by simp only [len]; omega)), lget_i hj, w64_succ hj (by omega)]
    have le := latE_len f1
    have henc : r22_Encode fuelH x[j].1 = some (latE x[j].1, 0) := by rw [r22_encode f3, if_pos f1]
    have l1 := if_len (x[j].2.1.1 ≠ a.2.1) (colB x[j].2.1.1)
    have l2 := if_len (x[j].2.1.2.1 ≠ a.2.2.1) (if x[j].2.1.2.1 = true then 128 else 129)
    have l3 := if_len (x[j].2.1.2.2 ≠ a.2.2.2) (if x[j].2.1.2.2 = true then 130 else 131)
    refine Eq.trans (col_jn f2 a.2.1 a.1 (by omega) _) ?_
    dsimp only
    refine Eq.trans (app_if (p := x[j].2.1.2.1 ≠ a.2.2.1) bneb_t (onOff_eq _ _).1 _ (by rw [List.length_append]; omega) _) ?_
    refine Eq.trans (app_if (p := x[j].2.1.2.2 ≠ a.2.2.2) bneb_t (onOff_eq _ _).2 _ (by rw [List.length_append, List.length_append]; omega) _) ?_
    refine Eq.trans (app_enc henc (by omega) _ (by rw [List.length_append, List.length_append, List.length_append]; omega) fun o => self (o, ((j + 1 : Nat) : Int), x[j].2.1)) ?_
    simp only [runB, List.append_assoc]
  · simp only
    rw [cnd_f (ilt_f (by simp only [len]; omega))]
  · rw [List.drop_zero, itI_fold, rowB_fold]
    rfl
theorem r24_text {l : List Row} (hs : shortL l) (hc : costL l ≤ 60000000) (hl : l.length ≤ 1000000) : r24_Text fuelH l = some (textL true l []) := by
  unfold r24_Text
  rw [jn_e]
  refine Eq.trans (lst_it (l := l) (fun (a : List UInt8) (p : Nat) => (a, (p : Int))) (fun i r a => if rowChk r ≠ 0 then .inl (some (([] : List UInt8), rowChk r)) else .inr (a ++ (if i = 0 then [] else [138]) ++ rowB plainS r)) (fun a => some (a, (0 : Int))) (fun i a => a.length + costL (l.drop i) ≤ 60000000) (fun self a i hi hI => ?_) (fun self a _ => ?_) fuelH 0 [] (Nat.zero_le _) (by have := fuelH_eq; omega) (by simpa using hc)) ?_
  · have hsr := hs l[i] (List.getElem_mem hi)
    rw [List.drop_eq_getElem_cons hi] at hI
    simp only [costL] at hI
    by_cases hk : rowChk l[i] ≠ 0
    · rw [if_pos hk]
      show _ = _
      simp only
      rw [cnd_t (ilt_t (by simp only [len]; omega)), grd_t (inb_t (by simp only [len]; omega)), lget_i hi, bnd_s (r09_check hsr), cnd_t (ine_t hk)]
    · rw [if_neg hk]
      have hk0 : rowChk l[i] = 0 := by simpa using hk
      obtain ⟨hk1, hk2⟩ := rowChk_ok hk0
      have hf : fits l[i] := fun x hx => ⟨(hk2 x hx).1, (hk2 x hx).2.2.1, (hsr x hx).1⟩
      have hrl := rowB_len (now := plainS) fun x hx => (hk2 x hx).1
      refine ⟨?_, ?_⟩
      · simp only
        rw [cnd_t (ilt_t (by simp only [len]; omega)), grd_t (inb_t (by simp only [len]; omega)), lget_i hi, bnd_s (r09_check hsr), cnd_f (ine_f hk0), w64_succ hi (by omega), r24_row_eq hf (by omega) (by omega), bnd_some', bnd_some']
        by_cases h0 : i = 0
        · subst h0
          rw [cnd_f (ilt_f (by omega)), grd_t (room_t (by simp only [iadd, len]; omega))]
          simp [lapp]
        · rw [cnd_t (ilt_t (by omega)), grd_t (room_t (by simp only [iadd, len, List.length_singleton]; omega)), if_neg h0, grd_t (room_t (by simp only [iadd, len, lapp, List.length_append, List.length_singleton]; omega))]
          rfl
      · simp only [List.length_append]
        split <;> simp <;> omega
  · simp only
    rw [cnd_f (ilt_f (by simp only [len]; omega))]
  · rw [List.drop_zero, itI_text]
    rfl
end
end Go.Mo
end

section
/-
  Plain facts: rows that are read from bytes, on both sides.
-/
namespace Go.Mo
open Go Go.W Go.Lib
set_option maxRecDepth 100000
noncomputable section

noncomputable def g1 (a : UInt8) : Option Int := if 32 ≤ n8 a ∧ n8 a < 127 then some (n8 a) else (sgF a).map (·.1)
noncomputable def g2 (a b : UInt8) : Int × Int := (acG (accR a) b).getD (0, 0)
end
end Go.Mo
end

section
/-
  Plain facts: rows that are read by the reference; equality of rows; StlTexts returns true.
-/
namespace Go.Mo
open Go Go.W Go.Lib
set_option maxRecDepth 100000
noncomputable section

end
end Go.Mo
end

section
/-
  Plain facts: StlTexts returns true.
-/
namespace Go.Mo
open Go Go.W Go.Lib
set_option maxRecDepth 100000
noncomputable section
theorem awake24 : l24_awake fuelH () = some true := by kernel_rfl

theorem loop_inv {V R σ : Type} {F : (V → Option R) → V → Option R} {n : Nat} (st : σ → Nat → V) (I : Nat → σ → Prop) (r : Option R)
    (hstep : ∀ self a i, i < n → I i a → ∃ a', F self (st a i) = self (st a' (i + 1)) ∧ I (i + 1) a') (hend : ∀ self a, I n a → F self (st a n) = r) : ∀ (fuel i : Nat) (a : σ), i ≤ n → n - i < fuel → I i a → fixN F fuel (st a i) = r
  | 0, i, a, _, h, _ => by omega
  | fuel + 1, i, a, hi, h, hI => by
    rw [fixN_s]
    by_cases hl : i < n
    · obtain ⟨a', h1, h2⟩ := hstep (fixN F fuel) a i hl hI
      rw [h1]
      exact loop_inv st I r hstep hend fuel (i + 1) a' (by omega) (by omega) h2
    · obtain rfl : i = n := by omega
      exact hend _ _ hI

theorem bk_mem {α : Type} {f : α → Nat} {l : List α} {x : α} (h : x ∈ l) : f x ≤ bkL f l := by
  induction l with
  | nil => cases h
  | cons y l ih =>
    simp only [bkL]
    rcases List.mem_cons.1 h with rfl | h
    · omega
    · have := ih h; omega
noncomputable def wtU (x : Run) : Nat := x.1.length + 1 + (1 + (1 + 1) + (x.2.2.length + 1))
noncomputable def wtR (r : Row) : Nat := bkL wtU r + 1
theorem cost_wt (r : Row) : cost r ≤ bkL wtU r := by
  induction r with
  | nil => exact Nat.le_refl _
  | cons x r ih => simp only [cost, bkL, wtU]; omega
theorem costL_wt (l : List Row) : costL l ≤ bkL wtR l := by
  induction l with
  | nil => exact Nat.le_refl _
  | cons r l ih => have := cost_wt r; simp only [costL, bkL, wtR]; omega
theorem short_wt {l : List Row} {B : Nat} (h : bkL wtR l ≤ B) (hB : B ≤ 4000000) : shortL l := fun r hr x hx => by
  have h1 : bkL wtU r + 1 ≤ bkL wtR l := bk_mem (f := wtR) hr
  have h2 : x.1.length + 1 + (1 + (1 + 1) + (x.2.2.length + 1)) ≤ bkL wtU r := bk_mem (f := wtU) hx
  omega

theorem min_take {α : Type} (l : List α) (n : Nat) : ltake (toN (imin (len l) (n : Int))) l = l.take n ∧ in2 (imin (len l) (n : Int)) (len l) = true := by
  have e : toN (imin (len l) (n : Int)) = min l.length n := by simp only [toN, imin, len]; omega
  refine ⟨?_, in2_t (by simp only [imin, len]; omega)⟩
  rw [e]
  unfold ltake
  by_cases h : l.length ≤ n
  · rw [Nat.min_eq_left h, List.take_length, List.take_of_length_le h]
  · rw [Nat.min_eq_right (by omega)]
theorem textL_len : ∀ (l : List Row) (b : Bool) (out : List UInt8), (textL b l out).1.length ≤ out.length + costL l
  | [], _, out => by simp [textL]
  | r :: l, b, out => by
    simp only [textL]
    split
    · simp
    · rename_i h
      have hr := rowB_len (now := plainS) fun x hx => ((rowChk_ok (l := r) (by simpa using h)).2 x hx).1
      refine Nat.le_trans (textL_len l false _) ?_
      rw [List.length_append, List.length_append]
      simp only [costL]
      split <;> simp <;> omega
end
end Go.Mo
end

section
/-
  Plain facts: StlReturns returns true.
-/
namespace Go.Mo
open Go Go.W Go.Lib
set_option maxRecDepth 100000
noncomputable section

theorem tot_cost (l : Row) : tot l ≤ cost l := by rw [cost_eq]; omega
end
end Go.Mo
end

section
/-
  Plain facts: regions, their check, a region by its name, the places of rows.
-/
namespace Go.Mo
open Go Go.W Go.Lib
set_option maxRecDepth 100000
noncomputable section
abbrev Reg := List UInt8 × Int × Int × Int × Int × UInt8 × Bool
abbrev Spot := Int × Int × Int

theorem from_eq (N : Nat) (a b c : Int) : region_from N (a, b, c) = some (decide (b ≤ a ∧ a ≤ c)) := by
  unfold region_from
  rw [cnd_ile]
  by_cases h : b ≤ a
  · simp [h, ile]
  · simp [h]
def regChk (r : Reg) : Int :=
  if nm r.1 = false then 5 else
  if ¬ (0 ≤ r.2.1 ∧ r.2.1 ≤ 14) then 2 else
  if ¬ (1 ≤ r.2.2.1 ∧ r.2.2.1 ≤ 15 - r.2.1) then 2 else
  if ¬ (0 ≤ r.2.2.2.1 ∧ r.2.2.2.1 ≤ 31) then 2 else
  if ¬ (1 ≤ r.2.2.2.2.1 ∧ r.2.2.2.2.1 ≤ 32 - r.2.2.2.1) then 2 else
  if ¬ (1 ≤ n8 r.2.2.2.2.2.1 ∧ n8 r.2.2.2.2.2.1 ≤ 3) then 3 else 0
theorem dec_f {p : Prop} [Decidable p] : (decide p = false) = ¬ p := by by_cases h : p <;> simp [h]
theorem region_check (r : Reg) : region_Check fuelH r = some (regChk r) := by
  unfold region_Check regChk
  rw [lines_name, bnd_some']
  simp only [from_eq, bnd_some', cnd_ite, bnot_t, dec_f, ilt_tt]
  have e1 : n8 (1 : UInt8) = 1 := rfl
  have e3 : n8 (3 : UInt8) = 3 := rfl
  rw [e1, e3]
  by_cases h0 : nm r.1 = false
  · rw [if_pos h0, if_pos h0]
  rw [if_neg h0, if_neg h0]
  by_cases h1 : 0 ≤ r.2.1 ∧ r.2.1 ≤ 14
  · rw [if_neg (not_not_intro h1), if_neg (not_not_intro h1)]
    have w1 : w64 (isub 15 r.2.1) = 15 - r.2.1 := by unfold isub; rw [w64_id (by omega)]
    rw [w1]
    by_cases h2 : 1 ≤ r.2.2.1 ∧ r.2.2.1 ≤ 15 - r.2.1
    · rw [if_neg (not_not_intro h2), if_neg (not_not_intro h2)]
      by_cases h3 : 0 ≤ r.2.2.2.1 ∧ r.2.2.2.1 ≤ 31
      · rw [if_neg (not_not_intro h3), if_neg (not_not_intro h3)]
        have w2 : w64 (isub 32 r.2.2.2.1) = 32 - r.2.2.2.1 := by unfold isub; rw [w64_id (by omega)]
        rw [w2]
        by_cases h4 : 1 ≤ r.2.2.2.2.1 ∧ r.2.2.2.2.1 ≤ 32 - r.2.2.2.1
        · rw [if_neg (not_not_intro h4), if_neg (not_not_intro h4)]
          by_cases h5 : n8 r.2.2.2.2.2.1 < 1
          · rw [if_pos h5, if_pos (by omega)]
          · rw [if_neg h5]
            by_cases h6 : 3 < n8 r.2.2.2.2.2.1
            · rw [if_pos h6, if_pos (by omega)]
            · rw [if_neg h6, if_neg (by omega)]
        · rw [if_pos h4, if_pos h4]
      · rw [if_pos h3, if_pos h3]
    · rw [if_pos h2, if_pos h2]
  · rw [if_pos h1, if_pos h1]
theorem r10_check (r : Reg) : r10_Check fuelH r = some (regChk r) := by
  unfold r10_Check regChk
  rw [r07_name, bnd_some']
  simp only [cnd_ite, bnot_t, ilt_tt, ine_tt]
  by_cases h0 : nm r.1 = false
  · rw [if_pos h0, if_pos h0]
  rw [if_neg h0, if_neg h0]
  by_cases h1 : 0 ≤ r.2.1 ∧ r.2.1 ≤ 14
  · rw [if_neg (by omega), if_neg (by omega), if_neg (not_not_intro h1)]
    have w1 : w64 (isub 15 r.2.1) = 15 - r.2.1 := by unfold isub; rw [w64_id (by omega)]
    rw [w1]
    by_cases h2 : 1 ≤ r.2.2.1 ∧ r.2.2.1 ≤ 15 - r.2.1
    · rw [if_neg (by omega), if_neg (by omega), if_neg (not_not_intro h2)]
      by_cases h3 : 0 ≤ r.2.2.2.1 ∧ r.2.2.2.1 ≤ 31
      · rw [if_neg (by omega), if_neg (by omega), if_neg (not_not_intro h3)]
        have w2 : w64 (isub 32 r.2.2.2.1) = 32 - r.2.2.2.1 := by unfold isub; rw [w64_id (by omega)]
        rw [w2]
        by_cases h4 : 1 ≤ r.2.2.2.2.1 ∧ r.2.2.2.2.1 ≤ 32 - r.2.2.2.1
        · rw [if_neg (by omega), if_neg (by omega), if_neg (not_not_intro h4)]
          have e1 : n8 (1 : UInt8) = 1 := rfl
          have e2 : n8 (2 : UInt8) = 2 := rfl
          have e3 : n8 (3 : UInt8) = 3 := rfl
          rw [e1, e2, e3]
          by_cases c1 : n8 r.2.2.2.2.2.1 = 1
          · rw [if_neg (not_not_intro c1), if_neg (by omega)]
          rw [if_pos c1]
          by_cases c2 : n8 r.2.2.2.2.2.1 = 2
          · rw [if_neg (not_not_intro c2), if_neg (by omega)]
          rw [if_pos c2]
          by_cases c3 : n8 r.2.2.2.2.2.1 = 3
          · rw [if_neg (not_not_intro c3), if_neg (by omega)]
          · rw [if_pos c3, if_pos (by omega)]
        · rw [if_pos h4]
          by_cases h : r.2.2.2.2.1 < 1
          · rw [if_pos h]
          · rw [if_neg h, if_pos (by omega)]
      · rw [if_pos h3]
        by_cases h : r.2.2.2.1 < 0
        · rw [if_pos h]
        · rw [if_neg h, if_pos (by omega)]
    · rw [if_pos h2]
      by_cases h : r.2.2.1 < 1
      · rw [if_pos h]
      · rw [if_neg h, if_pos (by omega)]
  · rw [if_pos h1]
    by_cases h : r.2.1 < 0
    · rw [if_pos h]
    · rw [if_neg h, if_pos (by omega)]

def chkRegs : Option Reg → List Reg → Int
  | _, [] => 0
  | p, r :: l => if regChk r ≠ 0 then regChk r else match p with
    | none => chkRegs (some r) l
    | some q => if r.1 = q.1 then 7 else if slt r.1 q.1 = true then 8 else chkRegs (some r) l
def regsChk (l : List Reg) : Int := if 16 < l.length then 9 else chkRegs none l
/-- one round of the check -/
def regRnd (p : Option Reg) (r : Reg) : Option Int ⊕ Unit := if regChk r ≠ 0 then .inl (some (regChk r)) else match p with
    | none => .inr ()
    | some q => if r.1 = q.1 then .inl (some 7) else if slt r.1 q.1 = true then .inl (some 8) else .inr ()
theorem itI_regs (l : List Reg) : ∀ (r : List Reg) (i : Nat), l.drop i = r → i ≤ l.length → itI (fun i x (_ : Unit) => regRnd (before l i) x) (fun _ => some (0 : Int)) i r () = some (chkRegs (before l i) r)
  | [], i, _, _ => rfl
  | x :: r, i, h, hi => by
    have hx : l[i]? = some x := by rw [← List.head?_drop, h]; rfl
    have hr : l.drop (i + 1) = r := by rw [← List.drop_drop, h]; rfl
    have hl : i < l.length := (List.getElem?_eq_some_iff.1 hx).1
    simp only [itI, chkRegs, regRnd]
    have e : before l (i + 1) = some x := hx
    have ih := itI_regs l r (i + 1) hr (by omega)
    rw [e] at ih
    by_cases hc : regChk x ≠ 0
    · rw [if_pos hc, if_pos hc]
    · rw [if_neg hc, if_neg hc]
      cases before l i with
      | none => exact ih
      | some q =>
        simp only
        by_cases h7 : x.1 = q.1
        · rw [if_pos h7, if_pos h7]
        · rw [if_neg h7, if_neg h7]
          by_cases h8 : slt x.1 q.1 = true
          · rw [if_pos h8, if_pos h8]
          · rw [if_neg h8, if_neg h8]
            exact ih
theorem region_list (l : List Reg) : region_CheckList fuelH l = some (regsChk l) := by
  unfold region_CheckList
  by_cases h : 16 < l.length
  · rw [cnd_t (ilt_t (by simp only [len]; omega))]; simp [regsChk, h]
  · rw [cnd_f (ilt_f (by simp only [len]; omega)), jn_e]
    refine Eq.trans (lst_it (l := l) (fun (_ : Unit) (p : Nat) => (p : Int)) (fun i x (_ : Unit) => regRnd (before l i) x) (fun _ => some (0 : Int)) (fun _ _ => True) (fun self a i hi _ => ?_) (fun self a _ => ?_) fuelH 0 () (Nat.zero_le _) (by have := fuelH_eq; omega) trivial) ?_
    · rw [cnd_t (ilt_t (by simp only [len]; omega)), grd_t (inb_t (by simp only [len]; omega)), lget_i hi, bnd_s (region_check _)]
      unfold regRnd
      by_cases hc : regChk l[i] ≠ 0
      · rw [if_pos hc, cnd_t (ine_t hc)]; rfl
      · rw [if_neg hc, cnd_f (ine_f (by simpa using hc)), jn_e, w64_succ hi (by omega)]
        cases i with
        | zero =>
          rw [cnd_f (by rfl), cnd_f (by rfl)]
          exact ⟨rfl, trivial⟩
        | succ i =>
          have e0 : before l (i + 1) = some l[i] := by simp only [before]; exact List.getElem?_eq_getElem (by omega)
          have hin : inb ((i : Nat) : Int) (len l) = true := inb_t (by simp only [len]; omega)
          have hp : ilt (0 : Int) ((i + 1 : Nat) : Int) = true := ilt_t (by omega)
          rw [e0, cnd_t hp, w64_back (by omega), grd_t hin, lget_i (show i < l.length by omega), cnd_t hp, grd_t hin]
          simp only
          by_cases h7 : l[i + 1].1 = l[i].1
          · rw [if_pos h7, cnd_t (by rw [seq_t]; exact h7)]; rfl
          · rw [if_neg h7, cnd_f (by rw [← Bool.not_eq_true, seq_t]; exact h7)]
            by_cases h8 : slt l[i + 1].1 l[i].1 = true
            · rw [if_pos h8, cnd_t h8]; rfl
            · rw [if_neg h8, cnd_f (by simpa using h8)]
              exact ⟨rfl, trivial⟩
    · rw [cnd_f (ilt_f (by simp only [len]; omega))]
    · rw [List.drop_zero, itI_regs l l 0 rfl (Nat.zero_le _)]
      simp [regsChk, h, before]
theorem r10_list (l : List Reg) : r10_CheckList fuelH l = some (regsChk l) := by
  rw [← region_list]
  have e : r10_Check fuelH = region_Check fuelH := funext fun r => by rw [r10_check, region_check]
  unfold r10_CheckList region_CheckList
  rw [e]

def defR : Reg := ([], 11, 4, 0, 32, 2, true)
def noR : Reg := ([], 0, 0, 0, 0, 0, false)
def findR (l : List Reg) (n : List UInt8) : Option Reg := if n = [] then some defR else l.find? fun r => decide (r.1 = n)
def findP (l : List Reg) (n : List UInt8) : Reg × Bool := match findR l n with
  | some r => (r, true)
  | none => (noR, false)
theorem itI_find (n : List UInt8) : ∀ (l : List Reg) (i : Nat), itI (fun _ (x : Reg) (_ : Unit) => if x.1 = n then (.inl (some (x, true)) : Option (Reg × Bool) ⊕ Unit) else .inr ()) (fun _ => some (noR, false)) i l () = some (match l.find? fun r => decide (r.1 = n) with | some r => (r, true) | none => (noR, false))
  | [], _ => rfl
  | x :: l, i => by
    simp only [itI, List.find?_cons]
    by_cases h : x.1 = n
    · rw [if_pos h, decide_eq_true h]
    · rw [if_neg h, decide_eq_false h]
      exact itI_find n l (i + 1)
theorem region_find (l : List Reg) (hl : l.length ≤ 4000000) (n : List UInt8) : region_Find fuelH (l, n) = some (findP l n) := by
  unfold region_Find findP findR
  simp only
  by_cases h : n = []
  · rw [cnd_t (by rw [seq_t]; exact h), if_pos h]; rfl
  · rw [cnd_f (by rw [← Bool.not_eq_true, seq_t]; exact h), if_neg h, jn_e]
    refine Eq.trans (lst_it (l := l) (fun (_ : Unit) (p : Nat) => (p : Int)) (fun _ (x : Reg) (_ : Unit) => if x.1 = n then .inl (some (x, true)) else .inr ()) (fun _ => some (noR, false)) (fun _ _ => True) (fun self a i hi _ => ?_) (fun self a _ => ?_) fuelH 0 () (Nat.zero_le _) (by have := fuelH_eq; omega) trivial) (itI_find n l 0)
    · have hin : inb (i : Int) (len l) = true := inb_t (by simp only [len]; omega)
      rw [cnd_t (ilt_t (by simp only [len]; omega)), grd_t hin, lget_i hi]
      by_cases hc : l[i].1 = n
      · rw [if_pos hc, cnd_t (by rw [seq_t]; exact hc)]; rfl
      · rw [if_neg hc, cnd_f (by rw [← Bool.not_eq_true, seq_t]; exact hc), w64_succ hi (by omega)]
        exact ⟨rfl, trivial⟩
    · rw [cnd_f (ilt_f (by simp only [len]; omega))]
      rfl
theorem r10_find : r10_Find fuelH = region_Find fuelH := by kernel_rfl
end
end Go.Mo
end

section
/-
  Plain facts: the places of rows.
-/
namespace Go.Mo
open Go Go.W Go.Lib
set_option maxRecDepth 100000
noncomputable section

def usableR (r : Reg) : Prop := r = defR ∨ regChk r = 0
instance (r : Reg) : Decidable (usableR r) := by unfold usableR; infer_instance
theorem reg_eq {a b : Reg} : (a = b) = (a.1 = b.1 ∧ a.2.1 = b.2.1 ∧ a.2.2.1 = b.2.2.1 ∧ a.2.2.2.1 = b.2.2.2.1 ∧ a.2.2.2.2.1 = b.2.2.2.2.1 ∧ a.2.2.2.2.2.1 = b.2.2.2.2.2.1 ∧ a.2.2.2.2.2.2 = b.2.2.2.2.2.2) := by
  obtain ⟨a1, a2, a3, a4, a5, a6, a7⟩ := a; obtain ⟨b1, b2, b3, b4, b5, b6, b7⟩ := b; simp
theorem def_band (x : Reg) : (band (seq x.1 defR.1) (band (ieq x.2.1 defR.2.1) (band (ieq x.2.2.1 defR.2.2.1) (band (ieq x.2.2.2.1 defR.2.2.2.1) (band (ieq x.2.2.2.2.1 defR.2.2.2.2.1) (band (ieq (n8 x.2.2.2.2.2.1) (n8 defR.2.2.2.2.2.1)) (beqb x.2.2.2.2.2.2 defR.2.2.2.2.2.2)))))) = true) = (x = defR) := by
  simp only [band_tt, seq_t, ieq_tt, beqb_t, n8_eq]
  exact reg_eq.symm
theorem region_usable_eq (r : Reg) : region_usable fuelH r = some (decide (usableR r)) := by
  unfold region_usable
  rw [bnd_s (show region_Default fuelH () = some defR from rfl), region_check, bnd_some']
  by_cases h : r = defR
  · rw [cnd_t ((def_band r).mpr h), @decide_eq_true (usableR r) _ (.inl h)]
  · rw [cnd_f (by rw [← Bool.not_eq_true]; exact fun k => h ((def_band r).mp k))]
    congr 1
    by_cases h2 : regChk r = 0
    · rw [ieq_t h2, @decide_eq_true (usableR r) _ (.inr h2)]
    · rw [ieq_f h2, @decide_eq_false (usableR r) _ (fun k => k.elim h h2)]
theorem r10_usable_eq (r : Reg) : r10_usable fuelH r = some (decide (usableR r)) := by
  unfold r10_usable
  rw [bnd_s (show r10_Default fuelH () = some defR from rfl), r10_check, bnd_some']
  by_cases h2 : regChk r = 0
  · rw [cnd_t (ieq_t h2), @decide_eq_true (usableR r) _ (.inr h2)]
  · rw [cnd_f (ieq_f h2)]
    congr 1
    have hd := def_band r
    by_cases h : r = defR
    · rw [@decide_eq_true (usableR r) _ (.inl h)]
      exact hd.mpr h
    · rw [@decide_eq_false (usableR r) _ (fun k => k.elim h h2), ← Bool.not_eq_true]
      exact fun k => h (hd.mp k)
theorem usable_bd {r : Reg} (h : usableR r) : 0 ≤ r.2.1 ∧ 1 ≤ r.2.2.1 ∧ r.2.1 + r.2.2.1 ≤ 15 ∧ 0 ≤ r.2.2.2.1 ∧ 1 ≤ r.2.2.2.2.1 ∧ r.2.2.2.1 + r.2.2.2.2.1 ≤ 32 ∧ 1 ≤ n8 r.2.2.2.2.2.1 ∧ n8 r.2.2.2.2.2.1 ≤ 3 := by
  rcases h with rfl | h
  · decide
  · unfold regChk at h
    split at h
    · cases h
    split at h
    · cases h
    split at h
    · cases h
    split at h
    · cases h
    split at h
    · cases h
    split at h
    · cases h
    omega

def colOf (r : Reg) (n : Int) : Int := if n8 r.2.2.2.2.2.1 = 3 then r.2.2.2.1 + (r.2.2.2.2.1 - n) else if n8 r.2.2.2.2.2.1 = 2 then r.2.2.2.1 + (r.2.2.2.2.1 - n).tdiv 2 else r.2.2.2.1
def topOf (r : Reg) (k : Nat) : Int := if r.2.2.2.2.2.2 = true then r.2.1 + (r.2.2.1 - (k : Int)) else r.2.1
def plRnd (r : Reg) (k : Nat) (i : Nat) (n : Int) (out : List Spot) : Option (List Spot × Int) ⊕ List Spot :=
  if n < 0 then .inl (some ([], 2)) else if r.2.2.2.2.1 < n then .inl (some ([], 11)) else .inr (out ++ [(topOf r k + (i : Int), colOf r n, n)])
def placeL (r : Reg) (k : Nat) : Nat → List Int → List Spot → List Spot × Int
  | _, [], out => (out, 0)
  | i, n :: l, out => if n < 0 then ([], 2) else if r.2.2.2.2.1 < n then ([], 11) else placeL r k (i + 1) l (out ++ [(topOf r k + (i : Int), colOf r n, n)])
def placeS (r : Reg) (l : List Int) : List Spot × Int := if ¬ usableR r then ([], 1) else if r.2.2.1 < (l.length : Int) then ([], 9) else placeL r l.length 0 l []
theorem itI_place (r : Reg) (k : Nat) : ∀ (l : List Int) (i : Nat) (out : List Spot), itI (plRnd r k) (fun a => some (a, (0 : Int))) i l out = some (placeL r k i l out)
  | [], i, out => rfl
  | n :: l, i, out => by
    simp only [itI, placeL, plRnd]
    by_cases h1 : n < 0
    · rw [if_pos h1, if_pos h1]
    · rw [if_neg h1, if_neg h1]
      by_cases h2 : r.2.2.2.2.1 < n
      · rw [if_pos h2, if_pos h2]
      · rw [if_neg h2, if_neg h2]
        exact itI_place r k l (i + 1) _
theorem jn_cnd {α β : Type} (K : α → Option β) (b : Bool) (x y : α) : jn K (fun v => cnd b (v x) (v y)) = K (if b = true then x else y) := by
  rw [jn_e]; cases b <;> rfl
theorem half_bd {x : Int} (h : 0 ≤ x) : 0 ≤ x.tdiv 2 ∧ x.tdiv 2 ≤ x := by
  rw [Int.tdiv_eq_ediv_of_nonneg h]; omega
/-- the numbers of one place do not wrap -/
theorem spot_w {r : Reg} (hu : usableR r) {k i : Nat} {n : Int} (hk : (k : Int) ≤ r.2.2.1) (hi : i < k) (h0 : 0 ≤ n) (hn : n ≤ r.2.2.2.2.1) :
    w64 (iadd (topOf r k) (i : Int)) = topOf r k + (i : Int) ∧ w64 (isub r.2.2.2.2.1 n) = r.2.2.2.2.1 - n ∧ w64 (iadd r.2.2.2.1 (r.2.2.2.2.1 - n)) = r.2.2.2.1 + (r.2.2.2.2.1 - n) ∧ w64 (idiv (r.2.2.2.2.1 - n) 2) = (r.2.2.2.2.1 - n).tdiv 2 ∧ w64 (iadd r.2.2.2.1 ((r.2.2.2.2.1 - n).tdiv 2)) = r.2.2.2.1 + (r.2.2.2.2.1 - n).tdiv 2 := by
  have hb := usable_bd hu
  have hd := half_bd (x := r.2.2.2.2.1 - n) (by omega)
  refine ⟨?_, ?_, ?_, ?_, ?_⟩
  · unfold iadd topOf
    rw [w64_id]
    split <;> omega
  · unfold isub; rw [w64_id (by omega)]
  · unfold iadd; rw [w64_id (by omega)]
  · unfold idiv; rw [w64_id (by omega)]
  · unfold iadd; rw [w64_id (by omega)]
theorem region_place (r : Reg) (l : List Int) : region_Place fuelH (r, l) = some (placeS r l) := by
  unfold region_Place placeS
  simp only
  rw [region_usable_eq, bnd_some', cnd_bnot]
  by_cases hu : usableR r
  · rw [if_pos hu, if_neg (not_not_intro hu)]
    have hb := usable_bd hu
    by_cases hk : r.2.2.1 < (l.length : Int)
    · rw [cnd_t (ilt_t (show r.2.2.1 < len l from hk)), if_pos hk]
    · rw [cnd_f (ilt_f (show ¬ r.2.2.1 < len l from hk)), if_neg hk, jn_cnd]
      have et : (if r.2.2.2.2.2.2 = true then w64 (iadd r.2.1 (w64 (isub r.2.2.1 (len l)))) else r.2.1) = topOf r l.length := by
        unfold topOf
        have e1 : w64 (isub r.2.2.1 (len l)) = r.2.2.1 - (l.length : Int) := by unfold isub len; rw [w64_id (by omega)]
        rw [e1]
        unfold iadd
        rw [w64_id (by omega)]
      rw [et, jn_e]
      refine Eq.trans (lst_it (l := l) (fun (a : List Spot) (p : Nat) => (a, (p : Int))) (plRnd r l.length) (fun a => some (a, (0 : Int))) (fun i a => a.length ≤ i) (fun self a i hi ha => ?_) (fun self a _ => ?_) fuelH 0 [] (Nat.zero_le _) (by have := fuelH_eq; omega) (Nat.le_refl _)) (itI_place r l.length l 0 [])
      · have hin : inb (i : Int) (len l) = true := inb_t (by simp only [len]; omega)
        simp only
        rw [cnd_t (ilt_t (by simp only [len]; omega)), grd_t hin, lget_i hi, w64_succ hi (by omega)]
        unfold plRnd
        by_cases h1 : l[i] < 0
        · rw [if_pos h1, cnd_t (ilt_t h1)]; rfl
        · rw [if_neg h1, cnd_f (ilt_f h1)]
          by_cases h2 : r.2.2.2.2.1 < l[i]
          · rw [if_pos h2, cnd_t (ilt_t h2)]; rfl
          · rw [if_neg h2, cnd_f (ilt_f h2)]
            obtain ⟨q1, q2, q3, q4, q5⟩ := spot_w hu (k := l.length) (i := i) (n := l[i]) (by omega) hi (by omega) (by omega)
            have hroom : ∀ s : Spot, room (iadd (len a) (len [s])) 24 = true := fun s => room_t (by simp only [iadd, len, List.length_singleton]; omega)
            rw [q1, q2, q3, q4, q5]
            rw [grd_t (hroom _), grd_t (hroom _), grd_t (hroom _)]
            refine ⟨?_, by simp only [List.length_append, List.length_singleton]; omega⟩
            unfold colOf
            have e3 : n8 (3 : UInt8) = 3 := rfl
            have e2 : n8 (2 : UInt8) = 2 := rfl
            rw [cnd_ieq, cnd_ieq, e3, e2]
            by_cases c3 : n8 r.2.2.2.2.2.1 = 3
            · rw [if_pos c3, if_pos c3]; rfl
            · rw [if_neg c3, if_neg c3]
              by_cases c2 : n8 r.2.2.2.2.2.1 = 2
              · rw [if_pos c2, if_pos c2]; rfl
              · rw [if_neg c2, if_neg c2]; rfl
      · simp only
        rw [cnd_f (ilt_f (by simp only [len]; omega))]
  · rw [if_neg hu, if_pos hu]
theorem r10_place (r : Reg) (l : List Int) : r10_Place fuelH (r, l) = some (placeS r l) := by
  unfold r10_Place placeS
  simp only
  rw [r10_usable_eq, bnd_some', cnd_bnot]
  by_cases hu : usableR r
  · rw [if_pos hu, if_neg (not_not_intro hu)]
    have hb := usable_bd hu
    by_cases hk : r.2.2.1 < (l.length : Int)
    · rw [cnd_t (ilt_t (show r.2.2.1 < len l from hk)), if_pos hk]
    · rw [cnd_f (ilt_f (show ¬ r.2.2.1 < len l from hk)), if_neg hk, jn_e]
      refine Eq.trans (lst_it (l := l) (fun (a : List Spot) (p : Nat) => (a, (p : Int))) (plRnd r l.length) (fun a => some (a, (0 : Int))) (fun i a => a.length ≤ i) (fun self a i hi ha => ?_) (fun self a _ => ?_) fuelH 0 [] (Nat.zero_le _) (by have := fuelH_eq; omega) (Nat.le_refl _)) (itI_place r l.length l 0 [])
      · have hin : inb (i : Int) (len l) = true := inb_t (by simp only [len]; omega)
        simp only
        rw [cnd_t (ilt_t (by simp only [len]; omega)), grd_t hin, lget_i hi, w64_succ hi (by omega)]
        unfold plRnd
        by_cases h1 : l[i] < 0
        · rw [if_pos h1, cnd_t (ilt_t h1)]; rfl
        · rw [if_neg h1, cnd_f (ilt_f h1)]
          by_cases h2 : r.2.2.2.2.1 < l[i]
          · rw [if_pos h2, cnd_t (ilt_t h2)]; rfl
          · rw [if_neg h2, cnd_f (ilt_f h2), jn_cnd]
            obtain ⟨q1, q2, q3, q4, q5⟩ := spot_w hu (k := l.length) (i := i) (n := l[i]) (by omega) hi (by omega) (by omega)
            have et : (if r.2.2.2.2.2.2 = true then (w64 (iadd (w64 (iadd r.2.1 (i : Int))) (w64 (isub r.2.2.1 (len l)))), r.2.2.2.1, l[i]) else (w64 (iadd r.2.1 (i : Int)), r.2.2.2.1, l[i])) = ((topOf r l.length + (i : Int), r.2.2.2.1, l[i]) : Spot) := by
              have e1 : w64 (isub r.2.2.1 (len l)) = r.2.2.1 - (l.length : Int) := by unfold isub len; rw [w64_id (by omega)]
              have e2 : w64 (iadd r.2.1 (i : Int)) = r.2.1 + (i : Int) := by unfold iadd; rw [w64_id (by omega)]
              have e3 : w64 (iadd (r.2.1 + (i : Int)) (r.2.2.1 - (l.length : Int))) = r.2.1 + (r.2.2.1 - (l.length : Int)) + (i : Int) := by unfold iadd; rw [w64_id (by omega)]; omega
              rw [e1, e2, e3]
              unfold topOf
              split <;> rfl
            rw [et]
            simp only
            have hroom : ∀ s : Spot, room (iadd (len a) (len [s])) 24 = true := fun s => room_t (by simp only [iadd, len, List.length_singleton]; omega)
            rw [q2, q3, q4, q5]
            rw [grd_t (hroom _), grd_t (hroom _), grd_t (hroom _)]
            refine ⟨?_, by simp only [List.length_append, List.length_singleton]; omega⟩
            unfold colOf
            have e3 : n8 (3 : UInt8) = 3 := rfl
            have e2 : n8 (2 : UInt8) = 2 := rfl
            rw [cnd_ieq, cnd_ieq, e3, e2]
            by_cases c3 : n8 r.2.2.2.2.2.1 = 3
            · rw [if_pos c3, if_pos c3]; rfl
            · rw [if_neg c3, if_neg c3]
              by_cases c2 : n8 r.2.2.2.2.2.1 = 2
              · rw [if_pos c2, if_pos c2]; rfl
              · rw [if_neg c2, if_neg c2]; rfl
      · simp only
        rw [cnd_f (ilt_f (by simp only [len]; omega))]
  · rw [if_neg hu, if_pos hu]
end
end Go.Mo
end

section
/-
  Plain facts: the text and the length of a row; events and their check.
-/
namespace Go.Mo
open Go Go.W Go.Lib
set_option maxRecDepth 100000
noncomputable section
abbrev Ev := Int × (Int × Int) × List UInt8 × UInt8 × List UInt8 × List Row

theorem rune_count {s : List UInt8} (hs : s.length ≤ 4000000) : utf8_RuneCountInString fuelH s = some ((rns s).length : Int) := by
  unfold utf8_RuneCountInString
  rw [jn_e]
  have hf : ∀ (l : List Int) (n : Nat), n + l.length ≤ 100000000 → foldR (fun (_ : Int) (a : Int) self => self (w64 (iadd a 1))) (fun a => some a) l (n : Int) = some ((n + l.length : Nat) : Int) := by
    intro l
    induction l with
    | nil => intro n _; rfl
    | cons r l ih =>
      intro n hn
      simp only [List.length_cons] at hn
      simp only [foldR]
      rw [w64_succ (show n < n + 1 by omega) (by omega), ih (n + 1) (by omega)]
      simp only [List.length_cons]
      congr 2
      omega
  refine (str_loop (s := s) (fun (a : Int) (p : Nat) => (a, s, ofN p)) (fun _ a self => self (w64 (iadd a 1))) (fun a => some a) (fun self a p hp => ?_) (fun self a p hp => ?_) fuelH 0 (0 : Int) (by have := fuelH_eq; omega)).trans ?_
  · simp only [toN_ofN]
    rw [cnd_t (nlt_t (show p < nlen s from hp))]
    rfl
  · simp only [toN_ofN]
    rw [cnd_f (nlt_f (show ¬ p < nlen s by unfold nlen; omega))]
  · have := rns_len _ s (Nat.le_refl _)
    have h := hf (rns s) 0 (by omega)
    rw [List.drop_zero]
    simpa using h
theorem ch_len {s : List UInt8} (hs : s.length ≤ 4000000) (hv : vld s = true) : charset_Len fuelH s = some ((rns s).length : Int) := by
  unfold charset_Len
  rw [ch_valid _ hs, bnd_some', hv, cnd_f (by rfl), rune_count hs]
  rfl
theorem r08_len {s : List UInt8} (hs : s.length ≤ 4000000) (hv : vld s = true) : r08_Len fuelH s = some ((rns s).length : Int) := by
  unfold r08_Len
  rw [r08_valid _ hs, bnd_some', hv, cnd_f (by rfl), r08_runes_eq hs]
  rfl
def lenT : Row → Nat
  | [] => 0
  | x :: l => (rns x.1).length + lenT l
def plainT (l : Row) : List UInt8 := l.flatMap (·.1)
/-- a row whose check says yes, of texts that are not too long -/
def okR (l : Row) : Prop := l.length ≤ 16 ∧ (∀ x ∈ l, vld x.1 = true ∧ x.1.length ≤ 4000000) ∧ tot l ≤ 4000000
def smallR (l : Row) : Prop := shortR l ∧ tot l ≤ 4000000
def smallL (l : List Row) : Prop := ∀ r ∈ l, smallR r
theorem okR_of {l : Row} (hs : smallR l) (h : rowChk l = 0) : okR l := by
  obtain ⟨h1, h2⟩ := rowChk_ok h
  exact ⟨h1, fun x hx => ⟨(h2 x hx).1, (hs.1 x hx).1⟩, hs.2⟩
theorem lenT_le : ∀ (l : Row), (∀ x ∈ l, x.1.length ≤ 4000000) → lenT l ≤ 4000000 * l.length
  | [], _ => Nat.le_refl _
  | x :: l, h => by
    have h1 := rns_len _ x.1 (Nat.le_refl _)
    have h2 := h x List.mem_cons_self
    have h3 := lenT_le l fun y hy => h y (List.mem_cons_of_mem _ hy)
    simp only [lenT, List.length_cons]
    omega
theorem lenT_take : ∀ (l : Row) (i : Nat) (h : i < l.length), lenT (l.take (i + 1)) = lenT (l.take i) + (rns l[i].1).length
  | x :: l, 0, _ => by simp [lenT]
  | x :: l, i + 1, h => by
    have := lenT_take l i (by simpa using h)
    simp only [List.take_succ_cons, lenT, this, List.getElem_cons_succ]
    omega
theorem lenT_take_le (l : Row) (i : Nat) : lenT (l.take i) ≤ lenT l := by
  induction l generalizing i with
  | nil => simp [lenT]
  | cons x l ih => cases i with
    | zero => simp [lenT]
    | succ i => simp only [List.take_succ_cons, lenT]; have := ih i; omega
theorem len_loop {l : Row} (h : okR l) (L : List UInt8 → Option Int) (hL : ∀ s : List UInt8, s.length ≤ 4000000 → vld s = true → L s = some ((rns s).length : Int)) :
    fixN (fun (v2 : Int × Int → Option Int) (v3 : Int × Int) =>
    cnd (ilt v3.2 (len l))
      (grd (inb v3.2 (len l))
        (bnd (L (lget l (toN v3.2) ([], (((0 : UInt8), (false, false)), []))).1) fun v4 =>
        cnd (ilt v4 (0 : Int))
          (some (-1 : Int))
          (v2 (w64 (iadd v3.1 v4), w64 (iadd v3.2 (1 : Int))))))
      (some v3.1)) fuelH ((0 : Int), (0 : Int)) = some (lenT l : Int) := by
  have hb := lenT_le l fun x hx => (h.2.1 x hx).2
  have hl := h.1
  refine loop_inv (n := l.length) (fun (a : Nat) (i : Nat) => ((a : Int), (i : Int))) (fun i a => a = lenT (l.take i)) _ (fun self a i hi hI => ?_) (fun self a hI => ?_) fuelH 0 0 (Nat.zero_le _) (by have := fuelH_eq; omega) rfl
  · refine ⟨a + (rns l[i].1).length, ?_, ?_⟩
    · have ht := lenT_take l i hi
      have ht2 := lenT_take_le l (i + 1)
      simp only
      rw [cnd_t (ilt_t (by simp only [len]; omega)), grd_t (inb_t (by simp only [len]; omega)), lget_i hi, hL _ (h.2.1 _ (List.getElem_mem hi)).2 (h.2.1 _ (List.getElem_mem hi)).1, bnd_some', cnd_f (ilt_f (by omega)), w64_succ hi (by omega)]
      have e : w64 (iadd (a : Int) ((rns l[i].1).length : Int)) = ((a + (rns l[i].1).length : Nat) : Int) := by
        unfold iadd; rw [w64_id (by omega)]; omega
      rw [e]
    · rw [lenT_take l i hi, hI]
  · simp only
    rw [cnd_f (ilt_f (by simp only [len]; omega)), hI, List.take_length]
theorem style_len {l : Row} (h : okR l) : style_Len fuelH l = some (lenT l : Int) := by
  unfold style_Len
  rw [jn_e]
  exact len_loop h (charset_Len fuelH) fun s => ch_len
theorem r09_len {l : Row} (h : okR l) : r09_Len fuelH l = some (lenT l : Int) := by
  unfold r09_Len
  rw [jn_e]
  exact len_loop h (r08_Len fuelH) fun s => r08_len

theorem plainT_take (l : Row) (i : Nat) (h : i < l.length) : plainT (l.take (i + 1)) = plainT (l.take i) ++ l[i].1 := by
  unfold plainT
  rw [List.take_succ_eq_append_getElem h, List.flatMap_append]
  simp
theorem plainT_len : ∀ (l : Row), (plainT l).length = tot l
  | [] => rfl
  | x :: l => by
    have h3 := plainT_len l
    unfold plainT at h3 ⊢
    simp only [List.flatMap_cons, List.length_append, tot, h3]
theorem tot_take (l : Row) (i : Nat) : tot (l.take i) ≤ tot l := by
  have h := tot_app (l.take i) (l.drop i)
  rw [List.take_append_drop] at h
  omega
theorem plainT_le {l : Row} (h : okR l) (i : Nat) : (plainT (l.take i)).length ≤ 4000000 := by
  rw [plainT_len]
  have := tot_take l i
  have := h.2.2
  omega
theorem write_str {N : Nat} {a b : List UInt8} (h : a.length + b.length ≤ 100000000) : strings_Builder_WriteString N (((), a), b) = some ((b.length : Int), (), (), a ++ b) := by
  unfold strings_Builder_WriteString
  show (grd (room (iadd (len a) (len b)) 1) (some (len b, (), (), lapp a b))) = _
  rw [grd_t (room_t (by simp only [iadd, len]; omega))]
  rfl
theorem style_plain {l : Row} (h : okR l) : style_Plain fuelH l = some (plainT l) := by
  unfold style_Plain
  rw [jn_e]
  have hl := h.1
  refine loop_inv (n := l.length) (fun (a : List UInt8) (i : Nat) => ((i : Int), (), a)) (fun i a => a = plainT (l.take i)) _ (fun self a i hi hI => ?_) (fun self a hI => ?_) fuelH 0 [] (Nat.zero_le _) (by have := fuelH_eq; omega) rfl
  · refine ⟨a ++ l[i].1, ?_, ?_⟩
    · have h1 := plainT_le h i
      have h2 := (h.2.1 _ (List.getElem_mem hi)).2
      simp only
      rw [cnd_t (ilt_t (by simp only [len]; omega)), grd_t (inb_t (by simp only [len]; omega)), lget_i hi, write_str (by rw [hI]; omega), bnd_some', w64_succ hi (by omega)]
    · rw [plainT_take l i hi, hI]
  · simp only
    rw [cnd_f (ilt_f (by simp only [len]; omega)), hI, List.take_length]
theorem r09_plain {l : Row} (h : okR l) : r09_Plain fuelH l = some (plainT l) := by
  unfold r09_Plain
  rw [jn_e]
  have hl := h.1
  refine loop_inv (n := l.length) (fun (a : List UInt8) (i : Nat) => (a, (i : Int))) (fun i a => a = plainT (l.take i)) _ (fun self a i hi hI => ?_) (fun self a hI => ?_) fuelH 0 [] (Nat.zero_le _) (by have := fuelH_eq; omega) rfl
  · refine ⟨a ++ l[i].1, ?_, ?_⟩
    · have h1 := plainT_le h i
      have h2 := (h.2.1 _ (List.getElem_mem hi)).2
      simp only
      rw [cnd_t (ilt_t (by simp only [len]; omega)), grd_t (inb_t (by simp only [len]; omega)), lget_i hi, grd_t (catOk_t (by rw [hI]; simp only [iadd, len]; omega)), w64_succ hi (by omega)]
      rfl
    · rw [plainT_take l i hi, hI]
  · simp only
    rw [cnd_f (ilt_f (by simp only [len]; omega)), hI, List.take_length]

def sp2 : List UInt8 → Bool
  | [] => false
  | [_] => false
  | a :: b :: t => ([32, 32] : List UInt8).isPrefixOf (a :: b :: t) || sp2 (b :: t)
theorem sp2_index : ∀ t : List UInt8, decide (0 ≤ index t [32, 32]) = sp2 t
  | [] => rfl
  | [a] => by
    have e : index [a] [32, 32] = if ([32, 32] : List UInt8).isPrefixOf [a] = true then 0 else if (index [] [32, 32] == -1) = true then -1 else index [] [32, 32] + 1 := rfl
    have hp : ([32, 32] : List UInt8).isPrefixOf [a] = false := by cases h : ((32 : UInt8) == a) <;> simp [List.isPrefixOf, h]
    rw [e, hp]
    rfl
  | a :: b :: t => by
    have ih := sp2_index (b :: t)
    have hg := index_ge (b :: t) [32, 32]
    have e : index (a :: b :: t) [32, 32] = if ([32, 32] : List UInt8).isPrefixOf (a :: b :: t) = true then 0 else if (index (b :: t) [32, 32] == -1) = true then -1 else index (b :: t) [32, 32] + 1 := rfl
    have e2 : sp2 (a :: b :: t) = (([32, 32] : List UInt8).isPrefixOf (a :: b :: t) || sp2 (b :: t)) := rfl
    rw [e, e2, ← ih]
    generalize index (b :: t) [32, 32] = m at hg ⊢
    cases ([32, 32] : List UInt8).isPrefixOf (a :: b :: t) with
    | true => rfl
    | false =>
      rw [if_neg (by decide), Bool.false_or]
      by_cases h1 : m = -1
      · subst h1; rfl
      · rw [if_neg (by simpa using h1), decide_eq_true (by omega), decide_eq_true (by omega)]
theorem sp2_contains (t : List UInt8) : contains t [32, 32] = sp2 t := sp2_index t
def neatT (t : List UInt8) : Bool := if t = [] then false else if n8 (lget t (toN (0 : Int)) 0) = n8 (32 : UInt8) then false else if n8 (lget t (toN (w64 (isub (len t) 1))) 0) = n8 (32 : UInt8) then false else !sp2 t
theorem sp2_step {t : List UInt8} {i : Nat} (h : i + 1 < t.length) : sp2 (t.drop i) = (((32 == t[i]) && ((32 == t[i + 1]) && true)) || sp2 (t.drop (i + 1))) := by
  rw [List.drop_eq_getElem_cons (show i < t.length by omega), List.drop_eq_getElem_cons h]
  rfl
theorem beq_n {a : UInt8} (h : ¬ n8 a = n8 (32 : UInt8)) : ((32 : UInt8) == a) = false := by
  rw [beq_eq_false_iff_ne]; intro e; exact h (by rw [← e])
theorem beq_y {a : UInt8} (h : n8 a = n8 (32 : UInt8)) : ((32 : UInt8) == a) = true := by
  rw [n8_inj h]; rfl
theorem neat_loop {t : List UInt8} (ht : t.length ≤ 100000000) : ∀ (fuel i : Nat), t.length - (i + 1) < fuel → i + 1 ≤ t.length →
    fixN (fun (v2 : Int → Option Bool) (v3 : Int) =>
              cnd (ilt v3 (len t))
                (grd (inb v3 (len t))
                  (cnd (ieq (n8 (lget t (toN v3) (0 : UInt8))) (n8 (32 : UInt8)))
                    (grd (inb (w64 (isub v3 (1 : Int))) (len t))
                      (cnd (ieq (n8 (lget t (toN (w64 (isub v3 (1 : Int)))) (0 : UInt8))) (n8 (32 : UInt8)))
                        (some false)
                        (v2 (w64 (iadd v3 (1 : Int))))))
                    (v2 (w64 (iadd v3 (1 : Int))))))
                (some true)) fuel ((i + 1 : Nat) : Int) = some (!sp2 (t.drop i))
  | 0, i, h, _ => by omega
  | fuel + 1, i, h, hi => by
    rw [fixN_s]
    by_cases hl : i + 1 < t.length
    · have h0 : inb ((i : Nat) : Int) (len t) = true := inb_t (by simp only [len]; omega)
      rw [cnd_t (ilt_t (by simp only [len]; omega)), grd_t (inb_t (by simp only [len]; omega)), lget_i hl, w64_succ hl (by omega), w64_back (by omega), grd_t h0, lget_i (show i < t.length by omega), sp2_step hl, neat_loop ht fuel (i + 1) (by omega) (by omega), cnd_ieq, cnd_ieq]
      by_cases c1 : n8 t[i + 1] = n8 (32 : UInt8)
      · rw [if_pos c1, beq_y c1]
        by_cases c2 : n8 t[i] = n8 (32 : UInt8)
        · rw [if_pos c2, beq_y c2]; rfl
        · rw [if_neg c2, beq_n c2]; rfl
      · rw [if_neg c1, beq_n c1]; simp
    · rw [cnd_f (ilt_f (by simp only [len]; omega))]
      have : t.drop i = [t[i]] := by
        rw [List.drop_eq_getElem_cons (show i < t.length by omega), List.drop_eq_nil_of_le (by omega)]
      rw [this]
      rfl
theorem r11_neat_eq {t : List UInt8} (ht : t.length ≤ 4000000) : r11_neat fuelH t = some (neatT t) := by
  unfold r11_neat neatT
  by_cases h0 : t = []
  · rw [cnd_t (by rw [seq_t]; exact h0), if_pos h0]
  · have hl : 0 < t.length := List.length_pos_iff.2 h0
    have e1 : w64 (isub (len t) 1) = ((t.length - 1 : Nat) : Int) := w64_pred hl (by omega)
    have hin : inb (w64 (isub (len t) 1)) (len t) = true := by rw [e1]; exact inb_t (by simp only [len]; omega)
    rw [cnd_f (by rw [← Bool.not_eq_true, seq_t]; exact h0), if_neg h0, grd_t (inb_t (by simp only [len]; omega)), cnd_ieq]
    by_cases h1 : n8 (lget t (toN (0 : Int)) 0) = n8 (32 : UInt8)
    · rw [if_pos h1, if_pos h1]
    · rw [if_neg h1, if_neg h1, grd_t hin, cnd_ieq]
      by_cases h2 : n8 (lget t (toN (w64 (isub (len t) 1))) 0) = n8 (32 : UInt8)
      · rw [if_pos h2, if_pos h2]
      · rw [if_neg h2, if_neg h2, jn_e]
        exact neat_loop (by omega) fuelH 0 (by have := fuelH_eq; omega) hl
def rowE (l : Row) : Int := if rowChk l ≠ 0 then rowChk l else if neatT (plainT l) = false then 4 else if 32 < lenT l then 11 else 0
theorem event_row_eq {l : Row} (hs : smallR l) : event_row fuelH l = some (rowE l) := by
  unfold event_row rowE
  rw [bnd_s (style_check hs.1)]
  by_cases hk : rowChk l ≠ 0
  · rw [cnd_t (ine_t hk), if_pos hk]
  · rw [cnd_f (ine_f (by simpa using hk)), if_neg hk]
    have hr := okR_of hs (by simpa using hk)
    have hp := plainT_le hr l.length
    rw [List.take_length] at hp
    rw [bnd_s (style_plain hr)]
    generalize plainT l = t at hp ⊢
    unfold neatT
    by_cases h0 : t = []
    · rw [cnd_t (by rw [seq_t]; exact h0), if_pos h0, if_pos rfl]
    · have hl : 0 < t.length := List.length_pos_iff.2 h0
      have e1 : w64 (isub (len t) 1) = ((t.length - 1 : Nat) : Int) := w64_pred hl (by omega)
      have hin : inb (w64 (isub (len t) 1)) (len t) = true := by rw [e1]; exact inb_t (by simp only [len]; omega)
      rw [cnd_f (by rw [← Bool.not_eq_true, seq_t]; exact h0), if_neg h0, grd_t (inb_t (by simp only [len]; omega)), cnd_ieq]
      by_cases h1 : n8 (lget t (toN (0 : Int)) 0) = n8 (32 : UInt8)
      · rw [if_pos h1, if_pos h1, if_pos rfl]
      · rw [if_neg h1, if_neg h1, grd_t hin, cnd_ieq]
        by_cases h2 : n8 (lget t (toN (w64 (isub (len t) 1))) 0) = n8 (32 : UInt8)
        · rw [if_pos h2, if_pos h2, if_pos rfl]
        · rw [if_neg h2, if_neg h2]
          have hc : strings_Contains fuelH (t, [32, 32]) = some (sp2 t) := by
            show grd (decide (t.length < 4294967281)) (some (contains t [32, 32])) = _
            rw [grd_t (decide_eq_true (by omega)), sp2_contains]
          rw [bnd_s hc]
          by_cases h3 : sp2 t = true
          · rw [cnd_t h3, h3, if_pos (by decide)]
          · rw [cnd_f (by simpa using h3), Bool.eq_false_iff.2 h3, if_neg (by simp), bnd_s (style_len hr), cnd_ilt]
            by_cases h4 : 32 < lenT l
            · rw [if_pos (by omega), if_pos h4]
            · rw [if_neg (by omega), if_neg h4]
end
end Go.Mo
end

section
/-
  Plain facts: the check of an event, on both sides; spots; the length of an event.
-/
namespace Go.Mo
open Go Go.W Go.Lib
set_option maxRecDepth 100000
noncomputable section

theorem spans_eq (N : Nat) (s : Int × Int) : event_spans N s = some (decide (0 ≤ s.1 ∧ s.1 < s.2 ∧ s.2 ≤ 5184000)) := by
  unfold event_spans
  rw [cnd_ile, cnd_ilt]
  by_cases h1 : 0 ≤ s.1
  · rw [if_pos h1]
    by_cases h2 : s.1 < s.2
    · rw [if_pos h2]; simp [h1, h2, ile]
    · rw [if_neg h2]; simp [h2]
  · rw [if_neg h1]; simp [h1]
theorem spanned_eq (N : Nat) (s : Int × Int) : r11_spanned N s = some (decide (0 ≤ s.1 ∧ s.1 < s.2 ∧ s.2 ≤ 5184000)) := spans_eq N s
def kindP (k : UInt8) : Bool := match event_KindName fuelH k with
  | some s => decide (seq s [] = decide (¬ (1 ≤ n8 k ∧ n8 k ≤ 4)))
  | none => false
theorem kind_tab (k : UInt8) : ∃ s, event_KindName fuelH k = some s ∧ seq s [] = decide (¬ (1 ≤ n8 k ∧ n8 k ≤ 4)) := by
  have h : kindP k = true := all_u8 (P := kindP) (by kernel_rfl) k
  unfold kindP at h
  split at h
  · rename_i s hs
    exact ⟨s, hs, of_decide_eq_true h⟩
  · cases h
theorem jn_sp {β : Type} (K : Bool → Option β) (s : List UInt8) (X : Option Bool) (hX : X = some (nm s)) : jn K (fun v => cnd (sne s ([] : List UInt8)) (bnd X fun w => v (bnot w)) (v false)) = K (decide (s ≠ [] ∧ nm s = false)) := by
  rw [jn_e, hX, bnd_some']
  by_cases h : s = []
  · subst h; rfl
  · rw [cnd_t (by simp [sne, h])]
    congr 1
    cases hn : nm s <;> simp [bnot, h]
def rowsE : List Row → Int → Int
  | [], k => k
  | l :: r, k => if rowE l ≠ 0 then rowE l else rowsE r k
def lens (l : List Row) : List Int := l.map fun r => (lenT r : Int)
def evChk (x : Ev) (rs : List Reg) : Int :=
  if x.1 < 1 then 2 else if 1099511627776 < x.1 then 2 else
  if ¬ (0 ≤ x.2.1.1 ∧ x.2.1.1 < x.2.1.2 ∧ x.2.1.2 ≤ 5184000) then 2 else
  match findR rs x.2.2.1 with
  | none => 6
  | some r =>
    if ¬ (1 ≤ n8 x.2.2.2.1 ∧ n8 x.2.2.2.1 ≤ 4) then 3 else
    if x.2.2.2.2.1 ≠ [] ∧ nm x.2.2.2.2.1 = false then 5 else
    if x.2.2.2.2.2.length = 0 then 9 else if 4 < x.2.2.2.2.2.length then 9 else
    rowsE x.2.2.2.2.2 (placeS r (lens x.2.2.2.2.2)).2
theorem rowE_ok {l : Row} (hs : smallR l) (h : rowE l = 0) : okR l := by
  unfold rowE at h
  split at h
  · rename_i hc; exact absurd h hc
  · rename_i hc; exact okR_of hs (by simpa using hc)
theorem event_lens_eq {x : Ev} (h : ∀ l ∈ x.2.2.2.2.2, okR l) (hl : x.2.2.2.2.2.length ≤ 1000000) : event_lens fuelH x = some (lens x.2.2.2.2.2) := by
  unfold event_lens
  rw [jn_e]
  generalize x.2.2.2.2.2 = l at h hl ⊢
  refine loop_inv (n := l.length) (fun (a : List Int) (i : Nat) => (a, (i : Int))) (fun i a => a = lens (l.take i)) _ (fun self a i hi hI => ?_) (fun self a hI => ?_) fuelH 0 [] (Nat.zero_le _) (by have := fuelH_eq; omega) rfl
  · refine ⟨a ++ [(lenT l[i] : Int)], ?_, ?_⟩
    · have ha : a.length ≤ i := by rw [hI]; unfold lens; rw [List.length_map, List.length_take]; omega
      simp only
      rw [cnd_t (ilt_t (by simp only [len]; omega)), grd_t (inb_t (by simp only [len]; omega)), lget_i hi, style_len (h _ (List.getElem_mem hi)), bnd_some', grd_t (room_t (by simp only [iadd, len, List.length_singleton]; omega)), w64_succ hi (by omega)]
      rfl
    · rw [hI]; unfold lens; rw [List.take_succ_eq_append_getElem hi, List.map_append]; rfl
  · simp only
    rw [cnd_f (ilt_f (by simp only [len]; omega)), hI, List.take_length]
theorem itI_rows (K : Option Int) (k : Int) : ∀ (l : List Row) (i : Nat), ((∀ r ∈ l, rowE r = 0) → K = some k) → itI (fun _ (r : Row) (_ : Unit) => if rowE r ≠ 0 then (.inl (some (rowE r)) : Option Int ⊕ Unit) else .inr ()) (fun _ => K) i l () = some (rowsE l k)
  | [], i, h => h fun r hr => by cases hr
  | r :: l, i, h => by
    simp only [itI, rowsE]
    by_cases hc : rowE r ≠ 0
    · rw [if_pos hc, if_pos hc]
    · rw [if_neg hc, if_neg hc]
      refine itI_rows K k l (i + 1) fun hl => h fun q hq => ?_
      rcases List.mem_cons.1 hq with rfl | hq
      · simpa using hc
      · exact hl q hq
theorem itI_rows2 (K : List Int → Option Int) (k : List Int → Int) (hK : ∀ a, K a = some (k a)) : ∀ (l : List Row) (i : Nat) (a : List Int), itI (fun _ (r : Row) (a : List Int) => if rowE r ≠ 0 then (.inl (some (rowE r)) : Option Int ⊕ List Int) else .inr (a ++ [(lenT r : Int)])) K i l a = some (rowsE l (k (a ++ lens l)))
  | [], i, a => by simp [itI, hK, rowsE, lens]
  | r :: l, i, a => by
    simp only [itI, rowsE]
    by_cases hc : rowE r ≠ 0
    · rw [if_pos hc, if_pos hc]
    · rw [if_neg hc, if_neg hc]
      simp only
      rw [itI_rows2 K k hK l (i + 1)]
      simp [lens]
theorem event_check_eq {x : Ev} {rs : List Reg} (hs : smallL x.2.2.2.2.2) (hr : rs.length ≤ 4000000) : event_Check fuelH (x, rs) = some (evChk x rs) := by
  unfold event_Check evChk
  simp only
  rw [region_find _ hr, bnd_some', cnd_ilt]
  by_cases c1 : x.1 < 1
  · rw [if_pos c1, if_pos c1]
  rw [if_neg c1, if_neg c1, cnd_ilt]
  by_cases c2 : 1099511627776 < x.1
  · rw [if_pos c2, if_pos c2]
  rw [if_neg c2, if_neg c2, spans_eq, bnd_some', cnd_bnot]
  by_cases c3 : 0 ≤ x.2.1.1 ∧ x.2.1.1 < x.2.1.2 ∧ x.2.1.2 ≤ 5184000
  · rw [if_pos c3, if_neg (not_not_intro c3)]
    unfold findP
    cases hf : findR rs x.2.2.1 with
    | none => rfl
    | some r =>
      simp only
      rw [cnd_f (by rfl)]
      obtain ⟨s, k1, k2⟩ := kind_tab x.2.2.2.1
      rw [bnd_s k1, k2, cnd_dec]
      by_cases c4 : 1 ≤ n8 x.2.2.2.1 ∧ n8 x.2.2.2.1 ≤ 4
      · rw [if_neg (not_not_intro c4), if_neg (not_not_intro c4), jn_sp _ _ _ (lines_name _), cnd_dec]
        by_cases c5 : x.2.2.2.2.1 ≠ [] ∧ nm x.2.2.2.2.1 = false
        · rw [if_pos c5, if_pos c5]
        rw [if_neg c5, if_neg c5]
        by_cases c6 : x.2.2.2.2.2.length = 0
        · rw [cnd_t (ieq_t (by simp only [len]; omega)), if_pos c6]
        rw [cnd_f (ieq_f (by simp only [len]; omega)), if_neg c6]
        by_cases c7 : 4 < x.2.2.2.2.2.length
        · rw [cnd_t (ilt_t (by simp only [len]; omega)), if_pos c7]
        rw [cnd_f (ilt_f (by simp only [len]; omega)), if_neg c7, jn_e]
        have hlen := @event_lens_eq x
        generalize x.2.2.2.2.2 = l at hs c6 c7 hlen ⊢
        refine Eq.trans (lst_it (l := l) (fun (_ : Unit) (p : Nat) => (p : Int)) (fun _ (r : Row) (_ : Unit) => if rowE r ≠ 0 then .inl (some (rowE r)) else .inr ()) (fun _ => bnd (event_lens fuelH x) fun v5 => bnd (region_Place fuelH (r, v5)) fun v6 => some v6.2) (fun _ _ => True) (fun self a i hi _ => ?_) (fun self a _ => ?_) fuelH 0 () (Nat.zero_le _) (by have := fuelH_eq; omega) trivial) (itI_rows _ _ l 0 fun hl => ?_)
        · rw [cnd_t (ilt_t (by simp only [len]; omega)), grd_t (inb_t (by simp only [len]; omega)), lget_i hi, bnd_s (event_row_eq (hs _ (List.getElem_mem hi))), w64_succ hi (by omega)]
          by_cases hc : rowE l[i] ≠ 0
          · rw [if_pos hc, cnd_t (ine_t hc)]; rfl
          · rw [if_neg hc, cnd_f (ine_f (by simpa using hc))]
            exact ⟨rfl, trivial⟩
        · rw [cnd_f (ilt_f (by simp only [len]; omega))]
        · rw [bnd_s (hlen (fun q hq => rowE_ok (hs q hq) (hl q hq)) (by omega)), bnd_s (region_place _ _)]
      · rw [if_pos c4, if_pos c4]
  · rw [if_neg c3, if_pos c3]
theorem r11_check_eq {x : Ev} {rs : List Reg} (hs : smallL x.2.2.2.2.2) (hr : rs.length ≤ 4000000) : r11_Check fuelH (x, rs) = some (evChk x rs) := by
  unfold r11_Check evChk
  simp only
  rw [cnd_ilt]
  by_cases c1 : x.1 < 1
  · rw [if_pos c1, if_pos c1]
  rw [if_neg c1, if_neg c1, cnd_ilt]
  by_cases c2 : 1099511627776 < x.1
  · rw [if_pos c2, if_pos c2]
  rw [if_neg c2, if_neg c2, spanned_eq, bnd_some', cnd_bnot]
  by_cases c3 : 0 ≤ x.2.1.1 ∧ x.2.1.1 < x.2.1.2 ∧ x.2.1.2 ≤ 5184000
  · rw [if_pos c3, if_neg (not_not_intro c3), r10_find, region_find _ hr, bnd_some']
    unfold findP
    cases hf : findR rs x.2.2.1 with
    | none => rfl
    | some r =>
      simp only
      rw [cnd_f (by rfl)]
      have e1 : n8 (1 : UInt8) = 1 := rfl
      have e4 : n8 (4 : UInt8) = 4 := rfl
      rw [cnd_ilt, cnd_ilt, e1, e4]
      by_cases c4 : 1 ≤ n8 x.2.2.2.1 ∧ n8 x.2.2.2.1 ≤ 4
      · rw [if_neg (by omega), if_neg (by omega), if_neg (not_not_intro c4), jn_sp _ _ _ (r07_name _), cnd_dec]
        by_cases c5 : x.2.2.2.2.1 ≠ [] ∧ nm x.2.2.2.2.1 = false
        · rw [if_pos c5, if_pos c5]
        rw [if_neg c5, if_neg c5]
        by_cases c6 : x.2.2.2.2.2.length = 0
        · rw [cnd_t (ieq_t (by simp only [len]; omega)), if_pos c6]
        rw [cnd_f (ieq_f (by simp only [len]; omega)), if_neg c6]
        by_cases c7 : 4 < x.2.2.2.2.2.length
        · rw [cnd_t (ilt_t (by simp only [len]; omega)), if_pos c7]
        rw [cnd_f (ilt_f (by simp only [len]; omega)), if_neg c7, jn_e]
        generalize x.2.2.2.2.2 = l at hs c6 c7 ⊢
        refine Eq.trans (lst_it (l := l) (fun (a : List Int) (p : Nat) => (a, (p : Int))) (fun _ (r : Row) (a : List Int) => if rowE r ≠ 0 then .inl (some (rowE r)) else .inr (a ++ [(lenT r : Int)])) (fun a => bnd (r10_Place fuelH (r, a)) fun v4 => some v4.2) (fun i a => a.length ≤ i) (fun self a i hi ha => ?_) (fun self a _ => ?_) fuelH 0 [] (Nat.zero_le _) (by have := fuelH_eq; omega) (Nat.le_refl _)) (itI_rows2 _ (fun a => (placeS r a).2) (fun a => by rw [r10_place]; rfl) l 0 [])
        · have hsr := hs _ (List.getElem_mem hi)
          have hin : inb (i : Int) (len l) = true := inb_t (by simp only [len]; omega)
          simp only
          rw [cnd_t (ilt_t (by simp only [len]; omega)), grd_t hin, lget_i hi, bnd_s (r09_check hsr.1), w64_succ hi (by omega)]
          generalize l[i] = q at hsr ⊢
          unfold rowE
          by_cases hk : rowChk q ≠ 0
          · rw [if_pos hk, if_pos hk, cnd_t (ine_t hk)]; rfl
          · have hok := okR_of hsr (by simpa using hk)
            have hp := plainT_le hok q.length
            rw [List.take_length] at hp
            rw [if_neg hk, cnd_f (ine_f (by simpa using hk)), bnd_s (r09_plain hok), bnd_s (r11_neat_eq hp), cnd_ite]
            by_cases hn : neatT (plainT q) = false
            · rw [if_pos (by rw [hn]; rfl), if_pos hn, if_pos (by decide)]; rfl
            · rw [if_neg (by rw [bnot_t]; exact hn), if_neg hn, bnd_s (r09_len hok), cnd_ilt]
              by_cases h4 : 32 < lenT q
              · rw [if_pos (by omega), if_pos h4, if_pos (by decide)]; rfl
              · rw [if_neg (by omega), if_neg h4, if_neg (by decide), bnd_s (r09_len hok), grd_t (room_t (by simp only [iadd, len, List.length_singleton]; omega))]
                exact ⟨rfl, by simp only [List.length_append, List.length_singleton]; omega⟩
        · simp only
          rw [cnd_f (ilt_f (by simp only [len]; omega))]
      · rw [if_pos c4]
        by_cases h : n8 x.2.2.2.1 < 1
        · rw [if_pos h]
        · rw [if_neg h, if_pos (by omega)]
  · rw [if_neg c3, if_pos c3]
end
end Go.Mo
end

section
/-
  Plain facts: the header of a document; events by their number; the length of an event.
-/
namespace Go.Mo
open Go Go.W Go.Lib
set_option maxRecDepth 100000
noncomputable section
abbrev Cmt := Int × Int × Int × Int × List UInt8 × List UInt8 × Bool × Bool
abbrev Doc := List UInt8 × List UInt8 × UInt8 × Bool × Int × List Reg × List Ev × List Cmt

def tvB (r : UInt8) : Bool := (timebase_Valid fuelH r).getD false
def cdB (r : UInt8) : Bool := (timebase_CanDrop fuelH r).getD false
theorem tv_eq (r : UInt8) : timebase_Valid fuelH r = some (tvB r) ∧ timebase_CanDrop fuelH r = some (cdB r) :=
  of_decide_eq_true (all_u8 (P := fun r => decide (timebase_Valid fuelH r = some (tvB r) ∧ timebase_CanDrop fuelH r = some (cdB r))) (by kernel_rfl) r)
theorem r02_eq (r : UInt8) : r02_Valid fuelH r = some (tvB r) ∧ r02_CanDrop fuelH r = some (cdB r) := by
  obtain ⟨h1, h2, _⟩ := rate_eq fuelH r
  rw [← h1, ← h2]
  exact tv_eq r
def rateBad (r : UInt8) (drop : Bool) : Prop := tvB r = false ∨ (drop = true ∧ cdB r = false)
instance (r : UInt8) (drop : Bool) : Decidable (rateBad r drop) := by unfold rateBad; infer_instance
def headChk (d : Doc) : Int :=
  if vld d.1 = false then 10 else if 400 < d.1.length then 9 else if d.2.1 ≠ [] ∧ nm d.2.1 = false then 5 else
  if rateBad d.2.2.1 d.2.2.2.1 then 13 else if d.2.2.2.2.1 < 0 then 2 else if 1099511627776 < d.2.2.2.2.1 then 2 else 0
theorem rate_chk (r : UInt8) (b : Bool) : document_rate fuelH (r, b) = some (if rateBad r b then 13 else 0) := by
  unfold document_rate
  obtain ⟨h1, h2⟩ := tv_eq r
  simp only
  rw [h1, bnd_some']
  by_cases c1 : tvB r = false
  · rw [cnd_t (by rw [c1]; rfl), if_pos (show rateBad r b from .inl c1)]
  · rw [cnd_f (by rw [← Bool.not_eq_true, bnot_t]; exact c1)]
    cases b with
    | false =>
      rw [cnd_f rfl, if_neg]
      rintro (h | h)
      · exact c1 h
      · cases h.1
    | true =>
      rw [cnd_t rfl, h2, bnd_some']
      by_cases c2 : cdB r = false
      · rw [cnd_t (by rw [c2]; rfl), if_pos (show rateBad r true from .inr ⟨rfl, c2⟩)]
      · rw [cnd_f (by rw [← Bool.not_eq_true, bnot_t]; exact c2), if_neg]
        rintro (h | h)
        · exact c1 h
        · exact c2 h.2
theorem header_eq {d : Doc} (hd : d.1.length ≤ 4000000) : document_header fuelH d = some (headChk d) := by
  unfold document_header headChk
  rw [jn_e, ch_valid _ hd, bnd_some']
  by_cases c1 : vld d.1 = false
  · rw [cnd_t (by rw [c1]; rfl), if_pos c1]
  rw [cnd_f (by rw [← Bool.not_eq_true, bnot_t]; exact c1), if_neg c1]
  by_cases c2 : 400 < d.1.length
  · rw [cnd_t (ilt_t (by simp only [len]; omega)), if_pos c2]
  rw [cnd_f (ilt_f (by simp only [len]; omega)), if_neg c2, lines_name, bnd_some', rate_chk, bnd_some']
  have hrest : cnd (ine (if rateBad d.2.2.1 d.2.2.2.1 then (13 : Int) else 0) 0) (some (if rateBad d.2.2.1 d.2.2.2.1 then (13 : Int) else 0)) (cnd (ilt d.2.2.2.2.1 0) (some (2 : Int)) (cnd (ilt 1099511627776 d.2.2.2.2.1) (some 2) (some 0))) = some (if rateBad d.2.2.1 d.2.2.2.1 then 13 else if d.2.2.2.2.1 < 0 then 2 else if 1099511627776 < d.2.2.2.2.1 then 2 else 0) := by
    by_cases c4 : rateBad d.2.2.1 d.2.2.2.1
    · rw [if_pos c4, if_pos c4]; rfl
    · rw [if_neg c4, if_neg c4, cnd_f (by rfl), cnd_ilt, cnd_ilt]
      by_cases c5 : d.2.2.2.2.1 < 0
      · rw [if_pos c5, if_pos c5]
      rw [if_neg c5, if_neg c5]
      by_cases c6 : 1099511627776 < d.2.2.2.2.1
      · rw [if_pos c6, if_pos c6]
      · rw [if_neg c6, if_neg c6]
  rw [hrest]
  generalize (if rateBad d.2.2.1 d.2.2.2.1 then (13 : Int) else if d.2.2.2.2.1 < 0 then 2 else if 1099511627776 < d.2.2.2.2.1 then 2 else 0) = R
  by_cases c3 : d.2.1 = []
  · rw [cnd_f (by simp [sne, c3]), if_neg fun h => h.1 c3]
  · rw [cnd_t (by simp [sne, c3])]
    by_cases c4 : nm d.2.1 = false
    · rw [cnd_t (by rw [c4]; rfl), if_pos ⟨c3, c4⟩]
    · rw [cnd_f (by rw [← Bool.not_eq_true, bnot_t]; exact c4), if_neg fun h => c4 h.2]
theorem checkHead_eq {d : Doc} (hd : d.1.length ≤ 4000000) : r12_checkHead fuelH d = some (headChk d) := by
  unfold r12_checkHead headChk
  rw [r08_valid _ hd, bnd_some']
  by_cases c1 : vld d.1 = false
  · rw [cnd_t (by rw [c1]; rfl), if_pos c1]
  rw [cnd_f (by rw [← Bool.not_eq_true, bnot_t]; exact c1), if_neg c1]
  by_cases c2 : 400 < d.1.length
  · rw [cnd_t (ilt_t (by simp only [len]; omega)), if_pos c2]
  rw [cnd_f (ilt_f (by simp only [len]; omega)), if_neg c2, jn_sp _ _ _ (r07_name _), cnd_dec]
  by_cases c3 : d.2.1 ≠ [] ∧ nm d.2.1 = false
  · rw [if_pos c3, if_pos c3]
  rw [if_neg c3, if_neg c3, jn_e]
  obtain ⟨h1, h2⟩ := r02_eq d.2.2.1
  rw [h1, bnd_some', h2, bnd_some']
  have hrest : ∀ b : Bool, b = decide (rateBad d.2.2.1 d.2.2.2.1) → cnd b (some (13 : Int)) (cnd (ilt d.2.2.2.2.1 0) (some (2 : Int)) (cnd (ilt 1099511627776 d.2.2.2.2.1) (some 2) (some 0))) = some (if rateBad d.2.2.1 d.2.2.2.1 then 13 else if d.2.2.2.2.1 < 0 then 2 else if 1099511627776 < d.2.2.2.2.1 then 2 else 0) := by
    rintro b rfl
    rw [cnd_dec, cnd_ilt, cnd_ilt]
    by_cases c4 : rateBad d.2.2.1 d.2.2.2.1
    · rw [if_pos c4, if_pos c4]
    rw [if_neg c4, if_neg c4]
    by_cases c5 : d.2.2.2.2.1 < 0
    · rw [if_pos c5, if_pos c5]
    rw [if_neg c5, if_neg c5]
    by_cases c6 : 1099511627776 < d.2.2.2.2.1
    · rw [if_pos c6, if_pos c6]
    · rw [if_neg c6, if_neg c6]
  by_cases c1 : tvB d.2.2.1 = false
  · rw [cnd_t (by rw [c1]; rfl)]
    exact hrest true (decide_eq_true (show rateBad _ _ from .inl c1)).symm
  · rw [cnd_f (by rw [← Bool.not_eq_true, bnot_t]; exact c1)]
    cases hb : d.2.2.2.1 with
    | false =>
      rw [cnd_f rfl]
      rw [hb] at hrest
      refine hrest false (decide_eq_false ?_).symm
      rintro (h | h)
      · exact c1 h
      · cases h.1
    | true =>
      rw [cnd_t rfl]
      rw [hb] at hrest
      refine hrest _ ?_
      cases hc : cdB d.2.2.1 with
      | false => exact (decide_eq_true (show rateBad _ _ from .inr ⟨rfl, hc⟩)).symm
      | true =>
        refine (decide_eq_false ?_).symm
        rintro (h | h)
        · exact c1 h
        · rw [hc] at h; cases h.2

/-- the events' numbers with their places -/
def mapE : Nat → List Ev → List (Int × Int)
  | _, [] => []
  | i, x :: l => (x.1, (i : Int)) :: mapE (i + 1) l
def findE : Nat → List Ev → Int → Int
  | _, [], _ => -1
  | i, x :: l, k => if x.1 = k then (i : Int) else findE (i + 1) l k
def hasE (l : List Ev) (k : Int) : Prop := ∃ x ∈ l, x.1 = k
instance (l : List Ev) (k : Int) : Decidable (hasE l k) := by unfold hasE; infer_instance
theorem mapE_app : ∀ (a b : List Ev) (i : Nat), mapE i (a ++ b) = mapE i a ++ mapE (i + a.length) b
  | [], b, i => by simp [mapE]
  | x :: a, b, i => by
    simp only [List.cons_append, mapE, mapE_app a b (i + 1), List.length_cons]
    congr 3; omega
theorem mhas_mapE : ∀ (l : List Ev) (i : Nat) (k : Int), mhas ieq (mapE i l) k = decide (hasE l k)
  | [], i, k => by simp [mapE, mhas, hasE]
  | x :: l, i, k => by
    simp only [mapE, mhas, mhas_mapE l (i + 1) k]
    by_cases h : k = x.1
    · rw [ieq_t h, decide_eq_true (show hasE (x :: l) k from ⟨x, List.mem_cons_self, h.symm⟩)]; rfl
    · rw [ieq_f h]
      show (false || _) = _
      rw [Bool.false_or]
      exact decide_eq_decide.2 ⟨fun ⟨y, h1, h2⟩ => ⟨y, List.mem_cons_of_mem _ h1, h2⟩, fun ⟨y, h1, h2⟩ => by
        rcases List.mem_cons.1 h1 with rfl | h1
        · exact absurd h2.symm h
        · exact ⟨y, h1, h2⟩⟩
theorem mput_new {k v : Int} : ∀ (m : List (Int × Int)), mhas ieq m k = false → mput ieq m k v = m ++ [(k, v)]
  | [], _ => rfl
  | x :: m, h => by
    simp only [mhas, bor, Bool.or_eq_false_iff] at h
    simp only [mput, h.1, mput_new m h.2]
    rfl
theorem mget_mapE : ∀ (l : List Ev) (i : Nat) (k : Int), hasE l k → mget ieq 0 (mapE i l) k = findE i l k
  | [], i, k, h => by obtain ⟨x, h, _⟩ := h; cases h
  | x :: l, i, k, h => by
    simp only [mapE, mget, findE]
    by_cases hc : x.1 = k
    · rw [ieq_t hc.symm, if_pos hc]; rfl
    · rw [ieq_f (fun e => hc e.symm), if_neg hc]
      obtain ⟨y, h1, h2⟩ := h
      rcases List.mem_cons.1 h1 with rfl | h1
      · exact absurd h2 hc
      · exact mget_mapE l (i + 1) k ⟨y, h1, h2⟩
theorem findE_no : ∀ (l : List Ev) (i : Nat) (k : Int), ¬ hasE l k → findE i l k = -1
  | [], i, k, _ => rfl
  | x :: l, i, k, h => by
    simp only [findE]
    rw [if_neg fun e => h ⟨x, List.mem_cons_self, e⟩]
    exact findE_no l (i + 1) k fun ⟨y, h1, h2⟩ => h ⟨y, List.mem_cons_of_mem _ h1, h2⟩
theorem findE_yes : ∀ (l : List Ev) (i : Nat) (k : Int), hasE l k → ∃ j, ∃ h : j < l.length, findE i l k = ((i + j : Nat) : Int) ∧ l[j].1 = k ∧ ¬ hasE (l.take j) k
  | [], i, k, h => by obtain ⟨x, h, _⟩ := h; cases h
  | x :: l, i, k, h => by
    simp only [findE]
    by_cases hc : x.1 = k
    · exact ⟨0, by simp, by rw [if_pos hc]; rfl, hc, fun ⟨y, h1, _⟩ => by cases h1⟩
    · obtain ⟨y, h1, h2⟩ := h
      rcases List.mem_cons.1 h1 with rfl | h1
      · exact absurd h2 hc
      · obtain ⟨j, hj, e1, e2, e3⟩ := findE_yes l (i + 1) k ⟨y, h1, h2⟩
        refine ⟨j + 1, by simpa using hj, ?_, by simpa using e2, ?_⟩
        · rw [if_neg hc, e1]; congr 1; omega
        · rintro ⟨z, h3, h4⟩
          rw [List.take_succ_cons] at h3
          rcases List.mem_cons.1 h3 with rfl | h3
          · exact hc h4
          · exact e3 ⟨z, h3, h4⟩
/-- the element at place i is found there just if none ahead has its number -/
theorem findE_at {l : List Ev} {i : Nat} (hi : i < l.length) : findE 0 l l[i].1 = (i : Int) ↔ ¬ hasE (l.take i) l[i].1 := by
  obtain ⟨j, hj, e1, e2, e3⟩ := findE_yes l 0 l[i].1 ⟨l[i], List.getElem_mem hi, rfl⟩
  rw [e1]
  constructor
  · intro h
    have : j = i := by omega
    subst this
    exact e3
  · intro h
    have h1 : ¬ j < i := fun hji => h ⟨l[j], by rw [List.mem_take_iff_getElem]; exact ⟨j, by omega, rfl⟩, e2⟩
    have h2 : ¬ i < j := fun hij => e3 ⟨l[i], by rw [List.mem_take_iff_getElem]; exact ⟨i, by omega, rfl⟩, rfl⟩
    congr 1; omega
theorem find_eq {d : Doc} (h : d.2.2.2.2.2.2.1.length ≤ 4000000) (k : Int) : r12_Find fuelH (d, k) = some (findE 0 d.2.2.2.2.2.2.1 k) := by
  unfold r12_Find
  rw [jn_e]
  simp only
  generalize d.2.2.2.2.2.2.1 = l at h ⊢
  have hit : ∀ (r : List Ev) (i : Nat), itI (fun i (x : Ev) (_ : Unit) => if x.1 = k then (.inl (some (i : Int)) : Option Int ⊕ Unit) else .inr ()) (fun _ => some (-1 : Int)) i r () = some (findE i r k) := by
    intro r
    induction r with
    | nil => intro i; rfl
    | cons x r ih =>
      intro i
      simp only [itI, findE]
      by_cases hc : x.1 = k
      · rw [if_pos hc, if_pos hc]
      · rw [if_neg hc, if_neg hc]; exact ih (i + 1)
  refine Eq.trans (lst_it (l := l) (fun (_ : Unit) (p : Nat) => (p : Int)) (fun i (x : Ev) (_ : Unit) => if x.1 = k then .inl (some (i : Int)) else .inr ()) (fun _ => some (-1 : Int)) (fun _ _ => True) (fun self a i hi _ => ?_) (fun self a _ => ?_) fuelH 0 () (Nat.zero_le _) (by have := fuelH_eq; omega) trivial) (hit l 0)
  · rw [cnd_t (ilt_t (by simp only [len]; omega)), grd_t (inb_t (by simp only [len]; omega)), lget_i hi, w64_succ hi (by omega)]
    by_cases hc : l[i].1 = k
    · rw [if_pos hc, cnd_t (ieq_t hc)]; rfl
    · rw [if_neg hc, cnd_f (ieq_f hc)]
      exact ⟨rfl, trivial⟩
  · rw [cnd_f (ilt_f (by simp only [len]; omega))]

def lessE (a b : Ev) : Prop := a.2.1.1 < b.2.1.1 ∨ (a.2.1.1 = b.2.1.1 ∧ a.1 < b.1)
instance (a b : Ev) : Decidable (lessE a b) := by unfold lessE; infer_instance
theorem r11_less (N : Nat) (a b : Ev) : r11_Less N (a, b) = some (decide (lessE a b)) := by
  unfold r11_Less lessE
  simp only
  rw [cnd_ilt, cnd_ieq]
  by_cases h1 : a.2.1.1 < b.2.1.1
  · rw [if_pos h1]; simp [h1]
  · rw [if_neg h1]
    by_cases h2 : a.2.1.1 = b.2.1.1
    · rw [if_pos h2]; simp [h2, ilt]
    · rw [if_neg h2]; simp [h1, h2]
theorem cmp_eq (N : Nat) (a b : Int) : cmp_Compare_int64 N (a, b) = some (if a < b then -1 else if b < a then 1 else 0) := by
  unfold cmp_Compare_int64
  have h : ∀ x : Int, cmp_isNaN_int64 N x = some false := fun x => by
    show some (ine x x) = _
    rw [ine_f rfl]
  simp only
  rw [h, h, bnd_some', bnd_some', cnd_f rfl, cnd_f rfl, cnd_ilt, cnd_ilt]
  by_cases h1 : a < b
  · rw [if_pos h1, if_pos h1]
  · rw [if_neg h1, if_neg h1]
    by_cases h2 : b < a
    · rw [if_pos h2, if_pos h2]
    · rw [if_neg h2, if_neg h2]
theorem or_eq (a b : Int) : cmp_Or_int fuelH [a, b] = some (if a ≠ 0 then a else b) := by
  have h : cmp_Or_int fuelH [a, b] = cnd (ine a 0) (some a) (cnd (ine b 0) (some b) (some 0)) := by kernel_rfl
  rw [h, cnd_ine, cnd_ine]
  by_cases h1 : a ≠ 0
  · rw [if_pos h1, if_pos h1]
  · rw [if_neg h1, if_neg h1]
    by_cases h2 : b ≠ 0
    · rw [if_pos h2]
    · rw [if_neg h2]; congr 1; omega
theorem event_less (a b : Ev) : event_Less fuelH (a, b) = some (decide (lessE a b)) := by
  unfold event_Less
  simp only
  rw [cmp_eq, bnd_some', cmp_eq, bnd_some', or_eq, bnd_some']
  congr 1
  by_cases h1 : a.2.1.1 < b.2.1.1
  · rw [if_pos h1, if_pos (by decide), @decide_eq_true (lessE a b) _ (.inl h1)]; rfl
  · rw [if_neg h1]
    by_cases h2 : b.2.1.1 < a.2.1.1
    · rw [if_pos h2, if_pos (by decide), @decide_eq_false (lessE a b) _ (by unfold lessE; omega)]; rfl
    · rw [if_neg h2, if_neg (by decide)]
      by_cases h3 : a.1 < b.1
      · rw [if_pos h3, @decide_eq_true (lessE a b) _ (by unfold lessE; omega)]; rfl
      · rw [if_neg h3, @decide_eq_false (lessE a b) _ (by unfold lessE; omega)]
        split <;> rfl
end
end Go.Mo
end

section
/-
  Plain facts: the events of a document, checked one after the other; the length of an event.
-/
namespace Go.Mo
open Go Go.W Go.Lib
set_option maxRecDepth 100000
noncomputable section

def errL {α : Type} (R : List α → α → Int) : List α → List α → Int
  | _, [] => 0
  | pre, x :: l => if R pre x ≠ 0 then R pre x else errL R (pre ++ [x]) l
theorem errL_zero {α : Type} {R : List α → α → Int} : ∀ (l pre : List α), errL R pre l = 0 → ∀ j (h : j < l.length), R (pre ++ l.take j) l[j] = 0
  | [], _, _, j, h => by simp at h
  | x :: l, pre, h0, j, h => by
    simp only [errL] at h0
    split at h0
    · rename_i hc; exact absurd h0 hc
    · rename_i hc
      cases j with
      | zero => simpa using hc
      | succ j =>
        have := errL_zero l (pre ++ [x]) h0 j (by simpa using h)
        simpa using this
theorem loop_err {V σ α ρ : Type} {F : (V → Option ρ) → V → Option ρ} {l : List α} (st : σ → Nat → V) (g : List α → σ) (R : List α → α → Int) (w : Int → ρ) (K : Option ρ)
    (hstep : ∀ self i (h : i < l.length), F self (st (g (l.take i)) i) = if R (l.take i) l[i] ≠ 0 then some (w (R (l.take i) l[i])) else self (st (g (l.take (i + 1))) (i + 1)))
    (hend : (∀ j (h : j < l.length), R (l.take j) l[j] = 0) → ∀ self, F self (st (g l) l.length) = K) :
    ∀ (fuel i : Nat), i ≤ l.length → l.length - i < fuel → (∀ j (h : j < l.length), j < i → R (l.take j) l[j] = 0) →
    fixN F fuel (st (g (l.take i)) i) = if errL R (l.take i) (l.drop i) ≠ 0 then some (w (errL R (l.take i) (l.drop i))) else K
  | 0, i, _, h, _ => by omega
  | fuel + 1, i, hi, h, hp => by
    rw [fixN_s]
    by_cases hl : i < l.length
    · rw [hstep _ i hl, List.drop_eq_getElem_cons hl, errL]
      by_cases hc : R (l.take i) l[i] ≠ 0
      · rw [if_pos hc, if_pos hc, if_pos hc]
      · rw [if_neg hc, if_neg hc]
        have ih := loop_err st g R w K hstep hend fuel (i + 1) (by omega) (by omega) (fun j hj hji => by
          by_cases e : j = i
          · subst e; simpa using hc
          · exact hp j hj (by omega))
        rw [ih, List.take_succ_eq_append_getElem hl]
    · obtain rfl : i = l.length := by omega
      rw [List.take_length, hend (fun j hj => hp j hj hj), List.drop_length]
      rfl

def sumT : List Row → Nat
  | [] => 0
  | r :: l => lenT r + sumT l
def evLen (x : Ev) : Int := ((x.2.2.2.2.2.length - 1 + sumT x.2.2.2.2.2 : Nat) : Int)
theorem sumT_take : ∀ (l : List Row) (i : Nat) (h : i < l.length), sumT (l.take (i + 1)) = sumT (l.take i) + lenT l[i]
  | x :: l, 0, _ => by simp [sumT]
  | x :: l, i + 1, h => by
    have := sumT_take l i (by simpa using h)
    simp only [List.take_succ_cons, sumT, this, List.getElem_cons_succ]
    omega
theorem lenT_tot {l : Row} (h : okR l) : lenT l ≤ 64000000 := by
  have h1 := lenT_le l fun x hx => (h.2.1 x hx).2
  have h2 := h.1
  omega
theorem sumT_le : ∀ (l : List Row), (∀ r ∈ l, okR r) → sumT l ≤ 64000000 * l.length
  | [], _ => Nat.le_refl _
  | r :: l, h => by
    have h1 := lenT_tot (h r List.mem_cons_self)
    have h2 := sumT_le l fun q hq => h q (List.mem_cons_of_mem _ hq)
    simp only [sumT, List.length_cons]
    omega
theorem sumT_take_le (l : List Row) (h : ∀ r ∈ l, okR r) (i : Nat) : sumT (l.take i) ≤ 64000000 * l.length := by
  have h1 := sumT_le (l.take i) fun r hr => h r (List.mem_of_mem_take hr)
  have : (l.take i).length ≤ l.length := by rw [List.length_take]; omega
  omega
theorem event_len_eq {x : Ev} (h : ∀ l ∈ x.2.2.2.2.2, okR l) (hl : x.2.2.2.2.2.length ≤ 1000) : event_Len fuelH x = some (evLen x) := by
  unfold event_Len evLen
  rw [jn_e, bnd_s (event_lens_eq h (by omega))]
  generalize x.2.2.2.2.2 = l at h hl ⊢
  have hll : (lens l).length = l.length := by unfold lens; rw [List.length_map]
  have e0 : imax (w64 (isub (len l) 1)) 0 = ((l.length - 1 : Nat) : Int) := by
    simp only [isub, imax, len]
    rw [w64_id (by omega)]
    omega
  rw [e0]
  refine loop_inv (n := l.length) (fun (a : Nat) (i : Nat) => ((a : Int), (i : Int))) (fun i a => a = l.length - 1 + sumT (l.take i)) _ (fun self a i hi hI => ?_) (fun self a hI => ?_) fuelH 0 (l.length - 1) (Nat.zero_le _) (by have := fuelH_eq; omega) (by simp [sumT])
  · refine ⟨a + lenT l[i], ?_, ?_⟩
    · have ht := sumT_take_le l h i
      have hb := lenT_tot (h _ (List.getElem_mem hi))
      have hin : inb (i : Int) (len (lens l)) = true := inb_t (by simp only [len, hll]; omega)
      have hg : lget (lens l) (toN (i : Int)) (0 : Int) = (lenT l[i] : Int) := by
        rw [lget_i (by omega)]
        simp [lens]
      simp only
      rw [cnd_t (ilt_t (by simp only [len, hll]; omega)), grd_t hin, hg, cnd_f (ilt_f (by omega)), w64_succ hi (by omega)]
      have e : w64 (iadd (a : Int) (lenT l[i] : Int)) = ((a + lenT l[i] : Nat) : Int) := by
        unfold iadd; rw [w64_id (by omega)]; omega
      rw [e]
    · rw [sumT_take l i hi, hI]; omega
  · simp only
    rw [cnd_f (ilt_f (by simp only [len, hll]; omega)), hI, List.take_length]
theorem r11_len_eq {x : Ev} (h : ∀ l ∈ x.2.2.2.2.2, okR l) (hl : x.2.2.2.2.2.length ≤ 1000) : r11_Len fuelH x = some (evLen x) := by
  unfold r11_Len evLen
  rw [jn_e]
  generalize x.2.2.2.2.2 = l at h hl ⊢
  refine loop_inv (n := l.length) (fun (a : Nat) (i : Nat) => ((a : Int), (i : Int))) (fun i a => a = i - 1 + sumT (l.take i)) _ (fun self a i hi hI => ?_) (fun self a hI => ?_) fuelH 0 0 (Nat.zero_le _) (by have := fuelH_eq; omega) (by simp [sumT])
  · refine ⟨i + sumT (l.take i) + lenT l[i], ?_, ?_⟩
    · have ht := sumT_take_le l h i
      have hb := lenT_tot (h _ (List.getElem_mem hi))
      simp only
      rw [cnd_t (ilt_t (by simp only [len]; omega)), grd_t (inb_t (by simp only [len]; omega)), lget_i hi, r09_len (h _ (List.getElem_mem hi)), bnd_some', cnd_f (ilt_f (by omega)), w64_succ hi (by omega)]
      by_cases h0 : i = 0
      · subst h0
        rw [cnd_f (ilt_f (by omega))]
        have e : w64 (iadd (a : Int) (lenT l[0] : Int)) = ((0 + sumT (l.take 0) + lenT l[0] : Nat) : Int) := by
          unfold iadd; rw [w64_id (by omega)]; omega
        rw [e]
      · rw [cnd_t (ilt_t (by omega))]
        have e1 : w64 (iadd (a : Int) 1) = ((a + 1 : Nat) : Int) := by unfold iadd; rw [w64_id (by omega)]; omega
        have e : w64 (iadd ((a + 1 : Nat) : Int) (lenT l[i] : Int)) = ((i + sumT (l.take i) + lenT l[i] : Nat) : Int) := by
          unfold iadd; rw [w64_id (by omega)]; omega
        rw [e1, e]
    · rw [sumT_take l i hi]; omega
  · simp only
    rw [cnd_f (ilt_f (by simp only [len]; omega)), hI, List.take_length]

theorem rowsE_zero : ∀ (l : List Row) (k : Int), rowsE l k = 0 → (∀ r ∈ l, rowE r = 0) ∧ k = 0
  | [], k, h => ⟨fun r hr => (by cases hr), h⟩
  | r :: l, k, h => by
    simp only [rowsE] at h
    split at h
    · rename_i hc; exact absurd h hc
    · rename_i hc
      obtain ⟨h1, h2⟩ := rowsE_zero l k h
      refine ⟨fun q hq => ?_, h2⟩
      rcases List.mem_cons.1 hq with rfl | hq
      · simpa using hc
      · exact h1 q hq
theorem ev_ok {x : Ev} {rs : List Reg} (h : evChk x rs = 0) : 1 ≤ x.1 ∧ x.1 ≤ 1099511627776 ∧ (0 ≤ x.2.1.1 ∧ x.2.1.1 < x.2.1.2 ∧ x.2.1.2 ≤ 5184000) ∧ 0 < x.2.2.2.2.2.length ∧ x.2.2.2.2.2.length ≤ 4 ∧ (∀ r ∈ x.2.2.2.2.2, rowE r = 0) ∧ ∃ r, findR rs x.2.2.1 = some r ∧ (placeS r (lens x.2.2.2.2.2)).2 = 0 := by
  unfold evChk at h
  split at h
  · cases h
  split at h
  · cases h
  split at h
  · cases h
  rename_i c1 c2 c3
  split at h
  · cases h
  rename_i r hr
  split at h
  · cases h
  split at h
  · cases h
  split at h
  · cases h
  split at h
  · cases h
  rename_i c6 c7
  obtain ⟨h1, h2⟩ := rowsE_zero _ _ h
  exact ⟨by omega, by omega, by omega, by omega, by omega, h1, r, hr, h2⟩

def ordB (p : Option Ev) (x : Ev) : Bool := match p with
  | some q => decide (lessE q x)
  | none => true
def evRnd (rs : List Reg) (last : Int) (pre : List Ev) (x : Ev) : Int :=
  if evChk x rs ≠ 0 then evChk x rs else if last < x.1 then 2 else if ordB pre.getLast? x = false then 8 else if hasE pre x.1 then 7 else 0
def evsChk (d : Doc) : Int := errL (evRnd d.2.2.2.2.2.1 d.2.2.2.2.1) [] d.2.2.2.2.2.2.1
theorem evRnd_ok {rs : List Reg} {last : Int} {pre : List Ev} {x : Ev} (h : evRnd rs last pre x = 0) : evChk x rs = 0 ∧ x.1 ≤ last ∧ ordB pre.getLast? x = true ∧ ¬ hasE pre x.1 := by
  unfold evRnd at h
  split at h
  · rename_i hc; exact absurd h hc
  rename_i c1
  split at h
  · cases h
  rename_i c2
  split at h
  · cases h
  rename_i c3
  split at h
  · cases h
  rename_i c4
  exact ⟨by simpa using c1, by omega, by simpa using c3, c4⟩
theorem last_take {α : Type} {l : List α} {i : Nat} (h : i < l.length) : (l.take (i + 1)).getLast? = some l[i] := by
  rw [List.take_succ_eq_append_getElem h, List.getLast?_concat]
end
end Go.Mo
end

section
/-
  Plain facts: the comments of a document, on both sides.
-/
namespace Go.Mo
open Go Go.W Go.Lib
set_option maxRecDepth 100000
noncomputable section

theorem jn_u {α : Type} {K : Unit → Option α} {X : Option α} (h : K () = X) (T : (Unit → Option α) → Option α) : jn K T = T fun _ => X := by
  rw [jn_e, show K = fun _ => X from funext fun _ => h]
def cOrd (p : Option Cmt) (c : Cmt) : Bool := match p with
  | some q => decide (q.1 < c.1)
  | none => true
def evZ : Ev := (0, (0, 0), [], 0, [], [])
def evAt (l : List Ev) (k : Int) : Ev := lget l (toN (findE 0 l k)) evZ
def ancE (d : Doc) (c : Cmt) : Int :=
  if c.2.1 < 1 then 2 else if d.2.2.2.2.1 < c.2.1 then 2 else
  if c.2.2.2.2.2.2.2 = true then (if c.2.2.1 ≠ 0 then 2 else if c.2.2.2.1 ≠ 0 then 2 else 0) else
  if ¬ hasE d.2.2.2.2.2.2.1 c.2.1 then 6 else if c.2.2.1 < 0 then 2 else if c.2.2.2.1 ≤ c.2.2.1 then 2 else
  if evLen (evAt d.2.2.2.2.2.2.1 c.2.1) < c.2.2.2.1 then 2 else 0
def endE (c : Cmt) : Int := if nm c.2.2.2.2.1 = false then 5 else if vld c.2.2.2.2.2.1 = false then 10 else if c.2.2.2.2.2.1 = [] then 4 else if 400 < c.2.2.2.2.2.1.length then 9 else 0
def tailE (d : Doc) (c : Cmt) : Int := if ancE d c ≠ 0 then ancE d c else endE c
def cmtRnd (d : Doc) (pre : List Cmt) (c : Cmt) : Int :=
  if c.1 < 1 then 2 else if d.2.2.2.2.1 < c.1 then 2 else if cOrd pre.getLast? c = false then 8 else if hasE d.2.2.2.2.2.2.1 c.1 then 7 else tailE d c
def cmtsChk (d : Doc) : Int := if 64 < d.2.2.2.2.2.2.2.length then 9 else errL (cmtRnd d) [] d.2.2.2.2.2.2.2
/-- the events are good, the texts of comments not too long -/
def goodD (d : Doc) : Prop := (∀ x ∈ d.2.2.2.2.2.2.1, (∀ r ∈ x.2.2.2.2.2, okR r) ∧ x.2.2.2.2.2.length ≤ 4) ∧ d.2.2.2.2.2.2.1.length ≤ 400 ∧ ∀ c ∈ d.2.2.2.2.2.2.2, c.2.2.2.2.2.1.length ≤ 4000000
theorem evAt_lenS {d : Doc} (hg : goodD d) {k : Int} (h : hasE d.2.2.2.2.2.2.1 k) : inb (findE 0 d.2.2.2.2.2.2.1 k) (len d.2.2.2.2.2.2.1) = true ∧ 0 ≤ findE 0 d.2.2.2.2.2.2.1 k ∧ event_Len fuelH (evAt d.2.2.2.2.2.2.1 k) = some (evLen (evAt d.2.2.2.2.2.2.1 k)) := by
  obtain ⟨j, hj, e1, e2, e3⟩ := findE_yes _ 0 k h
  have he : evAt d.2.2.2.2.2.2.1 k = d.2.2.2.2.2.2.1[j] := by
    unfold evAt
    rw [e1, Nat.zero_add, lget_i hj]
  obtain ⟨h1, h2⟩ := hg.1 _ (List.getElem_mem hj)
  rw [he]
  refine ⟨by rw [e1]; exact inb_t (by simp only [len]; omega), by omega, event_len_eq h1 (by omega)⟩
theorem evAt_len {d : Doc} (hg : goodD d) {k : Int} (h : hasE d.2.2.2.2.2.2.1 k) : inb (findE 0 d.2.2.2.2.2.2.1 k) (len d.2.2.2.2.2.2.1) = true ∧ 0 ≤ findE 0 d.2.2.2.2.2.2.1 k ∧ event_Len fuelH (evAt d.2.2.2.2.2.2.1 k) = some (evLen (evAt d.2.2.2.2.2.2.1 k)) ∧ r11_Len fuelH (evAt d.2.2.2.2.2.2.1 k) = some (evLen (evAt d.2.2.2.2.2.2.1 k)) := by
  obtain ⟨q1, q2, q3⟩ := evAt_lenS hg h
  obtain ⟨j, hj, e1, e2, e3⟩ := findE_yes _ 0 k h
  have he : evAt d.2.2.2.2.2.2.1 k = d.2.2.2.2.2.2.1[j] := by
    unfold evAt
    rw [e1, Nat.zero_add, lget_i hj]
  obtain ⟨h1, h2⟩ := hg.1 _ (List.getElem_mem hj)
  exact ⟨q1, q2, q3, by rw [he]; exact r11_len_eq h1 (by omega)⟩
theorem anchored_eq {d : Doc} (hg : goodD d) (c : Cmt) : document_anchored fuelH (d, c, mapE 0 d.2.2.2.2.2.2.1) = some (ancE d c, mapE 0 d.2.2.2.2.2.2.1) := by
  unfold document_anchored ancE
  simp only
  rw [cnd_ilt]
  by_cases c1 : c.2.1 < 1
  · rw [if_pos c1, if_pos c1]
  rw [if_neg c1, if_neg c1, cnd_ilt]
  by_cases c2 : d.2.2.2.2.1 < c.2.1
  · rw [if_pos c2, if_pos c2]
  rw [if_neg c2, if_neg c2]
  by_cases c3 : c.2.2.2.2.2.2.2 = true
  · rw [cnd_t c3, if_pos c3, cnd_ine, cnd_ine]
    by_cases c4 : c.2.2.1 ≠ 0
    · rw [if_pos c4, if_pos c4]
    rw [if_neg c4, if_neg c4]
    by_cases c5 : c.2.2.2.1 ≠ 0
    · rw [if_pos c5, if_pos c5]
    · rw [if_neg c5, if_neg c5]
  · rw [cnd_f (by simpa using c3), if_neg c3, mhas_mapE, cnd_bnot]
    by_cases c4 : hasE d.2.2.2.2.2.2.1 c.2.1
    · rw [if_pos c4, if_neg (not_not_intro c4), cnd_ilt]
      by_cases c5 : c.2.2.1 < 0
      · rw [if_pos c5, if_pos c5]
      rw [if_neg c5, if_neg c5, cnd_ile]
      by_cases c6 : c.2.2.2.1 ≤ c.2.2.1
      · rw [if_pos c6, if_pos c6]
      obtain ⟨q1, q2, q3⟩ := evAt_lenS hg c4
      have hm : mget ieq (0 : Int) (mapE 0 d.2.2.2.2.2.2.1) c.2.1 = findE 0 d.2.2.2.2.2.2.1 c.2.1 := mget_mapE _ _ _ c4
      rw [if_neg c6, if_neg c6, hm, grd_t q1]
      refine Eq.trans (bnd_s (show event_Len fuelH (lget d.2.2.2.2.2.2.1 (toN (findE 0 d.2.2.2.2.2.2.1 c.2.1)) evZ) = _ from q3)) ?_
      rw [cnd_ilt]
      by_cases c7 : evLen (evAt d.2.2.2.2.2.2.1 c.2.1) < c.2.2.2.1
      · rw [if_pos c7, if_pos c7]
      · rw [if_neg c7, if_neg c7]
    · rw [if_neg c4, if_pos c4]
theorem comments_eq {d : Doc} (hg : goodD d) : document_comments fuelH (d, mapE 0 d.2.2.2.2.2.2.1) = some (cmtsChk d, mapE 0 d.2.2.2.2.2.2.1) := by
  unfold document_comments cmtsChk
  simp only
  by_cases h : 64 < d.2.2.2.2.2.2.2.length
  · rw [cnd_t (ilt_t (by simp only [len]; omega)), if_pos h]
  rw [cnd_f (ilt_f (by simp only [len]; omega)), if_neg h, jn_e]
  have hanc := fun c => anchored_eq hg c
  have hvl := hg.2.2
  generalize hm : mapE 0 d.2.2.2.2.2.2.1 = m at hanc ⊢
  have hmh : ∀ k, mhas ieq m k = decide (hasE d.2.2.2.2.2.2.1 k) := fun k => by rw [← hm]; exact mhas_mapE _ _ _
  generalize hl : d.2.2.2.2.2.2.2 = l at h hvl ⊢
  refine Eq.trans (loop_err (l := l) (fun (_ : Unit) (p : Nat) => ((p : Int), m)) (fun _ => ()) (cmtRnd d) (fun e => (e, m)) (some (0, m)) (fun self i hi => ?_) (fun _ self => ?_) fuelH 0 (Nat.zero_le _) (by have := fuelH_eq; omega) (fun j _ hj => by omega)) ?_
  · have hin : inb (i : Int) (len l) = true := inb_t (by simp only [len]; omega)
    have hv := hvl _ (List.getElem_mem hi)
    simp only
    rw [cnd_t (ilt_t (by simp only [len]; omega)), grd_t hin, lget_i hi]
    refine Eq.trans (jn_u (X := if tailE d l[i] ≠ 0 then some (tailE d l[i], m) else self (((i + 1 : Nat) : Int), m)) ?_ _) ?_
    · skip
      rw [hanc, bnd_some']
      unfold tailE
      by_cases c1 : ancE d l[i] ≠ 0
      · rw [if_pos c1, if_pos c1, cnd_t (ine_t c1)]
      · rw [if_neg c1, cnd_f (ine_f (by simpa using c1)), lines_name, bnd_some']
        unfold endE
        by_cases c2 : nm l[i].2.2.2.2.1 = false
        · rw [cnd_t (by rw [c2]; rfl), if_pos c2, if_pos (by decide)]
        rw [cnd_f (by rw [← Bool.not_eq_true, bnot_t]; exact c2), if_neg c2, ch_valid _ hv, bnd_some']
        by_cases c3 : vld l[i].2.2.2.2.2.1 = false
        · rw [cnd_t (by rw [c3]; rfl), if_pos c3, if_pos (by decide)]
        rw [cnd_f (by rw [← Bool.not_eq_true, bnot_t]; exact c3), if_neg c3]
        by_cases c4 : l[i].2.2.2.2.2.1 = []
        · rw [cnd_t (by rw [seq_t]; exact c4), if_pos c4, if_pos (by decide)]
        rw [cnd_f (by rw [← Bool.not_eq_true, seq_t]; exact c4), if_neg c4]
        by_cases c5 : 400 < l[i].2.2.2.2.2.1.length
        · rw [cnd_t (ilt_t (by simp only [len]; omega)), if_pos c5, if_pos (by decide)]
        · rw [cnd_f (ilt_f (by simp only [len]; omega)), if_neg c5, if_neg (by decide), w64_succ hi (by omega)]
    · simp only
      rw [cnd_ilt, cnd_ilt]
      unfold cmtRnd
      by_cases c1 : l[i].1 < 1
      · rw [if_pos c1, if_pos c1, if_pos (by decide)]
      rw [if_neg c1, if_neg c1]
      by_cases c2 : d.2.2.2.2.1 < l[i].1
      · rw [if_pos c2, if_pos c2, if_pos (by decide)]
      rw [if_neg c2, if_neg c2, hmh]
      cases i with
      | zero =>
        rw [cnd_f (by rfl)]
        have e0 : cOrd (l.take 0).getLast? l[0] = true := rfl
        rw [e0, if_neg (show ¬ true = false by decide), cnd_dec]
        by_cases c3 : hasE d.2.2.2.2.2.2.1 l[0].1
        · rw [if_pos c3, if_pos c3, if_pos (by decide)]
        · rw [if_neg c3, if_neg c3]
      | succ i =>
        rw [cnd_t (ilt_t (by omega)), w64_back (by omega), grd_t (inb_t (by simp only [len]; omega)), lget_i (show i < l.length by omega), cnd_ile, cnd_dec]
        have e0 : cOrd (l.take (i + 1)).getLast? l[i + 1] = decide (l[i].1 < l[i + 1].1) := by rw [last_take (show i < l.length by omega)]; rfl
        rw [e0]
        by_cases c4 : l[i + 1].1 ≤ l[i].1
        · rw [if_pos c4, decide_eq_false (by omega), if_pos rfl, if_pos (by decide)]
        rw [if_neg c4, decide_eq_true (by omega), if_neg (show ¬ true = false by decide)]
        by_cases c3 : hasE d.2.2.2.2.2.2.1 l[i + 1].1
        · rw [if_pos c3, if_pos c3, if_pos (by decide)]
        · rw [if_neg c3, if_neg c3]
  · simp only
    rw [cnd_f (ilt_f (by simp only [len]; omega))]
  · rw [List.take_zero, List.drop_zero]
    by_cases hc : errL (cmtRnd d) [] l ≠ 0
    · rw [if_pos hc]
    · rw [if_neg hc]
      have hc : errL (cmtRnd d) [] l = 0 := by simpa using hc
      rw [hc]
theorem comment_eq {d : Doc} (hg : goodD d) (h64 : d.2.2.2.2.2.2.2.length ≤ 64) {i : Nat} (hi : i < d.2.2.2.2.2.2.2.length) : r12_checkComment fuelH (d, (i : Int)) = some (cmtRnd d (d.2.2.2.2.2.2.2.take i) d.2.2.2.2.2.2.2[i]) := by
  unfold r12_checkComment
  simp only
  have hfind := fun k => find_eq (d := d) (by have := hg.2.1; omega) k
  have hv := hg.2.2 _ (List.getElem_mem hi)
  have hlen := fun k => evAt_len (k := k) hg
  rw [grd_t (inb_t (by simp only [len]; omega)), lget_i hi]
  generalize hl : d.2.2.2.2.2.2.2 = l at hi hv h64 ⊢
  rw [cnd_ilt, cnd_ilt]
  unfold cmtRnd
  by_cases c1 : l[i].1 < 1
  · rw [if_pos c1, if_pos c1]
  rw [if_neg c1, if_neg c1]
  by_cases c2 : d.2.2.2.2.1 < l[i].1
  · rw [if_pos c2, if_pos c2]
  rw [if_neg c2, if_neg c2]
  refine Eq.trans (jn_u (X := some (if hasE d.2.2.2.2.2.2.1 l[i].1 then 7 else tailE d l[i])) ?_ _) ?_
  · skip
    rw [hfind, bnd_some', cnd_ile]
    by_cases c3 : hasE d.2.2.2.2.2.2.1 l[i].1
    · rw [if_pos (hlen _ c3).2.1, if_pos c3]
    rw [if_neg (by rw [findE_no _ _ _ c3]; decide), if_neg c3]
    unfold tailE ancE
    rw [cnd_ilt, cnd_ilt]
    by_cases a1 : l[i].2.1 < 1
    · rw [if_pos a1, if_pos a1, if_pos (by decide)]
    rw [if_neg a1, if_neg a1]
    by_cases a2 : d.2.2.2.2.1 < l[i].2.1
    · rw [if_pos a2, if_pos a2, if_pos (by decide)]
    rw [if_neg a2, if_neg a2]
    refine Eq.trans (jn_u (X := some (endE l[i])) ?_ _) ?_
    · skip
      rw [r07_name, bnd_some']
      unfold endE
      by_cases c2 : nm l[i].2.2.2.2.1 = false
      · rw [cnd_t (by rw [c2]; rfl), if_pos c2]
      rw [cnd_f (by rw [← Bool.not_eq_true, bnot_t]; exact c2), if_neg c2, r08_valid _ hv, bnd_some']
      by_cases c3 : vld l[i].2.2.2.2.2.1 = false
      · rw [cnd_t (by rw [c3]; rfl), if_pos c3]
      rw [cnd_f (by rw [← Bool.not_eq_true, bnot_t]; exact c3), if_neg c3]
      by_cases c4 : l[i].2.2.2.2.2.1 = []
      · rw [cnd_t (by rw [seq_t]; exact c4), if_pos c4]
      rw [cnd_f (by rw [← Bool.not_eq_true, seq_t]; exact c4), if_neg c4]
      by_cases c5 : 400 < l[i].2.2.2.2.2.1.length
      · rw [cnd_t (ilt_t (by simp only [len]; omega)), if_pos c5]
      · rw [cnd_f (ilt_f (by simp only [len]; omega)), if_neg c5]
    · simp only
      by_cases c3 : l[i].2.2.2.2.2.2.2 = true
      · rw [cnd_t c3, if_pos c3, cnd_ine, cnd_ine]
        by_cases c4 : l[i].2.2.1 ≠ 0
        · rw [if_pos c4, if_pos c4, if_pos (by decide)]
        rw [if_neg c4, if_neg c4]
        by_cases c5 : l[i].2.2.2.1 ≠ 0
        · rw [if_pos c5, if_pos c5, if_pos (by decide)]
        · rw [if_neg c5, if_neg c5, if_neg (by decide)]
      · rw [cnd_f (by simpa using c3), if_neg c3, hfind, bnd_some', cnd_ilt]
        by_cases c4 : hasE d.2.2.2.2.2.2.1 l[i].2.1
        · obtain ⟨q1, q2, q3, q4⟩ := hlen _ c4
          rw [if_neg (by omega), if_neg (not_not_intro c4), cnd_ilt]
          by_cases c5 : l[i].2.2.1 < 0
          · rw [if_pos c5, if_pos c5, if_pos (by decide)]
          rw [if_neg c5, if_neg c5, cnd_ile]
          by_cases c6 : l[i].2.2.2.1 ≤ l[i].2.2.1
          · rw [if_pos c6, if_pos c6, if_pos (by decide)]
          rw [if_neg c6, if_neg c6, grd_t q1]
          refine Eq.trans (bnd_s (show r11_Len fuelH (lget d.2.2.2.2.2.2.1 (toN (findE 0 d.2.2.2.2.2.2.1 l[i].2.1)) evZ) = _ from q4)) ?_
          rw [cnd_ilt]
          by_cases c7 : evLen (evAt d.2.2.2.2.2.2.1 l[i].2.1) < l[i].2.2.2.1
          · rw [if_pos c7, if_pos c7, if_pos (by decide)]
          · rw [if_neg c7, if_neg c7, if_neg (by decide)]
        · rw [if_pos (by rw [findE_no _ _ _ c4]; decide), if_pos c4, if_pos (by decide)]
  · simp only
    cases i with
    | zero =>
      rw [cnd_f (by rfl)]
      have e0 : cOrd (l.take 0).getLast? l[0] = true := rfl
      rw [e0, if_neg (show ¬ true = false by decide)]
    | succ i =>
      rw [cnd_t (ilt_t (by omega)), w64_back (by omega), grd_t (inb_t (by simp only [len]; omega)), lget_i (show i < l.length by omega), cnd_ile]
      have e0 : cOrd (l.take (i + 1)).getLast? l[i + 1] = decide (l[i].1 < l[i + 1].1) := by rw [last_take (show i < l.length by omega)]; rfl
      rw [e0]
      by_cases c4 : l[i + 1].1 ≤ l[i].1
      · rw [if_pos c4, decide_eq_false (by omega), if_pos rfl]
      · rw [if_neg c4, decide_eq_true (by omega), if_neg (show ¬ true = false by decide)]
end
end Go.Mo
end

section
/-
  Plain facts: the check of a document is the specified one.
-/
namespace Go.Mo
open Go Go.W Go.Lib
set_option maxRecDepth 100000
noncomputable section

def docChk (d : Doc) : Int :=
  if headChk d ≠ 0 then headChk d else if regsChk d.2.2.2.2.2.1 ≠ 0 then regsChk d.2.2.2.2.2.1 else
  if 400 < d.2.2.2.2.2.2.1.length then 9 else if evsChk d ≠ 0 then evsChk d else cmtsChk d
def smallD (d : Doc) : Prop := d.1.length ≤ 4000000 ∧ d.2.2.2.2.2.1.length ≤ 4000000 ∧ (∀ x ∈ d.2.2.2.2.2.2.1, smallL x.2.2.2.2.2) ∧ ∀ c ∈ d.2.2.2.2.2.2.2, c.2.2.2.2.2.1.length ≤ 4000000
theorem good_of {d : Doc} (hs : smallD d) (hn : d.2.2.2.2.2.2.1.length ≤ 400) (h : ∀ j (h : j < d.2.2.2.2.2.2.1.length), evRnd d.2.2.2.2.2.1 d.2.2.2.2.1 (d.2.2.2.2.2.2.1.take j) d.2.2.2.2.2.2.1[j] = 0) : goodD d := by
  refine ⟨fun x hx => ?_, hn, hs.2.2.2⟩
  obtain ⟨j, hj, rfl⟩ := List.mem_iff_getElem.1 hx
  obtain ⟨h1, _⟩ := evRnd_ok (h j hj)
  obtain ⟨_, _, _, _, h4, h5, _⟩ := ev_ok h1
  exact ⟨fun r hr => rowE_ok (hs.2.2.1 _ hx r hr) (h5 r hr), h4⟩
theorem mput_take {l : List Ev} {i : Nat} (hi : i < l.length) (hn : ¬ hasE (l.take i) l[i].1) : mput ieq (mapE 0 (l.take i)) l[i].1 (i : Int) = mapE 0 (l.take (i + 1)) := by
  rw [mput_new _ (by rw [mhas_mapE, decide_eq_false hn]), List.take_succ_eq_append_getElem hi, mapE_app]
  have : (l.take i).length = i := by rw [List.length_take]; omega
  rw [this, Nat.zero_add]
  rfl
theorem document_check {d : Doc} (hs : smallD d) : document_Check fuelH d = some (docChk d) := by
  unfold document_Check docChk
  rw [bnd_s (header_eq hs.1)]
  by_cases c1 : headChk d ≠ 0
  · rw [cnd_t (ine_t c1), if_pos c1]
  rw [cnd_f (ine_f (by simpa using c1)), if_neg c1, bnd_s (region_list _)]
  by_cases c2 : regsChk d.2.2.2.2.2.1 ≠ 0
  · rw [cnd_t (ine_t c2), if_pos c2]
  rw [cnd_f (ine_f (by simpa using c2)), if_neg c2]
  by_cases c3 : 400 < d.2.2.2.2.2.2.1.length
  · rw [cnd_t (ilt_t (by simp only [len]; omega)), if_pos c3]
  rw [cnd_f (ilt_f (by simp only [len]; omega)), if_neg c3, jn_e]
  have hgood := @good_of d hs (by omega)
  have hcm := @comments_eq d
  unfold evsChk
  have hev := hs.2.2.1
  generalize hl : d.2.2.2.2.2.2.1 = l at c3 hgood hcm hev ⊢
  refine Eq.trans (loop_err (l := l) (fun (a : List (Int × Int)) (p : Nat) => ((p : Int), a)) (fun pre => mapE 0 pre) (evRnd d.2.2.2.2.2.1 d.2.2.2.2.1) (fun e => e) (some (cmtsChk d)) (fun self i hi => ?_) (fun hz self => ?_) fuelH 0 (Nat.zero_le _) (by have := fuelH_eq; omega) (fun j _ hj => by omega)) ?_
  · have hin : inb (i : Int) (len l) = true := inb_t (by simp only [len]; omega)
    have hx := hev _ (List.getElem_mem hi)
    simp only
    rw [cnd_t (ilt_t (by simp only [len]; omega)), grd_t hin, lget_i hi, bnd_s (event_check_eq hx hs.2.1), cnd_ilt, w64_succ hi (by omega)]
    unfold evRnd
    by_cases e1 : evChk l[i] d.2.2.2.2.2.1 ≠ 0
    · rw [if_pos e1, if_pos e1, cnd_t (ine_t e1)]
    rw [if_neg e1, cnd_f (ine_f (by simpa using e1))]
    by_cases e2 : d.2.2.2.2.1 < l[i].1
    · rw [if_pos e2, if_pos e2, if_pos (by decide)]
    rw [if_neg e2, if_neg e2]
    have hput := fun h => mput_take hi h
    cases i with
    | zero =>
      rw [cnd_f (by rfl), mhas_mapE, cnd_dec]
      have e0 : ordB (l.take 0).getLast? l[0] = true := rfl
      rw [e0, if_neg (show ¬ true = false by decide)]
      by_cases e3 : hasE (l.take 0) l[0].1
      · rw [if_pos e3, if_pos e3, if_pos (by decide)]
      · rw [if_neg e3, if_neg e3, hput e3, if_neg (by decide)]
    | succ i =>
      rw [cnd_t (ilt_t (by omega)), w64_back (by omega), grd_t (inb_t (by simp only [len]; omega)), lget_i (show i < l.length by omega), bnd_s (event_less _ _), mhas_mapE, cnd_dec, cnd_bnot]
      have e0 : ordB (l.take (i + 1)).getLast? l[i + 1] = decide (lessE l[i] l[i + 1]) := by rw [last_take (show i < l.length by omega)]; rfl
      rw [e0]
      by_cases e4 : lessE l[i] l[i + 1]
      · rw [if_pos e4, decide_eq_true e4, if_neg (show ¬ true = false by decide)]
        by_cases e3 : hasE (l.take (i + 1)) l[i + 1].1
        · rw [if_pos e3, if_pos e3, if_pos (by decide)]
        · rw [if_neg e3, if_neg e3, hput e3, if_neg (by decide)]
      · rw [if_neg e4, decide_eq_false e4, if_pos rfl, if_pos (by decide)]
  · simp only
    rw [cnd_f (ilt_f (by simp only [len]; omega)), bnd_s (hcm (hgood hz))]
  · rw [List.take_zero, List.drop_zero]
    split <;> rfl
theorem r12_check {d : Doc} (hs : smallD d) : r12_Check fuelH d = some (docChk d) := by
  unfold r12_Check docChk
  rw [bnd_s (checkHead_eq hs.1)]
  by_cases c1 : headChk d ≠ 0
  · rw [cnd_t (ine_t c1), if_pos c1]
  rw [cnd_f (ine_f (by simpa using c1)), if_neg c1, bnd_s (r10_list _)]
  by_cases c2 : regsChk d.2.2.2.2.2.1 ≠ 0
  · rw [cnd_t (ine_t c2), if_pos c2]
  rw [cnd_f (ine_f (by simpa using c2)), if_neg c2]
  by_cases c3 : 400 < d.2.2.2.2.2.2.1.length
  · rw [cnd_t (ilt_t (by simp only [len]; omega)), if_pos c3]
  rw [cnd_f (ilt_f (by simp only [len]; omega)), if_neg c3, jn_e]
  have hgood := @good_of d hs (by omega)
  have hcm := @comment_eq d
  have hfind := fun k => find_eq (d := d) (by omega) k
  unfold evsChk
  have hev := hs.2.2.1
  generalize hl : d.2.2.2.2.2.2.1 = l at c3 hgood hfind hev ⊢
  refine Eq.trans (loop_err (l := l) (fun (_ : Unit) (p : Nat) => (p : Int)) (fun _ => ()) (evRnd d.2.2.2.2.2.1 d.2.2.2.2.1) (fun e => e) (some (cmtsChk d)) (fun self i hi => ?_) (fun hz self => ?_) fuelH 0 (Nat.zero_le _) (by have := fuelH_eq; omega) (fun j _ hj => by omega)) ?_
  · have hin : inb (i : Int) (len l) = true := inb_t (by simp only [len]; omega)
    have hx := hev _ (List.getElem_mem hi)
    have hat := findE_at hi
    rw [cnd_t (ilt_t (by simp only [len]; omega)), grd_t hin, lget_i hi, bnd_s (r11_check_eq hx hs.2.1), cnd_ilt, w64_succ hi (by omega)]
    unfold evRnd
    by_cases e1 : evChk l[i] d.2.2.2.2.2.1 ≠ 0
    · rw [if_pos e1, if_pos e1, cnd_t (ine_t e1)]
    rw [if_neg e1, cnd_f (ine_f (by simpa using e1))]
    by_cases e2 : d.2.2.2.2.1 < l[i].1
    · rw [if_pos e2, if_pos e2, if_pos (by decide)]
    rw [if_neg e2, if_neg e2]
    cases i with
    | zero =>
      rw [cnd_f (by rfl), hfind, bnd_some', cnd_ine]
      have e0 : ordB (l.take 0).getLast? l[0] = true := rfl
      rw [e0, if_neg (show ¬ true = false by decide)]
      by_cases e3 : hasE (l.take 0) l[0].1
      · rw [if_pos (fun e => hat.1 e e3), if_pos e3, if_pos (by decide)]
      · rw [if_neg (not_not_intro (hat.2 e3)), if_neg e3, if_neg (by decide)]
    | succ i =>
      rw [cnd_t (ilt_t (by omega)), w64_back (by omega), grd_t (inb_t (by simp only [len]; omega)), lget_i (show i < l.length by omega), bnd_s (r11_less _ _ _), hfind, bnd_some', cnd_ine, cnd_bnot]
      have e0 : ordB (l.take (i + 1)).getLast? l[i + 1] = decide (lessE l[i] l[i + 1]) := by rw [last_take (show i < l.length by omega)]; rfl
      rw [e0]
      by_cases e4 : lessE l[i] l[i + 1]
      · rw [if_pos e4, decide_eq_true e4, if_neg (show ¬ true = false by decide)]
        by_cases e3 : hasE (l.take (i + 1)) l[i + 1].1
        · rw [if_pos (fun e => hat.1 e e3), if_pos e3, if_pos (by decide)]
        · rw [if_neg (not_not_intro (hat.2 e3)), if_neg e3, if_neg (by decide)]
      · rw [if_neg e4, decide_eq_false e4, if_pos rfl, if_pos (by decide)]
  · rw [cnd_f (ilt_f (by simp only [len]; omega))]
    have hg := hgood hz
    unfold cmtsChk
    by_cases h64 : 64 < d.2.2.2.2.2.2.2.length
    · rw [cnd_t (ilt_t (by simp only [len]; omega)), if_pos h64]
    rw [cnd_f (ilt_f (by simp only [len]; omega)), if_neg h64, jn_e]
    have hcm := @hcm hg (by omega)
    generalize hm : d.2.2.2.2.2.2.2 = m at h64 hcm ⊢
    refine Eq.trans (loop_err (l := m) (fun (_ : Unit) (p : Nat) => (p : Int)) (fun _ => ()) (cmtRnd d) (fun e => e) (some 0) (fun self i hi => ?_) (fun _ self => ?_) fuelH 0 (Nat.zero_le _) (by have := fuelH_eq; omega) (fun j _ hj => by omega)) ?_
    · rw [cnd_t (ilt_t (by simp only [len]; omega)), hcm hi, bnd_some', cnd_ine, w64_succ hi (by omega)]
    · rw [cnd_f (ilt_f (by simp only [len]; omega))]
    · rw [List.take_zero, List.drop_zero]
      by_cases hc : errL (cmtRnd d) [] m ≠ 0
      · rw [if_pos hc]
      · rw [if_neg hc]
        have hc : errL (cmtRnd d) [] m = 0 := by simpa using hc
        rw [hc]
  · rw [List.take_zero, List.drop_zero]
    split <;> rfl
end
end Go.Mo
end
