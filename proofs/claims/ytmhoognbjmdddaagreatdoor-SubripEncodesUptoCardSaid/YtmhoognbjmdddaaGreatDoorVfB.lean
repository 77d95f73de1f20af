/-
  Texts put together, in build order: WXb WXc WXd WK UB UC UM UN UO UP US UV.
-/
import Derived.Test.YtmhoognbjmdddaaGreatDoorVfA
import Derived.Test.YtmhoognbjmdddaaGreatDoorZC
import Derived.KernelRfl
import Derived.Lib.ValidLaws
import Derived.Lib.TrimUEq
import Derived.Lib.MapLaws
import Derived.Lib.IndexMore
set_option linter.all false

section
/-
  The functions do what their models say. Printed by a program.
-/
namespace Go.Mo
open Go Go.W Go.Proofs
noncomputable section
set_option maxRecDepth 100000
def a_utf8_decodeRuneInStringSlow : Ann := .lf
theorem x_utf8_decodeRuneInStringSlow (N : Nat) : execF E [] N Tryz.f141 a_utf8_decodeRuneInStringSlow ps_utf8_decodeRuneInStringSlow rs_utf8_decodeRuneInStringSlow = utf8_decodeRuneInStringSlow N := by kernel_rfl
def a_utf8_DecodeRuneInString : Ann := .lf
theorem x_utf8_DecodeRuneInString (N : Nat) : execF E [⟨141, ps_utf8_decodeRuneInStringSlow, rs_utf8_decodeRuneInStringSlow, utf8_decodeRuneInStringSlow N⟩] N Tryz.f87 a_utf8_DecodeRuneInString ps_utf8_DecodeRuneInString rs_utf8_DecodeRuneInString = utf8_DecodeRuneInString N := by kernel_rfl
def a_strings_explode : Ann := (.sq .lf (.sq .lf (.jn ⟨[0], [], [.s 1], [.v (.int .i64) []]⟩ .lf (.sq .lf (.jn ⟨[1, 6], [], [.s 0, .o 8], [.v (.str) [], .r 8 (.str)]⟩ (.sq .lf (.lp ⟨[1, 6], [], [.s 0, .s 7, .o 8], [.v (.str) [], .v (.int .i64) [], .r 8 (.str)]⟩ .lf)) .lf)))))
theorem x_strings_explode (N : Nat) : execF E [⟨138, ps_utf8_RuneCountInString, rs_utf8_RuneCountInString, utf8_RuneCountInString N⟩, ⟨87, ps_utf8_DecodeRuneInString, rs_utf8_DecodeRuneInString, utf8_DecodeRuneInString N⟩] N Tryz.f133 a_strings_explode ps_strings_explode rs_strings_explode = strings_explode N := by kernel_rfl

def a_strings_Count : Ann := (.sq .lf (.sq .lf (.sq .lf (.sq .lf (.lp ⟨[1], [], [.s 0, .s 5], [.v (.str) [], .v (.int .i64) []]⟩ .lf)))))
theorem x_strings_Count (N : Nat) : execF E [⟨138, ps_utf8_RuneCountInString, rs_utf8_RuneCountInString, utf8_RuneCountInString N⟩, ⟨139, ps_bytealg_CountString, rs_bytealg_CountString, bytealg_CountString N⟩, ⟨38, ps_strings_Index, rs_strings_Index, strings_Index N⟩] N Tryz.f85 a_strings_Count ps_strings_Count rs_strings_Count = strings_Count N := by kernel_rfl
def a_strings_genSplit : Ann := (.sq .lf (.sq .lf (.sq .lf (.jn ⟨[0, 1, 2], [], [.s 3], [.v (.int .i64) []]⟩ .lf (.sq .lf (.sq .lf (.sq .lf (.sq .lf (.jn ⟨[9], [], [.s 0, .s 10, .o 15], [.v (.str) [], .v (.int .i64) [], .r 15 (.str)]⟩ (.lp ⟨[1, 2, 3, 9], [], [.s 0, .s 10, .o 15], [.v (.str) [], .v (.int .i64) [], .r 15 (.str)]⟩ .lf) .lf)))))))))
theorem x_strings_genSplit (N : Nat) : execF E [⟨133, ps_strings_explode, rs_strings_explode, strings_explode N⟩, ⟨85, ps_strings_Count, rs_strings_Count, strings_Count N⟩, ⟨38, ps_strings_Index, rs_strings_Index, strings_Index N⟩] N Tryz.f83 a_strings_genSplit ps_strings_genSplit rs_strings_genSplit = strings_genSplit N := by kernel_rfl
def a_strings_Split : Ann := .lf
theorem x_strings_Split (N : Nat) : execF E [⟨83, ps_strings_genSplit, rs_strings_genSplit, strings_genSplit N⟩] N Tryz.f37 a_strings_Split ps_strings_Split rs_strings_Split = strings_Split N := by kernel_rfl
def a_stringslite_HasSuffix : Ann := .lf
theorem x_stringslite_HasSuffix (N : Nat) : execF E [] N Tryz.f154 a_stringslite_HasSuffix ps_stringslite_HasSuffix rs_stringslite_HasSuffix = stringslite_HasSuffix N := by kernel_rfl
def a_stringslite_TrimSuffix : Ann := .lf
theorem x_stringslite_TrimSuffix (N : Nat) : execF E [⟨154, ps_stringslite_HasSuffix, rs_stringslite_HasSuffix, stringslite_HasSuffix N⟩] N Tryz.f103 a_stringslite_TrimSuffix ps_stringslite_TrimSuffix rs_stringslite_TrimSuffix = stringslite_TrimSuffix N := by kernel_rfl
def a_strings_TrimSuffix : Ann := .lf
theorem x_strings_TrimSuffix (N : Nat) : execF E [⟨103, ps_stringslite_TrimSuffix, rs_stringslite_TrimSuffix, stringslite_TrimSuffix N⟩] N Tryz.f63 a_strings_TrimSuffix ps_strings_TrimSuffix rs_strings_TrimSuffix = strings_TrimSuffix N := by kernel_rfl
def a_subrip_field : Ann := (.sq .lf (.sq .lf (.jn ⟨[], [], [.s 3], [.v (.int .i64) []]⟩ (.sq .lf (.lp ⟨[0, 6], [], [.s 3, .s 7], [.v (.int .i64) [], .v (.int .i64) []]⟩ .lf)) .lf)))
theorem x_subrip_field (N : Nat) : execF E [] N Tryz.f43 a_subrip_field ps_subrip_field rs_subrip_field = subrip_field N := by kernel_rfl
def a_subrip_number : Ann := .lf
theorem x_subrip_number (N : Nat) : execF E [⟨43, ps_subrip_field, rs_subrip_field, subrip_field N⟩] N Tryz.f104 a_subrip_number ps_subrip_number rs_subrip_number = subrip_number N := by kernel_rfl
def a_subrip_reader_fail : Ann := .lf
theorem x_subrip_reader_fail (N : Nat) : execF E [] N Tryz.f105 a_subrip_reader_fail ps_subrip_reader_fail rs_subrip_reader_fail = subrip_reader_fail N := by kernel_rfl
def a_subrip_ParseClock : Ann := (.sq .lf (.jn ⟨[0], [], [], []⟩ .lf .lf))
theorem x_subrip_ParseClock (N : Nat) : execF E [⟨43, ps_subrip_field, rs_subrip_field, subrip_field N⟩] N Tryz.f16 a_subrip_ParseClock ps_subrip_ParseClock rs_subrip_ParseClock = subrip_ParseClock N := by kernel_rfl
def a_subrip_times : Ann := .lf
theorem x_subrip_times (N : Nat) : execF E [⟨16, ps_subrip_ParseClock, rs_subrip_ParseClock, subrip_ParseClock N⟩] N Tryz.f106 a_subrip_times ps_subrip_times rs_subrip_times = subrip_times N := by kernel_rfl
def a_timebase_Frame : Ann := .lf
theorem x_timebase_Frame (N : Nat) : execF E [⟨61, ps_timebase_Valid, rs_timebase_Valid, timebase_Valid N⟩, ⟨192, ps_timebase_Ticks, rs_timebase_Ticks, timebase_Ticks N⟩, ⟨188, ps_ratio_Quotient, rs_ratio_Quotient, ratio_Quotient N⟩] N Tryz.f155 a_timebase_Frame ps_timebase_Frame rs_timebase_Frame = timebase_Frame N := by kernel_rfl
def a_timebase_FromMillis : Ann := .lf
theorem x_timebase_FromMillis (N : Nat) : execF E [⟨61, ps_timebase_Valid, rs_timebase_Valid, timebase_Valid N⟩, ⟨155, ps_timebase_Frame, rs_timebase_Frame, timebase_Frame N⟩] N Tryz.f107 a_timebase_FromMillis ps_timebase_FromMillis rs_timebase_FromMillis = timebase_FromMillis N := by kernel_rfl
def a_subrip_ParseMarkup_1 : Ann := .lf
theorem x_subrip_ParseMarkup_1 (N : Nat) : execF E [] N Tryz.f54 a_subrip_ParseMarkup_1 ps_subrip_ParseMarkup_1 rs_subrip_ParseMarkup_1 = subrip_ParseMarkup_1 N := by kernel_rfl
def a_stringslite_HasPrefix : Ann := .lf
theorem x_stringslite_HasPrefix (N : Nat) : execF E [] N Tryz.f96 a_stringslite_HasPrefix ps_stringslite_HasPrefix rs_stringslite_HasPrefix = stringslite_HasPrefix N := by kernel_rfl
def a_strings_HasPrefix : Ann := .lf
theorem x_strings_HasPrefix (N : Nat) : execF E [⟨96, ps_stringslite_HasPrefix, rs_stringslite_HasPrefix, stringslite_HasPrefix N⟩] N Tryz.f55 a_strings_HasPrefix ps_strings_HasPrefix rs_strings_HasPrefix = strings_HasPrefix N := by kernel_rfl
def a_subrip_ParseMarkup : Ann := (.sq .lf (.sq .lf (.sq .lf (.sq .lf (.sq .lf (.jn ⟨[2, 3, 4, 6], [2], [.o 4, .o 8, .o 6], [.b 31 (.st (.slice (.st (.pair (.str) (.pair (.st (.pair (.u8) (.pair (.bool) (.bool)))) (.str)))))) [0], .b 9 (.str) [], .b 38 (.st (.pair (.u8) (.pair (.bool) (.bool)))) []]⟩ (.lp ⟨[2, 3, 4, 5, 6], [2], [.s 0, .o 4, .o 8, .o 6], [.v (.str) [], .b 31 (.st (.slice (.st (.pair (.str) (.pair (.st (.pair (.u8) (.pair (.bool) (.bool)))) (.str)))))) [0], .b 9 (.str) [], .b 38 (.st (.pair (.u8) (.pair (.bool) (.bool)))) []]⟩ (.sq .lf (.sq .lf (.sq .lf (.jn ⟨[0, 2, 3, 4, 5, 6, 7], [18, 4, 8, 6, 13, 2], [.s 8], [.v (.str) []]⟩ (.sq .lf (.lp ⟨[0, 2, 3, 4, 5, 6, 7, 15, 16], [22, 18, 4, 8, 6, 13, 2], [.s 8, .s 17], [.v (.str) [], .v (.int .i64) []]⟩ .lf)) (.jn ⟨[0, 2, 3, 4, 5, 6, 7, 8], [4, 8, 6, 13, 2], [.o 18], [.b 38 (.st (.pair (.u8) (.pair (.bool) (.bool)))) []]⟩ (.sq .lf (.sq .lf (.sq .lf (.jn ⟨[0, 2, 3, 4, 5, 6, 7, 8, 26], [18, 4, 8, 6, 13, 2], [.s 35], [.v (.bool) []]⟩ .lf .lf)))) .lf)))))) .lf))))))
theorem x_subrip_ParseMarkup (N : Nat) : execF E [⟨54, ps_subrip_ParseMarkup_1, rs_subrip_ParseMarkup_1, subrip_ParseMarkup_1 N⟩, ⟨55, ps_strings_HasPrefix, rs_strings_HasPrefix, strings_HasPrefix N⟩, ⟨23, ps_style_Norm, rs_style_Norm, style_Norm N⟩] N Tryz.f21 a_subrip_ParseMarkup ps_subrip_ParseMarkup rs_subrip_ParseMarkup = subrip_ParseMarkup N := by kernel_rfl
def a_subrip_reader_block : Ann := (.jn ⟨[0], [5, 1, 2, 3, 4], [.s 1, .s 2], [.v (.slice (.str)) [], .v (.int .i64) []]⟩ .lf (.sq .lf (.sq .lf (.sq .lf (.sq .lf (.sq .lf (.sq .lf (.sq .lf (.jn ⟨[0, 2, 9], [5, 1, 2, 3, 4], [.o 36], [.b 74 (.st (.pair (.int .i64) (.pair (.st (.pair (.int .i64) (.int .i64))) (.pair (.str) (.pair (.u8) (.pair (.str) (.slice (.st (.slice (.st (.pair (.str) (.pair (.st (.pair (.u8) (.pair (.bool) (.bool)))) (.str))))))))))))) [6]]⟩ (.sq .lf (.lp ⟨[0, 2, 9, 93, 94], [5, 1, 2, 3, 4], [.s 95, .o 36], [.v (.int .i64) [], .b 74 (.st (.pair (.int .i64) (.pair (.st (.pair (.int .i64) (.int .i64))) (.pair (.str) (.pair (.u8) (.pair (.str) (.slice (.st (.slice (.st (.pair (.str) (.pair (.st (.pair (.u8) (.pair (.bool) (.bool)))) (.str))))))))))))) [6]]⟩ .lf)) .lf)))))))))
theorem x_subrip_reader_block (N : Nat) : execF E [⟨104, ps_subrip_number, rs_subrip_number, subrip_number N⟩, ⟨105, ps_subrip_reader_fail, rs_subrip_reader_fail, subrip_reader_fail N⟩, ⟨106, ps_subrip_times, rs_subrip_times, subrip_times N⟩, ⟨107, ps_timebase_FromMillis, rs_timebase_FromMillis, timebase_FromMillis N⟩, ⟨21, ps_subrip_ParseMarkup, rs_subrip_ParseMarkup, subrip_ParseMarkup N⟩, ⟨78, ps_event_Check, rs_event_Check, event_Check N⟩] N Tryz.f64 a_subrip_reader_block ps_subrip_reader_block rs_subrip_reader_block = subrip_reader_block N := by kernel_rfl
def a_slices_Clone_Lapi_Row_api_Row : Ann := .lf
theorem x_slices_Clone_Lapi_Row_api_Row (N : Nat) : execF E [] N Tryz.f193 a_slices_Clone_Lapi_Row_api_Row ps_slices_Clone_Lapi_Row_api_Row rs_slices_Clone_Lapi_Row_api_Row = slices_Clone_Lapi_Row_api_Row N := by kernel_rfl
def a_slices_Clone_Lapi_Run_api_Run : Ann := .lf
theorem x_slices_Clone_Lapi_Run_api_Run (N : Nat) : execF E [] N Tryz.f194 a_slices_Clone_Lapi_Run_api_Run ps_slices_Clone_Lapi_Run_api_Run rs_slices_Clone_Lapi_Run_api_Run = slices_Clone_Lapi_Run_api_Run N := by kernel_rfl
def a_style_Clone : Ann := (.sq .lf (.sq .lf (.jn ⟨[3], [], [.o 4], [.r 4 (.st (.slice (.st (.pair (.str) (.pair (.st (.pair (.u8) (.pair (.bool) (.bool)))) (.str))))))]⟩ (.sq .lf (.lp ⟨[3, 8], [], [.s 9, .o 4], [.v (.int .i64) [], .r 4 (.st (.slice (.st (.pair (.str) (.pair (.st (.pair (.u8) (.pair (.bool) (.bool)))) (.str))))))]⟩ .lf)) .lf)))
theorem x_style_Clone (N : Nat) : execF E [⟨193, ps_slices_Clone_Lapi_Row_api_Row, rs_slices_Clone_Lapi_Row_api_Row, slices_Clone_Lapi_Row_api_Row N⟩, ⟨194, ps_slices_Clone_Lapi_Run_api_Run, rs_slices_Clone_Lapi_Run_api_Run, slices_Clone_Lapi_Run_api_Run N⟩] N Tryz.f156 a_style_Clone ps_style_Clone rs_style_Clone = style_Clone N := by kernel_rfl
def a_event_Clone : Ann := .lf
theorem x_event_Clone (N : Nat) : execF E [⟨156, ps_style_Clone, rs_style_Clone, style_Clone N⟩] N Tryz.f108 a_event_Clone ps_event_Clone rs_event_Clone = event_Clone N := by kernel_rfl
def a_document_Sort_1 : Ann := .lf
theorem x_document_Sort_1 (N : Nat) : execF E [⟨112, ps_cmp_Compare_int64, rs_cmp_Compare_int64, cmp_Compare_int64 N⟩, ⟨111, ps_cmp_Or_int, rs_cmp_Or_int, cmp_Or_int N⟩] N Tryz.f110 a_document_Sort_1 ps_document_Sort_1 rs_document_Sort_1 = document_Sort_1 N := by kernel_rfl
def a_slices_insertionSortCmpFunc_api_Event : Ann := (.sq .lf (.lp ⟨[0, 1, 2, 3], [], [.s 8, .o 1], [.v (.int .i64) [], .r 4 (.st (.pair (.int .i64) (.pair (.st (.pair (.int .i64) (.int .i64))) (.pair (.str) (.pair (.u8) (.pair (.str) (.slice (.st (.slice (.st (.pair (.str) (.pair (.st (.pair (.u8) (.pair (.bool) (.bool)))) (.str)))))))))))))]⟩ (.sq .lf (.jn ⟨[0, 1, 2, 3, 8], [], [.o 1], [.r 4 (.st (.pair (.int .i64) (.pair (.st (.pair (.int .i64) (.int .i64))) (.pair (.str) (.pair (.u8) (.pair (.str) (.slice (.st (.slice (.st (.pair (.str) (.pair (.st (.pair (.u8) (.pair (.bool) (.bool)))) (.str)))))))))))))]⟩ (.sq .lf (.lp ⟨[0, 1, 2, 3, 8], [], [.s 9, .o 1], [.v (.int .i64) [], .r 4 (.st (.pair (.int .i64) (.pair (.st (.pair (.int .i64) (.int .i64))) (.pair (.str) (.pair (.u8) (.pair (.str) (.slice (.st (.slice (.st (.pair (.str) (.pair (.st (.pair (.u8) (.pair (.bool) (.bool)))) (.str)))))))))))))]⟩ .lf)) .lf))))
theorem x_slices_insertionSortCmpFunc_api_Event (N : Nat) : execF E [⟨110, ps_document_Sort_1, rs_document_Sort_1, document_Sort_1 N⟩] N Tryz.f195 a_slices_insertionSortCmpFunc_api_Event ps_slices_insertionSortCmpFunc_api_Event rs_slices_insertionSortCmpFunc_api_Event = slices_insertionSortCmpFunc_api_Event N := by kernel_rfl
def a_slices_swapRangeCmpFunc_api_Event : Ann := (.sq .lf (.lp ⟨[0, 1, 2, 3], [], [.s 10, .o 1], [.v (.int .i64) [], .r 4 (.st (.pair (.int .i64) (.pair (.st (.pair (.int .i64) (.int .i64))) (.pair (.str) (.pair (.u8) (.pair (.str) (.slice (.st (.slice (.st (.pair (.str) (.pair (.st (.pair (.u8) (.pair (.bool) (.bool)))) (.str)))))))))))))]⟩ .lf))
theorem x_slices_swapRangeCmpFunc_api_Event (N : Nat) : execF E [⟨110, ps_document_Sort_1, rs_document_Sort_1, document_Sort_1 N⟩] N Tryz.f216 a_slices_swapRangeCmpFunc_api_Event ps_slices_swapRangeCmpFunc_api_Event rs_slices_swapRangeCmpFunc_api_Event = slices_swapRangeCmpFunc_api_Event N := by kernel_rfl
def a_slices_rotateCmpFunc_api_Event : Ann := (.sq .lf (.sq .lf (.jn ⟨[0, 2, 4], [], [.s 10, .o 1], [.v (.int .i64) [], .r 4 (.st (.pair (.int .i64) (.pair (.st (.pair (.int .i64) (.int .i64))) (.pair (.str) (.pair (.u8) (.pair (.str) (.slice (.st (.slice (.st (.pair (.str) (.pair (.st (.pair (.u8) (.pair (.bool) (.bool)))) (.str)))))))))))))]⟩ (.lp ⟨[0, 2, 4], [], [.s 10, .s 11, .o 1], [.v (.int .i64) [], .v (.int .i64) [], .r 4 (.st (.pair (.int .i64) (.pair (.st (.pair (.int .i64) (.int .i64))) (.pair (.str) (.pair (.u8) (.pair (.str) (.slice (.st (.slice (.st (.pair (.str) (.pair (.st (.pair (.u8) (.pair (.bool) (.bool)))) (.str)))))))))))))]⟩ .lf) .lf)))
theorem x_slices_rotateCmpFunc_api_Event (N : Nat) : execF E [⟨110, ps_document_Sort_1, rs_document_Sort_1, document_Sort_1 N⟩, ⟨216, ps_slices_swapRangeCmpFunc_api_Event, rs_slices_swapRangeCmpFunc_api_Event, slices_swapRangeCmpFunc_api_Event N⟩] N Tryz.f209 a_slices_rotateCmpFunc_api_Event ps_slices_rotateCmpFunc_api_Event rs_slices_rotateCmpFunc_api_Event = slices_rotateCmpFunc_api_Event N := by kernel_rfl
def a_slices_symMergeCmpFunc_api_Event : Ann := (.jn ⟨[0, 1, 2, 3, 4], [1], [], []⟩ (.sq .lf (.sq (.sq .lf (.sq .lf (.jn ⟨[0, 1], [1], [.s 10], [.v (.int .i64) []]⟩ (.lp ⟨[0, 1, 4], [1], [.s 10, .s 11], [.v (.int .i64) [], .v (.int .i64) []]⟩ .lf) (.jn ⟨[], [], [.o 1], [.r 4 (.st (.pair (.int .i64) (.pair (.st (.pair (.int .i64) (.int .i64))) (.pair (.str) (.pair (.u8) (.pair (.str) (.slice (.st (.slice (.st (.pair (.str) (.pair (.st (.pair (.u8) (.pair (.bool) (.bool)))) (.str)))))))))))))]⟩ (.sq .lf (.lp ⟨[0, 10], [], [.s 13, .o 1], [.v (.int .i64) [], .r 4 (.st (.pair (.int .i64) (.pair (.st (.pair (.int .i64) (.int .i64))) (.pair (.str) (.pair (.u8) (.pair (.str) (.slice (.st (.slice (.st (.pair (.str) (.pair (.st (.pair (.u8) (.pair (.bool) (.bool)))) (.str)))))))))))))]⟩ .lf)) .lf)))) .lf)) (.jn ⟨[0, 1, 2, 3, 4], [1], [], []⟩ (.sq .lf (.sq (.sq .lf (.sq .lf (.jn ⟨[0, 2], [1], [.s 14], [.v (.int .i64) []]⟩ (.lp ⟨[0, 2, 4], [1], [.s 14, .s 15], [.v (.int .i64) [], .v (.int .i64) []]⟩ .lf) (.jn ⟨[], [], [.o 1], [.r 4 (.st (.pair (.int .i64) (.pair (.st (.pair (.int .i64) (.int .i64))) (.pair (.str) (.pair (.u8) (.pair (.str) (.slice (.st (.slice (.st (.pair (.str) (.pair (.st (.pair (.u8) (.pair (.bool) (.bool)))) (.str)))))))))))))]⟩ (.sq .lf (.lp ⟨[0, 14], [], [.s 17, .o 1], [.v (.int .i64) [], .r 4 (.st (.pair (.int .i64) (.pair (.st (.pair (.int .i64) (.int .i64))) (.pair (.str) (.pair (.u8) (.pair (.str) (.slice (.st (.slice (.st (.pair (.str) (.pair (.st (.pair (.u8) (.pair (.bool) (.bool)))) (.str)))))))))))))]⟩ .lf)) .lf)))) .lf)) (.sq .lf (.sq .lf (.sq .lf (.jn ⟨[0, 1, 2, 3, 4, 18, 19], [1], [.s 20, .s 21], [.v (.int .i64) [], .v (.int .i64) []]⟩ .lf (.sq .lf (.jn ⟨[0, 1, 2, 3, 4, 18, 19], [1], [.s 20], [.v (.int .i64) []]⟩ (.lp ⟨[0, 1, 2, 3, 4, 18, 19, 22], [1], [.s 20, .s 21], [.v (.int .i64) [], .v (.int .i64) []]⟩ .lf) (.sq .lf (.jn ⟨[0, 1, 3, 4, 18, 20, 24], [], [.o 1], [.r 4 (.st (.pair (.int .i64) (.pair (.st (.pair (.int .i64) (.int .i64))) (.pair (.str) (.pair (.u8) (.pair (.str) (.slice (.st (.slice (.st (.pair (.str) (.pair (.st (.pair (.u8) (.pair (.bool) (.bool)))) (.str)))))))))))))]⟩ .lf (.jn ⟨[0, 3, 4, 18, 24], [], [.o 1], [.r 4 (.st (.pair (.int .i64) (.pair (.st (.pair (.int .i64) (.int .i64))) (.pair (.str) (.pair (.u8) (.pair (.str) (.slice (.st (.slice (.st (.pair (.str) (.pair (.st (.pair (.u8) (.pair (.bool) (.bool)))) (.str)))))))))))))]⟩ .lf .lf)))))))))))
theorem x_slices_symMergeCmpFunc_api_Event (N D : Nat) : execF E [⟨110, ps_document_Sort_1, rs_document_Sort_1, document_Sort_1 N⟩, ⟨209, ps_slices_rotateCmpFunc_api_Event, rs_slices_rotateCmpFunc_api_Event, slices_rotateCmpFunc_api_Event N⟩, ⟨196, ps_slices_symMergeCmpFunc_api_Event, rs_slices_symMergeCmpFunc_api_Event, slices_symMergeCmpFunc_api_Event_r N D⟩] N Tryz.f196 a_slices_symMergeCmpFunc_api_Event ps_slices_symMergeCmpFunc_api_Event rs_slices_symMergeCmpFunc_api_Event = slices_symMergeCmpFunc_api_Event_r N (D + 1) := by kernel_rfl
def a_slices_stableCmpFunc_api_Event : Ann := (.sq .lf (.sq .lf (.jn ⟨[0, 1, 2, 6], [], [.s 7, .o 1], [.v (.int .i64) [], .r 4 (.st (.pair (.int .i64) (.pair (.st (.pair (.int .i64) (.int .i64))) (.pair (.str) (.pair (.u8) (.pair (.str) (.slice (.st (.slice (.st (.pair (.str) (.pair (.st (.pair (.u8) (.pair (.bool) (.bool)))) (.str)))))))))))))]⟩ (.lp ⟨[0, 1, 2, 6], [], [.s 7, .s 8, .o 1], [.v (.int .i64) [], .v (.int .i64) [], .r 4 (.st (.pair (.int .i64) (.pair (.st (.pair (.int .i64) (.int .i64))) (.pair (.str) (.pair (.u8) (.pair (.str) (.slice (.st (.slice (.st (.pair (.str) (.pair (.st (.pair (.u8) (.pair (.bool) (.bool)))) (.str)))))))))))))]⟩ .lf) (.sq .lf (.lp ⟨[0, 1, 2], [], [.s 6, .o 1], [.v (.int .i64) [], .r 4 (.st (.pair (.int .i64) (.pair (.st (.pair (.int .i64) (.int .i64))) (.pair (.str) (.pair (.u8) (.pair (.str) (.slice (.st (.slice (.st (.pair (.str) (.pair (.st (.pair (.u8) (.pair (.bool) (.bool)))) (.str)))))))))))))]⟩ (.sq .lf (.sq .lf (.jn ⟨[0, 1, 2, 6], [], [.s 7, .o 1], [.v (.int .i64) [], .r 4 (.st (.pair (.int .i64) (.pair (.st (.pair (.int .i64) (.int .i64))) (.pair (.str) (.pair (.u8) (.pair (.str) (.slice (.st (.slice (.st (.pair (.str) (.pair (.st (.pair (.u8) (.pair (.bool) (.bool)))) (.str)))))))))))))]⟩ (.lp ⟨[0, 1, 2, 6], [], [.s 7, .s 8, .o 1], [.v (.int .i64) [], .v (.int .i64) [], .r 4 (.st (.pair (.int .i64) (.pair (.st (.pair (.int .i64) (.int .i64))) (.pair (.str) (.pair (.u8) (.pair (.str) (.slice (.st (.slice (.st (.pair (.str) (.pair (.st (.pair (.u8) (.pair (.bool) (.bool)))) (.str)))))))))))))]⟩ .lf) .lf))))))))
theorem x_slices_stableCmpFunc_api_Event (N : Nat) : execF E [⟨110, ps_document_Sort_1, rs_document_Sort_1, document_Sort_1 N⟩, ⟨195, ps_slices_insertionSortCmpFunc_api_Event, rs_slices_insertionSortCmpFunc_api_Event, slices_insertionSortCmpFunc_api_Event N⟩, ⟨196, ps_slices_symMergeCmpFunc_api_Event, rs_slices_symMergeCmpFunc_api_Event, slices_symMergeCmpFunc_api_Event N⟩] N Tryz.f157 a_slices_stableCmpFunc_api_Event ps_slices_stableCmpFunc_api_Event rs_slices_stableCmpFunc_api_Event = slices_stableCmpFunc_api_Event N := by kernel_rfl
def a_slices_SortStableFunc_Lapi_Event_api_Event : Ann := .lf
theorem x_slices_SortStableFunc_Lapi_Event_api_Event (N : Nat) : execF E [⟨110, ps_document_Sort_1, rs_document_Sort_1, document_Sort_1 N⟩, ⟨157, ps_slices_stableCmpFunc_api_Event, rs_slices_stableCmpFunc_api_Event, slices_stableCmpFunc_api_Event N⟩] N Tryz.f109 a_slices_SortStableFunc_Lapi_Event_api_Event ps_slices_SortStableFunc_Lapi_Event_api_Event rs_slices_SortStableFunc_Lapi_Event_api_Event = slices_SortStableFunc_Lapi_Event_api_Event N := by kernel_rfl
def a_document_Sort : Ann := (.sq .lf (.sq .lf (.jn ⟨[], [], [.s 3], [.v (.slice (.st (.pair (.int .i64) (.pair (.st (.pair (.int .i64) (.int .i64))) (.pair (.str) (.pair (.u8) (.pair (.str) (.slice (.st (.slice (.st (.pair (.str) (.pair (.st (.pair (.u8) (.pair (.bool) (.bool)))) (.str)))))))))))))) [0]]⟩ (.sq .lf (.lp ⟨[6, 7], [], [.s 3, .s 8], [.v (.slice (.st (.pair (.int .i64) (.pair (.st (.pair (.int .i64) (.int .i64))) (.pair (.str) (.pair (.u8) (.pair (.str) (.slice (.st (.slice (.st (.pair (.str) (.pair (.st (.pair (.u8) (.pair (.bool) (.bool)))) (.str)))))))))))))) [0], .v (.int .i64) []]⟩ .lf)) .lf)))
theorem x_document_Sort (N : Nat) : execF E [⟨108, ps_event_Clone, rs_event_Clone, event_Clone N⟩, ⟨109, ps_slices_SortStableFunc_Lapi_Event_api_Event, rs_slices_SortStableFunc_Lapi_Event_api_Event, slices_SortStableFunc_Lapi_Event_api_Event N⟩, ⟨110, ps_document_Sort_1, rs_document_Sort_1, document_Sort_1 N⟩] N Tryz.f65 a_document_Sort ps_document_Sort rs_document_Sort = document_Sort N := by kernel_rfl
def a_subrip_Decode : Ann := (.sq .lf (.jn ⟨[0, 1, 2, 6], [2], [], []⟩ .lf (.sq .lf (.sq .lf (.sq .lf (.jn ⟨[6, 8], [2], [.o 11], [.b 98 (.st (.pair (.u8) (.pair (.st (.pair (.str) (.pair (.str) (.pair (.u8) (.pair (.bool) (.pair (.int .i64) (.pair (.slice (.st (.pair (.str) (.pair (.int .i64) (.pair (.int .i64) (.pair (.int .i64) (.pair (.int .i64) (.pair (.u8) (.bool))))))))) (.pair (.slice (.st (.pair (.int .i64) (.pair (.st (.pair (.int .i64) (.int .i64))) (.pair (.str) (.pair (.u8) (.pair (.str) (.slice (.st (.slice (.st (.pair (.str) (.pair (.st (.pair (.u8) (.pair (.bool) (.bool)))) (.str)))))))))))))) (.slice (.st (.pair (.int .i64) (.pair (.int .i64) (.pair (.int .i64) (.pair (.int .i64) (.pair (.str) (.pair (.str) (.pair (.bool) (.bool)))))))))))))))))) (.slice (.st (.pair (.int .i64) (.pair (.int .i64) (.int .i64)))))))) [6, 7, 8, 9]]⟩ (.sq .lf (.lp ⟨[6, 8, 45, 46], [16, 2], [.s 9, .s 47, .o 11], [.v (.slice (.str)) [0], .v (.int .i64) [], .b 98 (.st (.pair (.u8) (.pair (.st (.pair (.str) (.pair (.str) (.pair (.u8) (.pair (.bool) (.pair (.int .i64) (.pair (.slice (.st (.pair (.str) (.pair (.int .i64) (.pair (.int .i64) (.pair (.int .i64) (.pair (.int .i64) (.pair (.u8) (.bool))))))))) (.pair (.slice (.st (.pair (.int .i64) (.pair (.st (.pair (.int .i64) (.int .i64))) (.pair (.str) (.pair (.u8) (.pair (.str) (.slice (.st (.slice (.st (.pair (.str) (.pair (.st (.pair (.u8) (.pair (.bool) (.bool)))) (.str)))))))))))))) (.slice (.st (.pair (.int .i64) (.pair (.int .i64) (.pair (.int .i64) (.pair (.int .i64) (.pair (.str) (.pair (.str) (.pair (.bool) (.bool)))))))))))))))))) (.slice (.st (.pair (.int .i64) (.pair (.int .i64) (.int .i64)))))))) [6, 7, 8, 9]]⟩ .lf)) .lf))))))
theorem x_subrip_Decode (N : Nat) : execF E [⟨61, ps_timebase_Valid, rs_timebase_Valid, timebase_Valid N⟩, ⟨62, ps_timebase_CanDrop, rs_timebase_CanDrop, timebase_CanDrop N⟩, ⟨37, ps_strings_Split, rs_strings_Split, strings_Split N⟩, ⟨63, ps_strings_TrimSuffix, rs_strings_TrimSuffix, strings_TrimSuffix N⟩, ⟨64, ps_subrip_reader_block, rs_subrip_reader_block, subrip_reader_block N⟩, ⟨65, ps_document_Sort, rs_document_Sort, document_Sort N⟩] N Tryz.f28 a_subrip_Decode ps_subrip_Decode rs_subrip_Decode = subrip_Decode N := by kernel_rfl
def a_slices_Equal_Lapi_Run_api_Run : Ann := (.sq .lf (.sq .lf (.jn ⟨[], [], [], []⟩ (.sq .lf (.lp ⟨[0, 1, 12], [], [.s 13], [.v (.int .i64) []]⟩ .lf)) .lf)))
theorem x_slices_Equal_Lapi_Run_api_Run (N : Nat) : execF E [] N Tryz.f53 a_slices_Equal_Lapi_Run_api_Run ps_slices_Equal_Lapi_Run_api_Run rs_slices_Equal_Lapi_Run_api_Run = slices_Equal_Lapi_Run_api_Run N := by kernel_rfl
def a_style_Same : Ann := .lf
theorem x_style_Same (N : Nat) : execF E [⟨53, ps_slices_Equal_Lapi_Run_api_Run, rs_slices_Equal_Lapi_Run_api_Run, slices_Equal_Lapi_Run_api_Run N⟩] N Tryz.f20 a_style_Same ps_style_Same rs_style_Same = style_Same N := by kernel_rfl
def a_l19_awake : Ann := .lf
theorem x_l19_awake (N : Nat) : execF E [⟨25, ps_subrip_Encode, rs_subrip_Encode, subrip_Encode N⟩, ⟨14, ps_subrip_Clock, rs_subrip_Clock, subrip_Clock N⟩, ⟨28, ps_subrip_Decode, rs_subrip_Decode, subrip_Decode N⟩, ⟨40, ps_style_Plain, rs_style_Plain, style_Plain N⟩, ⟨21, ps_subrip_ParseMarkup, rs_subrip_ParseMarkup, subrip_ParseMarkup N⟩, ⟨20, ps_style_Same, rs_style_Same, style_Same N⟩] N Tryz.f13 a_l19_awake ps_l19_awake rs_l19_awake = l19_awake N := by kernel_rfl
def a_l19_few : Ann := .lf
theorem x_l19_few (N : Nat) : execF E [] N Tryz.f24 a_l19_few ps_l19_few rs_l19_few = l19_few N := by kernel_rfl
def a_r08_Repertoire : Ann := .lf
theorem x_r08_Repertoire (N : Nat) : execF E [] N Tryz.f186 a_r08_Repertoire ps_r08_Repertoire rs_r08_Repertoire = r08_Repertoire N := by kernel_rfl
def a_r08_Index : Ann := (.sq .lf (.jn ⟨[0], [], [], []⟩ .lf (.sq .lf (.jn ⟨[], [], [], []⟩ (.sq .lf (.lp ⟨[0, 16], [], [.s 3, .o 6], [.v (.int .i64) [], .i]⟩ .lf)) .lf))))
theorem x_r08_Index (N : Nat) : execF E [⟨186, ps_r08_Repertoire, rs_r08_Repertoire, r08_Repertoire N⟩] N Tryz.f150 a_r08_Index ps_r08_Index rs_r08_Index = r08_Index N := by kernel_rfl
def a_r08_Valid : Ann := (.sq .lf (.jn ⟨[], [], [], []⟩ (.sq .lf (.lp ⟨[6], [], [.o 4], [.i]⟩ .lf)) .lf))
theorem x_r08_Valid (N : Nat) : execF E [⟨150, ps_r08_Index, rs_r08_Index, r08_Index N⟩] N Tryz.f94 a_r08_Valid ps_r08_Valid rs_r08_Valid = r08_Valid N := by kernel_rfl
def a_r07_digit : Ann := .lf
theorem x_r07_digit (N : Nat) : execF E [] N Tryz.f198 a_r07_digit ps_r07_digit rs_r07_digit = r07_digit N := by kernel_rfl
def a_r07_Name : Ann := (.sq .lf (.sq .lf (.jn ⟨[], [], [], []⟩ (.sq .lf (.lp ⟨[0], [], [.s 3], [.v (.int .i64) []]⟩ (.sq .lf (.sq (.jn ⟨[0, 3], [], [.s 4], [.v (.bool) []]⟩ .lf .lf) .lf)))) .lf)))
theorem x_r07_Name (N : Nat) : execF E [⟨198, ps_r07_digit, rs_r07_digit, r07_digit N⟩] N Tryz.f162 a_r07_Name ps_r07_Name rs_r07_Name = r07_Name N := by kernel_rfl
def a_r02_Valid : Ann := .lf
theorem x_r02_Valid (N : Nat) : execF E [] N Tryz.f66 a_r02_Valid ps_r02_Valid rs_r02_Valid = r02_Valid N := by kernel_rfl
def a_r02_CanDrop : Ann := .lf
theorem x_r02_CanDrop (N : Nat) : execF E [] N Tryz.f67 a_r02_CanDrop ps_r02_CanDrop rs_r02_CanDrop = r02_CanDrop N := by kernel_rfl
def a_r12_checkHead : Ann := (.sq .lf (.sq (.sq .lf (.sq .lf (.sq .lf (.sq .lf (.jn ⟨[1], [2], [.s 13], [.v (.bool) []]⟩ .lf (.sq .lf (.jn ⟨[1], [2], [.s 23], [.v (.bool) []]⟩ .lf .lf))))))) .lf))
theorem x_r12_checkHead (N : Nat) : execF E [⟨94, ps_r08_Valid, rs_r08_Valid, r08_Valid N⟩, ⟨162, ps_r07_Name, rs_r07_Name, r07_Name N⟩, ⟨66, ps_r02_Valid, rs_r02_Valid, r02_Valid N⟩, ⟨67, ps_r02_CanDrop, rs_r02_CanDrop, r02_CanDrop N⟩] N Tryz.f129 a_r12_checkHead ps_r12_checkHead rs_r12_checkHead = r12_checkHead N := by kernel_rfl
end
end Go.Mo
end

section
/-
  The functions do what their models say. Printed by a program.
-/
namespace Go.Mo
open Go Go.W Go.Proofs
noncomputable section
set_option maxRecDepth 100000
def a_r10_Check : Ann := .lf
theorem x_r10_Check (N : Nat) : execF E [⟨162, ps_r07_Name, rs_r07_Name, r07_Name N⟩] N Tryz.f176 a_r10_Check ps_r10_Check rs_r10_Check = r10_Check N := by kernel_rfl
def a_r10_CheckList : Ann := (.sq .lf (.sq .lf (.jn ⟨[], [], [], []⟩ (.sq .lf (.lp ⟨[0, 9, 10], [], [.s 11], [.v (.int .i64) []]⟩ (.sq .lf (.sq .lf (.sq (.sq .lf (.sq .lf (.jn ⟨[0, 3, 4, 9, 10, 11], [14], [], []⟩ .lf .lf))) .lf))))) .lf)))
theorem x_r10_CheckList (N : Nat) : execF E [⟨176, ps_r10_Check, rs_r10_Check, r10_Check N⟩] N Tryz.f130 a_r10_CheckList ps_r10_CheckList rs_r10_CheckList = r10_CheckList N := by kernel_rfl
def a_r11_spanned : Ann := .lf
theorem x_r11_spanned (N : Nat) : execF E [] N Tryz.f160 a_r11_spanned ps_r11_spanned rs_r11_spanned = r11_spanned N := by kernel_rfl
def a_r10_Default : Ann := .lf
theorem x_r10_Default (N : Nat) : execF E [] N Tryz.f197 a_r10_Default ps_r10_Default rs_r10_Default = r10_Default N := by kernel_rfl
def a_r10_Find : Ann := (.sq .lf (.sq .lf (.jn ⟨[4], [2], [], []⟩ (.sq .lf (.lp ⟨[1, 4, 11, 12], [2], [.s 13], [.v (.int .i64) []]⟩ .lf)) .lf)))
theorem x_r10_Find (N : Nat) : execF E [⟨197, ps_r10_Default, rs_r10_Default, r10_Default N⟩] N Tryz.f161 a_r10_Find ps_r10_Find rs_r10_Find = r10_Find N := by kernel_rfl
def a_r09_Valid : Ann := .lf
theorem x_r09_Valid (N : Nat) : execF E [] N Tryz.f95 a_r09_Valid ps_r09_Valid rs_r09_Valid = r09_Valid N := by kernel_rfl
def a_r09_Check : Ann := (.sq .lf (.sq .lf (.jn ⟨[], [], [], []⟩ (.sq .lf (.lp ⟨[1, 10, 11], [2], [.s 12], [.v (.int .i64) []]⟩ .lf)) .lf)))
theorem x_r09_Check (N : Nat) : execF E [⟨94, ps_r08_Valid, rs_r08_Valid, r08_Valid N⟩, ⟨95, ps_r09_Valid, rs_r09_Valid, r09_Valid N⟩] N Tryz.f51 a_r09_Check ps_r09_Check rs_r09_Check = r09_Check N := by kernel_rfl
def a_r09_Plain : Ann := (.sq .lf (.sq .lf (.jn ⟨[], [], [.s 3], [.v (.str) []]⟩ (.sq .lf (.lp ⟨[7, 8], [], [.s 3, .s 9], [.v (.str) [], .v (.int .i64) []]⟩ .lf)) .lf)))
theorem x_r09_Plain (N : Nat) : execF E [] N Tryz.f164 a_r09_Plain ps_r09_Plain rs_r09_Plain = r09_Plain N := by kernel_rfl
def a_r11_neat : Ann := (.sq .lf (.sq .lf (.jn ⟨[], [], [], []⟩ (.sq .lf (.lp ⟨[0], [], [.s 3], [.v (.int .i64) []]⟩ .lf)) .lf)))
theorem x_r11_neat (N : Nat) : execF E [] N Tryz.f163 a_r11_neat ps_r11_neat rs_r11_neat = r11_neat N := by kernel_rfl
def a_r08_runes : Ann := (.sq .lf (.sq .lf (.jn ⟨[], [], [.s 3], [.v (.slice (.int .i32)) [0]]⟩ (.sq .lf (.lp ⟨[7], [], [.s 3, .o 5], [.v (.slice (.int .i32)) [0], .i]⟩ .lf)) .lf)))
theorem x_r08_runes (N : Nat) : execF E [] N Tryz.f210 a_r08_runes ps_r08_runes rs_r08_runes = r08_runes N := by kernel_rfl
def a_r08_Len : Ann := .lf
theorem x_r08_Len (N : Nat) : execF E [⟨94, ps_r08_Valid, rs_r08_Valid, r08_Valid N⟩, ⟨210, ps_r08_runes, rs_r08_runes, r08_runes N⟩] N Tryz.f199 a_r08_Len ps_r08_Len rs_r08_Len = r08_Len N := by kernel_rfl
def a_r09_Len : Ann := (.sq .lf (.sq .lf (.jn ⟨[], [], [.s 3], [.v (.int .i64) []]⟩ (.sq .lf (.lp ⟨[8, 9], [], [.s 3, .s 10], [.v (.int .i64) [], .v (.int .i64) []]⟩ .lf)) .lf)))
theorem x_r09_Len (N : Nat) : execF E [⟨199, ps_r08_Len, rs_r08_Len, r08_Len N⟩] N Tryz.f165 a_r09_Len ps_r09_Len rs_r09_Len = r09_Len N := by kernel_rfl
def a_r10_usable : Ann := .lf
theorem x_r10_usable (N : Nat) : execF E [⟨176, ps_r10_Check, rs_r10_Check, r10_Check N⟩, ⟨197, ps_r10_Default, rs_r10_Default, r10_Default N⟩] N Tryz.f200 a_r10_usable ps_r10_usable rs_r10_usable = r10_usable N := by kernel_rfl
def a_r10_Place : Ann := (.sq .lf (.sq .lf (.sq .lf (.sq .lf (.jn ⟨[], [], [.s 6], [.v (.slice (.st (.pair (.int .i64) (.pair (.int .i64) (.int .i64))))) [0]]⟩ (.sq .lf (.lp ⟨[1, 2, 18, 19], [2], [.s 6, .s 20], [.v (.slice (.st (.pair (.int .i64) (.pair (.int .i64) (.int .i64))))) [0], .v (.int .i64) []]⟩ (.sq .lf (.sq .lf (.sq (.sq .lf (.sq .lf (.sq .lf (.sq .lf (.jn ⟨[1, 2, 6, 8, 9, 18, 19, 20], [18, 2], [.o 40], [.b 193 (.st (.pair (.int .i64) (.pair (.int .i64) (.int .i64)))) []]⟩ .lf .lf))))) .lf))))) .lf)))))
theorem x_r10_Place (N : Nat) : execF E [⟨200, ps_r10_usable, rs_r10_usable, r10_usable N⟩] N Tryz.f166 a_r10_Place ps_r10_Place rs_r10_Place = r10_Place N := by kernel_rfl
def a_r11_Check : Ann := (.sq .lf (.sq .lf (.sq .lf (.sq (.sq .lf (.sq .lf (.sq .lf (.sq .lf (.jn ⟨[2, 5], [33, 2], [.s 46], [.v (.bool) []]⟩ .lf .lf))))) (.sq .lf (.jn ⟨[5], [33], [.s 7], [.v (.slice (.int .i64)) [0]]⟩ (.sq .lf (.lp ⟨[5, 68, 69], [33], [.s 7, .s 70], [.v (.slice (.int .i64)) [0], .v (.int .i64) []]⟩ .lf)) .lf))))))
theorem x_r11_Check (N : Nat) : execF E [⟨160, ps_r11_spanned, rs_r11_spanned, r11_spanned N⟩, ⟨161, ps_r10_Find, rs_r10_Find, r10_Find N⟩, ⟨162, ps_r07_Name, rs_r07_Name, r07_Name N⟩, ⟨51, ps_r09_Check, rs_r09_Check, r09_Check N⟩, ⟨164, ps_r09_Plain, rs_r09_Plain, r09_Plain N⟩, ⟨163, ps_r11_neat, rs_r11_neat, r11_neat N⟩, ⟨165, ps_r09_Len, rs_r09_Len, r09_Len N⟩, ⟨166, ps_r10_Place, rs_r10_Place, r10_Place N⟩] N Tryz.f115 a_r11_Check ps_r11_Check rs_r11_Check = r11_Check N := by kernel_rfl
def a_r11_Less : Ann := .lf
theorem x_r11_Less (N : Nat) : execF E [] N Tryz.f116 a_r11_Less ps_r11_Less rs_r11_Less = r11_Less N := by kernel_rfl
def a_r12_Find : Ann := (.sq .lf (.jn ⟨[], [], [], []⟩ (.sq .lf (.lp ⟨[1, 8, 9], [], [.s 10], [.v (.int .i64) []]⟩ .lf)) .lf))
theorem x_r12_Find (N : Nat) : execF E [] N Tryz.f131 a_r12_Find ps_r12_Find rs_r12_Find = r12_Find N := by kernel_rfl
def a_r11_Len : Ann := (.sq .lf (.sq .lf (.jn ⟨[], [], [.s 3], [.v (.int .i64) []]⟩ (.sq .lf (.lp ⟨[8, 9], [], [.s 3, .s 10], [.v (.int .i64) [], .v (.int .i64) []]⟩ .lf)) .lf)))
theorem x_r11_Len (N : Nat) : execF E [⟨165, ps_r09_Len, rs_r09_Len, r09_Len N⟩] N Tryz.f177 a_r11_Len ps_r11_Len rs_r11_Len = r11_Len N := by kernel_rfl
def a_r12_checkComment : Ann := (.sq .lf (.sq .lf (.sq .lf (.jn ⟨[2, 5], [10, 2], [], []⟩ .lf (.sq .lf (.sq .lf (.jn ⟨[5], [10], [], []⟩ .lf .lf)))))))
theorem x_r12_checkComment (N : Nat) : execF E [⟨131, ps_r12_Find, rs_r12_Find, r12_Find N⟩, ⟨177, ps_r11_Len, rs_r11_Len, r11_Len N⟩, ⟨162, ps_r07_Name, rs_r07_Name, r07_Name N⟩, ⟨94, ps_r08_Valid, rs_r08_Valid, r08_Valid N⟩] N Tryz.f132 a_r12_checkComment ps_r12_checkComment rs_r12_checkComment = r12_checkComment N := by kernel_rfl
def a_r12_Check : Ann := (.sq .lf (.sq .lf (.sq .lf (.sq .lf (.jn ⟨[1], [2], [], []⟩ (.sq .lf (.lp ⟨[1, 26, 27], [2], [.s 28], [.v (.int .i64) []]⟩ .lf)) (.sq .lf (.jn ⟨[], [], [], []⟩ (.sq .lf (.lp ⟨[1, 71], [2], [.s 72], [.v (.int .i64) []]⟩ .lf)) .lf)))))))
theorem x_r12_Check (N : Nat) : execF E [⟨129, ps_r12_checkHead, rs_r12_checkHead, r12_checkHead N⟩, ⟨130, ps_r10_CheckList, rs_r10_CheckList, r10_CheckList N⟩, ⟨115, ps_r11_Check, rs_r11_Check, r11_Check N⟩, ⟨116, ps_r11_Less, rs_r11_Less, r11_Less N⟩, ⟨131, ps_r12_Find, rs_r12_Find, r12_Find N⟩, ⟨132, ps_r12_checkComment, rs_r12_checkComment, r12_checkComment N⟩] N Tryz.f81 a_r12_Check ps_r12_Check rs_r12_Check = r12_Check N := by kernel_rfl
def a_r02_Ticks : Ann := .lf
theorem x_r02_Ticks (N : Nat) : execF E [⟨66, ps_r02_Valid, rs_r02_Valid, r02_Valid N⟩] N Tryz.f189 a_r02_Ticks ps_r02_Ticks rs_r02_Ticks = r02_Ticks N := by kernel_rfl
def a_r02_Time : Ann := .lf
theorem x_r02_Time (N : Nat) : execF E [⟨66, ps_r02_Valid, rs_r02_Valid, r02_Valid N⟩, ⟨189, ps_r02_Ticks, rs_r02_Ticks, r02_Ticks N⟩] N Tryz.f152 a_r02_Time ps_r02_Time rs_r02_Time = r02_Time N := by kernel_rfl
def a_r01_Mode : Ann := .lf
theorem x_r01_Mode (N : Nat) : execF E [] N Tryz.f190 a_r01_Mode ps_r01_Mode rs_r01_Mode = r01_Mode N := by kernel_rfl
def a_r01_negative : Ann := .lf
theorem x_r01_negative (N : Nat) : execF E [] N Tryz.f191 a_r01_negative ps_r01_negative rs_r01_negative = r01_negative N := by kernel_rfl
def a_r01_Quotient : Ann := (.sq .lf (.sq .lf (.sq .lf (.jn ⟨[0, 1, 2], [], [], []⟩ .lf (.sq .lf (.jn ⟨[1, 2], [], [.s 8, .s 9], [.v (.int .i64) [], .v (.int .i64) []]⟩ .lf .lf))))))
theorem x_r01_Quotient (N : Nat) : execF E [⟨190, ps_r01_Mode, rs_r01_Mode, r01_Mode N⟩, ⟨191, ps_r01_negative, rs_r01_negative, r01_negative N⟩] N Tryz.f153 a_r01_Quotient ps_r01_Quotient rs_r01_Quotient = r01_Quotient N := by kernel_rfl
def a_r02_Millis : Ann := .lf
theorem x_r02_Millis (N : Nat) : execF E [⟨152, ps_r02_Time, rs_r02_Time, r02_Time N⟩, ⟨153, ps_r01_Quotient, rs_r01_Quotient, r01_Quotient N⟩] N Tryz.f100 a_r02_Millis ps_r02_Millis rs_r02_Millis = r02_Millis N := by kernel_rfl
def a_r19_digits : Ann := .lf
theorem x_r19_digits (N D : Nat) : execF E [⟨42, ps_r19_digits, rs_r19_digits, r19_digits_r N D⟩] N Tryz.f42 a_r19_digits ps_r19_digits rs_r19_digits = r19_digits_r N (D + 1) := by kernel_rfl
def a_r19_Clock : Ann := .lf
theorem x_r19_Clock (N : Nat) : execF E [⟨42, ps_r19_digits, rs_r19_digits, r19_digits N⟩] N Tryz.f15 a_r19_Clock ps_r19_Clock rs_r19_Clock = r19_Clock N := by kernel_rfl
def a_r07_Decimal : Ann := (.sq .lf (.sq .lf (.jn ⟨[], [], [.s 3, .s 4], [.v (.int .u64) [], .v (.str) []]⟩ .lf (.sq .lf (.sq .lf (.jn ⟨[4, 5], [], [.s 3, .s 6], [.v (.int .u64) [], .v (.str) []]⟩ (.lp ⟨[4, 5], [], [.s 3, .s 6], [.v (.int .u64) [], .v (.str) []]⟩ .lf) .lf))))))
theorem x_r07_Decimal (N : Nat) : execF E [] N Tryz.f101 a_r07_Decimal ps_r07_Decimal rs_r07_Decimal = r07_Decimal N := by kernel_rfl
end
end Go.Mo
end

section
/-
  The functions do what their models say. Printed by a program.
-/
namespace Go.Mo
open Go Go.W Go.Proofs
noncomputable section
set_option maxRecDepth 100000
def a_r09_Norm : Ann := (.sq .lf (.sq .lf (.jn ⟨[2], [4], [.s 3], [.v (.slice (.st (.pair (.str) (.pair (.st (.pair (.u8) (.pair (.bool) (.bool)))) (.str))))) [0]]⟩ (.sq .lf (.lp ⟨[2, 8, 9], [4], [.s 3, .s 10], [.v (.slice (.st (.pair (.str) (.pair (.st (.pair (.u8) (.pair (.bool) (.bool)))) (.str))))) [0], .v (.int .i64) []]⟩ (.sq .lf (.sq .lf (.sq (.sq .lf (.sq .lf (.sq .lf (.jn ⟨[2, 3, 5, 8, 9, 10], [16, 11, 4], [], []⟩ .lf .lf)))) .lf))))) .lf)))
theorem x_r09_Norm (N : Nat) : execF E [] N Tryz.f57 a_r09_Norm ps_r09_Norm rs_r09_Norm = r09_Norm N := by kernel_rfl
def a_r19_carried : Ann := (.sq .lf (.sq .lf (.jn ⟨[2, 3], [4], [.o 7], [.b 31 (.st (.slice (.st (.pair (.str) (.pair (.st (.pair (.u8) (.pair (.bool) (.bool)))) (.str)))))) [0]]⟩ (.sq .lf (.lp ⟨[2, 3, 8, 9], [4], [.s 10, .o 7], [.v (.int .i64) [], .b 31 (.st (.slice (.st (.pair (.str) (.pair (.st (.pair (.u8) (.pair (.bool) (.bool)))) (.str)))))) [0]]⟩ .lf)) .lf)))
theorem x_r19_carried (N : Nat) : execF E [⟨57, ps_r09_Norm, rs_r09_Norm, r09_Norm N⟩] N Tryz.f52 a_r19_carried ps_r19_carried rs_r19_carried = r19_carried N := by kernel_rfl
def a_r19_Markup : Ann := (.sq .lf (.sq .lf (.sq .lf (.jn ⟨[], [], [.s 5], [.v (.str) []]⟩ (.sq .lf (.lp ⟨[17, 18], [13], [.s 5, .s 19], [.v (.str) [], .v (.int .i64) []]⟩ (.sq .lf (.sq .lf (.jn ⟨[17, 18, 19], [13], [.s 5], [.v (.str) []]⟩ (.sq .lf (.jn ⟨[5, 7, 17, 18, 19], [13, 22], [], []⟩ (.sq .lf (.lp ⟨[5, 7, 17, 18, 19], [13, 22], [.s 8], [.v (.int .i64) []]⟩ .lf)) (.sq .lf (.jn ⟨[5, 7, 17, 18, 19], [13, 22], [.s 9], [.v (.str) []]⟩ .lf .lf)))) .lf))))) .lf))))
theorem x_r19_Markup (N : Nat) : execF E [⟨51, ps_r09_Check, rs_r09_Check, r09_Check N⟩, ⟨52, ps_r19_carried, rs_r19_carried, r19_carried N⟩] N Tryz.f19 a_r19_Markup ps_r19_Markup rs_r19_Markup = r19_Markup N := by kernel_rfl
def a_r19_file : Ann := (.sq .lf (.sq .lf (.jn ⟨[], [], [.s 5], [.v (.str) []]⟩ (.sq .lf (.lp ⟨[1, 20, 21], [2], [.s 5, .s 22], [.v (.str) [], .v (.int .i64) []]⟩ (.sq .lf (.sq .lf (.jn ⟨[1, 20, 21, 22], [2], [.s 5], [.v (.str) []]⟩ (.sq .lf (.sq .lf (.sq .lf (.sq .lf (.sq .lf (.sq .lf (.sq .lf (.sq .lf (.jn ⟨[1, 20, 21, 22], [2], [.s 5], [.v (.str) []]⟩ (.sq .lf (.lp ⟨[1, 6, 20, 21, 22, 76, 77], [2], [.s 5, .s 78], [.v (.str) [], .v (.int .i64) []]⟩ .lf)) .lf))))))))) .lf))))) .lf)))
theorem x_r19_file (N : Nat) : execF E [⟨100, ps_r02_Millis, rs_r02_Millis, r02_Millis N⟩, ⟨15, ps_r19_Clock, rs_r19_Clock, r19_Clock N⟩, ⟨101, ps_r07_Decimal, rs_r07_Decimal, r07_Decimal N⟩, ⟨19, ps_r19_Markup, rs_r19_Markup, r19_Markup N⟩] N Tryz.f60 a_r19_file ps_r19_file rs_r19_file = r19_file N := by kernel_rfl
def a_r19_Accept : Ann := .lf
theorem x_r19_Accept (N : Nat) : execF E [⟨81, ps_r12_Check, rs_r12_Check, r12_Check N⟩, ⟨60, ps_r19_file, rs_r19_file, r19_file N⟩] N Tryz.f35 a_r19_Accept ps_r19_Accept rs_r19_Accept = r19_Accept N := by kernel_rfl
def a_r19_Encode : Ann := .lf
theorem x_r19_Encode (N : Nat) : execF E [⟨35, ps_r19_Accept, rs_r19_Accept, r19_Accept N⟩, ⟨60, ps_r19_file, rs_r19_file, r19_file N⟩] N Tryz.f26 a_r19_Encode ps_r19_Encode rs_r19_Encode = r19_Encode N := by kernel_rfl
def a_l19_SubripEncodes : Ann := .lf
theorem x_l19_SubripEncodes (N : Nat) : execF E [⟨13, ps_l19_awake, rs_l19_awake, l19_awake N⟩, ⟨24, ps_l19_few, rs_l19_few, l19_few N⟩, ⟨25, ps_subrip_Encode, rs_subrip_Encode, subrip_Encode N⟩, ⟨26, ps_r19_Encode, rs_r19_Encode, r19_Encode N⟩] N Tryz.f6 a_l19_SubripEncodes ps_l19_SubripEncodes rs_l19_SubripEncodes = l19_SubripEncodes N := by kernel_rfl
end
end Go.Mo
end

section
/-
  The functions do what their models say. Printed by a program.
-/
namespace Go.Mo
open Go Go.W Go.Proofs
noncomputable section
set_option maxRecDepth 100000
theorem k_utf8_word_string (N : Nat) : ConOk E ⟨182, ps_utf8_word_string, rs_utf8_word_string, utf8_word_string N⟩ := conOf envOk (x_utf8_word_string N) trivial (show E.P.funcs[182]? = some Tryz.f182 from by kernel_rfl) (by kernel_rfl)
theorem k_utf8_ValidString (N : Nat) : ConOk E ⟨143, ps_utf8_ValidString, rs_utf8_ValidString, utf8_ValidString N⟩ := kh_utf8_ValidString N
theorem k_charset_place (N : Nat) : ConOk E ⟨183, ps_charset_place, rs_charset_place, charset_place N⟩ := conOf envOk (x_charset_place N) trivial (show E.P.funcs[183]? = some Tryz.f183 from by kernel_rfl) (by kernel_rfl)
theorem k_charset_Index (N : Nat) : ConOk E ⟨144, ps_charset_Index, rs_charset_Index, charset_Index N⟩ := conOf envOk (x_charset_Index N) ⟨k_charset_place N, trivial⟩ (show E.P.funcs[144]? = some Tryz.f144 from by kernel_rfl) (by kernel_rfl)
theorem k_charset_Valid (N : Nat) : ConOk E ⟨89, ps_charset_Valid, rs_charset_Valid, charset_Valid N⟩ := conOf envOk (x_charset_Valid N) ⟨k_utf8_ValidString N, k_charset_Index N, trivial⟩ (show E.P.funcs[89]? = some Tryz.f89 from by kernel_rfl) (by kernel_rfl)
theorem k_lines_Name (N : Nat) : ConOk E ⟨119, ps_lines_Name, rs_lines_Name, lines_Name N⟩ := conOf envOk (x_lines_Name N) trivial (show E.P.funcs[119]? = some Tryz.f119 from by kernel_rfl) (by kernel_rfl)
theorem k_timebase_of (N : Nat) : ConOk E ⟨102, ps_timebase_of, rs_timebase_of, timebase_of N⟩ := conOf envOk (x_timebase_of N) trivial (show E.P.funcs[102]? = some Tryz.f102 from by kernel_rfl) (by kernel_rfl)
theorem k_timebase_Valid (N : Nat) : ConOk E ⟨61, ps_timebase_Valid, rs_timebase_Valid, timebase_Valid N⟩ := conOf envOk (x_timebase_Valid N) ⟨k_timebase_of N, trivial⟩ (show E.P.funcs[61]? = some Tryz.f61 from by kernel_rfl) (by kernel_rfl)
theorem k_timebase_CanDrop (N : Nat) : ConOk E ⟨62, ps_timebase_CanDrop, rs_timebase_CanDrop, timebase_CanDrop N⟩ := conOf envOk (x_timebase_CanDrop N) ⟨k_timebase_of N, trivial⟩ (show E.P.funcs[62]? = some Tryz.f62 from by kernel_rfl) (by kernel_rfl)
theorem k_document_rate (N : Nat) : ConOk E ⟨120, ps_document_rate, rs_document_rate, document_rate N⟩ := conOf envOk (x_document_rate N) ⟨k_timebase_Valid N, k_timebase_CanDrop N, trivial⟩ (show E.P.funcs[120]? = some Tryz.f120 from by kernel_rfl) (by kernel_rfl)
theorem k_document_header (N : Nat) : ConOk E ⟨76, ps_document_header, rs_document_header, document_header N⟩ := conOf envOk (x_document_header N) ⟨k_charset_Valid N, k_lines_Name N, k_document_rate N, trivial⟩ (show E.P.funcs[76]? = some Tryz.f76 from by kernel_rfl) (by kernel_rfl)
theorem k_region_from (N : Nat) : ConOk E ⟨169, ps_region_from, rs_region_from, region_from N⟩ := conOf envOk (x_region_from N) trivial (show E.P.funcs[169]? = some Tryz.f169 from by kernel_rfl) (by kernel_rfl)
theorem k_region_Check (N : Nat) : ConOk E ⟨121, ps_region_Check, rs_region_Check, region_Check N⟩ := conOf envOk (x_region_Check N) ⟨k_lines_Name N, k_region_from N, trivial⟩ (show E.P.funcs[121]? = some Tryz.f121 from by kernel_rfl) (by kernel_rfl)
theorem k_region_CheckList (N : Nat) : ConOk E ⟨77, ps_region_CheckList, rs_region_CheckList, region_CheckList N⟩ := conOf envOk (x_region_CheckList N) ⟨k_region_Check N, trivial⟩ (show E.P.funcs[77]? = some Tryz.f77 from by kernel_rfl) (by kernel_rfl)
theorem k_region_Default (N : Nat) : ConOk E ⟨170, ps_region_Default, rs_region_Default, region_Default N⟩ := conOf envOk (x_region_Default N) trivial (show E.P.funcs[170]? = some Tryz.f170 from by kernel_rfl) (by kernel_rfl)
theorem k_region_Find (N : Nat) : ConOk E ⟨122, ps_region_Find, rs_region_Find, region_Find N⟩ := conOf envOk (x_region_Find N) ⟨k_region_Default N, trivial⟩ (show E.P.funcs[122]? = some Tryz.f122 from by kernel_rfl) (by kernel_rfl)
theorem k_event_spans (N : Nat) : ConOk E ⟨123, ps_event_spans, rs_event_spans, event_spans N⟩ := conOf envOk (x_event_spans N) trivial (show E.P.funcs[123]? = some Tryz.f123 from by kernel_rfl) (by kernel_rfl)
theorem k_event_kinds (N : Nat) : ConOk E ⟨171, ps_event_kinds, rs_event_kinds, event_kinds N⟩ := conOf envOk (x_event_kinds N) trivial (show E.P.funcs[171]? = some Tryz.f171 from by kernel_rfl) (by kernel_rfl)
theorem k_event_KindName (N : Nat) : ConOk E ⟨124, ps_event_KindName, rs_event_KindName, event_KindName N⟩ := conOf envOk (x_event_KindName N) ⟨k_event_kinds N, trivial⟩ (show E.P.funcs[124]? = some Tryz.f124 from by kernel_rfl) (by kernel_rfl)
theorem k_style_Valid (N : Nat) : ConOk E ⟨90, ps_style_Valid, rs_style_Valid, style_Valid N⟩ := conOf envOk (x_style_Valid N) trivial (show E.P.funcs[90]? = some Tryz.f90 from by kernel_rfl) (by kernel_rfl)
theorem k_style_alike (N : Nat) : ConOk E ⟨91, ps_style_alike, rs_style_alike, style_alike N⟩ := conOf envOk (x_style_alike N) trivial (show E.P.funcs[91]? = some Tryz.f91 from by kernel_rfl) (by kernel_rfl)
theorem k_style_Check (N : Nat) : ConOk E ⟨46, ps_style_Check, rs_style_Check, style_Check N⟩ := conOf envOk (x_style_Check N) ⟨k_charset_Valid N, k_style_Valid N, k_style_alike N, trivial⟩ (show E.P.funcs[46]? = some Tryz.f46 from by kernel_rfl) (by kernel_rfl)
theorem k_strings_Builder_copyCheck (N : Nat) : ConOk E ⟨93, ps_strings_Builder_copyCheck, rs_strings_Builder_copyCheck, strings_Builder_copyCheck N⟩ := kh_strings_Builder_copyCheck N
theorem k_strings_Builder_WriteString (N : Nat) : ConOk E ⟨49, ps_strings_Builder_WriteString, rs_strings_Builder_WriteString, strings_Builder_WriteString N⟩ := conOf envOk (x_strings_Builder_WriteString N) ⟨k_strings_Builder_copyCheck N, trivial⟩ (show E.P.funcs[49]? = some Tryz.f49 from by kernel_rfl) (by kernel_rfl)
theorem k_style_Plain (N : Nat) : ConOk E ⟨40, ps_style_Plain, rs_style_Plain, style_Plain N⟩ := conOf envOk (x_style_Plain N) ⟨k_strings_Builder_WriteString N, trivial⟩ (show E.P.funcs[40]? = some Tryz.f40 from by kernel_rfl) (by kernel_rfl)
theorem k_bytealg_IndexByteString (N : Nat) : ConOk E ⟨178, ps_bytealg_IndexByteString, rs_bytealg_IndexByteString, bytealg_IndexByteString N⟩ := kh_bytealg_IndexByteString N
theorem k_stringslite_IndexByte (N : Nat) : ConOk E ⟨134, ps_stringslite_IndexByte, rs_stringslite_IndexByte, stringslite_IndexByte N⟩ := conOf envOk (x_stringslite_IndexByte N) ⟨k_bytealg_IndexByteString N, trivial⟩ (show E.P.funcs[134]? = some Tryz.f134 from by kernel_rfl) (by kernel_rfl)
theorem k_bytealg_Cutover (N : Nat) : ConOk E ⟨136, ps_bytealg_Cutover, rs_bytealg_Cutover, bytealg_Cutover N⟩ := conOf envOk (x_bytealg_Cutover N) trivial (show E.P.funcs[136]? = some Tryz.f136 from by kernel_rfl) (by kernel_rfl)
theorem k_bytealg_hashStr_string (N : Nat) : ConOk E ⟨179, ps_bytealg_hashStr_string, rs_bytealg_hashStr_string, bytealg_hashStr_string N⟩ := conOf envOk (x_bytealg_hashStr_string N) trivial (show E.P.funcs[179]? = some Tryz.f179 from by kernel_rfl) (by kernel_rfl)
theorem k_bytealg_IndexRabinKarp_string (N : Nat) : ConOk E ⟨137, ps_bytealg_IndexRabinKarp_string, rs_bytealg_IndexRabinKarp_string, bytealg_IndexRabinKarp_string N⟩ := conOf envOk (x_bytealg_IndexRabinKarp_string N) ⟨k_bytealg_hashStr_string N, trivial⟩ (show E.P.funcs[137]? = some Tryz.f137 from by kernel_rfl) (by kernel_rfl)
theorem k_stringslite_Index (N : Nat) : ConOk E ⟨84, ps_stringslite_Index, rs_stringslite_Index, stringslite_Index N⟩ := conOf envOk (x_stringslite_Index N) ⟨k_stringslite_IndexByte N, k_bytealg_Cutover N, k_bytealg_IndexRabinKarp_string N, trivial⟩ (show E.P.funcs[84]? = some Tryz.f84 from by kernel_rfl) (by kernel_rfl)
theorem k_strings_Index (N : Nat) : ConOk E ⟨38, ps_strings_Index, rs_strings_Index, strings_Index N⟩ := conOf envOk (x_strings_Index N) ⟨k_stringslite_Index N, trivial⟩ (show E.P.funcs[38]? = some Tryz.f38 from by kernel_rfl) (by kernel_rfl)
theorem k_strings_Contains (N : Nat) : ConOk E ⟨172, ps_strings_Contains, rs_strings_Contains, strings_Contains N⟩ := kh_strings_Contains N
theorem k_utf8_RuneCountInString (N : Nat) : ConOk E ⟨138, ps_utf8_RuneCountInString, rs_utf8_RuneCountInString, utf8_RuneCountInString N⟩ := conOf envOk (x_utf8_RuneCountInString N) trivial (show E.P.funcs[138]? = some Tryz.f138 from by kernel_rfl) (by kernel_rfl)
theorem k_charset_Len (N : Nat) : ConOk E ⟨201, ps_charset_Len, rs_charset_Len, charset_Len N⟩ := conOf envOk (x_charset_Len N) ⟨k_charset_Valid N, k_utf8_RuneCountInString N, trivial⟩ (show E.P.funcs[201]? = some Tryz.f201 from by kernel_rfl) (by kernel_rfl)
theorem k_style_Len (N : Nat) : ConOk E ⟨173, ps_style_Len, rs_style_Len, style_Len N⟩ := conOf envOk (x_style_Len N) ⟨k_charset_Len N, trivial⟩ (show E.P.funcs[173]? = some Tryz.f173 from by kernel_rfl) (by kernel_rfl)
theorem k_event_row (N : Nat) : ConOk E ⟨125, ps_event_row, rs_event_row, event_row N⟩ := conOf envOk (x_event_row N) ⟨k_style_Check N, k_style_Plain N, k_strings_Contains N, k_style_Len N, trivial⟩ (show E.P.funcs[125]? = some Tryz.f125 from by kernel_rfl) (by kernel_rfl)
theorem k_event_lens (N : Nat) : ConOk E ⟨127, ps_event_lens, rs_event_lens, event_lens N⟩ := conOf envOk (x_event_lens N) ⟨k_style_Len N, trivial⟩ (show E.P.funcs[127]? = some Tryz.f127 from by kernel_rfl) (by kernel_rfl)
theorem k_region_usable (N : Nat) : ConOk E ⟨174, ps_region_usable, rs_region_usable, region_usable N⟩ := conOf envOk (x_region_usable N) ⟨k_region_Default N, k_region_Check N, trivial⟩ (show E.P.funcs[174]? = some Tryz.f174 from by kernel_rfl) (by kernel_rfl)
theorem k_region_Place (N : Nat) : ConOk E ⟨126, ps_region_Place, rs_region_Place, region_Place N⟩ := conOf envOk (x_region_Place N) ⟨k_region_usable N, trivial⟩ (show E.P.funcs[126]? = some Tryz.f126 from by kernel_rfl) (by kernel_rfl)
theorem k_event_Check (N : Nat) : ConOk E ⟨78, ps_event_Check, rs_event_Check, event_Check N⟩ := conOf envOk (x_event_Check N) ⟨k_region_Find N, k_event_spans N, k_event_KindName N, k_lines_Name N, k_event_row N, k_event_lens N, k_region_Place N, trivial⟩ (show E.P.funcs[78]? = some Tryz.f78 from by kernel_rfl) (by kernel_rfl)
theorem k_cmp_isNaN_int64 (N : Nat) : ConOk E ⟨158, ps_cmp_isNaN_int64, rs_cmp_isNaN_int64, cmp_isNaN_int64 N⟩ := conOf envOk (x_cmp_isNaN_int64 N) trivial (show E.P.funcs[158]? = some Tryz.f158 from by kernel_rfl) (by kernel_rfl)
theorem k_cmp_Compare_int64 (N : Nat) : ConOk E ⟨112, ps_cmp_Compare_int64, rs_cmp_Compare_int64, cmp_Compare_int64 N⟩ := conOf envOk (x_cmp_Compare_int64 N) ⟨k_cmp_isNaN_int64 N, trivial⟩ (show E.P.funcs[112]? = some Tryz.f112 from by kernel_rfl) (by kernel_rfl)
theorem k_cmp_Or_int (N : Nat) : ConOk E ⟨111, ps_cmp_Or_int, rs_cmp_Or_int, cmp_Or_int N⟩ := conOf envOk (x_cmp_Or_int N) trivial (show E.P.funcs[111]? = some Tryz.f111 from by kernel_rfl) (by kernel_rfl)
theorem k_event_Less (N : Nat) : ConOk E ⟨79, ps_event_Less, rs_event_Less, event_Less N⟩ := conOf envOk (x_event_Less N) ⟨k_cmp_Compare_int64 N, k_cmp_Or_int N, trivial⟩ (show E.P.funcs[79]? = some Tryz.f79 from by kernel_rfl) (by kernel_rfl)
theorem k_event_Len (N : Nat) : ConOk E ⟨175, ps_event_Len, rs_event_Len, event_Len N⟩ := conOf envOk (x_event_Len N) ⟨k_event_lens N, trivial⟩ (show E.P.funcs[175]? = some Tryz.f175 from by kernel_rfl) (by kernel_rfl)
theorem k_document_anchored (N : Nat) : ConOk E ⟨128, ps_document_anchored, rs_document_anchored, document_anchored N⟩ := conOf envOk (x_document_anchored N) ⟨k_event_Len N, trivial⟩ (show E.P.funcs[128]? = some Tryz.f128 from by kernel_rfl) (by kernel_rfl)
theorem k_document_comments (N : Nat) : ConOk E ⟨80, ps_document_comments, rs_document_comments, document_comments N⟩ := conOf envOk (x_document_comments N) ⟨k_document_anchored N, k_lines_Name N, k_charset_Valid N, trivial⟩ (show E.P.funcs[80]? = some Tryz.f80 from by kernel_rfl) (by kernel_rfl)
theorem k_document_Check (N : Nat) : ConOk E ⟨32, ps_document_Check, rs_document_Check, document_Check N⟩ := conOf envOk (x_document_Check N) ⟨k_document_header N, k_region_CheckList N, k_event_Check N, k_event_Less N, k_document_comments N, trivial⟩ (show E.P.funcs[32]? = some Tryz.f32 from by kernel_rfl) (by kernel_rfl)
theorem k_timebase_Ticks (N : Nat) : ConOk E ⟨192, ps_timebase_Ticks, rs_timebase_Ticks, timebase_Ticks N⟩ := conOf envOk (x_timebase_Ticks N) ⟨k_timebase_of N, trivial⟩ (show E.P.funcs[192]? = some Tryz.f192 from by kernel_rfl) (by kernel_rfl)
theorem k_timebase_Time (N : Nat) : ConOk E ⟨187, ps_timebase_Time, rs_timebase_Time, timebase_Time N⟩ := conOf envOk (x_timebase_Time N) ⟨k_timebase_Valid N, k_timebase_Ticks N, trivial⟩ (show E.P.funcs[187]? = some Tryz.f187 from by kernel_rfl) (by kernel_rfl)
theorem k_ratio_known (N : Nat) : ConOk E ⟨206, ps_ratio_known, rs_ratio_known, ratio_known N⟩ := conOf envOk (x_ratio_known N) trivial (show E.P.funcs[206]? = some Tryz.f206 from by kernel_rfl) (by kernel_rfl)
theorem k_ratio_size (N : Nat) : ConOk E ⟨207, ps_ratio_size, rs_ratio_size, ratio_size N⟩ := conOf envOk (x_ratio_size N) trivial (show E.P.funcs[207]? = some Tryz.f207 from by kernel_rfl) (by kernel_rfl)
theorem k_ratio_away (N : Nat) : ConOk E ⟨208, ps_ratio_away, rs_ratio_away, ratio_away N⟩ := conOf envOk (x_ratio_away N) trivial (show E.P.funcs[208]? = some Tryz.f208 from by kernel_rfl) (by kernel_rfl)
theorem k_ratio_Quotient (N : Nat) : ConOk E ⟨188, ps_ratio_Quotient, rs_ratio_Quotient, ratio_Quotient N⟩ := conOf envOk (x_ratio_Quotient N) ⟨k_ratio_known N, k_ratio_size N, k_ratio_away N, trivial⟩ (show E.P.funcs[188]? = some Tryz.f188 from by kernel_rfl) (by kernel_rfl)
theorem k_timebase_Millis (N : Nat) : ConOk E ⟨151, ps_timebase_Millis, rs_timebase_Millis, timebase_Millis N⟩ := conOf envOk (x_timebase_Millis N) ⟨k_timebase_Time N, k_ratio_Quotient N, trivial⟩ (show E.P.funcs[151]? = some Tryz.f151 from by kernel_rfl) (by kernel_rfl)
theorem k_istrconv_small (N : Nat) : ConOk E ⟨202, ps_istrconv_small, rs_istrconv_small, istrconv_small N⟩ := conOf envOk (x_istrconv_small N) trivial (show E.P.funcs[202]? = some Tryz.f202 from by kernel_rfl) (by kernel_rfl)
theorem k_bits_Len64 (N : Nat) : ConOk E ⟨212, ps_bits_Len64, rs_bits_Len64, bits_Len64 N⟩ := conOf envOk (x_bits_Len64 N) trivial (show E.P.funcs[212]? = some Tryz.f212 from by kernel_rfl) (by kernel_rfl)
theorem k_istrconv_log10Pow2 (N : Nat) : ConOk E ⟨211, ps_istrconv_log10Pow2, rs_istrconv_log10Pow2, istrconv_log10Pow2 N⟩ := conOf envOk (x_istrconv_log10Pow2 N) trivial (show E.P.funcs[211]? = some Tryz.f211 from by kernel_rfl) (by kernel_rfl)
theorem k_istrconv_bool2_int (N : Nat) : ConOk E ⟨213, ps_istrconv_bool2_int, rs_istrconv_bool2_int, istrconv_bool2_int N⟩ := conOf envOk (x_istrconv_bool2_int N) trivial (show E.P.funcs[213]? = some Tryz.f213 from by kernel_rfl) (by kernel_rfl)
theorem k_istrconv_numDigits (N : Nat) : ConOk E ⟨203, ps_istrconv_numDigits, rs_istrconv_numDigits, istrconv_numDigits N⟩ := conOf envOk (x_istrconv_numDigits N) ⟨k_bits_Len64 N, k_istrconv_log10Pow2 N, k_istrconv_bool2_int N, trivial⟩ (show E.P.funcs[203]? = some Tryz.f203 from by kernel_rfl) (by kernel_rfl)
theorem k_istrconv_isPowerOfTwo (N : Nat) : ConOk E ⟨214, ps_istrconv_isPowerOfTwo, rs_istrconv_isPowerOfTwo, istrconv_isPowerOfTwo N⟩ := conOf envOk (x_istrconv_isPowerOfTwo N) trivial (show E.P.funcs[214]? = some Tryz.f214 from by kernel_rfl) (by kernel_rfl)
theorem k_bits_TrailingZeros32 (N : Nat) : ConOk E ⟨217, ps_bits_TrailingZeros32, rs_bits_TrailingZeros32, bits_TrailingZeros32 N⟩ := conOf envOk (x_bits_TrailingZeros32 N) trivial (show E.P.funcs[217]? = some Tryz.f217 from by kernel_rfl) (by kernel_rfl)
theorem k_bits_TrailingZeros64 (N : Nat) : ConOk E ⟨218, ps_bits_TrailingZeros64, rs_bits_TrailingZeros64, bits_TrailingZeros64 N⟩ := conOf envOk (x_bits_TrailingZeros64 N) trivial (show E.P.funcs[218]? = some Tryz.f218 from by kernel_rfl) (by kernel_rfl)
theorem k_bits_TrailingZeros (N : Nat) : ConOk E ⟨215, ps_bits_TrailingZeros, rs_bits_TrailingZeros, bits_TrailingZeros N⟩ := conOf envOk (x_bits_TrailingZeros N) ⟨k_bits_TrailingZeros32 N, k_bits_TrailingZeros64 N, trivial⟩ (show E.P.funcs[215]? = some Tryz.f215 from by kernel_rfl) (by kernel_rfl)
theorem k_istrconv_FormatInt (N : Nat) : ConOk E ⟨181, ps_istrconv_FormatInt, rs_istrconv_FormatInt, istrconv_FormatInt N⟩ := kh_istrconv_FormatInt N
theorem k_strconv_FormatInt (N : Nat) : ConOk E ⟨142, ps_strconv_FormatInt, rs_strconv_FormatInt, strconv_FormatInt N⟩ := conOf envOk (x_strconv_FormatInt N) ⟨k_istrconv_FormatInt N, trivial⟩ (show E.P.funcs[142]? = some Tryz.f142 from by kernel_rfl) (by kernel_rfl)
theorem k_lines_Decimal (N : Nat) : ConOk E ⟨88, ps_lines_Decimal, rs_lines_Decimal, lines_Decimal N⟩ := conOf envOk (x_lines_Decimal N) ⟨k_strconv_FormatInt N, trivial⟩ (show E.P.funcs[88]? = some Tryz.f88 from by kernel_rfl) (by kernel_rfl)
theorem k_subrip_digits (N : Nat) : ConOk E ⟨41, ps_subrip_digits, rs_subrip_digits, subrip_digits N⟩ := conOf envOk (x_subrip_digits N) ⟨k_lines_Decimal N, trivial⟩ (show E.P.funcs[41]? = some Tryz.f41 from by kernel_rfl) (by kernel_rfl)
theorem k_subrip_Clock (N : Nat) : ConOk E ⟨14, ps_subrip_Clock, rs_subrip_Clock, subrip_Clock N⟩ := conOf envOk (x_subrip_Clock N) ⟨k_subrip_digits N, trivial⟩ (show E.P.funcs[14]? = some Tryz.f14 from by kernel_rfl) (by kernel_rfl)
theorem k_strings_IndexByte (N : Nat) : ConOk E ⟨184, ps_strings_IndexByte, rs_strings_IndexByte, strings_IndexByte N⟩ := conOf envOk (x_strings_IndexByte N) ⟨k_stringslite_IndexByte N, trivial⟩ (show E.P.funcs[184]? = some Tryz.f184 from by kernel_rfl) (by kernel_rfl)
theorem k_utf8_ValidRune (N : Nat) : ConOk E ⟨185, ps_utf8_ValidRune, rs_utf8_ValidRune, utf8_ValidRune N⟩ := conOf envOk (x_utf8_ValidRune N) trivial (show E.P.funcs[185]? = some Tryz.f185 from by kernel_rfl) (by kernel_rfl)
theorem k_strings_IndexRune (N : Nat) : ConOk E ⟨145, ps_strings_IndexRune, rs_strings_IndexRune, strings_IndexRune N⟩ := conOf envOk (x_strings_IndexRune N) ⟨k_strings_IndexByte N, k_utf8_ValidRune N, k_bytealg_Cutover N, trivial⟩ (show E.P.funcs[145]? = some Tryz.f145 from by kernel_rfl) (by kernel_rfl)
theorem k_strings_shouldUseASCIISet (N : Nat) : ConOk E ⟨146, ps_strings_shouldUseASCIISet, rs_strings_shouldUseASCIISet, strings_shouldUseASCIISet N⟩ := conOf envOk (x_strings_shouldUseASCIISet N) trivial (show E.P.funcs[146]? = some Tryz.f146 from by kernel_rfl) (by kernel_rfl)
theorem k_strings_IndexAny_s (N : Nat) : ConOk E ⟨92, ps_strings_IndexAny, rs_strings_IndexAny, strings_IndexAny_s N⟩ := conOf envOk (x_strings_IndexAny N) ⟨k_strings_IndexRune N, k_strings_shouldUseASCIISet N, trivial⟩ (show E.P.funcs[92]? = some Tryz.f92 from by kernel_rfl) (by kernel_rfl)
theorem k_strings_IndexAny (N : Nat) : ConOk E ⟨92, ps_strings_IndexAny, rs_strings_IndexAny, strings_IndexAny N⟩ := con_or (ps := ps_strings_IndexAny) (rs := rs_strings_IndexAny) (b := longAny) (g1 := fun x : List UInt8 × List UInt8 => some (Lib.indexAny x.1 x.2)) (g2 := strings_IndexAny_s N) khl_IndexAny (k_strings_IndexAny_s N)
theorem k_strings_ContainsAny (N : Nat) : ConOk E ⟨47, ps_strings_ContainsAny, rs_strings_ContainsAny, strings_ContainsAny N⟩ := conOf envOk (x_strings_ContainsAny N) ⟨k_strings_IndexAny N, trivial⟩ (show E.P.funcs[47]? = some Tryz.f47 from by kernel_rfl) (by kernel_rfl)
theorem k_style_norm (N : Nat) : ConOk E ⟨58, ps_style_norm, rs_style_norm, style_norm N⟩ := conOf envOk (x_style_norm N) ⟨k_style_alike N, trivial⟩ (show E.P.funcs[58]? = some Tryz.f58 from by kernel_rfl) (by kernel_rfl)
theorem k_style_Norm (N : Nat) : ConOk E ⟨23, ps_style_Norm, rs_style_Norm, style_Norm N⟩ := conOf envOk (x_style_Norm N) ⟨k_style_norm N, trivial⟩ (show E.P.funcs[23]? = some Tryz.f23 from by kernel_rfl) (by kernel_rfl)
theorem k_subrip_carried (N : Nat) : ConOk E ⟨48, ps_subrip_carried, rs_subrip_carried, subrip_carried N⟩ := conOf envOk (x_subrip_carried N) ⟨k_style_Norm N, trivial⟩ (show E.P.funcs[48]? = some Tryz.f48 from by kernel_rfl) (by kernel_rfl)
theorem k_subrip_Markup (N : Nat) : ConOk E ⟨18, ps_subrip_Markup, rs_subrip_Markup, subrip_Markup N⟩ := conOf envOk (x_subrip_Markup N) ⟨k_style_Check N, k_style_Plain N, k_strings_ContainsAny N, k_subrip_carried N, k_strings_Builder_WriteString N, trivial⟩ (show E.P.funcs[18]? = some Tryz.f18 from by kernel_rfl) (by kernel_rfl)
theorem k_subrip_block (N : Nat) : ConOk E ⟨98, ps_subrip_block, rs_subrip_block, subrip_block N⟩ := conOf envOk (x_subrip_block N) ⟨k_timebase_Millis N, k_subrip_Clock N, k_lines_Decimal N, k_subrip_Markup N, trivial⟩ (show E.P.funcs[98]? = some Tryz.f98 from by kernel_rfl) (by kernel_rfl)
theorem k_strings_Builder_Len (N : Nat) : ConOk E ⟨99, ps_strings_Builder_Len, rs_strings_Builder_Len, strings_Builder_Len N⟩ := conOf envOk (x_strings_Builder_Len N) trivial (show E.P.funcs[99]? = some Tryz.f99 from by kernel_rfl) (by kernel_rfl)
theorem k_subrip_encode (N : Nat) : ConOk E ⟨59, ps_subrip_encode, rs_subrip_encode, subrip_encode N⟩ := conOf envOk (x_subrip_encode N) ⟨k_document_Check N, k_subrip_block N, k_strings_Builder_WriteString N, k_strings_Builder_Len N, trivial⟩ (show E.P.funcs[59]? = some Tryz.f59 from by kernel_rfl) (by kernel_rfl)
theorem k_subrip_Encode (N : Nat) : ConOk E ⟨25, ps_subrip_Encode, rs_subrip_Encode, subrip_Encode N⟩ := conOf envOk (x_subrip_Encode N) ⟨k_subrip_encode N, trivial⟩ (show E.P.funcs[25]? = some Tryz.f25 from by kernel_rfl) (by kernel_rfl)
theorem k_utf8_decodeRuneInStringSlow (N : Nat) : ConOk E ⟨141, ps_utf8_decodeRuneInStringSlow, rs_utf8_decodeRuneInStringSlow, utf8_decodeRuneInStringSlow N⟩ := conOf envOk (x_utf8_decodeRuneInStringSlow N) trivial (show E.P.funcs[141]? = some Tryz.f141 from by kernel_rfl) (by kernel_rfl)
theorem k_utf8_DecodeRuneInString (N : Nat) : ConOk E ⟨87, ps_utf8_DecodeRuneInString, rs_utf8_DecodeRuneInString, utf8_DecodeRuneInString N⟩ := conOf envOk (x_utf8_DecodeRuneInString N) ⟨k_utf8_decodeRuneInStringSlow N, trivial⟩ (show E.P.funcs[87]? = some Tryz.f87 from by kernel_rfl) (by kernel_rfl)
theorem k_strings_explode (N : Nat) : ConOk E ⟨133, ps_strings_explode, rs_strings_explode, strings_explode N⟩ := conOf envOk (x_strings_explode N) ⟨k_utf8_RuneCountInString N, k_utf8_DecodeRuneInString N, trivial⟩ (show E.P.funcs[133]? = some Tryz.f133 from by kernel_rfl) (by kernel_rfl)
theorem k_bytealg_CountString (N : Nat) : ConOk E ⟨139, ps_bytealg_CountString, rs_bytealg_CountString, bytealg_CountString N⟩ := kh_bytealg_CountString N
theorem k_strings_Count (N : Nat) : ConOk E ⟨85, ps_strings_Count, rs_strings_Count, strings_Count N⟩ := conOf envOk (x_strings_Count N) ⟨k_utf8_RuneCountInString N, k_bytealg_CountString N, k_strings_Index N, trivial⟩ (show E.P.funcs[85]? = some Tryz.f85 from by kernel_rfl) (by kernel_rfl)
theorem k_strings_genSplit (N : Nat) : ConOk E ⟨83, ps_strings_genSplit, rs_strings_genSplit, strings_genSplit N⟩ := conOf envOk (x_strings_genSplit N) ⟨k_strings_explode N, k_strings_Count N, k_strings_Index N, trivial⟩ (show E.P.funcs[83]? = some Tryz.f83 from by kernel_rfl) (by kernel_rfl)
theorem k_strings_Split (N : Nat) : ConOk E ⟨37, ps_strings_Split, rs_strings_Split, strings_Split N⟩ := conOf envOk (x_strings_Split N) ⟨k_strings_genSplit N, trivial⟩ (show E.P.funcs[37]? = some Tryz.f37 from by kernel_rfl) (by kernel_rfl)
theorem k_stringslite_HasSuffix (N : Nat) : ConOk E ⟨154, ps_stringslite_HasSuffix, rs_stringslite_HasSuffix, stringslite_HasSuffix N⟩ := conOf envOk (x_stringslite_HasSuffix N) trivial (show E.P.funcs[154]? = some Tryz.f154 from by kernel_rfl) (by kernel_rfl)
theorem k_stringslite_TrimSuffix (N : Nat) : ConOk E ⟨103, ps_stringslite_TrimSuffix, rs_stringslite_TrimSuffix, stringslite_TrimSuffix N⟩ := conOf envOk (x_stringslite_TrimSuffix N) ⟨k_stringslite_HasSuffix N, trivial⟩ (show E.P.funcs[103]? = some Tryz.f103 from by kernel_rfl) (by kernel_rfl)
theorem k_strings_TrimSuffix (N : Nat) : ConOk E ⟨63, ps_strings_TrimSuffix, rs_strings_TrimSuffix, strings_TrimSuffix N⟩ := conOf envOk (x_strings_TrimSuffix N) ⟨k_stringslite_TrimSuffix N, trivial⟩ (show E.P.funcs[63]? = some Tryz.f63 from by kernel_rfl) (by kernel_rfl)
theorem k_subrip_field (N : Nat) : ConOk E ⟨43, ps_subrip_field, rs_subrip_field, subrip_field N⟩ := conOf envOk (x_subrip_field N) trivial (show E.P.funcs[43]? = some Tryz.f43 from by kernel_rfl) (by kernel_rfl)
theorem k_subrip_number (N : Nat) : ConOk E ⟨104, ps_subrip_number, rs_subrip_number, subrip_number N⟩ := conOf envOk (x_subrip_number N) ⟨k_subrip_field N, trivial⟩ (show E.P.funcs[104]? = some Tryz.f104 from by kernel_rfl) (by kernel_rfl)
theorem k_subrip_reader_fail (N : Nat) : ConOk E ⟨105, ps_subrip_reader_fail, rs_subrip_reader_fail, subrip_reader_fail N⟩ := conOf envOk (x_subrip_reader_fail N) trivial (show E.P.funcs[105]? = some Tryz.f105 from by kernel_rfl) (by kernel_rfl)
theorem k_subrip_ParseClock (N : Nat) : ConOk E ⟨16, ps_subrip_ParseClock, rs_subrip_ParseClock, subrip_ParseClock N⟩ := conOf envOk (x_subrip_ParseClock N) ⟨k_subrip_field N, trivial⟩ (show E.P.funcs[16]? = some Tryz.f16 from by kernel_rfl) (by kernel_rfl)
theorem k_subrip_times (N : Nat) : ConOk E ⟨106, ps_subrip_times, rs_subrip_times, subrip_times N⟩ := conOf envOk (x_subrip_times N) ⟨k_subrip_ParseClock N, trivial⟩ (show E.P.funcs[106]? = some Tryz.f106 from by kernel_rfl) (by kernel_rfl)
theorem k_timebase_Frame (N : Nat) : ConOk E ⟨155, ps_timebase_Frame, rs_timebase_Frame, timebase_Frame N⟩ := conOf envOk (x_timebase_Frame N) ⟨k_timebase_Valid N, k_timebase_Ticks N, k_ratio_Quotient N, trivial⟩ (show E.P.funcs[155]? = some Tryz.f155 from by kernel_rfl) (by kernel_rfl)
theorem k_timebase_FromMillis (N : Nat) : ConOk E ⟨107, ps_timebase_FromMillis, rs_timebase_FromMillis, timebase_FromMillis N⟩ := conOf envOk (x_timebase_FromMillis N) ⟨k_timebase_Valid N, k_timebase_Frame N, trivial⟩ (show E.P.funcs[107]? = some Tryz.f107 from by kernel_rfl) (by kernel_rfl)
theorem k_subrip_ParseMarkup_1 (N : Nat) : ConOk E ⟨54, ps_subrip_ParseMarkup_1, rs_subrip_ParseMarkup_1, subrip_ParseMarkup_1 N⟩ := conOf envOk (x_subrip_ParseMarkup_1 N) trivial (show E.P.funcs[54]? = some Tryz.f54 from by kernel_rfl) (by kernel_rfl)
theorem k_stringslite_HasPrefix (N : Nat) : ConOk E ⟨96, ps_stringslite_HasPrefix, rs_stringslite_HasPrefix, stringslite_HasPrefix N⟩ := conOf envOk (x_stringslite_HasPrefix N) trivial (show E.P.funcs[96]? = some Tryz.f96 from by kernel_rfl) (by kernel_rfl)
theorem k_strings_HasPrefix (N : Nat) : ConOk E ⟨55, ps_strings_HasPrefix, rs_strings_HasPrefix, strings_HasPrefix N⟩ := conOf envOk (x_strings_HasPrefix N) ⟨k_stringslite_HasPrefix N, trivial⟩ (show E.P.funcs[55]? = some Tryz.f55 from by kernel_rfl) (by kernel_rfl)
theorem k_subrip_ParseMarkup (N : Nat) : ConOk E ⟨21, ps_subrip_ParseMarkup, rs_subrip_ParseMarkup, subrip_ParseMarkup N⟩ := conOf envOk (x_subrip_ParseMarkup N) ⟨k_subrip_ParseMarkup_1 N, k_strings_HasPrefix N, k_style_Norm N, trivial⟩ (show E.P.funcs[21]? = some Tryz.f21 from by kernel_rfl) (by kernel_rfl)
theorem k_subrip_reader_block (N : Nat) : ConOk E ⟨64, ps_subrip_reader_block, rs_subrip_reader_block, subrip_reader_block N⟩ := conOf envOk (x_subrip_reader_block N) ⟨k_subrip_number N, k_subrip_reader_fail N, k_subrip_times N, k_timebase_FromMillis N, k_subrip_ParseMarkup N, k_event_Check N, trivial⟩ (show E.P.funcs[64]? = some Tryz.f64 from by kernel_rfl) (by kernel_rfl)
theorem k_slices_Clone_Lapi_Row_api_Row (N : Nat) : ConOk E ⟨193, ps_slices_Clone_Lapi_Row_api_Row, rs_slices_Clone_Lapi_Row_api_Row, slices_Clone_Lapi_Row_api_Row N⟩ := conOf envOk (x_slices_Clone_Lapi_Row_api_Row N) trivial (show E.P.funcs[193]? = some Tryz.f193 from by kernel_rfl) (by kernel_rfl)
theorem k_slices_Clone_Lapi_Run_api_Run (N : Nat) : ConOk E ⟨194, ps_slices_Clone_Lapi_Run_api_Run, rs_slices_Clone_Lapi_Run_api_Run, slices_Clone_Lapi_Run_api_Run N⟩ := conOf envOk (x_slices_Clone_Lapi_Run_api_Run N) trivial (show E.P.funcs[194]? = some Tryz.f194 from by kernel_rfl) (by kernel_rfl)
theorem k_style_Clone (N : Nat) : ConOk E ⟨156, ps_style_Clone, rs_style_Clone, style_Clone N⟩ := conOf envOk (x_style_Clone N) ⟨k_slices_Clone_Lapi_Row_api_Row N, k_slices_Clone_Lapi_Run_api_Run N, trivial⟩ (show E.P.funcs[156]? = some Tryz.f156 from by kernel_rfl) (by kernel_rfl)
theorem k_event_Clone (N : Nat) : ConOk E ⟨108, ps_event_Clone, rs_event_Clone, event_Clone N⟩ := conOf envOk (x_event_Clone N) ⟨k_style_Clone N, trivial⟩ (show E.P.funcs[108]? = some Tryz.f108 from by kernel_rfl) (by kernel_rfl)
theorem k_document_Sort_1 (N : Nat) : ConOk E ⟨110, ps_document_Sort_1, rs_document_Sort_1, document_Sort_1 N⟩ := conOf envOk (x_document_Sort_1 N) ⟨k_cmp_Compare_int64 N, k_cmp_Or_int N, trivial⟩ (show E.P.funcs[110]? = some Tryz.f110 from by kernel_rfl) (by kernel_rfl)
theorem k_slices_insertionSortCmpFunc_api_Event (N : Nat) : ConOk E ⟨195, ps_slices_insertionSortCmpFunc_api_Event, rs_slices_insertionSortCmpFunc_api_Event, slices_insertionSortCmpFunc_api_Event N⟩ := conOf envOk (x_slices_insertionSortCmpFunc_api_Event N) ⟨k_document_Sort_1 N, trivial⟩ (show E.P.funcs[195]? = some Tryz.f195 from by kernel_rfl) (by kernel_rfl)
theorem k_slices_swapRangeCmpFunc_api_Event (N : Nat) : ConOk E ⟨216, ps_slices_swapRangeCmpFunc_api_Event, rs_slices_swapRangeCmpFunc_api_Event, slices_swapRangeCmpFunc_api_Event N⟩ := conOf envOk (x_slices_swapRangeCmpFunc_api_Event N) ⟨k_document_Sort_1 N, trivial⟩ (show E.P.funcs[216]? = some Tryz.f216 from by kernel_rfl) (by kernel_rfl)
theorem k_slices_rotateCmpFunc_api_Event (N : Nat) : ConOk E ⟨209, ps_slices_rotateCmpFunc_api_Event, rs_slices_rotateCmpFunc_api_Event, slices_rotateCmpFunc_api_Event N⟩ := conOf envOk (x_slices_rotateCmpFunc_api_Event N) ⟨k_document_Sort_1 N, k_slices_swapRangeCmpFunc_api_Event N, trivial⟩ (show E.P.funcs[209]? = some Tryz.f209 from by kernel_rfl) (by kernel_rfl)
theorem kr_slices_symMergeCmpFunc_api_Event (N : Nat) : ∀ D, ConOk E ⟨196, ps_slices_symMergeCmpFunc_api_Event, rs_slices_symMergeCmpFunc_api_Event, slices_symMergeCmpFunc_api_Event_r N D⟩
  | 0 => fun _ _ h => by cases h
  | D + 1 => by
    have hc : CallsOk E [⟨110, ps_document_Sort_1, rs_document_Sort_1, document_Sort_1 N⟩, ⟨209, ps_slices_rotateCmpFunc_api_Event, rs_slices_rotateCmpFunc_api_Event, slices_rotateCmpFunc_api_Event N⟩, ⟨196, ps_slices_symMergeCmpFunc_api_Event, rs_slices_symMergeCmpFunc_api_Event, slices_symMergeCmpFunc_api_Event_r N D⟩] := callsOk_all ⟨k_document_Sort_1 N, k_slices_rotateCmpFunc_api_Event N, kr_slices_symMergeCmpFunc_api_Event N D, trivial⟩
    rw [← x_slices_symMergeCmpFunc_api_Event N D]
    exact execF_ok envOk hc (drawn_ok envOk hc) (show E.P.funcs[196]? = some Tryz.f196 from by kernel_rfl) (by kernel_rfl) _ _ _
theorem k_slices_symMergeCmpFunc_api_Event (N : Nat) : ConOk E ⟨196, ps_slices_symMergeCmpFunc_api_Event, rs_slices_symMergeCmpFunc_api_Event, slices_symMergeCmpFunc_api_Event N⟩ := kr_slices_symMergeCmpFunc_api_Event N N
theorem k_slices_stableCmpFunc_api_Event (N : Nat) : ConOk E ⟨157, ps_slices_stableCmpFunc_api_Event, rs_slices_stableCmpFunc_api_Event, slices_stableCmpFunc_api_Event N⟩ := conOf envOk (x_slices_stableCmpFunc_api_Event N) ⟨k_document_Sort_1 N, k_slices_insertionSortCmpFunc_api_Event N, k_slices_symMergeCmpFunc_api_Event N, trivial⟩ (show E.P.funcs[157]? = some Tryz.f157 from by kernel_rfl) (by kernel_rfl)
theorem k_slices_SortStableFunc_Lapi_Event_api_Event (N : Nat) : ConOk E ⟨109, ps_slices_SortStableFunc_Lapi_Event_api_Event, rs_slices_SortStableFunc_Lapi_Event_api_Event, slices_SortStableFunc_Lapi_Event_api_Event N⟩ := conOf envOk (x_slices_SortStableFunc_Lapi_Event_api_Event N) ⟨k_document_Sort_1 N, k_slices_stableCmpFunc_api_Event N, trivial⟩ (show E.P.funcs[109]? = some Tryz.f109 from by kernel_rfl) (by kernel_rfl)
theorem k_document_Sort (N : Nat) : ConOk E ⟨65, ps_document_Sort, rs_document_Sort, document_Sort N⟩ := conOf envOk (x_document_Sort N) ⟨k_event_Clone N, k_slices_SortStableFunc_Lapi_Event_api_Event N, k_document_Sort_1 N, trivial⟩ (show E.P.funcs[65]? = some Tryz.f65 from by kernel_rfl) (by kernel_rfl)
theorem k_subrip_Decode (N : Nat) : ConOk E ⟨28, ps_subrip_Decode, rs_subrip_Decode, subrip_Decode N⟩ := conOf envOk (x_subrip_Decode N) ⟨k_timebase_Valid N, k_timebase_CanDrop N, k_strings_Split N, k_strings_TrimSuffix N, k_subrip_reader_block N, k_document_Sort N, trivial⟩ (show E.P.funcs[28]? = some Tryz.f28 from by kernel_rfl) (by kernel_rfl)
theorem k_slices_Equal_Lapi_Run_api_Run (N : Nat) : ConOk E ⟨53, ps_slices_Equal_Lapi_Run_api_Run, rs_slices_Equal_Lapi_Run_api_Run, slices_Equal_Lapi_Run_api_Run N⟩ := conOf envOk (x_slices_Equal_Lapi_Run_api_Run N) trivial (show E.P.funcs[53]? = some Tryz.f53 from by kernel_rfl) (by kernel_rfl)
theorem k_style_Same (N : Nat) : ConOk E ⟨20, ps_style_Same, rs_style_Same, style_Same N⟩ := conOf envOk (x_style_Same N) ⟨k_slices_Equal_Lapi_Run_api_Run N, trivial⟩ (show E.P.funcs[20]? = some Tryz.f20 from by kernel_rfl) (by kernel_rfl)
theorem k_l19_awake (N : Nat) : ConOk E ⟨13, ps_l19_awake, rs_l19_awake, l19_awake N⟩ := conOf envOk (x_l19_awake N) ⟨k_subrip_Encode N, k_subrip_Clock N, k_subrip_Decode N, k_style_Plain N, k_subrip_ParseMarkup N, k_style_Same N, trivial⟩ (show E.P.funcs[13]? = some Tryz.f13 from by kernel_rfl) (by kernel_rfl)
theorem k_l19_few (N : Nat) : ConOk E ⟨24, ps_l19_few, rs_l19_few, l19_few N⟩ := conOf envOk (x_l19_few N) trivial (show E.P.funcs[24]? = some Tryz.f24 from by kernel_rfl) (by kernel_rfl)
theorem k_r08_Repertoire (N : Nat) : ConOk E ⟨186, ps_r08_Repertoire, rs_r08_Repertoire, r08_Repertoire N⟩ := conOf envOk (x_r08_Repertoire N) trivial (show E.P.funcs[186]? = some Tryz.f186 from by kernel_rfl) (by kernel_rfl)
theorem k_r08_Index (N : Nat) : ConOk E ⟨150, ps_r08_Index, rs_r08_Index, r08_Index N⟩ := conOf envOk (x_r08_Index N) ⟨k_r08_Repertoire N, trivial⟩ (show E.P.funcs[150]? = some Tryz.f150 from by kernel_rfl) (by kernel_rfl)
theorem k_r08_Valid (N : Nat) : ConOk E ⟨94, ps_r08_Valid, rs_r08_Valid, r08_Valid N⟩ := conOf envOk (x_r08_Valid N) ⟨k_r08_Index N, trivial⟩ (show E.P.funcs[94]? = some Tryz.f94 from by kernel_rfl) (by kernel_rfl)
theorem k_r07_digit (N : Nat) : ConOk E ⟨198, ps_r07_digit, rs_r07_digit, r07_digit N⟩ := conOf envOk (x_r07_digit N) trivial (show E.P.funcs[198]? = some Tryz.f198 from by kernel_rfl) (by kernel_rfl)
theorem k_r07_Name (N : Nat) : ConOk E ⟨162, ps_r07_Name, rs_r07_Name, r07_Name N⟩ := conOf envOk (x_r07_Name N) ⟨k_r07_digit N, trivial⟩ (show E.P.funcs[162]? = some Tryz.f162 from by kernel_rfl) (by kernel_rfl)
theorem k_r02_Valid (N : Nat) : ConOk E ⟨66, ps_r02_Valid, rs_r02_Valid, r02_Valid N⟩ := conOf envOk (x_r02_Valid N) trivial (show E.P.funcs[66]? = some Tryz.f66 from by kernel_rfl) (by kernel_rfl)
theorem k_r02_CanDrop (N : Nat) : ConOk E ⟨67, ps_r02_CanDrop, rs_r02_CanDrop, r02_CanDrop N⟩ := conOf envOk (x_r02_CanDrop N) trivial (show E.P.funcs[67]? = some Tryz.f67 from by kernel_rfl) (by kernel_rfl)
theorem k_r12_checkHead (N : Nat) : ConOk E ⟨129, ps_r12_checkHead, rs_r12_checkHead, r12_checkHead N⟩ := conOf envOk (x_r12_checkHead N) ⟨k_r08_Valid N, k_r07_Name N, k_r02_Valid N, k_r02_CanDrop N, trivial⟩ (show E.P.funcs[129]? = some Tryz.f129 from by kernel_rfl) (by kernel_rfl)
theorem k_r10_Check (N : Nat) : ConOk E ⟨176, ps_r10_Check, rs_r10_Check, r10_Check N⟩ := conOf envOk (x_r10_Check N) ⟨k_r07_Name N, trivial⟩ (show E.P.funcs[176]? = some Tryz.f176 from by kernel_rfl) (by kernel_rfl)
theorem k_r10_CheckList (N : Nat) : ConOk E ⟨130, ps_r10_CheckList, rs_r10_CheckList, r10_CheckList N⟩ := conOf envOk (x_r10_CheckList N) ⟨k_r10_Check N, trivial⟩ (show E.P.funcs[130]? = some Tryz.f130 from by kernel_rfl) (by kernel_rfl)
theorem k_r11_spanned (N : Nat) : ConOk E ⟨160, ps_r11_spanned, rs_r11_spanned, r11_spanned N⟩ := conOf envOk (x_r11_spanned N) trivial (show E.P.funcs[160]? = some Tryz.f160 from by kernel_rfl) (by kernel_rfl)
theorem k_r10_Default (N : Nat) : ConOk E ⟨197, ps_r10_Default, rs_r10_Default, r10_Default N⟩ := conOf envOk (x_r10_Default N) trivial (show E.P.funcs[197]? = some Tryz.f197 from by kernel_rfl) (by kernel_rfl)
theorem k_r10_Find (N : Nat) : ConOk E ⟨161, ps_r10_Find, rs_r10_Find, r10_Find N⟩ := conOf envOk (x_r10_Find N) ⟨k_r10_Default N, trivial⟩ (show E.P.funcs[161]? = some Tryz.f161 from by kernel_rfl) (by kernel_rfl)
theorem k_r09_Valid (N : Nat) : ConOk E ⟨95, ps_r09_Valid, rs_r09_Valid, r09_Valid N⟩ := conOf envOk (x_r09_Valid N) trivial (show E.P.funcs[95]? = some Tryz.f95 from by kernel_rfl) (by kernel_rfl)
theorem k_r09_Check (N : Nat) : ConOk E ⟨51, ps_r09_Check, rs_r09_Check, r09_Check N⟩ := conOf envOk (x_r09_Check N) ⟨k_r08_Valid N, k_r09_Valid N, trivial⟩ (show E.P.funcs[51]? = some Tryz.f51 from by kernel_rfl) (by kernel_rfl)
theorem k_r09_Plain (N : Nat) : ConOk E ⟨164, ps_r09_Plain, rs_r09_Plain, r09_Plain N⟩ := conOf envOk (x_r09_Plain N) trivial (show E.P.funcs[164]? = some Tryz.f164 from by kernel_rfl) (by kernel_rfl)
theorem k_r11_neat (N : Nat) : ConOk E ⟨163, ps_r11_neat, rs_r11_neat, r11_neat N⟩ := conOf envOk (x_r11_neat N) trivial (show E.P.funcs[163]? = some Tryz.f163 from by kernel_rfl) (by kernel_rfl)
theorem k_r08_runes (N : Nat) : ConOk E ⟨210, ps_r08_runes, rs_r08_runes, r08_runes N⟩ := conOf envOk (x_r08_runes N) trivial (show E.P.funcs[210]? = some Tryz.f210 from by kernel_rfl) (by kernel_rfl)
theorem k_r08_Len (N : Nat) : ConOk E ⟨199, ps_r08_Len, rs_r08_Len, r08_Len N⟩ := conOf envOk (x_r08_Len N) ⟨k_r08_Valid N, k_r08_runes N, trivial⟩ (show E.P.funcs[199]? = some Tryz.f199 from by kernel_rfl) (by kernel_rfl)
theorem k_r09_Len (N : Nat) : ConOk E ⟨165, ps_r09_Len, rs_r09_Len, r09_Len N⟩ := conOf envOk (x_r09_Len N) ⟨k_r08_Len N, trivial⟩ (show E.P.funcs[165]? = some Tryz.f165 from by kernel_rfl) (by kernel_rfl)
theorem k_r10_usable (N : Nat) : ConOk E ⟨200, ps_r10_usable, rs_r10_usable, r10_usable N⟩ := conOf envOk (x_r10_usable N) ⟨k_r10_Check N, k_r10_Default N, trivial⟩ (show E.P.funcs[200]? = some Tryz.f200 from by kernel_rfl) (by kernel_rfl)
theorem k_r10_Place (N : Nat) : ConOk E ⟨166, ps_r10_Place, rs_r10_Place, r10_Place N⟩ := conOf envOk (x_r10_Place N) ⟨k_r10_usable N, trivial⟩ (show E.P.funcs[166]? = some Tryz.f166 from by kernel_rfl) (by kernel_rfl)
theorem k_r11_Check (N : Nat) : ConOk E ⟨115, ps_r11_Check, rs_r11_Check, r11_Check N⟩ := conOf envOk (x_r11_Check N) ⟨k_r11_spanned N, k_r10_Find N, k_r07_Name N, k_r09_Check N, k_r09_Plain N, k_r11_neat N, k_r09_Len N, k_r10_Place N, trivial⟩ (show E.P.funcs[115]? = some Tryz.f115 from by kernel_rfl) (by kernel_rfl)
theorem k_r11_Less (N : Nat) : ConOk E ⟨116, ps_r11_Less, rs_r11_Less, r11_Less N⟩ := conOf envOk (x_r11_Less N) trivial (show E.P.funcs[116]? = some Tryz.f116 from by kernel_rfl) (by kernel_rfl)
theorem k_r12_Find (N : Nat) : ConOk E ⟨131, ps_r12_Find, rs_r12_Find, r12_Find N⟩ := conOf envOk (x_r12_Find N) trivial (show E.P.funcs[131]? = some Tryz.f131 from by kernel_rfl) (by kernel_rfl)
theorem k_r11_Len (N : Nat) : ConOk E ⟨177, ps_r11_Len, rs_r11_Len, r11_Len N⟩ := conOf envOk (x_r11_Len N) ⟨k_r09_Len N, trivial⟩ (show E.P.funcs[177]? = some Tryz.f177 from by kernel_rfl) (by kernel_rfl)
theorem k_r12_checkComment (N : Nat) : ConOk E ⟨132, ps_r12_checkComment, rs_r12_checkComment, r12_checkComment N⟩ := conOf envOk (x_r12_checkComment N) ⟨k_r12_Find N, k_r11_Len N, k_r07_Name N, k_r08_Valid N, trivial⟩ (show E.P.funcs[132]? = some Tryz.f132 from by kernel_rfl) (by kernel_rfl)
theorem k_r12_Check (N : Nat) : ConOk E ⟨81, ps_r12_Check, rs_r12_Check, r12_Check N⟩ := conOf envOk (x_r12_Check N) ⟨k_r12_checkHead N, k_r10_CheckList N, k_r11_Check N, k_r11_Less N, k_r12_Find N, k_r12_checkComment N, trivial⟩ (show E.P.funcs[81]? = some Tryz.f81 from by kernel_rfl) (by kernel_rfl)
theorem k_r02_Ticks (N : Nat) : ConOk E ⟨189, ps_r02_Ticks, rs_r02_Ticks, r02_Ticks N⟩ := conOf envOk (x_r02_Ticks N) ⟨k_r02_Valid N, trivial⟩ (show E.P.funcs[189]? = some Tryz.f189 from by kernel_rfl) (by kernel_rfl)
theorem k_r02_Time (N : Nat) : ConOk E ⟨152, ps_r02_Time, rs_r02_Time, r02_Time N⟩ := conOf envOk (x_r02_Time N) ⟨k_r02_Valid N, k_r02_Ticks N, trivial⟩ (show E.P.funcs[152]? = some Tryz.f152 from by kernel_rfl) (by kernel_rfl)
theorem k_r01_Mode (N : Nat) : ConOk E ⟨190, ps_r01_Mode, rs_r01_Mode, r01_Mode N⟩ := conOf envOk (x_r01_Mode N) trivial (show E.P.funcs[190]? = some Tryz.f190 from by kernel_rfl) (by kernel_rfl)
theorem k_r01_negative (N : Nat) : ConOk E ⟨191, ps_r01_negative, rs_r01_negative, r01_negative N⟩ := conOf envOk (x_r01_negative N) trivial (show E.P.funcs[191]? = some Tryz.f191 from by kernel_rfl) (by kernel_rfl)
theorem k_r01_Quotient (N : Nat) : ConOk E ⟨153, ps_r01_Quotient, rs_r01_Quotient, r01_Quotient N⟩ := conOf envOk (x_r01_Quotient N) ⟨k_r01_Mode N, k_r01_negative N, trivial⟩ (show E.P.funcs[153]? = some Tryz.f153 from by kernel_rfl) (by kernel_rfl)
theorem k_r02_Millis (N : Nat) : ConOk E ⟨100, ps_r02_Millis, rs_r02_Millis, r02_Millis N⟩ := conOf envOk (x_r02_Millis N) ⟨k_r02_Time N, k_r01_Quotient N, trivial⟩ (show E.P.funcs[100]? = some Tryz.f100 from by kernel_rfl) (by kernel_rfl)
theorem kr_r19_digits (N : Nat) : ∀ D, ConOk E ⟨42, ps_r19_digits, rs_r19_digits, r19_digits_r N D⟩
  | 0 => fun _ _ h => by cases h
  | D + 1 => by
    have hc : CallsOk E [⟨42, ps_r19_digits, rs_r19_digits, r19_digits_r N D⟩] := callsOk_all ⟨kr_r19_digits N D, trivial⟩
    rw [← x_r19_digits N D]
    exact execF_ok envOk hc (drawn_ok envOk hc) (show E.P.funcs[42]? = some Tryz.f42 from by kernel_rfl) (by kernel_rfl) _ _ _
theorem k_r19_digits (N : Nat) : ConOk E ⟨42, ps_r19_digits, rs_r19_digits, r19_digits N⟩ := kr_r19_digits N N
theorem k_r19_Clock (N : Nat) : ConOk E ⟨15, ps_r19_Clock, rs_r19_Clock, r19_Clock N⟩ := conOf envOk (x_r19_Clock N) ⟨k_r19_digits N, trivial⟩ (show E.P.funcs[15]? = some Tryz.f15 from by kernel_rfl) (by kernel_rfl)
theorem k_r07_Decimal (N : Nat) : ConOk E ⟨101, ps_r07_Decimal, rs_r07_Decimal, r07_Decimal N⟩ := conOf envOk (x_r07_Decimal N) trivial (show E.P.funcs[101]? = some Tryz.f101 from by kernel_rfl) (by kernel_rfl)
theorem k_r09_Norm (N : Nat) : ConOk E ⟨57, ps_r09_Norm, rs_r09_Norm, r09_Norm N⟩ := conOf envOk (x_r09_Norm N) trivial (show E.P.funcs[57]? = some Tryz.f57 from by kernel_rfl) (by kernel_rfl)
theorem k_r19_carried (N : Nat) : ConOk E ⟨52, ps_r19_carried, rs_r19_carried, r19_carried N⟩ := conOf envOk (x_r19_carried N) ⟨k_r09_Norm N, trivial⟩ (show E.P.funcs[52]? = some Tryz.f52 from by kernel_rfl) (by kernel_rfl)
theorem k_r19_Markup (N : Nat) : ConOk E ⟨19, ps_r19_Markup, rs_r19_Markup, r19_Markup N⟩ := conOf envOk (x_r19_Markup N) ⟨k_r09_Check N, k_r19_carried N, trivial⟩ (show E.P.funcs[19]? = some Tryz.f19 from by kernel_rfl) (by kernel_rfl)
theorem k_r19_file (N : Nat) : ConOk E ⟨60, ps_r19_file, rs_r19_file, r19_file N⟩ := conOf envOk (x_r19_file N) ⟨k_r02_Millis N, k_r19_Clock N, k_r07_Decimal N, k_r19_Markup N, trivial⟩ (show E.P.funcs[60]? = some Tryz.f60 from by kernel_rfl) (by kernel_rfl)
theorem k_r19_Accept (N : Nat) : ConOk E ⟨35, ps_r19_Accept, rs_r19_Accept, r19_Accept N⟩ := conOf envOk (x_r19_Accept N) ⟨k_r12_Check N, k_r19_file N, trivial⟩ (show E.P.funcs[35]? = some Tryz.f35 from by kernel_rfl) (by kernel_rfl)
theorem k_r19_Encode (N : Nat) : ConOk E ⟨26, ps_r19_Encode, rs_r19_Encode, r19_Encode N⟩ := conOf envOk (x_r19_Encode N) ⟨k_r19_Accept N, k_r19_file N, trivial⟩ (show E.P.funcs[26]? = some Tryz.f26 from by kernel_rfl) (by kernel_rfl)
theorem k_l19_SubripEncodes (N : Nat) : ConOk E ⟨6, ps_l19_SubripEncodes, rs_l19_SubripEncodes, l19_SubripEncodes N⟩ := conOf envOk (x_l19_SubripEncodes N) ⟨k_l19_awake N, k_l19_few N, k_subrip_Encode N, k_r19_Encode N, trivial⟩ (show E.P.funcs[6]? = some Tryz.f6 from by kernel_rfl) (by kernel_rfl)
end
end Go.Mo
end

section
/-
  Plain facts of earlier chapters, put together by a program.
-/
set_option linter.all false
section
/-
  Plain facts on the words of models; what is made of bytes.
-/
namespace Go.Mo
open Go Go.W

theorem grd_t {α : Type} {b : Bool} {k : Option α} (h : b = true) : grd b k = k := by subst h; rfl
theorem cnd_t {α : Type} {b : Bool} {x y : Option α} (h : b = true) : cnd b x y = x := by subst h; rfl
theorem cnd_f {α : Type} {b : Bool} {x y : Option α} (h : b = false) : cnd b x y = y := by subst h; rfl
theorem bnd_s {α β : Type} {x : Option α} {a : α} {k : α → Option β} (h : x = some a) : bnd x k = k a := by subst h; rfl
theorem jn_e {F α : Type} {k : F} {t : F → Option α} : jn k t = t k := rfl
theorem fixN_s {V R : Type} {F : (V → Option R) → V → Option R} {n : Nat} {v : V} : fixN F (n + 1) v = F (fixN F n) v := rfl
theorem w64_id {x : Int} (h : -9223372036854775808 ≤ x ∧ x ≤ 9223372036854775807) : w64 x = x := by
  show IntKind.wrap .i64 x = x
  unfold IntKind.wrap
  simp only [IntKind.bits, IntKind.signed, Bool.true_and, decide_eq_true_eq, show (2 : Int) ^ 64 = 18446744073709551616 from rfl, show (2 : Int) ^ (64 - 1) = 9223372036854775808 from rfl]
  split <;> omega
theorem ilt_t {a b : Int} (h : a < b) : ilt a b = true := decide_eq_true h
theorem ilt_f {a b : Int} (h : ¬ a < b) : ilt a b = false := decide_eq_false h
theorem ile_t {a b : Int} (h : a ≤ b) : ile a b = true := decide_eq_true h
theorem ile_f {a b : Int} (h : ¬ a ≤ b) : ile a b = false := decide_eq_false h
theorem ieq_t {a b : Int} (h : a = b) : ieq a b = true := by subst h; simp [ieq]
theorem ieq_f {a b : Int} (h : a ≠ b) : ieq a b = false := by simp [ieq, h]
theorem ine_t {a b : Int} (h : a ≠ b) : ine a b = true := by simp [ine, h]
theorem ine_f {a b : Int} (h : a = b) : ine a b = false := by simp [ine, h]
theorem inb_t {i n : Int} (h : 0 ≤ i ∧ i < n) : inb i n = true := decide_eq_true h
theorem in2_t {i n : Int} (h : 0 ≤ i ∧ i ≤ n) : in2 i n = true := decide_eq_true h
theorem room_t {n : Int} {b : Nat} (h : n * b ≤ 140737488355328) : room n b = true := decide_eq_true h
theorem n8_inj {a b : UInt8} (h : n8 a = n8 b) : a = b := by
  unfold n8 at h
  apply UInt8.toNat_inj.1
  omega
end Go.Mo
end

section
/-
  Plain facts: rates, labels, the repertoire of characters.
-/
namespace Go.Mo
open Go Go.W
set_option maxRecDepth 100000

theorem all_u8 {P : UInt8 → Bool} (h : ((List.range 256).all fun n => P (UInt8.ofNat n)) = true) (x : UInt8) : P x = true := by
  have h1 : x.toNat < 256 := x.toNat_lt
  have := List.all_eq_true.1 h x.toNat (List.mem_range.2 h1)
  simpa using this
end Go.Mo
end

section
/-
  Plain facts: the repertoire of characters.
-/
namespace Go.Mo
open Go Go.W
set_option maxRecDepth 100000
/-- some number: the kernel does not know which -/
noncomputable def fuelM : Nat := Classical.choose (⟨7995000, rfl⟩ : ∃ n : Nat, n = 7995000)
noncomputable def fuelH : Nat := fuelM + 5000
theorem fuelH_eq : fuelH = 8000000 := by
  have h : fuelM = 7995000 := Classical.choose_spec (⟨7995000, rfl⟩ : ∃ n : Nat, n = 7995000)
  unfold fuelH
  rw [h]
/-- the characters behind ASCII -/
def hiRunes : List Int := [161, 162, 163, 164, 165, 166, 167, 169, 171, 174, 176, 183, 187, 189, 191, 192, 193, 194, 195, 196, 197, 198, 199, 200, 201, 202, 203, 204, 205, 206, 207, 209, 210, 211, 212, 213, 214, 216, 217, 218, 219, 220, 223, 224, 225, 226, 227, 228, 229, 230, 231, 232, 233, 234, 235, 236, 237, 238, 239, 241, 242, 243, 244, 245, 246, 248, 249, 250, 251, 252, 338, 339, 8212, 8216, 8217, 8220, 8221, 8226, 8230, 8482, 9834]
def loRunes : List Int := (List.range 95).map fun n => ((n + 32 : Nat) : Int)
def chain : List Int → Int → Int → Option Int
  | [], _, _ => some (-1)
  | c :: l, i, r => cnd (ieq c r) (some i) (chain l (iadd i 1) r)
def rep : List UInt8 := [32, 33, 34, 35, 36, 37, 38, 39, 40, 41, 42, 43, 44, 45, 46, 47, 48, 49, 50, 51, 52, 53, 54, 55, 56, 57, 58, 59, 60, 61, 62, 63, 64, 65, 66, 67, 68, 69, 70, 71, 72, 73, 74, 75, 76, 77, 78, 79, 80, 81, 82, 83, 84, 85, 86, 87, 88, 89, 90, 91, 92, 93, 94, 95, 96, 97, 98, 99, 100, 101, 102, 103, 104, 105, 106, 107, 108, 109, 110, 111, 112, 113, 114, 115, 116, 117, 118, 119, 120, 121, 122, 123, 124, 125, 126, 194, 161, 194, 162, 194, 163, 194, 164, 194, 165, 194, 166, 194, 167, 194, 169, 194, 171, 194, 174, 194, 176, 194, 183, 194, 187, 194, 189, 194, 191, 195, 128, 195, 129, 195, 130, 195, 131, 195, 132, 195, 133, 195, 134, 195, 135, 195, 136, 195, 137, 195, 138, 195, 139, 195, 140, 195, 141, 195, 142, 195, 143, 195, 145, 195, 146, 195, 147, 195, 148, 195, 149, 195, 150, 195, 152, 195, 153, 195, 154, 195, 155, 195, 156, 195, 159, 195, 160, 195, 161, 195, 162, 195, 163, 195, 164, 195, 165, 195, 166, 195, 167, 195, 168, 195, 169, 195, 170, 195, 171, 195, 172, 195, 173, 195, 174, 195, 175, 195, 177, 195, 178, 195, 179, 195, 180, 195, 181, 195, 182, 195, 184, 195, 185, 195, 186, 195, 187, 195, 188, 197, 146, 197, 147, 226, 128, 148, 226, 128, 152, 226, 128, 153, 226, 128, 156, 226, 128, 157, 226, 128, 162, 226, 128, 166, 226, 132, 162, 226, 153, 170]
theorem place_eqN (N : Nat) (r : Int) : charset_place (N + 300) (rep, r) = chain (loRunes ++ hiRunes) 0 r := by kernel_rfl
theorem place_eq (r : Int) : charset_place fuelH (rep, r) = chain (loRunes ++ hiRunes) 0 r := place_eqN (fuelM + 4700) r
theorem r08_indexN (N : Nat) (r : Int) : r08_Index N r = cnd (ile 32 r) (cnd (ile r 126) (some (w64 (wr .i32 (isub r 32)))) (charset_place N (rep, r))) (charset_place N (rep, r)) := by kernel_rfl
theorem r08_index (r : Int) : r08_Index fuelH r = cnd (ile 32 r) (cnd (ile r 126) (some (w64 (wr .i32 (isub r 32)))) (charset_place fuelH (rep, r))) (charset_place fuelH (rep, r)) := r08_indexN fuelH r
theorem ch_indexN (N : Nat) (r : Int) : charset_Index N r = cnd (ile 32 r) (cnd (ile r 126) (some (w64 (wr .i32 (isub r 32)))) (bnd (charset_place N (rep, r)) fun v => some v)) (bnd (charset_place N (rep, r)) fun v => some v) := by kernel_rfl
theorem ch_index (r : Int) : charset_Index fuelH r = cnd (ile 32 r) (cnd (ile r 126) (some (w64 (wr .i32 (isub r 32)))) (bnd (charset_place fuelH (rep, r)) fun v => some v)) (bnd (charset_place fuelH (rep, r)) fun v => some v) := ch_indexN fuelH r
theorem chain_ok : ∀ (l : List Int) (i r : Int), 0 ≤ i → ∃ k, chain l i r = some k ∧ (k < 0 ↔ l.contains r = false)
  | [], i, r, _ => ⟨-1, rfl, by simp⟩
  | c :: l, i, r, h => by
    by_cases hc : c = r
    · exact ⟨i, by simp only [chain]; rw [cnd_t (ieq_t hc)], by subst hc; simp; omega⟩
    · obtain ⟨k, h1, h2⟩ := chain_ok l (iadd i 1) r (by show 0 ≤ i + 1; omega)
      refine ⟨k, by simp only [chain]; rw [cnd_f (ieq_f hc)]; exact h1, ?_⟩
      rw [h2]
      simp only [List.contains_cons, Bool.or_eq_false_iff]
      exact ⟨fun h => ⟨by simpa using fun e => hc e.symm, h⟩, fun h => h.2⟩
def inRep (r : Int) : Bool := (decide (32 ≤ r) && decide (r ≤ 126)) || hiRunes.contains r
theorem wi32_id {x : Int} (h : 0 ≤ x ∧ x < 1000) : wr .i32 x = x := by
  show IntKind.wrap .i32 x = x
  unfold IntKind.wrap
  simp only [IntKind.bits, IntKind.signed, Bool.true_and, decide_eq_true_eq, show (2 : Int) ^ 32 = 4294967296 from rfl, show (2 : Int) ^ (32 - 1) = 2147483648 from rfl]
  split <;> omega
theorem lo_mem (r : Int) : loRunes.contains r = (decide (32 ≤ r) && decide (r ≤ 126)) := by
  rw [Bool.eq_iff_iff]
  simp only [loRunes, List.contains_iff_mem, List.mem_map, List.mem_range, Bool.and_eq_true, decide_eq_true_eq]
  constructor
  · rintro ⟨n, hn, rfl⟩; omega
  · intro h; exact ⟨(r - 32).toNat, by omega, by omega⟩
theorem index_some (r : Int) : ∃ i, charset_Index fuelH r = some i ∧ r08_Index fuelH r = some i ∧ (i < 0 ↔ inRep r = false) := by
  rw [ch_index, r08_index, place_eq]
  obtain ⟨k, h1, h2⟩ := chain_ok (loRunes ++ hiRunes) 0 r (Int.le_refl _)
  have hin : (loRunes ++ hiRunes).contains r = inRep r := by
    unfold inRep
    rw [← lo_mem]
    simp [List.contains_eq_mem, List.mem_append]
  rw [hin] at h2
  by_cases ha : 32 ≤ r
  · rw [cnd_t (ile_t ha), cnd_t (ile_t ha)]
    by_cases hb : r ≤ 126
    · rw [cnd_t (ile_t hb), cnd_t (ile_t hb)]
      refine ⟨_, rfl, rfl, ?_⟩
      have : w64 (wr .i32 (isub r 32)) = r - 32 := by
        simp only [isub]
        rw [wi32_id (by omega), w64_id (by omega)]
      rw [this]
      simp [inRep, ha, hb]
    · rw [cnd_f (ile_f hb), cnd_f (ile_f hb)]
      exact ⟨k, by rw [bnd_s h1], h1, h2⟩
  · rw [cnd_f (ile_f ha), cnd_f (ile_f ha)]
    exact ⟨k, by rw [bnd_s h1], h1, h2⟩
theorem index_stl (r : Int) : ∃ i, charset_Index fuelH r = some i ∧ (i < 0 ↔ inRep r = false) := by
  rw [ch_index, place_eq]
  obtain ⟨k, h1, h2⟩ := chain_ok (loRunes ++ hiRunes) 0 r (Int.le_refl _)
  have hin : (loRunes ++ hiRunes).contains r = inRep r := by
    unfold inRep
    rw [← lo_mem]
    simp [List.contains_eq_mem, List.mem_append]
  rw [hin] at h2
  by_cases ha : 32 ≤ r
  · rw [cnd_t (ile_t ha)]
    by_cases hb : r ≤ 126
    · rw [cnd_t (ile_t hb)]
      refine ⟨_, rfl, ?_⟩
      have : w64 (wr .i32 (isub r 32)) = r - 32 := by
        simp only [isub]
        rw [wi32_id (by omega), w64_id (by omega)]
      rw [this]
      simp [inRep, ha, hb]
    · rw [cnd_f (ile_f hb)]
      exact ⟨k, by rw [bnd_s h1], h2⟩
  · rw [cnd_f (ile_f ha)]
    exact ⟨k, by rw [bnd_s h1], h2⟩
end Go.Mo
end

section
/-
  Plain facts: texts of the repertoire.
-/
namespace Go.Mo
open Go Go.W Go.Lib
set_option maxRecDepth 100000

theorem dec_pos (l : List UInt8) : 1 ≤ (decodeL l).2 := by
  unfold decodeL Utf8.decode
  simp only
  repeat' split
  all_goals first | exact Nat.le_refl _ | (show 1 ≤ _; omega)
theorem decR_eq (s : List UInt8) (p : Nat) : decR s p = ((decodeL (s.drop p)).1 : Int) := by
  have := decodeL_drop (bst s) p
  have e : (bst s).data.toList = s := rfl
  rw [e] at this
  unfold decR
  rw [this]
theorem decW_eq (s : List UInt8) (p : Nat) : decW s p = (decodeL (s.drop p)).2 := by
  have := decodeL_drop (bst s) p
  have e : (bst s).data.toList = s := rfl
  rw [e] at this
  unfold decW
  rw [this]

def rok : Nat → List UInt8 → Bool
  | 0, _ => true
  | n + 1, l => if l = [] then true else if inRep ((decodeL l).1 : Int) = true then rok n (l.drop (decodeL l).2) else false
/-- characters of the repertoire alone -/
def vld (l : List UInt8) : Bool := rok l.length l
theorem rok_nil : ∀ n, rok n [] = true
  | 0 => rfl
  | n + 1 => by simp [rok]
theorem rok_fuel : ∀ (n m : Nat) (l : List UInt8), l.length ≤ n → l.length ≤ m → rok n l = rok m l
  | 0, m, l, h, _ => by
    have : l = [] := List.eq_nil_of_length_eq_zero (by omega)
    subst this
    rw [rok_nil, rok_nil]
  | n + 1, 0, l, _, h => by
    have : l = [] := List.eq_nil_of_length_eq_zero (by omega)
    subst this
    rw [rok_nil, rok_nil]
  | n + 1, m + 1, l, h1, h2 => by
    by_cases hl : l = []
    · subst hl; rw [rok_nil, rok_nil]
    · have hp := dec_pos l
      have hlen : 0 < l.length := List.length_pos_iff.2 hl
      simp only [rok, hl, if_false]
      split
      · exact rok_fuel n m _ (by simp; omega) (by simp; omega)
      · rfl
theorem vld_step (l : List UInt8) (hl : l ≠ []) : vld l = if inRep ((decodeL l).1 : Int) = true then vld (l.drop (decodeL l).2) else false := by
  have hp := dec_pos l
  have hlen : 0 < l.length := List.length_pos_iff.2 hl
  unfold vld
  obtain ⟨n, hn⟩ : ∃ n, l.length = n + 1 := ⟨l.length - 1, by omega⟩
  rw [hn]
  simp only [rok, hl, if_false]
  split
  · exact rok_fuel _ _ _ (by simp; omega) (Nat.le_refl _)
  · rfl
theorem vld_valid : ∀ (n : Nat) (l : List UInt8), l.length ≤ n → vld l = true → validD l = true
  | n, l, h, hv => by
    by_cases hl : l = []
    · subst hl; rfl
    · have hlen : 0 < l.length := List.length_pos_iff.2 hl
      have hp := dec_pos l
      rw [vld_step l hl] at hv
      split at hv
      · rename_i hr
        rw [validD_step l hl, if_neg ?_]
        · cases n with
          | zero => omega
          | succ n => exact vld_valid n _ (by simp; omega) hv
        · rintro ⟨e, _⟩
          rw [e] at hr
          exact absurd hr (by decide)
      · cases hv

theorem valid_loop {s : List UInt8} (hs : s.length ≤ 100000000) (Ix : Int → Option Int) (hI : ∀ r : Int, ∃ i, Ix r = some i ∧ (i < 0 ↔ inRep r = false)) : ∀ (fuel p : Nat), s.length - p < fuel → p ≤ s.length →
    fixN (fun v2 (v3 : (List UInt8) × Int) =>
    cnd (nlt (toN v3.2) (nlen v3.1))
      (bnd (Ix (decR v3.1 (toN v3.2))) fun v4 =>
      cnd (ilt v4 (0 : Int))
        (some false)
        (v2 (v3.1, ofN (nadd (toN v3.2) (decW v3.1 (toN v3.2))))))
      (some true)) fuel (s, ofN p) = some (vld (s.drop p))
  | 0, p, h, _ => by omega
  | fuel + 1, p, h, hp => by
    rw [fixN_s]
    have et : toN (ofN p) = p := by simp [toN, ofN]
    simp only [et]
    by_cases hl : p < s.length
    · have hne : s.drop p ≠ [] := by intro e; have := congrArg List.length e; simp at this; omega
      have hw := dec_pos (s.drop p)
      have hle := decodeL_le (s.drop p) hne
      rw [List.length_drop] at hle
      rw [cnd_t (show nlt p (nlen s) = true from decide_eq_true hl)]
      obtain ⟨i, h1, h2⟩ := hI (decR s p)
      rw [bnd_s h1]
      rw [vld_step _ hne, ← decR_eq]
      by_cases hi : i < 0
      · rw [cnd_t (ilt_t hi), if_neg (by rw [h2.1 hi]; decide)]
      · rw [cnd_f (ilt_f hi)]
        have hin : inRep (decR s p) = true := by
          cases hq : inRep (decR s p) with
          | true => rfl
          | false => exact absurd (h2.2 hq) hi
        rw [if_pos hin, decW_eq, List.drop_drop]
        show fixN _ fuel (s, ofN (p + (decodeL (s.drop p)).2)) = _
        exact valid_loop hs Ix hI fuel _ (by omega) (by omega)
    · rw [cnd_f (show nlt p (nlen s) = false from decide_eq_false hl)]
      have : s.drop p = [] := by simp; omega
      rw [this]
      rfl
theorem r08_valid (s : List UInt8) (hs : s.length ≤ 4000000) : r08_Valid fuelH s = some (vld s) := by
  unfold r08_Valid
  simp only [jn_e]
  have := valid_loop (s := s) (by omega) (r08_Index fuelH) (fun r => by obtain ⟨i, _, h2, h3⟩ := index_some r; exact ⟨i, h2, h3⟩) fuelH 0 (by have := fuelH_eq; omega) (Nat.zero_le _)
  simpa using this
theorem ch_valid (s : List UInt8) (hs : s.length ≤ 4000000) : charset_Valid fuelH s = some (vld s) := by
  unfold charset_Valid
  have hv : utf8_ValidString fuelH s = some (validD s) := by
    show grd (catOk (len s)) (some (validD s)) = _
    exact grd_t (decide_eq_true (by simp only [len]; omega))
  rw [bnd_s hv]
  simp only [jn_e]
  cases hd : validD s with
  | false =>
    rw [cnd_t (show bnot false = true from rfl)]
    cases hq : vld s with
    | false => rfl
    | true => rw [vld_valid _ s (Nat.le_refl _) hq] at hd; cases hd
  | true =>
    rw [cnd_f (show bnot true = false from rfl)]
    have := valid_loop (s := s) (by omega) (charset_Index fuelH) (fun r => by obtain ⟨i, h2, h3⟩ := index_stl r; exact ⟨i, h2, h3⟩) fuelH 0 (by have := fuelH_eq; omega) (Nat.zero_le _)
    simpa using this
end Go.Mo
end

section
/-
  Plain facts: names; the check of a header.
-/
namespace Go.Mo
open Go Go.W Go.Lib
set_option maxRecDepth 100000

theorem cnd_dec {α : Type} {p : Prop} [Decidable p] {x y : Option α} : cnd (decide p) x y = if p then x else y := by
  by_cases h : p
  · rw [cnd_t (decide_eq_true h), if_pos h]
  · rw [cnd_f (decide_eq_false h), if_neg h]
theorem cnd_ilt {α : Type} {a b : Int} {x y : Option α} : cnd (ilt a b) x y = if a < b then x else y := cnd_dec
theorem cnd_ile {α : Type} {a b : Int} {x y : Option α} : cnd (ile a b) x y = if a ≤ b then x else y := cnd_dec
theorem cnd_ieq {α : Type} {a b : Int} {x y : Option α} : cnd (ieq a b) x y = if a = b then x else y := by
  by_cases h : a = b
  · rw [cnd_t (ieq_t h), if_pos h]
  · rw [cnd_f (ieq_f h), if_neg h]
theorem cnd_ine {α : Type} {a b : Int} {x y : Option α} : cnd (ine a b) x y = if a ≠ b then x else y := by
  by_cases h : a = b
  · rw [cnd_f (ine_f h), if_neg (by simp [h])]
  · rw [cnd_t (ine_t h), if_pos h]
/-- may stand in a name -/
def okc (c : Int) : Bool := decide ((65 ≤ c ∧ c ≤ 90) ∨ (48 ≤ c ∧ c ≤ 57) ∨ c = 95 ∨ c = 45)
theorem nm_body (c : Int) (X : Option Bool) :
    (cnd (ilt c (n8 (65 : UInt8)))
                    (cnd (ilt c (n8 (48 : UInt8)))
                      (cnd (ine c (n8 (95 : UInt8)))
                        (cnd (ine c (n8 (45 : UInt8)))
                          (some false)
                          X)
                        X)
                      (cnd (ilt (n8 (57 : UInt8)) c)
                        (cnd (ine c (n8 (95 : UInt8)))
                          (cnd (ine c (n8 (45 : UInt8)))
                            (some false)
                            X)
                          X)
                        X))
                    (cnd (ilt (n8 (90 : UInt8)) c)
                      (cnd (ilt c (n8 (48 : UInt8)))
                        (cnd (ine c (n8 (95 : UInt8)))
                          (cnd (ine c (n8 (45 : UInt8)))
                            (some false)
                            X)
                          X)
                        (cnd (ilt (n8 (57 : UInt8)) c)
                          (cnd (ine c (n8 (95 : UInt8)))
                            (cnd (ine c (n8 (45 : UInt8)))
                              (some false)
                              X)
                            X)
                          X))
                      X)) = cnd (okc c) X (some false) := by
  have e1 : n8 (65 : UInt8) = 65 := rfl
  have e2 : n8 (48 : UInt8) = 48 := rfl
  have e3 : n8 (95 : UInt8) = 95 := rfl
  have e4 : n8 (45 : UInt8) = 45 := rfl
  have e5 : n8 (57 : UInt8) = 57 := rfl
  have e6 : n8 (90 : UInt8) = 90 := rfl
  rw [e1, e2, e3, e4, e5, e6]
  simp only [cnd_ilt, cnd_ine, okc, cnd_dec]
  repeat' split
  all_goals first | rfl | (exfalso; omega)
def upc (c : Int) : Bool := decide (65 ≤ c ∧ c ≤ 90)
/-- a name -/
def nm (s : List UInt8) : Bool := decide (1 ≤ s.length ∧ s.length ≤ 16) && upc (n8 (s.getD 0 0)) && s.all fun c => okc (n8 c)
theorem all_step {s : List UInt8} {i : Nat} (h : i < s.length) (P : UInt8 → Bool) : (s.drop i).all P = (P s[i] && (s.drop (i + 1)).all P) := by
  rw [List.drop_eq_getElem_cons h, List.all_cons]
theorem nm_loop {s : List UInt8} (hs : s.length ≤ 16) : ∀ (fuel i : Nat), s.length - i < fuel → i ≤ s.length →
    fixN (fun v2 (v3 : Int) =>
                cnd (ilt v3 (len s))
                  (grd (inb v3 (len s)) (cnd (okc (n8 (lget s (toN v3) (0 : UInt8)))) (v2 (w64 (iadd v3 (1 : Int)))) (some false)))
                  (some true)) fuel (i : Int) = some ((s.drop i).all fun c => okc (n8 c))
  | 0, i, h, _ => by omega
  | fuel + 1, i, h, hi => by
    rw [fixN_s]
    by_cases hl : i < s.length
    · have g : lget s (toN (i : Int)) 0 = s[i] := by simp [lget, toN, hl]
      rw [cnd_t (ilt_t (by simp only [len]; omega)), grd_t (inb_t (by simp only [len]; omega)), g, all_step hl]
      have hw : w64 (iadd (i : Int) 1) = ((i + 1 : Nat) : Int) := by
        simp only [iadd]; rw [w64_id (by omega)]; omega
      rw [hw, nm_loop hs fuel (i + 1) (by omega) (by omega)]
      cases okc (n8 s[i]) <;> rfl
    · rw [cnd_f (ilt_f (by simp only [len]; omega))]
      have : s.drop i = [] := by simp; omega
      rw [this]
      rfl
theorem lines_name (s : List UInt8) : lines_Name fuelH s = some (nm s) := by
  unfold lines_Name
  simp only [jn_e, nm_body]
  by_cases h1 : s.length < 1
  · rw [cnd_t (ilt_t (by simp only [len]; omega))]
    simp [nm]; omega
  · rw [cnd_f (ilt_f (by simp only [len]; omega))]
    by_cases h2 : 16 < s.length
    · rw [cnd_t (ilt_t (by simp only [len]; omega))]
      simp [nm]; omega
    · rw [cnd_f (ilt_f (by simp only [len]; omega)), grd_t (inb_t (by simp only [len]; omega))]
      have e0 : lget s (toN 0) 0 = s.getD 0 0 := rfl
      have e1 : n8 (65 : UInt8) = 65 := rfl
      have e2 : n8 (90 : UInt8) = 90 := rfl
      rw [e0, e1, e2, cnd_ilt]
      have hd : decide (1 ≤ s.length ∧ s.length ≤ 16) = true := decide_eq_true (by omega)
      split
      · rename_i h3
        have : upc (n8 (s.getD 0 0)) = false := decide_eq_false (by omega)
        simp only [nm, this, Bool.and_false, Bool.false_and]
      · rw [grd_t (inb_t (by simp only [len]; omega)), cnd_ilt]
        split
        · rename_i h4
          have : upc (n8 (s.getD 0 0)) = false := decide_eq_false (by omega)
          simp only [nm, this, Bool.and_false, Bool.false_and]
        · have hu : upc (n8 (s.getD 0 0)) = true := decide_eq_true (by omega)
          have := nm_loop (s := s) (by omega) fuelH 0 (by have := fuelH_eq; omega) (Nat.zero_le _)
          simp only [nm, hu, hd, Bool.true_and]
          simpa using this
end Go.Mo
end

section
/-
  Plain facts: the check of a header.
-/
namespace Go.Mo
open Go Go.W Go.Lib
set_option maxRecDepth 100000
abbrev Lbl := Int × Int × Int × Int × Bool
abbrev Hdr := UInt8 × (List UInt8) × (List UInt8) × Int × Int × Lbl × Lbl × Int × Int
theorem cnd_bnot {α : Type} {p : Prop} [Decidable p] {x y : Option α} : cnd (bnot (decide p)) x y = if p then y else x := by
  by_cases hp : p <;> simp [hp, bnot, cnd]
theorem bnd_some' {α β : Type} {a : α} {k : α → Option β} : bnd (some a) k = k a := rfl
end Go.Mo
end

section
/-
  Plain facts: the characters of a text, and the text of characters.
-/
namespace Go.Mo
open Go Go.W Go.Lib
set_option maxRecDepth 100000

def rnsF : Nat → List UInt8 → List Int
  | 0, _ => []
  | n + 1, l => if l = [] then [] else ((decodeL l).1 : Int) :: rnsF n (l.drop (decodeL l).2)
/-- the characters of a text -/
def rns (l : List UInt8) : List Int := rnsF l.length l
/-- the text of characters -/
def ofR (l : List Int) : List UInt8 := l.flatMap enc
theorem rnsF_nil : ∀ n, rnsF n [] = []
  | 0 => rfl
  | n + 1 => by simp [rnsF]
theorem rnsF_fuel : ∀ (n m : Nat) (l : List UInt8), l.length ≤ n → l.length ≤ m → rnsF n l = rnsF m l
  | 0, m, l, h, _ => by
    have : l = [] := List.eq_nil_of_length_eq_zero (by omega)
    subst this
    rw [rnsF_nil, rnsF_nil]
  | n + 1, 0, l, _, h => by
    have : l = [] := List.eq_nil_of_length_eq_zero (by omega)
    subst this
    rw [rnsF_nil, rnsF_nil]
  | n + 1, m + 1, l, h1, h2 => by
    by_cases hl : l = []
    · subst hl; rw [rnsF_nil, rnsF_nil]
    · have hp := dec_pos l
      have hlen : 0 < l.length := List.length_pos_iff.2 hl
      simp only [rnsF, hl, if_false]
      rw [rnsF_fuel n m _ (by simp; omega) (by simp; omega)]
theorem rns_step (l : List UInt8) (hl : l ≠ []) : rns l = ((decodeL l).1 : Int) :: rns (l.drop (decodeL l).2) := by
  have hp := dec_pos l
  have hlen : 0 < l.length := List.length_pos_iff.2 hl
  unfold rns
  obtain ⟨n, hn⟩ : ∃ n, l.length = n + 1 := ⟨l.length - 1, by omega⟩
  rw [hn]
  simp only [rnsF, hl, if_false]
  rw [rnsF_fuel n _ _ (by simp; omega) (Nat.le_refl _)]
theorem rep_mem {r : Int} (h : inRep r = true) : r ∈ loRunes ++ hiRunes := by
  unfold inRep at h
  rw [← lo_mem, Bool.or_eq_true] at h
  rw [List.mem_append]
  rcases h with h | h
  · exact .inl (List.contains_iff_mem.1 h)
  · exact .inr (List.contains_iff_mem.1 h)
theorem all_rep {P : Int → Bool} (h : ((loRunes ++ hiRunes).all P) = true) {r : Int} (hr : inRep r = true) : P r = true :=
  List.all_eq_true.1 h r (rep_mem hr)
theorem enc_rep {r : Int} (hr : inRep r = true) : enc r = encodeRune r :=
  of_decide_eq_true (all_rep (P := fun r => decide (enc r = encodeRune r)) (by kernel_rfl) hr)
theorem enc_dec (l : List UInt8) (hl : l ≠ []) (hr : inRep ((decodeL l).1 : Int) = true) : enc ((decodeL l).1 : Int) = l.take (decodeL l).2 := by
  rw [enc_rep hr]
  refine encode_decode l hl ?_
  rintro ⟨e, _⟩
  rw [e] at hr
  exact absurd hr (by decide)
theorem rns_rep : ∀ (n : Nat) (l : List UInt8), l.length ≤ n → vld l = true → (rns l).all inRep = true ∧ ofR (rns l) = l
  | n, l, h, hv => by
    by_cases hl : l = []
    · subst hl; exact ⟨rfl, rfl⟩
    · have hlen : 0 < l.length := List.length_pos_iff.2 hl
      have hp := dec_pos l
      rw [vld_step l hl] at hv
      split at hv
      · rename_i hr
        cases n with
        | zero => omega
        | succ n =>
          obtain ⟨h1, h2⟩ := rns_rep n _ (by simp; omega) hv
          rw [rns_step l hl]
          refine ⟨by rw [List.all_cons, hr, h1]; rfl, ?_⟩
          unfold ofR at h2 ⊢
          rw [List.flatMap_cons, h2, enc_dec l hl hr, List.take_append_drop]
      · cases hv
theorem rns_ok {l : List UInt8} (h : vld l = true) : (rns l).all inRep = true := (rns_rep _ l (Nat.le_refl _) h).1
theorem ofR_rns {l : List UInt8} (h : vld l = true) : ofR (rns l) = l := (rns_rep _ l (Nat.le_refl _) h).2
theorem rns_len : ∀ (n : Nat) (l : List UInt8), l.length ≤ n → (rns l).length ≤ l.length
  | n, l, h => by
    by_cases hl : l = []
    · subst hl; exact Nat.le_refl _
    · have hlen : 0 < l.length := List.length_pos_iff.2 hl
      have hp := dec_pos l
      rw [rns_step l hl]
      cases n with
      | zero => omega
      | succ n =>
        have := rns_len n (l.drop (decodeL l).2) (by simp; omega)
        simp at this ⊢
        omega

def foldR {σ R : Type} (g : Int → σ → (σ → Option R) → Option R) (e : σ → Option R) : List Int → σ → Option R
  | [], a => e a
  | r :: l, a => g r a fun a' => foldR g e l a'
/-- a loop over the characters of a text -/
theorem str_loop {V R σ : Type} {F : (V → Option R) → V → Option R} {s : List UInt8} (st : σ → Nat → V) (g : Int → σ → (σ → Option R) → Option R) (e : σ → Option R)
    (hstep : ∀ self a p, p < s.length → F self (st a p) = g (decR s p) a fun a' => self (st a' (p + decW s p)))
    (hend : ∀ self a p, s.length ≤ p → F self (st a p) = e a) : ∀ (fuel p : Nat) (a : σ), s.length - p < fuel → fixN F fuel (st a p) = foldR g e (rns (s.drop p)) a
  | 0, p, a, h => by omega
  | fuel + 1, p, a, h => by
    rw [fixN_s]
    by_cases hp : p < s.length
    · have hne : s.drop p ≠ [] := by intro e; have := congrArg List.length e; simp at this; omega
      have hw := dec_pos (s.drop p)
      rw [hstep _ _ _ hp, rns_step _ hne, ← decR_eq, foldR, List.drop_drop, ← decW_eq]
      congr 1
      funext a'
      rw [decW_eq]
      have := str_loop st g e hstep hend fuel (p + (decodeL (s.drop p)).2) a' (by omega)
      exact this
    · rw [hend _ _ _ (by omega)]
      have : s.drop p = [] := by simp; omega
      rw [this]
      rfl
def foldI {α σ R : Type} (g : Nat → α → σ → (σ → Option R) → Option R) (e : σ → Option R) : Nat → List α → σ → Option R
  | _, [], a => e a
  | i, x :: l, a => g i x a fun a' => foldI g e (i + 1) l a'
/-- a loop over the elements of a list -/
theorem lst_loop {V R σ α : Type} {F : (V → Option R) → V → Option R} {l : List α} (st : σ → Nat → V) (g : Nat → α → σ → (σ → Option R) → Option R) (e : σ → Option R)
    (hstep : ∀ self a i (h : i < l.length), F self (st a i) = g i l[i] a fun a' => self (st a' (i + 1)))
    (hend : ∀ self a, F self (st a l.length) = e a) : ∀ (fuel i : Nat) (a : σ), i ≤ l.length → l.length - i < fuel → fixN F fuel (st a i) = foldI g e i (l.drop i) a
  | 0, i, a, _, h => by omega
  | fuel + 1, i, a, hi, h => by
    rw [fixN_s]
    by_cases hl : i < l.length
    · rw [hstep _ _ _ hl, List.drop_eq_getElem_cons hl, foldI]
      congr 1
      funext a'
      exact lst_loop st g e hstep hend fuel (i + 1) a' (by omega) (by omega)
    · obtain rfl : i = l.length := by omega
      rw [hend, List.drop_length]
      rfl
theorem w64_succ {i n : Nat} (h : i < n) (hn : n ≤ 9223372036854775807) : w64 (iadd (i : Int) 1) = ((i + 1 : Nat) : Int) := by
  simp only [iadd]; rw [w64_id (by omega)]; omega
theorem lget_i {α : Type} {l : List α} {i : Nat} {d : α} (h : i < l.length) : lget l (toN (i : Int)) d = l[i] := by simp [lget, toN, h]
theorem nlt_t {a b : Nat} (h : a < b) : nlt a b = true := decide_eq_true h
theorem nlt_f {a b : Nat} (h : ¬ a < b) : nlt a b = false := decide_eq_false h
theorem toN_ofN (n : Nat) : toN (ofN n) = n := by simp [toN, ofN]
end Go.Mo
end

section
/-
  Plain facts: the characters of the tape form.
-/
namespace Go.Mo
open Go Go.W Go.Lib
set_option maxRecDepth 100000

end Go.Mo
end

section
/-
  Plain facts: texts in the characters of the tape form.
-/
namespace Go.Mo
open Go Go.W Go.Lib
set_option maxRecDepth 100000

theorem snoc_fold {R : Type} (k : List Int → Option R) : ∀ (l out : List Int), out.length + l.length ≤ 100000000 →
    foldR (fun r out self => grd (room (iadd (len out) (len [r])) 4) (self (lapp out [r]))) k l out = k (out ++ l)
  | [], out, _ => by simp [foldR]
  | r :: l, out, h => by
    simp only [List.length_cons] at h
    rw [foldR, grd_t (room_t (by simp [iadd, len]; omega))]
    show foldR _ _ _ (lapp out [r]) = _
    rw [snoc_fold k l _ (by simp [lapp]; omega)]
    simp [lapp]
theorem r08_runes_eq {s : List UInt8} (hs : s.length ≤ 4000000) : r08_runes fuelH s = some (rns s) := by
  unfold r08_runes
  rw [jn_e]
  rw [show (([] : List Int), s, ofN 0) = (fun (a : List Int) (p : Nat) => (a, s, ofN p)) [] 0 from rfl]
  refine (str_loop (s := s) (fun (a : List Int) (p : Nat) => (a, s, ofN p)) (fun r out self => grd (room (iadd (len out) (len [r])) 4) (self (lapp out [r]))) (fun out => some out) (fun self a p hp => ?_) (fun self a p hp => ?_) fuelH 0 [] (by have := fuelH_eq; omega)).trans ?_
  · simp only [toN_ofN]
    rw [cnd_t (nlt_t (show p < nlen s from hp))]
    rfl
  · simp only [toN_ofN]
    rw [cnd_f (nlt_f (show ¬ p < nlen s by unfold nlen; omega))]
  · have := rns_len _ s (Nat.le_refl _)
    rw [List.drop_zero, snoc_fold _ _ _ (by simp; omega)]
    rfl
end Go.Mo
end

section
/-
  Small plain facts: bytes, lengths, equality of texts.
-/
namespace Go.Mo
open Go Go.W Go.Lib
set_option maxRecDepth 100000
noncomputable section
theorem catOk_t {n : Int} (h : n ≤ 9223372036854775807) : catOk n = true := decide_eq_true h
theorem enc_len {r : Int} (hr : inRep r = true) : (enc r).length ≤ 4 :=
  of_decide_eq_true (all_rep (P := fun r => decide ((enc r).length ≤ 4)) (by kernel_rfl) hr)
theorem seq_dec (x y : List UInt8) : seq x y = decide (x = y) := by
  unfold seq
  by_cases h : x = y
  · subst h; simp
  · rw [decide_eq_false h]
    simpa using h
end
end Go.Mo
end

section
/-
  Plain facts: characters of the tape form read back.
-/
namespace Go.Mo
open Go Go.W Go.Lib
set_option maxRecDepth 100000
noncomputable section

end
end Go.Mo
end

section
/-
  Plain facts: rates, names, on both sides.
-/
namespace Go.Mo
open Go Go.W Go.Lib
set_option maxRecDepth 100000
noncomputable section
theorem valid_tab : ((List.range 256).all fun n => decide (timebase_Valid 0 (UInt8.ofNat n) = r02_Valid 0 (UInt8.ofNat n) ∧ timebase_CanDrop 0 (UInt8.ofNat n) = r02_CanDrop 0 (UInt8.ofNat n) ∧ True)) = true := by kernel_rfl
theorem rate_eq (N : Nat) (r : UInt8) : timebase_Valid N r = r02_Valid N r ∧ timebase_CanDrop N r = r02_CanDrop N r ∧ True :=
  of_decide_eq_true (all_u8 (P := fun r => decide (timebase_Valid 0 r = r02_Valid 0 r ∧ timebase_CanDrop 0 r = r02_CanDrop 0 r ∧ True)) valid_tab r)
theorem digit_eq (N : Nat) (c : UInt8) : r07_digit N c = some (decide (48 ≤ n8 c ∧ n8 c ≤ 57)) := by
  unfold r07_digit
  have e1 : n8 (48 : UInt8) = 48 := rfl
  have e2 : n8 (57 : UInt8) = 57 := rfl
  rw [e1, e2, cnd_ile]
  split
  · simp only [ile, Option.some.injEq, decide_eq_decide]; omega
  · simp only [Option.some.injEq]; exact (decide_eq_false (by omega)).symm
/-- one round -/
theorem r07_body {s : List UInt8} {i : Nat} (h : i < s.length) (X : Option Bool) (N : Nat) :
    (grd (inb (i : Int) (len s)) <|
          cnd (ile (n8 (65 : UInt8)) (n8 (lget s (toN (i : Int)) (0 : UInt8))))
            (grd (inb (i : Int) (len s))
              ((fun (v4 : Bool) =>
            cnd (bnot v4)
              (cnd (ieq (i : Int) (0 : Int))
                (some false)
                (grd (inb (i : Int) (len s))
                  (bnd (r07_digit N (lget s (toN (i : Int)) (0 : UInt8))) fun v5 =>
                  cnd (bnot v5)
                    (grd (inb (i : Int) (len s))
                      (cnd (ine (n8 (lget s (toN (i : Int)) (0 : UInt8))) (n8 (95 : UInt8)))
                        (grd (inb (i : Int) (len s))
                          (cnd (ine (n8 (lget s (toN (i : Int)) (0 : UInt8))) (n8 (45 : UInt8)))
                            (some false)
                            X))
                        X))
                    X)))
              X) (ile (n8 (lget s (toN (i : Int)) (0 : UInt8))) (n8 (90 : UInt8)))))
            ((fun (v4 : Bool) =>
            cnd (bnot v4)
              (cnd (ieq (i : Int) (0 : Int))
                (some false)
                (grd (inb (i : Int) (len s))
                  (bnd (r07_digit N (lget s (toN (i : Int)) (0 : UInt8))) fun v5 =>
                  cnd (bnot v5)
                    (grd (inb (i : Int) (len s))
                      (cnd (ine (n8 (lget s (toN (i : Int)) (0 : UInt8))) (n8 (95 : UInt8)))
                        (grd (inb (i : Int) (len s))
                          (cnd (ine (n8 (lget s (toN (i : Int)) (0 : UInt8))) (n8 (45 : UInt8)))
                            (some false)
                            X))
                        X))
                    X)))
              X) false)) = if upc (n8 s[i]) = true then X else if i = 0 then some false else if okc (n8 s[i]) = true then X else some false := by
  have hb : inb (i : Int) (len s) = true := inb_t (by simp only [len]; omega)
  have g : lget s (toN (i : Int)) 0 = s[i] := by simp [lget, toN, h]
  have e1 : n8 (65 : UInt8) = 65 := rfl
  have e2 : n8 (90 : UInt8) = 90 := rfl
  have e3 : n8 (95 : UInt8) = 95 := rfl
  have e4 : n8 (45 : UInt8) = 45 := rfl
  simp only [grd_t hb, g, e1, e2, e3, e4]
  rw [bnd_s (digit_eq N s[i])]
  generalize n8 s[i] = c
  have hi : ((i : Int) = 0) ↔ i = 0 := by omega
  have b1 : ∀ (p : Prop) [Decidable p] (x y : Option Bool), cnd (bnot (decide p)) x y = if p then y else x := fun p _ x y => by
    by_cases hp : p <;> simp [hp, bnot, cnd]
  have b2 : ∀ x y : Option Bool, cnd (bnot false) x y = x := fun _ _ => rfl
  simp only [cnd_ile, cnd_ieq, cnd_ine, cnd_dec, ile, b1, b2, upc, okc, decide_eq_true_eq, hi]
  repeat' split
  all_goals first | rfl | (exfalso; omega)
theorem r07_name (s : List UInt8) : r07_Name fuelH s = some (nm s) := by
  unfold r07_Name
  by_cases h1 : s.length < 1
  · rw [cnd_t (ilt_t (by simp only [len]; omega))]
    simp [nm]; omega
  · rw [cnd_f (ilt_f (by simp only [len]; omega))]
    by_cases h2 : 16 < s.length
    · rw [cnd_t (ilt_t (by simp only [len]; omega))]
      simp [nm]; omega
    · rw [cnd_f (ilt_f (by simp only [len]; omega))]
      simp only [jn_e]
      have hd : decide (1 ≤ s.length ∧ s.length ≤ 16) = true := decide_eq_true (by omega)
      have loop : ∀ (fuel i : Nat), s.length - i < fuel → i ≤ s.length → fixN (fun v2 (v3 : Int) =>
        cnd (ilt v3 (len s))
          (grd (inb v3 (len s)) <|
          cnd (ile (n8 (65 : UInt8)) (n8 (lget s (toN v3) (0 : UInt8))))
            (grd (inb v3 (len s))
              ((fun (v4 : Bool) =>
            cnd (bnot v4)
              (cnd (ieq v3 (0 : Int))
                (some false)
                (grd (inb v3 (len s))
                  (bnd (r07_digit fuelH (lget s (toN v3) (0 : UInt8))) fun v5 =>
                  cnd (bnot v5)
                    (grd (inb v3 (len s))
                      (cnd (ine (n8 (lget s (toN v3) (0 : UInt8))) (n8 (95 : UInt8)))
                        (grd (inb v3 (len s))
                          (cnd (ine (n8 (lget s (toN v3) (0 : UInt8))) (n8 (45 : UInt8)))
                            (some false)
                            (v2 (w64 (iadd v3 (1 : Int))))))
                        (v2 (w64 (iadd v3 (1 : Int))))))
                    (v2 (w64 (iadd v3 (1 : Int)))))))
              (v2 (w64 (iadd v3 (1 : Int))))) (ile (n8 (lget s (toN v3) (0 : UInt8))) (n8 (90 : UInt8)))))
            ((fun (v4 : Bool) =>
            cnd (bnot v4)
              (cnd (ieq v3 (0 : Int))
                (some false)
                (grd (inb v3 (len s))
                  (bnd (r07_digit fuelH (lget s (toN v3) (0 : UInt8))) fun v5 =>
                  cnd (bnot v5)
                    (grd (inb v3 (len s))
                      (cnd (ine (n8 (lget s (toN v3) (0 : UInt8))) (n8 (95 : UInt8)))
                        (grd (inb v3 (len s))
                          (cnd (ine (n8 (lget s (toN v3) (0 : UInt8))) (n8 (45 : UInt8)))
                            (some false)
                            (v2 (w64 (iadd v3 (1 : Int))))))
                        (v2 (w64 (iadd v3 (1 : Int))))))
                    (v2 (w64 (iadd v3 (1 : Int)))))))
              (v2 (w64 (iadd v3 (1 : Int))))) false))
          (some true)) fuel (i : Int) = some (bif decide (i = 0) then upc (n8 (s.getD 0 0)) && s.all (fun c => okc (n8 c)) else (s.drop i).all fun c => okc (n8 c)) := by
        intro fuel
        induction fuel with
        | zero => intro i h; omega
        | succ fuel ih =>
          intro i h hi
          rw [fixN_s]
          by_cases hl : i < s.length
          · rw [cnd_t (ilt_t (by simp only [len]; omega)), r07_body hl]
            have hw : w64 (iadd (i : Int) 1) = ((i + 1 : Nat) : Int) := by
              simp only [iadd]; rw [w64_id (by omega)]; omega
            rw [hw, ih (i + 1) (by omega) (by omega)]
            have hup : upc (n8 s[i]) = true → okc (n8 s[i]) = true := fun h => by
              have := of_decide_eq_true h
              exact decide_eq_true (.inl this)
            have e0 : decide (i + 1 = 0) = false := decide_eq_false (by omega)
            simp only [e0, cond_false]
            by_cases hz : i = 0
            · subst hz
              have g0 : s.getD 0 0 = s[0] := by simp [hl]
              have hs : s.all (fun c => okc (n8 c)) = (okc (n8 s[0]) && (s.drop 1).all fun c => okc (n8 c)) := by
                have := all_step (s := s) (i := 0) hl (fun c => okc (n8 c))
                simpa using this
              simp only [decide_true, cond_true, if_true, g0, hs]
              cases hu : upc (n8 s[0]) with
              | true => simp [hup hu]
              | false => simp
            · have : decide (i = 0) = false := decide_eq_false hz
              simp only [this, cond_false, hz, if_false, all_step hl]
              cases hu : upc (n8 s[i]) with
              | true => simp [hup hu]
              | false => cases okc (n8 s[i]) <;> simp
          · rw [cnd_f (ilt_f (by simp only [len]; omega))]
            have hz : decide (i = 0) = false := decide_eq_false (by omega)
            have : s.drop i = [] := by simp; omega
            rw [hz, this]
            rfl
      have := loop fuelH 0 (by have := fuelH_eq; omega) (Nat.zero_le _)
      simp only [decide_true, cond_true] at this
      simp only [nm, hd, Bool.true_and]
      exact this
end
end Go.Mo
end

section
/-
  Plain facts: rows of text, their check, their normal form.
-/
namespace Go.Mo
open Go Go.W Go.Lib
set_option maxRecDepth 100000
abbrev Sty := UInt8 × Bool × Bool
abbrev Run := List UInt8 × Sty × List UInt8
abbrev Row := List Run

theorem cnd_ite {α : Type} {b : Bool} {x y : Option α} : cnd b x y = if b = true then x else y := by cases b <;> rfl
theorem bnot_t {b : Bool} : (bnot b = true) = (b = false) := by cases b <;> simp [bnot]
theorem seq_t {a b : List UInt8} : (seq a b = true) = (a = b) := by rw [seq_dec]; simp
theorem ieq_tt {a b : Int} : (ieq a b = true) = (a = b) := by simp [ieq]
theorem ine_tt {a b : Int} : (ine a b = true) = (a ≠ b) := by simp [ine]
theorem ilt_tt {a b : Int} : (ilt a b = true) = (a < b) := by simp [ilt]
theorem beqb_t {a b : Bool} : (beqb a b = true) = (a = b) := by simp [beqb]
theorem band_tt {a b : Bool} : (band a b = true) = (a = true ∧ b = true) := by simp [band]
theorem n8_eq {a b : UInt8} : (n8 a = n8 b) = (a = b) := propext ⟨n8_inj, fun h => by rw [h]⟩
theorem w64_pred {i : Nat} (h : 0 < i) (hn : i ≤ 9223372036854775807) : w64 (isub (i : Int) 1) = ((i - 1 : Nat) : Int) := by
  simp only [isub]; rw [w64_id (by omega)]; omega
theorem w64_back {i : Nat} (hn : i < 9223372036854775807) : w64 (isub ((i + 1 : Nat) : Int) 1) = (i : Int) := by
  rw [w64_pred (Nat.succ_pos i) (by omega)]; rfl
theorem sty_eq {a b : Sty} : (a = b) = (a.1 = b.1 ∧ a.2.1 = b.2.1 ∧ a.2.2 = b.2.2) := by
  obtain ⟨a1, a2, a3⟩ := a; obtain ⟨b1, b2, b3⟩ := b; simp

def alikeP (a b : Run) : Prop := a.2.1 = b.2.1 ∧ a.2.2 = [] ∧ b.2.2 = []
instance (a b : Run) : Decidable (alikeP a b) := by unfold alikeP; infer_instance
/-- a run that follows another one -/
def runChk (p : Option Run) (x : Run) : Int :=
  if vld x.1 = false then 10 else if x.1 = [] then 4 else if ¬ n8 x.2.1.1 ≤ 6 then 12 else if vld x.2.2 = false then 10 else match p with
    | none => 0
    | some p => if alikeP p x then 8 else 0
def chkL : Option Run → List Run → Int
  | _, [] => 0
  | p, x :: r => if runChk p x ≠ 0 then runChk p x else chkL (some x) r
def rowChk (l : Row) : Int := if 16 < l.length then 9 else chkL none l
def shortR (l : Row) : Prop := ∀ x ∈ l, x.1.length ≤ 4000000 ∧ x.2.2.length ≤ 4000000
/-- the element ahead -/
def before {α : Type} (l : List α) : Nat → Option α
  | 0 => none
  | i + 1 => l[i]?
theorem foldI_chk (l : Row) : ∀ (r : List Run) (i : Nat), l.drop i = r → i ≤ l.length → foldI (fun i (x : Run) (_ : Unit) self => if runChk (before l i) x ≠ 0 then some (runChk (before l i) x) else self ()) (fun _ => some (0 : Int)) i r () = some (chkL (before l i) r)
  | [], i, _, _ => rfl
  | x :: r, i, h, hi => by
    have hx : l[i]? = some x := by rw [← List.head?_drop, h]; rfl
    have hr : l.drop (i + 1) = r := by rw [← List.drop_drop, h]; rfl
    have hl : i < l.length := (List.getElem?_eq_some_iff.1 hx).1
    simp only [foldI, chkL]
    rw [foldI_chk l r (i + 1) hr (by omega)]
    have e : before l (i + 1) = some x := hx
    rw [e]
    by_cases hc : runChk (before l i) x ≠ 0
    · rw [if_pos hc, if_pos hc]
    · rw [if_neg hc, if_neg hc]
theorem style_alike_eq (N : Nat) (a b : Run) : style_alike N (a, b) = some (decide (alikeP a b)) := by
  unfold style_alike
  simp only [cnd_ite, band_tt, ieq_tt, beqb_t, n8_eq, seq_dec, decide_eq_true_eq]
  by_cases h1 : a.2.1.1 = b.2.1.1 ∧ a.2.1.2.1 = b.2.1.2.1 ∧ a.2.1.2.2 = b.2.1.2.2
  · rw [if_pos h1]
    have : a.2.1 = b.2.1 := by rw [sty_eq]; exact h1
    by_cases h2 : a.2.2 = []
    · rw [if_pos h2]; simp [alikeP, this, h2]
    · rw [if_neg h2]; simp [alikeP, h2]
  · rw [if_neg h1]
    have : ¬ a.2.1 = b.2.1 := by rw [sty_eq]; exact h1
    simp [alikeP, this]
theorem style_check {l : Row} (hl : shortR l) : style_Check fuelH l = some (rowChk l) := by
  unfold style_Check
  by_cases h : 16 < l.length
  · rw [cnd_t (ilt_t (by simp only [len]; omega))]; simp [rowChk, h]
  · rw [cnd_f (ilt_f (by simp only [len]; omega)), jn_e]
    refine Eq.trans (lst_loop (l := l) (fun (_ : Unit) (p : Nat) => (p : Int)) (fun i (x : Run) (_ : Unit) self => if runChk (before l i) x ≠ 0 then some (runChk (before l i) x) else self ()) (fun _ => some (0 : Int)) (fun self a i hi => ?_) (fun self a => ?_) fuelH 0 () (Nat.zero_le _) (by have := fuelH_eq; omega)) ?_
    · rw [cnd_t (ilt_t (by simp only [len]; omega)), grd_t (inb_t (by simp only [len]; omega)), lget_i hi]
      obtain ⟨b1, b2⟩ := hl l[i] (List.getElem_mem hi)
      rw [bnd_s (ch_valid _ b1), bnd_s (show style_Valid fuelH l[i].2.1 = some (ile (n8 l[i].2.1.1) 6) from rfl), bnd_s (ch_valid _ b2)]
      simp only [cnd_ite, bnot_t, seq_t, ile, decide_eq_false_iff_not]
      rw [w64_succ hi (by omega)]
      cases i with
      | zero =>
        have e0 : before l 0 = none := rfl
        rw [e0, if_neg (show ¬ ilt (0 : Int) ((0 : Nat) : Int) = true by decide)]
        simp only [runChk]
        repeat' split
        all_goals first | rfl | (exfalso; omega) | simp_all
      | succ i =>
        have e0 : before l (i + 1) = some l[i] := by simp only [before]; exact List.getElem?_eq_getElem (by omega)
        rw [e0, if_pos (show ilt (0 : Int) ((i + 1 : Nat) : Int) = true from ilt_t (by omega)), w64_back (by omega), grd_t (inb_t (by simp only [len]; omega)), lget_i (show i < l.length by omega), bnd_s (style_alike_eq _ _ _)]
        simp only [runChk, decide_eq_true_eq]
        repeat' split
        all_goals first | rfl | (exfalso; omega) | simp_all
    · rw [cnd_f (ilt_f (by simp only [len]; omega))]
    · rw [List.drop_zero, foldI_chk l l 0 rfl (Nat.zero_le _)]
      simp [rowChk, h, before]
theorem r09_check {l : Row} (hl : shortR l) : r09_Check fuelH l = some (rowChk l) := by
  unfold r09_Check
  by_cases h : 16 < l.length
  · rw [cnd_t (ilt_t (by simp only [len]; omega))]; simp [rowChk, h]
  · rw [cnd_f (ilt_f (by simp only [len]; omega)), jn_e]
    refine Eq.trans (lst_loop (l := l) (fun (_ : Unit) (p : Nat) => (p : Int)) (fun i (x : Run) (_ : Unit) self => if runChk (before l i) x ≠ 0 then some (runChk (before l i) x) else self ()) (fun _ => some (0 : Int)) (fun self a i hi => ?_) (fun self a => ?_) fuelH 0 () (Nat.zero_le _) (by have := fuelH_eq; omega)) ?_
    · rw [cnd_t (ilt_t (by simp only [len]; omega)), grd_t (inb_t (by simp only [len]; omega)), lget_i hi]
      obtain ⟨b1, b2⟩ := hl l[i] (List.getElem_mem hi)
      rw [bnd_s (r08_valid _ b1), bnd_s (show r09_Valid fuelH l[i].2.1 = some (ile (n8 l[i].2.1.1) 6) from rfl), bnd_s (r08_valid _ b2)]
      simp only [cnd_ite, bnot_t, seq_t, ile, decide_eq_false_iff_not]
      rw [w64_succ hi (by omega)]
      cases i with
      | zero =>
        have e0 : before l 0 = none := rfl
        rw [e0, if_neg (show ¬ ilt (0 : Int) ((0 : Nat) : Int) = true by decide)]
        simp only [runChk]
        repeat' split
        all_goals first | rfl | (exfalso; omega) | simp_all
      | succ i =>
        have e0 : before l (i + 1) = some l[i] := by simp only [before]; exact List.getElem?_eq_getElem (by omega)
        have hin : inb ((i : Nat) : Int) (len l) = true := inb_t (by simp only [len]; omega)
        rw [e0, if_pos (show ilt (0 : Int) ((i + 1 : Nat) : Int) = true from ilt_t (by omega)), w64_back (by omega), grd_t hin, grd_t hin, lget_i (show i < l.length by omega)]
        simp only [runChk, alikeP, band_tt, ieq_tt, beqb_t, n8_eq, ← sty_eq]
        repeat' split
        all_goals first | rfl | (exfalso; omega) | simp_all
    · rw [cnd_f (ilt_f (by simp only [len]; omega))]
    · rw [List.drop_zero, foldI_chk l l 0 rfl (Nat.zero_le _)]
      simp [rowChk, h, before]
end Go.Mo
end

section
/-
  Plain facts: loops with an invariant; the normal form of a row.
-/
namespace Go.Mo
open Go Go.W Go.Lib
set_option maxRecDepth 100000

def itI {α σ R : Type} (f : Nat → α → σ → Option R ⊕ σ) (e : σ → Option R) : Nat → List α → σ → Option R
  | _, [], a => e a
  | i, x :: l, a => match f i x a with
    | .inl r => r
    | .inr a' => itI f e (i + 1) l a'
/-- one round: it ends with r, or goes on -/
def Rnd {V R σ : Type} (X : Option R) (self : V → Option R) (next : σ → V) (I : σ → Prop) : Option R ⊕ σ → Prop
  | .inl r => X = r
  | .inr a => X = self (next a) ∧ I a
theorem lst_it {V R σ α : Type} {F : (V → Option R) → V → Option R} {l : List α} (st : σ → Nat → V) (f : Nat → α → σ → Option R ⊕ σ) (e : σ → Option R) (I : Nat → σ → Prop)
    (hstep : ∀ self a i (h : i < l.length), I i a → Rnd (F self (st a i)) self (fun a => st a (i + 1)) (I (i + 1)) (f i l[i] a))
    (hend : ∀ self a, I l.length a → F self (st a l.length) = e a) : ∀ (fuel i : Nat) (a : σ), i ≤ l.length → l.length - i < fuel → I i a → fixN F fuel (st a i) = itI f e i (l.drop i) a
  | 0, i, a, _, h, _ => by omega
  | fuel + 1, i, a, hi, h, hI => by
    rw [fixN_s]
    by_cases hl : i < l.length
    · rw [List.drop_eq_getElem_cons hl, itI]
      have hs := hstep (fixN F fuel) a i hl hI
      cases hf : f i l[i] a with
      | inl r => rw [hf] at hs; exact hs
      | inr a' =>
        rw [hf] at hs
        rw [hs.1]
        exact lst_it st f e I hstep hend fuel (i + 1) a' (by omega) (by omega) hs.2
    · obtain rfl : i = l.length := by omega
      rw [hend _ _ hI, List.drop_length]
      rfl
theorem itI_fold {α σ R : Type} (f : α → σ → σ) (e : σ → Option R) : ∀ (i : Nat) (l : List α) (a : σ), itI (fun _ x a => .inr (f x a)) e i l a = e (l.foldl (fun a x => f x a) a)
  | _, [], _ => rfl
  | i, x :: l, a => by simp only [itI, List.foldl_cons]; exact itI_fold f e (i + 1) l (f x a)

def snoc (out : Row) (x : Run) : Row :=
  if x.1 = [] then out else match out.getLast? with
    | some p => if alikeP p x then out.dropLast ++ [(p.1 ++ x.1, p.2)] else out ++ [x]
    | none => out ++ [x]
def normR (l : Row) : Row := l.foldl snoc []
/-- the letters of a row -/
def tot : Row → Nat
  | [] => 0
  | x :: r => x.1.length + tot r
theorem tot_app (a b : Row) : tot (a ++ b) = tot a + tot b := by
  induction a with
  | nil => simp [tot]
  | cons x a ih => simp only [List.cons_append, tot, ih]; omega
theorem last_eq {l : Row} {p : Run} (h : l.getLast? = some p) : l = l.dropLast ++ [p] := by
  cases l with
  | nil => cases h
  | cons x l =>
    rw [List.getLast?_eq_some_getLast (List.cons_ne_nil x l)] at h
    injection h with h
    rw [← h]
    exact (List.dropLast_concat_getLast (List.cons_ne_nil x l)).symm
theorem snoc_tot (out : Row) (x : Run) : tot (snoc out x) = tot out + x.1.length := by
  unfold snoc
  split
  · rename_i h; rw [h]; rfl
  · split
    · rename_i p hp
      split
      · have := congrArg tot (last_eq hp)
        rw [tot_app] at this
        rw [tot_app]
        simp only [tot, List.length_append, Nat.add_zero] at this ⊢
        omega
      · rw [tot_app]; simp [tot]
    · rw [tot_app]; simp [tot]
theorem snoc_len (out : Row) (x : Run) : (snoc out x).length ≤ out.length + 1 := by
  unfold snoc
  split
  · omega
  · split
    · split
      · simp only [List.length_append, List.length_dropLast, List.length_singleton]; omega
      · simp
    · simp
theorem lget_last {out : Row} {p : Run} (h : out.getLast? = some p) (hb : out.length ≤ 100000000) (d : Run) : 0 < out.length ∧ w64 (isub (len out) 1) = ((out.length - 1 : Nat) : Int) ∧ lget out (toN (w64 (isub (len out) 1))) d = p := by
  have hl : 0 < out.length := by
    cases out with
    | nil => cases h
    | cons x l => simp
  have hw : w64 (isub (len out) 1) = ((out.length - 1 : Nat) : Int) := w64_pred hl (by omega)
  refine ⟨hl, hw, ?_⟩
  rw [hw, lget_i (show out.length - 1 < out.length by omega)]
  rw [List.getLast?_eq_getElem?, List.getElem?_eq_getElem (by omega)] at h
  injection h
theorem lset_last {out : Row} {p : Run} (h : out.getLast? = some p) (y : Run) : lset out (out.length - 1) y = out.dropLast ++ [y] := by
  have e := last_eq h
  have hl : out.length - 1 = out.dropLast.length := by simp
  rw [hl]
  conv => lhs; rw [e]
  unfold lset
  rw [List.set_append_right _ _ (by simp)]
  simp
theorem last_tot {out : Row} {p : Run} (h : out.getLast? = some p) : p.1.length ≤ tot out := by
  have := congrArg tot (last_eq h)
  rw [tot_app] at this
  simp only [tot, Nat.add_zero] at this
  omega
theorem tot_mem {l : Row} {x : Run} (h : x ∈ l) : x.1.length ≤ tot l := by
  induction l with
  | nil => cases h
  | cons y l ih =>
    simp only [tot]
    rcases List.mem_cons.1 h with rfl | h
    · omega
    · have := ih h; omega
def NI (l : Row) (i : Nat) (out : Row) : Prop := out.length ≤ i ∧ tot out + tot (l.drop i) = tot l
theorem NI_step {l : Row} {i : Nat} (h : i < l.length) {out : Row} (hI : NI l i out) : NI l (i + 1) (snoc out l[i]) := by
  refine ⟨Nat.le_trans (snoc_len _ _) (Nat.succ_le_succ hI.1), ?_⟩
  have := hI.2
  rw [List.drop_eq_getElem_cons h] at this
  rw [snoc_tot]
  simp only [tot] at this
  omega
theorem style_norm_eq {l : Row} (hl : l.length ≤ 4000000) (ht : tot l ≤ 8000000) : style_norm fuelH l = some (normR l) := by
  unfold style_norm
  rw [jn_e]
  refine Eq.trans (lst_it (l := l) (fun (a : Row) (p : Nat) => ((p : Int), a)) (fun _ x a => .inr (snoc a x)) (fun a => some a) (NI l) (fun self a i hi hI => ?_) (fun self a _ => ?_) fuelH 0 [] (Nat.zero_le _) (by have := fuelH_eq; omega) ⟨Nat.le_refl _, by simp [tot]⟩) ?_
  · refine ⟨?_, NI_step hi hI⟩
    have hI1 := hI.1
    have hb : tot a ≤ 8000000 := by have := hI.2; omega
    have hx : l[i].1.length ≤ 8000000 := Nat.le_trans (tot_mem (List.getElem_mem hi)) ht
    simp only
    rw [cnd_t (ilt_t (by simp only [len]; omega)), grd_t (inb_t (by simp only [len]; omega)), lget_i hi, w64_succ hi (by omega)]
    have hroom : room (iadd (len a) (len ([l[i]] : Row))) 40 = true := room_t (by simp only [iadd, len, List.length_singleton]; omega)
    rw [grd_t hroom]
    simp only [cnd_ite, seq_t]
    by_cases he : l[i].1 = []
    · rw [if_pos he]; simp only [snoc, he, if_true]
    · rw [if_neg he]
      cases hla : a.getLast? with
      | none =>
        have ha : a = [] := List.getLast?_eq_none_iff.1 hla
        subst ha
        rw [if_neg (show ¬ ilt (0 : Int) (len ([] : Row)) = true by decide)]
        simp only [snoc, if_neg he, hla]
        rfl
      | some p =>
        obtain ⟨q1, q2, q3⟩ := lget_last hla (by omega) ([], (((0 : UInt8), (false, false)), []))
        have hin : inb (w64 (isub (len a) 1)) (len a) = true := by rw [q2]; exact inb_t (by simp only [len]; omega)
        have hp := last_tot hla
        rw [if_pos (show ilt (0 : Int) (len a) = true from ilt_t (by simp only [len]; omega)), grd_t hin, q3, bnd_s (style_alike_eq _ _ _), grd_t hin, grd_t (show catOk (iadd (len p.1) (len l[i].1)) = true from decide_eq_true (by simp only [iadd, len]; omega)), grd_t hin, q2]
        simp only [decide_eq_true_eq, snoc, if_neg he, hla]
        by_cases hk : alikeP p l[i]
        · rw [if_pos hk, if_pos hk]
          have : toN ((a.length - 1 : Nat) : Int) = a.length - 1 := by simp [toN]
          rw [this, lset_last hla]
          rfl
        · rw [if_neg hk, if_neg hk]; rfl
  · simp only
    rw [cnd_f (ilt_f (by simp only [len]; omega))]
  · rw [List.drop_zero, itI_fold]
    rfl
theorem style_Norm_eq {l : Row} (hl : l.length ≤ 4000000) (ht : tot l ≤ 8000000) : style_Norm fuelH l = some (normR l) := by
  unfold style_Norm
  rw [bnd_s (style_norm_eq hl ht)]
theorem r09_Norm_eq {l : Row} (hl : l.length ≤ 4000000) (ht : tot l ≤ 8000000) : r09_Norm fuelH l = some (normR l) := by
  unfold r09_Norm
  rw [jn_e]
  refine Eq.trans (lst_it (l := l) (fun (a : Row) (p : Nat) => (a, (p : Int))) (fun _ x a => .inr (snoc a x)) (fun a => some a) (NI l) (fun self a i hi hI => ?_) (fun self a _ => ?_) fuelH 0 [] (Nat.zero_le _) (by have := fuelH_eq; omega) ⟨Nat.le_refl _, by simp [tot]⟩) ?_
  · refine ⟨?_, NI_step hi hI⟩
    have hI1 := hI.1
    have hb : tot a ≤ 8000000 := by have := hI.2; omega
    have hx : l[i].1.length ≤ 8000000 := Nat.le_trans (tot_mem (List.getElem_mem hi)) ht
    simp only
    rw [cnd_t (ilt_t (by simp only [len]; omega)), grd_t (inb_t (by simp only [len]; omega)), lget_i hi, w64_succ hi (by omega), jn_e]
    have hroom : room (iadd (len a) (len ([l[i]] : Row))) 40 = true := room_t (by simp only [iadd, len, List.length_singleton]; omega)
    rw [grd_t hroom]
    simp only [cnd_ite, seq_t]
    by_cases he : l[i].1 = []
    · rw [if_pos he]; simp only [snoc, he, if_true]
    · rw [if_neg he]
      cases hla : a.getLast? with
      | none =>
        have ha : a = [] := List.getLast?_eq_none_iff.1 hla
        subst ha
        rw [if_neg (show ¬ ilt (0 : Int) (len ([] : Row)) = true by decide)]
        simp only [snoc, if_neg he, hla]
        rfl
      | some p =>
        obtain ⟨q1, q2, q3⟩ := lget_last hla (by omega) ([], (((0 : UInt8), (false, false)), []))
        have hin : inb (w64 (isub (len a) 1)) (len a) = true := by rw [q2]; exact inb_t (by simp only [len]; omega)
        have hp := last_tot hla
        rw [if_pos (show ilt (0 : Int) (len a) = true from ilt_t (by simp only [len]; omega)), grd_t hin, q3, grd_t hin, grd_t hin, grd_t (show catOk (iadd (len p.1) (len l[i].1)) = true from decide_eq_true (by simp only [iadd, len]; omega)), grd_t hin, q2]
        simp only [band_tt, ieq_tt, beqb_t, n8_eq, ← sty_eq]
        simp only [snoc, if_neg he, hla, alikeP]
        have : toN ((a.length - 1 : Nat) : Int) = a.length - 1 := by simp [toN]
        rw [this, lset_last hla]
        by_cases h1 : p.2.1 = l[i].2.1
        · by_cases h2 : p.2.2 = []
          · by_cases h3 : l[i].2.2 = []
            · simp only [h1, h2, h3, if_true, and_self]; rfl
            · simp only [h1, h2, h3, if_true, and_false, if_false]; rfl
          · simp only [h1, h2, if_true, false_and, and_false, if_false]; rfl
        · simp only [h1, false_and, if_false]; rfl
  · simp only
    rw [cnd_f (ilt_f (by simp only [len]; omega))]
  · rw [List.drop_zero, itI_fold]
    rfl
end Go.Mo
end

section
/-
  Plain facts: the bytes of rows.
-/
namespace Go.Mo
open Go Go.W Go.Lib
set_option maxRecDepth 100000
noncomputable section

theorem chkL_ok : ∀ (l : List Run) (p : Option Run), chkL p l = 0 → ∀ x ∈ l, vld x.1 = true ∧ x.1 ≠ [] ∧ n8 x.2.1.1 ≤ 6 ∧ vld x.2.2 = true
  | [], _, _, x, hx => by cases hx
  | y :: l, p, h, x, hx => by
    simp only [chkL] at h
    split at h
    · rename_i hc; exact absurd h hc
    · rename_i hc
      rcases List.mem_cons.1 hx with rfl | hx
      · have hc : runChk p x = 0 := by simpa using hc
        unfold runChk at hc
        split at hc
        · cases hc
        · split at hc
          · cases hc
          · split at hc
            · cases hc
            · split at hc
              · cases hc
              · rename_i h1 h2 h3 h4
                exact ⟨by simpa using h1, h2, by omega, by simpa using h4⟩
      · exact chkL_ok l _ h x hx
theorem rowChk_ok {l : Row} (h : rowChk l = 0) : l.length ≤ 16 ∧ ∀ x ∈ l, vld x.1 = true ∧ x.1 ≠ [] ∧ n8 x.2.1.1 ≤ 6 ∧ vld x.2.2 = true := by
  unfold rowChk at h
  split at h
  · cases h
  · exact ⟨by omega, chkL_ok l _ h⟩

def cost : Row → Nat
  | [] => 0
  | x :: r => 3 + x.1.length + cost r
theorem cost_eq (l : Row) : cost l = 3 * l.length + tot l := by
  induction l with
  | nil => rfl
  | cons x l ih => simp only [cost, tot, List.length_cons, ih]; omega
def shortL (l : List Row) : Prop := ∀ r ∈ l, shortR r
end
end Go.Mo
end

section
/-
  Plain facts: rows that are read from bytes, on both sides.
-/
namespace Go.Mo
open Go Go.W Go.Lib
set_option maxRecDepth 100000
noncomputable section

theorem enc_len4 {r : Int} (h : inRep r = true) : (enc r).length ≤ 4 := enc_len h
end
end Go.Mo
end

section
/-
  Plain facts: rows that are read by the reference; equality of rows; StlTexts returns true.
-/
namespace Go.Mo
open Go Go.W Go.Lib
set_option maxRecDepth 100000
noncomputable section

end
end Go.Mo
end

section
/-
  Plain facts: StlTexts returns true.
-/
namespace Go.Mo
open Go Go.W Go.Lib
set_option maxRecDepth 100000
noncomputable section
theorem loop_inv {V R σ : Type} {F : (V → Option R) → V → Option R} {n : Nat} (st : σ → Nat → V) (I : Nat → σ → Prop) (r : Option R)
    (hstep : ∀ self a i, i < n → I i a → ∃ a', F self (st a i) = self (st a' (i + 1)) ∧ I (i + 1) a') (hend : ∀ self a, I n a → F self (st a n) = r) : ∀ (fuel i : Nat) (a : σ), i ≤ n → n - i < fuel → I i a → fixN F fuel (st a i) = r
  | 0, i, a, _, h, _ => by omega
  | fuel + 1, i, a, hi, h, hI => by
    rw [fixN_s]
    by_cases hl : i < n
    · obtain ⟨a', h1, h2⟩ := hstep (fixN F fuel) a i hl hI
      rw [h1]
      exact loop_inv st I r hstep hend fuel (i + 1) a' (by omega) (by omega) h2
    · obtain rfl : i = n := by omega
      exact hend _ _ hI

theorem bk_mem {α : Type} {f : α → Nat} {l : List α} {x : α} (h : x ∈ l) : f x ≤ bkL f l := by
  induction l with
  | nil => cases h
  | cons y l ih =>
    simp only [bkL]
    rcases List.mem_cons.1 h with rfl | h
    · omega
    · have := ih h; omega
theorem bk_len {α : Type} {f : α → Nat} (hf : ∀ x, 1 ≤ f x) (l : List α) : l.length ≤ bkL f l := by
  induction l with
  | nil => exact Nat.le_refl _
  | cons y l ih => have := hf y; simp only [bkL, List.length_cons]; omega
def wtU (x : Run) : Nat := x.1.length + 1 + (1 + (1 + 1) + (x.2.2.length + 1))
def wtR (r : Row) : Nat := bkL wtU r + 1
theorem cost_wt (r : Row) : cost r ≤ bkL wtU r := by
  induction r with
  | nil => exact Nat.le_refl _
  | cons x r ih => simp only [cost, bkL, wtU]; omega
theorem short_wt {l : List Row} {B : Nat} (h : bkL wtR l ≤ B) (hB : B ≤ 4000000) : shortL l := fun r hr x hx => by
  have h1 : bkL wtU r + 1 ≤ bkL wtR l := bk_mem (f := wtR) hr
  have h2 : x.1.length + 1 + (1 + (1 + 1) + (x.2.2.length + 1)) ≤ bkL wtU r := bk_mem (f := wtU) hx
  omega

theorem min_take {α : Type} (l : List α) (n : Nat) : ltake (toN (imin (len l) (n : Int))) l = l.take n ∧ in2 (imin (len l) (n : Int)) (len l) = true := by
  have e : toN (imin (len l) (n : Int)) = min l.length n := by simp only [toN, imin, len]; omega
  refine ⟨?_, in2_t (by simp only [imin, len]; omega)⟩
  rw [e]
  unfold ltake
  by_cases h : l.length ≤ n
  · rw [Nat.min_eq_left h, List.take_length, List.take_of_length_le h]
  · rw [Nat.min_eq_right (by omega)]
theorem fold_len : ∀ (l out : Row), (l.foldl snoc out).length ≤ out.length + l.length
  | [], out => Nat.le_refl _
  | x :: l, out => by
    have h1 := snoc_len out x
    have h2 := fold_len l (snoc out x)
    simp only [List.foldl_cons, List.length_cons]
    omega
theorem normR_len (l : Row) : (normR l).length ≤ l.length := by
  have := fold_len l []
  simpa [normR] using this
end
end Go.Mo
end

section
/-
  Plain facts: StlReturns returns true.
-/
namespace Go.Mo
open Go Go.W Go.Lib
set_option maxRecDepth 100000
noncomputable section

theorem tot_cost (l : Row) : tot l ≤ cost l := by rw [cost_eq]; omega
end
end Go.Mo
end

section
/-
  Plain facts: regions, their check, a region by its name, the places of rows.
-/
namespace Go.Mo
open Go Go.W Go.Lib
set_option maxRecDepth 100000
noncomputable section
abbrev Reg := List UInt8 × Int × Int × Int × Int × UInt8 × Bool
abbrev Spot := Int × Int × Int

theorem from_eq (N : Nat) (a b c : Int) : region_from N (a, b, c) = some (decide (b ≤ a ∧ a ≤ c)) := by
  unfold region_from
  rw [cnd_ile]
  by_cases h : b ≤ a
  · simp [h, ile]
  · simp [h]
def regChk (r : Reg) : Int :=
  if nm r.1 = false then 5 else
  if ¬ (0 ≤ r.2.1 ∧ r.2.1 ≤ 14) then 2 else
  if ¬ (1 ≤ r.2.2.1 ∧ r.2.2.1 ≤ 15 - r.2.1) then 2 else
  if ¬ (0 ≤ r.2.2.2.1 ∧ r.2.2.2.1 ≤ 31) then 2 else
  if ¬ (1 ≤ r.2.2.2.2.1 ∧ r.2.2.2.2.1 ≤ 32 - r.2.2.2.1) then 2 else
  if ¬ (1 ≤ n8 r.2.2.2.2.2.1 ∧ n8 r.2.2.2.2.2.1 ≤ 3) then 3 else 0
theorem dec_f {p : Prop} [Decidable p] : (decide p = false) = ¬ p := by by_cases h : p <;> simp [h]
theorem region_check (r : Reg) : region_Check fuelH r = some (regChk r) := by
  unfold region_Check regChk
  rw [lines_name, bnd_some']
  simp only [from_eq, bnd_some', cnd_ite, bnot_t, dec_f, ilt_tt]
  have e1 : n8 (1 : UInt8) = 1 := rfl
  have e3 : n8 (3 : UInt8) = 3 := rfl
  rw [e1, e3]
  by_cases h0 : nm r.1 = false
  · rw [if_pos h0, if_pos h0]
  rw [if_neg h0, if_neg h0]
  by_cases h1 : 0 ≤ r.2.1 ∧ r.2.1 ≤ 14
  · rw [if_neg (not_not_intro h1), if_neg (not_not_intro h1)]
    have w1 : w64 (isub 15 r.2.1) = 15 - r.2.1 := by unfold isub; rw [w64_id (by omega)]
    rw [w1]
    by_cases h2 : 1 ≤ r.2.2.1 ∧ r.2.2.1 ≤ 15 - r.2.1
    · rw [if_neg (not_not_intro h2), if_neg (not_not_intro h2)]
      by_cases h3 : 0 ≤ r.2.2.2.1 ∧ r.2.2.2.1 ≤ 31
      · rw [if_neg (not_not_intro h3), if_neg (not_not_intro h3)]
        have w2 : w64 (isub 32 r.2.2.2.1) = 32 - r.2.2.2.1 := by unfold isub; rw [w64_id (by omega)]
        rw [w2]
        by_cases h4 : 1 ≤ r.2.2.2.2.1 ∧ r.2.2.2.2.1 ≤ 32 - r.2.2.2.1
        · rw [if_neg (not_not_intro h4), if_neg (not_not_intro h4)]
          by_cases h5 : n8 r.2.2.2.2.2.1 < 1
          · rw [if_pos h5, if_pos (by omega)]
          · rw [if_neg h5]
            by_cases h6 : 3 < n8 r.2.2.2.2.2.1
            · rw [if_pos h6, if_pos (by omega)]
            · rw [if_neg h6, if_neg (by omega)]
        · rw [if_pos h4, if_pos h4]
      · rw [if_pos h3, if_pos h3]
    · rw [if_pos h2, if_pos h2]
  · rw [if_pos h1, if_pos h1]
theorem r10_check (r : Reg) : r10_Check fuelH r = some (regChk r) := by
  unfold r10_Check regChk
  rw [r07_name, bnd_some']
  simp only [cnd_ite, bnot_t, ilt_tt, ine_tt]
  by_cases h0 : nm r.1 = false
  · rw [if_pos h0, if_pos h0]
  rw [if_neg h0, if_neg h0]
  by_cases h1 : 0 ≤ r.2.1 ∧ r.2.1 ≤ 14
  · rw [if_neg (by omega), if_neg (by omega), if_neg (not_not_intro h1)]
    have w1 : w64 (isub 15 r.2.1) = 15 - r.2.1 := by unfold isub; rw [w64_id (by omega)]
    rw [w1]
    by_cases h2 : 1 ≤ r.2.2.1 ∧ r.2.2.1 ≤ 15 - r.2.1
    · rw [if_neg (by omega), if_neg (by omega), if_neg (not_not_intro h2)]
      by_cases h3 : 0 ≤ r.2.2.2.1 ∧ r.2.2.2.1 ≤ 31
      · rw [if_neg (by omega), if_neg (by omega), if_neg (not_not_intro h3)]
        have w2 : w64 (isub 32 r.2.2.2.1) = 32 - r.2.2.2.1 := by unfold isub; rw [w64_id (by omega)]
        rw [w2]
        by_cases h4 : 1 ≤ r.2.2.2.2.1 ∧ r.2.2.2.2.1 ≤ 32 - r.2.2.2.1
        · rw [if_neg (by omega), if_neg (by omega), if_neg (not_not_intro h4)]
          have e1 : n8 (1 : UInt8) = 1 := rfl
          have e2 : n8 (2 : UInt8) = 2 := rfl
          have e3 : n8 (3 : UInt8) = 3 := rfl
          rw [e1, e2, e3]
          by_cases c1 : n8 r.2.2.2.2.2.1 = 1
          · rw [if_neg (not_not_intro c1), if_neg (by omega)]
          rw [if_pos c1]
          by_cases c2 : n8 r.2.2.2.2.2.1 = 2
          · rw [if_neg (not_not_intro c2), if_neg (by omega)]
          rw [if_pos c2]
          by_cases c3 : n8 r.2.2.2.2.2.1 = 3
          · rw [if_neg (not_not_intro c3), if_neg (by omega)]
          · rw [if_pos c3, if_pos (by omega)]
        · rw [if_pos h4]
          by_cases h : r.2.2.2.2.1 < 1
          · rw [if_pos h]
          · rw [if_neg h, if_pos (by omega)]
      · rw [if_pos h3]
        by_cases h : r.2.2.2.1 < 0
        · rw [if_pos h]
        · rw [if_neg h, if_pos (by omega)]
    · rw [if_pos h2]
      by_cases h : r.2.2.1 < 1
      · rw [if_pos h]
      · rw [if_neg h, if_pos (by omega)]
  · rw [if_pos h1]
    by_cases h : r.2.1 < 0
    · rw [if_pos h]
    · rw [if_neg h, if_pos (by omega)]

def chkRegs : Option Reg → List Reg → Int
  | _, [] => 0
  | p, r :: l => if regChk r ≠ 0 then regChk r else match p with
    | none => chkRegs (some r) l
    | some q => if r.1 = q.1 then 7 else if slt r.1 q.1 = true then 8 else chkRegs (some r) l
def regsChk (l : List Reg) : Int := if 16 < l.length then 9 else chkRegs none l
/-- one round of the check -/
def regRnd (p : Option Reg) (r : Reg) : Option Int ⊕ Unit := if regChk r ≠ 0 then .inl (some (regChk r)) else match p with
    | none => .inr ()
    | some q => if r.1 = q.1 then .inl (some 7) else if slt r.1 q.1 = true then .inl (some 8) else .inr ()
theorem itI_regs (l : List Reg) : ∀ (r : List Reg) (i : Nat), l.drop i = r → i ≤ l.length → itI (fun i x (_ : Unit) => regRnd (before l i) x) (fun _ => some (0 : Int)) i r () = some (chkRegs (before l i) r)
  | [], i, _, _ => rfl
  | x :: r, i, h, hi => by
    have hx : l[i]? = some x := by rw [← List.head?_drop, h]; rfl
    have hr : l.drop (i + 1) = r := by rw [← List.drop_drop, h]; rfl
    have hl : i < l.length := (List.getElem?_eq_some_iff.1 hx).1
    simp only [itI, chkRegs, regRnd]
    have e : before l (i + 1) = some x := hx
    have ih := itI_regs l r (i + 1) hr (by omega)
    rw [e] at ih
    by_cases hc : regChk x ≠ 0
    · rw [if_pos hc, if_pos hc]
    · rw [if_neg hc, if_neg hc]
      cases before l i with
      | none => exact ih
      | some q =>
        simp only
        by_cases h7 : x.1 = q.1
        · rw [if_pos h7, if_pos h7]
        · rw [if_neg h7, if_neg h7]
          by_cases h8 : slt x.1 q.1 = true
          · rw [if_pos h8, if_pos h8]
          · rw [if_neg h8, if_neg h8]
            exact ih
theorem region_list (l : List Reg) : region_CheckList fuelH l = some (regsChk l) := by
  unfold region_CheckList
  by_cases h : 16 < l.length
  · rw [cnd_t (ilt_t (by simp only [len]; omega))]; simp [regsChk, h]
  · rw [cnd_f (ilt_f (by simp only [len]; omega)), jn_e]
    refine Eq.trans (lst_it (l := l) (fun (_ : Unit) (p : Nat) => (p : Int)) (fun i x (_ : Unit) => regRnd (before l i) x) (fun _ => some (0 : Int)) (fun _ _ => True) (fun self a i hi _ => ?_) (fun self a _ => ?_) fuelH 0 () (Nat.zero_le _) (by have := fuelH_eq; omega) trivial) ?_
    · rw [cnd_t (ilt_t (by simp only [len]; omega)), grd_t (inb_t (by simp only [len]; omega)), lget_i hi, bnd_s (region_check _)]
      unfold regRnd
      by_cases hc : regChk l[i] ≠ 0
      · rw [if_pos hc, cnd_t (ine_t hc)]; rfl
      · rw [if_neg hc, cnd_f (ine_f (by simpa using hc)), jn_e, w64_succ hi (by omega)]
        cases i with
        | zero =>
          rw [cnd_f (by rfl), cnd_f (by rfl)]
          exact ⟨rfl, trivial⟩
        | succ i =>
          have e0 : before l (i + 1) = some l[i] := by simp only [before]; exact List.getElem?_eq_getElem (by omega)
          have hin : inb ((i : Nat) : Int) (len l) = true := inb_t (by simp only [len]; omega)
          have hp : ilt (0 : Int) ((i + 1 : Nat) : Int) = true := ilt_t (by omega)
          rw [e0, cnd_t hp, w64_back (by omega), grd_t hin, lget_i (show i < l.length by omega), cnd_t hp, grd_t hin]
          simp only
          by_cases h7 : l[i + 1].1 = l[i].1
          · rw [if_pos h7, cnd_t (by rw [seq_t]; exact h7)]; rfl
          · rw [if_neg h7, cnd_f (by rw [← Bool.not_eq_true, seq_t]; exact h7)]
            by_cases h8 : slt l[i + 1].1 l[i].1 = true
            · rw [if_pos h8, cnd_t h8]; rfl
            · rw [if_neg h8, cnd_f (by simpa using h8)]
              exact ⟨rfl, trivial⟩
    · rw [cnd_f (ilt_f (by simp only [len]; omega))]
    · rw [List.drop_zero, itI_regs l l 0 rfl (Nat.zero_le _)]
      simp [regsChk, h, before]
theorem r10_list (l : List Reg) : r10_CheckList fuelH l = some (regsChk l) := by
  rw [← region_list]
  have e : r10_Check fuelH = region_Check fuelH := funext fun r => by rw [r10_check, region_check]
  unfold r10_CheckList region_CheckList
  rw [e]

def defR : Reg := ([], 11, 4, 0, 32, 2, true)
def noR : Reg := ([], 0, 0, 0, 0, 0, false)
def findR (l : List Reg) (n : List UInt8) : Option Reg := if n = [] then some defR else l.find? fun r => decide (r.1 = n)
def findP (l : List Reg) (n : List UInt8) : Reg × Bool := match findR l n with
  | some r => (r, true)
  | none => (noR, false)
theorem itI_find (n : List UInt8) : ∀ (l : List Reg) (i : Nat), itI (fun _ (x : Reg) (_ : Unit) => if x.1 = n then (.inl (some (x, true)) : Option (Reg × Bool) ⊕ Unit) else .inr ()) (fun _ => some (noR, false)) i l () = some (match l.find? fun r => decide (r.1 = n) with | some r => (r, true) | none => (noR, false))
  | [], _ => rfl
  | x :: l, i => by
    simp only [itI, List.find?_cons]
    by_cases h : x.1 = n
    · rw [if_pos h, decide_eq_true h]
    · rw [if_neg h, decide_eq_false h]
      exact itI_find n l (i + 1)
theorem region_find (l : List Reg) (hl : l.length ≤ 4000000) (n : List UInt8) : region_Find fuelH (l, n) = some (findP l n) := by
  unfold region_Find findP findR
  simp only
  by_cases h : n = []
  · rw [cnd_t (by rw [seq_t]; exact h), if_pos h]; rfl
  · rw [cnd_f (by rw [← Bool.not_eq_true, seq_t]; exact h), if_neg h, jn_e]
    refine Eq.trans (lst_it (l := l) (fun (_ : Unit) (p : Nat) => (p : Int)) (fun _ (x : Reg) (_ : Unit) => if x.1 = n then .inl (some (x, true)) else .inr ()) (fun _ => some (noR, false)) (fun _ _ => True) (fun self a i hi _ => ?_) (fun self a _ => ?_) fuelH 0 () (Nat.zero_le _) (by have := fuelH_eq; omega) trivial) (itI_find n l 0)
    · have hin : inb (i : Int) (len l) = true := inb_t (by simp only [len]; omega)
      rw [cnd_t (ilt_t (by simp only [len]; omega)), grd_t hin, lget_i hi]
      by_cases hc : l[i].1 = n
      · rw [if_pos hc, cnd_t (by rw [seq_t]; exact hc)]; rfl
      · rw [if_neg hc, cnd_f (by rw [← Bool.not_eq_true, seq_t]; exact hc), w64_succ hi (by omega)]
        exact ⟨rfl, trivial⟩
    · rw [cnd_f (ilt_f (by simp only [len]; omega))]
      rfl
theorem r10_find : r10_Find fuelH = region_Find fuelH := by kernel_rfl
end
end Go.Mo
end

section
/-
  Plain facts: the places of rows.
-/
namespace Go.Mo
open Go Go.W Go.Lib
set_option maxRecDepth 100000
noncomputable section

def usableR (r : Reg) : Prop := r = defR ∨ regChk r = 0
instance (r : Reg) : Decidable (usableR r) := by unfold usableR; infer_instance
theorem reg_eq {a b : Reg} : (a = b) = (a.1 = b.1 ∧ a.2.1 = b.2.1 ∧ a.2.2.1 = b.2.2.1 ∧ a.2.2.2.1 = b.2.2.2.1 ∧ a.2.2.2.2.1 = b.2.2.2.2.1 ∧ a.2.2.2.2.2.1 = b.2.2.2.2.2.1 ∧ a.2.2.2.2.2.2 = b.2.2.2.2.2.2) := by
  obtain ⟨a1, a2, a3, a4, a5, a6, a7⟩ := a; obtain ⟨b1, b2, b3, b4, b5, b6, b7⟩ := b; simp
theorem def_band (x : Reg) : (band (seq x.1 defR.1) (band (ieq x.2.1 defR.2.1) (band (ieq x.2.2.1 defR.2.2.1) (band (ieq x.2.2.2.1 defR.2.2.2.1) (band (ieq x.2.2.2.2.1 defR.2.2.2.2.1) (band (ieq (n8 x.2.2.2.2.2.1) (n8 defR.2.2.2.2.2.1)) (beqb x.2.2.2.2.2.2 defR.2.2.2.2.2.2)))))) = true) = (x = defR) := by
  simp only [band_tt, seq_t, ieq_tt, beqb_t, n8_eq]
  exact reg_eq.symm
theorem region_usable_eq (r : Reg) : region_usable fuelH r = some (decide (usableR r)) := by
  unfold region_usable
  rw [bnd_s (show region_Default fuelH () = some defR from rfl), region_check, bnd_some']
  by_cases h : r = defR
  · rw [cnd_t ((def_band r).mpr h), @decide_eq_true (usableR r) _ (.inl h)]
  · rw [cnd_f (by rw [← Bool.not_eq_true]; exact fun k => h ((def_band r).mp k))]
    congr 1
    by_cases h2 : regChk r = 0
    · rw [ieq_t h2, @decide_eq_true (usableR r) _ (.inr h2)]
    · rw [ieq_f h2, @decide_eq_false (usableR r) _ (fun k => k.elim h h2)]
theorem r10_usable_eq (r : Reg) : r10_usable fuelH r = some (decide (usableR r)) := by
  unfold r10_usable
  rw [bnd_s (show r10_Default fuelH () = some defR from rfl), r10_check, bnd_some']
  by_cases h2 : regChk r = 0
  · rw [cnd_t (ieq_t h2), @decide_eq_true (usableR r) _ (.inr h2)]
  · rw [cnd_f (ieq_f h2)]
    congr 1
    have hd := def_band r
    by_cases h : r = defR
    · rw [@decide_eq_true (usableR r) _ (.inl h)]
      exact hd.mpr h
    · rw [@decide_eq_false (usableR r) _ (fun k => k.elim h h2), ← Bool.not_eq_true]
      exact fun k => h (hd.mp k)
theorem usable_bd {r : Reg} (h : usableR r) : 0 ≤ r.2.1 ∧ 1 ≤ r.2.2.1 ∧ r.2.1 + r.2.2.1 ≤ 15 ∧ 0 ≤ r.2.2.2.1 ∧ 1 ≤ r.2.2.2.2.1 ∧ r.2.2.2.1 + r.2.2.2.2.1 ≤ 32 ∧ 1 ≤ n8 r.2.2.2.2.2.1 ∧ n8 r.2.2.2.2.2.1 ≤ 3 := by
  rcases h with rfl | h
  · decide
  · unfold regChk at h
    split at h
    · cases h
    split at h
    · cases h
    split at h
    · cases h
    split at h
    · cases h
    split at h
    · cases h
    split at h
    · cases h
    omega

def colOf (r : Reg) (n : Int) : Int := if n8 r.2.2.2.2.2.1 = 3 then r.2.2.2.1 + (r.2.2.2.2.1 - n) else if n8 r.2.2.2.2.2.1 = 2 then r.2.2.2.1 + (r.2.2.2.2.1 - n).tdiv 2 else r.2.2.2.1
def topOf (r : Reg) (k : Nat) : Int := if r.2.2.2.2.2.2 = true then r.2.1 + (r.2.2.1 - (k : Int)) else r.2.1
def plRnd (r : Reg) (k : Nat) (i : Nat) (n : Int) (out : List Spot) : Option (List Spot × Int) ⊕ List Spot :=
  if n < 0 then .inl (some ([], 2)) else if r.2.2.2.2.1 < n then .inl (some ([], 11)) else .inr (out ++ [(topOf r k + (i : Int), colOf r n, n)])
def placeL (r : Reg) (k : Nat) : Nat → List Int → List Spot → List Spot × Int
  | _, [], out => (out, 0)
  | i, n :: l, out => if n < 0 then ([], 2) else if r.2.2.2.2.1 < n then ([], 11) else placeL r k (i + 1) l (out ++ [(topOf r k + (i : Int), colOf r n, n)])
def placeS (r : Reg) (l : List Int) : List Spot × Int := if ¬ usableR r then ([], 1) else if r.2.2.1 < (l.length : Int) then ([], 9) else placeL r l.length 0 l []
theorem itI_place (r : Reg) (k : Nat) : ∀ (l : List Int) (i : Nat) (out : List Spot), itI (plRnd r k) (fun a => some (a, (0 : Int))) i l out = some (placeL r k i l out)
  | [], i, out => rfl
  | n :: l, i, out => by
    simp only [itI, placeL, plRnd]
    by_cases h1 : n < 0
    · rw [if_pos h1, if_pos h1]
    · rw [if_neg h1, if_neg h1]
      by_cases h2 : r.2.2.2.2.1 < n
      · rw [if_pos h2, if_pos h2]
      · rw [if_neg h2, if_neg h2]
        exact itI_place r k l (i + 1) _
theorem jn_cnd {α β : Type} (K : α → Option β) (b : Bool) (x y : α) : jn K (fun v => cnd b (v x) (v y)) = K (if b = true then x else y) := by
  rw [jn_e]; cases b <;> rfl
theorem half_bd {x : Int} (h : 0 ≤ x) : 0 ≤ x.tdiv 2 ∧ x.tdiv 2 ≤ x := by
  rw [Int.tdiv_eq_ediv_of_nonneg h]; omega
/-- the numbers of one place do not wrap -/
theorem spot_w {r : Reg} (hu : usableR r) {k i : Nat} {n : Int} (hk : (k : Int) ≤ r.2.2.1) (hi : i < k) (h0 : 0 ≤ n) (hn : n ≤ r.2.2.2.2.1) :
    w64 (iadd (topOf r k) (i : Int)) = topOf r k + (i : Int) ∧ w64 (isub r.2.2.2.2.1 n) = r.2.2.2.2.1 - n ∧ w64 (iadd r.2.2.2.1 (r.2.2.2.2.1 - n)) = r.2.2.2.1 + (r.2.2.2.2.1 - n) ∧ w64 (idiv (r.2.2.2.2.1 - n) 2) = (r.2.2.2.2.1 - n).tdiv 2 ∧ w64 (iadd r.2.2.2.1 ((r.2.2.2.2.1 - n).tdiv 2)) = r.2.2.2.1 + (r.2.2.2.2.1 - n).tdiv 2 := by
  have hb := usable_bd hu
  have hd := half_bd (x := r.2.2.2.2.1 - n) (by omega)
  refine ⟨?_, ?_, ?_, ?_, ?_⟩
  · unfold iadd topOf
    rw [w64_id]
    split <;> omega
  · unfold isub; rw [w64_id (by omega)]
  · unfold iadd; rw [w64_id (by omega)]
  · unfold idiv; rw [w64_id (by omega)]
  · unfold iadd; rw [w64_id (by omega)]
theorem region_place (r : Reg) (l : List Int) : region_Place fuelH (r, l) = some (placeS r l) := by
  unfold region_Place placeS
  simp only
  rw [region_usable_eq, bnd_some', cnd_bnot]
  by_cases hu : usableR r
  · rw [if_pos hu, if_neg (not_not_intro hu)]
    have hb := usable_bd hu
    by_cases hk : r.2.2.1 < (l.length : Int)
    · rw [cnd_t (ilt_t (show r.2.2.1 < len l from hk)), if_pos hk]
    · rw [cnd_f (ilt_f (show ¬ r.2.2.1 < len l from hk)), if_neg hk, jn_cnd]
      have et : (if r.2.2.2.2.2.2 = true then w64 (iadd r.2.1 (w64 (isub r.2.2.1 (len l)))) else r.2.1) = topOf r l.length := by
        unfold topOf
        have e1 : w64 (isub r.2.2.1 (len l)) = r.2.2.1 - (l.length : Int) := by unfold isub len; rw [w64_id (by omega)]
        rw [e1]
        unfold iadd
        rw [w64_id (by omega)]
      rw [et, jn_e]
      refine Eq.trans (lst_it (l := l) (fun (a : List Spot) (p : Nat) => (a, (p : Int))) (plRnd r l.length) (fun a => some (a, (0 : Int))) (fun i a => a.length ≤ i) (fun self a i hi ha => ?_) (fun self a _ => ?_) fuelH 0 [] (Nat.zero_le _) (by have := fuelH_eq; omega) (Nat.le_refl _)) (itI_place r l.length l 0 [])
      · have hin : inb (i : Int) (len l) = true := inb_t (by simp only [len]; omega)
        simp only
        rw [cnd_t (ilt_t (by simp only [len]; omega)), grd_t hin, lget_i hi, w64_succ hi (by omega)]
        unfold plRnd
        by_cases h1 : l[i] < 0
        · rw [if_pos h1, cnd_t (ilt_t h1)]; rfl
        · rw [if_neg h1, cnd_f (ilt_f h1)]
          by_cases h2 : r.2.2.2.2.1 < l[i]
          · rw [if_pos h2, cnd_t (ilt_t h2)]; rfl
          · rw [if_neg h2, cnd_f (ilt_f h2)]
            obtain ⟨q1, q2, q3, q4, q5⟩ := spot_w hu (k := l.length) (i := i) (n := l[i]) (by omega) hi (by omega) (by omega)
            have hroom : ∀ s : Spot, room (iadd (len a) (len [s])) 24 = true := fun s => room_t (by simp only [iadd, len, List.length_singleton]; omega)
            rw [q1, q2, q3, q4, q5]
            rw [grd_t (hroom _), grd_t (hroom _), grd_t (hroom _)]
            refine ⟨?_, by simp only [List.length_append, List.length_singleton]; omega⟩
            unfold colOf
            have e3 : n8 (3 : UInt8) = 3 := rfl
            have e2 : n8 (2 : UInt8) = 2 := rfl
            rw [cnd_ieq, cnd_ieq, e3, e2]
            by_cases c3 : n8 r.2.2.2.2.2.1 = 3
            · rw [if_pos c3, if_pos c3]; rfl
            · rw [if_neg c3, if_neg c3]
              by_cases c2 : n8 r.2.2.2.2.2.1 = 2
              · rw [if_pos c2, if_pos c2]; rfl
              · rw [if_neg c2, if_neg c2]; rfl
      · simp only
        rw [cnd_f (ilt_f (by simp only [len]; omega))]
  · rw [if_neg hu, if_pos hu]
theorem r10_place (r : Reg) (l : List Int) : r10_Place fuelH (r, l) = some (placeS r l) := by
  unfold r10_Place placeS
  simp only
  rw [r10_usable_eq, bnd_some', cnd_bnot]
  by_cases hu : usableR r
  · rw [if_pos hu, if_neg (not_not_intro hu)]
    have hb := usable_bd hu
    by_cases hk : r.2.2.1 < (l.length : Int)
    · rw [cnd_t (ilt_t (show r.2.2.1 < len l from hk)), if_pos hk]
    · rw [cnd_f (ilt_f (show ¬ r.2.2.1 < len l from hk)), if_neg hk, jn_e]
      refine Eq.trans (lst_it (l := l) (fun (a : List Spot) (p : Nat) => (a, (p : Int))) (plRnd r l.length) (fun a => some (a, (0 : Int))) (fun i a => a.length ≤ i) (fun self a i hi ha => ?_) (fun self a _ => ?_) fuelH 0 [] (Nat.zero_le _) (by have := fuelH_eq; omega) (Nat.le_refl _)) (itI_place r l.length l 0 [])
      · have hin : inb (i : Int) (len l) = true := inb_t (by simp only [len]; omega)
        simp only
        rw [cnd_t (ilt_t (by simp only [len]; omega)), grd_t hin, lget_i hi, w64_succ hi (by omega)]
        unfold plRnd
        by_cases h1 : l[i] < 0
        · rw [if_pos h1, cnd_t (ilt_t h1)]; rfl
        · rw [if_neg h1, cnd_f (ilt_f h1)]
          by_cases h2 : r.2.2.2.2.1 < l[i]
          · rw [if_pos h2, cnd_t (ilt_t h2)]; rfl
          · rw [if_neg h2, cnd_f (ilt_f h2), jn_cnd]
            obtain ⟨q1, q2, q3, q4, q5⟩ := spot_w hu (k := l.length) (i := i) (n := l[i]) (by omega) hi (by omega) (by omega)
            have et : (if r.2.2.2.2.2.2 = true then (w64 (iadd (w64 (iadd r.2.1 (i : Int))) (w64 (isub r.2.2.1 (len l)))), r.2.2.2.1, l[i]) else (w64 (iadd r.2.1 (i : Int)), r.2.2.2.1, l[i])) = ((topOf r l.length + (i : Int), r.2.2.2.1, l[i]) : Spot) := by
              have e1 : w64 (isub r.2.2.1 (len l)) = r.2.2.1 - (l.length : Int) := by unfold isub len; rw [w64_id (by omega)]
              have e2 : w64 (iadd r.2.1 (i : Int)) = r.2.1 + (i : Int) := by unfold iadd; rw [w64_id (by omega)]
              have e3 : w64 (iadd (r.2.1 + (i : Int)) (r.2.2.1 - (l.length : Int))) = r.2.1 + (r.2.2.1 - (l.length : Int)) + (i : Int) := by unfold iadd; rw [w64_id (by omega)]; omega
              rw [e1, e2, e3]
              unfold topOf
              split <;> rfl
            rw [et]
            simp only
            have hroom : ∀ s : Spot, room (iadd (len a) (len [s])) 24 = true := fun s => room_t (by simp only [iadd, len, List.length_singleton]; omega)
            rw [q2, q3, q4, q5]
            rw [grd_t (hroom _), grd_t (hroom _), grd_t (hroom _)]
            refine ⟨?_, by simp only [List.length_append, List.length_singleton]; omega⟩
            unfold colOf
            have e3 : n8 (3 : UInt8) = 3 := rfl
            have e2 : n8 (2 : UInt8) = 2 := rfl
            rw [cnd_ieq, cnd_ieq, e3, e2]
            by_cases c3 : n8 r.2.2.2.2.2.1 = 3
            · rw [if_pos c3, if_pos c3]; rfl
            · rw [if_neg c3, if_neg c3]
              by_cases c2 : n8 r.2.2.2.2.2.1 = 2
              · rw [if_pos c2, if_pos c2]; rfl
              · rw [if_neg c2, if_neg c2]; rfl
      · simp only
        rw [cnd_f (ilt_f (by simp only [len]; omega))]
  · rw [if_neg hu, if_pos hu]
end
end Go.Mo
end

section
/-
  Plain facts: the text and the length of a row; events and their check.
-/
namespace Go.Mo
open Go Go.W Go.Lib
set_option maxRecDepth 100000
noncomputable section
abbrev Ev := Int × (Int × Int) × List UInt8 × UInt8 × List UInt8 × List Row

theorem rune_count {s : List UInt8} (hs : s.length ≤ 4000000) : utf8_RuneCountInString fuelH s = some ((rns s).length : Int) := by
  unfold utf8_RuneCountInString
  rw [jn_e]
  have hf : ∀ (l : List Int) (n : Nat), n + l.length ≤ 100000000 → foldR (fun (_ : Int) (a : Int) self => self (w64 (iadd a 1))) (fun a => some a) l (n : Int) = some ((n + l.length : Nat) : Int) := by
    intro l
    induction l with
    | nil => intro n _; rfl
    | cons r l ih =>
      intro n hn
      simp only [List.length_cons] at hn
      simp only [foldR]
      rw [w64_succ (show n < n + 1 by omega) (by omega), ih (n + 1) (by omega)]
      simp only [List.length_cons]
      congr 2
      omega
  refine (str_loop (s := s) (fun (a : Int) (p : Nat) => (a, s, ofN p)) (fun _ a self => self (w64 (iadd a 1))) (fun a => some a) (fun self a p hp => ?_) (fun self a p hp => ?_) fuelH 0 (0 : Int) (by have := fuelH_eq; omega)).trans ?_
  · simp only [toN_ofN]
    rw [cnd_t (nlt_t (show p < nlen s from hp))]
    rfl
  · simp only [toN_ofN]
    rw [cnd_f (nlt_f (show ¬ p < nlen s by unfold nlen; omega))]
  · have := rns_len _ s (Nat.le_refl _)
    have h := hf (rns s) 0 (by omega)
    rw [List.drop_zero]
    simpa using h
theorem ch_len {s : List UInt8} (hs : s.length ≤ 4000000) (hv : vld s = true) : charset_Len fuelH s = some ((rns s).length : Int) := by
  unfold charset_Len
  rw [ch_valid _ hs, bnd_some', hv, cnd_f (by rfl), rune_count hs]
  rfl
theorem r08_len {s : List UInt8} (hs : s.length ≤ 4000000) (hv : vld s = true) : r08_Len fuelH s = some ((rns s).length : Int) := by
  unfold r08_Len
  rw [r08_valid _ hs, bnd_some', hv, cnd_f (by rfl), r08_runes_eq hs]
  rfl
def lenT : Row → Nat
  | [] => 0
  | x :: l => (rns x.1).length + lenT l
def plainT (l : Row) : List UInt8 := l.flatMap (·.1)
/-- a row whose check says yes, of texts that are not too long -/
def okR (l : Row) : Prop := l.length ≤ 16 ∧ (∀ x ∈ l, vld x.1 = true ∧ x.1.length ≤ 4000000) ∧ tot l ≤ 4000000
def smallR (l : Row) : Prop := shortR l ∧ tot l ≤ 4000000
def smallL (l : List Row) : Prop := ∀ r ∈ l, smallR r
theorem okR_of {l : Row} (hs : smallR l) (h : rowChk l = 0) : okR l := by
  obtain ⟨h1, h2⟩ := rowChk_ok h
  exact ⟨h1, fun x hx => ⟨(h2 x hx).1, (hs.1 x hx).1⟩, hs.2⟩
theorem lenT_le : ∀ (l : Row), (∀ x ∈ l, x.1.length ≤ 4000000) → lenT l ≤ 4000000 * l.length
  | [], _ => Nat.le_refl _
  | x :: l, h => by
    have h1 := rns_len _ x.1 (Nat.le_refl _)
    have h2 := h x List.mem_cons_self
    have h3 := lenT_le l fun y hy => h y (List.mem_cons_of_mem _ hy)
    simp only [lenT, List.length_cons]
    omega
theorem lenT_take : ∀ (l : Row) (i : Nat) (h : i < l.length), lenT (l.take (i + 1)) = lenT (l.take i) + (rns l[i].1).length
  | x :: l, 0, _ => by simp [lenT]
  | x :: l, i + 1, h => by
    have := lenT_take l i (by simpa using h)
    simp only [List.take_succ_cons, lenT, this, List.getElem_cons_succ]
    omega
theorem lenT_take_le (l : Row) (i : Nat) : lenT (l.take i) ≤ lenT l := by
  induction l generalizing i with
  | nil => simp [lenT]
  | cons x l ih => cases i with
    | zero => simp [lenT]
    | succ i => simp only [List.take_succ_cons, lenT]; have := ih i; omega
theorem len_loop {l : Row} (h : okR l) (L : List UInt8 → Option Int) (hL : ∀ s : List UInt8, s.length ≤ 4000000 → vld s = true → L s = some ((rns s).length : Int)) :
    fixN (fun (v2 : Int × Int → Option Int) (v3 : Int × Int) =>
    cnd (ilt v3.2 (len l))
      (grd (inb v3.2 (len l))
        (bnd (L (lget l (toN v3.2) ([], (((0 : UInt8), (false, false)), []))).1) fun v4 =>
        cnd (ilt v4 (0 : Int))
          (some (-1 : Int))
          (v2 (w64 (iadd v3.1 v4), w64 (iadd v3.2 (1 : Int))))))
      (some v3.1)) fuelH ((0 : Int), (0 : Int)) = some (lenT l : Int) := by
  have hb := lenT_le l fun x hx => (h.2.1 x hx).2
  have hl := h.1
  refine loop_inv (n := l.length) (fun (a : Nat) (i : Nat) => ((a : Int), (i : Int))) (fun i a => a = lenT (l.take i)) _ (fun self a i hi hI => ?_) (fun self a hI => ?_) fuelH 0 0 (Nat.zero_le _) (by have := fuelH_eq; omega) rfl
  · refine ⟨a + (rns l[i].1).length, ?_, ?_⟩
    · have ht := lenT_take l i hi
      have ht2 := lenT_take_le l (i + 1)
      simp only
      rw [cnd_t (ilt_t (by simp only [len]; omega)), grd_t (inb_t (by simp only [len]; omega)), lget_i hi, hL _ (h.2.1 _ (List.getElem_mem hi)).2 (h.2.1 _ (List.getElem_mem hi)).1, bnd_some', cnd_f (ilt_f (by omega)), w64_succ hi (by omega)]
      have e : w64 (iadd (a : Int) ((rns l[i].1).length : Int)) = ((a + (rns l[i].1).length : Nat) : Int) := by
        unfold iadd; rw [w64_id (by omega)]; omega
      rw [e]
    · rw [lenT_take l i hi, hI]
  · simp only
    rw [cnd_f (ilt_f (by simp only [len]; omega)), hI, List.take_length]
theorem style_len {l : Row} (h : okR l) : style_Len fuelH l = some (lenT l : Int) := by
  unfold style_Len
  rw [jn_e]
  exact len_loop h (charset_Len fuelH) fun s => ch_len
theorem r09_len {l : Row} (h : okR l) : r09_Len fuelH l = some (lenT l : Int) := by
  unfold r09_Len
  rw [jn_e]
  exact len_loop h (r08_Len fuelH) fun s => r08_len

theorem plainT_take (l : Row) (i : Nat) (h : i < l.length) : plainT (l.take (i + 1)) = plainT (l.take i) ++ l[i].1 := by
  unfold plainT
  rw [List.take_succ_eq_append_getElem h, List.flatMap_append]
  simp
theorem plainT_len : ∀ (l : Row), (plainT l).length = tot l
  | [] => rfl
  | x :: l => by
    have h3 := plainT_len l
    unfold plainT at h3 ⊢
    simp only [List.flatMap_cons, List.length_append, tot, h3]
theorem tot_take (l : Row) (i : Nat) : tot (l.take i) ≤ tot l := by
  have h := tot_app (l.take i) (l.drop i)
  rw [List.take_append_drop] at h
  omega
theorem plainT_le {l : Row} (h : okR l) (i : Nat) : (plainT (l.take i)).length ≤ 4000000 := by
  rw [plainT_len]
  have := tot_take l i
  have := h.2.2
  omega
theorem write_str {N : Nat} {a b : List UInt8} (h : a.length + b.length ≤ 100000000) : strings_Builder_WriteString N (((), a), b) = some ((b.length : Int), (), (), a ++ b) := by
  unfold strings_Builder_WriteString
  show (grd (room (iadd (len a) (len b)) 1) (some (len b, (), (), lapp a b))) = _
  rw [grd_t (room_t (by simp only [iadd, len]; omega))]
  rfl
theorem style_plain {l : Row} (h : okR l) : style_Plain fuelH l = some (plainT l) := by
  unfold style_Plain
  rw [jn_e]
  have hl := h.1
  refine loop_inv (n := l.length) (fun (a : List UInt8) (i : Nat) => ((i : Int), (), a)) (fun i a => a = plainT (l.take i)) _ (fun self a i hi hI => ?_) (fun self a hI => ?_) fuelH 0 [] (Nat.zero_le _) (by have := fuelH_eq; omega) rfl
  · refine ⟨a ++ l[i].1, ?_, ?_⟩
    · have h1 := plainT_le h i
      have h2 := (h.2.1 _ (List.getElem_mem hi)).2
      simp only
      rw [cnd_t (ilt_t (by simp only [len]; omega)), grd_t (inb_t (by simp only [len]; omega)), lget_i hi, write_str (by rw [hI]; omega), bnd_some', w64_succ hi (by omega)]
    · rw [plainT_take l i hi, hI]
  · simp only
    rw [cnd_f (ilt_f (by simp only [len]; omega)), hI, List.take_length]
theorem r09_plain {l : Row} (h : okR l) : r09_Plain fuelH l = some (plainT l) := by
  unfold r09_Plain
  rw [jn_e]
  have hl := h.1
  refine loop_inv (n := l.length) (fun (a : List UInt8) (i : Nat) => (a, (i : Int))) (fun i a => a = plainT (l.take i)) _ (fun self a i hi hI => ?_) (fun self a hI => ?_) fuelH 0 [] (Nat.zero_le _) (by have := fuelH_eq; omega) rfl
  · refine ⟨a ++ l[i].1, ?_, ?_⟩
    · have h1 := plainT_le h i
      have h2 := (h.2.1 _ (List.getElem_mem hi)).2
      simp only
      rw [cnd_t (ilt_t (by simp only [len]; omega)), grd_t (inb_t (by simp only [len]; omega)), lget_i hi, grd_t (catOk_t (by rw [hI]; simp only [iadd, len]; omega)), w64_succ hi (by omega)]
      rfl
    · rw [plainT_take l i hi, hI]
  · simp only
    rw [cnd_f (ilt_f (by simp only [len]; omega)), hI, List.take_length]

def sp2 : List UInt8 → Bool
  | [] => false
  | [_] => false
  | a :: b :: t => ([32, 32] : List UInt8).isPrefixOf (a :: b :: t) || sp2 (b :: t)
theorem sp2_index : ∀ t : List UInt8, decide (0 ≤ index t [32, 32]) = sp2 t
  | [] => rfl
  | [a] => by
    have e : index [a] [32, 32] = if ([32, 32] : List UInt8).isPrefixOf [a] = true then 0 else if (index [] [32, 32] == -1) = true then -1 else index [] [32, 32] + 1 := rfl
    have hp : ([32, 32] : List UInt8).isPrefixOf [a] = false := by cases h : ((32 : UInt8) == a) <;> simp [List.isPrefixOf, h]
    rw [e, hp]
    rfl
  | a :: b :: t => by
    have ih := sp2_index (b :: t)
    have hg := index_ge (b :: t) [32, 32]
    have e : index (a :: b :: t) [32, 32] = if ([32, 32] : List UInt8).isPrefixOf (a :: b :: t) = true then 0 else if (index (b :: t) [32, 32] == -1) = true then -1 else index (b :: t) [32, 32] + 1 := rfl
    have e2 : sp2 (a :: b :: t) = (([32, 32] : List UInt8).isPrefixOf (a :: b :: t) || sp2 (b :: t)) := rfl
    rw [e, e2, ← ih]
    generalize index (b :: t) [32, 32] = m at hg ⊢
    cases ([32, 32] : List UInt8).isPrefixOf (a :: b :: t) with
    | true => rfl
    | false =>
      rw [if_neg (by decide), Bool.false_or]
      by_cases h1 : m = -1
      · subst h1; rfl
      · rw [if_neg (by simpa using h1), decide_eq_true (by omega), decide_eq_true (by omega)]
theorem sp2_contains (t : List UInt8) : contains t [32, 32] = sp2 t := sp2_index t
def neatT (t : List UInt8) : Bool := if t = [] then false else if n8 (lget t (toN (0 : Int)) 0) = n8 (32 : UInt8) then false else if n8 (lget t (toN (w64 (isub (len t) 1))) 0) = n8 (32 : UInt8) then false else !sp2 t
theorem sp2_step {t : List UInt8} {i : Nat} (h : i + 1 < t.length) : sp2 (t.drop i) = (((32 == t[i]) && ((32 == t[i + 1]) && true)) || sp2 (t.drop (i + 1))) := by
  rw [List.drop_eq_getElem_cons (show i < t.length by omega), List.drop_eq_getElem_cons h]
  rfl
theorem beq_n {a : UInt8} (h : ¬ n8 a = n8 (32 : UInt8)) : ((32 : UInt8) == a) = false := by
  rw [beq_eq_false_iff_ne]; intro e; exact h (by rw [← e])
theorem beq_y {a : UInt8} (h : n8 a = n8 (32 : UInt8)) : ((32 : UInt8) == a) = true := by
  rw [n8_inj h]; rfl
theorem neat_loop {t : List UInt8} (ht : t.length ≤ 100000000) : ∀ (fuel i : Nat), t.length - (i + 1) < fuel → i + 1 ≤ t.length →
    fixN (fun (v2 : Int → Option Bool) (v3 : Int) =>
              cnd (ilt v3 (len t))
                (grd (inb v3 (len t))
                  (cnd (ieq (n8 (lget t (toN v3) (0 : UInt8))) (n8 (32 : UInt8)))
                    (grd (inb (w64 (isub v3 (1 : Int))) (len t))
                      (cnd (ieq (n8 (lget t (toN (w64 (isub v3 (1 : Int)))) (0 : UInt8))) (n8 (32 : UInt8)))
                        (some false)
                        (v2 (w64 (iadd v3 (1 : Int))))))
                    (v2 (w64 (iadd v3 (1 : Int))))))
                (some true)) fuel ((i + 1 : Nat) : Int) = some (!sp2 (t.drop i))
  | 0, i, h, _ => by omega
  | fuel + 1, i, h, hi => by
    rw [fixN_s]
    by_cases hl : i + 1 < t.length
    · have h0 : inb ((i : Nat) : Int) (len t) = true := inb_t (by simp only [len]; omega)
      rw [cnd_t (ilt_t (by simp only [len]; omega)), grd_t (inb_t (by simp only [len]; omega)), lget_i hl, w64_succ hl (by omega), w64_back (by omega), grd_t h0, lget_i (show i < t.length by omega), sp2_step hl, neat_loop ht fuel (i + 1) (by omega) (by omega), cnd_ieq, cnd_ieq]
      by_cases c1 : n8 t[i + 1] = n8 (32 : UInt8)
      · rw [if_pos c1, beq_y c1]
        by_cases c2 : n8 t[i] = n8 (32 : UInt8)
        · rw [if_pos c2, beq_y c2]; rfl
        · rw [if_neg c2, beq_n c2]; rfl
      · rw [if_neg c1, beq_n c1]; simp
    · rw [cnd_f (ilt_f (by simp only [len]; omega))]
      have : t.drop i = [t[i]] := by
        rw [List.drop_eq_getElem_cons (show i < t.length by omega), List.drop_eq_nil_of_le (by omega)]
      rw [this]
      rfl
theorem r11_neat_eq {t : List UInt8} (ht : t.length ≤ 4000000) : r11_neat fuelH t = some (neatT t) := by
  unfold r11_neat neatT
  by_cases h0 : t = []
  · rw [cnd_t (by rw [seq_t]; exact h0), if_pos h0]
  · have hl : 0 < t.length := List.length_pos_iff.2 h0
    have e1 : w64 (isub (len t) 1) = ((t.length - 1 : Nat) : Int) := w64_pred hl (by omega)
    have hin : inb (w64 (isub (len t) 1)) (len t) = true := by rw [e1]; exact inb_t (by simp only [len]; omega)
    rw [cnd_f (by rw [← Bool.not_eq_true, seq_t]; exact h0), if_neg h0, grd_t (inb_t (by simp only [len]; omega)), cnd_ieq]
    by_cases h1 : n8 (lget t (toN (0 : Int)) 0) = n8 (32 : UInt8)
    · rw [if_pos h1, if_pos h1]
    · rw [if_neg h1, if_neg h1, grd_t hin, cnd_ieq]
      by_cases h2 : n8 (lget t (toN (w64 (isub (len t) 1))) 0) = n8 (32 : UInt8)
      · rw [if_pos h2, if_pos h2]
      · rw [if_neg h2, if_neg h2, jn_e]
        exact neat_loop (by omega) fuelH 0 (by have := fuelH_eq; omega) hl
def rowE (l : Row) : Int := if rowChk l ≠ 0 then rowChk l else if neatT (plainT l) = false then 4 else if 32 < lenT l then 11 else 0
theorem event_row_eq {l : Row} (hs : smallR l) : event_row fuelH l = some (rowE l) := by
  unfold event_row rowE
  rw [bnd_s (style_check hs.1)]
  by_cases hk : rowChk l ≠ 0
  · rw [cnd_t (ine_t hk), if_pos hk]
  · rw [cnd_f (ine_f (by simpa using hk)), if_neg hk]
    have hr := okR_of hs (by simpa using hk)
    have hp := plainT_le hr l.length
    rw [List.take_length] at hp
    rw [bnd_s (style_plain hr)]
    generalize plainT l = t at hp ⊢
    unfold neatT
    by_cases h0 : t = []
    · rw [cnd_t (by rw [seq_t]; exact h0), if_pos h0, if_pos rfl]
    · have hl : 0 < t.length := List.length_pos_iff.2 h0
      have e1 : w64 (isub (len t) 1) = ((t.length - 1 : Nat) : Int) := w64_pred hl (by omega)
      have hin : inb (w64 (isub (len t) 1)) (len t) = true := by rw [e1]; exact inb_t (by simp only [len]; omega)
      rw [cnd_f (by rw [← Bool.not_eq_true, seq_t]; exact h0), if_neg h0, grd_t (inb_t (by simp only [len]; omega)), cnd_ieq]
      by_cases h1 : n8 (lget t (toN (0 : Int)) 0) = n8 (32 : UInt8)
      · rw [if_pos h1, if_pos h1, if_pos rfl]
      · rw [if_neg h1, if_neg h1, grd_t hin, cnd_ieq]
        by_cases h2 : n8 (lget t (toN (w64 (isub (len t) 1))) 0) = n8 (32 : UInt8)
        · rw [if_pos h2, if_pos h2, if_pos rfl]
        · rw [if_neg h2, if_neg h2]
          have hc : strings_Contains fuelH (t, [32, 32]) = some (sp2 t) := by
            show grd (decide (t.length < 4294967281)) (some (contains t [32, 32])) = _
            rw [grd_t (decide_eq_true (by omega)), sp2_contains]
          rw [bnd_s hc]
          by_cases h3 : sp2 t = true
          · rw [cnd_t h3, h3, if_pos (by decide)]
          · rw [cnd_f (by simpa using h3), Bool.eq_false_iff.2 h3, if_neg (by simp), bnd_s (style_len hr), cnd_ilt]
            by_cases h4 : 32 < lenT l
            · rw [if_pos (by omega), if_pos h4]
            · rw [if_neg (by omega), if_neg h4]
end
end Go.Mo
end

section
/-
  Plain facts: the check of an event, on both sides; spots; the length of an event.
-/
namespace Go.Mo
open Go Go.W Go.Lib
set_option maxRecDepth 100000
noncomputable section

theorem spans_eq (N : Nat) (s : Int × Int) : event_spans N s = some (decide (0 ≤ s.1 ∧ s.1 < s.2 ∧ s.2 ≤ 5184000)) := by
  unfold event_spans
  rw [cnd_ile, cnd_ilt]
  by_cases h1 : 0 ≤ s.1
  · rw [if_pos h1]
    by_cases h2 : s.1 < s.2
    · rw [if_pos h2]; simp [h1, h2, ile]
    · rw [if_neg h2]; simp [h2]
  · rw [if_neg h1]; simp [h1]
theorem spanned_eq (N : Nat) (s : Int × Int) : r11_spanned N s = some (decide (0 ≤ s.1 ∧ s.1 < s.2 ∧ s.2 ≤ 5184000)) := spans_eq N s
def kindP (k : UInt8) : Bool := match event_KindName fuelH k with
  | some s => decide (seq s [] = decide (¬ (1 ≤ n8 k ∧ n8 k ≤ 4)))
  | none => false
theorem kind_tab (k : UInt8) : ∃ s, event_KindName fuelH k = some s ∧ seq s [] = decide (¬ (1 ≤ n8 k ∧ n8 k ≤ 4)) := by
  have h : kindP k = true := all_u8 (P := kindP) (by kernel_rfl) k
  unfold kindP at h
  split at h
  · rename_i s hs
    exact ⟨s, hs, of_decide_eq_true h⟩
  · cases h
theorem jn_sp {β : Type} (K : Bool → Option β) (s : List UInt8) (X : Option Bool) (hX : X = some (nm s)) : jn K (fun v => cnd (sne s ([] : List UInt8)) (bnd X fun w => v (bnot w)) (v false)) = K (decide (s ≠ [] ∧ nm s = false)) := by
  rw [jn_e, hX, bnd_some']
  by_cases h : s = []
  · subst h; rfl
  · rw [cnd_t (by simp [sne, h])]
    congr 1
    cases hn : nm s <;> simp [bnot, h]
def rowsE : List Row → Int → Int
  | [], k => k
  | l :: r, k => if rowE l ≠ 0 then rowE l else rowsE r k
def lens (l : List Row) : List Int := l.map fun r => (lenT r : Int)
def evChk (x : Ev) (rs : List Reg) : Int :=
  if x.1 < 1 then 2 else if 1099511627776 < x.1 then 2 else
  if ¬ (0 ≤ x.2.1.1 ∧ x.2.1.1 < x.2.1.2 ∧ x.2.1.2 ≤ 5184000) then 2 else
  match findR rs x.2.2.1 with
  | none => 6
  | some r =>
    if ¬ (1 ≤ n8 x.2.2.2.1 ∧ n8 x.2.2.2.1 ≤ 4) then 3 else
    if x.2.2.2.2.1 ≠ [] ∧ nm x.2.2.2.2.1 = false then 5 else
    if x.2.2.2.2.2.length = 0 then 9 else if 4 < x.2.2.2.2.2.length then 9 else
    rowsE x.2.2.2.2.2 (placeS r (lens x.2.2.2.2.2)).2
theorem rowE_ok {l : Row} (hs : smallR l) (h : rowE l = 0) : okR l := by
  unfold rowE at h
  split at h
  · rename_i hc; exact absurd h hc
  · rename_i hc; exact okR_of hs (by simpa using hc)
theorem event_lens_eq {x : Ev} (h : ∀ l ∈ x.2.2.2.2.2, okR l) (hl : x.2.2.2.2.2.length ≤ 1000000) : event_lens fuelH x = some (lens x.2.2.2.2.2) := by
  unfold event_lens
  rw [jn_e]
  generalize x.2.2.2.2.2 = l at h hl ⊢
  refine loop_inv (n := l.length) (fun (a : List Int) (i : Nat) => (a, (i : Int))) (fun i a => a = lens (l.take i)) _ (fun self a i hi hI => ?_) (fun self a hI => ?_) fuelH 0 [] (Nat.zero_le _) (by have := fuelH_eq; omega) rfl
  · refine ⟨a ++ [(lenT l[i] : Int)], ?_, ?_⟩
    · have ha : a.length ≤ i := by rw [hI]; unfold lens; rw [List.length_map, List.length_take]; omega
      simp only
      rw [cnd_t (ilt_t (by simp only [len]; omega)), grd_t (inb_t (by simp only [len]; omega)), lget_i hi, style_len (h _ (List.getElem_mem hi)), bnd_some', grd_t (room_t (by simp only [iadd, len, List.length_singleton]; omega)), w64_succ hi (by omega)]
      rfl
    · rw [hI]; unfold lens; rw [List.take_succ_eq_append_getElem hi, List.map_append]; rfl
  · simp only
    rw [cnd_f (ilt_f (by simp only [len]; omega)), hI, List.take_length]
theorem itI_rows (K : Option Int) (k : Int) : ∀ (l : List Row) (i : Nat), ((∀ r ∈ l, rowE r = 0) → K = some k) → itI (fun _ (r : Row) (_ : Unit) => if rowE r ≠ 0 then (.inl (some (rowE r)) : Option Int ⊕ Unit) else .inr ()) (fun _ => K) i l () = some (rowsE l k)
  | [], i, h => h fun r hr => by cases hr
  | r :: l, i, h => by
    simp only [itI, rowsE]
    by_cases hc : rowE r ≠ 0
    · rw [if_pos hc, if_pos hc]
    · rw [if_neg hc, if_neg hc]
      refine itI_rows K k l (i + 1) fun hl => h fun q hq => ?_
      rcases List.mem_cons.1 hq with rfl | hq
      · simpa using hc
      · exact hl q hq
theorem itI_rows2 (K : List Int → Option Int) (k : List Int → Int) (hK : ∀ a, K a = some (k a)) : ∀ (l : List Row) (i : Nat) (a : List Int), itI (fun _ (r : Row) (a : List Int) => if rowE r ≠ 0 then (.inl (some (rowE r)) : Option Int ⊕ List Int) else .inr (a ++ [(lenT r : Int)])) K i l a = some (rowsE l (k (a ++ lens l)))
  | [], i, a => by simp [itI, hK, rowsE, lens]
  | r :: l, i, a => by
    simp only [itI, rowsE]
    by_cases hc : rowE r ≠ 0
    · rw [if_pos hc, if_pos hc]
    · rw [if_neg hc, if_neg hc]
      simp only
      rw [itI_rows2 K k hK l (i + 1)]
      simp [lens]
theorem event_check_eq {x : Ev} {rs : List Reg} (hs : smallL x.2.2.2.2.2) (hr : rs.length ≤ 4000000) : event_Check fuelH (x, rs) = some (evChk x rs) := by
  unfold event_Check evChk
  simp only
  rw [region_find _ hr, bnd_some', cnd_ilt]
  by_cases c1 : x.1 < 1
  · rw [if_pos c1, if_pos c1]
  rw [if_neg c1, if_neg c1, cnd_ilt]
  by_cases c2 : 1099511627776 < x.1
  · rw [if_pos c2, if_pos c2]
  rw [if_neg c2, if_neg c2, spans_eq, bnd_some', cnd_bnot]
  by_cases c3 : 0 ≤ x.2.1.1 ∧ x.2.1.1 < x.2.1.2 ∧ x.2.1.2 ≤ 5184000
  · rw [if_pos c3, if_neg (not_not_intro c3)]
    unfold findP
    cases hf : findR rs x.2.2.1 with
    | none => rfl
    | some r =>
      simp only
      rw [cnd_f (by rfl)]
      obtain ⟨s, k1, k2⟩ := kind_tab x.2.2.2.1
      rw [bnd_s k1, k2, cnd_dec]
      by_cases c4 : 1 ≤ n8 x.2.2.2.1 ∧ n8 x.2.2.2.1 ≤ 4
      · rw [if_neg (not_not_intro c4), if_neg (not_not_intro c4), jn_sp _ _ _ (lines_name _), cnd_dec]
        by_cases c5 : x.2.2.2.2.1 ≠ [] ∧ nm x.2.2.2.2.1 = false
        · rw [if_pos c5, if_pos c5]
        rw [if_neg c5, if_neg c5]
        by_cases c6 : x.2.2.2.2.2.length = 0
        · rw [cnd_t (ieq_t (by simp only [len]; omega)), if_pos c6]
        rw [cnd_f (ieq_f (by simp only [len]; omega)), if_neg c6]
        by_cases c7 : 4 < x.2.2.2.2.2.length
        · rw [cnd_t (ilt_t (by simp only [len]; omega)), if_pos c7]
        rw [cnd_f (ilt_f (by simp only [len]; omega)), if_neg c7, jn_e]
        have hlen := @event_lens_eq x
        generalize x.2.2.2.2.2 = l at hs c6 c7 hlen ⊢
        refine Eq.trans (lst_it (l := l) (fun (_ : Unit) (p : Nat) => (p : Int)) (fun _ (r : Row) (_ : Unit) => if rowE r ≠ 0 then .inl (some (rowE r)) else .inr ()) (fun _ => bnd (event_lens fuelH x) fun v5 => bnd (region_Place fuelH (r, v5)) fun v6 => some v6.2) (fun _ _ => True) (fun self a i hi _ => ?_) (fun self a _ => ?_) fuelH 0 () (Nat.zero_le _) (by have := fuelH_eq; omega) trivial) (itI_rows _ _ l 0 fun hl => ?_)
        · rw [cnd_t (ilt_t (by simp only [len]; omega)), grd_t (inb_t (by simp only [len]; omega)), lget_i hi, bnd_s (event_row_eq (hs _ (List.getElem_mem hi))), w64_succ hi (by omega)]
          by_cases hc : rowE l[i] ≠ 0
          · rw [if_pos hc, cnd_t (ine_t hc)]; rfl
          · rw [if_neg hc, cnd_f (ine_f (by simpa using hc))]
            exact ⟨rfl, trivial⟩
        · rw [cnd_f (ilt_f (by simp only [len]; omega))]
        · rw [bnd_s (hlen (fun q hq => rowE_ok (hs q hq) (hl q hq)) (by omega)), bnd_s (region_place _ _)]
      · rw [if_pos c4, if_pos c4]
  · rw [if_neg c3, if_pos c3]
theorem r11_check_eq {x : Ev} {rs : List Reg} (hs : smallL x.2.2.2.2.2) (hr : rs.length ≤ 4000000) : r11_Check fuelH (x, rs) = some (evChk x rs) := by
  unfold r11_Check evChk
  simp only
  rw [cnd_ilt]
  by_cases c1 : x.1 < 1
  · rw [if_pos c1, if_pos c1]
  rw [if_neg c1, if_neg c1, cnd_ilt]
  by_cases c2 : 1099511627776 < x.1
  · rw [if_pos c2, if_pos c2]
  rw [if_neg c2, if_neg c2, spanned_eq, bnd_some', cnd_bnot]
  by_cases c3 : 0 ≤ x.2.1.1 ∧ x.2.1.1 < x.2.1.2 ∧ x.2.1.2 ≤ 5184000
  · rw [if_pos c3, if_neg (not_not_intro c3), r10_find, region_find _ hr, bnd_some']
    unfold findP
    cases hf : findR rs x.2.2.1 with
    | none => rfl
    | some r =>
      simp only
      rw [cnd_f (by rfl)]
      have e1 : n8 (1 : UInt8) = 1 := rfl
      have e4 : n8 (4 : UInt8) = 4 := rfl
      rw [cnd_ilt, cnd_ilt, e1, e4]
      by_cases c4 : 1 ≤ n8 x.2.2.2.1 ∧ n8 x.2.2.2.1 ≤ 4
      · rw [if_neg (by omega), if_neg (by omega), if_neg (not_not_intro c4), jn_sp _ _ _ (r07_name _), cnd_dec]
        by_cases c5 : x.2.2.2.2.1 ≠ [] ∧ nm x.2.2.2.2.1 = false
        · rw [if_pos c5, if_pos c5]
        rw [if_neg c5, if_neg c5]
        by_cases c6 : x.2.2.2.2.2.length = 0
        · rw [cnd_t (ieq_t (by simp only [len]; omega)), if_pos c6]
        rw [cnd_f (ieq_f (by simp only [len]; omega)), if_neg c6]
        by_cases c7 : 4 < x.2.2.2.2.2.length
        · rw [cnd_t (ilt_t (by simp only [len]; omega)), if_pos c7]
        rw [cnd_f (ilt_f (by simp only [len]; omega)), if_neg c7, jn_e]
        generalize x.2.2.2.2.2 = l at hs c6 c7 ⊢
        refine Eq.trans (lst_it (l := l) (fun (a : List Int) (p : Nat) => (a, (p : Int))) (fun _ (r : Row) (a : List Int) => if rowE r ≠ 0 then .inl (some (rowE r)) else .inr (a ++ [(lenT r : Int)])) (fun a => bnd (r10_Place fuelH (r, a)) fun v4 => some v4.2) (fun i a => a.length ≤ i) (fun self a i hi ha => ?_) (fun self a _ => ?_) fuelH 0 [] (Nat.zero_le _) (by have := fuelH_eq; omega) (Nat.le_refl _)) (itI_rows2 _ (fun a => (placeS r a).2) (fun a => by rw [r10_place]; rfl) l 0 [])
        · have hsr := hs _ (List.getElem_mem hi)
          have hin : inb (i : Int) (len l) = true := inb_t (by simp only [len]; omega)
          simp only
          rw [cnd_t (ilt_t (by simp only [len]; omega)), grd_t hin, lget_i hi, bnd_s (r09_check hsr.1), w64_succ hi (by omega)]
          generalize l[i] = q at hsr ⊢
          unfold rowE
          by_cases hk : rowChk q ≠ 0
          · rw [if_pos hk, if_pos hk, cnd_t (ine_t hk)]; rfl
          · have hok := okR_of hsr (by simpa using hk)
            have hp := plainT_le hok q.length
            rw [List.take_length] at hp
            rw [if_neg hk, cnd_f (ine_f (by simpa using hk)), bnd_s (r09_plain hok), bnd_s (r11_neat_eq hp), cnd_ite]
            by_cases hn : neatT (plainT q) = false
            · rw [if_pos (by rw [hn]; rfl), if_pos hn, if_pos (by decide)]; rfl
            · rw [if_neg (by rw [bnot_t]; exact hn), if_neg hn, bnd_s (r09_len hok), cnd_ilt]
              by_cases h4 : 32 < lenT q
              · rw [if_pos (by omega), if_pos h4, if_pos (by decide)]; rfl
              · rw [if_neg (by omega), if_neg h4, if_neg (by decide), bnd_s (r09_len hok), grd_t (room_t (by simp only [iadd, len, List.length_singleton]; omega))]
                exact ⟨rfl, by simp only [List.length_append, List.length_singleton]; omega⟩
        · simp only
          rw [cnd_f (ilt_f (by simp only [len]; omega))]
      · rw [if_pos c4]
        by_cases h : n8 x.2.2.2.1 < 1
        · rw [if_pos h]
        · rw [if_neg h, if_pos (by omega)]
  · rw [if_neg c3, if_pos c3]
end
end Go.Mo
end

section
/-
  Plain facts: the header of a document; events by their number; the length of an event.
-/
namespace Go.Mo
open Go Go.W Go.Lib
set_option maxRecDepth 100000
noncomputable section
abbrev Cmt := Int × Int × Int × Int × List UInt8 × List UInt8 × Bool × Bool
abbrev Doc := List UInt8 × List UInt8 × UInt8 × Bool × Int × List Reg × List Ev × List Cmt

def tvB (r : UInt8) : Bool := (timebase_Valid fuelH r).getD false
def cdB (r : UInt8) : Bool := (timebase_CanDrop fuelH r).getD false
theorem tv_eq (r : UInt8) : timebase_Valid fuelH r = some (tvB r) ∧ timebase_CanDrop fuelH r = some (cdB r) :=
  of_decide_eq_true (all_u8 (P := fun r => decide (timebase_Valid fuelH r = some (tvB r) ∧ timebase_CanDrop fuelH r = some (cdB r))) (by kernel_rfl) r)
theorem r02_eq (r : UInt8) : r02_Valid fuelH r = some (tvB r) ∧ r02_CanDrop fuelH r = some (cdB r) := by
  obtain ⟨h1, h2, _⟩ := rate_eq fuelH r
  rw [← h1, ← h2]
  exact tv_eq r
def rateBad (r : UInt8) (drop : Bool) : Prop := tvB r = false ∨ (drop = true ∧ cdB r = false)
instance (r : UInt8) (drop : Bool) : Decidable (rateBad r drop) := by unfold rateBad; infer_instance
def headChk (d : Doc) : Int :=
  if vld d.1 = false then 10 else if 400 < d.1.length then 9 else if d.2.1 ≠ [] ∧ nm d.2.1 = false then 5 else
  if rateBad d.2.2.1 d.2.2.2.1 then 13 else if d.2.2.2.2.1 < 0 then 2 else if 1099511627776 < d.2.2.2.2.1 then 2 else 0
theorem rate_chk (r : UInt8) (b : Bool) : document_rate fuelH (r, b) = some (if rateBad r b then 13 else 0) := by
  unfold document_rate
  obtain ⟨h1, h2⟩ := tv_eq r
  simp only
  rw [h1, bnd_some']
  by_cases c1 : tvB r = false
  · rw [cnd_t (by rw [c1]; rfl), if_pos (show rateBad r b from .inl c1)]
  · rw [cnd_f (by rw [← Bool.not_eq_true, bnot_t]; exact c1)]
    cases b with
    | false =>
      rw [cnd_f rfl, if_neg]
      rintro (h | h)
      · exact c1 h
      · cases h.1
    | true =>
      rw [cnd_t rfl, h2, bnd_some']
      by_cases c2 : cdB r = false
      · rw [cnd_t (by rw [c2]; rfl), if_pos (show rateBad r true from .inr ⟨rfl, c2⟩)]
      · rw [cnd_f (by rw [← Bool.not_eq_true, bnot_t]; exact c2), if_neg]
        rintro (h | h)
        · exact c1 h
        · exact c2 h.2
theorem header_eq {d : Doc} (hd : d.1.length ≤ 4000000) : document_header fuelH d = some (headChk d) := by
  unfold document_header headChk
  rw [jn_e, ch_valid _ hd, bnd_some']
  by_cases c1 : vld d.1 = false
  · rw [cnd_t (by rw [c1]; rfl), if_pos c1]
  rw [cnd_f (by rw [← Bool.not_eq_true, bnot_t]; exact c1), if_neg c1]
  by_cases c2 : 400 < d.1.length
  · rw [cnd_t (ilt_t (by simp only [len]; omega)), if_pos c2]
  rw [cnd_f (ilt_f (by simp only [len]; omega)), if_neg c2, lines_name, bnd_some', rate_chk, bnd_some']
  have hrest : cnd (ine (if rateBad d.2.2.1 d.2.2.2.1 then (13 : Int) else 0) 0) (some (if rateBad d.2.2.1 d.2.2.2.1 then (13 : Int) else 0)) (cnd (ilt d.2.2.2.2.1 0) (some (2 : Int)) (cnd (ilt 1099511627776 d.2.2.2.2.1) (some 2) (some 0))) = some (if rateBad d.2.2.1 d.2.2.2.1 then 13 else if d.2.2.2.2.1 < 0 then 2 else if 1099511627776 < d.2.2.2.2.1 then 2 else 0) := by
    by_cases c4 : rateBad d.2.2.1 d.2.2.2.1
    · rw [if_pos c4, if_pos c4]; rfl
    · rw [if_neg c4, if_neg c4, cnd_f (by rfl), cnd_ilt, cnd_ilt]
      by_cases c5 : d.2.2.2.2.1 < 0
      · rw [if_pos c5, if_pos c5]
      rw [if_neg c5, if_neg c5]
      by_cases c6 : 1099511627776 < d.2.2.2.2.1
      · rw [if_pos c6, if_pos c6]
      · rw [if_neg c6, if_neg c6]
  rw [hrest]
  generalize (if rateBad d.2.2.1 d.2.2.2.1 then (13 : Int) else if d.2.2.2.2.1 < 0 then 2 else if 1099511627776 < d.2.2.2.2.1 then 2 else 0) = R
  by_cases c3 : d.2.1 = []
  · rw [cnd_f (by simp [sne, c3]), if_neg fun h => h.1 c3]
  · rw [cnd_t (by simp [sne, c3])]
    by_cases c4 : nm d.2.1 = false
    · rw [cnd_t (by rw [c4]; rfl), if_pos ⟨c3, c4⟩]
    · rw [cnd_f (by rw [← Bool.not_eq_true, bnot_t]; exact c4), if_neg fun h => c4 h.2]
theorem checkHead_eq {d : Doc} (hd : d.1.length ≤ 4000000) : r12_checkHead fuelH d = some (headChk d) := by
  unfold r12_checkHead headChk
  rw [r08_valid _ hd, bnd_some']
  by_cases c1 : vld d.1 = false
  · rw [cnd_t (by rw [c1]; rfl), if_pos c1]
  rw [cnd_f (by rw [← Bool.not_eq_true, bnot_t]; exact c1), if_neg c1]
  by_cases c2 : 400 < d.1.length
  · rw [cnd_t (ilt_t (by simp only [len]; omega)), if_pos c2]
  rw [cnd_f (ilt_f (by simp only [len]; omega)), if_neg c2, jn_sp _ _ _ (r07_name _), cnd_dec]
  by_cases c3 : d.2.1 ≠ [] ∧ nm d.2.1 = false
  · rw [if_pos c3, if_pos c3]
  rw [if_neg c3, if_neg c3, jn_e]
  obtain ⟨h1, h2⟩ := r02_eq d.2.2.1
  rw [h1, bnd_some', h2, bnd_some']
  have hrest : ∀ b : Bool, b = decide (rateBad d.2.2.1 d.2.2.2.1) → cnd b (some (13 : Int)) (cnd (ilt d.2.2.2.2.1 0) (some (2 : Int)) (cnd (ilt 1099511627776 d.2.2.2.2.1) (some 2) (some 0))) = some (if rateBad d.2.2.1 d.2.2.2.1 then 13 else if d.2.2.2.2.1 < 0 then 2 else if 1099511627776 < d.2.2.2.2.1 then 2 else 0) := by
    rintro b rfl
    rw [cnd_dec, cnd_ilt, cnd_ilt]
    by_cases c4 : rateBad d.2.2.1 d.2.2.2.1
    · rw [if_pos c4, if_pos c4]
    rw [if_neg c4, if_neg c4]
    by_cases c5 : d.2.2.2.2.1 < 0
    · rw [if_pos c5, if_pos c5]
    rw [if_neg c5, if_neg c5]
    by_cases c6 : 1099511627776 < d.2.2.2.2.1
    · rw [if_pos c6, if_pos c6]
    · rw [if_neg c6, if_neg c6]
  by_cases c1 : tvB d.2.2.1 = false
  · rw [cnd_t (by rw [c1]; rfl)]
    exact hrest true (decide_eq_true (show rateBad _ _ from .inl c1)).symm
  · rw [cnd_f (by rw [← Bool.not_eq_true, bnot_t]; exact c1)]
    cases hb : d.2.2.2.1 with
    | false =>
      rw [cnd_f rfl]
      rw [hb] at hrest
      refine hrest false (decide_eq_false ?_).symm
      rintro (h | h)
      · exact c1 h
      · cases h.1
    | true =>
      rw [cnd_t rfl]
      rw [hb] at hrest
      refine hrest _ ?_
      cases hc : cdB d.2.2.1 with
      | false => exact (decide_eq_true (show rateBad _ _ from .inr ⟨rfl, hc⟩)).symm
      | true =>
        refine (decide_eq_false ?_).symm
        rintro (h | h)
        · exact c1 h
        · rw [hc] at h; cases h.2

/-- the events' numbers with their places -/
def mapE : Nat → List Ev → List (Int × Int)
  | _, [] => []
  | i, x :: l => (x.1, (i : Int)) :: mapE (i + 1) l
def findE : Nat → List Ev → Int → Int
  | _, [], _ => -1
  | i, x :: l, k => if x.1 = k then (i : Int) else findE (i + 1) l k
def hasE (l : List Ev) (k : Int) : Prop := ∃ x ∈ l, x.1 = k
instance (l : List Ev) (k : Int) : Decidable (hasE l k) := by unfold hasE; infer_instance
theorem mapE_app : ∀ (a b : List Ev) (i : Nat), mapE i (a ++ b) = mapE i a ++ mapE (i + a.length) b
  | [], b, i => by simp [mapE]
  | x :: a, b, i => by
    simp only [List.cons_append, mapE, mapE_app a b (i + 1), List.length_cons]
    congr 3; omega
theorem mhas_mapE : ∀ (l : List Ev) (i : Nat) (k : Int), mhas ieq (mapE i l) k = decide (hasE l k)
  | [], i, k => by simp [mapE, mhas, hasE]
  | x :: l, i, k => by
    simp only [mapE, mhas, mhas_mapE l (i + 1) k]
    by_cases h : k = x.1
    · rw [ieq_t h, decide_eq_true (show hasE (x :: l) k from ⟨x, List.mem_cons_self, h.symm⟩)]; rfl
    · rw [ieq_f h]
      show (false || _) = _
      rw [Bool.false_or]
      exact decide_eq_decide.2 ⟨fun ⟨y, h1, h2⟩ => ⟨y, List.mem_cons_of_mem _ h1, h2⟩, fun ⟨y, h1, h2⟩ => by
        rcases List.mem_cons.1 h1 with rfl | h1
        · exact absurd h2.symm h
        · exact ⟨y, h1, h2⟩⟩
theorem mput_new {k v : Int} : ∀ (m : List (Int × Int)), mhas ieq m k = false → mput ieq m k v = m ++ [(k, v)]
  | [], _ => rfl
  | x :: m, h => by
    simp only [mhas, bor, Bool.or_eq_false_iff] at h
    simp only [mput, h.1, mput_new m h.2]
    rfl
theorem mget_mapE : ∀ (l : List Ev) (i : Nat) (k : Int), hasE l k → mget ieq 0 (mapE i l) k = findE i l k
  | [], i, k, h => by obtain ⟨x, h, _⟩ := h; cases h
  | x :: l, i, k, h => by
    simp only [mapE, mget, findE]
    by_cases hc : x.1 = k
    · rw [ieq_t hc.symm, if_pos hc]; rfl
    · rw [ieq_f (fun e => hc e.symm), if_neg hc]
      obtain ⟨y, h1, h2⟩ := h
      rcases List.mem_cons.1 h1 with rfl | h1
      · exact absurd h2 hc
      · exact mget_mapE l (i + 1) k ⟨y, h1, h2⟩
theorem findE_no : ∀ (l : List Ev) (i : Nat) (k : Int), ¬ hasE l k → findE i l k = -1
  | [], i, k, _ => rfl
  | x :: l, i, k, h => by
    simp only [findE]
    rw [if_neg fun e => h ⟨x, List.mem_cons_self, e⟩]
    exact findE_no l (i + 1) k fun ⟨y, h1, h2⟩ => h ⟨y, List.mem_cons_of_mem _ h1, h2⟩
theorem findE_yes : ∀ (l : List Ev) (i : Nat) (k : Int), hasE l k → ∃ j, ∃ h : j < l.length, findE i l k = ((i + j : Nat) : Int) ∧ l[j].1 = k ∧ ¬ hasE (l.take j) k
  | [], i, k, h => by obtain ⟨x, h, _⟩ := h; cases h
  | x :: l, i, k, h => by
    simp only [findE]
    by_cases hc : x.1 = k
    · exact ⟨0, by simp, by rw [if_pos hc]; rfl, hc, fun ⟨y, h1, _⟩ => by cases h1⟩
    · obtain ⟨y, h1, h2⟩ := h
      rcases List.mem_cons.1 h1 with rfl | h1
      · exact absurd h2 hc
      · obtain ⟨j, hj, e1, e2, e3⟩ := findE_yes l (i + 1) k ⟨y, h1, h2⟩
        refine ⟨j + 1, by simpa using hj, ?_, by simpa using e2, ?_⟩
        · rw [if_neg hc, e1]; congr 1; omega
        · rintro ⟨z, h3, h4⟩
          rw [List.take_succ_cons] at h3
          rcases List.mem_cons.1 h3 with rfl | h3
          · exact hc h4
          · exact e3 ⟨z, h3, h4⟩
/-- the element at place i is found there just if none ahead has its number -/
theorem findE_at {l : List Ev} {i : Nat} (hi : i < l.length) : findE 0 l l[i].1 = (i : Int) ↔ ¬ hasE (l.take i) l[i].1 := by
  obtain ⟨j, hj, e1, e2, e3⟩ := findE_yes l 0 l[i].1 ⟨l[i], List.getElem_mem hi, rfl⟩
  rw [e1]
  constructor
  · intro h
    have : j = i := by omega
    subst this
    exact e3
  · intro h
    have h1 : ¬ j < i := fun hji => h ⟨l[j], by rw [List.mem_take_iff_getElem]; exact ⟨j, by omega, rfl⟩, e2⟩
    have h2 : ¬ i < j := fun hij => e3 ⟨l[i], by rw [List.mem_take_iff_getElem]; exact ⟨i, by omega, rfl⟩, rfl⟩
    congr 1; omega
theorem find_eq {d : Doc} (h : d.2.2.2.2.2.2.1.length ≤ 4000000) (k : Int) : r12_Find fuelH (d, k) = some (findE 0 d.2.2.2.2.2.2.1 k) := by
  unfold r12_Find
  rw [jn_e]
  simp only
  generalize d.2.2.2.2.2.2.1 = l at h ⊢
  have hit : ∀ (r : List Ev) (i : Nat), itI (fun i (x : Ev) (_ : Unit) => if x.1 = k then (.inl (some (i : Int)) : Option Int ⊕ Unit) else .inr ()) (fun _ => some (-1 : Int)) i r () = some (findE i r k) := by
    intro r
    induction r with
    | nil => intro i; rfl
    | cons x r ih =>
      intro i
      simp only [itI, findE]
      by_cases hc : x.1 = k
      · rw [if_pos hc, if_pos hc]
      · rw [if_neg hc, if_neg hc]; exact ih (i + 1)
  refine Eq.trans (lst_it (l := l) (fun (_ : Unit) (p : Nat) => (p : Int)) (fun i (x : Ev) (_ : Unit) => if x.1 = k then .inl (some (i : Int)) else .inr ()) (fun _ => some (-1 : Int)) (fun _ _ => True) (fun self a i hi _ => ?_) (fun self a _ => ?_) fuelH 0 () (Nat.zero_le _) (by have := fuelH_eq; omega) trivial) (hit l 0)
  · rw [cnd_t (ilt_t (by simp only [len]; omega)), grd_t (inb_t (by simp only [len]; omega)), lget_i hi, w64_succ hi (by omega)]
    by_cases hc : l[i].1 = k
    · rw [if_pos hc, cnd_t (ieq_t hc)]; rfl
    · rw [if_neg hc, cnd_f (ieq_f hc)]
      exact ⟨rfl, trivial⟩
  · rw [cnd_f (ilt_f (by simp only [len]; omega))]

def lessE (a b : Ev) : Prop := a.2.1.1 < b.2.1.1 ∨ (a.2.1.1 = b.2.1.1 ∧ a.1 < b.1)
instance (a b : Ev) : Decidable (lessE a b) := by unfold lessE; infer_instance
theorem r11_less (N : Nat) (a b : Ev) : r11_Less N (a, b) = some (decide (lessE a b)) := by
  unfold r11_Less lessE
  simp only
  rw [cnd_ilt, cnd_ieq]
  by_cases h1 : a.2.1.1 < b.2.1.1
  · rw [if_pos h1]; simp [h1]
  · rw [if_neg h1]
    by_cases h2 : a.2.1.1 = b.2.1.1
    · rw [if_pos h2]; simp [h2, ilt]
    · rw [if_neg h2]; simp [h1, h2]
theorem cmp_eq (N : Nat) (a b : Int) : cmp_Compare_int64 N (a, b) = some (if a < b then -1 else if b < a then 1 else 0) := by
  unfold cmp_Compare_int64
  have h : ∀ x : Int, cmp_isNaN_int64 N x = some false := fun x => by
    show some (ine x x) = _
    rw [ine_f rfl]
  simp only
  rw [h, h, bnd_some', bnd_some', cnd_f rfl, cnd_f rfl, cnd_ilt, cnd_ilt]
  by_cases h1 : a < b
  · rw [if_pos h1, if_pos h1]
  · rw [if_neg h1, if_neg h1]
    by_cases h2 : b < a
    · rw [if_pos h2, if_pos h2]
    · rw [if_neg h2, if_neg h2]
theorem or_eq (a b : Int) : cmp_Or_int fuelH [a, b] = some (if a ≠ 0 then a else b) := by
  have h : cmp_Or_int fuelH [a, b] = cnd (ine a 0) (some a) (cnd (ine b 0) (some b) (some 0)) := by kernel_rfl
  rw [h, cnd_ine, cnd_ine]
  by_cases h1 : a ≠ 0
  · rw [if_pos h1, if_pos h1]
  · rw [if_neg h1, if_neg h1]
    by_cases h2 : b ≠ 0
    · rw [if_pos h2]
    · rw [if_neg h2]; congr 1; omega
theorem event_less (a b : Ev) : event_Less fuelH (a, b) = some (decide (lessE a b)) := by
  unfold event_Less
  simp only
  rw [cmp_eq, bnd_some', cmp_eq, bnd_some', or_eq, bnd_some']
  congr 1
  by_cases h1 : a.2.1.1 < b.2.1.1
  · rw [if_pos h1, if_pos (by decide), @decide_eq_true (lessE a b) _ (.inl h1)]; rfl
  · rw [if_neg h1]
    by_cases h2 : b.2.1.1 < a.2.1.1
    · rw [if_pos h2, if_pos (by decide), @decide_eq_false (lessE a b) _ (by unfold lessE; omega)]; rfl
    · rw [if_neg h2, if_neg (by decide)]
      by_cases h3 : a.1 < b.1
      · rw [if_pos h3, @decide_eq_true (lessE a b) _ (by unfold lessE; omega)]; rfl
      · rw [if_neg h3, @decide_eq_false (lessE a b) _ (by unfold lessE; omega)]
        split <;> rfl
end
end Go.Mo
end

section
/-
  Plain facts: the events of a document, checked one after the other; the length of an event.
-/
namespace Go.Mo
open Go Go.W Go.Lib
set_option maxRecDepth 100000
noncomputable section

def errL {α : Type} (R : List α → α → Int) : List α → List α → Int
  | _, [] => 0
  | pre, x :: l => if R pre x ≠ 0 then R pre x else errL R (pre ++ [x]) l
theorem errL_zero {α : Type} {R : List α → α → Int} : ∀ (l pre : List α), errL R pre l = 0 → ∀ j (h : j < l.length), R (pre ++ l.take j) l[j] = 0
  | [], _, _, j, h => by simp at h
  | x :: l, pre, h0, j, h => by
    simp only [errL] at h0
    split at h0
    · rename_i hc; exact absurd h0 hc
    · rename_i hc
      cases j with
      | zero => simpa using hc
      | succ j =>
        have := errL_zero l (pre ++ [x]) h0 j (by simpa using h)
        simpa using this
theorem loop_err {V σ α ρ : Type} {F : (V → Option ρ) → V → Option ρ} {l : List α} (st : σ → Nat → V) (g : List α → σ) (R : List α → α → Int) (w : Int → ρ) (K : Option ρ)
    (hstep : ∀ self i (h : i < l.length), F self (st (g (l.take i)) i) = if R (l.take i) l[i] ≠ 0 then some (w (R (l.take i) l[i])) else self (st (g (l.take (i + 1))) (i + 1)))
    (hend : (∀ j (h : j < l.length), R (l.take j) l[j] = 0) → ∀ self, F self (st (g l) l.length) = K) :
    ∀ (fuel i : Nat), i ≤ l.length → l.length - i < fuel → (∀ j (h : j < l.length), j < i → R (l.take j) l[j] = 0) →
    fixN F fuel (st (g (l.take i)) i) = if errL R (l.take i) (l.drop i) ≠ 0 then some (w (errL R (l.take i) (l.drop i))) else K
  | 0, i, _, h, _ => by omega
  | fuel + 1, i, hi, h, hp => by
    rw [fixN_s]
    by_cases hl : i < l.length
    · rw [hstep _ i hl, List.drop_eq_getElem_cons hl, errL]
      by_cases hc : R (l.take i) l[i] ≠ 0
      · rw [if_pos hc, if_pos hc, if_pos hc]
      · rw [if_neg hc, if_neg hc]
        have ih := loop_err st g R w K hstep hend fuel (i + 1) (by omega) (by omega) (fun j hj hji => by
          by_cases e : j = i
          · subst e; simpa using hc
          · exact hp j hj (by omega))
        rw [ih, List.take_succ_eq_append_getElem hl]
    · obtain rfl : i = l.length := by omega
      rw [List.take_length, hend (fun j hj => hp j hj hj), List.drop_length]
      rfl

def sumT : List Row → Nat
  | [] => 0
  | r :: l => lenT r + sumT l
def evLen (x : Ev) : Int := ((x.2.2.2.2.2.length - 1 + sumT x.2.2.2.2.2 : Nat) : Int)
theorem sumT_take : ∀ (l : List Row) (i : Nat) (h : i < l.length), sumT (l.take (i + 1)) = sumT (l.take i) + lenT l[i]
  | x :: l, 0, _ => by simp [sumT]
  | x :: l, i + 1, h => by
    have := sumT_take l i (by simpa using h)
    simp only [List.take_succ_cons, sumT, this, List.getElem_cons_succ]
    omega
theorem lenT_tot {l : Row} (h : okR l) : lenT l ≤ 64000000 := by
  have h1 := lenT_le l fun x hx => (h.2.1 x hx).2
  have h2 := h.1
  omega
theorem sumT_le : ∀ (l : List Row), (∀ r ∈ l, okR r) → sumT l ≤ 64000000 * l.length
  | [], _ => Nat.le_refl _
  | r :: l, h => by
    have h1 := lenT_tot (h r List.mem_cons_self)
    have h2 := sumT_le l fun q hq => h q (List.mem_cons_of_mem _ hq)
    simp only [sumT, List.length_cons]
    omega
theorem sumT_take_le (l : List Row) (h : ∀ r ∈ l, okR r) (i : Nat) : sumT (l.take i) ≤ 64000000 * l.length := by
  have h1 := sumT_le (l.take i) fun r hr => h r (List.mem_of_mem_take hr)
  have : (l.take i).length ≤ l.length := by rw [List.length_take]; omega
  omega
theorem event_len_eq {x : Ev} (h : ∀ l ∈ x.2.2.2.2.2, okR l) (hl : x.2.2.2.2.2.length ≤ 1000) : event_Len fuelH x = some (evLen x) := by
  unfold event_Len evLen
  rw [jn_e, bnd_s (event_lens_eq h (by omega))]
  generalize x.2.2.2.2.2 = l at h hl ⊢
  have hll : (lens l).length = l.length := by unfold lens; rw [List.length_map]
  have e0 : imax (w64 (isub (len l) 1)) 0 = ((l.length - 1 : Nat) : Int) := by
    simp only [isub, imax, len]
    rw [w64_id (by omega)]
    omega
  rw [e0]
  refine loop_inv (n := l.length) (fun (a : Nat) (i : Nat) => ((a : Int), (i : Int))) (fun i a => a = l.length - 1 + sumT (l.take i)) _ (fun self a i hi hI => ?_) (fun self a hI => ?_) fuelH 0 (l.length - 1) (Nat.zero_le _) (by have := fuelH_eq; omega) (by simp [sumT])
  · refine ⟨a + lenT l[i], ?_, ?_⟩
    · have ht := sumT_take_le l h i
      have hb := lenT_tot (h _ (List.getElem_mem hi))
      have hin : inb (i : Int) (len (lens l)) = true := inb_t (by simp only [len, hll]; omega)
      have hg : lget (lens l) (toN (i : Int)) (0 : Int) = (lenT l[i] : Int) := by
        rw [lget_i (by omega)]
        simp [lens]
      simp only
      rw [cnd_t (ilt_t (by simp only [len, hll]; omega)), grd_t hin, hg, cnd_f (ilt_f (by omega)), w64_succ hi (by omega)]
      have e : w64 (iadd (a : Int) (lenT l[i] : Int)) = ((a + lenT l[i] : Nat) : Int) := by
        unfold iadd; rw [w64_id (by omega)]; omega
      rw [e]
    · rw [sumT_take l i hi, hI]; omega
  · simp only
    rw [cnd_f (ilt_f (by simp only [len, hll]; omega)), hI, List.take_length]
theorem r11_len_eq {x : Ev} (h : ∀ l ∈ x.2.2.2.2.2, okR l) (hl : x.2.2.2.2.2.length ≤ 1000) : r11_Len fuelH x = some (evLen x) := by
  unfold r11_Len evLen
  rw [jn_e]
  generalize x.2.2.2.2.2 = l at h hl ⊢
  refine loop_inv (n := l.length) (fun (a : Nat) (i : Nat) => ((a : Int), (i : Int))) (fun i a => a = i - 1 + sumT (l.take i)) _ (fun self a i hi hI => ?_) (fun self a hI => ?_) fuelH 0 0 (Nat.zero_le _) (by have := fuelH_eq; omega) (by simp [sumT])
  · refine ⟨i + sumT (l.take i) + lenT l[i], ?_, ?_⟩
    · have ht := sumT_take_le l h i
      have hb := lenT_tot (h _ (List.getElem_mem hi))
      simp only
      rw [cnd_t (ilt_t (by simp only [len]; omega)), grd_t (inb_t (by simp only [len]; omega)), lget_i hi, r09_len (h _ (List.getElem_mem hi)), bnd_some', cnd_f (ilt_f (by omega)), w64_succ hi (by omega)]
      by_cases h0 : i = 0
      · subst h0
        rw [cnd_f (ilt_f (by omega))]
        have e : w64 (iadd (a : Int) (lenT l[0] : Int)) = ((0 + sumT (l.take 0) + lenT l[0] : Nat) : Int) := by
          unfold iadd; rw [w64_id (by omega)]; omega
        rw [e]
      · rw [cnd_t (ilt_t (by omega))]
        have e1 : w64 (iadd (a : Int) 1) = ((a + 1 : Nat) : Int) := by unfold iadd; rw [w64_id (by omega)]; omega
        have e : w64 (iadd ((a + 1 : Nat) : Int) (lenT l[i] : Int)) = ((i + sumT (l.take i) + lenT l[i] : Nat) : Int) := by
          unfold iadd; rw [w64_id (by omega)]; omega
        rw [e1, e]
    · rw [sumT_take l i hi]; omega
  · simp only
    rw [cnd_f (ilt_f (by simp only [len]; omega)), hI, List.take_length]

theorem rowsE_zero : ∀ (l : List Row) (k : Int), rowsE l k = 0 → (∀ r ∈ l, rowE r = 0) ∧ k = 0
  | [], k, h => ⟨fun r hr => (by cases hr), h⟩
  | r :: l, k, h => by
    simp only [rowsE] at h
    split at h
    · rename_i hc; exact absurd h hc
    · rename_i hc
      obtain ⟨h1, h2⟩ := rowsE_zero l k h
      refine ⟨fun q hq => ?_, h2⟩
      rcases List.mem_cons.1 hq with rfl | hq
      · simpa using hc
      · exact h1 q hq
theorem ev_ok {x : Ev} {rs : List Reg} (h : evChk x rs = 0) : 1 ≤ x.1 ∧ x.1 ≤ 1099511627776 ∧ (0 ≤ x.2.1.1 ∧ x.2.1.1 < x.2.1.2 ∧ x.2.1.2 ≤ 5184000) ∧ 0 < x.2.2.2.2.2.length ∧ x.2.2.2.2.2.length ≤ 4 ∧ (∀ r ∈ x.2.2.2.2.2, rowE r = 0) ∧ ∃ r, findR rs x.2.2.1 = some r ∧ (placeS r (lens x.2.2.2.2.2)).2 = 0 := by
  unfold evChk at h
  split at h
  · cases h
  split at h
  · cases h
  split at h
  · cases h
  rename_i c1 c2 c3
  split at h
  · cases h
  rename_i r hr
  split at h
  · cases h
  split at h
  · cases h
  split at h
  · cases h
  split at h
  · cases h
  rename_i c6 c7
  obtain ⟨h1, h2⟩ := rowsE_zero _ _ h
  exact ⟨by omega, by omega, by omega, by omega, by omega, h1, r, hr, h2⟩

def ordB (p : Option Ev) (x : Ev) : Bool := match p with
  | some q => decide (lessE q x)
  | none => true
def evRnd (rs : List Reg) (last : Int) (pre : List Ev) (x : Ev) : Int :=
  if evChk x rs ≠ 0 then evChk x rs else if last < x.1 then 2 else if ordB pre.getLast? x = false then 8 else if hasE pre x.1 then 7 else 0
def evsChk (d : Doc) : Int := errL (evRnd d.2.2.2.2.2.1 d.2.2.2.2.1) [] d.2.2.2.2.2.2.1
theorem evRnd_ok {rs : List Reg} {last : Int} {pre : List Ev} {x : Ev} (h : evRnd rs last pre x = 0) : evChk x rs = 0 ∧ x.1 ≤ last ∧ ordB pre.getLast? x = true ∧ ¬ hasE pre x.1 := by
  unfold evRnd at h
  split at h
  · rename_i hc; exact absurd h hc
  rename_i c1
  split at h
  · cases h
  rename_i c2
  split at h
  · cases h
  rename_i c3
  split at h
  · cases h
  rename_i c4
  exact ⟨by simpa using c1, by omega, by simpa using c3, c4⟩
theorem last_take {α : Type} {l : List α} {i : Nat} (h : i < l.length) : (l.take (i + 1)).getLast? = some l[i] := by
  rw [List.take_succ_eq_append_getElem h, List.getLast?_concat]
end
end Go.Mo
end

section
/-
  Plain facts: the comments of a document, on both sides.
-/
namespace Go.Mo
open Go Go.W Go.Lib
set_option maxRecDepth 100000
noncomputable section

theorem jn_u {α : Type} {K : Unit → Option α} {X : Option α} (h : K () = X) (T : (Unit → Option α) → Option α) : jn K T = T fun _ => X := by
  rw [jn_e, show K = fun _ => X from funext fun _ => h]
def cOrd (p : Option Cmt) (c : Cmt) : Bool := match p with
  | some q => decide (q.1 < c.1)
  | none => true
def evZ : Ev := (0, (0, 0), [], 0, [], [])
def evAt (l : List Ev) (k : Int) : Ev := lget l (toN (findE 0 l k)) evZ
def ancE (d : Doc) (c : Cmt) : Int :=
  if c.2.1 < 1 then 2 else if d.2.2.2.2.1 < c.2.1 then 2 else
  if c.2.2.2.2.2.2.2 = true then (if c.2.2.1 ≠ 0 then 2 else if c.2.2.2.1 ≠ 0 then 2 else 0) else
  if ¬ hasE d.2.2.2.2.2.2.1 c.2.1 then 6 else if c.2.2.1 < 0 then 2 else if c.2.2.2.1 ≤ c.2.2.1 then 2 else
  if evLen (evAt d.2.2.2.2.2.2.1 c.2.1) < c.2.2.2.1 then 2 else 0
def endE (c : Cmt) : Int := if nm c.2.2.2.2.1 = false then 5 else if vld c.2.2.2.2.2.1 = false then 10 else if c.2.2.2.2.2.1 = [] then 4 else if 400 < c.2.2.2.2.2.1.length then 9 else 0
def tailE (d : Doc) (c : Cmt) : Int := if ancE d c ≠ 0 then ancE d c else endE c
def cmtRnd (d : Doc) (pre : List Cmt) (c : Cmt) : Int :=
  if c.1 < 1 then 2 else if d.2.2.2.2.1 < c.1 then 2 else if cOrd pre.getLast? c = false then 8 else if hasE d.2.2.2.2.2.2.1 c.1 then 7 else tailE d c
def cmtsChk (d : Doc) : Int := if 64 < d.2.2.2.2.2.2.2.length then 9 else errL (cmtRnd d) [] d.2.2.2.2.2.2.2
/-- the events are good, the texts of comments not too long -/
def goodD (d : Doc) : Prop := (∀ x ∈ d.2.2.2.2.2.2.1, (∀ r ∈ x.2.2.2.2.2, okR r) ∧ x.2.2.2.2.2.length ≤ 4) ∧ d.2.2.2.2.2.2.1.length ≤ 400 ∧ ∀ c ∈ d.2.2.2.2.2.2.2, c.2.2.2.2.2.1.length ≤ 4000000
theorem evAt_lenS {d : Doc} (hg : goodD d) {k : Int} (h : hasE d.2.2.2.2.2.2.1 k) : inb (findE 0 d.2.2.2.2.2.2.1 k) (len d.2.2.2.2.2.2.1) = true ∧ 0 ≤ findE 0 d.2.2.2.2.2.2.1 k ∧ event_Len fuelH (evAt d.2.2.2.2.2.2.1 k) = some (evLen (evAt d.2.2.2.2.2.2.1 k)) := by
  obtain ⟨j, hj, e1, e2, e3⟩ := findE_yes _ 0 k h
  have he : evAt d.2.2.2.2.2.2.1 k = d.2.2.2.2.2.2.1[j] := by
    unfold evAt
    rw [e1, Nat.zero_add, lget_i hj]
  obtain ⟨h1, h2⟩ := hg.1 _ (List.getElem_mem hj)
  rw [he]
  refine ⟨by rw [e1]; exact inb_t (by simp only [len]; omega), by omega, event_len_eq h1 (by omega)⟩
theorem evAt_len {d : Doc} (hg : goodD d) {k : Int} (h : hasE d.2.2.2.2.2.2.1 k) : inb (findE 0 d.2.2.2.2.2.2.1 k) (len d.2.2.2.2.2.2.1) = true ∧ 0 ≤ findE 0 d.2.2.2.2.2.2.1 k ∧ event_Len fuelH (evAt d.2.2.2.2.2.2.1 k) = some (evLen (evAt d.2.2.2.2.2.2.1 k)) ∧ r11_Len fuelH (evAt d.2.2.2.2.2.2.1 k) = some (evLen (evAt d.2.2.2.2.2.2.1 k)) := by
  obtain ⟨q1, q2, q3⟩ := evAt_lenS hg h
  obtain ⟨j, hj, e1, e2, e3⟩ := findE_yes _ 0 k h
  have he : evAt d.2.2.2.2.2.2.1 k = d.2.2.2.2.2.2.1[j] := by
    unfold evAt
    rw [e1, Nat.zero_add, lget_i hj]
  obtain ⟨h1, h2⟩ := hg.1 _ (List.getElem_mem hj)
  exact ⟨q1, q2, q3, by rw [he]; exact r11_len_eq h1 (by omega)⟩
theorem anchored_eq {d : Doc} (hg : goodD d) (c : Cmt) : document_anchored fuelH (d, c, mapE 0 d.2.2.2.2.2.2.1) = some (ancE d c, mapE 0 d.2.2.2.2.2.2.1) := by
  unfold document_anchored ancE
  simp only
  rw [cnd_ilt]
  by_cases c1 : c.2.1 < 1
  · rw [if_pos c1, if_pos c1]
  rw [if_neg c1, if_neg c1, cnd_ilt]
  by_cases c2 : d.2.2.2.2.1 < c.2.1
  · rw [if_pos c2, if_pos c2]
  rw [if_neg c2, if_neg c2]
  by_cases c3 : c.2.2.2.2.2.2.2 = true
  · rw [cnd_t c3, if_pos c3, cnd_ine, cnd_ine]
    by_cases c4 : c.2.2.1 ≠ 0
    · rw [if_pos c4, if_pos c4]
    rw [if_neg c4, if_neg c4]
    by_cases c5 : c.2.2.2.1 ≠ 0
    · rw [if_pos c5, if_pos c5]
    · rw [if_neg c5, if_neg c5]
  · rw [cnd_f (by simpa using c3), if_neg c3, mhas_mapE, cnd_bnot]
    by_cases c4 : hasE d.2.2.2.2.2.2.1 c.2.1
    · rw [if_pos c4, if_neg (not_not_intro c4), cnd_ilt]
      by_cases c5 : c.2.2.1 < 0
      · rw [if_pos c5, if_pos c5]
      rw [if_neg c5, if_neg c5, cnd_ile]
      by_cases c6 : c.2.2.2.1 ≤ c.2.2.1
      · rw [if_pos c6, if_pos c6]
      obtain ⟨q1, q2, q3⟩ := evAt_lenS hg c4
      have hm : mget ieq (0 : Int) (mapE 0 d.2.2.2.2.2.2.1) c.2.1 = findE 0 d.2.2.2.2.2.2.1 c.2.1 := mget_mapE _ _ _ c4
      rw [if_neg c6, if_neg c6, hm, grd_t q1]
      refine Eq.trans (bnd_s (show event_Len fuelH (lget d.2.2.2.2.2.2.1 (toN (findE 0 d.2.2.2.2.2.2.1 c.2.1)) evZ) = _ from q3)) ?_
      rw [cnd_ilt]
      by_cases c7 : evLen (evAt d.2.2.2.2.2.2.1 c.2.1) < c.2.2.2.1
      · rw [if_pos c7, if_pos c7]
      · rw [if_neg c7, if_neg c7]
    · rw [if_neg c4, if_pos c4]
theorem comments_eq {d : Doc} (hg : goodD d) : document_comments fuelH (d, mapE 0 d.2.2.2.2.2.2.1) = some (cmtsChk d, mapE 0 d.2.2.2.2.2.2.1) := by
  unfold document_comments cmtsChk
  simp only
  by_cases h : 64 < d.2.2.2.2.2.2.2.length
  · rw [cnd_t (ilt_t (by simp only [len]; omega)), if_pos h]
  rw [cnd_f (ilt_f (by simp only [len]; omega)), if_neg h, jn_e]
  have hanc := fun c => anchored_eq hg c
  have hvl := hg.2.2
  generalize hm : mapE 0 d.2.2.2.2.2.2.1 = m at hanc ⊢
  have hmh : ∀ k, mhas ieq m k = decide (hasE d.2.2.2.2.2.2.1 k) := fun k => by rw [← hm]; exact mhas_mapE _ _ _
  generalize hl : d.2.2.2.2.2.2.2 = l at h hvl ⊢
  refine Eq.trans (loop_err (l := l) (fun (_ : Unit) (p : Nat) => ((p : Int), m)) (fun _ => ()) (cmtRnd d) (fun e => (e, m)) (some (0, m)) (fun self i hi => ?_) (fun _ self => ?_) fuelH 0 (Nat.zero_le _) (by have := fuelH_eq; omega) (fun j _ hj => by omega)) ?_
  · have hin : inb (i : Int) (len l) = true := inb_t (by simp only [len]; omega)
    have hv := hvl _ (List.getElem_mem hi)
    simp only
    rw [cnd_t (ilt_t (by simp only [len]; omega)), grd_t hin, lget_i hi]
    refine Eq.trans (jn_u (X := if tailE d l[i] ≠ 0 then some (tailE d l[i], m) else self (((i + 1 : Nat) : Int), m)) ?_ _) ?_
    · skip
      rw [hanc, bnd_some']
      unfold tailE
      by_cases c1 : ancE d l[i] ≠ 0
      · rw [if_pos c1, if_pos c1, cnd_t (ine_t c1)]
      · rw [if_neg c1, cnd_f (ine_f (by simpa using c1)), lines_name, bnd_some']
        unfold endE
        by_cases c2 : nm l[i].2.2.2.2.1 = false
        · rw [cnd_t (by rw [c2]; rfl), if_pos c2, if_pos (by decide)]
        rw [cnd_f (by rw [← Bool.not_eq_true, bnot_t]; exact c2), if_neg c2, ch_valid _ hv, bnd_some']
        by_cases c3 : vld l[i].2.2.2.2.2.1 = false
        · rw [cnd_t (by rw [c3]; rfl), if_pos c3, if_pos (by decide)]
        rw [cnd_f (by rw [← Bool.not_eq_true, bnot_t]; exact c3), if_neg c3]
        by_cases c4 : l[i].2.2.2.2.2.1 = []
        · rw [cnd_t (by rw [seq_t]; exact c4), if_pos c4, if_pos (by decide)]
        rw [cnd_f (by rw [← Bool.not_eq_true, seq_t]; exact c4), if_neg c4]
        by_cases c5 : 400 < l[i].2.2.2.2.2.1.length
        · rw [cnd_t (ilt_t (by simp only [len]; omega)), if_pos c5, if_pos (by decide)]
        · rw [cnd_f (ilt_f (by simp only [len]; omega)), if_neg c5, if_neg (by decide), w64_succ hi (by omega)]
    · simp only
      rw [cnd_ilt, cnd_ilt]
      unfold cmtRnd
      by_cases c1 : l[i].1 < 1
      · rw [if_pos c1, if_pos c1, if_pos (by decide)]
      rw [if_neg c1, if_neg c1]
      by_cases c2 : d.2.2.2.2.1 < l[i].1
      · rw [if_pos c2, if_pos c2, if_pos (by decide)]
      rw [if_neg c2, if_neg c2, hmh]
      cases i with
      | zero =>
        rw [cnd_f (by rfl)]
        have e0 : cOrd (l.take 0).getLast? l[0] = true := rfl
        rw [e0, if_neg (show ¬ true = false by decide), cnd_dec]
        by_cases c3 : hasE d.2.2.2.2.2.2.1 l[0].1
        · rw [if_pos c3, if_pos c3, if_pos (by decide)]
        · rw [if_neg c3, if_neg c3]
      | succ i =>
        rw [cnd_t (ilt_t (by omega)), w64_back (by omega), grd_t (inb_t (by simp only [len]; omega)), lget_i (show i < l.length by omega), cnd_ile, cnd_dec]
        have e0 : cOrd (l.take (i + 1)).getLast? l[i + 1] = decide (l[i].1 < l[i + 1].1) := by rw [last_take (show i < l.length by omega)]; rfl
        rw [e0]
        by_cases c4 : l[i + 1].1 ≤ l[i].1
        · rw [if_pos c4, decide_eq_false (by omega), if_pos rfl, if_pos (by decide)]
        rw [if_neg c4, decide_eq_true (by omega), if_neg (show ¬ true = false by decide)]
        by_cases c3 : hasE d.2.2.2.2.2.2.1 l[i + 1].1
        · rw [if_pos c3, if_pos c3, if_pos (by decide)]
        · rw [if_neg c3, if_neg c3]
  · simp only
    rw [cnd_f (ilt_f (by simp only [len]; omega))]
  · rw [List.take_zero, List.drop_zero]
    by_cases hc : errL (cmtRnd d) [] l ≠ 0
    · rw [if_pos hc]
    · rw [if_neg hc]
      have hc : errL (cmtRnd d) [] l = 0 := by simpa using hc
      rw [hc]
theorem comment_eq {d : Doc} (hg : goodD d) (h64 : d.2.2.2.2.2.2.2.length ≤ 64) {i : Nat} (hi : i < d.2.2.2.2.2.2.2.length) : r12_checkComment fuelH (d, (i : Int)) = some (cmtRnd d (d.2.2.2.2.2.2.2.take i) d.2.2.2.2.2.2.2[i]) := by
  unfold r12_checkComment
  simp only
  have hfind := fun k => find_eq (d := d) (by have := hg.2.1; omega) k
  have hv := hg.2.2 _ (List.getElem_mem hi)
  have hlen := fun k => evAt_len (k := k) hg
  rw [grd_t (inb_t (by simp only [len]; omega)), lget_i hi]
  generalize hl : d.2.2.2.2.2.2.2 = l at hi hv h64 ⊢
  rw [cnd_ilt, cnd_ilt]
  unfold cmtRnd
  by_cases c1 : l[i].1 < 1
  · rw [if_pos c1, if_pos c1]
  rw [if_neg c1, if_neg c1]
  by_cases c2 : d.2.2.2.2.1 < l[i].1
  · rw [if_pos c2, if_pos c2]
  rw [if_neg c2, if_neg c2]
  refine Eq.trans (jn_u (X := some (if hasE d.2.2.2.2.2.2.1 l[i].1 then 7 else tailE d l[i])) ?_ _) ?_
  · skip
    rw [hfind, bnd_some', cnd_ile]
    by_cases c3 : hasE d.2.2.2.2.2.2.1 l[i].1
    · rw [if_pos (hlen _ c3).2.1, if_pos c3]
    rw [if_neg (by rw [findE_no _ _ _ c3]; decide), if_neg c3]
    unfold tailE ancE
    rw [cnd_ilt, cnd_ilt]
    by_cases a1 : l[i].2.1 < 1
    · rw [if_pos a1, if_pos a1, if_pos (by decide)]
    rw [if_neg a1, if_neg a1]
    by_cases a2 : d.2.2.2.2.1 < l[i].2.1
    · rw [if_pos a2, if_pos a2, if_pos (by decide)]
    rw [if_neg a2, if_neg a2]
    refine Eq.trans (jn_u (X := some (endE l[i])) ?_ _) ?_
    · skip
      rw [r07_name, bnd_some']
      unfold endE
      by_cases c2 : nm l[i].2.2.2.2.1 = false
      · rw [cnd_t (by rw [c2]; rfl), if_pos c2]
      rw [cnd_f (by rw [← Bool.not_eq_true, bnot_t]; exact c2), if_neg c2, r08_valid _ hv, bnd_some']
      by_cases c3 : vld l[i].2.2.2.2.2.1 = false
      · rw [cnd_t (by rw [c3]; rfl), if_pos c3]
      rw [cnd_f (by rw [← Bool.not_eq_true, bnot_t]; exact c3), if_neg c3]
      by_cases c4 : l[i].2.2.2.2.2.1 = []
      · rw [cnd_t (by rw [seq_t]; exact c4), if_pos c4]
      rw [cnd_f (by rw [← Bool.not_eq_true, seq_t]; exact c4), if_neg c4]
      by_cases c5 : 400 < l[i].2.2.2.2.2.1.length
      · rw [cnd_t (ilt_t (by simp only [len]; omega)), if_pos c5]
      · rw [cnd_f (ilt_f (by simp only [len]; omega)), if_neg c5]
    · simp only
      by_cases c3 : l[i].2.2.2.2.2.2.2 = true
      · rw [cnd_t c3, if_pos c3, cnd_ine, cnd_ine]
        by_cases c4 : l[i].2.2.1 ≠ 0
        · rw [if_pos c4, if_pos c4, if_pos (by decide)]
        rw [if_neg c4, if_neg c4]
        by_cases c5 : l[i].2.2.2.1 ≠ 0
        · rw [if_pos c5, if_pos c5, if_pos (by decide)]
        · rw [if_neg c5, if_neg c5, if_neg (by decide)]
      · rw [cnd_f (by simpa using c3), if_neg c3, hfind, bnd_some', cnd_ilt]
        by_cases c4 : hasE d.2.2.2.2.2.2.1 l[i].2.1
        · obtain ⟨q1, q2, q3, q4⟩ := hlen _ c4
          rw [if_neg (by omega), if_neg (not_not_intro c4), cnd_ilt]
          by_cases c5 : l[i].2.2.1 < 0
          · rw [if_pos c5, if_pos c5, if_pos (by decide)]
          rw [if_neg c5, if_neg c5, cnd_ile]
          by_cases c6 : l[i].2.2.2.1 ≤ l[i].2.2.1
          · rw [if_pos c6, if_pos c6, if_pos (by decide)]
          rw [if_neg c6, if_neg c6, grd_t q1]
          refine Eq.trans (bnd_s (show r11_Len fuelH (lget d.2.2.2.2.2.2.1 (toN (findE 0 d.2.2.2.2.2.2.1 l[i].2.1)) evZ) = _ from q4)) ?_
          rw [cnd_ilt]
          by_cases c7 : evLen (evAt d.2.2.2.2.2.2.1 l[i].2.1) < l[i].2.2.2.1
          · rw [if_pos c7, if_pos c7, if_pos (by decide)]
          · rw [if_neg c7, if_neg c7, if_neg (by decide)]
        · rw [if_pos (by rw [findE_no _ _ _ c4]; decide), if_pos c4, if_pos (by decide)]
  · simp only
    cases i with
    | zero =>
      rw [cnd_f (by rfl)]
      have e0 : cOrd (l.take 0).getLast? l[0] = true := rfl
      rw [e0, if_neg (show ¬ true = false by decide)]
    | succ i =>
      rw [cnd_t (ilt_t (by omega)), w64_back (by omega), grd_t (inb_t (by simp only [len]; omega)), lget_i (show i < l.length by omega), cnd_ile]
      have e0 : cOrd (l.take (i + 1)).getLast? l[i + 1] = decide (l[i].1 < l[i + 1].1) := by rw [last_take (show i < l.length by omega)]; rfl
      rw [e0]
      by_cases c4 : l[i + 1].1 ≤ l[i].1
      · rw [if_pos c4, decide_eq_false (by omega), if_pos rfl]
      · rw [if_neg c4, decide_eq_true (by omega), if_neg (show ¬ true = false by decide)]
end
end Go.Mo
end

section
/-
  Plain facts: the check of a document is the specified one.
-/
namespace Go.Mo
open Go Go.W Go.Lib
set_option maxRecDepth 100000
noncomputable section

def docChk (d : Doc) : Int :=
  if headChk d ≠ 0 then headChk d else if regsChk d.2.2.2.2.2.1 ≠ 0 then regsChk d.2.2.2.2.2.1 else
  if 400 < d.2.2.2.2.2.2.1.length then 9 else if evsChk d ≠ 0 then evsChk d else cmtsChk d
def smallD (d : Doc) : Prop := d.1.length ≤ 4000000 ∧ d.2.2.2.2.2.1.length ≤ 4000000 ∧ (∀ x ∈ d.2.2.2.2.2.2.1, smallL x.2.2.2.2.2) ∧ ∀ c ∈ d.2.2.2.2.2.2.2, c.2.2.2.2.2.1.length ≤ 4000000
theorem good_of {d : Doc} (hs : smallD d) (hn : d.2.2.2.2.2.2.1.length ≤ 400) (h : ∀ j (h : j < d.2.2.2.2.2.2.1.length), evRnd d.2.2.2.2.2.1 d.2.2.2.2.1 (d.2.2.2.2.2.2.1.take j) d.2.2.2.2.2.2.1[j] = 0) : goodD d := by
  refine ⟨fun x hx => ?_, hn, hs.2.2.2⟩
  obtain ⟨j, hj, rfl⟩ := List.mem_iff_getElem.1 hx
  obtain ⟨h1, _⟩ := evRnd_ok (h j hj)
  obtain ⟨_, _, _, _, h4, h5, _⟩ := ev_ok h1
  exact ⟨fun r hr => rowE_ok (hs.2.2.1 _ hx r hr) (h5 r hr), h4⟩
theorem mput_take {l : List Ev} {i : Nat} (hi : i < l.length) (hn : ¬ hasE (l.take i) l[i].1) : mput ieq (mapE 0 (l.take i)) l[i].1 (i : Int) = mapE 0 (l.take (i + 1)) := by
  rw [mput_new _ (by rw [mhas_mapE, decide_eq_false hn]), List.take_succ_eq_append_getElem hi, mapE_app]
  have : (l.take i).length = i := by rw [List.length_take]; omega
  rw [this, Nat.zero_add]
  rfl
theorem document_check {d : Doc} (hs : smallD d) : document_Check fuelH d = some (docChk d) := by
  unfold document_Check docChk
  rw [bnd_s (header_eq hs.1)]
  by_cases c1 : headChk d ≠ 0
  · rw [cnd_t (ine_t c1), if_pos c1]
  rw [cnd_f (ine_f (by simpa using c1)), if_neg c1, bnd_s (region_list _)]
  by_cases c2 : regsChk d.2.2.2.2.2.1 ≠ 0
  · rw [cnd_t (ine_t c2), if_pos c2]
  rw [cnd_f (ine_f (by simpa using c2)), if_neg c2]
  by_cases c3 : 400 < d.2.2.2.2.2.2.1.length
  · rw [cnd_t (ilt_t (by simp only [len]; omega)), if_pos c3]
  rw [cnd_f (ilt_f (by simp only [len]; omega)), if_neg c3, jn_e]
  have hgood := @good_of d hs (by omega)
  have hcm := @comments_eq d
  unfold evsChk
  have hev := hs.2.2.1
  generalize hl : d.2.2.2.2.2.2.1 = l at c3 hgood hcm hev ⊢
  refine Eq.trans (loop_err (l := l) (fun (a : List (Int × Int)) (p : Nat) => ((p : Int), a)) (fun pre => mapE 0 pre) (evRnd d.2.2.2.2.2.1 d.2.2.2.2.1) (fun e => e) (some (cmtsChk d)) (fun self i hi => ?_) (fun hz self => ?_) fuelH 0 (Nat.zero_le _) (by have := fuelH_eq; omega) (fun j _ hj => by omega)) ?_
  · have hin : inb (i : Int) (len l) = true := inb_t (by simp only [len]; omega)
    have hx := hev _ (List.getElem_mem hi)
    simp only
    rw [cnd_t (ilt_t (by simp only [len]; omega)), grd_t hin, lget_i hi, bnd_s (event_check_eq hx hs.2.1), cnd_ilt, w64_succ hi (by omega)]
    unfold evRnd
    by_cases e1 : evChk l[i] d.2.2.2.2.2.1 ≠ 0
    · rw [if_pos e1, if_pos e1, cnd_t (ine_t e1)]
    rw [if_neg e1, cnd_f (ine_f (by simpa using e1))]
    by_cases e2 : d.2.2.2.2.1 < l[i].1
    · rw [if_pos e2, if_pos e2, if_pos (by decide)]
    rw [if_neg e2, if_neg e2]
    have hput := fun h => mput_take hi h
    cases i with
    | zero =>
      rw [cnd_f (by rfl), mhas_mapE, cnd_dec]
      have e0 : ordB (l.take 0).getLast? l[0] = true := rfl
      rw [e0, if_neg (show ¬ true = false by decide)]
      by_cases e3 : hasE (l.take 0) l[0].1
      · rw [if_pos e3, if_pos e3, if_pos (by decide)]
      · rw [if_neg e3, if_neg e3, hput e3, if_neg (by decide)]
    | succ i =>
      rw [cnd_t (ilt_t (by omega)), w64_back (by omega), grd_t (inb_t (by simp only [len]; omega)), lget_i (show i < l.length by omega), bnd_s (event_less _ _), mhas_mapE, cnd_dec, cnd_bnot]
      have e0 : ordB (l.take (i + 1)).getLast? l[i + 1] = decide (lessE l[i] l[i + 1]) := by rw [last_take (show i < l.length by omega)]; rfl
      rw [e0]
      by_cases e4 : lessE l[i] l[i + 1]
      · rw [if_pos e4, decide_eq_true e4, if_neg (show ¬ true = false by decide)]
        by_cases e3 : hasE (l.take (i + 1)) l[i + 1].1
        · rw [if_pos e3, if_pos e3, if_pos (by decide)]
        · rw [if_neg e3, if_neg e3, hput e3, if_neg (by decide)]
      · rw [if_neg e4, decide_eq_false e4, if_pos rfl, if_pos (by decide)]
  · simp only
    rw [cnd_f (ilt_f (by simp only [len]; omega)), bnd_s (hcm (hgood hz))]
  · rw [List.take_zero, List.drop_zero]
    split <;> rfl
theorem r12_check {d : Doc} (hs : smallD d) : r12_Check fuelH d = some (docChk d) := by
  unfold r12_Check docChk
  rw [bnd_s (checkHead_eq hs.1)]
  by_cases c1 : headChk d ≠ 0
  · rw [cnd_t (ine_t c1), if_pos c1]
  rw [cnd_f (ine_f (by simpa using c1)), if_neg c1, bnd_s (r10_list _)]
  by_cases c2 : regsChk d.2.2.2.2.2.1 ≠ 0
  · rw [cnd_t (ine_t c2), if_pos c2]
  rw [cnd_f (ine_f (by simpa using c2)), if_neg c2]
  by_cases c3 : 400 < d.2.2.2.2.2.2.1.length
  · rw [cnd_t (ilt_t (by simp only [len]; omega)), if_pos c3]
  rw [cnd_f (ilt_f (by simp only [len]; omega)), if_neg c3, jn_e]
  have hgood := @good_of d hs (by omega)
  have hcm := @comment_eq d
  have hfind := fun k => find_eq (d := d) (by omega) k
  unfold evsChk
  have hev := hs.2.2.1
  generalize hl : d.2.2.2.2.2.2.1 = l at c3 hgood hfind hev ⊢
  refine Eq.trans (loop_err (l := l) (fun (_ : Unit) (p : Nat) => (p : Int)) (fun _ => ()) (evRnd d.2.2.2.2.2.1 d.2.2.2.2.1) (fun e => e) (some (cmtsChk d)) (fun self i hi => ?_) (fun hz self => ?_) fuelH 0 (Nat.zero_le _) (by have := fuelH_eq; omega) (fun j _ hj => by omega)) ?_
  · have hin : inb (i : Int) (len l) = true := inb_t (by simp only [len]; omega)
    have hx := hev _ (List.getElem_mem hi)
    have hat := findE_at hi
    rw [cnd_t (ilt_t (by simp only [len]; omega)), grd_t hin, lget_i hi, bnd_s (r11_check_eq hx hs.2.1), cnd_ilt, w64_succ hi (by omega)]
    unfold evRnd
    by_cases e1 : evChk l[i] d.2.2.2.2.2.1 ≠ 0
    · rw [if_pos e1, if_pos e1, cnd_t (ine_t e1)]
    rw [if_neg e1, cnd_f (ine_f (by simpa using e1))]
    by_cases e2 : d.2.2.2.2.1 < l[i].1
    · rw [if_pos e2, if_pos e2, if_pos (by decide)]
    rw [if_neg e2, if_neg e2]
    cases i with
    | zero =>
      rw [cnd_f (by rfl), hfind, bnd_some', cnd_ine]
      have e0 : ordB (l.take 0).getLast? l[0] = true := rfl
      rw [e0, if_neg (show ¬ true = false by decide)]
      by_cases e3 : hasE (l.take 0) l[0].1
      · rw [if_pos (fun e => hat.1 e e3), if_pos e3, if_pos (by decide)]
      · rw [if_neg (not_not_intro (hat.2 e3)), if_neg e3, if_neg (by decide)]
    | succ i =>
      rw [cnd_t (ilt_t (by omega)), w64_back (by omega), grd_t (inb_t (by simp only [len]; omega)), lget_i (show i < l.length by omega), bnd_s (r11_less _ _ _), hfind, bnd_some', cnd_ine, cnd_bnot]
      have e0 : ordB (l.take (i + 1)).getLast? l[i + 1] = decide (lessE l[i] l[i + 1]) := by rw [last_take (show i < l.length by omega)]; rfl
      rw [e0]
      by_cases e4 : lessE l[i] l[i + 1]
      · rw [if_pos e4, decide_eq_true e4, if_neg (show ¬ true = false by decide)]
        by_cases e3 : hasE (l.take (i + 1)) l[i + 1].1
        · rw [if_pos (fun e => hat.1 e e3), if_pos e3, if_pos (by decide)]
        · rw [if_neg (not_not_intro (hat.2 e3)), if_neg e3, if_neg (by decide)]
      · rw [if_neg e4, decide_eq_false e4, if_pos rfl, if_pos (by decide)]
  · rw [cnd_f (ilt_f (by simp only [len]; omega))]
    have hg := hgood hz
    unfold cmtsChk
    by_cases h64 : 64 < d.2.2.2.2.2.2.2.length
    · rw [cnd_t (ilt_t (by simp only [len]; omega)), if_pos h64]
    rw [cnd_f (ilt_f (by simp only [len]; omega)), if_neg h64, jn_e]
    have hcm := @hcm hg (by omega)
    generalize hm : d.2.2.2.2.2.2.2 = m at h64 hcm ⊢
    refine Eq.trans (loop_err (l := m) (fun (_ : Unit) (p : Nat) => (p : Int)) (fun _ => ()) (cmtRnd d) (fun e => e) (some 0) (fun self i hi => ?_) (fun _ self => ?_) fuelH 0 (Nat.zero_le _) (by have := fuelH_eq; omega) (fun j _ hj => by omega)) ?_
    · rw [cnd_t (ilt_t (by simp only [len]; omega)), hcm hi, bnd_some', cnd_ine, w64_succ hi (by omega)]
    · rw [cnd_f (ilt_f (by simp only [len]; omega))]
    · rw [List.take_zero, List.drop_zero]
      by_cases hc : errL (cmtRnd d) [] m ≠ 0
      · rw [if_pos hc]
      · rw [if_neg hc]
        have hc : errL (cmtRnd d) [] m = 0 := by simpa using hc
        rw [hc]
  · rw [List.take_zero, List.drop_zero]
    split <;> rfl
end
end Go.Mo
end

section
/-
  Plain facts: the place of a good event, and its region.
-/
namespace Go.Mo
open Go Go.W Go.Lib
set_option maxRecDepth 100000
noncomputable section

end
end Go.Mo
end

section
/-
  Plain facts: the document as the form carries it, on both sides.
-/
namespace Go.Mo
open Go Go.W Go.Lib
set_option maxRecDepth 100000
noncomputable section

end
end Go.Mo
end

section
/-
  Plain facts: a document is the same as itself; StlAccepts returns true.
-/
namespace Go.Mo
open Go Go.W Go.Lib
set_option maxRecDepth 100000
noncomputable section

end
end Go.Mo
end

section
/-
  Plain facts: StlAccepts returns true.
-/
namespace Go.Mo
open Go Go.W Go.Lib
set_option maxRecDepth 100000
noncomputable section

def wtG (r : Reg) : Nat := r.1.length + 1 + (1 + (1 + (1 + (1 + (1 + 1)))))
def wtX (x : Ev) : Nat := 1 + (1 + 1 + (x.2.2.1.length + 1 + (1 + (x.2.2.2.2.1.length + 1 + (bkL wtR x.2.2.2.2.2 + 1)))))
def wtC (c : Cmt) : Nat := 1 + (1 + (1 + (1 + (c.2.2.2.2.1.length + 1 + (c.2.2.2.2.2.1.length + 1 + (1 + 1))))))
def wtD (d : Doc) : Nat := d.1.length + 1 + (d.2.1.length + 1 + (1 + (1 + (1 + (bkL wtG d.2.2.2.2.2.1 + 1 + (bkL wtX d.2.2.2.2.2.2.1 + 1 + (bkL wtC d.2.2.2.2.2.2.2 + 1)))))))
end
end Go.Mo
end

section
/-
  Plain facts: texts that are joined; the normal form of a row that is good.
-/
namespace Go.Mo
open Go Go.W Go.Lib
set_option maxRecDepth 100000
noncomputable section

def decP (t : List UInt8) (r : Int) : Bool := ieq ((decodeL (enc r ++ t)).1 : Int) r && decide ((decodeL (enc r ++ t)).2 = (enc r).length)
theorem dec_tab (t : List UInt8) : ((loRunes ++ hiRunes).all (decP t)) = true := by kernel_rfl
theorem dec_enc {r : Int} (hr : inRep r = true) (t : List UInt8) : ((decodeL (enc r ++ t)).1 : Int) = r ∧ (decodeL (enc r ++ t)).2 = (enc r).length := by
  have h : decP t r = true := all_rep (dec_tab t) hr
  unfold decP at h
  rw [Bool.and_eq_true, ieq_tt, decide_eq_true_eq] at h
  exact h
theorem enc_ne2 {r : Int} (hr : inRep r = true) : enc r ≠ [] := by
  have h := all_rep (P := fun r => !(enc r).isEmpty) (by kernel_rfl) hr
  intro e
  simp [e] at h
theorem vld_ofR : ∀ (l : List Int) (t : List UInt8), l.all inRep = true → vld (ofR l ++ t) = vld t
  | [], t, _ => rfl
  | r :: l, t, h => by
    rw [List.all_cons, Bool.and_eq_true] at h
    have e : ofR (r :: l) ++ t = enc r ++ (ofR l ++ t) := by unfold ofR; rw [List.flatMap_cons, List.append_assoc]
    obtain ⟨d1, d2⟩ := dec_enc h.1 (ofR l ++ t)
    rw [e, vld_step _ (by simp [enc_ne2 h.1]), d1, d2, List.drop_left, if_pos h.1, vld_ofR l t h.2]
theorem vld_cat {a : List UInt8} (h : vld a = true) (b : List UInt8) : vld (a ++ b) = vld b := by
  conv => lhs; rw [← ofR_rns h]
  exact vld_ofR _ _ (rns_ok h)

theorem plainT_app (a b : Row) : plainT (a ++ b) = plainT a ++ plainT b := by unfold plainT; rw [List.flatMap_append]
theorem plainT_one (x : Run) : plainT [x] = x.1 := by unfold plainT; simp
theorem snoc_plain (out : Row) (x : Run) : plainT (snoc out x) = plainT out ++ x.1 := by
  unfold snoc
  split
  · rename_i h; rw [h, List.append_nil]
  · split
    · rename_i p hp
      split
      · rw [plainT_app, plainT_one]
        conv => rhs; rw [last_eq hp, plainT_app, plainT_one]
        simp
      · rw [plainT_app, plainT_one]
    · rw [plainT_app, plainT_one]
theorem fold_plain : ∀ (l out : Row), plainT (l.foldl snoc out) = plainT out ++ plainT l
  | [], out => by simp [plainT]
  | x :: l, out => by
    rw [List.foldl_cons, fold_plain l, snoc_plain]
    have : plainT (x :: l) = x.1 ++ plainT l := by unfold plainT; rw [List.flatMap_cons]
    rw [this, List.append_assoc]
theorem rowE_zero {l : Row} (h : rowE l = 0) : rowChk l = 0 ∧ neatT (plainT l) = true ∧ lenT l ≤ 32 := by
  unfold rowE at h
  split at h
  · rename_i hc; exact absurd h hc
  split at h
  · cases h
  split at h
  · cases h
  rename_i c1 c2 c3
  exact ⟨by simpa using c1, by simpa using c2, by omega⟩
end
end Go.Mo
end

section
/-
  Plain facts: the regions of a reduced document; its events stand where they stood.
-/
namespace Go.Mo
open Go Go.W Go.Lib
set_option maxRecDepth 100000
noncomputable section

end
end Go.Mo
end

section
/-
  Plain facts: a reduced document is good; StlReduced returns true.
-/
namespace Go.Mo
open Go Go.W Go.Lib
set_option maxRecDepth 100000
noncomputable section

theorem doc_parts {d : Doc} (h : docChk d = 0) : headChk d = 0 ∧ d.2.2.2.2.2.2.1.length ≤ 400 ∧ evsChk d = 0 := by
  unfold docChk at h
  split at h
  · rename_i hc; exact absurd h hc
  rename_i c1
  split at h
  · rename_i hc; exact absurd h hc
  split at h
  · cases h
  rename_i hn
  split at h
  · rename_i hc; exact absurd h hc
  rename_i hc
  exact ⟨by simpa using c1, by omega, by simpa using hc⟩
end
end Go.Mo
end

section
/-
  Plain facts: digits and the bytes of a header.
-/
namespace Go.Mo
open Go Go.W Go.Lib
set_option maxRecDepth 100000

/-- the byte of the last digit -/
def dg (v : Int) : UInt8 := b8 (w64 (iadd 48 (imod v 10)))
def dv (v : Int) : Int := w64 (idiv v 10)
end Go.Mo
end

section
/-
  Plain facts: what the check of a header lets through; the bytes of a header.
-/
namespace Go.Mo
open Go Go.W Go.Lib
set_option maxRecDepth 100000
noncomputable section

def lblOk (l : Lbl) : Prop := (0 ≤ l.1 ∧ l.1 ≤ 23) ∧ (0 ≤ l.2.1 ∧ l.2.1 ≤ 59) ∧ (0 ≤ l.2.2.1 ∧ l.2.2.1 ≤ 59) ∧ (0 ≤ l.2.2.2.1 ∧ l.2.2.2.1 ≤ 59)
structure HdrOk (h : Hdr) : Prop where
  rate : h.1 = 3 ∨ h.1 = 5
  lang : h.2.1 = [] ∨ nm h.2.1 = true
  ttl : vld h.2.2.1 = true
  ttlL : h.2.2.1.length ≤ 400
  blocks : 0 ≤ h.2.2.2.1 ∧ h.2.2.2.1 ≤ 99999
  groups : 0 ≤ h.2.2.2.2.1 ∧ h.2.2.2.2.1 ≤ 99999
  start : lblOk h.2.2.2.2.2.1
  first : lblOk h.2.2.2.2.2.2.1
  rows : 0 ≤ h.2.2.2.2.2.2.2.1 ∧ h.2.2.2.2.2.2.2.1 ≤ 99
  cols : 0 ≤ h.2.2.2.2.2.2.2.2 ∧ h.2.2.2.2.2.2.2.2 ≤ 99
  d1 : h.2.2.2.2.2.1.2.2.2.2 = false
  d2 : h.2.2.2.2.2.2.1.2.2.2.2 = false
end
end Go.Mo
end

section
/-
  Plain facts: numbers and names read back.
-/
namespace Go.Mo
open Go Go.W Go.Lib
set_option maxRecDepth 100000
noncomputable section

end
end Go.Mo
end

section
/-
  Plain facts: a header read back; TapeHeaders.
-/
namespace Go.Mo
open Go Go.W Go.Lib
set_option maxRecDepth 100000
noncomputable section

def hz : Hdr := ((0 : UInt8), ([] : List UInt8), ([] : List UInt8), (0 : Int), (0 : Int), ((0 : Int), (0 : Int), (0 : Int), (0 : Int), false), ((0 : Int), (0 : Int), (0 : Int), (0 : Int), false), (0 : Int), (0 : Int))
end
end Go.Mo
end

section
/-
  Plain facts: rows that are read are small; a subtitle that is read, both sides.
-/
namespace Go.Mo
open Go Go.W Go.Lib
set_option maxRecDepth 100000
noncomputable section

theorem norm_tot (l : Row) : tot (normR l) = tot l := by
  rw [← plainT_len, ← plainT_len]
  unfold normR
  rw [fold_plain]
  rfl
end
end Go.Mo
end

section
/-
  Plain facts: events in document order, both sides.
-/
namespace Go.Mo
open Go Go.W Go.Lib
set_option maxRecDepth 100000
noncomputable section

end
end Go.Mo
end

section
/-
  Plain facts: the program's sorting of few events.
-/
namespace Go.Mo
open Go Go.W Go.Lib
set_option maxRecDepth 100000
noncomputable section

end
end Go.Mo
end

section
/-
  Plain facts: what is read is a valid document that the form carries; StlValid returns true.
-/
namespace Go.Mo
open Go Go.W Go.Lib
set_option maxRecDepth 100000
noncomputable section

end
end Go.Mo
end

section
/-
  Plain facts: the blocks of a subtitle lead back to it.
-/
namespace Go.Mo
open Go Go.W Go.Lib
set_option maxRecDepth 100000
noncomputable section

theorem enc_tot : ∀ l : List Int, l.all inRep = true → (ofR l).length ≤ 4 * l.length
  | [], _ => Nat.le_refl _
  | r :: l, h => by
    rw [List.all_cons, Bool.and_eq_true] at h
    have h1 := enc_tot l h.2
    have h2 := enc_len4 h.1
    have e : ofR (r :: l) = enc r ++ ofR l := by unfold ofR; rw [List.flatMap_cons]
    rw [e, List.length_append, List.length_cons]
    omega
theorem tot_lenT : ∀ (l : Row), (∀ x ∈ l, vld x.1 = true) → tot l ≤ 4 * lenT l
  | [], _ => Nat.le_refl _
  | x :: l, h => by
    have h1 := tot_lenT l fun y hy => h y (List.mem_cons_of_mem _ hy)
    have hv := h x List.mem_cons_self
    have h2 := enc_tot (rns x.1) (rns_ok hv)
    rw [ofR_rns hv] at h2
    simp only [tot, lenT]
    omega
end
end Go.Mo
end

section
/-
  Plain facts: the file of an accepted document is read as the reduced document; StlCarries returns true.
-/
namespace Go.Mo
open Go Go.W Go.Lib
set_option maxRecDepth 100000
noncomputable section

end
end Go.Mo
end
end

section
/-
  Plain facts: times and their texts, both sides; SubripClocks returns true.
-/
namespace Go.Mo
open Go Go.W Go.Lib
set_option maxRecDepth 100000
noncomputable section

theorem awake19 : l19_awake fuelH () = some true := by kernel_rfl

theorem dtab2 : ((List.range 100).all fun n => decide (subrip_digits fuelH ((n : Int), 2) = some [dg (dv (n : Int)), dg (n : Int)])) = true := by kernel_rfl
theorem dtab3 : ((List.range 1000).all fun n => decide (subrip_digits fuelH ((n : Int), 3) = some [dg (dv (dv (n : Int))), dg (dv (n : Int)), dg (n : Int)])) = true := by kernel_rfl
theorem r19d2 (v : Int) : r19_digits fuelH (v, 2) = some [dg (dv v), dg v] := by kernel_rfl
theorem r19d3 (v : Int) : r19_digits fuelH (v, 3) = some [dg (dv (dv v)), dg (dv v), dg v] := by kernel_rfl
theorem sub_d2 {v : Int} (h0 : 0 ≤ v) (h1 : v < 100) : subrip_digits fuelH (v, 2) = some [dg (dv v), dg v] := by
  have := of_decide_eq_true (List.all_eq_true.1 dtab2 v.toNat (List.mem_range.2 (by omega)))
  rwa [show ((v.toNat : Nat) : Int) = v by omega] at this
theorem sub_d3 {v : Int} (h0 : 0 ≤ v) (h1 : v < 1000) : subrip_digits fuelH (v, 3) = some [dg (dv (dv v)), dg (dv v), dg v] := by
  have := of_decide_eq_true (List.all_eq_true.1 dtab3 v.toNat (List.mem_range.2 (by omega)))
  rwa [show ((v.toNat : Nat) : Int) = v by omega] at this

def clkB (h m s t : Int) : List UInt8 := [dg (dv h), dg h, 58, dg (dv m), dg m, 58, dg (dv s), dg s, 44, dg (dv (dv t)), dg (dv t), dg t]
def clkS (v : Int) : List UInt8 × Int := if v < 0 then ([], 2) else if 359999999 < v then ([], 2) else (clkB (v / 3600000) (v / 60000 % 60) (v / 1000 % 60) (v % 1000), 0)
theorem tdiv_w {a b : Int} (ha : 0 ≤ a ∧ a ≤ 359999999) (hb : 0 < b) : w64 (idiv a b) = a / b := by
  unfold idiv
  have h1 := Int.ediv_nonneg ha.1 (Int.le_of_lt hb)
  have h2 := Int.ediv_le_self b ha.1
  rw [Int.tdiv_eq_ediv_of_nonneg ha.1, w64_id (by omega)]
theorem tmod_w {a b : Int} (ha : 0 ≤ a) : imod a b = a % b := Int.tmod_eq_emod_of_nonneg ha
theorem sub_clock (v : Int) : subrip_Clock fuelH v = some (clkS v) := by
  unfold subrip_Clock clkS
  rw [cnd_ilt]
  by_cases h0 : v < 0
  · rw [if_pos h0, if_pos h0]
  rw [if_neg h0, if_neg h0, cnd_ilt]
  by_cases h1 : 359999999 < v
  · rw [if_pos h1, if_pos h1]
  have e1 := tdiv_w (a := v) (b := 1000) (by omega) (by omega)
  have e2 := tdiv_w (a := v / 1000) (b := 3600) (by omega) (by omega)
  have e3 := tdiv_w (a := v / 1000) (b := 60) (by omega) (by omega)
  rw [if_neg h1, if_neg h1, e1, e2, e3, tmod_w (a := v / 1000 / 60) (by omega), tmod_w (a := v / 1000) (by omega), tmod_w (a := v) (by omega), sub_d2 (by omega) (by omega), bnd_some', grd_t (by kernel_rfl), sub_d2 (by omega) (by omega), bnd_some', grd_t (by kernel_rfl), grd_t (by kernel_rfl), sub_d2 (by omega) (by omega), bnd_some', grd_t (by kernel_rfl), grd_t (by kernel_rfl), sub_d3 (by omega) (by omega), bnd_some', grd_t (by kernel_rfl)]
  rw [show v / 3600000 = v / 1000 / 3600 by omega, show v / 60000 = v / 1000 / 60 by omega]
  rfl
theorem ref_clock (v : Int) : r19_Clock fuelH v = some (clkS v) := by
  unfold r19_Clock clkS
  rw [cnd_ilt]
  by_cases h0 : v < 0
  · rw [if_pos h0, if_pos h0]
  rw [if_neg h0, if_neg h0, cnd_ilt]
  by_cases h1 : 359999999 < v
  · rw [if_pos h1, if_pos h1]
  have e1 := tdiv_w (a := v) (b := 1000) (by omega) (by omega)
  have e2 := tdiv_w (a := v) (b := 3600000) (by omega) (by omega)
  have e3 := tdiv_w (a := v) (b := 60000) (by omega) (by omega)
  rw [if_neg h1, if_neg h1, e1, e2, e3, tmod_w (a := v / 60000) (by omega), tmod_w (a := v / 1000) (by omega), tmod_w (a := v) (by omega), r19d2, bnd_some', grd_t (by kernel_rfl), r19d2, bnd_some', grd_t (by kernel_rfl), grd_t (by kernel_rfl), r19d2, bnd_some', grd_t (by kernel_rfl), grd_t (by kernel_rfl), r19d3, bnd_some', grd_t (by kernel_rfl)]
  rfl

end
end Go.Mo
end

section
/-
  Plain facts: the markup of rows, both sides.
-/
namespace Go.Mo
open Go Go.W Go.Lib
set_option maxRecDepth 100000
noncomputable section

def badB (b : UInt8) : Bool := decide (b = 60) || (decide (b = 62) || decide (b = 38))
def hasX (l : List UInt8) : Bool := l.any badB
def chX : List UInt8 := [60, 62, 38]
theorem badB_mem (b : UInt8) : chX.contains b = badB b := by
  unfold chX badB
  simp [List.contains_cons, List.elem]
theorem index_any : ∀ l : List UInt8, (0 ≤ Lib.indexAny l chX ↔ hasX l = true)
  | [] => by simp [Lib.indexAny, hasX]
  | b :: l => by
    have ih := index_any l
    have hg := Lib.indexAny_ge chX l
    unfold Lib.indexAny hasX
    rw [badB_mem, List.any_cons]
    cases hb : badB b with
    | true => simp
    | false =>
      simp only [Bool.false_or, Bool.false_eq_true, if_false]
      show 0 ≤ (if (Lib.indexAny l chX == -1) = true then (-1 : Int) else Lib.indexAny l chX + 1) ↔ hasX l = true
      by_cases h1 : Lib.indexAny l chX = -1
      · rw [if_pos (by simp [h1])]
        rw [h1] at ih
        exact ih
      · rw [if_neg (by simpa using h1), ← ih]
        omega
/-- where a letter of the repertoire stands among the three -/
def ixR (r : Int) : Bool := match strings_IndexRune fuelH (chX, r) with
  | some v => decide ((decide (0 ≤ v)) = hasX (enc r)) && decide ((0 ≤ v) = (0 ≤ v))
  | none => false
theorem ixR_tab {r : Int} (hr : inRep r = true) : ixR r = true := all_rep (P := ixR) (by kernel_rfl) hr
theorem ix_rune {r : Int} (hr : inRep r = true) : ∃ v, strings_IndexRune fuelH (chX, r) = some v ∧ decide (0 ≤ v) = hasX (enc r) := by
  have h := ixR_tab hr
  unfold ixR at h
  split at h
  · rename_i v hv
    rw [Bool.and_eq_true] at h
    exact ⟨v, hv, of_decide_eq_true h.1⟩
  · cases h
theorem hasX_ofR : ∀ l : List Int, hasX (ofR l) = l.any fun r => hasX (enc r)
  | [] => rfl
  | r :: l => by
    have e : ofR (r :: l) = enc r ++ ofR l := by unfold ofR; rw [List.flatMap_cons]
    rw [e, List.any_cons, ← hasX_ofR l]
    unfold hasX
    rw [List.any_append]
theorem contains_any {l : List UInt8} (hv : vld l = true) (hl : l.length ≤ 4000000) : strings_ContainsAny fuelH (l, [60, 62, 38]) = some (hasX l) := by
  unfold strings_ContainsAny strings_IndexAny
  by_cases h9 : 9 ≤ l.length
  · have hb : longAny (l, [60, 62, 38]) = true := by
      unfold longAny
      rw [show Nat.ble 9 l.length = true from Nat.ble_eq_true_of_le h9, show Nat.ble l.length 4294967280 = true from Nat.ble_eq_true_of_le (by omega)]
      rfl
    rw [hb]
    show bnd (some (Lib.indexAny l chX)) _ = _
    rw [bnd_some']
    congr 1
    rw [Bool.eq_iff_iff, ← index_any]
    exact decide_eq_true_iff
  · have hb : longAny (l, [60, 62, 38]) = false := by
      unfold longAny
      rw [show Nat.ble 9 l.length = false by rw [← Bool.not_eq_true]; intro k; exact h9 (Nat.le_of_ble_eq_true k)]
      rfl
    rw [hb]
    show bnd (strings_IndexAny_s fuelH (l, chX)) _ = _
    have key : ∃ v, strings_IndexAny_s fuelH (l, chX) = some v ∧ decide (0 ≤ v) = hasX l := by
      unfold strings_IndexAny_s strings_shouldUseASCIISet
      simp only
      rw [cnd_f (by rfl), cnd_f (by rfl), jn_e, bnd_some', cnd_f (ilt_f (by simp only [len]; omega))]
      rw [jn_e]
      -- the loop tells the place; what counts is whether there is one
      have loop : ∀ (fuel p : Nat), l.length - p < fuel → vld (l.drop p) = true → ∃ v, fixN (fun (v5 : (List UInt8) × Int → Option Int) (v6 : (List UInt8) × Int) =>
          cnd (nlt (toN v6.2) (nlen v6.1))
            (bnd (strings_IndexRune fuelH (chX, decR v6.1 (toN v6.2))) fun v7 =>
            cnd (ile (0 : Int) v7)
              (some (ofN (toN v6.2)))
              (v5 (v6.1, ofN (nadd (toN v6.2) (decW v6.1 (toN v6.2))))))
            (some (-1 : Int))) fuel (l, ofN p) = some v ∧ decide (0 ≤ v) = (rns (l.drop p)).any fun r => hasX (enc r) := by
        intro fuel
        induction fuel with
        | zero => intro p h; omega
        | succ fuel ih =>
          intro p h hvd
          rw [fixN_s]
          simp only
          have tp : toN (ofN p) = p := by simp [toN, ofN]
          rw [tp]
          by_cases hp : p < l.length
          · have hne : l.drop p ≠ [] := by intro e; have := congrArg List.length e; rw [List.length_drop] at this; simp at this; omega
            have e1 := rns_step (l.drop p) hne
            have e2 := vld_step (l.drop p) hne
            rw [hvd] at e2
            by_cases hr : inRep ((decodeL (l.drop p)).1 : Int) = true
            case neg => rw [if_neg hr] at e2; cases e2
            rw [if_pos hr, List.drop_drop] at e2
            obtain ⟨v, q1, q2⟩ := ix_rune hr
            have ed : decR l p = ((decodeL (l.drop p)).1 : Int) := decR_eq l p
            have ew : decW l p = (decodeL (l.drop p)).2 := decW_eq l p
            have hpos := dec_pos (l.drop p)
            rw [cnd_t (by show nlt p (nlen l) = true; exact decide_eq_true hp), ed, ew, q1, bnd_some', e1, List.any_cons, ← q2, List.drop_drop]
            have e : ile (0 : Int) v = decide (0 ≤ v) := rfl
            rw [e]
            cases hd : decide (0 ≤ v) with
            | true => exact ⟨_, rfl, by show decide (0 ≤ (p : Int)) = true; exact decide_eq_true (by omega)⟩
            | false =>
              rw [Bool.false_or]
              exact ih (p + (decodeL (l.drop p)).2) (by omega) e2.symm
          · rw [cnd_f (by show nlt p (nlen l) = false; exact decide_eq_false hp), List.drop_eq_nil_of_le (by omega)]
            exact ⟨-1, rfl, rfl⟩
      obtain ⟨v, h1, h2⟩ := loop fuelH 0 (by have := fuelH_eq; omega) (by rw [List.drop_zero]; exact hv)
      refine ⟨v, h1, ?_⟩
      rw [h2, List.drop_zero, ← hasX_ofR, ofR_rns hv]
    obtain ⟨v, h1, h2⟩ := key
    rw [h1, bnd_some', ← h2]
    rfl

def wht (x : Run) : Run := (x.1, (0, x.2.1.2), [])
def carr (r : Row) : Row := normR (r.map wht)
theorem wht_tot (l : Row) : tot (l.map wht) = tot l := by
  induction l with
  | nil => rfl
  | cons x l ih => simp only [List.map_cons, tot, ih]; rfl
theorem sub_carried {l : Row} (hl : l.length ≤ 4000000) (ht : tot l ≤ 8000000) : subrip_carried fuelH l = some (carr l) := by
  unfold subrip_carried
  rw [jn_e]
  refine loop_inv (n := l.length) (fun (b : Row) (j : Nat) => ((j : Int), b)) (fun j b => b = (l.take j).map wht) _ (fun self b j hj hJ => ?_) (fun self b hJ => ?_) fuelH 0 [] (Nat.zero_le _) (by have := fuelH_eq; omega) rfl
  · refine ⟨b ++ [wht l[j]], ?_, by rw [hJ, List.take_succ_eq_append_getElem hj, List.map_append]; rfl⟩
    have hbl : b.length ≤ 4000000 := by rw [hJ, List.length_map, List.length_take]; omega
    simp only
    rw [cnd_t (ilt_t (by simp only [len]; omega)), grd_t (inb_t (by simp only [len]; omega)), lget_i hj, grd_t (room_t (by simp only [iadd, len, List.length_singleton]; omega)), w64_succ hj (by omega)]
    rfl
  · simp only
    rw [cnd_f (ilt_f (by simp only [len]; omega)), hJ, List.take_length, style_Norm_eq (by rw [List.length_map]; exact hl) (by rw [wht_tot]; exact ht), bnd_some']
    rfl
theorem ref_carried {l : Row} (hl : l.length ≤ 4000000) (ht : tot l ≤ 8000000) : r19_carried fuelH l = some (carr l) := by
  unfold r19_carried
  rw [jn_e]
  refine loop_inv (n := l.length) (fun (b : Row) (j : Nat) => ((j : Int), b)) (fun j b => b = (l.take j).map wht) _ (fun self b j hj hJ => ?_) (fun self b hJ => ?_) fuelH 0 [] (Nat.zero_le _) (by have := fuelH_eq; omega) rfl
  · refine ⟨b ++ [wht l[j]], ?_, by rw [hJ, List.take_succ_eq_append_getElem hj, List.map_append]; rfl⟩
    have hbl : b.length ≤ 4000000 := by rw [hJ, List.length_map, List.length_take]; omega
    simp only
    rw [cnd_t (ilt_t (by simp only [len]; omega)), grd_t (inb_t (by simp only [len]; omega)), lget_i hj, grd_t (room_t (by simp only [iadd, len, List.length_singleton]; omega)), w64_succ hj (by omega)]
    rfl
  · simp only
    rw [cnd_f (ilt_f (by simp only [len]; omega)), hJ, List.take_length, r09_Norm_eq (by rw [List.length_map]; exact hl) (by rw [wht_tot]; exact ht), bnd_some']
    rfl

def ti : List UInt8 := [60, 105, 62]
def tI : List UInt8 := [60, 47, 105, 62]
def tu : List UInt8 := [60, 117, 62]
def tU : List UInt8 := [60, 47, 117, 62]
def wrU (x : Run) : List UInt8 := if x.2.1.2.2 = true then tu ++ x.1 ++ tU else x.1
def wrX (x : Run) : List UInt8 := if x.2.1.2.1 = true then ti ++ wrU x ++ tI else wrU x
def mkS (r : Row) : List UInt8 × Int := if rowChk r ≠ 0 then ([], rowChk r) else if hasX (plainT r) = true then ([], 10) else ((carr r).flatMap wrX, 0)
theorem wrU_len (x : Run) : (wrU x).length ≤ x.1.length + 7 := by unfold wrU tu tU; split <;> simp
theorem wrX_len (x : Run) : (wrX x).length ≤ x.1.length + 14 := by
  have := wrU_len x
  unfold wrX ti tI
  split
  · simp only [List.length_append, List.length_cons, List.length_nil]; omega
  · omega
theorem wr_len : ∀ l : Row, (l.flatMap wrX).length ≤ tot l + 14 * l.length
  | [] => Nat.le_refl _
  | x :: l => by
    have h1 := wr_len l
    have h2 := wrX_len x
    rw [List.flatMap_cons, List.length_append, List.length_cons]
    simp only [tot]
    omega
theorem carr_plain (r : Row) : plainT (carr r) = plainT r := by
  unfold carr normR
  rw [fold_plain]
  show [] ++ plainT (r.map wht) = _
  rw [List.nil_append]
  unfold plainT
  rw [List.flatMap_map]
  rfl
theorem hasX_flat : ∀ l : Row, hasX (plainT l) = l.any fun x => hasX x.1
  | [] => rfl
  | x :: l => by
    have e : plainT (x :: l) = x.1 ++ plainT l := by unfold plainT; rw [List.flatMap_cons]
    rw [e, List.any_cons, ← hasX_flat l]
    unfold hasX
    rw [List.any_append]
theorem carr_len (r : Row) : (carr r).length ≤ r.length ∧ tot (carr r) = tot r := by
  have h1 := normR_len (r.map wht)
  rw [List.length_map] at h1
  exact ⟨h1, (norm_tot _).trans (wht_tot r)⟩
theorem plain_vld : ∀ l : Row, (∀ x ∈ l, vld x.1 = true) → vld (plainT l) = true
  | [], _ => rfl
  | x :: l, h => by
    have e : plainT (x :: l) = x.1 ++ plainT l := by unfold plainT; rw [List.flatMap_cons]
    rw [e, vld_cat (h x List.mem_cons_self)]
    exact plain_vld l fun y hy => h y (List.mem_cons_of_mem _ hy)
theorem catW {a b : List UInt8} (h : a.length + b.length ≤ 100000000) : catOk (iadd (len a) (len b)) = true := catOk_t (by simp only [iadd, len]; omega)
theorem sub_markup {r : Row} (hs : smallR r) : subrip_Markup fuelH r = some (mkS r) := by
  unfold subrip_Markup mkS
  rw [style_check hs.1, bnd_some']
  by_cases hc : rowChk r ≠ 0
  · rw [cnd_t (ine_t hc), if_pos hc]
  have hc : rowChk r = 0 := by simpa using hc
  have hok := okR_of hs hc
  rw [cnd_f (ine_f hc), if_neg (by rw [hc]; simp), style_plain hok, bnd_some']
  have hpl := plainT_len r
  have ht := hs.2
  rw [contains_any (plain_vld r fun x hx => (hok.2.1 x hx).1) (by omega), bnd_some']
  cases hx : hasX (plainT r) with
  | true => rfl
  | false =>
    rw [cnd_f rfl, if_neg (by simp), jn_e, sub_carried (by have := hok.1; omega) (by omega), bnd_some']
    obtain ⟨c1, c2⟩ := carr_len r
    have h16 := hok.1
    generalize carr r = c at c1 c2 ⊢
    have hb : ∀ i, ((c.take i).flatMap wrX).length ≤ 4000000 + 14 * 16 := fun i => by
      have h1 := wr_len (c.take i)
      have h2 : tot (c.take i) ≤ tot c := by
        have e := List.take_append_drop i c
        have := tot_app (c.take i) (c.drop i)
        rw [e] at this
        omega
      rw [List.length_take] at h1
      omega
    refine loop_inv (n := c.length) (fun (a : List UInt8) (j : Nat) => ((j : Int), ((), a))) (fun j a => a = (c.take j).flatMap wrX) _ (fun self a j hj hJ => ?_) (fun self a hJ => ?_) fuelH 0 [] (Nat.zero_le _) (by have := fuelH_eq; omega) rfl
    · refine ⟨a ++ wrX c[j], ?_, by rw [hJ, List.take_succ_eq_append_getElem hj, List.flatMap_append]; simp⟩
      have ha : a.length ≤ 4000000 + 14 * 16 := by rw [hJ]; exact hb j
      have hxl : c[j].1.length ≤ 4000000 := by
        have := tot_mem (List.getElem_mem hj)
        omega
      have hw := wrX_len c[j]
      simp only
      rw [cnd_t (ilt_t (by simp only [len]; omega)), grd_t (inb_t (by simp only [len]; omega)), lget_i hj, w64_succ hj (by omega)]
      unfold wrX wrU at hw ⊢
      cases hu : c[j].2.1.2.2 with
      | true =>
        cases hi : c[j].2.1.2.1 with
        | true =>
          rw [hu, hi] at hw
          rw [cnd_t rfl, cnd_t rfl, if_pos rfl, if_pos rfl, grd_t (catW (by simp only [List.length_cons, List.length_nil]; omega)), grd_t (catW (by simp only [lapp, List.length_append, List.length_cons, List.length_nil]; omega)), grd_t (catW (by simp only [lapp, List.length_append, List.length_cons, List.length_nil]; omega)), grd_t (catW (by simp only [lapp, List.length_append, List.length_cons, List.length_nil]; omega)), write_str (by simp only [lapp, List.length_append, List.length_cons, List.length_nil]; omega), bnd_some']
          rfl
        | false =>
          rw [cnd_t rfl, cnd_f rfl, if_neg (by simp), if_pos rfl, grd_t (catW (by simp only [List.length_cons, List.length_nil]; omega)), grd_t (catW (by simp only [lapp, List.length_append, List.length_cons, List.length_nil]; omega)), write_str (by simp only [lapp, List.length_append, List.length_cons, List.length_nil]; omega), bnd_some']
          rfl
      | false =>
        cases hi : c[j].2.1.2.1 with
        | true =>
          rw [cnd_f rfl, cnd_t rfl, if_pos rfl, if_neg (by simp), grd_t (catW (by simp only [List.length_cons, List.length_nil]; omega)), grd_t (catW (by simp only [lapp, List.length_append, List.length_cons, List.length_nil]; omega)), write_str (by simp only [lapp, List.length_append, List.length_cons, List.length_nil]; omega), bnd_some']
          rfl
        | false =>
          rw [cnd_f rfl, cnd_f rfl, if_neg (by simp), if_neg (by simp), write_str (by omega), bnd_some']
    · simp only
      rw [cnd_f (ilt_f (by simp only [len]; omega)), hJ, List.take_length]
end
end Go.Mo
end

section
/-
  Plain facts: the markup of rows by the specification; what a text with tags means, both sides; SubripMarkups returns true.
-/
namespace Go.Mo
open Go Go.W Go.Lib
set_option maxRecDepth 100000
noncomputable section

def mkR (_ : Nat) (x : Run) (a : List UInt8) : Option (List UInt8 × Int) ⊕ List UInt8 := if hasX x.1 = true then .inl (some ([], 10)) else .inr (a ++ wrX x)
theorem mk_it : ∀ (l : Row) (i : Nat) (a : List UInt8), itI mkR (fun a => some (a, (0 : Int))) i l a = some (if (l.any fun x => hasX x.1) = true then ([], 10) else (a ++ l.flatMap wrX, 0))
  | [], _, a => by simp [itI]
  | x :: l, i, a => by
    simp only [itI, mkR]
    rw [List.any_cons]
    cases hx : hasX x.1 with
    | true => rfl
    | false =>
      rw [Bool.false_or]
      have := mk_it l (i + 1) (a ++ wrX x)
      rw [List.flatMap_cons, ← List.append_assoc]
      exact this
theorem scan_eq {l : List UInt8} (hl : l.length ≤ 4000000) (K : Option (List UInt8 × Int)) : fixN (fun (v12 : Int → Option (List UInt8 × Int)) (v13 : Int) =>
          cnd (ilt v13 (len l))
            (grd (inb v13 (len l))
              (cnd (ieq (n8 (lget l (toN v13) (0 : UInt8))) (n8 (60 : UInt8)))
                (some (([] : List UInt8), (10 : Int)))
                (grd (inb v13 (len l))
                  (cnd (ieq (n8 (lget l (toN v13) (0 : UInt8))) (n8 (62 : UInt8)))
                    (some (([] : List UInt8), (10 : Int)))
                    (grd (inb v13 (len l))
                      (cnd (ieq (n8 (lget l (toN v13) (0 : UInt8))) (n8 (38 : UInt8)))
                        (some (([] : List UInt8), (10 : Int)))
                        (v12 (w64 (iadd v13 (1 : Int))))))))))
            K) fuelH (0 : Int) = if hasX l = true then some ([], 10) else K := by
  have ie : ∀ a b : UInt8, ieq (n8 a) (n8 b) = decide (a = b) := fun a b => by
    by_cases h : a = b
    · subst h; rw [decide_eq_true rfl]; exact ieq_t rfl
    · rw [decide_eq_false h]; exact ieq_f fun k => h (n8_inj k)
  refine Eq.trans (lst_it (l := l) (fun (_ : Unit) (p : Nat) => (p : Int)) (fun _ c (_ : Unit) => if badB c = true then .inl (some (([] : List UInt8), (10 : Int))) else .inr ()) (fun _ => K) (fun _ _ => True) (fun self a i hi _ => ?_) (fun self a _ => ?_) fuelH 0 () (Nat.zero_le _) (by have := fuelH_eq; omega) trivial) ?_
  · have hin : inb (i : Int) (len l) = true := inb_t (by simp only [len]; omega)
    rw [cnd_t (ilt_t (by simp only [len]; omega)), grd_t hin, lget_i hi, ie, ie, ie, grd_t hin, grd_t hin, w64_succ hi (by omega)]
    unfold badB
    by_cases h1 : l[i] = 60
    · rw [decide_eq_true h1]; rfl
    by_cases h2 : l[i] = 62
    · rw [decide_eq_true h2, decide_eq_false h1]; rfl
    by_cases h3 : l[i] = 38
    · rw [decide_eq_true h3, decide_eq_false h1, decide_eq_false h2]; rfl
    rw [decide_eq_false h1, decide_eq_false h2, decide_eq_false h3]
    exact ⟨rfl, trivial⟩
  · rw [cnd_f (ilt_f (by simp only [len]; omega))]
  · rw [List.drop_zero]
    have : ∀ (l : List UInt8) (i : Nat), itI (fun _ c (_ : Unit) => if badB c = true then .inl (some (([] : List UInt8), (10 : Int))) else .inr ()) (fun _ => K) i l () = if hasX l = true then some ([], 10) else K := by
      intro l
      induction l with
      | nil => intro i; rfl
      | cons c l ih =>
        intro i
        simp only [itI]
        have e : hasX (c :: l) = (badB c || hasX l) := List.any_cons
        rw [e]
        cases hb : badB c with
        | true => rfl
        | false => exact ih (i + 1)
    exact this l 0
theorem ref_markup {r : Row} (hs : smallR r) : r19_Markup fuelH r = some (mkS r) := by
  unfold r19_Markup mkS
  rw [r09_check hs.1, bnd_some']
  by_cases hc : rowChk r ≠ 0
  · rw [cnd_t (ine_t hc), if_pos hc]
  have hc : rowChk r = 0 := by simpa using hc
  have hok := okR_of hs hc
  have ht := hs.2
  rw [cnd_f (ine_f hc), if_neg (by rw [hc]; simp), jn_e, ref_carried (by have := hok.1; omega) (by omega), bnd_some']
  obtain ⟨c1, c2⟩ := carr_len r
  have h16 := hok.1
  rw [← carr_plain, hasX_flat]
  generalize carr r = c at c1 c2 ⊢
  refine Eq.trans (lst_it (l := c) (fun (a : List UInt8) (p : Nat) => (a, (p : Int))) mkR (fun a => some (a, (0 : Int))) (fun i a => a.length ≤ tot (c.take i) + 14 * i) (fun self a i hi hI => ?_) (fun self a _ => ?_) fuelH 0 [] (Nat.zero_le _) (by have := fuelH_eq; omega) (Nat.zero_le _)) ?_
  · have htk : tot (c.take (i + 1)) = tot (c.take i) + c[i].1.length := by
      rw [List.take_succ_eq_append_getElem hi, tot_app]
      rfl
    have htl : tot (c.take (i + 1)) ≤ tot c := by
      have e := List.take_append_drop (i + 1) c
      have := tot_app (c.take (i + 1)) (c.drop (i + 1))
      rw [e] at this
      omega
    have hw := wrX_len c[i]
    have hin : inb (i : Int) (len c) = true := inb_t (by simp only [len]; omega)
    simp only
    rw [cnd_t (ilt_t (by simp only [len]; omega)), jn_e, grd_t hin, lget_i hi, jn_e, scan_eq (by omega), w64_succ hi (by omega)]
    unfold mkR
    cases hx : hasX c[i].1 with
    | true => rfl
    | false =>
      rw [if_neg (by simp), if_neg (by simp)]
      refine ⟨?_, by simp only [List.length_append]; omega⟩
      rw [jn_e]
      dsimp only
      unfold wrX wrU at hw ⊢
      cases hu : c[i].2.1.2.2 with
      | true =>
        cases hit : c[i].2.1.2.1 with
        | true =>
          rw [hu, hit] at hw
          rw [cnd_t rfl, cnd_t rfl, if_pos rfl, if_pos rfl, grd_t (catW (by simp only [List.length_cons, List.length_nil]; omega)), grd_t (catW (by simp only [lapp, List.length_append, List.length_cons, List.length_nil]; omega)), grd_t (catW (by simp only [lapp, List.length_append, List.length_cons, List.length_nil]; omega)), grd_t (catW (by simp only [lapp, List.length_append, List.length_cons, List.length_nil]; omega)), grd_t (catW (by simp only [lapp, List.length_append, List.length_cons, List.length_nil]; omega))]
          rfl
        | false =>
          rw [cnd_t rfl, cnd_f rfl, if_neg (by simp), if_pos rfl, grd_t (catW (by simp only [List.length_cons, List.length_nil]; omega)), grd_t (catW (by simp only [lapp, List.length_append, List.length_cons, List.length_nil]; omega)), grd_t (catW (by simp only [lapp, List.length_append, List.length_cons, List.length_nil]; omega))]
          rfl
      | false =>
        cases hit : c[i].2.1.2.1 with
        | true =>
          rw [cnd_f rfl, cnd_t rfl, if_pos rfl, if_neg (by simp), grd_t (catW (by simp only [List.length_cons, List.length_nil]; omega)), grd_t (catW (by simp only [lapp, List.length_append, List.length_cons, List.length_nil]; omega)), grd_t (catW (by simp only [lapp, List.length_append, List.length_cons, List.length_nil]; omega))]
          rfl
        | false =>
          rw [cnd_f rfl, cnd_f rfl, if_neg (by simp), if_neg (by simp), grd_t (catW (by omega))]
          rfl
  · simp only
    rw [cnd_f (ilt_f (by simp only [len]; omega))]
  · rw [List.drop_zero, mk_it, List.nil_append]
    all_goals (split <;> rfl)

end
end Go.Mo
end

section
/-
  Plain facts: what a text with tags means, both sides; SubripMarkups returns true.
-/
namespace Go.Mo
open Go Go.W Go.Lib
set_option maxRecDepth 100000
noncomputable section

end
end Go.Mo
end

section
/-
  Plain facts: the markup of a row means the row without colours and ruby; SubripReturns returns true.
-/
namespace Go.Mo
open Go Go.W Go.Lib
set_option maxRecDepth 100000
noncomputable section

end
end Go.Mo
end

section
/-
  Plain facts: the document as the form carries it, both sides; SubripReduced returns true.
-/
namespace Go.Mo
open Go Go.W Go.Lib
set_option maxRecDepth 100000
noncomputable section

def fewQ (d : Doc) : Doc := (d.1, d.2.1, d.2.2.1, d.2.2.2.1, d.2.2.2.2.1, d.2.2.2.2.2.1, d.2.2.2.2.2.2.1.take 6, d.2.2.2.2.2.2.2.take 4)
theorem few_eqQ (d : Doc) : l19_few fuelH d = some (fewQ d) := by
  unfold l19_few fewQ
  obtain ⟨e1, e2⟩ := min_take d.2.2.2.2.2.2.1 6
  obtain ⟨e3, e4⟩ := min_take d.2.2.2.2.2.2.2 4
  have e1 : ltake (toN (imin (len d.2.2.2.2.2.2.1) (6 : Int))) d.2.2.2.2.2.2.1 = _ := e1
  have e3 : ltake (toN (imin (len d.2.2.2.2.2.2.2) (4 : Int))) d.2.2.2.2.2.2.2 = _ := e3
  rw [grd_t (show in2 (imin (len d.2.2.2.2.2.2.1) (6 : Int)) (len d.2.2.2.2.2.2.1) = true from e2), grd_t (show in2 (imin (len d.2.2.2.2.2.2.2) (4 : Int)) (len d.2.2.2.2.2.2.2) = true from e4), e1, e3]
theorem few_smallQ {d : Doc} (hb : wtD d ≤ 1048576) : smallD (fewQ d) ∧ ∀ x ∈ (fewQ d).2.2.2.2.2.2.1, ∀ r ∈ x.2.2.2.2.2, tot r ≤ 1048576 := by
  unfold wtD at hb
  have hg := bk_len (f := wtG) (fun r => by unfold wtG; omega) d.2.2.2.2.2.1
  have hrow : ∀ x ∈ (fewQ d).2.2.2.2.2.2.1, ∀ r ∈ x.2.2.2.2.2, shortR r ∧ tot r ≤ 1048576 := fun x hx r hr => by
    have hx : x ∈ d.2.2.2.2.2.2.1 := List.mem_of_mem_take (show x ∈ d.2.2.2.2.2.2.1.take 6 from hx)
    have h1 : 1 + (1 + 1 + (x.2.2.1.length + 1 + (1 + (x.2.2.2.2.1.length + 1 + (bkL wtR x.2.2.2.2.2 + 1))))) ≤ bkL wtX d.2.2.2.2.2.2.1 := bk_mem (f := wtX) hx
    have h2 : bkL wtU r + 1 ≤ bkL wtR x.2.2.2.2.2 := bk_mem (f := wtR) hr
    have h3 := cost_wt r
    have h4 := tot_cost r
    exact ⟨short_wt (l := x.2.2.2.2.2) (B := 1048576) (by omega) (by omega) r hr, by omega⟩
  refine ⟨⟨by show d.1.length ≤ _; omega, by show d.2.2.2.2.2.1.length ≤ _; omega, fun x hx r hr => ⟨(hrow x hx r hr).1, by have := (hrow x hx r hr).2; omega⟩, fun c hc => ?_⟩, fun x hx r hr => (hrow x hx r hr).2⟩
  have hc : c ∈ d.2.2.2.2.2.2.2 := List.mem_of_mem_take (show c ∈ d.2.2.2.2.2.2.2.take 4 from hc)
  have h1 : 1 + (1 + (1 + (1 + (c.2.2.2.2.1.length + 1 + (c.2.2.2.2.2.1.length + 1 + (1 + 1)))))) ≤ bkL wtC d.2.2.2.2.2.2.2 := bk_mem (f := wtC) hc
  omega

/-- the events of a document that is good are few and good -/
theorem doc_evs {d : Doc} (h : docChk d = 0) : headChk d = 0 ∧ d.2.2.2.2.2.2.1.length ≤ 400 ∧ ∀ j (hj : j < d.2.2.2.2.2.2.1.length), evRnd d.2.2.2.2.2.1 d.2.2.2.2.1 (d.2.2.2.2.2.2.1.take j) d.2.2.2.2.2.2.1[j] = 0 := by
  obtain ⟨h1, h2, h3⟩ := doc_parts h
  refine ⟨h1, h2, fun j hj => ?_⟩
  have := errL_zero _ _ h3 j hj
  rwa [List.nil_append] at this
theorem ev_rows {d : Doc} (h : docChk d = 0) {x : Ev} (hx : x ∈ d.2.2.2.2.2.2.1) : evChk x d.2.2.2.2.2.1 = 0 := by
  obtain ⟨_, _, h3⟩ := doc_evs h
  obtain ⟨j, hj, rfl⟩ := List.mem_iff_getElem.1 hx
  exact (evRnd_ok (h3 j hj)).1
end
end Go.Mo
end

section
/-
  Plain facts: the document as the form carries it is good; SubripReduced returns true.
-/
namespace Go.Mo
open Go Go.W Go.Lib
set_option maxRecDepth 100000
noncomputable section

end
end Go.Mo
end
