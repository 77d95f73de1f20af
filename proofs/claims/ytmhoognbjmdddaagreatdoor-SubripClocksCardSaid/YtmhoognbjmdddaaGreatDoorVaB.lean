/-
  Texts put together, in build order: WK UB UC.
-/
import Derived.Test.YtmhoognbjmdddaaGreatDoorVaA
import Derived.Test.YtmhoognbjmdddaaGreatDoorZC
import Derived.KernelRfl
import Derived.Lib.ValidLaws
import Derived.Lib.TrimUEq
import Derived.Lib.MapLaws
import Derived.Lib.IndexMore
set_option linter.all false

section
/-
  The functions do what their models say. Printed by a program.
-/
namespace Go.Mo
open Go Go.W Go.Proofs
noncomputable section
set_option maxRecDepth 100000
theorem k_utf8_word_string (N : Nat) : ConOk E ⟨182, ps_utf8_word_string, rs_utf8_word_string, utf8_word_string N⟩ := conOf envOk (x_utf8_word_string N) trivial (show E.P.funcs[182]? = some Tryz.f182 from by kernel_rfl) (by kernel_rfl)
theorem k_utf8_ValidString (N : Nat) : ConOk E ⟨143, ps_utf8_ValidString, rs_utf8_ValidString, utf8_ValidString N⟩ := kh_utf8_ValidString N
theorem k_charset_place (N : Nat) : ConOk E ⟨183, ps_charset_place, rs_charset_place, charset_place N⟩ := conOf envOk (x_charset_place N) trivial (show E.P.funcs[183]? = some Tryz.f183 from by kernel_rfl) (by kernel_rfl)
theorem k_charset_Index (N : Nat) : ConOk E ⟨144, ps_charset_Index, rs_charset_Index, charset_Index N⟩ := conOf envOk (x_charset_Index N) ⟨k_charset_place N, trivial⟩ (show E.P.funcs[144]? = some Tryz.f144 from by kernel_rfl) (by kernel_rfl)
theorem k_charset_Valid (N : Nat) : ConOk E ⟨89, ps_charset_Valid, rs_charset_Valid, charset_Valid N⟩ := conOf envOk (x_charset_Valid N) ⟨k_utf8_ValidString N, k_charset_Index N, trivial⟩ (show E.P.funcs[89]? = some Tryz.f89 from by kernel_rfl) (by kernel_rfl)
theorem k_lines_Name (N : Nat) : ConOk E ⟨119, ps_lines_Name, rs_lines_Name, lines_Name N⟩ := conOf envOk (x_lines_Name N) trivial (show E.P.funcs[119]? = some Tryz.f119 from by kernel_rfl) (by kernel_rfl)
theorem k_timebase_of (N : Nat) : ConOk E ⟨102, ps_timebase_of, rs_timebase_of, timebase_of N⟩ := conOf envOk (x_timebase_of N) trivial (show E.P.funcs[102]? = some Tryz.f102 from by kernel_rfl) (by kernel_rfl)
theorem k_timebase_Valid (N : Nat) : ConOk E ⟨61, ps_timebase_Valid, rs_timebase_Valid, timebase_Valid N⟩ := conOf envOk (x_timebase_Valid N) ⟨k_timebase_of N, trivial⟩ (show E.P.funcs[61]? = some Tryz.f61 from by kernel_rfl) (by kernel_rfl)
theorem k_timebase_CanDrop (N : Nat) : ConOk E ⟨62, ps_timebase_CanDrop, rs_timebase_CanDrop, timebase_CanDrop N⟩ := conOf envOk (x_timebase_CanDrop N) ⟨k_timebase_of N, trivial⟩ (show E.P.funcs[62]? = some Tryz.f62 from by kernel_rfl) (by kernel_rfl)
theorem k_document_rate (N : Nat) : ConOk E ⟨120, ps_document_rate, rs_document_rate, document_rate N⟩ := conOf envOk (x_document_rate N) ⟨k_timebase_Valid N, k_timebase_CanDrop N, trivial⟩ (show E.P.funcs[120]? = some Tryz.f120 from by kernel_rfl) (by kernel_rfl)
theorem k_document_header (N : Nat) : ConOk E ⟨76, ps_document_header, rs_document_header, document_header N⟩ := conOf envOk (x_document_header N) ⟨k_charset_Valid N, k_lines_Name N, k_document_rate N, trivial⟩ (show E.P.funcs[76]? = some Tryz.f76 from by kernel_rfl) (by kernel_rfl)
theorem k_region_from (N : Nat) : ConOk E ⟨169, ps_region_from, rs_region_from, region_from N⟩ := conOf envOk (x_region_from N) trivial (show E.P.funcs[169]? = some Tryz.f169 from by kernel_rfl) (by kernel_rfl)
theorem k_region_Check (N : Nat) : ConOk E ⟨121, ps_region_Check, rs_region_Check, region_Check N⟩ := conOf envOk (x_region_Check N) ⟨k_lines_Name N, k_region_from N, trivial⟩ (show E.P.funcs[121]? = some Tryz.f121 from by kernel_rfl) (by kernel_rfl)
theorem k_region_CheckList (N : Nat) : ConOk E ⟨77, ps_region_CheckList, rs_region_CheckList, region_CheckList N⟩ := conOf envOk (x_region_CheckList N) ⟨k_region_Check N, trivial⟩ (show E.P.funcs[77]? = some Tryz.f77 from by kernel_rfl) (by kernel_rfl)
theorem k_region_Default (N : Nat) : ConOk E ⟨170, ps_region_Default, rs_region_Default, region_Default N⟩ := conOf envOk (x_region_Default N) trivial (show E.P.funcs[170]? = some Tryz.f170 from by kernel_rfl) (by kernel_rfl)
theorem k_region_Find (N : Nat) : ConOk E ⟨122, ps_region_Find, rs_region_Find, region_Find N⟩ := conOf envOk (x_region_Find N) ⟨k_region_Default N, trivial⟩ (show E.P.funcs[122]? = some Tryz.f122 from by kernel_rfl) (by kernel_rfl)
theorem k_event_spans (N : Nat) : ConOk E ⟨123, ps_event_spans, rs_event_spans, event_spans N⟩ := conOf envOk (x_event_spans N) trivial (show E.P.funcs[123]? = some Tryz.f123 from by kernel_rfl) (by kernel_rfl)
theorem k_event_kinds (N : Nat) : ConOk E ⟨171, ps_event_kinds, rs_event_kinds, event_kinds N⟩ := conOf envOk (x_event_kinds N) trivial (show E.P.funcs[171]? = some Tryz.f171 from by kernel_rfl) (by kernel_rfl)
theorem k_event_KindName (N : Nat) : ConOk E ⟨124, ps_event_KindName, rs_event_KindName, event_KindName N⟩ := conOf envOk (x_event_KindName N) ⟨k_event_kinds N, trivial⟩ (show E.P.funcs[124]? = some Tryz.f124 from by kernel_rfl) (by kernel_rfl)
theorem k_style_Valid (N : Nat) : ConOk E ⟨90, ps_style_Valid, rs_style_Valid, style_Valid N⟩ := conOf envOk (x_style_Valid N) trivial (show E.P.funcs[90]? = some Tryz.f90 from by kernel_rfl) (by kernel_rfl)
theorem k_style_alike (N : Nat) : ConOk E ⟨91, ps_style_alike, rs_style_alike, style_alike N⟩ := conOf envOk (x_style_alike N) trivial (show E.P.funcs[91]? = some Tryz.f91 from by kernel_rfl) (by kernel_rfl)
theorem k_style_Check (N : Nat) : ConOk E ⟨46, ps_style_Check, rs_style_Check, style_Check N⟩ := conOf envOk (x_style_Check N) ⟨k_charset_Valid N, k_style_Valid N, k_style_alike N, trivial⟩ (show E.P.funcs[46]? = some Tryz.f46 from by kernel_rfl) (by kernel_rfl)
theorem k_strings_Builder_copyCheck (N : Nat) : ConOk E ⟨93, ps_strings_Builder_copyCheck, rs_strings_Builder_copyCheck, strings_Builder_copyCheck N⟩ := kh_strings_Builder_copyCheck N
theorem k_strings_Builder_WriteString (N : Nat) : ConOk E ⟨49, ps_strings_Builder_WriteString, rs_strings_Builder_WriteString, strings_Builder_WriteString N⟩ := conOf envOk (x_strings_Builder_WriteString N) ⟨k_strings_Builder_copyCheck N, trivial⟩ (show E.P.funcs[49]? = some Tryz.f49 from by kernel_rfl) (by kernel_rfl)
theorem k_style_Plain (N : Nat) : ConOk E ⟨40, ps_style_Plain, rs_style_Plain, style_Plain N⟩ := conOf envOk (x_style_Plain N) ⟨k_strings_Builder_WriteString N, trivial⟩ (show E.P.funcs[40]? = some Tryz.f40 from by kernel_rfl) (by kernel_rfl)
theorem k_bytealg_IndexByteString (N : Nat) : ConOk E ⟨178, ps_bytealg_IndexByteString, rs_bytealg_IndexByteString, bytealg_IndexByteString N⟩ := kh_bytealg_IndexByteString N
theorem k_stringslite_IndexByte (N : Nat) : ConOk E ⟨134, ps_stringslite_IndexByte, rs_stringslite_IndexByte, stringslite_IndexByte N⟩ := conOf envOk (x_stringslite_IndexByte N) ⟨k_bytealg_IndexByteString N, trivial⟩ (show E.P.funcs[134]? = some Tryz.f134 from by kernel_rfl) (by kernel_rfl)
theorem k_bytealg_Cutover (N : Nat) : ConOk E ⟨136, ps_bytealg_Cutover, rs_bytealg_Cutover, bytealg_Cutover N⟩ := conOf envOk (x_bytealg_Cutover N) trivial (show E.P.funcs[136]? = some Tryz.f136 from by kernel_rfl) (by kernel_rfl)
theorem k_bytealg_hashStr_string (N : Nat) : ConOk E ⟨179, ps_bytealg_hashStr_string, rs_bytealg_hashStr_string, bytealg_hashStr_string N⟩ := conOf envOk (x_bytealg_hashStr_string N) trivial (show E.P.funcs[179]? = some Tryz.f179 from by kernel_rfl) (by kernel_rfl)
theorem k_bytealg_IndexRabinKarp_string (N : Nat) : ConOk E ⟨137, ps_bytealg_IndexRabinKarp_string, rs_bytealg_IndexRabinKarp_string, bytealg_IndexRabinKarp_string N⟩ := conOf envOk (x_bytealg_IndexRabinKarp_string N) ⟨k_bytealg_hashStr_string N, trivial⟩ (show E.P.funcs[137]? = some Tryz.f137 from by kernel_rfl) (by kernel_rfl)
theorem k_stringslite_Index (N : Nat) : ConOk E ⟨84, ps_stringslite_Index, rs_stringslite_Index, stringslite_Index N⟩ := conOf envOk (x_stringslite_Index N) ⟨k_stringslite_IndexByte N, k_bytealg_Cutover N, k_bytealg_IndexRabinKarp_string N, trivial⟩ (show E.P.funcs[84]? = some Tryz.f84 from by kernel_rfl) (by kernel_rfl)
theorem k_strings_Index (N : Nat) : ConOk E ⟨38, ps_strings_Index, rs_strings_Index, strings_Index N⟩ := conOf envOk (x_strings_Index N) ⟨k_stringslite_Index N, trivial⟩ (show E.P.funcs[38]? = some Tryz.f38 from by kernel_rfl) (by kernel_rfl)
theorem k_strings_Contains (N : Nat) : ConOk E ⟨172, ps_strings_Contains, rs_strings_Contains, strings_Contains N⟩ := kh_strings_Contains N
theorem k_utf8_RuneCountInString (N : Nat) : ConOk E ⟨138, ps_utf8_RuneCountInString, rs_utf8_RuneCountInString, utf8_RuneCountInString N⟩ := conOf envOk (x_utf8_RuneCountInString N) trivial (show E.P.funcs[138]? = some Tryz.f138 from by kernel_rfl) (by kernel_rfl)
theorem k_charset_Len (N : Nat) : ConOk E ⟨201, ps_charset_Len, rs_charset_Len, charset_Len N⟩ := conOf envOk (x_charset_Len N) ⟨k_charset_Valid N, k_utf8_RuneCountInString N, trivial⟩ (show E.P.funcs[201]? = some Tryz.f201 from by kernel_rfl) (by kernel_rfl)
theorem k_style_Len (N : Nat) : ConOk E ⟨173, ps_style_Len, rs_style_Len, style_Len N⟩ := conOf envOk (x_style_Len N) ⟨k_charset_Len N, trivial⟩ (show E.P.funcs[173]? = some Tryz.f173 from by kernel_rfl) (by kernel_rfl)
theorem k_event_row (N : Nat) : ConOk E ⟨125, ps_event_row, rs_event_row, event_row N⟩ := conOf envOk (x_event_row N) ⟨k_style_Check N, k_style_Plain N, k_strings_Contains N, k_style_Len N, trivial⟩ (show E.P.funcs[125]? = some Tryz.f125 from by kernel_rfl) (by kernel_rfl)
theorem k_event_lens (N : Nat) : ConOk E ⟨127, ps_event_lens, rs_event_lens, event_lens N⟩ := conOf envOk (x_event_lens N) ⟨k_style_Len N, trivial⟩ (show E.P.funcs[127]? = some Tryz.f127 from by kernel_rfl) (by kernel_rfl)
theorem k_region_usable (N : Nat) : ConOk E ⟨174, ps_region_usable, rs_region_usable, region_usable N⟩ := conOf envOk (x_region_usable N) ⟨k_region_Default N, k_region_Check N, trivial⟩ (show E.P.funcs[174]? = some Tryz.f174 from by kernel_rfl) (by kernel_rfl)
theorem k_region_Place (N : Nat) : ConOk E ⟨126, ps_region_Place, rs_region_Place, region_Place N⟩ := conOf envOk (x_region_Place N) ⟨k_region_usable N, trivial⟩ (show E.P.funcs[126]? = some Tryz.f126 from by kernel_rfl) (by kernel_rfl)
theorem k_event_Check (N : Nat) : ConOk E ⟨78, ps_event_Check, rs_event_Check, event_Check N⟩ := conOf envOk (x_event_Check N) ⟨k_region_Find N, k_event_spans N, k_event_KindName N, k_lines_Name N, k_event_row N, k_event_lens N, k_region_Place N, trivial⟩ (show E.P.funcs[78]? = some Tryz.f78 from by kernel_rfl) (by kernel_rfl)
theorem k_cmp_isNaN_int64 (N : Nat) : ConOk E ⟨158, ps_cmp_isNaN_int64, rs_cmp_isNaN_int64, cmp_isNaN_int64 N⟩ := conOf envOk (x_cmp_isNaN_int64 N) trivial (show E.P.funcs[158]? = some Tryz.f158 from by kernel_rfl) (by kernel_rfl)
theorem k_cmp_Compare_int64 (N : Nat) : ConOk E ⟨112, ps_cmp_Compare_int64, rs_cmp_Compare_int64, cmp_Compare_int64 N⟩ := conOf envOk (x_cmp_Compare_int64 N) ⟨k_cmp_isNaN_int64 N, trivial⟩ (show E.P.funcs[112]? = some Tryz.f112 from by kernel_rfl) (by kernel_rfl)
theorem k_cmp_Or_int (N : Nat) : ConOk E ⟨111, ps_cmp_Or_int, rs_cmp_Or_int, cmp_Or_int N⟩ := conOf envOk (x_cmp_Or_int N) trivial (show E.P.funcs[111]? = some Tryz.f111 from by kernel_rfl) (by kernel_rfl)
theorem k_event_Less (N : Nat) : ConOk E ⟨79, ps_event_Less, rs_event_Less, event_Less N⟩ := conOf envOk (x_event_Less N) ⟨k_cmp_Compare_int64 N, k_cmp_Or_int N, trivial⟩ (show E.P.funcs[79]? = some Tryz.f79 from by kernel_rfl) (by kernel_rfl)
theorem k_event_Len (N : Nat) : ConOk E ⟨175, ps_event_Len, rs_event_Len, event_Len N⟩ := conOf envOk (x_event_Len N) ⟨k_event_lens N, trivial⟩ (show E.P.funcs[175]? = some Tryz.f175 from by kernel_rfl) (by kernel_rfl)
theorem k_document_anchored (N : Nat) : ConOk E ⟨128, ps_document_anchored, rs_document_anchored, document_anchored N⟩ := conOf envOk (x_document_anchored N) ⟨k_event_Len N, trivial⟩ (show E.P.funcs[128]? = some Tryz.f128 from by kernel_rfl) (by kernel_rfl)
theorem k_document_comments (N : Nat) : ConOk E ⟨80, ps_document_comments, rs_document_comments, document_comments N⟩ := conOf envOk (x_document_comments N) ⟨k_document_anchored N, k_lines_Name N, k_charset_Valid N, trivial⟩ (show E.P.funcs[80]? = some Tryz.f80 from by kernel_rfl) (by kernel_rfl)
theorem k_document_Check (N : Nat) : ConOk E ⟨32, ps_document_Check, rs_document_Check, document_Check N⟩ := conOf envOk (x_document_Check N) ⟨k_document_header N, k_region_CheckList N, k_event_Check N, k_event_Less N, k_document_comments N, trivial⟩ (show E.P.funcs[32]? = some Tryz.f32 from by kernel_rfl) (by kernel_rfl)
theorem k_timebase_Ticks (N : Nat) : ConOk E ⟨192, ps_timebase_Ticks, rs_timebase_Ticks, timebase_Ticks N⟩ := conOf envOk (x_timebase_Ticks N) ⟨k_timebase_of N, trivial⟩ (show E.P.funcs[192]? = some Tryz.f192 from by kernel_rfl) (by kernel_rfl)
theorem k_timebase_Time (N : Nat) : ConOk E ⟨187, ps_timebase_Time, rs_timebase_Time, timebase_Time N⟩ := conOf envOk (x_timebase_Time N) ⟨k_timebase_Valid N, k_timebase_Ticks N, trivial⟩ (show E.P.funcs[187]? = some Tryz.f187 from by kernel_rfl) (by kernel_rfl)
theorem k_ratio_known (N : Nat) : ConOk E ⟨206, ps_ratio_known, rs_ratio_known, ratio_known N⟩ := conOf envOk (x_ratio_known N) trivial (show E.P.funcs[206]? = some Tryz.f206 from by kernel_rfl) (by kernel_rfl)
theorem k_ratio_size (N : Nat) : ConOk E ⟨207, ps_ratio_size, rs_ratio_size, ratio_size N⟩ := conOf envOk (x_ratio_size N) trivial (show E.P.funcs[207]? = some Tryz.f207 from by kernel_rfl) (by kernel_rfl)
theorem k_ratio_away (N : Nat) : ConOk E ⟨208, ps_ratio_away, rs_ratio_away, ratio_away N⟩ := conOf envOk (x_ratio_away N) trivial (show E.P.funcs[208]? = some Tryz.f208 from by kernel_rfl) (by kernel_rfl)
theorem k_ratio_Quotient (N : Nat) : ConOk E ⟨188, ps_ratio_Quotient, rs_ratio_Quotient, ratio_Quotient N⟩ := conOf envOk (x_ratio_Quotient N) ⟨k_ratio_known N, k_ratio_size N, k_ratio_away N, trivial⟩ (show E.P.funcs[188]? = some Tryz.f188 from by kernel_rfl) (by kernel_rfl)
theorem k_timebase_Millis (N : Nat) : ConOk E ⟨151, ps_timebase_Millis, rs_timebase_Millis, timebase_Millis N⟩ := conOf envOk (x_timebase_Millis N) ⟨k_timebase_Time N, k_ratio_Quotient N, trivial⟩ (show E.P.funcs[151]? = some Tryz.f151 from by kernel_rfl) (by kernel_rfl)
theorem k_istrconv_small (N : Nat) : ConOk E ⟨202, ps_istrconv_small, rs_istrconv_small, istrconv_small N⟩ := conOf envOk (x_istrconv_small N) trivial (show E.P.funcs[202]? = some Tryz.f202 from by kernel_rfl) (by kernel_rfl)
theorem k_bits_Len64 (N : Nat) : ConOk E ⟨212, ps_bits_Len64, rs_bits_Len64, bits_Len64 N⟩ := conOf envOk (x_bits_Len64 N) trivial (show E.P.funcs[212]? = some Tryz.f212 from by kernel_rfl) (by kernel_rfl)
theorem k_istrconv_log10Pow2 (N : Nat) : ConOk E ⟨211, ps_istrconv_log10Pow2, rs_istrconv_log10Pow2, istrconv_log10Pow2 N⟩ := conOf envOk (x_istrconv_log10Pow2 N) trivial (show E.P.funcs[211]? = some Tryz.f211 from by kernel_rfl) (by kernel_rfl)
theorem k_istrconv_bool2_int (N : Nat) : ConOk E ⟨213, ps_istrconv_bool2_int, rs_istrconv_bool2_int, istrconv_bool2_int N⟩ := conOf envOk (x_istrconv_bool2_int N) trivial (show E.P.funcs[213]? = some Tryz.f213 from by kernel_rfl) (by kernel_rfl)
theorem k_istrconv_numDigits (N : Nat) : ConOk E ⟨203, ps_istrconv_numDigits, rs_istrconv_numDigits, istrconv_numDigits N⟩ := conOf envOk (x_istrconv_numDigits N) ⟨k_bits_Len64 N, k_istrconv_log10Pow2 N, k_istrconv_bool2_int N, trivial⟩ (show E.P.funcs[203]? = some Tryz.f203 from by kernel_rfl) (by kernel_rfl)
theorem k_istrconv_isPowerOfTwo (N : Nat) : ConOk E ⟨214, ps_istrconv_isPowerOfTwo, rs_istrconv_isPowerOfTwo, istrconv_isPowerOfTwo N⟩ := conOf envOk (x_istrconv_isPowerOfTwo N) trivial (show E.P.funcs[214]? = some Tryz.f214 from by kernel_rfl) (by kernel_rfl)
theorem k_bits_TrailingZeros32 (N : Nat) : ConOk E ⟨217, ps_bits_TrailingZeros32, rs_bits_TrailingZeros32, bits_TrailingZeros32 N⟩ := conOf envOk (x_bits_TrailingZeros32 N) trivial (show E.P.funcs[217]? = some Tryz.f217 from by kernel_rfl) (by kernel_rfl)
theorem k_bits_TrailingZeros64 (N : Nat) : ConOk E ⟨218, ps_bits_TrailingZeros64, rs_bits_TrailingZeros64, bits_TrailingZeros64 N⟩ := conOf envOk (x_bits_TrailingZeros64 N) trivial (show E.P.funcs[218]? = some Tryz.f218 from by kernel_rfl) (by kernel_rfl)
theorem k_bits_TrailingZeros (N : Nat) : ConOk E ⟨215, ps_bits_TrailingZeros, rs_bits_TrailingZeros, bits_TrailingZeros N⟩ := conOf envOk (x_bits_TrailingZeros N) ⟨k_bits_TrailingZeros32 N, k_bits_TrailingZeros64 N, trivial⟩ (show E.P.funcs[215]? = some Tryz.f215 from by kernel_rfl) (by kernel_rfl)
theorem k_istrconv_FormatInt (N : Nat) : ConOk E ⟨181, ps_istrconv_FormatInt, rs_istrconv_FormatInt, istrconv_FormatInt N⟩ := kh_istrconv_FormatInt N
theorem k_strconv_FormatInt (N : Nat) : ConOk E ⟨142, ps_strconv_FormatInt, rs_strconv_FormatInt, strconv_FormatInt N⟩ := conOf envOk (x_strconv_FormatInt N) ⟨k_istrconv_FormatInt N, trivial⟩ (show E.P.funcs[142]? = some Tryz.f142 from by kernel_rfl) (by kernel_rfl)
theorem k_lines_Decimal (N : Nat) : ConOk E ⟨88, ps_lines_Decimal, rs_lines_Decimal, lines_Decimal N⟩ := conOf envOk (x_lines_Decimal N) ⟨k_strconv_FormatInt N, trivial⟩ (show E.P.funcs[88]? = some Tryz.f88 from by kernel_rfl) (by kernel_rfl)
theorem k_subrip_digits (N : Nat) : ConOk E ⟨41, ps_subrip_digits, rs_subrip_digits, subrip_digits N⟩ := conOf envOk (x_subrip_digits N) ⟨k_lines_Decimal N, trivial⟩ (show E.P.funcs[41]? = some Tryz.f41 from by kernel_rfl) (by kernel_rfl)
theorem k_subrip_Clock (N : Nat) : ConOk E ⟨14, ps_subrip_Clock, rs_subrip_Clock, subrip_Clock N⟩ := conOf envOk (x_subrip_Clock N) ⟨k_subrip_digits N, trivial⟩ (show E.P.funcs[14]? = some Tryz.f14 from by kernel_rfl) (by kernel_rfl)
theorem k_strings_IndexByte (N : Nat) : ConOk E ⟨184, ps_strings_IndexByte, rs_strings_IndexByte, strings_IndexByte N⟩ := conOf envOk (x_strings_IndexByte N) ⟨k_stringslite_IndexByte N, trivial⟩ (show E.P.funcs[184]? = some Tryz.f184 from by kernel_rfl) (by kernel_rfl)
theorem k_utf8_ValidRune (N : Nat) : ConOk E ⟨185, ps_utf8_ValidRune, rs_utf8_ValidRune, utf8_ValidRune N⟩ := conOf envOk (x_utf8_ValidRune N) trivial (show E.P.funcs[185]? = some Tryz.f185 from by kernel_rfl) (by kernel_rfl)
theorem k_strings_IndexRune (N : Nat) : ConOk E ⟨145, ps_strings_IndexRune, rs_strings_IndexRune, strings_IndexRune N⟩ := conOf envOk (x_strings_IndexRune N) ⟨k_strings_IndexByte N, k_utf8_ValidRune N, k_bytealg_Cutover N, trivial⟩ (show E.P.funcs[145]? = some Tryz.f145 from by kernel_rfl) (by kernel_rfl)
theorem k_strings_shouldUseASCIISet (N : Nat) : ConOk E ⟨146, ps_strings_shouldUseASCIISet, rs_strings_shouldUseASCIISet, strings_shouldUseASCIISet N⟩ := conOf envOk (x_strings_shouldUseASCIISet N) trivial (show E.P.funcs[146]? = some Tryz.f146 from by kernel_rfl) (by kernel_rfl)
theorem k_strings_IndexAny_s (N : Nat) : ConOk E ⟨92, ps_strings_IndexAny, rs_strings_IndexAny, strings_IndexAny_s N⟩ := conOf envOk (x_strings_IndexAny N) ⟨k_strings_IndexRune N, k_strings_shouldUseASCIISet N, trivial⟩ (show E.P.funcs[92]? = some Tryz.f92 from by kernel_rfl) (by kernel_rfl)
theorem k_strings_IndexAny (N : Nat) : ConOk E ⟨92, ps_strings_IndexAny, rs_strings_IndexAny, strings_IndexAny N⟩ := con_or (ps := ps_strings_IndexAny) (rs := rs_strings_IndexAny) (b := longAny) (g1 := fun x : List UInt8 × List UInt8 => some (Lib.indexAny x.1 x.2)) (g2 := strings_IndexAny_s N) khl_IndexAny (k_strings_IndexAny_s N)
theorem k_strings_ContainsAny (N : Nat) : ConOk E ⟨47, ps_strings_ContainsAny, rs_strings_ContainsAny, strings_ContainsAny N⟩ := conOf envOk (x_strings_ContainsAny N) ⟨k_strings_IndexAny N, trivial⟩ (show E.P.funcs[47]? = some Tryz.f47 from by kernel_rfl) (by kernel_rfl)
theorem k_style_norm (N : Nat) : ConOk E ⟨58, ps_style_norm, rs_style_norm, style_norm N⟩ := conOf envOk (x_style_norm N) ⟨k_style_alike N, trivial⟩ (show E.P.funcs[58]? = some Tryz.f58 from by kernel_rfl) (by kernel_rfl)
theorem k_style_Norm (N : Nat) : ConOk E ⟨23, ps_style_Norm, rs_style_Norm, style_Norm N⟩ := conOf envOk (x_style_Norm N) ⟨k_style_norm N, trivial⟩ (show E.P.funcs[23]? = some Tryz.f23 from by kernel_rfl) (by kernel_rfl)
theorem k_subrip_carried (N : Nat) : ConOk E ⟨48, ps_subrip_carried, rs_subrip_carried, subrip_carried N⟩ := conOf envOk (x_subrip_carried N) ⟨k_style_Norm N, trivial⟩ (show E.P.funcs[48]? = some Tryz.f48 from by kernel_rfl) (by kernel_rfl)
theorem k_subrip_Markup (N : Nat) : ConOk E ⟨18, ps_subrip_Markup, rs_subrip_Markup, subrip_Markup N⟩ := conOf envOk (x_subrip_Markup N) ⟨k_style_Check N, k_style_Plain N, k_strings_ContainsAny N, k_subrip_carried N, k_strings_Builder_WriteString N, trivial⟩ (show E.P.funcs[18]? = some Tryz.f18 from by kernel_rfl) (by kernel_rfl)
theorem k_subrip_block (N : Nat) : ConOk E ⟨98, ps_subrip_block, rs_subrip_block, subrip_block N⟩ := conOf envOk (x_subrip_block N) ⟨k_timebase_Millis N, k_subrip_Clock N, k_lines_Decimal N, k_subrip_Markup N, trivial⟩ (show E.P.funcs[98]? = some Tryz.f98 from by kernel_rfl) (by kernel_rfl)
theorem k_strings_Builder_Len (N : Nat) : ConOk E ⟨99, ps_strings_Builder_Len, rs_strings_Builder_Len, strings_Builder_Len N⟩ := conOf envOk (x_strings_Builder_Len N) trivial (show E.P.funcs[99]? = some Tryz.f99 from by kernel_rfl) (by kernel_rfl)
theorem k_subrip_encode (N : Nat) : ConOk E ⟨59, ps_subrip_encode, rs_subrip_encode, subrip_encode N⟩ := conOf envOk (x_subrip_encode N) ⟨k_document_Check N, k_subrip_block N, k_strings_Builder_WriteString N, k_strings_Builder_Len N, trivial⟩ (show E.P.funcs[59]? = some Tryz.f59 from by kernel_rfl) (by kernel_rfl)
theorem k_subrip_Encode (N : Nat) : ConOk E ⟨25, ps_subrip_Encode, rs_subrip_Encode, subrip_Encode N⟩ := conOf envOk (x_subrip_Encode N) ⟨k_subrip_encode N, trivial⟩ (show E.P.funcs[25]? = some Tryz.f25 from by kernel_rfl) (by kernel_rfl)
theorem k_utf8_decodeRuneInStringSlow (N : Nat) : ConOk E ⟨141, ps_utf8_decodeRuneInStringSlow, rs_utf8_decodeRuneInStringSlow, utf8_decodeRuneInStringSlow N⟩ := conOf envOk (x_utf8_decodeRuneInStringSlow N) trivial (show E.P.funcs[141]? = some Tryz.f141 from by kernel_rfl) (by kernel_rfl)
theorem k_utf8_DecodeRuneInString (N : Nat) : ConOk E ⟨87, ps_utf8_DecodeRuneInString, rs_utf8_DecodeRuneInString, utf8_DecodeRuneInString N⟩ := conOf envOk (x_utf8_DecodeRuneInString N) ⟨k_utf8_decodeRuneInStringSlow N, trivial⟩ (show E.P.funcs[87]? = some Tryz.f87 from by kernel_rfl) (by kernel_rfl)
theorem k_strings_explode (N : Nat) : ConOk E ⟨133, ps_strings_explode, rs_strings_explode, strings_explode N⟩ := conOf envOk (x_strings_explode N) ⟨k_utf8_RuneCountInString N, k_utf8_DecodeRuneInString N, trivial⟩ (show E.P.funcs[133]? = some Tryz.f133 from by kernel_rfl) (by kernel_rfl)
theorem k_bytealg_CountString (N : Nat) : ConOk E ⟨139, ps_bytealg_CountString, rs_bytealg_CountString, bytealg_CountString N⟩ := kh_bytealg_CountString N
theorem k_strings_Count (N : Nat) : ConOk E ⟨85, ps_strings_Count, rs_strings_Count, strings_Count N⟩ := conOf envOk (x_strings_Count N) ⟨k_utf8_RuneCountInString N, k_bytealg_CountString N, k_strings_Index N, trivial⟩ (show E.P.funcs[85]? = some Tryz.f85 from by kernel_rfl) (by kernel_rfl)
theorem k_strings_genSplit (N : Nat) : ConOk E ⟨83, ps_strings_genSplit, rs_strings_genSplit, strings_genSplit N⟩ := conOf envOk (x_strings_genSplit N) ⟨k_strings_explode N, k_strings_Count N, k_strings_Index N, trivial⟩ (show E.P.funcs[83]? = some Tryz.f83 from by kernel_rfl) (by kernel_rfl)
theorem k_strings_Split (N : Nat) : ConOk E ⟨37, ps_strings_Split, rs_strings_Split, strings_Split N⟩ := conOf envOk (x_strings_Split N) ⟨k_strings_genSplit N, trivial⟩ (show E.P.funcs[37]? = some Tryz.f37 from by kernel_rfl) (by kernel_rfl)
theorem k_stringslite_HasSuffix (N : Nat) : ConOk E ⟨154, ps_stringslite_HasSuffix, rs_stringslite_HasSuffix, stringslite_HasSuffix N⟩ := conOf envOk (x_stringslite_HasSuffix N) trivial (show E.P.funcs[154]? = some Tryz.f154 from by kernel_rfl) (by kernel_rfl)
theorem k_stringslite_TrimSuffix (N : Nat) : ConOk E ⟨103, ps_stringslite_TrimSuffix, rs_stringslite_TrimSuffix, stringslite_TrimSuffix N⟩ := conOf envOk (x_stringslite_TrimSuffix N) ⟨k_stringslite_HasSuffix N, trivial⟩ (show E.P.funcs[103]? = some Tryz.f103 from by kernel_rfl) (by kernel_rfl)
theorem k_strings_TrimSuffix (N : Nat) : ConOk E ⟨63, ps_strings_TrimSuffix, rs_strings_TrimSuffix, strings_TrimSuffix N⟩ := conOf envOk (x_strings_TrimSuffix N) ⟨k_stringslite_TrimSuffix N, trivial⟩ (show E.P.funcs[63]? = some Tryz.f63 from by kernel_rfl) (by kernel_rfl)
theorem k_subrip_field (N : Nat) : ConOk E ⟨43, ps_subrip_field, rs_subrip_field, subrip_field N⟩ := conOf envOk (x_subrip_field N) trivial (show E.P.funcs[43]? = some Tryz.f43 from by kernel_rfl) (by kernel_rfl)
theorem k_subrip_number (N : Nat) : ConOk E ⟨104, ps_subrip_number, rs_subrip_number, subrip_number N⟩ := conOf envOk (x_subrip_number N) ⟨k_subrip_field N, trivial⟩ (show E.P.funcs[104]? = some Tryz.f104 from by kernel_rfl) (by kernel_rfl)
theorem k_subrip_reader_fail (N : Nat) : ConOk E ⟨105, ps_subrip_reader_fail, rs_subrip_reader_fail, subrip_reader_fail N⟩ := conOf envOk (x_subrip_reader_fail N) trivial (show E.P.funcs[105]? = some Tryz.f105 from by kernel_rfl) (by kernel_rfl)
theorem k_subrip_ParseClock (N : Nat) : ConOk E ⟨16, ps_subrip_ParseClock, rs_subrip_ParseClock, subrip_ParseClock N⟩ := conOf envOk (x_subrip_ParseClock N) ⟨k_subrip_field N, trivial⟩ (show E.P.funcs[16]? = some Tryz.f16 from by kernel_rfl) (by kernel_rfl)
theorem k_subrip_times (N : Nat) : ConOk E ⟨106, ps_subrip_times, rs_subrip_times, subrip_times N⟩ := conOf envOk (x_subrip_times N) ⟨k_subrip_ParseClock N, trivial⟩ (show E.P.funcs[106]? = some Tryz.f106 from by kernel_rfl) (by kernel_rfl)
theorem k_timebase_Frame (N : Nat) : ConOk E ⟨155, ps_timebase_Frame, rs_timebase_Frame, timebase_Frame N⟩ := conOf envOk (x_timebase_Frame N) ⟨k_timebase_Valid N, k_timebase_Ticks N, k_ratio_Quotient N, trivial⟩ (show E.P.funcs[155]? = some Tryz.f155 from by kernel_rfl) (by kernel_rfl)
theorem k_timebase_FromMillis (N : Nat) : ConOk E ⟨107, ps_timebase_FromMillis, rs_timebase_FromMillis, timebase_FromMillis N⟩ := conOf envOk (x_timebase_FromMillis N) ⟨k_timebase_Valid N, k_timebase_Frame N, trivial⟩ (show E.P.funcs[107]? = some Tryz.f107 from by kernel_rfl) (by kernel_rfl)
theorem k_subrip_ParseMarkup_1 (N : Nat) : ConOk E ⟨54, ps_subrip_ParseMarkup_1, rs_subrip_ParseMarkup_1, subrip_ParseMarkup_1 N⟩ := conOf envOk (x_subrip_ParseMarkup_1 N) trivial (show E.P.funcs[54]? = some Tryz.f54 from by kernel_rfl) (by kernel_rfl)
theorem k_stringslite_HasPrefix (N : Nat) : ConOk E ⟨96, ps_stringslite_HasPrefix, rs_stringslite_HasPrefix, stringslite_HasPrefix N⟩ := conOf envOk (x_stringslite_HasPrefix N) trivial (show E.P.funcs[96]? = some Tryz.f96 from by kernel_rfl) (by kernel_rfl)
theorem k_strings_HasPrefix (N : Nat) : ConOk E ⟨55, ps_strings_HasPrefix, rs_strings_HasPrefix, strings_HasPrefix N⟩ := conOf envOk (x_strings_HasPrefix N) ⟨k_stringslite_HasPrefix N, trivial⟩ (show E.P.funcs[55]? = some Tryz.f55 from by kernel_rfl) (by kernel_rfl)
theorem k_subrip_ParseMarkup (N : Nat) : ConOk E ⟨21, ps_subrip_ParseMarkup, rs_subrip_ParseMarkup, subrip_ParseMarkup N⟩ := conOf envOk (x_subrip_ParseMarkup N) ⟨k_subrip_ParseMarkup_1 N, k_strings_HasPrefix N, k_style_Norm N, trivial⟩ (show E.P.funcs[21]? = some Tryz.f21 from by kernel_rfl) (by kernel_rfl)
theorem k_subrip_reader_block (N : Nat) : ConOk E ⟨64, ps_subrip_reader_block, rs_subrip_reader_block, subrip_reader_block N⟩ := conOf envOk (x_subrip_reader_block N) ⟨k_subrip_number N, k_subrip_reader_fail N, k_subrip_times N, k_timebase_FromMillis N, k_subrip_ParseMarkup N, k_event_Check N, trivial⟩ (show E.P.funcs[64]? = some Tryz.f64 from by kernel_rfl) (by kernel_rfl)
theorem k_slices_Clone_Lapi_Row_api_Row (N : Nat) : ConOk E ⟨193, ps_slices_Clone_Lapi_Row_api_Row, rs_slices_Clone_Lapi_Row_api_Row, slices_Clone_Lapi_Row_api_Row N⟩ := conOf envOk (x_slices_Clone_Lapi_Row_api_Row N) trivial (show E.P.funcs[193]? = some Tryz.f193 from by kernel_rfl) (by kernel_rfl)
theorem k_slices_Clone_Lapi_Run_api_Run (N : Nat) : ConOk E ⟨194, ps_slices_Clone_Lapi_Run_api_Run, rs_slices_Clone_Lapi_Run_api_Run, slices_Clone_Lapi_Run_api_Run N⟩ := conOf envOk (x_slices_Clone_Lapi_Run_api_Run N) trivial (show E.P.funcs[194]? = some Tryz.f194 from by kernel_rfl) (by kernel_rfl)
theorem k_style_Clone (N : Nat) : ConOk E ⟨156, ps_style_Clone, rs_style_Clone, style_Clone N⟩ := conOf envOk (x_style_Clone N) ⟨k_slices_Clone_Lapi_Row_api_Row N, k_slices_Clone_Lapi_Run_api_Run N, trivial⟩ (show E.P.funcs[156]? = some Tryz.f156 from by kernel_rfl) (by kernel_rfl)
theorem k_event_Clone (N : Nat) : ConOk E ⟨108, ps_event_Clone, rs_event_Clone, event_Clone N⟩ := conOf envOk (x_event_Clone N) ⟨k_style_Clone N, trivial⟩ (show E.P.funcs[108]? = some Tryz.f108 from by kernel_rfl) (by kernel_rfl)
theorem k_document_Sort_1 (N : Nat) : ConOk E ⟨110, ps_document_Sort_1, rs_document_Sort_1, document_Sort_1 N⟩ := conOf envOk (x_document_Sort_1 N) ⟨k_cmp_Compare_int64 N, k_cmp_Or_int N, trivial⟩ (show E.P.funcs[110]? = some Tryz.f110 from by kernel_rfl) (by kernel_rfl)
theorem k_slices_insertionSortCmpFunc_api_Event (N : Nat) : ConOk E ⟨195, ps_slices_insertionSortCmpFunc_api_Event, rs_slices_insertionSortCmpFunc_api_Event, slices_insertionSortCmpFunc_api_Event N⟩ := conOf envOk (x_slices_insertionSortCmpFunc_api_Event N) ⟨k_document_Sort_1 N, trivial⟩ (show E.P.funcs[195]? = some Tryz.f195 from by kernel_rfl) (by kernel_rfl)
theorem k_slices_swapRangeCmpFunc_api_Event (N : Nat) : ConOk E ⟨216, ps_slices_swapRangeCmpFunc_api_Event, rs_slices_swapRangeCmpFunc_api_Event, slices_swapRangeCmpFunc_api_Event N⟩ := conOf envOk (x_slices_swapRangeCmpFunc_api_Event N) ⟨k_document_Sort_1 N, trivial⟩ (show E.P.funcs[216]? = some Tryz.f216 from by kernel_rfl) (by kernel_rfl)
theorem k_slices_rotateCmpFunc_api_Event (N : Nat) : ConOk E ⟨209, ps_slices_rotateCmpFunc_api_Event, rs_slices_rotateCmpFunc_api_Event, slices_rotateCmpFunc_api_Event N⟩ := conOf envOk (x_slices_rotateCmpFunc_api_Event N) ⟨k_document_Sort_1 N, k_slices_swapRangeCmpFunc_api_Event N, trivial⟩ (show E.P.funcs[209]? = some Tryz.f209 from by kernel_rfl) (by kernel_rfl)
theorem kr_slices_symMergeCmpFunc_api_Event (N : Nat) : ∀ D, ConOk E ⟨196, ps_slices_symMergeCmpFunc_api_Event, rs_slices_symMergeCmpFunc_api_Event, slices_symMergeCmpFunc_api_Event_r N D⟩
  | 0 => fun _ _ h => by cases h
  | D + 1 => by
    have hc : CallsOk E [⟨110, ps_document_Sort_1, rs_document_Sort_1, document_Sort_1 N⟩, ⟨209, ps_slices_rotateCmpFunc_api_Event, rs_slices_rotateCmpFunc_api_Event, slices_rotateCmpFunc_api_Event N⟩, ⟨196, ps_slices_symMergeCmpFunc_api_Event, rs_slices_symMergeCmpFunc_api_Event, slices_symMergeCmpFunc_api_Event_r N D⟩] := callsOk_all ⟨k_document_Sort_1 N, k_slices_rotateCmpFunc_api_Event N, kr_slices_symMergeCmpFunc_api_Event N D, trivial⟩
    rw [← x_slices_symMergeCmpFunc_api_Event N D]
    exact execF_ok envOk hc (drawn_ok envOk hc) (show E.P.funcs[196]? = some Tryz.f196 from by kernel_rfl) (by kernel_rfl) _ _ _
theorem k_slices_symMergeCmpFunc_api_Event (N : Nat) : ConOk E ⟨196, ps_slices_symMergeCmpFunc_api_Event, rs_slices_symMergeCmpFunc_api_Event, slices_symMergeCmpFunc_api_Event N⟩ := kr_slices_symMergeCmpFunc_api_Event N N
theorem k_slices_stableCmpFunc_api_Event (N : Nat) : ConOk E ⟨157, ps_slices_stableCmpFunc_api_Event, rs_slices_stableCmpFunc_api_Event, slices_stableCmpFunc_api_Event N⟩ := conOf envOk (x_slices_stableCmpFunc_api_Event N) ⟨k_document_Sort_1 N, k_slices_insertionSortCmpFunc_api_Event N, k_slices_symMergeCmpFunc_api_Event N, trivial⟩ (show E.P.funcs[157]? = some Tryz.f157 from by kernel_rfl) (by kernel_rfl)
theorem k_slices_SortStableFunc_Lapi_Event_api_Event (N : Nat) : ConOk E ⟨109, ps_slices_SortStableFunc_Lapi_Event_api_Event, rs_slices_SortStableFunc_Lapi_Event_api_Event, slices_SortStableFunc_Lapi_Event_api_Event N⟩ := conOf envOk (x_slices_SortStableFunc_Lapi_Event_api_Event N) ⟨k_document_Sort_1 N, k_slices_stableCmpFunc_api_Event N, trivial⟩ (show E.P.funcs[109]? = some Tryz.f109 from by kernel_rfl) (by kernel_rfl)
theorem k_document_Sort (N : Nat) : ConOk E ⟨65, ps_document_Sort, rs_document_Sort, document_Sort N⟩ := conOf envOk (x_document_Sort N) ⟨k_event_Clone N, k_slices_SortStableFunc_Lapi_Event_api_Event N, k_document_Sort_1 N, trivial⟩ (show E.P.funcs[65]? = some Tryz.f65 from by kernel_rfl) (by kernel_rfl)
theorem k_subrip_Decode (N : Nat) : ConOk E ⟨28, ps_subrip_Decode, rs_subrip_Decode, subrip_Decode N⟩ := conOf envOk (x_subrip_Decode N) ⟨k_timebase_Valid N, k_timebase_CanDrop N, k_strings_Split N, k_strings_TrimSuffix N, k_subrip_reader_block N, k_document_Sort N, trivial⟩ (show E.P.funcs[28]? = some Tryz.f28 from by kernel_rfl) (by kernel_rfl)
theorem k_slices_Equal_Lapi_Run_api_Run (N : Nat) : ConOk E ⟨53, ps_slices_Equal_Lapi_Run_api_Run, rs_slices_Equal_Lapi_Run_api_Run, slices_Equal_Lapi_Run_api_Run N⟩ := conOf envOk (x_slices_Equal_Lapi_Run_api_Run N) trivial (show E.P.funcs[53]? = some Tryz.f53 from by kernel_rfl) (by kernel_rfl)
theorem k_style_Same (N : Nat) : ConOk E ⟨20, ps_style_Same, rs_style_Same, style_Same N⟩ := conOf envOk (x_style_Same N) ⟨k_slices_Equal_Lapi_Run_api_Run N, trivial⟩ (show E.P.funcs[20]? = some Tryz.f20 from by kernel_rfl) (by kernel_rfl)
theorem k_l19_awake (N : Nat) : ConOk E ⟨13, ps_l19_awake, rs_l19_awake, l19_awake N⟩ := conOf envOk (x_l19_awake N) ⟨k_subrip_Encode N, k_subrip_Clock N, k_subrip_Decode N, k_style_Plain N, k_subrip_ParseMarkup N, k_style_Same N, trivial⟩ (show E.P.funcs[13]? = some Tryz.f13 from by kernel_rfl) (by kernel_rfl)
theorem kr_r19_digits (N : Nat) : ∀ D, ConOk E ⟨42, ps_r19_digits, rs_r19_digits, r19_digits_r N D⟩
  | 0 => fun _ _ h => by cases h
  | D + 1 => by
    have hc : CallsOk E [⟨42, ps_r19_digits, rs_r19_digits, r19_digits_r N D⟩] := callsOk_all ⟨kr_r19_digits N D, trivial⟩
    rw [← x_r19_digits N D]
    exact execF_ok envOk hc (drawn_ok envOk hc) (show E.P.funcs[42]? = some Tryz.f42 from by kernel_rfl) (by kernel_rfl) _ _ _
theorem k_r19_digits (N : Nat) : ConOk E ⟨42, ps_r19_digits, rs_r19_digits, r19_digits N⟩ := kr_r19_digits N N
theorem k_r19_Clock (N : Nat) : ConOk E ⟨15, ps_r19_Clock, rs_r19_Clock, r19_Clock N⟩ := conOf envOk (x_r19_Clock N) ⟨k_r19_digits N, trivial⟩ (show E.P.funcs[15]? = some Tryz.f15 from by kernel_rfl) (by kernel_rfl)
theorem k_r19_allDigits (N : Nat) : ConOk E ⟨44, ps_r19_allDigits, rs_r19_allDigits, r19_allDigits N⟩ := conOf envOk (x_r19_allDigits N) trivial (show E.P.funcs[44]? = some Tryz.f44 from by kernel_rfl) (by kernel_rfl)
theorem k_r19_value (N : Nat) : ConOk E ⟨45, ps_r19_value, rs_r19_value, r19_value N⟩ := conOf envOk (x_r19_value N) trivial (show E.P.funcs[45]? = some Tryz.f45 from by kernel_rfl) (by kernel_rfl)
theorem k_r19_ParseClock (N : Nat) : ConOk E ⟨17, ps_r19_ParseClock, rs_r19_ParseClock, r19_ParseClock N⟩ := conOf envOk (x_r19_ParseClock N) ⟨k_r19_allDigits N, k_r19_value N, trivial⟩ (show E.P.funcs[17]? = some Tryz.f17 from by kernel_rfl) (by kernel_rfl)
theorem k_l19_SubripClocks (N : Nat) : ConOk E ⟨3, ps_l19_SubripClocks, rs_l19_SubripClocks, l19_SubripClocks N⟩ := conOf envOk (x_l19_SubripClocks N) ⟨k_l19_awake N, k_subrip_Clock N, k_r19_Clock N, k_subrip_ParseClock N, k_r19_ParseClock N, trivial⟩ (show E.P.funcs[3]? = some Tryz.f3 from by kernel_rfl) (by kernel_rfl)
end
end Go.Mo
end

section
/-
  Plain facts of earlier chapters, put together by a program.
-/
set_option linter.all false
section
/-
  Plain facts on the words of models; what is made of bytes.
-/
namespace Go.Mo
open Go Go.W

theorem grd_t {α : Type} {b : Bool} {k : Option α} (h : b = true) : grd b k = k := by subst h; rfl
theorem cnd_t {α : Type} {b : Bool} {x y : Option α} (h : b = true) : cnd b x y = x := by subst h; rfl
theorem cnd_f {α : Type} {b : Bool} {x y : Option α} (h : b = false) : cnd b x y = y := by subst h; rfl
theorem jn_e {F α : Type} {k : F} {t : F → Option α} : jn k t = t k := rfl
theorem fixN_s {V R : Type} {F : (V → Option R) → V → Option R} {n : Nat} {v : V} : fixN F (n + 1) v = F (fixN F n) v := rfl
theorem w64_id {x : Int} (h : -9223372036854775808 ≤ x ∧ x ≤ 9223372036854775807) : w64 x = x := by
  show IntKind.wrap .i64 x = x
  unfold IntKind.wrap
  simp only [IntKind.bits, IntKind.signed, Bool.true_and, decide_eq_true_eq, show (2 : Int) ^ 64 = 18446744073709551616 from rfl, show (2 : Int) ^ (64 - 1) = 9223372036854775808 from rfl]
  split <;> omega
theorem ilt_t {a b : Int} (h : a < b) : ilt a b = true := decide_eq_true h
theorem ilt_f {a b : Int} (h : ¬ a < b) : ilt a b = false := decide_eq_false h
theorem ieq_t {a b : Int} (h : a = b) : ieq a b = true := by subst h; simp [ieq]
theorem ine_t {a b : Int} (h : a ≠ b) : ine a b = true := by simp [ine, h]
theorem ine_f {a b : Int} (h : a = b) : ine a b = false := by simp [ine, h]
theorem inb_t {i n : Int} (h : 0 ≤ i ∧ i < n) : inb i n = true := decide_eq_true h
theorem in2_t {i n : Int} (h : 0 ≤ i ∧ i ≤ n) : in2 i n = true := decide_eq_true h
theorem n8_inj {a b : UInt8} (h : n8 a = n8 b) : a = b := by
  unfold n8 at h
  apply UInt8.toNat_inj.1
  omega
end Go.Mo
end

section
/-
  Plain facts: rates, labels, the repertoire of characters.
-/
namespace Go.Mo
open Go Go.W
set_option maxRecDepth 100000

end Go.Mo
end

section
/-
  Plain facts: the repertoire of characters.
-/
namespace Go.Mo
open Go Go.W
set_option maxRecDepth 100000
/-- some number: the kernel does not know which -/
noncomputable def fuelM : Nat := Classical.choose (⟨7995000, rfl⟩ : ∃ n : Nat, n = 7995000)
noncomputable def fuelH : Nat := fuelM + 5000
theorem fuelH_eq : fuelH = 8000000 := by
  have h : fuelM = 7995000 := Classical.choose_spec (⟨7995000, rfl⟩ : ∃ n : Nat, n = 7995000)
  unfold fuelH
  rw [h]
/-- the characters behind ASCII -/
def hiRunes : List Int := [161, 162, 163, 164, 165, 166, 167, 169, 171, 174, 176, 183, 187, 189, 191, 192, 193, 194, 195, 196, 197, 198, 199, 200, 201, 202, 203, 204, 205, 206, 207, 209, 210, 211, 212, 213, 214, 216, 217, 218, 219, 220, 223, 224, 225, 226, 227, 228, 229, 230, 231, 232, 233, 234, 235, 236, 237, 238, 239, 241, 242, 243, 244, 245, 246, 248, 249, 250, 251, 252, 338, 339, 8212, 8216, 8217, 8220, 8221, 8226, 8230, 8482, 9834]
def loRunes : List Int := (List.range 95).map fun n => ((n + 32 : Nat) : Int)
def chain : List Int → Int → Int → Option Int
  | [], _, _ => some (-1)
  | c :: l, i, r => cnd (ieq c r) (some i) (chain l (iadd i 1) r)
def inRep (r : Int) : Bool := (decide (32 ≤ r) && decide (r ≤ 126)) || hiRunes.contains r
end Go.Mo
end

section
/-
  Plain facts: texts of the repertoire.
-/
namespace Go.Mo
open Go Go.W Go.Lib
set_option maxRecDepth 100000

def rok : Nat → List UInt8 → Bool
  | 0, _ => true
  | n + 1, l => if l = [] then true else if inRep ((decodeL l).1 : Int) = true then rok n (l.drop (decodeL l).2) else false
/-- characters of the repertoire alone -/
def vld (l : List UInt8) : Bool := rok l.length l
end Go.Mo
end

section
/-
  Plain facts: names; the check of a header.
-/
namespace Go.Mo
open Go Go.W Go.Lib
set_option maxRecDepth 100000

theorem cnd_dec {α : Type} {p : Prop} [Decidable p] {x y : Option α} : cnd (decide p) x y = if p then x else y := by
  by_cases h : p
  · rw [cnd_t (decide_eq_true h), if_pos h]
  · rw [cnd_f (decide_eq_false h), if_neg h]
theorem cnd_ilt {α : Type} {a b : Int} {x y : Option α} : cnd (ilt a b) x y = if a < b then x else y := cnd_dec
/-- may stand in a name -/
def okc (c : Int) : Bool := decide ((65 ≤ c ∧ c ≤ 90) ∨ (48 ≤ c ∧ c ≤ 57) ∨ c = 95 ∨ c = 45)
def upc (c : Int) : Bool := decide (65 ≤ c ∧ c ≤ 90)
/-- a name -/
def nm (s : List UInt8) : Bool := decide (1 ≤ s.length ∧ s.length ≤ 16) && upc (n8 (s.getD 0 0)) && s.all fun c => okc (n8 c)
end Go.Mo
end

section
/-
  Plain facts: the check of a header.
-/
namespace Go.Mo
open Go Go.W Go.Lib
set_option maxRecDepth 100000
abbrev Lbl := Int × Int × Int × Int × Bool
abbrev Hdr := UInt8 × (List UInt8) × (List UInt8) × Int × Int × Lbl × Lbl × Int × Int
theorem bnd_some' {α β : Type} {a : α} {k : α → Option β} : bnd (some a) k = k a := rfl
end Go.Mo
end

section
/-
  Plain facts: the characters of a text, and the text of characters.
-/
namespace Go.Mo
open Go Go.W Go.Lib
set_option maxRecDepth 100000

theorem w64_succ {i n : Nat} (h : i < n) (hn : n ≤ 9223372036854775807) : w64 (iadd (i : Int) 1) = ((i + 1 : Nat) : Int) := by
  simp only [iadd]; rw [w64_id (by omega)]; omega
theorem lget_i {α : Type} {l : List α} {i : Nat} {d : α} (h : i < l.length) : lget l (toN (i : Int)) d = l[i] := by simp [lget, toN, h]
end Go.Mo
end

section
/-
  Plain facts: the characters of the tape form.
-/
namespace Go.Mo
open Go Go.W Go.Lib
set_option maxRecDepth 100000

def ixE (r : Int) : Option Int := cnd (ile 32 r) (cnd (ile r 126) (some (w64 (wr .i32 (isub r 32)))) (chain (loRunes ++ hiRunes) 0 r)) (chain (loRunes ++ hiRunes) 0 r)
def ix (r : Int) : Int := (ixE r).getD 0
/-- the letter of a letter with a diacritic -/
def basT : List Int := [33, 99, 76, 36, 89, 124, 83, 67, 34, 82, 111, 46, 34, 50, 63, 65, 65, 65, 65, 65, 65, 65, 67, 69, 69, 69, 69, 73, 73, 73, 73, 78, 79, 79, 79, 79, 79, 79, 85, 85, 85, 85, 115, 97, 97, 97, 97, 97, 97, 97, 99, 101, 101, 101, 101, 105, 105, 105, 105, 110, 111, 111, 111, 111, 111, 111, 117, 117, 117, 117, 79, 111, 45, 39, 39, 34, 34, 46, 46, 84, 35]
def bas (r : Int) : Int := if r < 127 then r else basT.getD ((ix r).toNat - 95) 0
/-- the bytes of diacritics, and their letters -/
def accs : List (UInt8 × List UInt8 × List Int) := [(193, [195, 128, 195, 136, 195, 140, 195, 146, 195, 153], [192, 200, 204, 210, 217]), (194, [195, 129, 195, 137, 195, 141, 195, 147, 195, 154], [193, 201, 205, 211, 218]), (195, [195, 130, 195, 138, 195, 142, 195, 148, 195, 155], [194, 202, 206, 212, 219]), (196, [195, 131, 195, 145, 195, 149], [195, 209, 213]), (197, [], []), (198, [], []), (199, [], []), (200, [195, 132, 195, 139, 195, 143, 195, 150, 195, 156], [196, 203, 207, 214, 220]), (201, [], []), (202, [195, 133], [197]), (203, [195, 135], [199])]
def sgs : List (Int × UInt8) := [(161, 161), (162, 162), (163, 163), (164, 164), (165, 165), (166, 166), (167, 167), (169, 168), (8216, 169), (8220, 170), (171, 171), (174, 172), (8212, 173), (8226, 174), (8230, 175), (176, 176), (8482, 180), (183, 183), (8217, 185), (8221, 186), (187, 187), (189, 189), (191, 191), (9834, 213), (198, 225), (216, 233), (338, 234), (230, 241), (248, 249), (339, 250), (223, 251)]
end Go.Mo
end

section
/-
  Plain facts: texts in the characters of the tape form.
-/
namespace Go.Mo
open Go Go.W Go.Lib
set_option maxRecDepth 100000

end Go.Mo
end

section
/-
  Small plain facts: bytes, lengths, equality of texts.
-/
namespace Go.Mo
open Go Go.W Go.Lib
set_option maxRecDepth 100000
noncomputable section
end
end Go.Mo
end

section
/-
  Plain facts: characters of the tape form read back.
-/
namespace Go.Mo
open Go Go.W Go.Lib
set_option maxRecDepth 100000
noncomputable section

/-- the small letter -/
def low (r : Int) : Int := if (65 ≤ r ∧ r ≤ 90) ∨ (192 ≤ r ∧ r < 223) then r + 32 else if r = 338 then 339 else r
def accR (a : UInt8) : List Int := match accs.find? fun x => x.1 == a with
  | some x => x.2.2
  | none => []
def acG : List Int → UInt8 → Option (Int × Int)
  | [], _ => some (0, 0)
  | r :: l, b => cnd (ieq (bas r) (n8 b)) (some (r, (2 : Int))) (cnd (ieq (bas (low r)) (n8 b)) (some (low r, (2 : Int))) (acG l b))
def sgF (a : UInt8) : Option (Int × UInt8) := sgs.find? fun x => n8 x.2 == n8 a
end
end Go.Mo
end

section
/-
  Plain facts: rates, names, on both sides.
-/
namespace Go.Mo
open Go Go.W Go.Lib
set_option maxRecDepth 100000
noncomputable section
end
end Go.Mo
end

section
/-
  Plain facts: rows of text, their check, their normal form.
-/
namespace Go.Mo
open Go Go.W Go.Lib
set_option maxRecDepth 100000
end Go.Mo
end

section
/-
  Plain facts: loops with an invariant; the normal form of a row.
-/
namespace Go.Mo
open Go Go.W Go.Lib
set_option maxRecDepth 100000

def itI {α σ R : Type} (f : Nat → α → σ → Option R ⊕ σ) (e : σ → Option R) : Nat → List α → σ → Option R
  | _, [], a => e a
  | i, x :: l, a => match f i x a with
    | .inl r => r
    | .inr a' => itI f e (i + 1) l a'
/-- one round: it ends with r, or goes on -/
def Rnd {V R σ : Type} (X : Option R) (self : V → Option R) (next : σ → V) (I : σ → Prop) : Option R ⊕ σ → Prop
  | .inl r => X = r
  | .inr a => X = self (next a) ∧ I a
theorem lst_it {V R σ α : Type} {F : (V → Option R) → V → Option R} {l : List α} (st : σ → Nat → V) (f : Nat → α → σ → Option R ⊕ σ) (e : σ → Option R) (I : Nat → σ → Prop)
    (hstep : ∀ self a i (h : i < l.length), I i a → Rnd (F self (st a i)) self (fun a => st a (i + 1)) (I (i + 1)) (f i l[i] a))
    (hend : ∀ self a, I l.length a → F self (st a l.length) = e a) : ∀ (fuel i : Nat) (a : σ), i ≤ l.length → l.length - i < fuel → I i a → fixN F fuel (st a i) = itI f e i (l.drop i) a
  | 0, i, a, _, h, _ => by omega
  | fuel + 1, i, a, hi, h, hI => by
    rw [fixN_s]
    by_cases hl : i < l.length
    · rw [List.drop_eq_getElem_cons hl, itI]
      have hs := hstep (fixN F fuel) a i hl hI
      cases hf : f i l[i] a with
      | inl r => rw [hf] at hs; exact hs
      | inr a' =>
        rw [hf] at hs
        rw [hs.1]
        exact lst_it st f e I hstep hend fuel (i + 1) a' (by omega) (by omega) hs.2
    · obtain rfl : i = l.length := by omega
      rw [hend _ _ hI, List.drop_length]
      rfl
end Go.Mo
end

section
/-
  Plain facts: the bytes of rows.
-/
namespace Go.Mo
open Go Go.W Go.Lib
set_option maxRecDepth 100000
noncomputable section

end
end Go.Mo
end

section
/-
  Plain facts: rows that are read from bytes, on both sides.
-/
namespace Go.Mo
open Go Go.W Go.Lib
set_option maxRecDepth 100000
noncomputable section

def g1 (a : UInt8) : Option Int := if 32 ≤ n8 a ∧ n8 a < 127 then some (n8 a) else (sgF a).map (·.1)
def g2 (a b : UInt8) : Int × Int := (acG (accR a) b).getD (0, 0)
end
end Go.Mo
end

section
/-
  Plain facts: rows that are read by the reference; equality of rows; StlTexts returns true.
-/
namespace Go.Mo
open Go Go.W Go.Lib
set_option maxRecDepth 100000
noncomputable section

end
end Go.Mo
end

section
/-
  Plain facts: StlTexts returns true.
-/
namespace Go.Mo
open Go Go.W Go.Lib
set_option maxRecDepth 100000
noncomputable section
theorem loop_inv {V R σ : Type} {F : (V → Option R) → V → Option R} {n : Nat} (st : σ → Nat → V) (I : Nat → σ → Prop) (r : Option R)
    (hstep : ∀ self a i, i < n → I i a → ∃ a', F self (st a i) = self (st a' (i + 1)) ∧ I (i + 1) a') (hend : ∀ self a, I n a → F self (st a n) = r) : ∀ (fuel i : Nat) (a : σ), i ≤ n → n - i < fuel → I i a → fixN F fuel (st a i) = r
  | 0, i, a, _, h, _ => by omega
  | fuel + 1, i, a, hi, h, hI => by
    rw [fixN_s]
    by_cases hl : i < n
    · obtain ⟨a', h1, h2⟩ := hstep (fixN F fuel) a i hl hI
      rw [h1]
      exact loop_inv st I r hstep hend fuel (i + 1) a' (by omega) (by omega) h2
    · obtain rfl : i = n := by omega
      exact hend _ _ hI

theorem min_take {α : Type} (l : List α) (n : Nat) : ltake (toN (imin (len l) (n : Int))) l = l.take n ∧ in2 (imin (len l) (n : Int)) (len l) = true := by
  have e : toN (imin (len l) (n : Int)) = min l.length n := by simp only [toN, imin, len]; omega
  refine ⟨?_, in2_t (by simp only [imin, len]; omega)⟩
  rw [e]
  unfold ltake
  by_cases h : l.length ≤ n
  · rw [Nat.min_eq_left h, List.take_length, List.take_of_length_le h]
  · rw [Nat.min_eq_right (by omega)]
end
end Go.Mo
end

section
/-
  Plain facts: StlReturns returns true.
-/
namespace Go.Mo
open Go Go.W Go.Lib
set_option maxRecDepth 100000
noncomputable section

end
end Go.Mo
end

section
/-
  Plain facts: regions, their check, a region by its name, the places of rows.
-/
namespace Go.Mo
open Go Go.W Go.Lib
set_option maxRecDepth 100000
noncomputable section
end
end Go.Mo
end

section
/-
  Plain facts: the places of rows.
-/
namespace Go.Mo
open Go Go.W Go.Lib
set_option maxRecDepth 100000
noncomputable section

end
end Go.Mo
end

section
/-
  Plain facts: the text and the length of a row; events and their check.
-/
namespace Go.Mo
open Go Go.W Go.Lib
set_option maxRecDepth 100000
noncomputable section
end
end Go.Mo
end

section
/-
  Plain facts: the check of an event, on both sides; spots; the length of an event.
-/
namespace Go.Mo
open Go Go.W Go.Lib
set_option maxRecDepth 100000
noncomputable section

end
end Go.Mo
end

section
/-
  Plain facts: the header of a document; events by their number; the length of an event.
-/
namespace Go.Mo
open Go Go.W Go.Lib
set_option maxRecDepth 100000
noncomputable section
end
end Go.Mo
end

section
/-
  Plain facts: the events of a document, checked one after the other; the length of an event.
-/
namespace Go.Mo
open Go Go.W Go.Lib
set_option maxRecDepth 100000
noncomputable section

end
end Go.Mo
end

section
/-
  Plain facts: the comments of a document, on both sides.
-/
namespace Go.Mo
open Go Go.W Go.Lib
set_option maxRecDepth 100000
noncomputable section

end
end Go.Mo
end

section
/-
  Plain facts: the check of a document is the specified one.
-/
namespace Go.Mo
open Go Go.W Go.Lib
set_option maxRecDepth 100000
noncomputable section

end
end Go.Mo
end

section
/-
  Plain facts: the place of a good event, and its region.
-/
namespace Go.Mo
open Go Go.W Go.Lib
set_option maxRecDepth 100000
noncomputable section

end
end Go.Mo
end

section
/-
  Plain facts: the document as the form carries it, on both sides.
-/
namespace Go.Mo
open Go Go.W Go.Lib
set_option maxRecDepth 100000
noncomputable section

end
end Go.Mo
end

section
/-
  Plain facts: a document is the same as itself; StlAccepts returns true.
-/
namespace Go.Mo
open Go Go.W Go.Lib
set_option maxRecDepth 100000
noncomputable section

end
end Go.Mo
end

section
/-
  Plain facts: StlAccepts returns true.
-/
namespace Go.Mo
open Go Go.W Go.Lib
set_option maxRecDepth 100000
noncomputable section

end
end Go.Mo
end

section
/-
  Plain facts: texts that are joined; the normal form of a row that is good.
-/
namespace Go.Mo
open Go Go.W Go.Lib
set_option maxRecDepth 100000
noncomputable section

end
end Go.Mo
end

section
/-
  Plain facts: the regions of a reduced document; its events stand where they stood.
-/
namespace Go.Mo
open Go Go.W Go.Lib
set_option maxRecDepth 100000
noncomputable section

end
end Go.Mo
end

section
/-
  Plain facts: a reduced document is good; StlReduced returns true.
-/
namespace Go.Mo
open Go Go.W Go.Lib
set_option maxRecDepth 100000
noncomputable section

end
end Go.Mo
end

section
/-
  Plain facts: digits and the bytes of a header.
-/
namespace Go.Mo
open Go Go.W Go.Lib
set_option maxRecDepth 100000

/-- the byte of the last digit -/
def dg (v : Int) : UInt8 := b8 (w64 (iadd 48 (imod v 10)))
def dv (v : Int) : Int := w64 (idiv v 10)
end Go.Mo
end

section
/-
  Plain facts: what the check of a header lets through; the bytes of a header.
-/
namespace Go.Mo
open Go Go.W Go.Lib
set_option maxRecDepth 100000
noncomputable section

def lblOk (l : Lbl) : Prop := (0 ≤ l.1 ∧ l.1 ≤ 23) ∧ (0 ≤ l.2.1 ∧ l.2.1 ≤ 59) ∧ (0 ≤ l.2.2.1 ∧ l.2.2.1 ≤ 59) ∧ (0 ≤ l.2.2.2.1 ∧ l.2.2.2.1 ≤ 59)
structure HdrOk (h : Hdr) : Prop where
  rate : h.1 = 3 ∨ h.1 = 5
  lang : h.2.1 = [] ∨ nm h.2.1 = true
  ttl : vld h.2.2.1 = true
  ttlL : h.2.2.1.length ≤ 400
  blocks : 0 ≤ h.2.2.2.1 ∧ h.2.2.2.1 ≤ 99999
  groups : 0 ≤ h.2.2.2.2.1 ∧ h.2.2.2.2.1 ≤ 99999
  start : lblOk h.2.2.2.2.2.1
  first : lblOk h.2.2.2.2.2.2.1
  rows : 0 ≤ h.2.2.2.2.2.2.2.1 ∧ h.2.2.2.2.2.2.2.1 ≤ 99
  cols : 0 ≤ h.2.2.2.2.2.2.2.2 ∧ h.2.2.2.2.2.2.2.2 ≤ 99
  d1 : h.2.2.2.2.2.1.2.2.2.2 = false
  d2 : h.2.2.2.2.2.2.1.2.2.2.2 = false
end
end Go.Mo
end

section
/-
  Plain facts: numbers and names read back.
-/
namespace Go.Mo
open Go Go.W Go.Lib
set_option maxRecDepth 100000
noncomputable section

theorem n8_b8 {x : Int} (h : 0 ≤ x ∧ x < 256) : n8 (b8 x) = x := by
  unfold n8 b8
  rw [UInt8.toNat_ofNat']
  omega
theorem dg_n8 {v : Int} (h : 0 ≤ v) : n8 (dg v) = 48 + v % 10 := by
  unfold dg iadd imod
  have e : v.tmod 10 = v % 10 := Int.tmod_eq_emod_of_nonneg h
  have h1 := Int.emod_nonneg v (show (10 : Int) ≠ 0 by decide)
  have h2 := Int.emod_lt_of_pos v (show (0 : Int) < 10 by decide)
  rw [e, w64_id (by omega), n8_b8 (by omega)]
theorem dv_eq {v : Int} (h : 0 ≤ v ∧ v ≤ 1000000) : dv v = v / 10 := by
  unfold dv idiv
  rw [Int.tdiv_eq_ediv_of_nonneg h.1, w64_id (by omega)]
end
end Go.Mo
end

section
/-
  Plain facts: a header read back; TapeHeaders.
-/
namespace Go.Mo
open Go Go.W Go.Lib
set_option maxRecDepth 100000
noncomputable section

end
end Go.Mo
end

section
/-
  Plain facts: rows that are read are small; a subtitle that is read, both sides.
-/
namespace Go.Mo
open Go Go.W Go.Lib
set_option maxRecDepth 100000
noncomputable section

end
end Go.Mo
end

section
/-
  Plain facts: events in document order, both sides.
-/
namespace Go.Mo
open Go Go.W Go.Lib
set_option maxRecDepth 100000
noncomputable section

end
end Go.Mo
end

section
/-
  Plain facts: the program's sorting of few events.
-/
namespace Go.Mo
open Go Go.W Go.Lib
set_option maxRecDepth 100000
noncomputable section

end
end Go.Mo
end

section
/-
  Plain facts: what is read is a valid document that the form carries; StlValid returns true.
-/
namespace Go.Mo
open Go Go.W Go.Lib
set_option maxRecDepth 100000
noncomputable section

end
end Go.Mo
end

section
/-
  Plain facts: the blocks of a subtitle lead back to it.
-/
namespace Go.Mo
open Go Go.W Go.Lib
set_option maxRecDepth 100000
noncomputable section

end
end Go.Mo
end

section
/-
  Plain facts: the file of an accepted document is read as the reduced document; StlCarries returns true.
-/
namespace Go.Mo
open Go Go.W Go.Lib
set_option maxRecDepth 100000
noncomputable section

end
end Go.Mo
end
end

section
/-
  Plain facts: times and their texts, both sides; SubripClocks returns true.
-/
namespace Go.Mo
open Go Go.W Go.Lib
set_option maxRecDepth 100000
noncomputable section

theorem awake19 : l19_awake fuelH () = some true := by kernel_rfl

theorem dtab2 : ((List.range 100).all fun n => decide (subrip_digits fuelH ((n : Int), 2) = some [dg (dv (n : Int)), dg (n : Int)])) = true := by kernel_rfl
theorem dtab3 : ((List.range 1000).all fun n => decide (subrip_digits fuelH ((n : Int), 3) = some [dg (dv (dv (n : Int))), dg (dv (n : Int)), dg (n : Int)])) = true := by kernel_rfl
theorem r19d2 (v : Int) : r19_digits fuelH (v, 2) = some [dg (dv v), dg v] := by kernel_rfl
theorem r19d3 (v : Int) : r19_digits fuelH (v, 3) = some [dg (dv (dv v)), dg (dv v), dg v] := by kernel_rfl
theorem sub_d2 {v : Int} (h0 : 0 ≤ v) (h1 : v < 100) : subrip_digits fuelH (v, 2) = some [dg (dv v), dg v] := by
  have := of_decide_eq_true (List.all_eq_true.1 dtab2 v.toNat (List.mem_range.2 (by omega)))
  rwa [show ((v.toNat : Nat) : Int) = v by omega] at this
theorem sub_d3 {v : Int} (h0 : 0 ≤ v) (h1 : v < 1000) : subrip_digits fuelH (v, 3) = some [dg (dv (dv v)), dg (dv v), dg v] := by
  have := of_decide_eq_true (List.all_eq_true.1 dtab3 v.toNat (List.mem_range.2 (by omega)))
  rwa [show ((v.toNat : Nat) : Int) = v by omega] at this

def clkB (h m s t : Int) : List UInt8 := [dg (dv h), dg h, 58, dg (dv m), dg m, 58, dg (dv s), dg s, 44, dg (dv (dv t)), dg (dv t), dg t]
def clkS (v : Int) : List UInt8 × Int := if v < 0 then ([], 2) else if 359999999 < v then ([], 2) else (clkB (v / 3600000) (v / 60000 % 60) (v / 1000 % 60) (v % 1000), 0)
theorem tdiv_w {a b : Int} (ha : 0 ≤ a ∧ a ≤ 359999999) (hb : 0 < b) : w64 (idiv a b) = a / b := by
  unfold idiv
  have h1 := Int.ediv_nonneg ha.1 (Int.le_of_lt hb)
  have h2 := Int.ediv_le_self b ha.1
  rw [Int.tdiv_eq_ediv_of_nonneg ha.1, w64_id (by omega)]
theorem tmod_w {a b : Int} (ha : 0 ≤ a) : imod a b = a % b := Int.tmod_eq_emod_of_nonneg ha
theorem sub_clock (v : Int) : subrip_Clock fuelH v = some (clkS v) := by
  unfold subrip_Clock clkS
  rw [cnd_ilt]
  by_cases h0 : v < 0
  · rw [if_pos h0, if_pos h0]
  rw [if_neg h0, if_neg h0, cnd_ilt]
  by_cases h1 : 359999999 < v
  · rw [if_pos h1, if_pos h1]
  have e1 := tdiv_w (a := v) (b := 1000) (by omega) (by omega)
  have e2 := tdiv_w (a := v / 1000) (b := 3600) (by omega) (by omega)
  have e3 := tdiv_w (a := v / 1000) (b := 60) (by omega) (by omega)
  rw [if_neg h1, if_neg h1, e1, e2, e3, tmod_w (a := v / 1000 / 60) (by omega), tmod_w (a := v / 1000) (by omega), tmod_w (a := v) (by omega), sub_d2 (by omega) (by omega), bnd_some', grd_t (by kernel_rfl), sub_d2 (by omega) (by omega), bnd_some', grd_t (by kernel_rfl), grd_t (by kernel_rfl), sub_d2 (by omega) (by omega), bnd_some', grd_t (by kernel_rfl), grd_t (by kernel_rfl), sub_d3 (by omega) (by omega), bnd_some', grd_t (by kernel_rfl)]
  rw [show v / 3600000 = v / 1000 / 3600 by omega, show v / 60000 = v / 1000 / 60 by omega]
  rfl
theorem ref_clock (v : Int) : r19_Clock fuelH v = some (clkS v) := by
  unfold r19_Clock clkS
  rw [cnd_ilt]
  by_cases h0 : v < 0
  · rw [if_pos h0, if_pos h0]
  rw [if_neg h0, if_neg h0, cnd_ilt]
  by_cases h1 : 359999999 < v
  · rw [if_pos h1, if_pos h1]
  have e1 := tdiv_w (a := v) (b := 1000) (by omega) (by omega)
  have e2 := tdiv_w (a := v) (b := 3600000) (by omega) (by omega)
  have e3 := tdiv_w (a := v) (b := 60000) (by omega) (by omega)
  rw [if_neg h1, if_neg h1, e1, e2, e3, tmod_w (a := v / 60000) (by omega), tmod_w (a := v / 1000) (by omega), tmod_w (a := v) (by omega), r19d2, bnd_some', grd_t (by kernel_rfl), r19d2, bnd_some', grd_t (by kernel_rfl), grd_t (by kernel_rfl), r19d2, bnd_some', grd_t (by kernel_rfl), grd_t (by kernel_rfl), r19d3, bnd_some', grd_t (by kernel_rfl)]
  rfl

def isD (c : UInt8) : Prop := 48 ≤ n8 c ∧ n8 c ≤ 57
instance (c : UInt8) : Decidable (isD c) := by unfold isD; infer_instance
def stepD (c : UInt8) (n : Int) : Int := 10 * n + (n8 c - 48)
def allD (l : List UInt8) : Bool := l.all fun c => decide (isD c)
def valD (n : Int) (l : List UInt8) : Int := l.foldl (fun n c => stepD c n) n
def fldS (l : List UInt8) : Int := if allD l = true then valD 0 l else -1
theorem dig_val {c : UInt8} (h : isD c) : w64 (n8 (b8 (isub (n8 c) (48 : Int)))) = n8 c - 48 := by
  unfold isD at h
  unfold isub
  have : n8 (b8 (n8 c - 48)) = n8 c - 48 := by
    unfold b8
    show (((UInt8.ofNat ((n8 c - 48) % 256).toNat).toNat : Nat) : Int) = _
    rw [UInt8.toNat_ofNat']
    omega
  rw [this, w64_id (by omega)]
def bigD (n : Nat) : Int := (10 : Int) ^ n
theorem bigD_s (i : Nat) : bigD (i + 1) = 10 * bigD i := by unfold bigD; rw [Int.pow_succ]; omega
theorem bigD_le : ∀ i, i ≤ 12 → 1 ≤ bigD i ∧ bigD i ≤ 1000000000000 := by decide
theorem itI_dig : ∀ (l : List UInt8) (i : Nat) (n : Int), itI (fun _ c n => if isD c then .inr (stepD c n) else .inl (some (-1 : Int))) (fun n => some n) i l n = some (if allD l = true then valD n l else -1)
  | [], _, _ => rfl
  | c :: l, i, n => by
    simp only [itI]
    by_cases h : isD c
    · rw [if_pos h]
      have e : allD (c :: l) = allD l := by unfold allD; rw [List.all_cons, decide_eq_true h, Bool.true_and]
      rw [e]
      exact itI_dig l (i + 1) _
    · rw [if_neg h]
      have e : allD (c :: l) = false := by unfold allD; rw [List.all_cons, decide_eq_false h, Bool.false_and]
      rw [e]
      rfl
theorem sub_field {l : List UInt8} (hl : l.length ≤ 12) : subrip_field fuelH l = some (fldS l) := by
  unfold subrip_field
  rw [jn_e]
  refine Eq.trans (lst_it (l := l) (fun (n : Int) (p : Nat) => (n, (p : Int))) (fun _ c n => if isD c then .inr (stepD c n) else .inl (some (-1 : Int))) (fun n => some n) (fun i n => 0 ≤ n ∧ n < bigD i) (fun self n i hi hI => ?_) (fun self n _ => ?_) fuelH 0 0 (Nat.zero_le _) (by have := fuelH_eq; omega) (by decide)) (by rw [List.drop_zero]; exact itI_dig l 0 0)
  · have e48 : n8 (48 : UInt8) = 48 := rfl
    have e57 : n8 (57 : UInt8) = 57 := rfl
    have hin : inb (i : Int) (len l) = true := inb_t (by simp only [len]; omega)
    have hb := bigD_le i (by omega)
    simp only
    rw [cnd_t (ilt_t (by simp only [len]; omega)), grd_t hin, lget_i hi, grd_t hin, grd_t hin, e48, e57, cnd_ilt]
    by_cases h : isD l[i]
    · have hd := h
      unfold isD at hd
      rw [if_pos h, if_neg (by omega), cnd_f (ilt_f (by omega)), dig_val h, w64_succ hi (by omega)]
      unfold imul iadd
      rw [w64_id (x := 10 * n) (by omega), w64_id (by omega)]
      refine ⟨rfl, ?_⟩
      rw [bigD_s]
      unfold stepD
      omega
    · have hd := h
      unfold isD at hd
      rw [if_neg h]
      by_cases h1 : n8 l[i] < 48
      · rw [if_pos h1]; rfl
      · rw [if_neg h1, cnd_t (ilt_t (by omega))]; rfl
  · simp only
    rw [cnd_f (ilt_f (by simp only [len]; omega))]
theorem itI_all : ∀ (l : List UInt8) (i : Nat), itI (fun _ c (_ : Unit) => if isD c then .inr () else .inl (some false)) (fun _ => some true) i l () = some (allD l)
  | [], _ => rfl
  | c :: l, i => by
    simp only [itI]
    by_cases h : isD c
    · rw [if_pos h]
      have e : allD (c :: l) = allD l := by unfold allD; rw [List.all_cons, decide_eq_true h, Bool.true_and]
      rw [e]
      exact itI_all l (i + 1)
    · rw [if_neg h]
      have e : allD (c :: l) = false := by unfold allD; rw [List.all_cons, decide_eq_false h, Bool.false_and]
      rw [e]
theorem ref_all {l : List UInt8} (hl : l.length ≤ 4000000) : r19_allDigits fuelH l = some (allD l) := by
  unfold r19_allDigits
  rw [jn_e]
  refine Eq.trans (lst_it (l := l) (fun (_ : Unit) (p : Nat) => (p : Int)) (fun _ c (_ : Unit) => if isD c then .inr () else .inl (some false)) (fun _ => some true) (fun _ _ => True) (fun self n i hi hI => ?_) (fun self n _ => ?_) fuelH 0 () (Nat.zero_le _) (by have := fuelH_eq; omega) trivial) (by rw [List.drop_zero]; exact itI_all l 0)
  · have e48 : n8 (48 : UInt8) = 48 := rfl
    have e57 : n8 (57 : UInt8) = 57 := rfl
    have hin : inb (i : Int) (len l) = true := inb_t (by simp only [len]; omega)
    rw [cnd_t (ilt_t (by simp only [len]; omega)), grd_t hin, lget_i hi, grd_t hin, e48, e57, cnd_ilt, w64_succ hi (by omega)]
    by_cases h : isD l[i]
    · have hd := h
      unfold isD at hd
      rw [if_pos h, if_neg (by omega), cnd_f (ilt_f (by omega))]
      exact ⟨rfl, trivial⟩
    · have hd := h
      unfold isD at hd
      rw [if_neg h]
      by_cases h1 : n8 l[i] < 48
      · rw [if_pos h1]; rfl
      · rw [if_neg h1, cnd_t (ilt_t (by omega))]; rfl
  · rw [cnd_f (ilt_f (by simp only [len]; omega))]
theorem ref_value {l : List UInt8} (hl : l.length ≤ 12) (hd : allD l = true) : r19_value fuelH l = some (valD 0 l) := by
  unfold r19_value
  rw [jn_e]
  have hc : ∀ i (h : i < l.length), isD l[i] := fun i h => of_decide_eq_true (List.all_eq_true.1 hd _ (List.getElem_mem h))
  refine loop_inv (n := l.length) (fun (n : Int) (p : Nat) => (n, (p : Int))) (fun i n => n = valD 0 (l.take i) ∧ 0 ≤ n ∧ n < bigD i) _ (fun self n i hi hI => ?_) (fun self n hI => ?_) fuelH 0 0 (Nat.zero_le _) (by have := fuelH_eq; omega) ⟨rfl, by decide⟩
  · obtain ⟨e, hI⟩ := hI
    have hb := bigD_le i (by omega)
    have h := hc i hi
    have hd := h
    unfold isD at hd
    refine ⟨stepD l[i] n, ?_, ?_, ?_⟩
    · simp only
      have hin : inb (i : Int) (len l) = true := inb_t (by simp only [len]; omega)
      rw [cnd_t (ilt_t (by simp only [len]; omega)), grd_t hin, lget_i hi, show n8 (48 : UInt8) = 48 from rfl, dig_val h, w64_succ hi (by omega)]
      unfold imul iadd
      rw [w64_id (x := 10 * n) (by omega), w64_id (by omega)]
      rfl
    · rw [List.take_succ_eq_append_getElem hi, e]
      unfold valD
      rw [List.foldl_append]
      rfl
    · rw [bigD_s]
      unfold stepD
      omega
  · simp only
    rw [cnd_f (ilt_f (by simp only [len]; omega)), hI.1, List.take_length]

def hmsS (h m s t : Int) : Int := ((h * 60 + m) * 60 + s) * 1000 + t
def pcB : List UInt8 → Int × Int
  | [a, b, c2, c, d, c5, e, f, c8, g, h, i] => if c2 ≠ 58 then (0, 4) else if c5 ≠ 58 then (0, 4) else if c8 ≠ 44 ∧ c8 ≠ 46 then (0, 4) else
    if fldS [a, b] < 0 then (0, 4) else if fldS [c, d] < 0 then (0, 4) else if 59 < fldS [c, d] then (0, 4) else if fldS [e, f] < 0 then (0, 4) else if 59 < fldS [e, f] then (0, 4) else if fldS [g, h, i] < 0 then (0, 4) else
    (hmsS (fldS [a, b]) (fldS [c, d]) (fldS [e, f]) (fldS [g, h, i]), 0)
  | _ => (0, 4)
def pcT (a b c d e f g h i : UInt8) : Int × Int := if fldS [a, b] < 0 then (0, 4) else if fldS [c, d] < 0 then (0, 4) else if 59 < fldS [c, d] then (0, 4) else if fldS [e, f] < 0 then (0, 4) else if 59 < fldS [e, f] then (0, 4) else if fldS [g, h, i] < 0 then (0, 4) else
    (hmsS (fldS [a, b]) (fldS [c, d]) (fldS [e, f]) (fldS [g, h, i]), 0)
theorem pcB_eq (a b c2 c d c5 e f c8 g h i : UInt8) : pcB [a, b, c2, c, d, c5, e, f, c8, g, h, i] = if c2 ≠ 58 then (0, 4) else if c5 ≠ 58 then (0, 4) else if c8 ≠ 44 ∧ c8 ≠ 46 then (0, 4) else pcT a b c d e f g h i := rfl
theorem twelve {x : List UInt8} (h : x.length = 12) : ∃ a b c2 c d c5 e f c8 g h i, x = [a, b, c2, c, d, c5, e, f, c8, g, h, i] := by
  match x, h with
  | [a, b, c2, c, d, c5, e, f, c8, g, h, i], _ => exact ⟨a, b, c2, c, d, c5, e, f, c8, g, h, i, rfl⟩
theorem not12 {x : List UInt8} (h : x.length ≠ 12) : pcB x = (0, 4) := by
  unfold pcB
  split
  · exact absurd rfl h
  · rfl
theorem n8_ne {a b : UInt8} : ine (n8 a) (n8 b) = decide (a ≠ b) := by
  by_cases h : a = b
  · subst h
    rw [decide_eq_false (by simp)]
    exact ine_f rfl
  · rw [decide_eq_true h]
    exact ine_t fun k => h (n8_inj k)
theorem fld_bd2 (a b : UInt8) : fldS [a, b] ≤ 99 ∧ -1 ≤ fldS [a, b] := by
  unfold fldS
  split
  · rename_i h
    have h1 : isD a := of_decide_eq_true (List.all_eq_true.1 h a (by simp))
    have h2 : isD b := of_decide_eq_true (List.all_eq_true.1 h b (by simp))
    unfold isD at h1 h2
    unfold valD stepD
    simp only [List.foldl]
    omega
  · omega
theorem fld_bd3 (a b c : UInt8) : fldS [a, b, c] ≤ 999 ∧ -1 ≤ fldS [a, b, c] := by
  unfold fldS
  split
  · rename_i h
    have h1 : isD a := of_decide_eq_true (List.all_eq_true.1 h a (by simp))
    have h2 : isD b := of_decide_eq_true (List.all_eq_true.1 h b (by simp))
    have h3 : isD c := of_decide_eq_true (List.all_eq_true.1 h c (by simp))
    unfold isD at h1 h2 h3
    unfold valD stepD
    simp only [List.foldl]
    omega
  · omega
theorem hms_w {h m s t : Int} (h1 : 0 ≤ h ∧ h ≤ 99) (h2 : 0 ≤ m ∧ m ≤ 99) (h3 : 0 ≤ s ∧ s ≤ 99) (h4 : 0 ≤ t ∧ t ≤ 999) : w64 (iadd (w64 (imul (w64 (iadd (w64 (imul (w64 (iadd (w64 (imul h (60 : Int))) m)) (60 : Int))) s)) (1000 : Int))) t) = hmsS h m s t := by
  unfold iadd imul hmsS
  rw [w64_id (x := h * 60) (by omega), w64_id (x := h * 60 + m) (by omega), w64_id (x := (h * 60 + m) * 60) (by omega), w64_id (x := (h * 60 + m) * 60 + s) (by omega), w64_id (x := ((h * 60 + m) * 60 + s) * 1000) (by omega), w64_id (by omega)]
theorem sub_parse (x : List UInt8) : subrip_ParseClock fuelH x = some (pcB x) := by
  unfold subrip_ParseClock
  rw [jn_e]
  by_cases hx : x.length = 12
  case neg =>
    rw [cnd_t (ine_t (by simp only [len]; omega)), not12 hx]
  obtain ⟨a, b, c2, c, d, c5, e, f, c8, g, h, i, rfl⟩ := twelve hx
  have b1 := fld_bd2 a b
  have b2 := fld_bd2 c d
  have b3 := fld_bd2 e f
  have b4 := fld_bd3 g h i
  rw [cnd_f (ine_f (show len ([a, b, c2, c, d, c5, e, f, c8, g, h, i] : List UInt8) = 12 from rfl)), grd_t (by kernel_rfl)]
  show cnd (ine (n8 c2) (n8 (58 : UInt8))) _ _ = _
  rw [n8_ne, cnd_dec]
  rw [pcB_eq]
  by_cases k2 : c2 ≠ 58
  · rw [if_pos k2, if_pos k2]
  rw [if_neg k2, if_neg k2, grd_t (by kernel_rfl)]
  show cnd (ine (n8 c5) (n8 (58 : UInt8))) _ _ = _
  rw [n8_ne, cnd_dec]
  by_cases k5 : c5 ≠ 58
  · rw [if_pos k5, if_pos k5]
  rw [if_neg k5, if_neg k5, grd_t (by kernel_rfl)]
  have rest : ∀ R, R = (grd (in2 (2 : Int) (len [a, b, c2, c, d, c5, e, f, c8, g, h, i])) <|
    bnd (subrip_field fuelH [a, b]) fun v1 =>
    bnd (subrip_field fuelH [c, d]) fun v2 =>
    bnd (subrip_field fuelH [e, f]) fun v3 =>
    bnd (subrip_field fuelH [g, h, i]) fun v4 =>
    cnd (ilt v1 (0 : Int))
      (some ((0 : Int), (4 : Int)))
      (cnd (ilt v2 (0 : Int))
        (some ((0 : Int), (4 : Int)))
        (cnd (ilt (59 : Int) v2)
          (some ((0 : Int), (4 : Int)))
          (cnd (ilt v3 (0 : Int))
            (some ((0 : Int), (4 : Int)))
            (cnd (ilt (59 : Int) v3)
              (some ((0 : Int), (4 : Int)))
              (cnd (ilt v4 (0 : Int))
                (some ((0 : Int), (4 : Int)))
                (some (w64 (iadd (w64 (imul (w64 (iadd (w64 (imul (w64 (iadd (w64 (imul v1 (60 : Int))) v2)) (60 : Int))) v3)) (1000 : Int))) v4), (0 : Int)))))))) ) →
    R = some (pcT a b c d e f g h i) := fun R hR => by
    rw [hR, grd_t (by kernel_rfl), sub_field (by simp), bnd_some', sub_field (by simp), bnd_some', sub_field (by simp), bnd_some', sub_field (by simp), bnd_some']
    unfold pcT
    rw [cnd_ilt]
    by_cases q1 : fldS [a, b] < 0
    · rw [if_pos q1, if_pos q1]
    rw [if_neg q1, if_neg q1, cnd_ilt]
    by_cases q2 : fldS [c, d] < 0
    · rw [if_pos q2, if_pos q2]
    rw [if_neg q2, if_neg q2, cnd_ilt]
    by_cases q3 : 59 < fldS [c, d]
    · rw [if_pos q3, if_pos q3]
    rw [if_neg q3, if_neg q3, cnd_ilt]
    by_cases q4 : fldS [e, f] < 0
    · rw [if_pos q4, if_pos q4]
    rw [if_neg q4, if_neg q4, cnd_ilt]
    by_cases q5 : 59 < fldS [e, f]
    · rw [if_pos q5, if_pos q5]
    rw [if_neg q5, if_neg q5, cnd_ilt]
    by_cases q6 : fldS [g, h, i] < 0
    · rw [if_pos q6, if_pos q6]
    rw [if_neg q6, if_neg q6, hms_w (by omega) (by omega) (by omega) (by omega)]
  show cnd (ine (n8 c8) (n8 (44 : UInt8))) _ _ = _
  rw [n8_ne, cnd_dec]
  by_cases k8 : c8 ≠ 44
  · rw [if_pos k8, grd_t (by kernel_rfl)]
    show cnd (ine (n8 c8) (n8 (46 : UInt8))) _ _ = _
    rw [n8_ne, cnd_dec]
    by_cases k9 : c8 ≠ 46
    · rw [if_pos k9, if_pos ⟨k8, k9⟩]
    · rw [if_neg k9, if_neg fun k => k9 k.2]
      exact rest _ (by kernel_rfl)
  · rw [if_neg k8, if_neg fun k => k8 k.1]
    exact rest _ (by kernel_rfl)
theorem ref_parse (x : List UInt8) : r19_ParseClock fuelH x = some (pcB x) := by
  unfold r19_ParseClock
  rw [jn_e]
  by_cases hx : x.length = 12
  case neg =>
    rw [cnd_t (ine_t (by simp only [len]; omega)), not12 hx]
  obtain ⟨a, b, c2, c, d, c5, e, f, c8, g, h, i, rfl⟩ := twelve hx
  have b1 := fld_bd2 a b
  have b2 := fld_bd2 c d
  have b3 := fld_bd2 e f
  have b4 := fld_bd3 g h i
  rw [cnd_f (ine_f (show len ([a, b, c2, c, d, c5, e, f, c8, g, h, i] : List UInt8) = 12 from rfl)), grd_t (by kernel_rfl)]
  show cnd (ine (n8 c2) (n8 (58 : UInt8))) _ _ = _
  rw [n8_ne, cnd_dec]
  rw [pcB_eq]
  by_cases k2 : c2 ≠ 58
  · rw [if_pos k2, if_pos k2]
  rw [if_neg k2, if_neg k2, grd_t (by kernel_rfl)]
  show cnd (ine (n8 c5) (n8 (58 : UInt8))) _ _ = _
  rw [n8_ne, cnd_dec]
  by_cases k5 : c5 ≠ 58
  · rw [if_pos k5, if_pos k5]
  rw [if_neg k5, if_neg k5, grd_t (by kernel_rfl)]
  have rest : ∀ R, R = (bnd (r19_allDigits fuelH [a, b, c, d, e, f, g, h, i]) fun v1 =>
    cnd (bnot v1)
      (some ((0 : Int), (4 : Int)))
      (bnd (r19_value fuelH [a, b]) fun v2 =>
        bnd (r19_value fuelH [c, d]) fun v3 =>
        bnd (r19_value fuelH [e, f]) fun v4 =>
        bnd (r19_value fuelH [g, h, i]) fun v5 =>
        cnd (ilt (59 : Int) v3)
          (some ((0 : Int), (4 : Int)))
          (cnd (ilt (59 : Int) v4)
            (some ((0 : Int), (4 : Int)))
            (some (w64 (iadd (w64 (imul (w64 (iadd (w64 (imul (w64 (iadd (w64 (imul v2 (60 : Int))) v3)) (60 : Int))) v4)) (1000 : Int))) v5), (0 : Int)))))) →
    R = some (pcT a b c d e f g h i) := fun R hR => by
    rw [hR, ref_all (by simp), bnd_some']
    have split9 : allD [a, b, c, d, e, f, g, h, i] = (allD [a, b] && allD [c, d] && allD [e, f] && allD [g, h, i]) := by
      unfold allD
      simp only [List.all_cons, List.all_nil, Bool.and_true, Bool.and_assoc]
    have neg : ∀ l : List UInt8, allD l = false → fldS l < 0 := fun l h => by unfold fldS; rw [h]; simp
    have pos : ∀ l : List UInt8, allD l = true → fldS l = valD 0 l := fun l h => by unfold fldS; rw [if_pos h]
    unfold pcT
    by_cases d1 : allD [a, b] = true
    case neg =>
      have d1 := Bool.eq_false_iff.2 d1
      rw [split9, d1, if_pos (neg _ d1)]
      rfl
    by_cases d2 : allD [c, d] = true
    case neg =>
      have d2 := Bool.eq_false_iff.2 d2
      rw [split9, d1, d2, if_pos (neg _ d2)]
      by_cases q1 : fldS [a, b] < 0
      · rw [if_pos q1]; rfl
      · rw [if_neg q1]; rfl
    by_cases d3 : allD [e, f] = true
    case neg =>
      have d3 := Bool.eq_false_iff.2 d3
      rw [split9, d1, d2, d3, if_pos (neg _ d3)]
      by_cases q1 : fldS [a, b] < 0
      · rw [if_pos q1]; rfl
      rw [if_neg q1]
      by_cases q2 : fldS [c, d] < 0
      · rw [if_pos q2]; rfl
      rw [if_neg q2]
      by_cases q3 : 59 < fldS [c, d]
      · rw [if_pos q3]; rfl
      · rw [if_neg q3]; rfl
    by_cases d4 : allD [g, h, i] = true
    case neg =>
      have d4 := Bool.eq_false_iff.2 d4
      rw [split9, d1, d2, d3, d4, if_pos (neg _ d4)]
      by_cases q1 : fldS [a, b] < 0
      · rw [if_pos q1]; rfl
      rw [if_neg q1]
      by_cases q2 : fldS [c, d] < 0
      · rw [if_pos q2]; rfl
      rw [if_neg q2]
      by_cases q3 : 59 < fldS [c, d]
      · rw [if_pos q3]; rfl
      rw [if_neg q3]
      by_cases q4 : fldS [e, f] < 0
      · rw [if_pos q4]; rfl
      rw [if_neg q4]
      by_cases q5 : 59 < fldS [e, f]
      · rw [if_pos q5]; rfl
      · rw [if_neg q5]; rfl
    have nn : ∀ l : List UInt8, allD l = true → 0 ≤ fldS l := fun l h => by
      rw [pos l h]
      have : ∀ (l : List UInt8) (n : Int), allD l = true → 0 ≤ n → 0 ≤ valD n l := by
        intro l
        induction l with
        | nil => intro n _ hn; exact hn
        | cons x l ih =>
          intro n h hn
          unfold allD at h
          rw [List.all_cons, Bool.and_eq_true] at h
          have hx : isD x := of_decide_eq_true h.1
          unfold isD at hx
          exact ih _ h.2 (by show 0 ≤ stepD x n; unfold stepD; omega)
      exact this l 0 h (Int.le_refl _)
    have n1 := nn _ d1
    have n2 := nn _ d2
    have n3 := nn _ d3
    have n4 := nn _ d4
    rw [split9, d1, d2, d3, d4, if_neg (by omega), if_neg (by omega), if_neg (show ¬ fldS [e, f] < 0 by omega), if_neg (show ¬ fldS [g, h, i] < 0 by omega)]
    show (bnd (r19_value fuelH [a, b]) fun v2 => _) = _
    rw [ref_value (by simp) d1, bnd_some', ref_value (by simp) d2, bnd_some', ref_value (by simp) d3, bnd_some', ref_value (by simp) d4, bnd_some', ← pos _ d1, ← pos _ d2, ← pos _ d3, ← pos _ d4, cnd_ilt]
    by_cases q3 : 59 < fldS [c, d]
    · rw [if_pos q3, if_pos q3]
    rw [if_neg q3, if_neg q3, cnd_ilt]
    by_cases q5 : 59 < fldS [e, f]
    · rw [if_pos q5, if_pos q5]
    rw [if_neg q5, if_neg q5, hms_w (by omega) (by omega) (by omega) (by omega)]
  show cnd (ine (n8 c8) (n8 (44 : UInt8))) _ _ = _
  rw [n8_ne, cnd_dec]
  by_cases k8 : c8 ≠ 44
  · rw [if_pos k8, grd_t (by kernel_rfl)]
    show cnd (ine (n8 c8) (n8 (46 : UInt8))) _ _ = _
    rw [n8_ne, cnd_dec]
    by_cases k9 : c8 ≠ 46
    · rw [if_pos k9, if_pos ⟨k8, k9⟩]
    · rw [if_neg k9, if_neg fun k => k9 k.2]
      exact rest _ (by kernel_rfl)
  · rw [if_neg k8, if_neg fun k => k8 k.1]
    exact rest _ (by kernel_rfl)

theorem dg_is {v : Int} (h : 0 ≤ v) : isD (dg v) := by
  have := dg_n8 h
  unfold isD
  omega
theorem fld2 {v : Int} (h : 0 ≤ v ∧ v ≤ 99) : fldS [dg (dv v), dg v] = v := by
  have e := dv_eq (v := v) (by omega)
  have h1 := dg_is (v := v / 10) (by omega)
  have h2 := dg_is (v := v) (by omega)
  have g1 := dg_n8 (v := v / 10) (by omega)
  have g2 := dg_n8 (v := v) (by omega)
  unfold fldS allD
  rw [e, if_pos (by simp [h1, h2])]
  unfold valD stepD
  simp only [List.foldl]
  rw [g1, g2]
  omega
theorem fld3 {v : Int} (h : 0 ≤ v ∧ v ≤ 999) : fldS [dg (dv (dv v)), dg (dv v), dg v] = v := by
  have e := dv_eq (v := v) (by omega)
  have e2 := dv_eq (v := v / 10) (by omega)
  have h0 := dg_is (v := v / 10 / 10) (by omega)
  have h1 := dg_is (v := v / 10) (by omega)
  have h2 := dg_is (v := v) (by omega)
  have g0 := dg_n8 (v := v / 10 / 10) (by omega)
  have g1 := dg_n8 (v := v / 10) (by omega)
  have g2 := dg_n8 (v := v) (by omega)
  unfold fldS allD
  rw [e, e2, if_pos (by simp [h0, h1, h2])]
  unfold valD stepD
  simp only [List.foldl]
  rw [g0, g1, g2]
  omega
theorem clk_back {v : Int} (h0 : 0 ≤ v) (h1 : v ≤ 359999999) : pcB (clkB (v / 3600000) (v / 60000 % 60) (v / 1000 % 60) (v % 1000)) = (v, 0) := by
  unfold clkB
  rw [pcB_eq, if_neg (by decide), if_neg (by decide), if_neg (by decide)]
  unfold pcT
  rw [fld2 (by omega), fld2 (by omega), fld2 (by omega), fld3 (by omega), if_neg (by omega), if_neg (by omega), if_neg (by omega), if_neg (by omega), if_neg (by omega), if_neg (by omega)]
  unfold hmsS
  congr 1
  omega
theorem clocks_true (x : Int × List UInt8) : l19_SubripClocks fuelH x = some true := by
  unfold l19_SubripClocks
  obtain ⟨e1, e2⟩ := min_take x.2 40
  have e2 : in2 (imin (len x.2) (40 : Int)) (len x.2) = true := e2
  rw [awake19, bnd_some', cnd_f (by rfl), grd_t e2, sub_clock, bnd_some', ref_clock, bnd_some', sub_parse, bnd_some', ref_parse, bnd_some']
  have sn : ∀ l : List UInt8, sne l l = false := fun l => by unfold sne; simp
  rw [cnd_f (sn _), cnd_f (ine_f rfl), cnd_f (ine_f rfl), cnd_f (ine_f rfl), sub_parse, bnd_some']
  unfold clkS
  by_cases h0 : x.1 < 0
  · rw [if_pos h0]; rfl
  rw [if_neg h0]
  by_cases h1 : 359999999 < x.1
  · rw [if_pos h1]; rfl
  rw [if_neg h1]
  simp only
  rw [clk_back (by omega) (by omega), cnd_f (ine_f rfl), cnd_t (ieq_t rfl), ieq_t rfl]
end
end Go.Mo
end
