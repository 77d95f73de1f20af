/-
  Texts put together, in build order: WK UB UC UM UN UO UP US UV.
-/
import Derived.Test.YtmhoognbjmdddaaGreatDoorVdA
import Derived.Test.YtmhoognbjmdddaaGreatDoorZC
import Derived.KernelRfl
import Derived.Lib.ValidLaws
import Derived.Lib.TrimUEq
import Derived.Lib.MapLaws
import Derived.Lib.IndexMore
set_option linter.all false

section
/-
  The functions do what their models say. Printed by a program.
-/
namespace Go.Mo
open Go Go.W Go.Proofs
noncomputable section
set_option maxRecDepth 100000
theorem k_utf8_word_string (N : Nat) : ConOk E ⟨182, ps_utf8_word_string, rs_utf8_word_string, utf8_word_string N⟩ := conOf envOk (x_utf8_word_string N) trivial (show E.P.funcs[182]? = some Tryz.f182 from by kernel_rfl) (by kernel_rfl)
theorem k_utf8_ValidString (N : Nat) : ConOk E ⟨143, ps_utf8_ValidString, rs_utf8_ValidString, utf8_ValidString N⟩ := kh_utf8_ValidString N
theorem k_charset_place (N : Nat) : ConOk E ⟨183, ps_charset_place, rs_charset_place, charset_place N⟩ := conOf envOk (x_charset_place N) trivial (show E.P.funcs[183]? = some Tryz.f183 from by kernel_rfl) (by kernel_rfl)
theorem k_charset_Index (N : Nat) : ConOk E ⟨144, ps_charset_Index, rs_charset_Index, charset_Index N⟩ := conOf envOk (x_charset_Index N) ⟨k_charset_place N, trivial⟩ (show E.P.funcs[144]? = some Tryz.f144 from by kernel_rfl) (by kernel_rfl)
theorem k_charset_Valid (N : Nat) : ConOk E ⟨89, ps_charset_Valid, rs_charset_Valid, charset_Valid N⟩ := conOf envOk (x_charset_Valid N) ⟨k_utf8_ValidString N, k_charset_Index N, trivial⟩ (show E.P.funcs[89]? = some Tryz.f89 from by kernel_rfl) (by kernel_rfl)
theorem k_lines_Name (N : Nat) : ConOk E ⟨119, ps_lines_Name, rs_lines_Name, lines_Name N⟩ := conOf envOk (x_lines_Name N) trivial (show E.P.funcs[119]? = some Tryz.f119 from by kernel_rfl) (by kernel_rfl)
theorem k_timebase_of (N : Nat) : ConOk E ⟨102, ps_timebase_of, rs_timebase_of, timebase_of N⟩ := conOf envOk (x_timebase_of N) trivial (show E.P.funcs[102]? = some Tryz.f102 from by kernel_rfl) (by kernel_rfl)
theorem k_timebase_Valid (N : Nat) : ConOk E ⟨61, ps_timebase_Valid, rs_timebase_Valid, timebase_Valid N⟩ := conOf envOk (x_timebase_Valid N) ⟨k_timebase_of N, trivial⟩ (show E.P.funcs[61]? = some Tryz.f61 from by kernel_rfl) (by kernel_rfl)
theorem k_timebase_CanDrop (N : Nat) : ConOk E ⟨62, ps_timebase_CanDrop, rs_timebase_CanDrop, timebase_CanDrop N⟩ := conOf envOk (x_timebase_CanDrop N) ⟨k_timebase_of N, trivial⟩ (show E.P.funcs[62]? = some Tryz.f62 from by kernel_rfl) (by kernel_rfl)
theorem k_document_rate (N : Nat) : ConOk E ⟨120, ps_document_rate, rs_document_rate, document_rate N⟩ := conOf envOk (x_document_rate N) ⟨k_timebase_Valid N, k_timebase_CanDrop N, trivial⟩ (show E.P.funcs[120]? = some Tryz.f120 from by kernel_rfl) (by kernel_rfl)
theorem k_document_header (N : Nat) : ConOk E ⟨76, ps_document_header, rs_document_header, document_header N⟩ := conOf envOk (x_document_header N) ⟨k_charset_Valid N, k_lines_Name N, k_document_rate N, trivial⟩ (show E.P.funcs[76]? = some Tryz.f76 from by kernel_rfl) (by kernel_rfl)
theorem k_region_from (N : Nat) : ConOk E ⟨169, ps_region_from, rs_region_from, region_from N⟩ := conOf envOk (x_region_from N) trivial (show E.P.funcs[169]? = some Tryz.f169 from by kernel_rfl) (by kernel_rfl)
theorem k_region_Check (N : Nat) : ConOk E ⟨121, ps_region_Check, rs_region_Check, region_Check N⟩ := conOf envOk (x_region_Check N) ⟨k_lines_Name N, k_region_from N, trivial⟩ (show E.P.funcs[121]? = some Tryz.f121 from by kernel_rfl) (by kernel_rfl)
theorem k_region_CheckList (N : Nat) : ConOk E ⟨77, ps_region_CheckList, rs_region_CheckList, region_CheckList N⟩ := conOf envOk (x_region_CheckList N) ⟨k_region_Check N, trivial⟩ (show E.P.funcs[77]? = some Tryz.f77 from by kernel_rfl) (by kernel_rfl)
theorem k_region_Default (N : Nat) : ConOk E ⟨170, ps_region_Default, rs_region_Default, region_Default N⟩ := conOf envOk (x_region_Default N) trivial (show E.P.funcs[170]? = some Tryz.f170 from by kernel_rfl) (by kernel_rfl)
theorem k_region_Find (N : Nat) : ConOk E ⟨122, ps_region_Find, rs_region_Find, region_Find N⟩ := conOf envOk (x_region_Find N) ⟨k_region_Default N, trivial⟩ (show E.P.funcs[122]? = some Tryz.f122 from by kernel_rfl) (by kernel_rfl)
theorem k_event_spans (N : Nat) : ConOk E ⟨123, ps_event_spans, rs_event_spans, event_spans N⟩ := conOf envOk (x_event_spans N) trivial (show E.P.funcs[123]? = some Tryz.f123 from by kernel_rfl) (by kernel_rfl)
theorem k_event_kinds (N : Nat) : ConOk E ⟨171, ps_event_kinds, rs_event_kinds, event_kinds N⟩ := conOf envOk (x_event_kinds N) trivial (show E.P.funcs[171]? = some Tryz.f171 from by kernel_rfl) (by kernel_rfl)
theorem k_event_KindName (N : Nat) : ConOk E ⟨124, ps_event_KindName, rs_event_KindName, event_KindName N⟩ := conOf envOk (x_event_KindName N) ⟨k_event_kinds N, trivial⟩ (show E.P.funcs[124]? = some Tryz.f124 from by kernel_rfl) (by kernel_rfl)
theorem k_style_Valid (N : Nat) : ConOk E ⟨90, ps_style_Valid, rs_style_Valid, style_Valid N⟩ := conOf envOk (x_style_Valid N) trivial (show E.P.funcs[90]? = some Tryz.f90 from by kernel_rfl) (by kernel_rfl)
theorem k_style_alike (N : Nat) : ConOk E ⟨91, ps_style_alike, rs_style_alike, style_alike N⟩ := conOf envOk (x_style_alike N) trivial (show E.P.funcs[91]? = some Tryz.f91 from by kernel_rfl) (by kernel_rfl)
theorem k_style_Check (N : Nat) : ConOk E ⟨46, ps_style_Check, rs_style_Check, style_Check N⟩ := conOf envOk (x_style_Check N) ⟨k_charset_Valid N, k_style_Valid N, k_style_alike N, trivial⟩ (show E.P.funcs[46]? = some Tryz.f46 from by kernel_rfl) (by kernel_rfl)
theorem k_strings_Builder_copyCheck (N : Nat) : ConOk E ⟨93, ps_strings_Builder_copyCheck, rs_strings_Builder_copyCheck, strings_Builder_copyCheck N⟩ := kh_strings_Builder_copyCheck N
theorem k_strings_Builder_WriteString (N : Nat) : ConOk E ⟨49, ps_strings_Builder_WriteString, rs_strings_Builder_WriteString, strings_Builder_WriteString N⟩ := conOf envOk (x_strings_Builder_WriteString N) ⟨k_strings_Builder_copyCheck N, trivial⟩ (show E.P.funcs[49]? = some Tryz.f49 from by kernel_rfl) (by kernel_rfl)
theorem k_style_Plain (N : Nat) : ConOk E ⟨40, ps_style_Plain, rs_style_Plain, style_Plain N⟩ := conOf envOk (x_style_Plain N) ⟨k_strings_Builder_WriteString N, trivial⟩ (show E.P.funcs[40]? = some Tryz.f40 from by kernel_rfl) (by kernel_rfl)
theorem k_bytealg_IndexByteString (N : Nat) : ConOk E ⟨178, ps_bytealg_IndexByteString, rs_bytealg_IndexByteString, bytealg_IndexByteString N⟩ := kh_bytealg_IndexByteString N
theorem k_stringslite_IndexByte (N : Nat) : ConOk E ⟨134, ps_stringslite_IndexByte, rs_stringslite_IndexByte, stringslite_IndexByte N⟩ := conOf envOk (x_stringslite_IndexByte N) ⟨k_bytealg_IndexByteString N, trivial⟩ (show E.P.funcs[134]? = some Tryz.f134 from by kernel_rfl) (by kernel_rfl)
theorem k_bytealg_Cutover (N : Nat) : ConOk E ⟨136, ps_bytealg_Cutover, rs_bytealg_Cutover, bytealg_Cutover N⟩ := conOf envOk (x_bytealg_Cutover N) trivial (show E.P.funcs[136]? = some Tryz.f136 from by kernel_rfl) (by kernel_rfl)
theorem k_bytealg_hashStr_string (N : Nat) : ConOk E ⟨179, ps_bytealg_hashStr_string, rs_bytealg_hashStr_string, bytealg_hashStr_string N⟩ := conOf envOk (x_bytealg_hashStr_string N) trivial (show E.P.funcs[179]? = some Tryz.f179 from by kernel_rfl) (by kernel_rfl)
theorem k_bytealg_IndexRabinKarp_string (N : Nat) : ConOk E ⟨137, ps_bytealg_IndexRabinKarp_string, rs_bytealg_IndexRabinKarp_string, bytealg_IndexRabinKarp_string N⟩ := conOf envOk (x_bytealg_IndexRabinKarp_string N) ⟨k_bytealg_hashStr_string N, trivial⟩ (show E.P.funcs[137]? = some Tryz.f137 from by kernel_rfl) (by kernel_rfl)
theorem k_stringslite_Index (N : Nat) : ConOk E ⟨84, ps_stringslite_Index, rs_stringslite_Index, stringslite_Index N⟩ := conOf envOk (x_stringslite_Index N) ⟨k_stringslite_IndexByte N, k_bytealg_Cutover N, k_bytealg_IndexRabinKarp_string N, trivial⟩ (show E.P.funcs[84]? = some Tryz.f84 from by kernel_rfl) (by kernel_rfl)
theorem k_strings_Index (N : Nat) : ConOk E ⟨38, ps_strings_Index, rs_strings_Index, strings_Index N⟩ := conOf envOk (x_strings_Index N) ⟨k_stringslite_Index N, trivial⟩ (show E.P.funcs[38]? = some Tryz.f38 from by kernel_rfl) (by kernel_rfl)
theorem k_strings_Contains (N : Nat) : ConOk E ⟨172, ps_strings_Contains, rs_strings_Contains, strings_Contains N⟩ := kh_strings_Contains N
theorem k_utf8_RuneCountInString (N : Nat) : ConOk E ⟨138, ps_utf8_RuneCountInString, rs_utf8_RuneCountInString, utf8_RuneCountInString N⟩ := conOf envOk (x_utf8_RuneCountInString N) trivial (show E.P.funcs[138]? = some Tryz.f138 from by kernel_rfl) (by kernel_rfl)
theorem k_charset_Len (N : Nat) : ConOk E ⟨201, ps_charset_Len, rs_charset_Len, charset_Len N⟩ := conOf envOk (x_charset_Len N) ⟨k_charset_Valid N, k_utf8_RuneCountInString N, trivial⟩ (show E.P.funcs[201]? = some Tryz.f201 from by kernel_rfl) (by kernel_rfl)
theorem k_style_Len (N : Nat) : ConOk E ⟨173, ps_style_Len, rs_style_Len, style_Len N⟩ := conOf envOk (x_style_Len N) ⟨k_charset_Len N, trivial⟩ (show E.P.funcs[173]? = some Tryz.f173 from by kernel_rfl) (by kernel_rfl)
theorem k_event_row (N : Nat) : ConOk E ⟨125, ps_event_row, rs_event_row, event_row N⟩ := conOf envOk (x_event_row N) ⟨k_style_Check N, k_style_Plain N, k_strings_Contains N, k_style_Len N, trivial⟩ (show E.P.funcs[125]? = some Tryz.f125 from by kernel_rfl) (by kernel_rfl)
theorem k_event_lens (N : Nat) : ConOk E ⟨127, ps_event_lens, rs_event_lens, event_lens N⟩ := conOf envOk (x_event_lens N) ⟨k_style_Len N, trivial⟩ (show E.P.funcs[127]? = some Tryz.f127 from by kernel_rfl) (by kernel_rfl)
theorem k_region_usable (N : Nat) : ConOk E ⟨174, ps_region_usable, rs_region_usable, region_usable N⟩ := conOf envOk (x_region_usable N) ⟨k_region_Default N, k_region_Check N, trivial⟩ (show E.P.funcs[174]? = some Tryz.f174 from by kernel_rfl) (by kernel_rfl)
theorem k_region_Place (N : Nat) : ConOk E ⟨126, ps_region_Place, rs_region_Place, region_Place N⟩ := conOf envOk (x_region_Place N) ⟨k_region_usable N, trivial⟩ (show E.P.funcs[126]? = some Tryz.f126 from by kernel_rfl) (by kernel_rfl)
theorem k_event_Check (N : Nat) : ConOk E ⟨78, ps_event_Check, rs_event_Check, event_Check N⟩ := conOf envOk (x_event_Check N) ⟨k_region_Find N, k_event_spans N, k_event_KindName N, k_lines_Name N, k_event_row N, k_event_lens N, k_region_Place N, trivial⟩ (show E.P.funcs[78]? = some Tryz.f78 from by kernel_rfl) (by kernel_rfl)
theorem k_cmp_isNaN_int64 (N : Nat) : ConOk E ⟨158, ps_cmp_isNaN_int64, rs_cmp_isNaN_int64, cmp_isNaN_int64 N⟩ := conOf envOk (x_cmp_isNaN_int64 N) trivial (show E.P.funcs[158]? = some Tryz.f158 from by kernel_rfl) (by kernel_rfl)
theorem k_cmp_Compare_int64 (N : Nat) : ConOk E ⟨112, ps_cmp_Compare_int64, rs_cmp_Compare_int64, cmp_Compare_int64 N⟩ := conOf envOk (x_cmp_Compare_int64 N) ⟨k_cmp_isNaN_int64 N, trivial⟩ (show E.P.funcs[112]? = some Tryz.f112 from by kernel_rfl) (by kernel_rfl)
theorem k_cmp_Or_int (N : Nat) : ConOk E ⟨111, ps_cmp_Or_int, rs_cmp_Or_int, cmp_Or_int N⟩ := conOf envOk (x_cmp_Or_int N) trivial (show E.P.funcs[111]? = some Tryz.f111 from by kernel_rfl) (by kernel_rfl)
theorem k_event_Less (N : Nat) : ConOk E ⟨79, ps_event_Less, rs_event_Less, event_Less N⟩ := conOf envOk (x_event_Less N) ⟨k_cmp_Compare_int64 N, k_cmp_Or_int N, trivial⟩ (show E.P.funcs[79]? = some Tryz.f79 from by kernel_rfl) (by kernel_rfl)
theorem k_event_Len (N : Nat) : ConOk E ⟨175, ps_event_Len, rs_event_Len, event_Len N⟩ := conOf envOk (x_event_Len N) ⟨k_event_lens N, trivial⟩ (show E.P.funcs[175]? = some Tryz.f175 from by kernel_rfl) (by kernel_rfl)
theorem k_document_anchored (N : Nat) : ConOk E ⟨128, ps_document_anchored, rs_document_anchored, document_anchored N⟩ := conOf envOk (x_document_anchored N) ⟨k_event_Len N, trivial⟩ (show E.P.funcs[128]? = some Tryz.f128 from by kernel_rfl) (by kernel_rfl)
theorem k_document_comments (N : Nat) : ConOk E ⟨80, ps_document_comments, rs_document_comments, document_comments N⟩ := conOf envOk (x_document_comments N) ⟨k_document_anchored N, k_lines_Name N, k_charset_Valid N, trivial⟩ (show E.P.funcs[80]? = some Tryz.f80 from by kernel_rfl) (by kernel_rfl)
theorem k_document_Check (N : Nat) : ConOk E ⟨32, ps_document_Check, rs_document_Check, document_Check N⟩ := conOf envOk (x_document_Check N) ⟨k_document_header N, k_region_CheckList N, k_event_Check N, k_event_Less N, k_document_comments N, trivial⟩ (show E.P.funcs[32]? = some Tryz.f32 from by kernel_rfl) (by kernel_rfl)
theorem k_timebase_Ticks (N : Nat) : ConOk E ⟨192, ps_timebase_Ticks, rs_timebase_Ticks, timebase_Ticks N⟩ := conOf envOk (x_timebase_Ticks N) ⟨k_timebase_of N, trivial⟩ (show E.P.funcs[192]? = some Tryz.f192 from by kernel_rfl) (by kernel_rfl)
theorem k_timebase_Time (N : Nat) : ConOk E ⟨187, ps_timebase_Time, rs_timebase_Time, timebase_Time N⟩ := conOf envOk (x_timebase_Time N) ⟨k_timebase_Valid N, k_timebase_Ticks N, trivial⟩ (show E.P.funcs[187]? = some Tryz.f187 from by kernel_rfl) (by kernel_rfl)
theorem k_ratio_known (N : Nat) : ConOk E ⟨206, ps_ratio_known, rs_ratio_known, ratio_known N⟩ := conOf envOk (x_ratio_known N) trivial (show E.P.funcs[206]? = some Tryz.f206 from by kernel_rfl) (by kernel_rfl)
theorem k_ratio_size (N : Nat) : ConOk E ⟨207, ps_ratio_size, rs_ratio_size, ratio_size N⟩ := conOf envOk (x_ratio_size N) trivial (show E.P.funcs[207]? = some Tryz.f207 from by kernel_rfl) (by kernel_rfl)
theorem k_ratio_away (N : Nat) : ConOk E ⟨208, ps_ratio_away, rs_ratio_away, ratio_away N⟩ := conOf envOk (x_ratio_away N) trivial (show E.P.funcs[208]? = some Tryz.f208 from by kernel_rfl) (by kernel_rfl)
theorem k_ratio_Quotient (N : Nat) : ConOk E ⟨188, ps_ratio_Quotient, rs_ratio_Quotient, ratio_Quotient N⟩ := conOf envOk (x_ratio_Quotient N) ⟨k_ratio_known N, k_ratio_size N, k_ratio_away N, trivial⟩ (show E.P.funcs[188]? = some Tryz.f188 from by kernel_rfl) (by kernel_rfl)
theorem k_timebase_Millis (N : Nat) : ConOk E ⟨151, ps_timebase_Millis, rs_timebase_Millis, timebase_Millis N⟩ := conOf envOk (x_timebase_Millis N) ⟨k_timebase_Time N, k_ratio_Quotient N, trivial⟩ (show E.P.funcs[151]? = some Tryz.f151 from by kernel_rfl) (by kernel_rfl)
theorem k_istrconv_small (N : Nat) : ConOk E ⟨202, ps_istrconv_small, rs_istrconv_small, istrconv_small N⟩ := conOf envOk (x_istrconv_small N) trivial (show E.P.funcs[202]? = some Tryz.f202 from by kernel_rfl) (by kernel_rfl)
theorem k_bits_Len64 (N : Nat) : ConOk E ⟨212, ps_bits_Len64, rs_bits_Len64, bits_Len64 N⟩ := conOf envOk (x_bits_Len64 N) trivial (show E.P.funcs[212]? = some Tryz.f212 from by kernel_rfl) (by kernel_rfl)
theorem k_istrconv_log10Pow2 (N : Nat) : ConOk E ⟨211, ps_istrconv_log10Pow2, rs_istrconv_log10Pow2, istrconv_log10Pow2 N⟩ := conOf envOk (x_istrconv_log10Pow2 N) trivial (show E.P.funcs[211]? = some Tryz.f211 from by kernel_rfl) (by kernel_rfl)
theorem k_istrconv_bool2_int (N : Nat) : ConOk E ⟨213, ps_istrconv_bool2_int, rs_istrconv_bool2_int, istrconv_bool2_int N⟩ := conOf envOk (x_istrconv_bool2_int N) trivial (show E.P.funcs[213]? = some Tryz.f213 from by kernel_rfl) (by kernel_rfl)
theorem k_istrconv_numDigits (N : Nat) : ConOk E ⟨203, ps_istrconv_numDigits, rs_istrconv_numDigits, istrconv_numDigits N⟩ := conOf envOk (x_istrconv_numDigits N) ⟨k_bits_Len64 N, k_istrconv_log10Pow2 N, k_istrconv_bool2_int N, trivial⟩ (show E.P.funcs[203]? = some Tryz.f203 from by kernel_rfl) (by kernel_rfl)
theorem k_istrconv_isPowerOfTwo (N : Nat) : ConOk E ⟨214, ps_istrconv_isPowerOfTwo, rs_istrconv_isPowerOfTwo, istrconv_isPowerOfTwo N⟩ := conOf envOk (x_istrconv_isPowerOfTwo N) trivial (show E.P.funcs[214]? = some Tryz.f214 from by kernel_rfl) (by kernel_rfl)
theorem k_bits_TrailingZeros32 (N : Nat) : ConOk E ⟨217, ps_bits_TrailingZeros32, rs_bits_TrailingZeros32, bits_TrailingZeros32 N⟩ := conOf envOk (x_bits_TrailingZeros32 N) trivial (show E.P.funcs[217]? = some Tryz.f217 from by kernel_rfl) (by kernel_rfl)
theorem k_bits_TrailingZeros64 (N : Nat) : ConOk E ⟨218, ps_bits_TrailingZeros64, rs_bits_TrailingZeros64, bits_TrailingZeros64 N⟩ := conOf envOk (x_bits_TrailingZeros64 N) trivial (show E.P.funcs[218]? = some Tryz.f218 from by kernel_rfl) (by kernel_rfl)
theorem k_bits_TrailingZeros (N : Nat) : ConOk E ⟨215, ps_bits_TrailingZeros, rs_bits_TrailingZeros, bits_TrailingZeros N⟩ := conOf envOk (x_bits_TrailingZeros N) ⟨k_bits_TrailingZeros32 N, k_bits_TrailingZeros64 N, trivial⟩ (show E.P.funcs[215]? = some Tryz.f215 from by kernel_rfl) (by kernel_rfl)
theorem k_istrconv_FormatInt (N : Nat) : ConOk E ⟨181, ps_istrconv_FormatInt, rs_istrconv_FormatInt, istrconv_FormatInt N⟩ := kh_istrconv_FormatInt N
theorem k_strconv_FormatInt (N : Nat) : ConOk E ⟨142, ps_strconv_FormatInt, rs_strconv_FormatInt, strconv_FormatInt N⟩ := conOf envOk (x_strconv_FormatInt N) ⟨k_istrconv_FormatInt N, trivial⟩ (show E.P.funcs[142]? = some Tryz.f142 from by kernel_rfl) (by kernel_rfl)
theorem k_lines_Decimal (N : Nat) : ConOk E ⟨88, ps_lines_Decimal, rs_lines_Decimal, lines_Decimal N⟩ := conOf envOk (x_lines_Decimal N) ⟨k_strconv_FormatInt N, trivial⟩ (show E.P.funcs[88]? = some Tryz.f88 from by kernel_rfl) (by kernel_rfl)
theorem k_subrip_digits (N : Nat) : ConOk E ⟨41, ps_subrip_digits, rs_subrip_digits, subrip_digits N⟩ := conOf envOk (x_subrip_digits N) ⟨k_lines_Decimal N, trivial⟩ (show E.P.funcs[41]? = some Tryz.f41 from by kernel_rfl) (by kernel_rfl)
theorem k_subrip_Clock (N : Nat) : ConOk E ⟨14, ps_subrip_Clock, rs_subrip_Clock, subrip_Clock N⟩ := conOf envOk (x_subrip_Clock N) ⟨k_subrip_digits N, trivial⟩ (show E.P.funcs[14]? = some Tryz.f14 from by kernel_rfl) (by kernel_rfl)
theorem k_strings_IndexByte (N : Nat) : ConOk E ⟨184, ps_strings_IndexByte, rs_strings_IndexByte, strings_IndexByte N⟩ := conOf envOk (x_strings_IndexByte N) ⟨k_stringslite_IndexByte N, trivial⟩ (show E.P.funcs[184]? = some Tryz.f184 from by kernel_rfl) (by kernel_rfl)
theorem k_utf8_ValidRune (N : Nat) : ConOk E ⟨185, ps_utf8_ValidRune, rs_utf8_ValidRune, utf8_ValidRune N⟩ := conOf envOk (x_utf8_ValidRune N) trivial (show E.P.funcs[185]? = some Tryz.f185 from by kernel_rfl) (by kernel_rfl)
theorem k_strings_IndexRune (N : Nat) : ConOk E ⟨145, ps_strings_IndexRune, rs_strings_IndexRune, strings_IndexRune N⟩ := conOf envOk (x_strings_IndexRune N) ⟨k_strings_IndexByte N, k_utf8_ValidRune N, k_bytealg_Cutover N, trivial⟩ (show E.P.funcs[145]? = some Tryz.f145 from by kernel_rfl) (by kernel_rfl)
theorem k_strings_shouldUseASCIISet (N : Nat) : ConOk E ⟨146, ps_strings_shouldUseASCIISet, rs_strings_shouldUseASCIISet, strings_shouldUseASCIISet N⟩ := conOf envOk (x_strings_shouldUseASCIISet N) trivial (show E.P.funcs[146]? = some Tryz.f146 from by kernel_rfl) (by kernel_rfl)
theorem k_strings_IndexAny_s (N : Nat) : ConOk E ⟨92, ps_strings_IndexAny, rs_strings_IndexAny, strings_IndexAny_s N⟩ := conOf envOk (x_strings_IndexAny N) ⟨k_strings_IndexRune N, k_strings_shouldUseASCIISet N, trivial⟩ (show E.P.funcs[92]? = some Tryz.f92 from by kernel_rfl) (by kernel_rfl)
theorem k_strings_IndexAny (N : Nat) : ConOk E ⟨92, ps_strings_IndexAny, rs_strings_IndexAny, strings_IndexAny N⟩ := con_or (ps := ps_strings_IndexAny) (rs := rs_strings_IndexAny) (b := longAny) (g1 := fun x : List UInt8 × List UInt8 => some (Lib.indexAny x.1 x.2)) (g2 := strings_IndexAny_s N) khl_IndexAny (k_strings_IndexAny_s N)
theorem k_strings_ContainsAny (N : Nat) : ConOk E ⟨47, ps_strings_ContainsAny, rs_strings_ContainsAny, strings_ContainsAny N⟩ := conOf envOk (x_strings_ContainsAny N) ⟨k_strings_IndexAny N, trivial⟩ (show E.P.funcs[47]? = some Tryz.f47 from by kernel_rfl) (by kernel_rfl)
theorem k_style_norm (N : Nat) : ConOk E ⟨58, ps_style_norm, rs_style_norm, style_norm N⟩ := conOf envOk (x_style_norm N) ⟨k_style_alike N, trivial⟩ (show E.P.funcs[58]? = some Tryz.f58 from by kernel_rfl) (by kernel_rfl)
theorem k_style_Norm (N : Nat) : ConOk E ⟨23, ps_style_Norm, rs_style_Norm, style_Norm N⟩ := conOf envOk (x_style_Norm N) ⟨k_style_norm N, trivial⟩ (show E.P.funcs[23]? = some Tryz.f23 from by kernel_rfl) (by kernel_rfl)
theorem k_subrip_carried (N : Nat) : ConOk E ⟨48, ps_subrip_carried, rs_subrip_carried, subrip_carried N⟩ := conOf envOk (x_subrip_carried N) ⟨k_style_Norm N, trivial⟩ (show E.P.funcs[48]? = some Tryz.f48 from by kernel_rfl) (by kernel_rfl)
theorem k_subrip_Markup (N : Nat) : ConOk E ⟨18, ps_subrip_Markup, rs_subrip_Markup, subrip_Markup N⟩ := conOf envOk (x_subrip_Markup N) ⟨k_style_Check N, k_style_Plain N, k_strings_ContainsAny N, k_subrip_carried N, k_strings_Builder_WriteString N, trivial⟩ (show E.P.funcs[18]? = some Tryz.f18 from by kernel_rfl) (by kernel_rfl)
theorem k_subrip_block (N : Nat) : ConOk E ⟨98, ps_subrip_block, rs_subrip_block, subrip_block N⟩ := conOf envOk (x_subrip_block N) ⟨k_timebase_Millis N, k_subrip_Clock N, k_lines_Decimal N, k_subrip_Markup N, trivial⟩ (show E.P.funcs[98]? = some Tryz.f98 from by kernel_rfl) (by kernel_rfl)
theorem k_strings_Builder_Len (N : Nat) : ConOk E ⟨99, ps_strings_Builder_Len, rs_strings_Builder_Len, strings_Builder_Len N⟩ := conOf envOk (x_strings_Builder_Len N) trivial (show E.P.funcs[99]? = some Tryz.f99 from by kernel_rfl) (by kernel_rfl)
theorem k_subrip_encode (N : Nat) : ConOk E ⟨59, ps_subrip_encode, rs_subrip_encode, subrip_encode N⟩ := conOf envOk (x_subrip_encode N) ⟨k_document_Check N, k_subrip_block N, k_strings_Builder_WriteString N, k_strings_Builder_Len N, trivial⟩ (show E.P.funcs[59]? = some Tryz.f59 from by kernel_rfl) (by kernel_rfl)
theorem k_subrip_Encode (N : Nat) : ConOk E ⟨25, ps_subrip_Encode, rs_subrip_Encode, subrip_Encode N⟩ := conOf envOk (x_subrip_Encode N) ⟨k_subrip_encode N, trivial⟩ (show E.P.funcs[25]? = some Tryz.f25 from by kernel_rfl) (by kernel_rfl)
theorem k_utf8_decodeRuneInStringSlow (N : Nat) : ConOk E ⟨141, ps_utf8_decodeRuneInStringSlow, rs_utf8_decodeRuneInStringSlow, utf8_decodeRuneInStringSlow N⟩ := conOf envOk (x_utf8_decodeRuneInStringSlow N) trivial (show E.P.funcs[141]? = some Tryz.f141 from by kernel_rfl) (by kernel_rfl)
theorem k_utf8_DecodeRuneInString (N : Nat) : ConOk E ⟨87, ps_utf8_DecodeRuneInString, rs_utf8_DecodeRuneInString, utf8_DecodeRuneInString N⟩ := conOf envOk (x_utf8_DecodeRuneInString N) ⟨k_utf8_decodeRuneInStringSlow N, trivial⟩ (show E.P.funcs[87]? = some Tryz.f87 from by kernel_rfl) (by kernel_rfl)
theorem k_strings_explode (N : Nat) : ConOk E ⟨133, ps_strings_explode, rs_strings_explode, strings_explode N⟩ := conOf envOk (x_strings_explode N) ⟨k_utf8_RuneCountInString N, k_utf8_DecodeRuneInString N, trivial⟩ (show E.P.funcs[133]? = some Tryz.f133 from by kernel_rfl) (by kernel_rfl)
theorem k_bytealg_CountString (N : Nat) : ConOk E ⟨139, ps_bytealg_CountString, rs_bytealg_CountString, bytealg_CountString N⟩ := kh_bytealg_CountString N
theorem k_strings_Count (N : Nat) : ConOk E ⟨85, ps_strings_Count, rs_strings_Count, strings_Count N⟩ := conOf envOk (x_strings_Count N) ⟨k_utf8_RuneCountInString N, k_bytealg_CountString N, k_strings_Index N, trivial⟩ (show E.P.funcs[85]? = some Tryz.f85 from by kernel_rfl) (by kernel_rfl)
theorem k_strings_genSplit (N : Nat) : ConOk E ⟨83, ps_strings_genSplit, rs_strings_genSplit, strings_genSplit N⟩ := conOf envOk (x_strings_genSplit N) ⟨k_strings_explode N, k_strings_Count N, k_strings_Index N, trivial⟩ (show E.P.funcs[83]? = some Tryz.f83 from by kernel_rfl) (by kernel_rfl)
theorem k_strings_Split (N : Nat) : ConOk E ⟨37, ps_strings_Split, rs_strings_Split, strings_Split N⟩ := conOf envOk (x_strings_Split N) ⟨k_strings_genSplit N, trivial⟩ (show E.P.funcs[37]? = some Tryz.f37 from by kernel_rfl) (by kernel_rfl)
theorem k_stringslite_HasSuffix (N : Nat) : ConOk E ⟨154, ps_stringslite_HasSuffix, rs_stringslite_HasSuffix, stringslite_HasSuffix N⟩ := conOf envOk (x_stringslite_HasSuffix N) trivial (show E.P.funcs[154]? = some Tryz.f154 from by kernel_rfl) (by kernel_rfl)
theorem k_stringslite_TrimSuffix (N : Nat) : ConOk E ⟨103, ps_stringslite_TrimSuffix, rs_stringslite_TrimSuffix, stringslite_TrimSuffix N⟩ := conOf envOk (x_stringslite_TrimSuffix N) ⟨k_stringslite_HasSuffix N, trivial⟩ (show E.P.funcs[103]? = some Tryz.f103 from by kernel_rfl) (by kernel_rfl)
theorem k_strings_TrimSuffix (N : Nat) : ConOk E ⟨63, ps_strings_TrimSuffix, rs_strings_TrimSuffix, strings_TrimSuffix N⟩ := conOf envOk (x_strings_TrimSuffix N) ⟨k_stringslite_TrimSuffix N, trivial⟩ (show E.P.funcs[63]? = some Tryz.f63 from by kernel_rfl) (by kernel_rfl)
theorem k_subrip_field (N : Nat) : ConOk E ⟨43, ps_subrip_field, rs_subrip_field, subrip_field N⟩ := conOf envOk (x_subrip_field N) trivial (show E.P.funcs[43]? = some Tryz.f43 from by kernel_rfl) (by kernel_rfl)
theorem k_subrip_number (N : Nat) : ConOk E ⟨104, ps_subrip_number, rs_subrip_number, subrip_number N⟩ := conOf envOk (x_subrip_number N) ⟨k_subrip_field N, trivial⟩ (show E.P.funcs[104]? = some Tryz.f104 from by kernel_rfl) (by kernel_rfl)
theorem k_subrip_reader_fail (N : Nat) : ConOk E ⟨105, ps_subrip_reader_fail, rs_subrip_reader_fail, subrip_reader_fail N⟩ := conOf envOk (x_subrip_reader_fail N) trivial (show E.P.funcs[105]? = some Tryz.f105 from by kernel_rfl) (by kernel_rfl)
theorem k_subrip_ParseClock (N : Nat) : ConOk E ⟨16, ps_subrip_ParseClock, rs_subrip_ParseClock, subrip_ParseClock N⟩ := conOf envOk (x_subrip_ParseClock N) ⟨k_subrip_field N, trivial⟩ (show E.P.funcs[16]? = some Tryz.f16 from by kernel_rfl) (by kernel_rfl)
theorem k_subrip_times (N : Nat) : ConOk E ⟨106, ps_subrip_times, rs_subrip_times, subrip_times N⟩ := conOf envOk (x_subrip_times N) ⟨k_subrip_ParseClock N, trivial⟩ (show E.P.funcs[106]? = some Tryz.f106 from by kernel_rfl) (by kernel_rfl)
theorem k_timebase_Frame (N : Nat) : ConOk E ⟨155, ps_timebase_Frame, rs_timebase_Frame, timebase_Frame N⟩ := conOf envOk (x_timebase_Frame N) ⟨k_timebase_Valid N, k_timebase_Ticks N, k_ratio_Quotient N, trivial⟩ (show E.P.funcs[155]? = some Tryz.f155 from by kernel_rfl) (by kernel_rfl)
theorem k_timebase_FromMillis (N : Nat) : ConOk E ⟨107, ps_timebase_FromMillis, rs_timebase_FromMillis, timebase_FromMillis N⟩ := conOf envOk (x_timebase_FromMillis N) ⟨k_timebase_Valid N, k_timebase_Frame N, trivial⟩ (show E.P.funcs[107]? = some Tryz.f107 from by kernel_rfl) (by kernel_rfl)
theorem k_subrip_ParseMarkup_1 (N : Nat) : ConOk E ⟨54, ps_subrip_ParseMarkup_1, rs_subrip_ParseMarkup_1, subrip_ParseMarkup_1 N⟩ := conOf envOk (x_subrip_ParseMarkup_1 N) trivial (show E.P.funcs[54]? = some Tryz.f54 from by kernel_rfl) (by kernel_rfl)
theorem k_stringslite_HasPrefix (N : Nat) : ConOk E ⟨96, ps_stringslite_HasPrefix, rs_stringslite_HasPrefix, stringslite_HasPrefix N⟩ := conOf envOk (x_stringslite_HasPrefix N) trivial (show E.P.funcs[96]? = some Tryz.f96 from by kernel_rfl) (by kernel_rfl)
theorem k_strings_HasPrefix (N : Nat) : ConOk E ⟨55, ps_strings_HasPrefix, rs_strings_HasPrefix, strings_HasPrefix N⟩ := conOf envOk (x_strings_HasPrefix N) ⟨k_stringslite_HasPrefix N, trivial⟩ (show E.P.funcs[55]? = some Tryz.f55 from by kernel_rfl) (by kernel_rfl)
theorem k_subrip_ParseMarkup (N : Nat) : ConOk E ⟨21, ps_subrip_ParseMarkup, rs_subrip_ParseMarkup, subrip_ParseMarkup N⟩ := conOf envOk (x_subrip_ParseMarkup N) ⟨k_subrip_ParseMarkup_1 N, k_strings_HasPrefix N, k_style_Norm N, trivial⟩ (show E.P.funcs[21]? = some Tryz.f21 from by kernel_rfl) (by kernel_rfl)
theorem k_subrip_reader_block (N : Nat) : ConOk E ⟨64, ps_subrip_reader_block, rs_subrip_reader_block, subrip_reader_block N⟩ := conOf envOk (x_subrip_reader_block N) ⟨k_subrip_number N, k_subrip_reader_fail N, k_subrip_times N, k_timebase_FromMillis N, k_subrip_ParseMarkup N, k_event_Check N, trivial⟩ (show E.P.funcs[64]? = some Tryz.f64 from by kernel_rfl) (by kernel_rfl)
theorem k_slices_Clone_Lapi_Row_api_Row (N : Nat) : ConOk E ⟨193, ps_slices_Clone_Lapi_Row_api_Row, rs_slices_Clone_Lapi_Row_api_Row, slices_Clone_Lapi_Row_api_Row N⟩ := conOf envOk (x_slices_Clone_Lapi_Row_api_Row N) trivial (show E.P.funcs[193]? = some Tryz.f193 from by kernel_rfl) (by kernel_rfl)
theorem k_slices_Clone_Lapi_Run_api_Run (N : Nat) : ConOk E ⟨194, ps_slices_Clone_Lapi_Run_api_Run, rs_slices_Clone_Lapi_Run_api_Run, slices_Clone_Lapi_Run_api_Run N⟩ := conOf envOk (x_slices_Clone_Lapi_Run_api_Run N) trivial (show E.P.funcs[194]? = some Tryz.f194 from by kernel_rfl) (by kernel_rfl)
theorem k_style_Clone (N : Nat) : ConOk E ⟨156, ps_style_Clone, rs_style_Clone, style_Clone N⟩ := conOf envOk (x_style_Clone N) ⟨k_slices_Clone_Lapi_Row_api_Row N, k_slices_Clone_Lapi_Run_api_Run N, trivial⟩ (show E.P.funcs[156]? = some Tryz.f156 from by kernel_rfl) (by kernel_rfl)
theorem k_event_Clone (N : Nat) : ConOk E ⟨108, ps_event_Clone, rs_event_Clone, event_Clone N⟩ := conOf envOk (x_event_Clone N) ⟨k_style_Clone N, trivial⟩ (show E.P.funcs[108]? = some Tryz.f108 from by kernel_rfl) (by kernel_rfl)
theorem k_document_Sort_1 (N : Nat) : ConOk E ⟨110, ps_document_Sort_1, rs_document_Sort_1, document_Sort_1 N⟩ := conOf envOk (x_document_Sort_1 N) ⟨k_cmp_Compare_int64 N, k_cmp_Or_int N, trivial⟩ (show E.P.funcs[110]? = some Tryz.f110 from by kernel_rfl) (by kernel_rfl)
theorem k_slices_insertionSortCmpFunc_api_Event (N : Nat) : ConOk E ⟨195, ps_slices_insertionSortCmpFunc_api_Event, rs_slices_insertionSortCmpFunc_api_Event, slices_insertionSortCmpFunc_api_Event N⟩ := conOf envOk (x_slices_insertionSortCmpFunc_api_Event N) ⟨k_document_Sort_1 N, trivial⟩ (show E.P.funcs[195]? = some Tryz.f195 from by kernel_rfl) (by kernel_rfl)
theorem k_slices_swapRangeCmpFunc_api_Event (N : Nat) : ConOk E ⟨216, ps_slices_swapRangeCmpFunc_api_Event, rs_slices_swapRangeCmpFunc_api_Event, slices_swapRangeCmpFunc_api_Event N⟩ := conOf envOk (x_slices_swapRangeCmpFunc_api_Event N) ⟨k_document_Sort_1 N, trivial⟩ (show E.P.funcs[216]? = some Tryz.f216 from by kernel_rfl) (by kernel_rfl)
theorem k_slices_rotateCmpFunc_api_Event (N : Nat) : ConOk E ⟨209, ps_slices_rotateCmpFunc_api_Event, rs_slices_rotateCmpFunc_api_Event, slices_rotateCmpFunc_api_Event N⟩ := conOf envOk (x_slices_rotateCmpFunc_api_Event N) ⟨k_document_Sort_1 N, k_slices_swapRangeCmpFunc_api_Event N, trivial⟩ (show E.P.funcs[209]? = some Tryz.f209 from by kernel_rfl) (by kernel_rfl)
theorem kr_slices_symMergeCmpFunc_api_Event (N : Nat) : ∀ D, ConOk E ⟨196, ps_slices_symMergeCmpFunc_api_Event, rs_slices_symMergeCmpFunc_api_Event, slices_symMergeCmpFunc_api_Event_r N D⟩
  | 0 => fun _ _ h => by cases h
  | D + 1 => by
    have hc : CallsOk E [⟨110, ps_document_Sort_1, rs_document_Sort_1, document_Sort_1 N⟩, ⟨209, ps_slices_rotateCmpFunc_api_Event, rs_slices_rotateCmpFunc_api_Event, slices_rotateCmpFunc_api_Event N⟩, ⟨196, ps_slices_symMergeCmpFunc_api_Event, rs_slices_symMergeCmpFunc_api_Event, slices_symMergeCmpFunc_api_Event_r N D⟩] := callsOk_all ⟨k_document_Sort_1 N, k_slices_rotateCmpFunc_api_Event N, kr_slices_symMergeCmpFunc_api_Event N D, trivial⟩
    rw [← x_slices_symMergeCmpFunc_api_Event N D]
    exact execF_ok envOk hc (drawn_ok envOk hc) (show E.P.funcs[196]? = some Tryz.f196 from by kernel_rfl) (by kernel_rfl) _ _ _
theorem k_slices_symMergeCmpFunc_api_Event (N : Nat) : ConOk E ⟨196, ps_slices_symMergeCmpFunc_api_Event, rs_slices_symMergeCmpFunc_api_Event, slices_symMergeCmpFunc_api_Event N⟩ := kr_slices_symMergeCmpFunc_api_Event N N
theorem k_slices_stableCmpFunc_api_Event (N : Nat) : ConOk E ⟨157, ps_slices_stableCmpFunc_api_Event, rs_slices_stableCmpFunc_api_Event, slices_stableCmpFunc_api_Event N⟩ := conOf envOk (x_slices_stableCmpFunc_api_Event N) ⟨k_document_Sort_1 N, k_slices_insertionSortCmpFunc_api_Event N, k_slices_symMergeCmpFunc_api_Event N, trivial⟩ (show E.P.funcs[157]? = some Tryz.f157 from by kernel_rfl) (by kernel_rfl)
theorem k_slices_SortStableFunc_Lapi_Event_api_Event (N : Nat) : ConOk E ⟨109, ps_slices_SortStableFunc_Lapi_Event_api_Event, rs_slices_SortStableFunc_Lapi_Event_api_Event, slices_SortStableFunc_Lapi_Event_api_Event N⟩ := conOf envOk (x_slices_SortStableFunc_Lapi_Event_api_Event N) ⟨k_document_Sort_1 N, k_slices_stableCmpFunc_api_Event N, trivial⟩ (show E.P.funcs[109]? = some Tryz.f109 from by kernel_rfl) (by kernel_rfl)
theorem k_document_Sort (N : Nat) : ConOk E ⟨65, ps_document_Sort, rs_document_Sort, document_Sort N⟩ := conOf envOk (x_document_Sort N) ⟨k_event_Clone N, k_slices_SortStableFunc_Lapi_Event_api_Event N, k_document_Sort_1 N, trivial⟩ (show E.P.funcs[65]? = some Tryz.f65 from by kernel_rfl) (by kernel_rfl)
theorem k_subrip_Decode (N : Nat) : ConOk E ⟨28, ps_subrip_Decode, rs_subrip_Decode, subrip_Decode N⟩ := conOf envOk (x_subrip_Decode N) ⟨k_timebase_Valid N, k_timebase_CanDrop N, k_strings_Split N, k_strings_TrimSuffix N, k_subrip_reader_block N, k_document_Sort N, trivial⟩ (show E.P.funcs[28]? = some Tryz.f28 from by kernel_rfl) (by kernel_rfl)
theorem k_slices_Equal_Lapi_Run_api_Run (N : Nat) : ConOk E ⟨53, ps_slices_Equal_Lapi_Run_api_Run, rs_slices_Equal_Lapi_Run_api_Run, slices_Equal_Lapi_Run_api_Run N⟩ := conOf envOk (x_slices_Equal_Lapi_Run_api_Run N) trivial (show E.P.funcs[53]? = some Tryz.f53 from by kernel_rfl) (by kernel_rfl)
theorem k_style_Same (N : Nat) : ConOk E ⟨20, ps_style_Same, rs_style_Same, style_Same N⟩ := conOf envOk (x_style_Same N) ⟨k_slices_Equal_Lapi_Run_api_Run N, trivial⟩ (show E.P.funcs[20]? = some Tryz.f20 from by kernel_rfl) (by kernel_rfl)
theorem k_l19_awake (N : Nat) : ConOk E ⟨13, ps_l19_awake, rs_l19_awake, l19_awake N⟩ := conOf envOk (x_l19_awake N) ⟨k_subrip_Encode N, k_subrip_Clock N, k_subrip_Decode N, k_style_Plain N, k_subrip_ParseMarkup N, k_style_Same N, trivial⟩ (show E.P.funcs[13]? = some Tryz.f13 from by kernel_rfl) (by kernel_rfl)
theorem k_l19_few (N : Nat) : ConOk E ⟨24, ps_l19_few, rs_l19_few, l19_few N⟩ := conOf envOk (x_l19_few N) trivial (show E.P.funcs[24]? = some Tryz.f24 from by kernel_rfl) (by kernel_rfl)
theorem k_subrip_Reduce (N : Nat) : ConOk E ⟨33, ps_subrip_Reduce, rs_subrip_Reduce, subrip_Reduce N⟩ := conOf envOk (x_subrip_Reduce N) ⟨k_document_Check N, k_subrip_carried N, trivial⟩ (show E.P.funcs[33]? = some Tryz.f33 from by kernel_rfl) (by kernel_rfl)
theorem k_document_Head (N : Nat) : ConOk E ⟨71, ps_document_Head, rs_document_Head, document_Head N⟩ := conOf envOk (x_document_Head N) trivial (show E.P.funcs[71]? = some Tryz.f71 from by kernel_rfl) (by kernel_rfl)
theorem k_slices_Equal_Lapi_Region_api_Region (N : Nat) : ConOk E ⟨72, ps_slices_Equal_Lapi_Region_api_Region, rs_slices_Equal_Lapi_Region_api_Region, slices_Equal_Lapi_Region_api_Region N⟩ := conOf envOk (x_slices_Equal_Lapi_Region_api_Region N) trivial (show E.P.funcs[72]? = some Tryz.f72 from by kernel_rfl) (by kernel_rfl)
theorem k_slices_EqualFunc_Lapi_Row_Lapi_Row_api_Row_api_Row (N : Nat) : ConOk E ⟨168, ps_slices_EqualFunc_Lapi_Row_Lapi_Row_api_Row_api_Row, rs_slices_EqualFunc_Lapi_Row_Lapi_Row_api_Row_api_Row, slices_EqualFunc_Lapi_Row_Lapi_Row_api_Row_api_Row N⟩ := conOf envOk (x_slices_EqualFunc_Lapi_Row_Lapi_Row_api_Row_api_Row N) ⟨k_style_Same N, trivial⟩ (show E.P.funcs[168]? = some Tryz.f168 from by kernel_rfl) (by kernel_rfl)
theorem k_style_SameRows (N : Nat) : ConOk E ⟨118, ps_style_SameRows, rs_style_SameRows, style_SameRows N⟩ := conOf envOk (x_style_SameRows N) ⟨k_slices_EqualFunc_Lapi_Row_Lapi_Row_api_Row_api_Row N, k_style_Same N, trivial⟩ (show E.P.funcs[118]? = some Tryz.f118 from by kernel_rfl) (by kernel_rfl)
theorem k_event_Same (N : Nat) : ConOk E ⟨74, ps_event_Same, rs_event_Same, event_Same N⟩ := conOf envOk (x_event_Same N) ⟨k_style_SameRows N, trivial⟩ (show E.P.funcs[74]? = some Tryz.f74 from by kernel_rfl) (by kernel_rfl)
theorem k_slices_EqualFunc_Lapi_Event_Lapi_Event_api_Event_api_Event (N : Nat) : ConOk E ⟨73, ps_slices_EqualFunc_Lapi_Event_Lapi_Event_api_Event_api_Event, rs_slices_EqualFunc_Lapi_Event_Lapi_Event_api_Event_api_Event, slices_EqualFunc_Lapi_Event_Lapi_Event_api_Event_api_Event N⟩ := conOf envOk (x_slices_EqualFunc_Lapi_Event_Lapi_Event_api_Event_api_Event N) ⟨k_event_Same N, trivial⟩ (show E.P.funcs[73]? = some Tryz.f73 from by kernel_rfl) (by kernel_rfl)
theorem k_slices_Equal_Lapi_Comment_api_Comment (N : Nat) : ConOk E ⟨75, ps_slices_Equal_Lapi_Comment_api_Comment, rs_slices_Equal_Lapi_Comment_api_Comment, slices_Equal_Lapi_Comment_api_Comment N⟩ := conOf envOk (x_slices_Equal_Lapi_Comment_api_Comment N) trivial (show E.P.funcs[75]? = some Tryz.f75 from by kernel_rfl) (by kernel_rfl)
theorem k_document_Same (N : Nat) : ConOk E ⟨30, ps_document_Same, rs_document_Same, document_Same N⟩ := conOf envOk (x_document_Same N) ⟨k_document_Head N, k_slices_Equal_Lapi_Region_api_Region N, k_slices_EqualFunc_Lapi_Event_Lapi_Event_api_Event_api_Event N, k_event_Same N, k_slices_Equal_Lapi_Comment_api_Comment N, trivial⟩ (show E.P.funcs[30]? = some Tryz.f30 from by kernel_rfl) (by kernel_rfl)
theorem k_l19_SubripReduced (N : Nat) : ConOk E ⟨10, ps_l19_SubripReduced, rs_l19_SubripReduced, l19_SubripReduced N⟩ := conOf envOk (x_l19_SubripReduced N) ⟨k_l19_awake N, k_l19_few N, k_subrip_Reduce N, k_document_Check N, k_document_Same N, trivial⟩ (show E.P.funcs[10]? = some Tryz.f10 from by kernel_rfl) (by kernel_rfl)
end
end Go.Mo
end

section
/-
  Plain facts of earlier chapters, put together by a program.
-/
set_option linter.all false
section
/-
  Plain facts on the words of models; what is made of bytes.
-/
namespace Go.Mo
open Go Go.W

theorem grd_t {α : Type} {b : Bool} {k : Option α} (h : b = true) : grd b k = k := by subst h; rfl
theorem cnd_t {α : Type} {b : Bool} {x y : Option α} (h : b = true) : cnd b x y = x := by subst h; rfl
theorem cnd_f {α : Type} {b : Bool} {x y : Option α} (h : b = false) : cnd b x y = y := by subst h; rfl
theorem bnd_s {α β : Type} {x : Option α} {a : α} {k : α → Option β} (h : x = some a) : bnd x k = k a := by subst h; rfl
theorem jn_e {F α : Type} {k : F} {t : F → Option α} : jn k t = t k := rfl
theorem fixN_s {V R : Type} {F : (V → Option R) → V → Option R} {n : Nat} {v : V} : fixN F (n + 1) v = F (fixN F n) v := rfl
theorem w64_id {x : Int} (h : -9223372036854775808 ≤ x ∧ x ≤ 9223372036854775807) : w64 x = x := by
  show IntKind.wrap .i64 x = x
  unfold IntKind.wrap
  simp only [IntKind.bits, IntKind.signed, Bool.true_and, decide_eq_true_eq, show (2 : Int) ^ 64 = 18446744073709551616 from rfl, show (2 : Int) ^ (64 - 1) = 9223372036854775808 from rfl]
  split <;> omega
theorem ilt_t {a b : Int} (h : a < b) : ilt a b = true := decide_eq_true h
theorem ilt_f {a b : Int} (h : ¬ a < b) : ilt a b = false := decide_eq_false h
theorem ile_t {a b : Int} (h : a ≤ b) : ile a b = true := decide_eq_true h
theorem ile_f {a b : Int} (h : ¬ a ≤ b) : ile a b = false := decide_eq_false h
theorem ieq_t {a b : Int} (h : a = b) : ieq a b = true := by subst h; simp [ieq]
theorem ieq_f {a b : Int} (h : a ≠ b) : ieq a b = false := by simp [ieq, h]
theorem ine_t {a b : Int} (h : a ≠ b) : ine a b = true := by simp [ine, h]
theorem ine_f {a b : Int} (h : a = b) : ine a b = false := by simp [ine, h]
theorem inb_t {i n : Int} (h : 0 ≤ i ∧ i < n) : inb i n = true := decide_eq_true h
theorem in2_t {i n : Int} (h : 0 ≤ i ∧ i ≤ n) : in2 i n = true := decide_eq_true h
theorem room_t {n : Int} {b : Nat} (h : n * b ≤ 140737488355328) : room n b = true := decide_eq_true h
theorem n8_inj {a b : UInt8} (h : n8 a = n8 b) : a = b := by
  unfold n8 at h
  apply UInt8.toNat_inj.1
  omega
end Go.Mo
end

section
/-
  Plain facts: rates, labels, the repertoire of characters.
-/
namespace Go.Mo
open Go Go.W
set_option maxRecDepth 100000

theorem all_u8 {P : UInt8 → Bool} (h : ((List.range 256).all fun n => P (UInt8.ofNat n)) = true) (x : UInt8) : P x = true := by
  have h1 : x.toNat < 256 := x.toNat_lt
  have := List.all_eq_true.1 h x.toNat (List.mem_range.2 h1)
  simpa using this
end Go.Mo
end

section
/-
  Plain facts: the repertoire of characters.
-/
namespace Go.Mo
open Go Go.W
set_option maxRecDepth 100000
/-- some number: the kernel does not know which -/
noncomputable def fuelM : Nat := Classical.choose (⟨7995000, rfl⟩ : ∃ n : Nat, n = 7995000)
noncomputable def fuelH : Nat := fuelM + 5000
theorem fuelH_eq : fuelH = 8000000 := by
  have h : fuelM = 7995000 := Classical.choose_spec (⟨7995000, rfl⟩ : ∃ n : Nat, n = 7995000)
  unfold fuelH
  rw [h]
/-- the characters behind ASCII -/
def hiRunes : List Int := [161, 162, 163, 164, 165, 166, 167, 169, 171, 174, 176, 183, 187, 189, 191, 192, 193, 194, 195, 196, 197, 198, 199, 200, 201, 202, 203, 204, 205, 206, 207, 209, 210, 211, 212, 213, 214, 216, 217, 218, 219, 220, 223, 224, 225, 226, 227, 228, 229, 230, 231, 232, 233, 234, 235, 236, 237, 238, 239, 241, 242, 243, 244, 245, 246, 248, 249, 250, 251, 252, 338, 339, 8212, 8216, 8217, 8220, 8221, 8226, 8230, 8482, 9834]
def loRunes : List Int := (List.range 95).map fun n => ((n + 32 : Nat) : Int)
def chain : List Int → Int → Int → Option Int
  | [], _, _ => some (-1)
  | c :: l, i, r => cnd (ieq c r) (some i) (chain l (iadd i 1) r)
def rep : List UInt8 := [32, 33, 34, 35, 36, 37, 38, 39, 40, 41, 42, 43, 44, 45, 46, 47, 48, 49, 50, 51, 52, 53, 54, 55, 56, 57, 58, 59, 60, 61, 62, 63, 64, 65, 66, 67, 68, 69, 70, 71, 72, 73, 74, 75, 76, 77, 78, 79, 80, 81, 82, 83, 84, 85, 86, 87, 88, 89, 90, 91, 92, 93, 94, 95, 96, 97, 98, 99, 100, 101, 102, 103, 104, 105, 106, 107, 108, 109, 110, 111, 112, 113, 114, 115, 116, 117, 118, 119, 120, 121, 122, 123, 124, 125, 126, 194, 161, 194, 162, 194, 163, 194, 164, 194, 165, 194, 166, 194, 167, 194, 169, 194, 171, 194, 174, 194, 176, 194, 183, 194, 187, 194, 189, 194, 191, 195, 128, 195, 129, 195, 130, 195, 131, 195, 132, 195, 133, 195, 134, 195, 135, 195, 136, 195, 137, 195, 138, 195, 139, 195, 140, 195, 141, 195, 142, 195, 143, 195, 145, 195, 146, 195, 147, 195, 148, 195, 149, 195, 150, 195, 152, 195, 153, 195, 154, 195, 155, 195, 156, 195, 159, 195, 160, 195, 161, 195, 162, 195, 163, 195, 164, 195, 165, 195, 166, 195, 167, 195, 168, 195, 169, 195, 170, 195, 171, 195, 172, 195, 173, 195, 174, 195, 175, 195, 177, 195, 178, 195, 179, 195, 180, 195, 181, 195, 182, 195, 184, 195, 185, 195, 186, 195, 187, 195, 188, 197, 146, 197, 147, 226, 128, 148, 226, 128, 152, 226, 128, 153, 226, 128, 156, 226, 128, 157, 226, 128, 162, 226, 128, 166, 226, 132, 162, 226, 153, 170]
theorem place_eqN (N : Nat) (r : Int) : charset_place (N + 300) (rep, r) = chain (loRunes ++ hiRunes) 0 r := by kernel_rfl
theorem place_eq (r : Int) : charset_place fuelH (rep, r) = chain (loRunes ++ hiRunes) 0 r := place_eqN (fuelM + 4700) r
theorem ch_indexN (N : Nat) (r : Int) : charset_Index N r = cnd (ile 32 r) (cnd (ile r 126) (some (w64 (wr .i32 (isub r 32)))) (bnd (charset_place N (rep, r)) fun v => some v)) (bnd (charset_place N (rep, r)) fun v => some v) := by kernel_rfl
theorem ch_index (r : Int) : charset_Index fuelH r = cnd (ile 32 r) (cnd (ile r 126) (some (w64 (wr .i32 (isub r 32)))) (bnd (charset_place fuelH (rep, r)) fun v => some v)) (bnd (charset_place fuelH (rep, r)) fun v => some v) := ch_indexN fuelH r
theorem chain_ok : ∀ (l : List Int) (i r : Int), 0 ≤ i → ∃ k, chain l i r = some k ∧ (k < 0 ↔ l.contains r = false)
  | [], i, r, _ => ⟨-1, rfl, by simp⟩
  | c :: l, i, r, h => by
    by_cases hc : c = r
    · exact ⟨i, by simp only [chain]; rw [cnd_t (ieq_t hc)], by subst hc; simp; omega⟩
    · obtain ⟨k, h1, h2⟩ := chain_ok l (iadd i 1) r (by show 0 ≤ i + 1; omega)
      refine ⟨k, by simp only [chain]; rw [cnd_f (ieq_f hc)]; exact h1, ?_⟩
      rw [h2]
      simp only [List.contains_cons, Bool.or_eq_false_iff]
      exact ⟨fun h => ⟨by simpa using fun e => hc e.symm, h⟩, fun h => h.2⟩
def inRep (r : Int) : Bool := (decide (32 ≤ r) && decide (r ≤ 126)) || hiRunes.contains r
theorem wi32_id {x : Int} (h : 0 ≤ x ∧ x < 1000) : wr .i32 x = x := by
  show IntKind.wrap .i32 x = x
  unfold IntKind.wrap
  simp only [IntKind.bits, IntKind.signed, Bool.true_and, decide_eq_true_eq, show (2 : Int) ^ 32 = 4294967296 from rfl, show (2 : Int) ^ (32 - 1) = 2147483648 from rfl]
  split <;> omega
theorem lo_mem (r : Int) : loRunes.contains r = (decide (32 ≤ r) && decide (r ≤ 126)) := by
  rw [Bool.eq_iff_iff]
  simp only [loRunes, List.contains_iff_mem, List.mem_map, List.mem_range, Bool.and_eq_true, decide_eq_true_eq]
  constructor
  · rintro ⟨n, hn, rfl⟩; omega
  · intro h; exact ⟨(r - 32).toNat, by omega, by omega⟩
theorem index_stl (r : Int) : ∃ i, charset_Index fuelH r = some i ∧ (i < 0 ↔ inRep r = false) := by
  rw [ch_index, place_eq]
  obtain ⟨k, h1, h2⟩ := chain_ok (loRunes ++ hiRunes) 0 r (Int.le_refl _)
  have hin : (loRunes ++ hiRunes).contains r = inRep r := by
    unfold inRep
    rw [← lo_mem]
    simp [List.contains_eq_mem, List.mem_append]
  rw [hin] at h2
  by_cases ha : 32 ≤ r
  · rw [cnd_t (ile_t ha)]
    by_cases hb : r ≤ 126
    · rw [cnd_t (ile_t hb)]
      refine ⟨_, rfl, ?_⟩
      have : w64 (wr .i32 (isub r 32)) = r - 32 := by
        simp only [isub]
        rw [wi32_id (by omega), w64_id (by omega)]
      rw [this]
      simp [inRep, ha, hb]
    · rw [cnd_f (ile_f hb)]
      exact ⟨k, by rw [bnd_s h1], h2⟩
  · rw [cnd_f (ile_f ha)]
    exact ⟨k, by rw [bnd_s h1], h2⟩
end Go.Mo
end

section
/-
  Plain facts: texts of the repertoire.
-/
namespace Go.Mo
open Go Go.W Go.Lib
set_option maxRecDepth 100000

theorem dec_pos (l : List UInt8) : 1 ≤ (decodeL l).2 := by
  unfold decodeL Utf8.decode
  simp only
  repeat' split
  all_goals first | exact Nat.le_refl _ | (show 1 ≤ _; omega)
theorem decR_eq (s : List UInt8) (p : Nat) : decR s p = ((decodeL (s.drop p)).1 : Int) := by
  have := decodeL_drop (bst s) p
  have e : (bst s).data.toList = s := rfl
  rw [e] at this
  unfold decR
  rw [this]
theorem decW_eq (s : List UInt8) (p : Nat) : decW s p = (decodeL (s.drop p)).2 := by
  have := decodeL_drop (bst s) p
  have e : (bst s).data.toList = s := rfl
  rw [e] at this
  unfold decW
  rw [this]

def rok : Nat → List UInt8 → Bool
  | 0, _ => true
  | n + 1, l => if l = [] then true else if inRep ((decodeL l).1 : Int) = true then rok n (l.drop (decodeL l).2) else false
/-- characters of the repertoire alone -/
def vld (l : List UInt8) : Bool := rok l.length l
theorem rok_nil : ∀ n, rok n [] = true
  | 0 => rfl
  | n + 1 => by simp [rok]
theorem rok_fuel : ∀ (n m : Nat) (l : List UInt8), l.length ≤ n → l.length ≤ m → rok n l = rok m l
  | 0, m, l, h, _ => by
    have : l = [] := List.eq_nil_of_length_eq_zero (by omega)
    subst this
    rw [rok_nil, rok_nil]
  | n + 1, 0, l, _, h => by
    have : l = [] := List.eq_nil_of_length_eq_zero (by omega)
    subst this
    rw [rok_nil, rok_nil]
  | n + 1, m + 1, l, h1, h2 => by
    by_cases hl : l = []
    · subst hl; rw [rok_nil, rok_nil]
    · have hp := dec_pos l
      have hlen : 0 < l.length := List.length_pos_iff.2 hl
      simp only [rok, hl, if_false]
      split
      · exact rok_fuel n m _ (by simp; omega) (by simp; omega)
      · rfl
theorem vld_step (l : List UInt8) (hl : l ≠ []) : vld l = if inRep ((decodeL l).1 : Int) = true then vld (l.drop (decodeL l).2) else false := by
  have hp := dec_pos l
  have hlen : 0 < l.length := List.length_pos_iff.2 hl
  unfold vld
  obtain ⟨n, hn⟩ : ∃ n, l.length = n + 1 := ⟨l.length - 1, by omega⟩
  rw [hn]
  simp only [rok, hl, if_false]
  split
  · exact rok_fuel _ _ _ (by simp; omega) (Nat.le_refl _)
  · rfl
theorem vld_valid : ∀ (n : Nat) (l : List UInt8), l.length ≤ n → vld l = true → validD l = true
  | n, l, h, hv => by
    by_cases hl : l = []
    · subst hl; rfl
    · have hlen : 0 < l.length := List.length_pos_iff.2 hl
      have hp := dec_pos l
      rw [vld_step l hl] at hv
      split at hv
      · rename_i hr
        rw [validD_step l hl, if_neg ?_]
        · cases n with
          | zero => omega
          | succ n => exact vld_valid n _ (by simp; omega) hv
        · rintro ⟨e, _⟩
          rw [e] at hr
          exact absurd hr (by decide)
      · cases hv

theorem valid_loop {s : List UInt8} (hs : s.length ≤ 100000000) (Ix : Int → Option Int) (hI : ∀ r : Int, ∃ i, Ix r = some i ∧ (i < 0 ↔ inRep r = false)) : ∀ (fuel p : Nat), s.length - p < fuel → p ≤ s.length →
    fixN (fun v2 (v3 : (List UInt8) × Int) =>
    cnd (nlt (toN v3.2) (nlen v3.1))
      (bnd (Ix (decR v3.1 (toN v3.2))) fun v4 =>
      cnd (ilt v4 (0 : Int))
        (some false)
        (v2 (v3.1, ofN (nadd (toN v3.2) (decW v3.1 (toN v3.2))))))
      (some true)) fuel (s, ofN p) = some (vld (s.drop p))
  | 0, p, h, _ => by omega
  | fuel + 1, p, h, hp => by
    rw [fixN_s]
    have et : toN (ofN p) = p := by simp [toN, ofN]
    simp only [et]
    by_cases hl : p < s.length
    · have hne : s.drop p ≠ [] := by intro e; have := congrArg List.length e; simp at this; omega
      have hw := dec_pos (s.drop p)
      have hle := decodeL_le (s.drop p) hne
      rw [List.length_drop] at hle
      rw [cnd_t (show nlt p (nlen s) = true from decide_eq_true hl)]
      obtain ⟨i, h1, h2⟩ := hI (decR s p)
      rw [bnd_s h1]
      rw [vld_step _ hne, ← decR_eq]
      by_cases hi : i < 0
      · rw [cnd_t (ilt_t hi), if_neg (by rw [h2.1 hi]; decide)]
      · rw [cnd_f (ilt_f hi)]
        have hin : inRep (decR s p) = true := by
          cases hq : inRep (decR s p) with
          | true => rfl
          | false => exact absurd (h2.2 hq) hi
        rw [if_pos hin, decW_eq, List.drop_drop]
        show fixN _ fuel (s, ofN (p + (decodeL (s.drop p)).2)) = _
        exact valid_loop hs Ix hI fuel _ (by omega) (by omega)
    · rw [cnd_f (show nlt p (nlen s) = false from decide_eq_false hl)]
      have : s.drop p = [] := by simp; omega
      rw [this]
      rfl
theorem ch_valid (s : List UInt8) (hs : s.length ≤ 4000000) : charset_Valid fuelH s = some (vld s) := by
  unfold charset_Valid
  have hv : utf8_ValidString fuelH s = some (validD s) := by
    show grd (catOk (len s)) (some (validD s)) = _
    exact grd_t (decide_eq_true (by simp only [len]; omega))
  rw [bnd_s hv]
  simp only [jn_e]
  cases hd : validD s with
  | false =>
    rw [cnd_t (show bnot false = true from rfl)]
    cases hq : vld s with
    | false => rfl
    | true => rw [vld_valid _ s (Nat.le_refl _) hq] at hd; cases hd
  | true =>
    rw [cnd_f (show bnot true = false from rfl)]
    have := valid_loop (s := s) (by omega) (charset_Index fuelH) (fun r => by obtain ⟨i, h2, h3⟩ := index_stl r; exact ⟨i, h2, h3⟩) fuelH 0 (by have := fuelH_eq; omega) (Nat.zero_le _)
    simpa using this
end Go.Mo
end

section
/-
  Plain facts: names; the check of a header.
-/
namespace Go.Mo
open Go Go.W Go.Lib
set_option maxRecDepth 100000

theorem cnd_dec {α : Type} {p : Prop} [Decidable p] {x y : Option α} : cnd (decide p) x y = if p then x else y := by
  by_cases h : p
  · rw [cnd_t (decide_eq_true h), if_pos h]
  · rw [cnd_f (decide_eq_false h), if_neg h]
theorem cnd_ilt {α : Type} {a b : Int} {x y : Option α} : cnd (ilt a b) x y = if a < b then x else y := cnd_dec
theorem cnd_ile {α : Type} {a b : Int} {x y : Option α} : cnd (ile a b) x y = if a ≤ b then x else y := cnd_dec
theorem cnd_ieq {α : Type} {a b : Int} {x y : Option α} : cnd (ieq a b) x y = if a = b then x else y := by
  by_cases h : a = b
  · rw [cnd_t (ieq_t h), if_pos h]
  · rw [cnd_f (ieq_f h), if_neg h]
theorem cnd_ine {α : Type} {a b : Int} {x y : Option α} : cnd (ine a b) x y = if a ≠ b then x else y := by
  by_cases h : a = b
  · rw [cnd_f (ine_f h), if_neg (by simp [h])]
  · rw [cnd_t (ine_t h), if_pos h]
/-- may stand in a name -/
def okc (c : Int) : Bool := decide ((65 ≤ c ∧ c ≤ 90) ∨ (48 ≤ c ∧ c ≤ 57) ∨ c = 95 ∨ c = 45)
theorem nm_body (c : Int) (X : Option Bool) :
    (cnd (ilt c (n8 (65 : UInt8)))
                    (cnd (ilt c (n8 (48 : UInt8)))
                      (cnd (ine c (n8 (95 : UInt8)))
                        (cnd (ine c (n8 (45 : UInt8)))
                          (some false)
                          X)
                        X)
                      (cnd (ilt (n8 (57 : UInt8)) c)
                        (cnd (ine c (n8 (95 : UInt8)))
                          (cnd (ine c (n8 (45 : UInt8)))
                            (some false)
                            X)
                          X)
                        X))
                    (cnd (ilt (n8 (90 : UInt8)) c)
                      (cnd (ilt c (n8 (48 : UInt8)))
                        (cnd (ine c (n8 (95 : UInt8)))
                          (cnd (ine c (n8 (45 : UInt8)))
                            (some false)
                            X)
                          X)
                        (cnd (ilt (n8 (57 : UInt8)) c)
                          (cnd (ine c (n8 (95 : UInt8)))
                            (cnd (ine c (n8 (45 : UInt8)))
                              (some false)
                              X)
                            X)
                          X))
                      X)) = cnd (okc c) X (some false) := by
  have e1 : n8 (65 : UInt8) = 65 := rfl
  have e2 : n8 (48 : UInt8) = 48 := rfl
  have e3 : n8 (95 : UInt8) = 95 := rfl
  have e4 : n8 (45 : UInt8) = 45 := rfl
  have e5 : n8 (57 : UInt8) = 57 := rfl
  have e6 : n8 (90 : UInt8) = 90 := rfl
  rw [e1, e2, e3, e4, e5, e6]
  simp only [cnd_ilt, cnd_ine, okc, cnd_dec]
  repeat' split
  all_goals first | rfl | (exfalso; omega)
def upc (c : Int) : Bool := decide (65 ≤ c ∧ c ≤ 90)
/-- a name -/
def nm (s : List UInt8) : Bool := decide (1 ≤ s.length ∧ s.length ≤ 16) && upc (n8 (s.getD 0 0)) && s.all fun c => okc (n8 c)
theorem all_step {s : List UInt8} {i : Nat} (h : i < s.length) (P : UInt8 → Bool) : (s.drop i).all P = (P s[i] && (s.drop (i + 1)).all P) := by
  rw [List.drop_eq_getElem_cons h, List.all_cons]
theorem nm_loop {s : List UInt8} (hs : s.length ≤ 16) : ∀ (fuel i : Nat), s.length - i < fuel → i ≤ s.length →
    fixN (fun v2 (v3 : Int) =>
                cnd (ilt v3 (len s))
                  (grd (inb v3 (len s)) (cnd (okc (n8 (lget s (toN v3) (0 : UInt8)))) (v2 (w64 (iadd v3 (1 : Int)))) (some false)))
                  (some true)) fuel (i : Int) = some ((s.drop i).all fun c => okc (n8 c))
  | 0, i, h, _ => by omega
  | fuel + 1, i, h, hi => by
    rw [fixN_s]
    by_cases hl : i < s.length
    · have g : lget s (toN (i : Int)) 0 = s[i] := by simp [lget, toN, hl]
      rw [cnd_t (ilt_t (by simp only [len]; omega)), grd_t (inb_t (by simp only [len]; omega)), g, all_step hl]
      have hw : w64 (iadd (i : Int) 1) = ((i + 1 : Nat) : Int) := by
        simp only [iadd]; rw [w64_id (by omega)]; omega
      rw [hw, nm_loop hs fuel (i + 1) (by omega) (by omega)]
      cases okc (n8 s[i]) <;> rfl
    · rw [cnd_f (ilt_f (by simp only [len]; omega))]
      have : s.drop i = [] := by simp; omega
      rw [this]
      rfl
theorem lines_name (s : List UInt8) : lines_Name fuelH s = some (nm s) := by
  unfold lines_Name
  simp only [jn_e, nm_body]
  by_cases h1 : s.length < 1
  · rw [cnd_t (ilt_t (by simp only [len]; omega))]
    simp [nm]; omega
  · rw [cnd_f (ilt_f (by simp only [len]; omega))]
    by_cases h2 : 16 < s.length
    · rw [cnd_t (ilt_t (by simp only [len]; omega))]
      simp [nm]; omega
    · rw [cnd_f (ilt_f (by simp only [len]; omega)), grd_t (inb_t (by simp only [len]; omega))]
      have e0 : lget s (toN 0) 0 = s.getD 0 0 := rfl
      have e1 : n8 (65 : UInt8) = 65 := rfl
      have e2 : n8 (90 : UInt8) = 90 := rfl
      rw [e0, e1, e2, cnd_ilt]
      have hd : decide (1 ≤ s.length ∧ s.length ≤ 16) = true := decide_eq_true (by omega)
      split
      · rename_i h3
        have : upc (n8 (s.getD 0 0)) = false := decide_eq_false (by omega)
        simp only [nm, this, Bool.and_false, Bool.false_and]
      · rw [grd_t (inb_t (by simp only [len]; omega)), cnd_ilt]
        split
        · rename_i h4
          have : upc (n8 (s.getD 0 0)) = false := decide_eq_false (by omega)
          simp only [nm, this, Bool.and_false, Bool.false_and]
        · have hu : upc (n8 (s.getD 0 0)) = true := decide_eq_true (by omega)
          have := nm_loop (s := s) (by omega) fuelH 0 (by have := fuelH_eq; omega) (Nat.zero_le _)
          simp only [nm, hu, hd, Bool.true_and]
          simpa using this
end Go.Mo
end

section
/-
  Plain facts: the check of a header.
-/
namespace Go.Mo
open Go Go.W Go.Lib
set_option maxRecDepth 100000
abbrev Lbl := Int × Int × Int × Int × Bool
abbrev Hdr := UInt8 × (List UInt8) × (List UInt8) × Int × Int × Lbl × Lbl × Int × Int
theorem cnd_bnot {α : Type} {p : Prop} [Decidable p] {x y : Option α} : cnd (bnot (decide p)) x y = if p then y else x := by
  by_cases hp : p <;> simp [hp, bnot, cnd]
theorem bnd_some' {α β : Type} {a : α} {k : α → Option β} : bnd (some a) k = k a := rfl
end Go.Mo
end

section
/-
  Plain facts: the characters of a text, and the text of characters.
-/
namespace Go.Mo
open Go Go.W Go.Lib
set_option maxRecDepth 100000

def rnsF : Nat → List UInt8 → List Int
  | 0, _ => []
  | n + 1, l => if l = [] then [] else ((decodeL l).1 : Int) :: rnsF n (l.drop (decodeL l).2)
/-- the characters of a text -/
def rns (l : List UInt8) : List Int := rnsF l.length l
/-- the text of characters -/
def ofR (l : List Int) : List UInt8 := l.flatMap enc
theorem rnsF_nil : ∀ n, rnsF n [] = []
  | 0 => rfl
  | n + 1 => by simp [rnsF]
theorem rnsF_fuel : ∀ (n m : Nat) (l : List UInt8), l.length ≤ n → l.length ≤ m → rnsF n l = rnsF m l
  | 0, m, l, h, _ => by
    have : l = [] := List.eq_nil_of_length_eq_zero (by omega)
    subst this
    rw [rnsF_nil, rnsF_nil]
  | n + 1, 0, l, _, h => by
    have : l = [] := List.eq_nil_of_length_eq_zero (by omega)
    subst this
    rw [rnsF_nil, rnsF_nil]
  | n + 1, m + 1, l, h1, h2 => by
    by_cases hl : l = []
    · subst hl; rw [rnsF_nil, rnsF_nil]
    · have hp := dec_pos l
      have hlen : 0 < l.length := List.length_pos_iff.2 hl
      simp only [rnsF, hl, if_false]
      rw [rnsF_fuel n m _ (by simp; omega) (by simp; omega)]
theorem rns_step (l : List UInt8) (hl : l ≠ []) : rns l = ((decodeL l).1 : Int) :: rns (l.drop (decodeL l).2) := by
  have hp := dec_pos l
  have hlen : 0 < l.length := List.length_pos_iff.2 hl
  unfold rns
  obtain ⟨n, hn⟩ : ∃ n, l.length = n + 1 := ⟨l.length - 1, by omega⟩
  rw [hn]
  simp only [rnsF, hl, if_false]
  rw [rnsF_fuel n _ _ (by simp; omega) (Nat.le_refl _)]
theorem rep_mem {r : Int} (h : inRep r = true) : r ∈ loRunes ++ hiRunes := by
  unfold inRep at h
  rw [← lo_mem, Bool.or_eq_true] at h
  rw [List.mem_append]
  rcases h with h | h
  · exact .inl (List.contains_iff_mem.1 h)
  · exact .inr (List.contains_iff_mem.1 h)
theorem all_rep {P : Int → Bool} (h : ((loRunes ++ hiRunes).all P) = true) {r : Int} (hr : inRep r = true) : P r = true :=
  List.all_eq_true.1 h r (rep_mem hr)
theorem enc_rep {r : Int} (hr : inRep r = true) : enc r = encodeRune r :=
  of_decide_eq_true (all_rep (P := fun r => decide (enc r = encodeRune r)) (by kernel_rfl) hr)
theorem enc_dec (l : List UInt8) (hl : l ≠ []) (hr : inRep ((decodeL l).1 : Int) = true) : enc ((decodeL l).1 : Int) = l.take (decodeL l).2 := by
  rw [enc_rep hr]
  refine encode_decode l hl ?_
  rintro ⟨e, _⟩
  rw [e] at hr
  exact absurd hr (by decide)
theorem rns_rep : ∀ (n : Nat) (l : List UInt8), l.length ≤ n → vld l = true → (rns l).all inRep = true ∧ ofR (rns l) = l
  | n, l, h, hv => by
    by_cases hl : l = []
    · subst hl; exact ⟨rfl, rfl⟩
    · have hlen : 0 < l.length := List.length_pos_iff.2 hl
      have hp := dec_pos l
      rw [vld_step l hl] at hv
      split at hv
      · rename_i hr
        cases n with
        | zero => omega
        | succ n =>
          obtain ⟨h1, h2⟩ := rns_rep n _ (by simp; omega) hv
          rw [rns_step l hl]
          refine ⟨by rw [List.all_cons, hr, h1]; rfl, ?_⟩
          unfold ofR at h2 ⊢
          rw [List.flatMap_cons, h2, enc_dec l hl hr, List.take_append_drop]
      · cases hv
theorem rns_ok {l : List UInt8} (h : vld l = true) : (rns l).all inRep = true := (rns_rep _ l (Nat.le_refl _) h).1
theorem ofR_rns {l : List UInt8} (h : vld l = true) : ofR (rns l) = l := (rns_rep _ l (Nat.le_refl _) h).2
theorem rns_len : ∀ (n : Nat) (l : List UInt8), l.length ≤ n → (rns l).length ≤ l.length
  | n, l, h => by
    by_cases hl : l = []
    · subst hl; exact Nat.le_refl _
    · have hlen : 0 < l.length := List.length_pos_iff.2 hl
      have hp := dec_pos l
      rw [rns_step l hl]
      cases n with
      | zero => omega
      | succ n =>
        have := rns_len n (l.drop (decodeL l).2) (by simp; omega)
        simp at this ⊢
        omega

def foldR {σ R : Type} (g : Int → σ → (σ → Option R) → Option R) (e : σ → Option R) : List Int → σ → Option R
  | [], a => e a
  | r :: l, a => g r a fun a' => foldR g e l a'
/-- a loop over the characters of a text -/
theorem str_loop {V R σ : Type} {F : (V → Option R) → V → Option R} {s : List UInt8} (st : σ → Nat → V) (g : Int → σ → (σ → Option R) → Option R) (e : σ → Option R)
    (hstep : ∀ self a p, p < s.length → F self (st a p) = g (decR s p) a fun a' => self (st a' (p + decW s p)))
    (hend : ∀ self a p, s.length ≤ p → F self (st a p) = e a) : ∀ (fuel p : Nat) (a : σ), s.length - p < fuel → fixN F fuel (st a p) = foldR g e (rns (s.drop p)) a
  | 0, p, a, h => by omega
  | fuel + 1, p, a, h => by
    rw [fixN_s]
    by_cases hp : p < s.length
    · have hne : s.drop p ≠ [] := by intro e; have := congrArg List.length e; simp at this; omega
      have hw := dec_pos (s.drop p)
      rw [hstep _ _ _ hp, rns_step _ hne, ← decR_eq, foldR, List.drop_drop, ← decW_eq]
      congr 1
      funext a'
      rw [decW_eq]
      have := str_loop st g e hstep hend fuel (p + (decodeL (s.drop p)).2) a' (by omega)
      exact this
    · rw [hend _ _ _ (by omega)]
      have : s.drop p = [] := by simp; omega
      rw [this]
      rfl
def foldI {α σ R : Type} (g : Nat → α → σ → (σ → Option R) → Option R) (e : σ → Option R) : Nat → List α → σ → Option R
  | _, [], a => e a
  | i, x :: l, a => g i x a fun a' => foldI g e (i + 1) l a'
/-- a loop over the elements of a list -/
theorem lst_loop {V R σ α : Type} {F : (V → Option R) → V → Option R} {l : List α} (st : σ → Nat → V) (g : Nat → α → σ → (σ → Option R) → Option R) (e : σ → Option R)
    (hstep : ∀ self a i (h : i < l.length), F self (st a i) = g i l[i] a fun a' => self (st a' (i + 1)))
    (hend : ∀ self a, F self (st a l.length) = e a) : ∀ (fuel i : Nat) (a : σ), i ≤ l.length → l.length - i < fuel → fixN F fuel (st a i) = foldI g e i (l.drop i) a
  | 0, i, a, _, h => by omega
  | fuel + 1, i, a, hi, h => by
    rw [fixN_s]
    by_cases hl : i < l.length
    · rw [hstep _ _ _ hl, List.drop_eq_getElem_cons hl, foldI]
      congr 1
      funext a'
      exact lst_loop st g e hstep hend fuel (i + 1) a' (by omega) (by omega)
    · obtain rfl : i = l.length := by omega
      rw [hend, List.drop_length]
      rfl
theorem w64_succ {i n : Nat} (h : i < n) (hn : n ≤ 9223372036854775807) : w64 (iadd (i : Int) 1) = ((i + 1 : Nat) : Int) := by
  simp only [iadd]; rw [w64_id (by omega)]; omega
theorem lget_i {α : Type} {l : List α} {i : Nat} {d : α} (h : i < l.length) : lget l (toN (i : Int)) d = l[i] := by simp [lget, toN, h]
theorem nlt_t {a b : Nat} (h : a < b) : nlt a b = true := decide_eq_true h
theorem nlt_f {a b : Nat} (h : ¬ a < b) : nlt a b = false := decide_eq_false h
theorem toN_ofN (n : Nat) : toN (ofN n) = n := by simp [toN, ofN]
end Go.Mo
end

section
/-
  Plain facts: the characters of the tape form.
-/
namespace Go.Mo
open Go Go.W Go.Lib
set_option maxRecDepth 100000

def ixE (r : Int) : Option Int := cnd (ile 32 r) (cnd (ile r 126) (some (w64 (wr .i32 (isub r 32)))) (chain (loRunes ++ hiRunes) 0 r)) (chain (loRunes ++ hiRunes) 0 r)
def ix (r : Int) : Int := (ixE r).getD 0
/-- the letter of a letter with a diacritic -/
def basT : List Int := [33, 99, 76, 36, 89, 124, 83, 67, 34, 82, 111, 46, 34, 50, 63, 65, 65, 65, 65, 65, 65, 65, 67, 69, 69, 69, 69, 73, 73, 73, 73, 78, 79, 79, 79, 79, 79, 79, 85, 85, 85, 85, 115, 97, 97, 97, 97, 97, 97, 97, 99, 101, 101, 101, 101, 105, 105, 105, 105, 110, 111, 111, 111, 111, 111, 111, 117, 117, 117, 117, 79, 111, 45, 39, 39, 34, 34, 46, 46, 84, 35]
def bas (r : Int) : Int := if r < 127 then r else basT.getD ((ix r).toNat - 95) 0
/-- the bytes of diacritics, and their letters -/
def accs : List (UInt8 × List UInt8 × List Int) := [(193, [195, 128, 195, 136, 195, 140, 195, 146, 195, 153], [192, 200, 204, 210, 217]), (194, [195, 129, 195, 137, 195, 141, 195, 147, 195, 154], [193, 201, 205, 211, 218]), (195, [195, 130, 195, 138, 195, 142, 195, 148, 195, 155], [194, 202, 206, 212, 219]), (196, [195, 131, 195, 145, 195, 149], [195, 209, 213]), (197, [], []), (198, [], []), (199, [], []), (200, [195, 132, 195, 139, 195, 143, 195, 150, 195, 156], [196, 203, 207, 214, 220]), (201, [], []), (202, [195, 133], [197]), (203, [195, 135], [199])]
def sgs : List (Int × UInt8) := [(161, 161), (162, 162), (163, 163), (164, 164), (165, 165), (166, 166), (167, 167), (169, 168), (8216, 169), (8220, 170), (171, 171), (174, 172), (8212, 173), (8226, 174), (8230, 175), (176, 176), (8482, 180), (183, 183), (8217, 185), (8221, 186), (187, 187), (189, 189), (191, 191), (9834, 213), (198, 225), (216, 233), (338, 234), (230, 241), (248, 249), (339, 250), (223, 251)]
end Go.Mo
end

section
/-
  Plain facts: texts in the characters of the tape form.
-/
namespace Go.Mo
open Go Go.W Go.Lib
set_option maxRecDepth 100000

end Go.Mo
end

section
/-
  Small plain facts: bytes, lengths, equality of texts.
-/
namespace Go.Mo
open Go Go.W Go.Lib
set_option maxRecDepth 100000
noncomputable section
theorem seq_dec (x y : List UInt8) : seq x y = decide (x = y) := by
  unfold seq
  by_cases h : x = y
  · subst h; simp
  · rw [decide_eq_false h]
    simpa using h
end
end Go.Mo
end

section
/-
  Plain facts: characters of the tape form read back.
-/
namespace Go.Mo
open Go Go.W Go.Lib
set_option maxRecDepth 100000
noncomputable section

/-- the small letter -/
def low (r : Int) : Int := if (65 ≤ r ∧ r ≤ 90) ∨ (192 ≤ r ∧ r < 223) then r + 32 else if r = 338 then 339 else r
def accR (a : UInt8) : List Int := match accs.find? fun x => x.1 == a with
  | some x => x.2.2
  | none => []
def acG : List Int → UInt8 → Option (Int × Int)
  | [], _ => some (0, 0)
  | r :: l, b => cnd (ieq (bas r) (n8 b)) (some (r, (2 : Int))) (cnd (ieq (bas (low r)) (n8 b)) (some (low r, (2 : Int))) (acG l b))
def sgF (a : UInt8) : Option (Int × UInt8) := sgs.find? fun x => n8 x.2 == n8 a
end
end Go.Mo
end

section
/-
  Plain facts: rates, names, on both sides.
-/
namespace Go.Mo
open Go Go.W Go.Lib
set_option maxRecDepth 100000
noncomputable section
end
end Go.Mo
end

section
/-
  Plain facts: rows of text, their check, their normal form.
-/
namespace Go.Mo
open Go Go.W Go.Lib
set_option maxRecDepth 100000
abbrev Sty := UInt8 × Bool × Bool
abbrev Run := List UInt8 × Sty × List UInt8
abbrev Row := List Run

theorem cnd_ite {α : Type} {b : Bool} {x y : Option α} : cnd b x y = if b = true then x else y := by cases b <;> rfl
theorem bnot_t {b : Bool} : (bnot b = true) = (b = false) := by cases b <;> simp [bnot]
theorem seq_t {a b : List UInt8} : (seq a b = true) = (a = b) := by rw [seq_dec]; simp
theorem ieq_tt {a b : Int} : (ieq a b = true) = (a = b) := by simp [ieq]
theorem ilt_tt {a b : Int} : (ilt a b = true) = (a < b) := by simp [ilt]
theorem beqb_t {a b : Bool} : (beqb a b = true) = (a = b) := by simp [beqb]
theorem band_tt {a b : Bool} : (band a b = true) = (a = true ∧ b = true) := by simp [band]
theorem n8_eq {a b : UInt8} : (n8 a = n8 b) = (a = b) := propext ⟨n8_inj, fun h => by rw [h]⟩
theorem w64_pred {i : Nat} (h : 0 < i) (hn : i ≤ 9223372036854775807) : w64 (isub (i : Int) 1) = ((i - 1 : Nat) : Int) := by
  simp only [isub]; rw [w64_id (by omega)]; omega
theorem w64_back {i : Nat} (hn : i < 9223372036854775807) : w64 (isub ((i + 1 : Nat) : Int) 1) = (i : Int) := by
  rw [w64_pred (Nat.succ_pos i) (by omega)]; rfl
theorem sty_eq {a b : Sty} : (a = b) = (a.1 = b.1 ∧ a.2.1 = b.2.1 ∧ a.2.2 = b.2.2) := by
  obtain ⟨a1, a2, a3⟩ := a; obtain ⟨b1, b2, b3⟩ := b; simp

def alikeP (a b : Run) : Prop := a.2.1 = b.2.1 ∧ a.2.2 = [] ∧ b.2.2 = []
instance (a b : Run) : Decidable (alikeP a b) := by unfold alikeP; infer_instance
/-- a run that follows another one -/
def runChk (p : Option Run) (x : Run) : Int :=
  if vld x.1 = false then 10 else if x.1 = [] then 4 else if ¬ n8 x.2.1.1 ≤ 6 then 12 else if vld x.2.2 = false then 10 else match p with
    | none => 0
    | some p => if alikeP p x then 8 else 0
def chkL : Option Run → List Run → Int
  | _, [] => 0
  | p, x :: r => if runChk p x ≠ 0 then runChk p x else chkL (some x) r
def rowChk (l : Row) : Int := if 16 < l.length then 9 else chkL none l
def shortR (l : Row) : Prop := ∀ x ∈ l, x.1.length ≤ 4000000 ∧ x.2.2.length ≤ 4000000
/-- the element ahead -/
def before {α : Type} (l : List α) : Nat → Option α
  | 0 => none
  | i + 1 => l[i]?
theorem foldI_chk (l : Row) : ∀ (r : List Run) (i : Nat), l.drop i = r → i ≤ l.length → foldI (fun i (x : Run) (_ : Unit) self => if runChk (before l i) x ≠ 0 then some (runChk (before l i) x) else self ()) (fun _ => some (0 : Int)) i r () = some (chkL (before l i) r)
  | [], i, _, _ => rfl
  | x :: r, i, h, hi => by
    have hx : l[i]? = some x := by rw [← List.head?_drop, h]; rfl
    have hr : l.drop (i + 1) = r := by rw [← List.drop_drop, h]; rfl
    have hl : i < l.length := (List.getElem?_eq_some_iff.1 hx).1
    simp only [foldI, chkL]
    rw [foldI_chk l r (i + 1) hr (by omega)]
    have e : before l (i + 1) = some x := hx
    rw [e]
    by_cases hc : runChk (before l i) x ≠ 0
    · rw [if_pos hc, if_pos hc]
    · rw [if_neg hc, if_neg hc]
theorem style_alike_eq (N : Nat) (a b : Run) : style_alike N (a, b) = some (decide (alikeP a b)) := by
  unfold style_alike
  simp only [cnd_ite, band_tt, ieq_tt, beqb_t, n8_eq, seq_dec, decide_eq_true_eq]
  by_cases h1 : a.2.1.1 = b.2.1.1 ∧ a.2.1.2.1 = b.2.1.2.1 ∧ a.2.1.2.2 = b.2.1.2.2
  · rw [if_pos h1]
    have : a.2.1 = b.2.1 := by rw [sty_eq]; exact h1
    by_cases h2 : a.2.2 = []
    · rw [if_pos h2]; simp [alikeP, this, h2]
    · rw [if_neg h2]; simp [alikeP, h2]
  · rw [if_neg h1]
    have : ¬ a.2.1 = b.2.1 := by rw [sty_eq]; exact h1
    simp [alikeP, this]
theorem style_check {l : Row} (hl : shortR l) : style_Check fuelH l = some (rowChk l) := by
  unfold style_Check
  by_cases h : 16 < l.length
  · rw [cnd_t (ilt_t (by simp only [len]; omega))]; simp [rowChk, h]
  · rw [cnd_f (ilt_f (by simp only [len]; omega)), jn_e]
    refine Eq.trans (lst_loop (l := l) (fun (_ : Unit) (p : Nat) => (p : Int)) (fun i (x : Run) (_ : Unit) self => if runChk (before l i) x ≠ 0 then some (runChk (before l i) x) else self ()) (fun _ => some (0 : Int)) (fun self a i hi => ?_) (fun self a => ?_) fuelH 0 () (Nat.zero_le _) (by have := fuelH_eq; omega)) ?_
    · rw [cnd_t (ilt_t (by simp only [len]; omega)), grd_t (inb_t (by simp only [len]; omega)), lget_i hi]
      obtain ⟨b1, b2⟩ := hl l[i] (List.getElem_mem hi)
      rw [bnd_s (ch_valid _ b1), bnd_s (show style_Valid fuelH l[i].2.1 = some (ile (n8 l[i].2.1.1) 6) from rfl), bnd_s (ch_valid _ b2)]
      simp only [cnd_ite, bnot_t, seq_t, ile, decide_eq_false_iff_not]
      rw [w64_succ hi (by omega)]
      cases i with
      | zero =>
        have e0 : before l 0 = none := rfl
        rw [e0, if_neg (show ¬ ilt (0 : Int) ((0 : Nat) : Int) = true by decide)]
        simp only [runChk]
        repeat' split
        all_goals first | rfl | (exfalso; omega) | simp_all
      | succ i =>
        have e0 : before l (i + 1) = some l[i] := by simp only [before]; exact List.getElem?_eq_getElem (by omega)
        rw [e0, if_pos (show ilt (0 : Int) ((i + 1 : Nat) : Int) = true from ilt_t (by omega)), w64_back (by omega), grd_t (inb_t (by simp only [len]; omega)), lget_i (show i < l.length by omega), bnd_s (style_alike_eq _ _ _)]
        simp only [runChk, decide_eq_true_eq]
        repeat' split
        all_goals first | rfl | (exfalso; omega) | simp_all
    · rw [cnd_f (ilt_f (by simp only [len]; omega))]
    · rw [List.drop_zero, foldI_chk l l 0 rfl (Nat.zero_le _)]
      simp [rowChk, h, before]
end Go.Mo
end

section
/-
  Plain facts: loops with an invariant; the normal form of a row.
-/
namespace Go.Mo
open Go Go.W Go.Lib
set_option maxRecDepth 100000

def itI {α σ R : Type} (f : Nat → α → σ → Option R ⊕ σ) (e : σ → Option R) : Nat → List α → σ → Option R
  | _, [], a => e a
  | i, x :: l, a => match f i x a with
    | .inl r => r
    | .inr a' => itI f e (i + 1) l a'
/-- one round: it ends with r, or goes on -/
def Rnd {V R σ : Type} (X : Option R) (self : V → Option R) (next : σ → V) (I : σ → Prop) : Option R ⊕ σ → Prop
  | .inl r => X = r
  | .inr a => X = self (next a) ∧ I a
theorem lst_it {V R σ α : Type} {F : (V → Option R) → V → Option R} {l : List α} (st : σ → Nat → V) (f : Nat → α → σ → Option R ⊕ σ) (e : σ → Option R) (I : Nat → σ → Prop)
    (hstep : ∀ self a i (h : i < l.length), I i a → Rnd (F self (st a i)) self (fun a => st a (i + 1)) (I (i + 1)) (f i l[i] a))
    (hend : ∀ self a, I l.length a → F self (st a l.length) = e a) : ∀ (fuel i : Nat) (a : σ), i ≤ l.length → l.length - i < fuel → I i a → fixN F fuel (st a i) = itI f e i (l.drop i) a
  | 0, i, a, _, h, _ => by omega
  | fuel + 1, i, a, hi, h, hI => by
    rw [fixN_s]
    by_cases hl : i < l.length
    · rw [List.drop_eq_getElem_cons hl, itI]
      have hs := hstep (fixN F fuel) a i hl hI
      cases hf : f i l[i] a with
      | inl r => rw [hf] at hs; exact hs
      | inr a' =>
        rw [hf] at hs
        rw [hs.1]
        exact lst_it st f e I hstep hend fuel (i + 1) a' (by omega) (by omega) hs.2
    · obtain rfl : i = l.length := by omega
      rw [hend _ _ hI, List.drop_length]
      rfl
theorem itI_fold {α σ R : Type} (f : α → σ → σ) (e : σ → Option R) : ∀ (i : Nat) (l : List α) (a : σ), itI (fun _ x a => .inr (f x a)) e i l a = e (l.foldl (fun a x => f x a) a)
  | _, [], _ => rfl
  | i, x :: l, a => by simp only [itI, List.foldl_cons]; exact itI_fold f e (i + 1) l (f x a)

def snoc (out : Row) (x : Run) : Row :=
  if x.1 = [] then out else match out.getLast? with
    | some p => if alikeP p x then out.dropLast ++ [(p.1 ++ x.1, p.2)] else out ++ [x]
    | none => out ++ [x]
def normR (l : Row) : Row := l.foldl snoc []
/-- the letters of a row -/
def tot : Row → Nat
  | [] => 0
  | x :: r => x.1.length + tot r
theorem tot_app (a b : Row) : tot (a ++ b) = tot a + tot b := by
  induction a with
  | nil => simp [tot]
  | cons x a ih => simp only [List.cons_append, tot, ih]; omega
theorem last_eq {l : Row} {p : Run} (h : l.getLast? = some p) : l = l.dropLast ++ [p] := by
  cases l with
  | nil => cases h
  | cons x l =>
    rw [List.getLast?_eq_some_getLast (List.cons_ne_nil x l)] at h
    injection h with h
    rw [← h]
    exact (List.dropLast_concat_getLast (List.cons_ne_nil x l)).symm
theorem snoc_tot (out : Row) (x : Run) : tot (snoc out x) = tot out + x.1.length := by
  unfold snoc
  split
  · rename_i h; rw [h]; rfl
  · split
    · rename_i p hp
      split
      · have := congrArg tot (last_eq hp)
        rw [tot_app] at this
        rw [tot_app]
        simp only [tot, List.length_append, Nat.add_zero] at this ⊢
        omega
      · rw [tot_app]; simp [tot]
    · rw [tot_app]; simp [tot]
theorem snoc_len (out : Row) (x : Run) : (snoc out x).length ≤ out.length + 1 := by
  unfold snoc
  split
  · omega
  · split
    · split
      · simp only [List.length_append, List.length_dropLast, List.length_singleton]; omega
      · simp
    · simp
theorem lget_last {out : Row} {p : Run} (h : out.getLast? = some p) (hb : out.length ≤ 100000000) (d : Run) : 0 < out.length ∧ w64 (isub (len out) 1) = ((out.length - 1 : Nat) : Int) ∧ lget out (toN (w64 (isub (len out) 1))) d = p := by
  have hl : 0 < out.length := by
    cases out with
    | nil => cases h
    | cons x l => simp
  have hw : w64 (isub (len out) 1) = ((out.length - 1 : Nat) : Int) := w64_pred hl (by omega)
  refine ⟨hl, hw, ?_⟩
  rw [hw, lget_i (show out.length - 1 < out.length by omega)]
  rw [List.getLast?_eq_getElem?, List.getElem?_eq_getElem (by omega)] at h
  injection h
theorem lset_last {out : Row} {p : Run} (h : out.getLast? = some p) (y : Run) : lset out (out.length - 1) y = out.dropLast ++ [y] := by
  have e := last_eq h
  have hl : out.length - 1 = out.dropLast.length := by simp
  rw [hl]
  conv => lhs; rw [e]
  unfold lset
  rw [List.set_append_right _ _ (by simp)]
  simp
theorem last_tot {out : Row} {p : Run} (h : out.getLast? = some p) : p.1.length ≤ tot out := by
  have := congrArg tot (last_eq h)
  rw [tot_app] at this
  simp only [tot, Nat.add_zero] at this
  omega
theorem tot_mem {l : Row} {x : Run} (h : x ∈ l) : x.1.length ≤ tot l := by
  induction l with
  | nil => cases h
  | cons y l ih =>
    simp only [tot]
    rcases List.mem_cons.1 h with rfl | h
    · omega
    · have := ih h; omega
def NI (l : Row) (i : Nat) (out : Row) : Prop := out.length ≤ i ∧ tot out + tot (l.drop i) = tot l
theorem NI_step {l : Row} {i : Nat} (h : i < l.length) {out : Row} (hI : NI l i out) : NI l (i + 1) (snoc out l[i]) := by
  refine ⟨Nat.le_trans (snoc_len _ _) (Nat.succ_le_succ hI.1), ?_⟩
  have := hI.2
  rw [List.drop_eq_getElem_cons h] at this
  rw [snoc_tot]
  simp only [tot] at this
  omega
theorem style_norm_eq {l : Row} (hl : l.length ≤ 4000000) (ht : tot l ≤ 8000000) : style_norm fuelH l = some (normR l) := by
  unfold style_norm
  rw [jn_e]
  refine Eq.trans (lst_it (l := l) (fun (a : Row) (p : Nat) => ((p : Int), a)) (fun _ x a => .inr (snoc a x)) (fun a => some a) (NI l) (fun self a i hi hI => ?_) (fun self a _ => ?_) fuelH 0 [] (Nat.zero_le _) (by have := fuelH_eq; omega) ⟨Nat.le_refl _, by simp [tot]⟩) ?_
  · refine ⟨?_, NI_step hi hI⟩
    have hI1 := hI.1
    have hb : tot a ≤ 8000000 := by have := hI.2; omega
    have hx : l[i].1.length ≤ 8000000 := Nat.le_trans (tot_mem (List.getElem_mem hi)) ht
    simp only
    rw [cnd_t (ilt_t (by simp only [len]; omega)), grd_t (inb_t (by simp only [len]; omega)), lget_i hi, w64_succ hi (by omega)]
    have hroom : room (iadd (len a) (len ([l[i]] : Row))) 40 = true := room_t (by simp only [iadd, len, List.length_singleton]; omega)
    rw [grd_t hroom]
    simp only [cnd_ite, seq_t]
    by_cases he : l[i].1 = []
    · rw [if_pos he]; simp only [snoc, he, if_true]
    · rw [if_neg he]
      cases hla : a.getLast? with
      | none =>
        have ha : a = [] := List.getLast?_eq_none_iff.1 hla
        subst ha
        rw [if_neg (show ¬ ilt (0 : Int) (len ([] : Row)) = true by decide)]
        simp only [snoc, if_neg he, hla]
        rfl
      | some p =>
        obtain ⟨q1, q2, q3⟩ := lget_last hla (by omega) ([], (((0 : UInt8), (false, false)), []))
        have hin : inb (w64 (isub (len a) 1)) (len a) = true := by rw [q2]; exact inb_t (by simp only [len]; omega)
        have hp := last_tot hla
        rw [if_pos (show ilt (0 : Int) (len a) = true from ilt_t (by simp only [len]; omega)), grd_t hin, q3, bnd_s (style_alike_eq _ _ _), grd_t hin, grd_t (show catOk (iadd (len p.1) (len l[i].1)) = true from decide_eq_true (by simp only [iadd, len]; omega)), grd_t hin, q2]
        simp only [decide_eq_true_eq, snoc, if_neg he, hla]
        by_cases hk : alikeP p l[i]
        · rw [if_pos hk, if_pos hk]
          have : toN ((a.length - 1 : Nat) : Int) = a.length - 1 := by simp [toN]
          rw [this, lset_last hla]
          rfl
        · rw [if_neg hk, if_neg hk]; rfl
  · simp only
    rw [cnd_f (ilt_f (by simp only [len]; omega))]
  · rw [List.drop_zero, itI_fold]
    rfl
theorem style_Norm_eq {l : Row} (hl : l.length ≤ 4000000) (ht : tot l ≤ 8000000) : style_Norm fuelH l = some (normR l) := by
  unfold style_Norm
  rw [bnd_s (style_norm_eq hl ht)]
end Go.Mo
end

section
/-
  Plain facts: the bytes of rows.
-/
namespace Go.Mo
open Go Go.W Go.Lib
set_option maxRecDepth 100000
noncomputable section

theorem chkL_ok : ∀ (l : List Run) (p : Option Run), chkL p l = 0 → ∀ x ∈ l, vld x.1 = true ∧ x.1 ≠ [] ∧ n8 x.2.1.1 ≤ 6 ∧ vld x.2.2 = true
  | [], _, _, x, hx => by cases hx
  | y :: l, p, h, x, hx => by
    simp only [chkL] at h
    split at h
    · rename_i hc; exact absurd h hc
    · rename_i hc
      rcases List.mem_cons.1 hx with rfl | hx
      · have hc : runChk p x = 0 := by simpa using hc
        unfold runChk at hc
        split at hc
        · cases hc
        · split at hc
          · cases hc
          · split at hc
            · cases hc
            · split at hc
              · cases hc
              · rename_i h1 h2 h3 h4
                exact ⟨by simpa using h1, h2, by omega, by simpa using h4⟩
      · exact chkL_ok l _ h x hx
theorem rowChk_ok {l : Row} (h : rowChk l = 0) : l.length ≤ 16 ∧ ∀ x ∈ l, vld x.1 = true ∧ x.1 ≠ [] ∧ n8 x.2.1.1 ≤ 6 ∧ vld x.2.2 = true := by
  unfold rowChk at h
  split at h
  · cases h
  · exact ⟨by omega, chkL_ok l _ h⟩

def cost : Row → Nat
  | [] => 0
  | x :: r => 3 + x.1.length + cost r
theorem cost_eq (l : Row) : cost l = 3 * l.length + tot l := by
  induction l with
  | nil => rfl
  | cons x l ih => simp only [cost, tot, List.length_cons, ih]; omega
def shortL (l : List Row) : Prop := ∀ r ∈ l, shortR r
end
end Go.Mo
end

section
/-
  Plain facts: rows that are read from bytes, on both sides.
-/
namespace Go.Mo
open Go Go.W Go.Lib
set_option maxRecDepth 100000
noncomputable section

def g1 (a : UInt8) : Option Int := if 32 ≤ n8 a ∧ n8 a < 127 then some (n8 a) else (sgF a).map (·.1)
def g2 (a b : UInt8) : Int × Int := (acG (accR a) b).getD (0, 0)
end
end Go.Mo
end

section
/-
  Plain facts: rows that are read by the reference; equality of rows; StlTexts returns true.
-/
namespace Go.Mo
open Go Go.W Go.Lib
set_option maxRecDepth 100000
noncomputable section

theorem run_eq {a b : Run} : (a = b) = (a.1 = b.1 ∧ a.2.1 = b.2.1 ∧ a.2.2 = b.2.2) := by
  obtain ⟨a1, a2, a3⟩ := a; obtain ⟨b1, b2, b3⟩ := b; simp
/-- a loop that compares -/
theorem same_fold {α : Type} : ∀ (l m : List α) [DecidableEq α], l.length = m.length → ∀ i, itI (fun i (x : α) (_ : Unit) => if some x = m[i]? then (.inr () : Option Bool ⊕ Unit) else .inl (some false)) (fun _ => some true) i (l.drop i) () = some (decide (l.drop i = m.drop i)) := by
  intro l m _ hl i
  generalize hr : l.drop i = r
  induction r generalizing i with
  | nil =>
    have h1 : l.length ≤ i := by have := congrArg List.length hr; simp at this; omega
    have : m.drop i = [] := by rw [List.drop_eq_nil_iff]; omega
    rw [this]; simp [itI]
  | cons x r ih =>
    have hx : l[i]? = some x := by rw [← List.head?_drop, hr]; rfl
    have hi := (List.getElem?_eq_some_iff.1 hx).1
    have hr' : l.drop (i + 1) = r := by rw [← List.drop_drop, hr]; rfl
    have hm : m.drop i = m[i] :: m.drop (i + 1) := List.drop_eq_getElem_cons (by omega)
    rw [hm]
    simp only [itI]
    by_cases h : some x = m[i]?
    · rw [if_pos h]
      simp only
      rw [ih (i + 1) hr']
      rw [List.getElem?_eq_getElem (by omega)] at h
      injection h with h
      exact congrArg some (decide_eq_decide.2 ⟨fun e => by rw [h, e], fun e => by injection e⟩)
    · rw [if_neg h]
      rw [List.getElem?_eq_getElem (by omega)] at h
      have : x ≠ m[i] := fun e => h (by rw [e])
      exact congrArg some (decide_eq_false fun e => this (by injection e)).symm
theorem eqRuns (a b : Row) (hl : a.length ≤ 4000000) : slices_Equal_Lapi_Run_api_Run fuelH (a, b) = some (decide (a = b)) := by
  unfold slices_Equal_Lapi_Run_api_Run
  by_cases h : a.length = b.length
  · rw [cnd_f (ine_f (by simp only [len]; omega)), jn_e]
    refine Eq.trans (lst_it (l := a) (fun (_ : Unit) (p : Nat) => (p : Int)) (fun i (x : Run) (_ : Unit) => if some x = b[i]? then .inr () else .inl (some false)) (fun _ => some true) (fun _ _ => True) (fun self _ i hi _ => ?_) (fun self _ _ => ?_) fuelH 0 () (Nat.zero_le _) (by have := fuelH_eq; omega) trivial) ?_
    · have hb : i < b.length := by omega
      have e : cnd (ilt (i : Int) (len a)) (grd (inb (i : Int) (len a)) (grd (inb (i : Int) (len b)) (cnd (bnot (band (seq (lget a (toN (i : Int)) ([], (((0 : UInt8), (false, false)), []))).1 (lget b (toN (i : Int)) ([], (((0 : UInt8), (false, false)), []))).1) (band (band (ieq (n8 (lget a (toN (i : Int)) ([], (((0 : UInt8), (false, false)), []))).2.1.1) (n8 (lget b (toN (i : Int)) ([], (((0 : UInt8), (false, false)), []))).2.1.1)) (band (beqb (lget a (toN (i : Int)) ([], (((0 : UInt8), (false, false)), []))).2.1.2.1 (lget b (toN (i : Int)) ([], (((0 : UInt8), (false, false)), []))).2.1.2.1) (beqb (lget a (toN (i : Int)) ([], (((0 : UInt8), (false, false)), []))).2.1.2.2 (lget b (toN (i : Int)) ([], (((0 : UInt8), (false, false)), []))).2.1.2.2))) (seq (lget a (toN (i : Int)) ([], (((0 : UInt8), (false, false)), []))).2.2 (lget b (toN (i : Int)) ([], (((0 : UInt8), (false, false)), []))).2.2)))) (some false) (self (w64 (iadd (i : Int) 1)))))) (some true) = if a[i] = b[i] then self ((i + 1 : Nat) : Int) else some false := by
        rw [cnd_t (ilt_t (by simp only [len]; omega)), grd_t (inb_t (by simp only [len]; omega)), grd_t (inb_t (by simp only [len]; omega)), lget_i hi, lget_i hb, w64_succ hi (by omega), cnd_ite]
        simp only [bnot_t, Bool.eq_false_iff, ne_eq, band_tt, seq_t, ieq_tt, beqb_t, n8_eq, ← sty_eq, ← run_eq]
        by_cases hc : a[i] = b[i]
        · rw [if_neg (by simpa using hc), if_pos hc]
        · rw [if_pos hc, if_neg hc]
      rw [List.getElem?_eq_getElem hb]
      by_cases hc : a[i] = b[i]
      · rw [if_pos (by rw [hc])]
        exact ⟨e.trans (if_pos hc), trivial⟩
      · rw [if_neg (fun h => hc (by injection h))]
        exact e.trans (if_neg hc)
    · simp only
      rw [cnd_f (ilt_f (by simp only [len]; omega))]
    · exact same_fold a b h 0
  · rw [cnd_t (ine_t (by simp only [len]; omega))]
    have : a ≠ b := fun e => h (by rw [e])
    simp [this]
theorem same_row (a b : Row) (hl : a.length ≤ 4000000) : style_Same fuelH (a, b) = some (decide (a = b)) := by
  unfold style_Same
  rw [eqRuns a b hl, bnd_some']
theorem same_rows (a b : List Row) (hl : a.length ≤ 4000000) (h : ∀ r ∈ a, r.length ≤ 4000000) : style_SameRows fuelH (a, b) = some (decide (a = b)) := by
  unfold style_SameRows slices_EqualFunc_Lapi_Row_Lapi_Row_api_Row_api_Row
  by_cases hab : a.length = b.length
  · rw [cnd_f (ine_f (by simp only [len]; omega)), jn_e]
    have : ∀ X : Option Bool, (bnd X fun v0 => some v0) = X := fun X => by cases X <;> rfl
    rw [this]
    refine Eq.trans (lst_it (l := a) (fun (_ : Unit) (p : Nat) => (p : Int)) (fun i (x : Row) (_ : Unit) => if some x = b[i]? then .inr () else .inl (some false)) (fun _ => some true) (fun _ _ => True) (fun self _ i hi _ => ?_) (fun self _ _ => ?_) fuelH 0 () (Nat.zero_le _) (by have := fuelH_eq; omega) trivial) ?_
    · have hb : i < b.length := by omega
      have e : cnd (ilt (i : Int) (len a)) (grd (inb (i : Int) (len a)) (grd (inb (i : Int) (len b)) (bnd (style_Same fuelH (lget a (toN (i : Int)) [], lget b (toN (i : Int)) [])) fun v4 => cnd (bnot v4) (some false) (self (w64 (iadd (i : Int) 1)))))) (some true) = if a[i] = b[i] then self ((i + 1 : Nat) : Int) else some false := by
        rw [cnd_t (ilt_t (by simp only [len]; omega)), grd_t (inb_t (by simp only [len]; omega)), grd_t (inb_t (by simp only [len]; omega)), lget_i hi, lget_i hb, w64_succ hi (by omega), same_row _ _ (h _ (List.getElem_mem hi)), bnd_some', cnd_bnot]
      rw [List.getElem?_eq_getElem hb]
      by_cases hc : a[i] = b[i]
      · rw [if_pos (by rw [hc])]
        exact ⟨e.trans (if_pos hc), trivial⟩
      · rw [if_neg (fun h => hc (by injection h))]
        exact e.trans (if_neg hc)
    · simp only
      rw [cnd_f (ilt_f (by simp only [len]; omega))]
    · exact same_fold a b hab 0
  · rw [cnd_t (ine_t (by simp only [len]; omega))]
    have : a ≠ b := fun e => hab (by rw [e])
    simp [this, bnd_some']
end
end Go.Mo
end

section
/-
  Plain facts: StlTexts returns true.
-/
namespace Go.Mo
open Go Go.W Go.Lib
set_option maxRecDepth 100000
noncomputable section
theorem loop_inv {V R σ : Type} {F : (V → Option R) → V → Option R} {n : Nat} (st : σ → Nat → V) (I : Nat → σ → Prop) (r : Option R)
    (hstep : ∀ self a i, i < n → I i a → ∃ a', F self (st a i) = self (st a' (i + 1)) ∧ I (i + 1) a') (hend : ∀ self a, I n a → F self (st a n) = r) : ∀ (fuel i : Nat) (a : σ), i ≤ n → n - i < fuel → I i a → fixN F fuel (st a i) = r
  | 0, i, a, _, h, _ => by omega
  | fuel + 1, i, a, hi, h, hI => by
    rw [fixN_s]
    by_cases hl : i < n
    · obtain ⟨a', h1, h2⟩ := hstep (fixN F fuel) a i hl hI
      rw [h1]
      exact loop_inv st I r hstep hend fuel (i + 1) a' (by omega) (by omega) h2
    · obtain rfl : i = n := by omega
      exact hend _ _ hI

theorem bk_mem {α : Type} {f : α → Nat} {l : List α} {x : α} (h : x ∈ l) : f x ≤ bkL f l := by
  induction l with
  | nil => cases h
  | cons y l ih =>
    simp only [bkL]
    rcases List.mem_cons.1 h with rfl | h
    · omega
    · have := ih h; omega
theorem bk_len {α : Type} {f : α → Nat} (hf : ∀ x, 1 ≤ f x) (l : List α) : l.length ≤ bkL f l := by
  induction l with
  | nil => exact Nat.le_refl _
  | cons y l ih => have := hf y; simp only [bkL, List.length_cons]; omega
def wtU (x : Run) : Nat := x.1.length + 1 + (1 + (1 + 1) + (x.2.2.length + 1))
def wtR (r : Row) : Nat := bkL wtU r + 1
theorem cost_wt (r : Row) : cost r ≤ bkL wtU r := by
  induction r with
  | nil => exact Nat.le_refl _
  | cons x r ih => simp only [cost, bkL, wtU]; omega
theorem short_wt {l : List Row} {B : Nat} (h : bkL wtR l ≤ B) (hB : B ≤ 4000000) : shortL l := fun r hr x hx => by
  have h1 : bkL wtU r + 1 ≤ bkL wtR l := bk_mem (f := wtR) hr
  have h2 : x.1.length + 1 + (1 + (1 + 1) + (x.2.2.length + 1)) ≤ bkL wtU r := bk_mem (f := wtU) hx
  omega

theorem min_take {α : Type} (l : List α) (n : Nat) : ltake (toN (imin (len l) (n : Int))) l = l.take n ∧ in2 (imin (len l) (n : Int)) (len l) = true := by
  have e : toN (imin (len l) (n : Int)) = min l.length n := by simp only [toN, imin, len]; omega
  refine ⟨?_, in2_t (by simp only [imin, len]; omega)⟩
  rw [e]
  unfold ltake
  by_cases h : l.length ≤ n
  · rw [Nat.min_eq_left h, List.take_length, List.take_of_length_le h]
  · rw [Nat.min_eq_right (by omega)]
theorem fold_len : ∀ (l out : Row), (l.foldl snoc out).length ≤ out.length + l.length
  | [], out => Nat.le_refl _
  | x :: l, out => by
    have h1 := snoc_len out x
    have h2 := fold_len l (snoc out x)
    simp only [List.foldl_cons, List.length_cons]
    omega
theorem normR_len (l : Row) : (normR l).length ≤ l.length := by
  have := fold_len l []
  simpa [normR] using this
end
end Go.Mo
end

section
/-
  Plain facts: StlReturns returns true.
-/
namespace Go.Mo
open Go Go.W Go.Lib
set_option maxRecDepth 100000
noncomputable section

theorem snoc_ne {out : Row} {x : Run} (h : x.1 ≠ []) : snoc out x = match out.getLast? with
    | some p => if alikeP p x then out.dropLast ++ [(p.1 ++ x.1, p.2)] else out ++ [x]
    | none => out ++ [x] := by unfold snoc; rw [if_neg h]; all_goals (cases out.getLast? <;> rfl)
theorem tot_cost (l : Row) : tot l ≤ cost l := by rw [cost_eq]; omega
end
end Go.Mo
end

section
/-
  Plain facts: regions, their check, a region by its name, the places of rows.
-/
namespace Go.Mo
open Go Go.W Go.Lib
set_option maxRecDepth 100000
noncomputable section
abbrev Reg := List UInt8 × Int × Int × Int × Int × UInt8 × Bool
abbrev Spot := Int × Int × Int

theorem from_eq (N : Nat) (a b c : Int) : region_from N (a, b, c) = some (decide (b ≤ a ∧ a ≤ c)) := by
  unfold region_from
  rw [cnd_ile]
  by_cases h : b ≤ a
  · simp [h, ile]
  · simp [h]
def regChk (r : Reg) : Int :=
  if nm r.1 = false then 5 else
  if ¬ (0 ≤ r.2.1 ∧ r.2.1 ≤ 14) then 2 else
  if ¬ (1 ≤ r.2.2.1 ∧ r.2.2.1 ≤ 15 - r.2.1) then 2 else
  if ¬ (0 ≤ r.2.2.2.1 ∧ r.2.2.2.1 ≤ 31) then 2 else
  if ¬ (1 ≤ r.2.2.2.2.1 ∧ r.2.2.2.2.1 ≤ 32 - r.2.2.2.1) then 2 else
  if ¬ (1 ≤ n8 r.2.2.2.2.2.1 ∧ n8 r.2.2.2.2.2.1 ≤ 3) then 3 else 0
theorem dec_f {p : Prop} [Decidable p] : (decide p = false) = ¬ p := by by_cases h : p <;> simp [h]
theorem region_check (r : Reg) : region_Check fuelH r = some (regChk r) := by
  unfold region_Check regChk
  rw [lines_name, bnd_some']
  simp only [from_eq, bnd_some', cnd_ite, bnot_t, dec_f, ilt_tt]
  have e1 : n8 (1 : UInt8) = 1 := rfl
  have e3 : n8 (3 : UInt8) = 3 := rfl
  rw [e1, e3]
  by_cases h0 : nm r.1 = false
  · rw [if_pos h0, if_pos h0]
  rw [if_neg h0, if_neg h0]
  by_cases h1 : 0 ≤ r.2.1 ∧ r.2.1 ≤ 14
  · rw [if_neg (not_not_intro h1), if_neg (not_not_intro h1)]
    have w1 : w64 (isub 15 r.2.1) = 15 - r.2.1 := by unfold isub; rw [w64_id (by omega)]
    rw [w1]
    by_cases h2 : 1 ≤ r.2.2.1 ∧ r.2.2.1 ≤ 15 - r.2.1
    · rw [if_neg (not_not_intro h2), if_neg (not_not_intro h2)]
      by_cases h3 : 0 ≤ r.2.2.2.1 ∧ r.2.2.2.1 ≤ 31
      · rw [if_neg (not_not_intro h3), if_neg (not_not_intro h3)]
        have w2 : w64 (isub 32 r.2.2.2.1) = 32 - r.2.2.2.1 := by unfold isub; rw [w64_id (by omega)]
        rw [w2]
        by_cases h4 : 1 ≤ r.2.2.2.2.1 ∧ r.2.2.2.2.1 ≤ 32 - r.2.2.2.1
        · rw [if_neg (not_not_intro h4), if_neg (not_not_intro h4)]
          by_cases h5 : n8 r.2.2.2.2.2.1 < 1
          · rw [if_pos h5, if_pos (by omega)]
          · rw [if_neg h5]
            by_cases h6 : 3 < n8 r.2.2.2.2.2.1
            · rw [if_pos h6, if_pos (by omega)]
            · rw [if_neg h6, if_neg (by omega)]
        · rw [if_pos h4, if_pos h4]
      · rw [if_pos h3, if_pos h3]
    · rw [if_pos h2, if_pos h2]
  · rw [if_pos h1, if_pos h1]
def chkRegs : Option Reg → List Reg → Int
  | _, [] => 0
  | p, r :: l => if regChk r ≠ 0 then regChk r else match p with
    | none => chkRegs (some r) l
    | some q => if r.1 = q.1 then 7 else if slt r.1 q.1 = true then 8 else chkRegs (some r) l
def regsChk (l : List Reg) : Int := if 16 < l.length then 9 else chkRegs none l
/-- one round of the check -/
def regRnd (p : Option Reg) (r : Reg) : Option Int ⊕ Unit := if regChk r ≠ 0 then .inl (some (regChk r)) else match p with
    | none => .inr ()
    | some q => if r.1 = q.1 then .inl (some 7) else if slt r.1 q.1 = true then .inl (some 8) else .inr ()
theorem itI_regs (l : List Reg) : ∀ (r : List Reg) (i : Nat), l.drop i = r → i ≤ l.length → itI (fun i x (_ : Unit) => regRnd (before l i) x) (fun _ => some (0 : Int)) i r () = some (chkRegs (before l i) r)
  | [], i, _, _ => rfl
  | x :: r, i, h, hi => by
    have hx : l[i]? = some x := by rw [← List.head?_drop, h]; rfl
    have hr : l.drop (i + 1) = r := by rw [← List.drop_drop, h]; rfl
    have hl : i < l.length := (List.getElem?_eq_some_iff.1 hx).1
    simp only [itI, chkRegs, regRnd]
    have e : before l (i + 1) = some x := hx
    have ih := itI_regs l r (i + 1) hr (by omega)
    rw [e] at ih
    by_cases hc : regChk x ≠ 0
    · rw [if_pos hc, if_pos hc]
    · rw [if_neg hc, if_neg hc]
      cases before l i with
      | none => exact ih
      | some q =>
        simp only
        by_cases h7 : x.1 = q.1
        · rw [if_pos h7, if_pos h7]
        · rw [if_neg h7, if_neg h7]
          by_cases h8 : slt x.1 q.1 = true
          · rw [if_pos h8, if_pos h8]
          · rw [if_neg h8, if_neg h8]
            exact ih
theorem region_list (l : List Reg) : region_CheckList fuelH l = some (regsChk l) := by
  unfold region_CheckList
  by_cases h : 16 < l.length
  · rw [cnd_t (ilt_t (by simp only [len]; omega))]; simp [regsChk, h]
  · rw [cnd_f (ilt_f (by simp only [len]; omega)), jn_e]
    refine Eq.trans (lst_it (l := l) (fun (_ : Unit) (p : Nat) => (p : Int)) (fun i x (_ : Unit) => regRnd (before l i) x) (fun _ => some (0 : Int)) (fun _ _ => True) (fun self a i hi _ => ?_) (fun self a _ => ?_) fuelH 0 () (Nat.zero_le _) (by have := fuelH_eq; omega) trivial) ?_
    · rw [cnd_t (ilt_t (by simp only [len]; omega)), grd_t (inb_t (by simp only [len]; omega)), lget_i hi, bnd_s (region_check _)]
      unfold regRnd
      by_cases hc : regChk l[i] ≠ 0
      · rw [if_pos hc, cnd_t (ine_t hc)]; rfl
      · rw [if_neg hc, cnd_f (ine_f (by simpa using hc)), jn_e, w64_succ hi (by omega)]
        cases i with
        | zero =>
          rw [cnd_f (by rfl), cnd_f (by rfl)]
          exact ⟨rfl, trivial⟩
        | succ i =>
          have e0 : before l (i + 1) = some l[i] := by simp only [before]; exact List.getElem?_eq_getElem (by omega)
          have hin : inb ((i : Nat) : Int) (len l) = true := inb_t (by simp only [len]; omega)
          have hp : ilt (0 : Int) ((i + 1 : Nat) : Int) = true := ilt_t (by omega)
          rw [e0, cnd_t hp, w64_back (by omega), grd_t hin, lget_i (show i < l.length by omega), cnd_t hp, grd_t hin]
          simp only
          by_cases h7 : l[i + 1].1 = l[i].1
          · rw [if_pos h7, cnd_t (by rw [seq_t]; exact h7)]; rfl
          · rw [if_neg h7, cnd_f (by rw [← Bool.not_eq_true, seq_t]; exact h7)]
            by_cases h8 : slt l[i + 1].1 l[i].1 = true
            · rw [if_pos h8, cnd_t h8]; rfl
            · rw [if_neg h8, cnd_f (by simpa using h8)]
              exact ⟨rfl, trivial⟩
    · rw [cnd_f (ilt_f (by simp only [len]; omega))]
    · rw [List.drop_zero, itI_regs l l 0 rfl (Nat.zero_le _)]
      simp [regsChk, h, before]
def defR : Reg := ([], 11, 4, 0, 32, 2, true)
def noR : Reg := ([], 0, 0, 0, 0, 0, false)
def findR (l : List Reg) (n : List UInt8) : Option Reg := if n = [] then some defR else l.find? fun r => decide (r.1 = n)
def findP (l : List Reg) (n : List UInt8) : Reg × Bool := match findR l n with
  | some r => (r, true)
  | none => (noR, false)
theorem itI_find (n : List UInt8) : ∀ (l : List Reg) (i : Nat), itI (fun _ (x : Reg) (_ : Unit) => if x.1 = n then (.inl (some (x, true)) : Option (Reg × Bool) ⊕ Unit) else .inr ()) (fun _ => some (noR, false)) i l () = some (match l.find? fun r => decide (r.1 = n) with | some r => (r, true) | none => (noR, false))
  | [], _ => rfl
  | x :: l, i => by
    simp only [itI, List.find?_cons]
    by_cases h : x.1 = n
    · rw [if_pos h, decide_eq_true h]
    · rw [if_neg h, decide_eq_false h]
      exact itI_find n l (i + 1)
theorem region_find (l : List Reg) (hl : l.length ≤ 4000000) (n : List UInt8) : region_Find fuelH (l, n) = some (findP l n) := by
  unfold region_Find findP findR
  simp only
  by_cases h : n = []
  · rw [cnd_t (by rw [seq_t]; exact h), if_pos h]; rfl
  · rw [cnd_f (by rw [← Bool.not_eq_true, seq_t]; exact h), if_neg h, jn_e]
    refine Eq.trans (lst_it (l := l) (fun (_ : Unit) (p : Nat) => (p : Int)) (fun _ (x : Reg) (_ : Unit) => if x.1 = n then .inl (some (x, true)) else .inr ()) (fun _ => some (noR, false)) (fun _ _ => True) (fun self a i hi _ => ?_) (fun self a _ => ?_) fuelH 0 () (Nat.zero_le _) (by have := fuelH_eq; omega) trivial) (itI_find n l 0)
    · have hin : inb (i : Int) (len l) = true := inb_t (by simp only [len]; omega)
      rw [cnd_t (ilt_t (by simp only [len]; omega)), grd_t hin, lget_i hi]
      by_cases hc : l[i].1 = n
      · rw [if_pos hc, cnd_t (by rw [seq_t]; exact hc)]; rfl
      · rw [if_neg hc, cnd_f (by rw [← Bool.not_eq_true, seq_t]; exact hc), w64_succ hi (by omega)]
        exact ⟨rfl, trivial⟩
    · rw [cnd_f (ilt_f (by simp only [len]; omega))]
      rfl
end
end Go.Mo
end

section
/-
  Plain facts: the places of rows.
-/
namespace Go.Mo
open Go Go.W Go.Lib
set_option maxRecDepth 100000
noncomputable section

def usableR (r : Reg) : Prop := r = defR ∨ regChk r = 0
instance (r : Reg) : Decidable (usableR r) := by unfold usableR; infer_instance
theorem reg_eq {a b : Reg} : (a = b) = (a.1 = b.1 ∧ a.2.1 = b.2.1 ∧ a.2.2.1 = b.2.2.1 ∧ a.2.2.2.1 = b.2.2.2.1 ∧ a.2.2.2.2.1 = b.2.2.2.2.1 ∧ a.2.2.2.2.2.1 = b.2.2.2.2.2.1 ∧ a.2.2.2.2.2.2 = b.2.2.2.2.2.2) := by
  obtain ⟨a1, a2, a3, a4, a5, a6, a7⟩ := a; obtain ⟨b1, b2, b3, b4, b5, b6, b7⟩ := b; simp
theorem def_band (x : Reg) : (band (seq x.1 defR.1) (band (ieq x.2.1 defR.2.1) (band (ieq x.2.2.1 defR.2.2.1) (band (ieq x.2.2.2.1 defR.2.2.2.1) (band (ieq x.2.2.2.2.1 defR.2.2.2.2.1) (band (ieq (n8 x.2.2.2.2.2.1) (n8 defR.2.2.2.2.2.1)) (beqb x.2.2.2.2.2.2 defR.2.2.2.2.2.2)))))) = true) = (x = defR) := by
  simp only [band_tt, seq_t, ieq_tt, beqb_t, n8_eq]
  exact reg_eq.symm
theorem region_usable_eq (r : Reg) : region_usable fuelH r = some (decide (usableR r)) := by
  unfold region_usable
  rw [bnd_s (show region_Default fuelH () = some defR from rfl), region_check, bnd_some']
  by_cases h : r = defR
  · rw [cnd_t ((def_band r).mpr h), @decide_eq_true (usableR r) _ (.inl h)]
  · rw [cnd_f (by rw [← Bool.not_eq_true]; exact fun k => h ((def_band r).mp k))]
    congr 1
    by_cases h2 : regChk r = 0
    · rw [ieq_t h2, @decide_eq_true (usableR r) _ (.inr h2)]
    · rw [ieq_f h2, @decide_eq_false (usableR r) _ (fun k => k.elim h h2)]
theorem usable_bd {r : Reg} (h : usableR r) : 0 ≤ r.2.1 ∧ 1 ≤ r.2.2.1 ∧ r.2.1 + r.2.2.1 ≤ 15 ∧ 0 ≤ r.2.2.2.1 ∧ 1 ≤ r.2.2.2.2.1 ∧ r.2.2.2.1 + r.2.2.2.2.1 ≤ 32 ∧ 1 ≤ n8 r.2.2.2.2.2.1 ∧ n8 r.2.2.2.2.2.1 ≤ 3 := by
  rcases h with rfl | h
  · decide
  · unfold regChk at h
    split at h
    · cases h
    split at h
    · cases h
    split at h
    · cases h
    split at h
    · cases h
    split at h
    · cases h
    split at h
    · cases h
    omega

def colOf (r : Reg) (n : Int) : Int := if n8 r.2.2.2.2.2.1 = 3 then r.2.2.2.1 + (r.2.2.2.2.1 - n) else if n8 r.2.2.2.2.2.1 = 2 then r.2.2.2.1 + (r.2.2.2.2.1 - n).tdiv 2 else r.2.2.2.1
def topOf (r : Reg) (k : Nat) : Int := if r.2.2.2.2.2.2 = true then r.2.1 + (r.2.2.1 - (k : Int)) else r.2.1
def plRnd (r : Reg) (k : Nat) (i : Nat) (n : Int) (out : List Spot) : Option (List Spot × Int) ⊕ List Spot :=
  if n < 0 then .inl (some ([], 2)) else if r.2.2.2.2.1 < n then .inl (some ([], 11)) else .inr (out ++ [(topOf r k + (i : Int), colOf r n, n)])
def placeL (r : Reg) (k : Nat) : Nat → List Int → List Spot → List Spot × Int
  | _, [], out => (out, 0)
  | i, n :: l, out => if n < 0 then ([], 2) else if r.2.2.2.2.1 < n then ([], 11) else placeL r k (i + 1) l (out ++ [(topOf r k + (i : Int), colOf r n, n)])
def placeS (r : Reg) (l : List Int) : List Spot × Int := if ¬ usableR r then ([], 1) else if r.2.2.1 < (l.length : Int) then ([], 9) else placeL r l.length 0 l []
theorem itI_place (r : Reg) (k : Nat) : ∀ (l : List Int) (i : Nat) (out : List Spot), itI (plRnd r k) (fun a => some (a, (0 : Int))) i l out = some (placeL r k i l out)
  | [], i, out => rfl
  | n :: l, i, out => by
    simp only [itI, placeL, plRnd]
    by_cases h1 : n < 0
    · rw [if_pos h1, if_pos h1]
    · rw [if_neg h1, if_neg h1]
      by_cases h2 : r.2.2.2.2.1 < n
      · rw [if_pos h2, if_pos h2]
      · rw [if_neg h2, if_neg h2]
        exact itI_place r k l (i + 1) _
theorem jn_cnd {α β : Type} (K : α → Option β) (b : Bool) (x y : α) : jn K (fun v => cnd b (v x) (v y)) = K (if b = true then x else y) := by
  rw [jn_e]; cases b <;> rfl
theorem half_bd {x : Int} (h : 0 ≤ x) : 0 ≤ x.tdiv 2 ∧ x.tdiv 2 ≤ x := by
  rw [Int.tdiv_eq_ediv_of_nonneg h]; omega
/-- the numbers of one place do not wrap -/
theorem spot_w {r : Reg} (hu : usableR r) {k i : Nat} {n : Int} (hk : (k : Int) ≤ r.2.2.1) (hi : i < k) (h0 : 0 ≤ n) (hn : n ≤ r.2.2.2.2.1) :
    w64 (iadd (topOf r k) (i : Int)) = topOf r k + (i : Int) ∧ w64 (isub r.2.2.2.2.1 n) = r.2.2.2.2.1 - n ∧ w64 (iadd r.2.2.2.1 (r.2.2.2.2.1 - n)) = r.2.2.2.1 + (r.2.2.2.2.1 - n) ∧ w64 (idiv (r.2.2.2.2.1 - n) 2) = (r.2.2.2.2.1 - n).tdiv 2 ∧ w64 (iadd r.2.2.2.1 ((r.2.2.2.2.1 - n).tdiv 2)) = r.2.2.2.1 + (r.2.2.2.2.1 - n).tdiv 2 := by
  have hb := usable_bd hu
  have hd := half_bd (x := r.2.2.2.2.1 - n) (by omega)
  refine ⟨?_, ?_, ?_, ?_, ?_⟩
  · unfold iadd topOf
    rw [w64_id]
    split <;> omega
  · unfold isub; rw [w64_id (by omega)]
  · unfold iadd; rw [w64_id (by omega)]
  · unfold idiv; rw [w64_id (by omega)]
  · unfold iadd; rw [w64_id (by omega)]
theorem region_place (r : Reg) (l : List Int) : region_Place fuelH (r, l) = some (placeS r l) := by
  unfold region_Place placeS
  simp only
  rw [region_usable_eq, bnd_some', cnd_bnot]
  by_cases hu : usableR r
  · rw [if_pos hu, if_neg (not_not_intro hu)]
    have hb := usable_bd hu
    by_cases hk : r.2.2.1 < (l.length : Int)
    · rw [cnd_t (ilt_t (show r.2.2.1 < len l from hk)), if_pos hk]
    · rw [cnd_f (ilt_f (show ¬ r.2.2.1 < len l from hk)), if_neg hk, jn_cnd]
      have et : (if r.2.2.2.2.2.2 = true then w64 (iadd r.2.1 (w64 (isub r.2.2.1 (len l)))) else r.2.1) = topOf r l.length := by
        unfold topOf
        have e1 : w64 (isub r.2.2.1 (len l)) = r.2.2.1 - (l.length : Int) := by unfold isub len; rw [w64_id (by omega)]
        rw [e1]
        unfold iadd
        rw [w64_id (by omega)]
      rw [et, jn_e]
      refine Eq.trans (lst_it (l := l) (fun (a : List Spot) (p : Nat) => (a, (p : Int))) (plRnd r l.length) (fun a => some (a, (0 : Int))) (fun i a => a.length ≤ i) (fun self a i hi ha => ?_) (fun self a _ => ?_) fuelH 0 [] (Nat.zero_le _) (by have := fuelH_eq; omega) (Nat.le_refl _)) (itI_place r l.length l 0 [])
      · have hin : inb (i : Int) (len l) = true := inb_t (by simp only [len]; omega)
        simp only
        rw [cnd_t (ilt_t (by simp only [len]; omega)), grd_t hin, lget_i hi, w64_succ hi (by omega)]
        unfold plRnd
        by_cases h1 : l[i] < 0
        · rw [if_pos h1, cnd_t (ilt_t h1)]; rfl
        · rw [if_neg h1, cnd_f (ilt_f h1)]
          by_cases h2 : r.2.2.2.2.1 < l[i]
          · rw [if_pos h2, cnd_t (ilt_t h2)]; rfl
          · rw [if_neg h2, cnd_f (ilt_f h2)]
            obtain ⟨q1, q2, q3, q4, q5⟩ := spot_w hu (k := l.length) (i := i) (n := l[i]) (by omega) hi (by omega) (by omega)
            have hroom : ∀ s : Spot, room (iadd (len a) (len [s])) 24 = true := fun s => room_t (by simp only [iadd, len, List.length_singleton]; omega)
            rw [q1, q2, q3, q4, q5]
            rw [grd_t (hroom _), grd_t (hroom _), grd_t (hroom _)]
            refine ⟨?_, by simp only [List.length_append, List.length_singleton]; omega⟩
            unfold colOf
            have e3 : n8 (3 : UInt8) = 3 := rfl
            have e2 : n8 (2 : UInt8) = 2 := rfl
            rw [cnd_ieq, cnd_ieq, e3, e2]
            by_cases c3 : n8 r.2.2.2.2.2.1 = 3
            · rw [if_pos c3, if_pos c3]; rfl
            · rw [if_neg c3, if_neg c3]
              by_cases c2 : n8 r.2.2.2.2.2.1 = 2
              · rw [if_pos c2, if_pos c2]; rfl
              · rw [if_neg c2, if_neg c2]; rfl
      · simp only
        rw [cnd_f (ilt_f (by simp only [len]; omega))]
  · rw [if_neg hu, if_pos hu]
end
end Go.Mo
end

section
/-
  Plain facts: the text and the length of a row; events and their check.
-/
namespace Go.Mo
open Go Go.W Go.Lib
set_option maxRecDepth 100000
noncomputable section
abbrev Ev := Int × (Int × Int) × List UInt8 × UInt8 × List UInt8 × List Row

theorem rune_count {s : List UInt8} (hs : s.length ≤ 4000000) : utf8_RuneCountInString fuelH s = some ((rns s).length : Int) := by
  unfold utf8_RuneCountInString
  rw [jn_e]
  have hf : ∀ (l : List Int) (n : Nat), n + l.length ≤ 100000000 → foldR (fun (_ : Int) (a : Int) self => self (w64 (iadd a 1))) (fun a => some a) l (n : Int) = some ((n + l.length : Nat) : Int) := by
    intro l
    induction l with
    | nil => intro n _; rfl
    | cons r l ih =>
      intro n hn
      simp only [List.length_cons] at hn
      simp only [foldR]
      rw [w64_succ (show n < n + 1 by omega) (by omega), ih (n + 1) (by omega)]
      simp only [List.length_cons]
      congr 2
      omega
  refine (str_loop (s := s) (fun (a : Int) (p : Nat) => (a, s, ofN p)) (fun _ a self => self (w64 (iadd a 1))) (fun a => some a) (fun self a p hp => ?_) (fun self a p hp => ?_) fuelH 0 (0 : Int) (by have := fuelH_eq; omega)).trans ?_
  · simp only [toN_ofN]
    rw [cnd_t (nlt_t (show p < nlen s from hp))]
    rfl
  · simp only [toN_ofN]
    rw [cnd_f (nlt_f (show ¬ p < nlen s by unfold nlen; omega))]
  · have := rns_len _ s (Nat.le_refl _)
    have h := hf (rns s) 0 (by omega)
    rw [List.drop_zero]
    simpa using h
theorem ch_len {s : List UInt8} (hs : s.length ≤ 4000000) (hv : vld s = true) : charset_Len fuelH s = some ((rns s).length : Int) := by
  unfold charset_Len
  rw [ch_valid _ hs, bnd_some', hv, cnd_f (by rfl), rune_count hs]
  rfl
def lenT : Row → Nat
  | [] => 0
  | x :: l => (rns x.1).length + lenT l
def plainT (l : Row) : List UInt8 := l.flatMap (·.1)
/-- a row whose check says yes, of texts that are not too long -/
def okR (l : Row) : Prop := l.length ≤ 16 ∧ (∀ x ∈ l, vld x.1 = true ∧ x.1.length ≤ 4000000) ∧ tot l ≤ 4000000
def smallR (l : Row) : Prop := shortR l ∧ tot l ≤ 4000000
def smallL (l : List Row) : Prop := ∀ r ∈ l, smallR r
theorem okR_of {l : Row} (hs : smallR l) (h : rowChk l = 0) : okR l := by
  obtain ⟨h1, h2⟩ := rowChk_ok h
  exact ⟨h1, fun x hx => ⟨(h2 x hx).1, (hs.1 x hx).1⟩, hs.2⟩
theorem lenT_le : ∀ (l : Row), (∀ x ∈ l, x.1.length ≤ 4000000) → lenT l ≤ 4000000 * l.length
  | [], _ => Nat.le_refl _
  | x :: l, h => by
    have h1 := rns_len _ x.1 (Nat.le_refl _)
    have h2 := h x List.mem_cons_self
    have h3 := lenT_le l fun y hy => h y (List.mem_cons_of_mem _ hy)
    simp only [lenT, List.length_cons]
    omega
theorem lenT_take : ∀ (l : Row) (i : Nat) (h : i < l.length), lenT (l.take (i + 1)) = lenT (l.take i) + (rns l[i].1).length
  | x :: l, 0, _ => by simp [lenT]
  | x :: l, i + 1, h => by
    have := lenT_take l i (by simpa using h)
    simp only [List.take_succ_cons, lenT, this, List.getElem_cons_succ]
    omega
theorem lenT_take_le (l : Row) (i : Nat) : lenT (l.take i) ≤ lenT l := by
  induction l generalizing i with
  | nil => simp [lenT]
  | cons x l ih => cases i with
    | zero => simp [lenT]
    | succ i => simp only [List.take_succ_cons, lenT]; have := ih i; omega
theorem len_loop {l : Row} (h : okR l) (L : List UInt8 → Option Int) (hL : ∀ s : List UInt8, s.length ≤ 4000000 → vld s = true → L s = some ((rns s).length : Int)) :
    fixN (fun (v2 : Int × Int → Option Int) (v3 : Int × Int) =>
    cnd (ilt v3.2 (len l))
      (grd (inb v3.2 (len l))
        (bnd (L (lget l (toN v3.2) ([], (((0 : UInt8), (false, false)), []))).1) fun v4 =>
        cnd (ilt v4 (0 : Int))
          (some (-1 : Int))
          (v2 (w64 (iadd v3.1 v4), w64 (iadd v3.2 (1 : Int))))))
      (some v3.1)) fuelH ((0 : Int), (0 : Int)) = some (lenT l : Int) := by
  have hb := lenT_le l fun x hx => (h.2.1 x hx).2
  have hl := h.1
  refine loop_inv (n := l.length) (fun (a : Nat) (i : Nat) => ((a : Int), (i : Int))) (fun i a => a = lenT (l.take i)) _ (fun self a i hi hI => ?_) (fun self a hI => ?_) fuelH 0 0 (Nat.zero_le _) (by have := fuelH_eq; omega) rfl
  · refine ⟨a + (rns l[i].1).length, ?_, ?_⟩
    · have ht := lenT_take l i hi
      have ht2 := lenT_take_le l (i + 1)
      simp only
      rw [cnd_t (ilt_t (by simp only [len]; omega)), grd_t (inb_t (by simp only [len]; omega)), lget_i hi, hL _ (h.2.1 _ (List.getElem_mem hi)).2 (h.2.1 _ (List.getElem_mem hi)).1, bnd_some', cnd_f (ilt_f (by omega)), w64_succ hi (by omega)]
      have e : w64 (iadd (a : Int) ((rns l[i].1).length : Int)) = ((a + (rns l[i].1).length : Nat) : Int) := by
        unfold iadd; rw [w64_id (by omega)]; omega
      rw [e]
    · rw [lenT_take l i hi, hI]
  · simp only
    rw [cnd_f (ilt_f (by simp only [len]; omega)), hI, List.take_length]
theorem style_len {l : Row} (h : okR l) : style_Len fuelH l = some (lenT l : Int) := by
  unfold style_Len
  rw [jn_e]
  exact len_loop h (charset_Len fuelH) fun s => ch_len
theorem plainT_take (l : Row) (i : Nat) (h : i < l.length) : plainT (l.take (i + 1)) = plainT (l.take i) ++ l[i].1 := by
  unfold plainT
  rw [List.take_succ_eq_append_getElem h, List.flatMap_append]
  simp
theorem plainT_len : ∀ (l : Row), (plainT l).length = tot l
  | [] => rfl
  | x :: l => by
    have h3 := plainT_len l
    unfold plainT at h3 ⊢
    simp only [List.flatMap_cons, List.length_append, tot, h3]
theorem tot_take (l : Row) (i : Nat) : tot (l.take i) ≤ tot l := by
  have h := tot_app (l.take i) (l.drop i)
  rw [List.take_append_drop] at h
  omega
theorem plainT_le {l : Row} (h : okR l) (i : Nat) : (plainT (l.take i)).length ≤ 4000000 := by
  rw [plainT_len]
  have := tot_take l i
  have := h.2.2
  omega
theorem write_str {N : Nat} {a b : List UInt8} (h : a.length + b.length ≤ 100000000) : strings_Builder_WriteString N (((), a), b) = some ((b.length : Int), (), (), a ++ b) := by
  unfold strings_Builder_WriteString
  show (grd (room (iadd (len a) (len b)) 1) (some (len b, (), (), lapp a b))) = _
  rw [grd_t (room_t (by simp only [iadd, len]; omega))]
  rfl
theorem style_plain {l : Row} (h : okR l) : style_Plain fuelH l = some (plainT l) := by
  unfold style_Plain
  rw [jn_e]
  have hl := h.1
  refine loop_inv (n := l.length) (fun (a : List UInt8) (i : Nat) => ((i : Int), (), a)) (fun i a => a = plainT (l.take i)) _ (fun self a i hi hI => ?_) (fun self a hI => ?_) fuelH 0 [] (Nat.zero_le _) (by have := fuelH_eq; omega) rfl
  · refine ⟨a ++ l[i].1, ?_, ?_⟩
    · have h1 := plainT_le h i
      have h2 := (h.2.1 _ (List.getElem_mem hi)).2
      simp only
      rw [cnd_t (ilt_t (by simp only [len]; omega)), grd_t (inb_t (by simp only [len]; omega)), lget_i hi, write_str (by rw [hI]; omega), bnd_some', w64_succ hi (by omega)]
    · rw [plainT_take l i hi, hI]
  · simp only
    rw [cnd_f (ilt_f (by simp only [len]; omega)), hI, List.take_length]
def sp2 : List UInt8 → Bool
  | [] => false
  | [_] => false
  | a :: b :: t => ([32, 32] : List UInt8).isPrefixOf (a :: b :: t) || sp2 (b :: t)
theorem sp2_index : ∀ t : List UInt8, decide (0 ≤ index t [32, 32]) = sp2 t
  | [] => rfl
  | [a] => by
    have e : index [a] [32, 32] = if ([32, 32] : List UInt8).isPrefixOf [a] = true then 0 else if (index [] [32, 32] == -1) = true then -1 else index [] [32, 32] + 1 := rfl
    have hp : ([32, 32] : List UInt8).isPrefixOf [a] = false := by cases h : ((32 : UInt8) == a) <;> simp [List.isPrefixOf, h]
    rw [e, hp]
    rfl
  | a :: b :: t => by
    have ih := sp2_index (b :: t)
    have hg := index_ge (b :: t) [32, 32]
    have e : index (a :: b :: t) [32, 32] = if ([32, 32] : List UInt8).isPrefixOf (a :: b :: t) = true then 0 else if (index (b :: t) [32, 32] == -1) = true then -1 else index (b :: t) [32, 32] + 1 := rfl
    have e2 : sp2 (a :: b :: t) = (([32, 32] : List UInt8).isPrefixOf (a :: b :: t) || sp2 (b :: t)) := rfl
    rw [e, e2, ← ih]
    generalize index (b :: t) [32, 32] = m at hg ⊢
    cases ([32, 32] : List UInt8).isPrefixOf (a :: b :: t) with
    | true => rfl
    | false =>
      rw [if_neg (by decide), Bool.false_or]
      by_cases h1 : m = -1
      · subst h1; rfl
      · rw [if_neg (by simpa using h1), decide_eq_true (by omega), decide_eq_true (by omega)]
theorem sp2_contains (t : List UInt8) : contains t [32, 32] = sp2 t := sp2_index t
def neatT (t : List UInt8) : Bool := if t = [] then false else if n8 (lget t (toN (0 : Int)) 0) = n8 (32 : UInt8) then false else if n8 (lget t (toN (w64 (isub (len t) 1))) 0) = n8 (32 : UInt8) then false else !sp2 t
def rowE (l : Row) : Int := if rowChk l ≠ 0 then rowChk l else if neatT (plainT l) = false then 4 else if 32 < lenT l then 11 else 0
theorem event_row_eq {l : Row} (hs : smallR l) : event_row fuelH l = some (rowE l) := by
  unfold event_row rowE
  rw [bnd_s (style_check hs.1)]
  by_cases hk : rowChk l ≠ 0
  · rw [cnd_t (ine_t hk), if_pos hk]
  · rw [cnd_f (ine_f (by simpa using hk)), if_neg hk]
    have hr := okR_of hs (by simpa using hk)
    have hp := plainT_le hr l.length
    rw [List.take_length] at hp
    rw [bnd_s (style_plain hr)]
    generalize plainT l = t at hp ⊢
    unfold neatT
    by_cases h0 : t = []
    · rw [cnd_t (by rw [seq_t]; exact h0), if_pos h0, if_pos rfl]
    · have hl : 0 < t.length := List.length_pos_iff.2 h0
      have e1 : w64 (isub (len t) 1) = ((t.length - 1 : Nat) : Int) := w64_pred hl (by omega)
      have hin : inb (w64 (isub (len t) 1)) (len t) = true := by rw [e1]; exact inb_t (by simp only [len]; omega)
      rw [cnd_f (by rw [← Bool.not_eq_true, seq_t]; exact h0), if_neg h0, grd_t (inb_t (by simp only [len]; omega)), cnd_ieq]
      by_cases h1 : n8 (lget t (toN (0 : Int)) 0) = n8 (32 : UInt8)
      · rw [if_pos h1, if_pos h1, if_pos rfl]
      · rw [if_neg h1, if_neg h1, grd_t hin, cnd_ieq]
        by_cases h2 : n8 (lget t (toN (w64 (isub (len t) 1))) 0) = n8 (32 : UInt8)
        · rw [if_pos h2, if_pos h2, if_pos rfl]
        · rw [if_neg h2, if_neg h2]
          have hc : strings_Contains fuelH (t, [32, 32]) = some (sp2 t) := by
            show grd (decide (t.length < 4294967281)) (some (contains t [32, 32])) = _
            rw [grd_t (decide_eq_true (by omega)), sp2_contains]
          rw [bnd_s hc]
          by_cases h3 : sp2 t = true
          · rw [cnd_t h3, h3, if_pos (by decide)]
          · rw [cnd_f (by simpa using h3), Bool.eq_false_iff.2 h3, if_neg (by simp), bnd_s (style_len hr), cnd_ilt]
            by_cases h4 : 32 < lenT l
            · rw [if_pos (by omega), if_pos h4]
            · rw [if_neg (by omega), if_neg h4]
end
end Go.Mo
end

section
/-
  Plain facts: the check of an event, on both sides; spots; the length of an event.
-/
namespace Go.Mo
open Go Go.W Go.Lib
set_option maxRecDepth 100000
noncomputable section

theorem spans_eq (N : Nat) (s : Int × Int) : event_spans N s = some (decide (0 ≤ s.1 ∧ s.1 < s.2 ∧ s.2 ≤ 5184000)) := by
  unfold event_spans
  rw [cnd_ile, cnd_ilt]
  by_cases h1 : 0 ≤ s.1
  · rw [if_pos h1]
    by_cases h2 : s.1 < s.2
    · rw [if_pos h2]; simp [h1, h2, ile]
    · rw [if_neg h2]; simp [h2]
  · rw [if_neg h1]; simp [h1]
def kindP (k : UInt8) : Bool := match event_KindName fuelH k with
  | some s => decide (seq s [] = decide (¬ (1 ≤ n8 k ∧ n8 k ≤ 4)))
  | none => false
theorem kind_tab (k : UInt8) : ∃ s, event_KindName fuelH k = some s ∧ seq s [] = decide (¬ (1 ≤ n8 k ∧ n8 k ≤ 4)) := by
  have h : kindP k = true := all_u8 (P := kindP) (by kernel_rfl) k
  unfold kindP at h
  split at h
  · rename_i s hs
    exact ⟨s, hs, of_decide_eq_true h⟩
  · cases h
theorem jn_sp {β : Type} (K : Bool → Option β) (s : List UInt8) (X : Option Bool) (hX : X = some (nm s)) : jn K (fun v => cnd (sne s ([] : List UInt8)) (bnd X fun w => v (bnot w)) (v false)) = K (decide (s ≠ [] ∧ nm s = false)) := by
  rw [jn_e, hX, bnd_some']
  by_cases h : s = []
  · subst h; rfl
  · rw [cnd_t (by simp [sne, h])]
    congr 1
    cases hn : nm s <;> simp [bnot, h]
def rowsE : List Row → Int → Int
  | [], k => k
  | l :: r, k => if rowE l ≠ 0 then rowE l else rowsE r k
def lens (l : List Row) : List Int := l.map fun r => (lenT r : Int)
def evChk (x : Ev) (rs : List Reg) : Int :=
  if x.1 < 1 then 2 else if 1099511627776 < x.1 then 2 else
  if ¬ (0 ≤ x.2.1.1 ∧ x.2.1.1 < x.2.1.2 ∧ x.2.1.2 ≤ 5184000) then 2 else
  match findR rs x.2.2.1 with
  | none => 6
  | some r =>
    if ¬ (1 ≤ n8 x.2.2.2.1 ∧ n8 x.2.2.2.1 ≤ 4) then 3 else
    if x.2.2.2.2.1 ≠ [] ∧ nm x.2.2.2.2.1 = false then 5 else
    if x.2.2.2.2.2.length = 0 then 9 else if 4 < x.2.2.2.2.2.length then 9 else
    rowsE x.2.2.2.2.2 (placeS r (lens x.2.2.2.2.2)).2
theorem rowE_ok {l : Row} (hs : smallR l) (h : rowE l = 0) : okR l := by
  unfold rowE at h
  split at h
  · rename_i hc; exact absurd h hc
  · rename_i hc; exact okR_of hs (by simpa using hc)
theorem event_lens_eq {x : Ev} (h : ∀ l ∈ x.2.2.2.2.2, okR l) (hl : x.2.2.2.2.2.length ≤ 1000000) : event_lens fuelH x = some (lens x.2.2.2.2.2) := by
  unfold event_lens
  rw [jn_e]
  generalize x.2.2.2.2.2 = l at h hl ⊢
  refine loop_inv (n := l.length) (fun (a : List Int) (i : Nat) => (a, (i : Int))) (fun i a => a = lens (l.take i)) _ (fun self a i hi hI => ?_) (fun self a hI => ?_) fuelH 0 [] (Nat.zero_le _) (by have := fuelH_eq; omega) rfl
  · refine ⟨a ++ [(lenT l[i] : Int)], ?_, ?_⟩
    · have ha : a.length ≤ i := by rw [hI]; unfold lens; rw [List.length_map, List.length_take]; omega
      simp only
      rw [cnd_t (ilt_t (by simp only [len]; omega)), grd_t (inb_t (by simp only [len]; omega)), lget_i hi, style_len (h _ (List.getElem_mem hi)), bnd_some', grd_t (room_t (by simp only [iadd, len, List.length_singleton]; omega)), w64_succ hi (by omega)]
      rfl
    · rw [hI]; unfold lens; rw [List.take_succ_eq_append_getElem hi, List.map_append]; rfl
  · simp only
    rw [cnd_f (ilt_f (by simp only [len]; omega)), hI, List.take_length]
theorem itI_rows (K : Option Int) (k : Int) : ∀ (l : List Row) (i : Nat), ((∀ r ∈ l, rowE r = 0) → K = some k) → itI (fun _ (r : Row) (_ : Unit) => if rowE r ≠ 0 then (.inl (some (rowE r)) : Option Int ⊕ Unit) else .inr ()) (fun _ => K) i l () = some (rowsE l k)
  | [], i, h => h fun r hr => by cases hr
  | r :: l, i, h => by
    simp only [itI, rowsE]
    by_cases hc : rowE r ≠ 0
    · rw [if_pos hc, if_pos hc]
    · rw [if_neg hc, if_neg hc]
      refine itI_rows K k l (i + 1) fun hl => h fun q hq => ?_
      rcases List.mem_cons.1 hq with rfl | hq
      · simpa using hc
      · exact hl q hq
theorem event_check_eq {x : Ev} {rs : List Reg} (hs : smallL x.2.2.2.2.2) (hr : rs.length ≤ 4000000) : event_Check fuelH (x, rs) = some (evChk x rs) := by
  unfold event_Check evChk
  simp only
  rw [region_find _ hr, bnd_some', cnd_ilt]
  by_cases c1 : x.1 < 1
  · rw [if_pos c1, if_pos c1]
  rw [if_neg c1, if_neg c1, cnd_ilt]
  by_cases c2 : 1099511627776 < x.1
  · rw [if_pos c2, if_pos c2]
  rw [if_neg c2, if_neg c2, spans_eq, bnd_some', cnd_bnot]
  by_cases c3 : 0 ≤ x.2.1.1 ∧ x.2.1.1 < x.2.1.2 ∧ x.2.1.2 ≤ 5184000
  · rw [if_pos c3, if_neg (not_not_intro c3)]
    unfold findP
    cases hf : findR rs x.2.2.1 with
    | none => rfl
    | some r =>
      simp only
      rw [cnd_f (by rfl)]
      obtain ⟨s, k1, k2⟩ := kind_tab x.2.2.2.1
      rw [bnd_s k1, k2, cnd_dec]
      by_cases c4 : 1 ≤ n8 x.2.2.2.1 ∧ n8 x.2.2.2.1 ≤ 4
      · rw [if_neg (not_not_intro c4), if_neg (not_not_intro c4), jn_sp _ _ _ (lines_name _), cnd_dec]
        by_cases c5 : x.2.2.2.2.1 ≠ [] ∧ nm x.2.2.2.2.1 = false
        · rw [if_pos c5, if_pos c5]
        rw [if_neg c5, if_neg c5]
        by_cases c6 : x.2.2.2.2.2.length = 0
        · rw [cnd_t (ieq_t (by simp only [len]; omega)), if_pos c6]
        rw [cnd_f (ieq_f (by simp only [len]; omega)), if_neg c6]
        by_cases c7 : 4 < x.2.2.2.2.2.length
        · rw [cnd_t (ilt_t (by simp only [len]; omega)), if_pos c7]
        rw [cnd_f (ilt_f (by simp only [len]; omega)), if_neg c7, jn_e]
        have hlen := @event_lens_eq x
        generalize x.2.2.2.2.2 = l at hs c6 c7 hlen ⊢
        refine Eq.trans (lst_it (l := l) (fun (_ : Unit) (p : Nat) => (p : Int)) (fun _ (r : Row) (_ : Unit) => if rowE r ≠ 0 then .inl (some (rowE r)) else .inr ()) (fun _ => bnd (event_lens fuelH x) fun v5 => bnd (region_Place fuelH (r, v5)) fun v6 => some v6.2) (fun _ _ => True) (fun self a i hi _ => ?_) (fun self a _ => ?_) fuelH 0 () (Nat.zero_le _) (by have := fuelH_eq; omega) trivial) (itI_rows _ _ l 0 fun hl => ?_)
        · rw [cnd_t (ilt_t (by simp only [len]; omega)), grd_t (inb_t (by simp only [len]; omega)), lget_i hi, bnd_s (event_row_eq (hs _ (List.getElem_mem hi))), w64_succ hi (by omega)]
          by_cases hc : rowE l[i] ≠ 0
          · rw [if_pos hc, cnd_t (ine_t hc)]; rfl
          · rw [if_neg hc, cnd_f (ine_f (by simpa using hc))]
            exact ⟨rfl, trivial⟩
        · rw [cnd_f (ilt_f (by simp only [len]; omega))]
        · rw [bnd_s (hlen (fun q hq => rowE_ok (hs q hq) (hl q hq)) (by omega)), bnd_s (region_place _ _)]
      · rw [if_pos c4, if_pos c4]
  · rw [if_neg c3, if_pos c3]
end
end Go.Mo
end

section
/-
  Plain facts: the header of a document; events by their number; the length of an event.
-/
namespace Go.Mo
open Go Go.W Go.Lib
set_option maxRecDepth 100000
noncomputable section
abbrev Cmt := Int × Int × Int × Int × List UInt8 × List UInt8 × Bool × Bool
abbrev Doc := List UInt8 × List UInt8 × UInt8 × Bool × Int × List Reg × List Ev × List Cmt

def tvB (r : UInt8) : Bool := (timebase_Valid fuelH r).getD false
def cdB (r : UInt8) : Bool := (timebase_CanDrop fuelH r).getD false
theorem tv_eq (r : UInt8) : timebase_Valid fuelH r = some (tvB r) ∧ timebase_CanDrop fuelH r = some (cdB r) :=
  of_decide_eq_true (all_u8 (P := fun r => decide (timebase_Valid fuelH r = some (tvB r) ∧ timebase_CanDrop fuelH r = some (cdB r))) (by kernel_rfl) r)
def rateBad (r : UInt8) (drop : Bool) : Prop := tvB r = false ∨ (drop = true ∧ cdB r = false)
instance (r : UInt8) (drop : Bool) : Decidable (rateBad r drop) := by unfold rateBad; infer_instance
def headChk (d : Doc) : Int :=
  if vld d.1 = false then 10 else if 400 < d.1.length then 9 else if d.2.1 ≠ [] ∧ nm d.2.1 = false then 5 else
  if rateBad d.2.2.1 d.2.2.2.1 then 13 else if d.2.2.2.2.1 < 0 then 2 else if 1099511627776 < d.2.2.2.2.1 then 2 else 0
theorem rate_chk (r : UInt8) (b : Bool) : document_rate fuelH (r, b) = some (if rateBad r b then 13 else 0) := by
  unfold document_rate
  obtain ⟨h1, h2⟩ := tv_eq r
  simp only
  rw [h1, bnd_some']
  by_cases c1 : tvB r = false
  · rw [cnd_t (by rw [c1]; rfl), if_pos (show rateBad r b from .inl c1)]
  · rw [cnd_f (by rw [← Bool.not_eq_true, bnot_t]; exact c1)]
    cases b with
    | false =>
      rw [cnd_f rfl, if_neg]
      rintro (h | h)
      · exact c1 h
      · cases h.1
    | true =>
      rw [cnd_t rfl, h2, bnd_some']
      by_cases c2 : cdB r = false
      · rw [cnd_t (by rw [c2]; rfl), if_pos (show rateBad r true from .inr ⟨rfl, c2⟩)]
      · rw [cnd_f (by rw [← Bool.not_eq_true, bnot_t]; exact c2), if_neg]
        rintro (h | h)
        · exact c1 h
        · exact c2 h.2
theorem header_eq {d : Doc} (hd : d.1.length ≤ 4000000) : document_header fuelH d = some (headChk d) := by
  unfold document_header headChk
  rw [jn_e, ch_valid _ hd, bnd_some']
  by_cases c1 : vld d.1 = false
  · rw [cnd_t (by rw [c1]; rfl), if_pos c1]
  rw [cnd_f (by rw [← Bool.not_eq_true, bnot_t]; exact c1), if_neg c1]
  by_cases c2 : 400 < d.1.length
  · rw [cnd_t (ilt_t (by simp only [len]; omega)), if_pos c2]
  rw [cnd_f (ilt_f (by simp only [len]; omega)), if_neg c2, lines_name, bnd_some', rate_chk, bnd_some']
  have hrest : cnd (ine (if rateBad d.2.2.1 d.2.2.2.1 then (13 : Int) else 0) 0) (some (if rateBad d.2.2.1 d.2.2.2.1 then (13 : Int) else 0)) (cnd (ilt d.2.2.2.2.1 0) (some (2 : Int)) (cnd (ilt 1099511627776 d.2.2.2.2.1) (some 2) (some 0))) = some (if rateBad d.2.2.1 d.2.2.2.1 then 13 else if d.2.2.2.2.1 < 0 then 2 else if 1099511627776 < d.2.2.2.2.1 then 2 else 0) := by
    by_cases c4 : rateBad d.2.2.1 d.2.2.2.1
    · rw [if_pos c4, if_pos c4]; rfl
    · rw [if_neg c4, if_neg c4, cnd_f (by rfl), cnd_ilt, cnd_ilt]
      by_cases c5 : d.2.2.2.2.1 < 0
      · rw [if_pos c5, if_pos c5]
      rw [if_neg c5, if_neg c5]
      by_cases c6 : 1099511627776 < d.2.2.2.2.1
      · rw [if_pos c6, if_pos c6]
      · rw [if_neg c6, if_neg c6]
  rw [hrest]
  generalize (if rateBad d.2.2.1 d.2.2.2.1 then (13 : Int) else if d.2.2.2.2.1 < 0 then 2 else if 1099511627776 < d.2.2.2.2.1 then 2 else 0) = R
  by_cases c3 : d.2.1 = []
  · rw [cnd_f (by simp [sne, c3]), if_neg fun h => h.1 c3]
  · rw [cnd_t (by simp [sne, c3])]
    by_cases c4 : nm d.2.1 = false
    · rw [cnd_t (by rw [c4]; rfl), if_pos ⟨c3, c4⟩]
    · rw [cnd_f (by rw [← Bool.not_eq_true, bnot_t]; exact c4), if_neg fun h => c4 h.2]
/-- the events' numbers with their places -/
def mapE : Nat → List Ev → List (Int × Int)
  | _, [] => []
  | i, x :: l => (x.1, (i : Int)) :: mapE (i + 1) l
def findE : Nat → List Ev → Int → Int
  | _, [], _ => -1
  | i, x :: l, k => if x.1 = k then (i : Int) else findE (i + 1) l k
def hasE (l : List Ev) (k : Int) : Prop := ∃ x ∈ l, x.1 = k
instance (l : List Ev) (k : Int) : Decidable (hasE l k) := by unfold hasE; infer_instance
theorem mapE_app : ∀ (a b : List Ev) (i : Nat), mapE i (a ++ b) = mapE i a ++ mapE (i + a.length) b
  | [], b, i => by simp [mapE]
  | x :: a, b, i => by
    simp only [List.cons_append, mapE, mapE_app a b (i + 1), List.length_cons]
    congr 3; omega
theorem mhas_mapE : ∀ (l : List Ev) (i : Nat) (k : Int), mhas ieq (mapE i l) k = decide (hasE l k)
  | [], i, k => by simp [mapE, mhas, hasE]
  | x :: l, i, k => by
    simp only [mapE, mhas, mhas_mapE l (i + 1) k]
    by_cases h : k = x.1
    · rw [ieq_t h, decide_eq_true (show hasE (x :: l) k from ⟨x, List.mem_cons_self, h.symm⟩)]; rfl
    · rw [ieq_f h]
      show (false || _) = _
      rw [Bool.false_or]
      exact decide_eq_decide.2 ⟨fun ⟨y, h1, h2⟩ => ⟨y, List.mem_cons_of_mem _ h1, h2⟩, fun ⟨y, h1, h2⟩ => by
        rcases List.mem_cons.1 h1 with rfl | h1
        · exact absurd h2.symm h
        · exact ⟨y, h1, h2⟩⟩
theorem mput_new {k v : Int} : ∀ (m : List (Int × Int)), mhas ieq m k = false → mput ieq m k v = m ++ [(k, v)]
  | [], _ => rfl
  | x :: m, h => by
    simp only [mhas, bor, Bool.or_eq_false_iff] at h
    simp only [mput, h.1, mput_new m h.2]
    rfl
theorem mget_mapE : ∀ (l : List Ev) (i : Nat) (k : Int), hasE l k → mget ieq 0 (mapE i l) k = findE i l k
  | [], i, k, h => by obtain ⟨x, h, _⟩ := h; cases h
  | x :: l, i, k, h => by
    simp only [mapE, mget, findE]
    by_cases hc : x.1 = k
    · rw [ieq_t hc.symm, if_pos hc]; rfl
    · rw [ieq_f (fun e => hc e.symm), if_neg hc]
      obtain ⟨y, h1, h2⟩ := h
      rcases List.mem_cons.1 h1 with rfl | h1
      · exact absurd h2 hc
      · exact mget_mapE l (i + 1) k ⟨y, h1, h2⟩
theorem findE_yes : ∀ (l : List Ev) (i : Nat) (k : Int), hasE l k → ∃ j, ∃ h : j < l.length, findE i l k = ((i + j : Nat) : Int) ∧ l[j].1 = k ∧ ¬ hasE (l.take j) k
  | [], i, k, h => by obtain ⟨x, h, _⟩ := h; cases h
  | x :: l, i, k, h => by
    simp only [findE]
    by_cases hc : x.1 = k
    · exact ⟨0, by simp, by rw [if_pos hc]; rfl, hc, fun ⟨y, h1, _⟩ => by cases h1⟩
    · obtain ⟨y, h1, h2⟩ := h
      rcases List.mem_cons.1 h1 with rfl | h1
      · exact absurd h2 hc
      · obtain ⟨j, hj, e1, e2, e3⟩ := findE_yes l (i + 1) k ⟨y, h1, h2⟩
        refine ⟨j + 1, by simpa using hj, ?_, by simpa using e2, ?_⟩
        · rw [if_neg hc, e1]; congr 1; omega
        · rintro ⟨z, h3, h4⟩
          rw [List.take_succ_cons] at h3
          rcases List.mem_cons.1 h3 with rfl | h3
          · exact hc h4
          · exact e3 ⟨z, h3, h4⟩
def lessE (a b : Ev) : Prop := a.2.1.1 < b.2.1.1 ∨ (a.2.1.1 = b.2.1.1 ∧ a.1 < b.1)
instance (a b : Ev) : Decidable (lessE a b) := by unfold lessE; infer_instance
theorem cmp_eq (N : Nat) (a b : Int) : cmp_Compare_int64 N (a, b) = some (if a < b then -1 else if b < a then 1 else 0) := by
  unfold cmp_Compare_int64
  have h : ∀ x : Int, cmp_isNaN_int64 N x = some false := fun x => by
    show some (ine x x) = _
    rw [ine_f rfl]
  simp only
  rw [h, h, bnd_some', bnd_some', cnd_f rfl, cnd_f rfl, cnd_ilt, cnd_ilt]
  by_cases h1 : a < b
  · rw [if_pos h1, if_pos h1]
  · rw [if_neg h1, if_neg h1]
    by_cases h2 : b < a
    · rw [if_pos h2, if_pos h2]
    · rw [if_neg h2, if_neg h2]
theorem or_eq (a b : Int) : cmp_Or_int fuelH [a, b] = some (if a ≠ 0 then a else b) := by
  have h : cmp_Or_int fuelH [a, b] = cnd (ine a 0) (some a) (cnd (ine b 0) (some b) (some 0)) := by kernel_rfl
  rw [h, cnd_ine, cnd_ine]
  by_cases h1 : a ≠ 0
  · rw [if_pos h1, if_pos h1]
  · rw [if_neg h1, if_neg h1]
    by_cases h2 : b ≠ 0
    · rw [if_pos h2]
    · rw [if_neg h2]; congr 1; omega
theorem event_less (a b : Ev) : event_Less fuelH (a, b) = some (decide (lessE a b)) := by
  unfold event_Less
  simp only
  rw [cmp_eq, bnd_some', cmp_eq, bnd_some', or_eq, bnd_some']
  congr 1
  by_cases h1 : a.2.1.1 < b.2.1.1
  · rw [if_pos h1, if_pos (by decide), @decide_eq_true (lessE a b) _ (.inl h1)]; rfl
  · rw [if_neg h1]
    by_cases h2 : b.2.1.1 < a.2.1.1
    · rw [if_pos h2, if_pos (by decide), @decide_eq_false (lessE a b) _ (by unfold lessE; omega)]; rfl
    · rw [if_neg h2, if_neg (by decide)]
      by_cases h3 : a.1 < b.1
      · rw [if_pos h3, @decide_eq_true (lessE a b) _ (by unfold lessE; omega)]; rfl
      · rw [if_neg h3, @decide_eq_false (lessE a b) _ (by unfold lessE; omega)]
        split <;> rfl
end
end Go.Mo
end

section
/-
  Plain facts: the events of a document, checked one after the other; the length of an event.
-/
namespace Go.Mo
open Go Go.W Go.Lib
set_option maxRecDepth 100000
noncomputable section

def errL {α : Type} (R : List α → α → Int) : List α → List α → Int
  | _, [] => 0
  | pre, x :: l => if R pre x ≠ 0 then R pre x else errL R (pre ++ [x]) l
theorem errL_zero {α : Type} {R : List α → α → Int} : ∀ (l pre : List α), errL R pre l = 0 → ∀ j (h : j < l.length), R (pre ++ l.take j) l[j] = 0
  | [], _, _, j, h => by simp at h
  | x :: l, pre, h0, j, h => by
    simp only [errL] at h0
    split at h0
    · rename_i hc; exact absurd h0 hc
    · rename_i hc
      cases j with
      | zero => simpa using hc
      | succ j =>
        have := errL_zero l (pre ++ [x]) h0 j (by simpa using h)
        simpa using this
theorem loop_err {V σ α ρ : Type} {F : (V → Option ρ) → V → Option ρ} {l : List α} (st : σ → Nat → V) (g : List α → σ) (R : List α → α → Int) (w : Int → ρ) (K : Option ρ)
    (hstep : ∀ self i (h : i < l.length), F self (st (g (l.take i)) i) = if R (l.take i) l[i] ≠ 0 then some (w (R (l.take i) l[i])) else self (st (g (l.take (i + 1))) (i + 1)))
    (hend : (∀ j (h : j < l.length), R (l.take j) l[j] = 0) → ∀ self, F self (st (g l) l.length) = K) :
    ∀ (fuel i : Nat), i ≤ l.length → l.length - i < fuel → (∀ j (h : j < l.length), j < i → R (l.take j) l[j] = 0) →
    fixN F fuel (st (g (l.take i)) i) = if errL R (l.take i) (l.drop i) ≠ 0 then some (w (errL R (l.take i) (l.drop i))) else K
  | 0, i, _, h, _ => by omega
  | fuel + 1, i, hi, h, hp => by
    rw [fixN_s]
    by_cases hl : i < l.length
    · rw [hstep _ i hl, List.drop_eq_getElem_cons hl, errL]
      by_cases hc : R (l.take i) l[i] ≠ 0
      · rw [if_pos hc, if_pos hc, if_pos hc]
      · rw [if_neg hc, if_neg hc]
        have ih := loop_err st g R w K hstep hend fuel (i + 1) (by omega) (by omega) (fun j hj hji => by
          by_cases e : j = i
          · subst e; simpa using hc
          · exact hp j hj (by omega))
        rw [ih, List.take_succ_eq_append_getElem hl]
    · obtain rfl : i = l.length := by omega
      rw [List.take_length, hend (fun j hj => hp j hj hj), List.drop_length]
      rfl

def sumT : List Row → Nat
  | [] => 0
  | r :: l => lenT r + sumT l
def evLen (x : Ev) : Int := ((x.2.2.2.2.2.length - 1 + sumT x.2.2.2.2.2 : Nat) : Int)
theorem sumT_take : ∀ (l : List Row) (i : Nat) (h : i < l.length), sumT (l.take (i + 1)) = sumT (l.take i) + lenT l[i]
  | x :: l, 0, _ => by simp [sumT]
  | x :: l, i + 1, h => by
    have := sumT_take l i (by simpa using h)
    simp only [List.take_succ_cons, sumT, this, List.getElem_cons_succ]
    omega
theorem lenT_tot {l : Row} (h : okR l) : lenT l ≤ 64000000 := by
  have h1 := lenT_le l fun x hx => (h.2.1 x hx).2
  have h2 := h.1
  omega
theorem sumT_le : ∀ (l : List Row), (∀ r ∈ l, okR r) → sumT l ≤ 64000000 * l.length
  | [], _ => Nat.le_refl _
  | r :: l, h => by
    have h1 := lenT_tot (h r List.mem_cons_self)
    have h2 := sumT_le l fun q hq => h q (List.mem_cons_of_mem _ hq)
    simp only [sumT, List.length_cons]
    omega
theorem sumT_take_le (l : List Row) (h : ∀ r ∈ l, okR r) (i : Nat) : sumT (l.take i) ≤ 64000000 * l.length := by
  have h1 := sumT_le (l.take i) fun r hr => h r (List.mem_of_mem_take hr)
  have : (l.take i).length ≤ l.length := by rw [List.length_take]; omega
  omega
theorem event_len_eq {x : Ev} (h : ∀ l ∈ x.2.2.2.2.2, okR l) (hl : x.2.2.2.2.2.length ≤ 1000) : event_Len fuelH x = some (evLen x) := by
  unfold event_Len evLen
  rw [jn_e, bnd_s (event_lens_eq h (by omega))]
  generalize x.2.2.2.2.2 = l at h hl ⊢
  have hll : (lens l).length = l.length := by unfold lens; rw [List.length_map]
  have e0 : imax (w64 (isub (len l) 1)) 0 = ((l.length - 1 : Nat) : Int) := by
    simp only [isub, imax, len]
    rw [w64_id (by omega)]
    omega
  rw [e0]
  refine loop_inv (n := l.length) (fun (a : Nat) (i : Nat) => ((a : Int), (i : Int))) (fun i a => a = l.length - 1 + sumT (l.take i)) _ (fun self a i hi hI => ?_) (fun self a hI => ?_) fuelH 0 (l.length - 1) (Nat.zero_le _) (by have := fuelH_eq; omega) (by simp [sumT])
  · refine ⟨a + lenT l[i], ?_, ?_⟩
    · have ht := sumT_take_le l h i
      have hb := lenT_tot (h _ (List.getElem_mem hi))
      have hin : inb (i : Int) (len (lens l)) = true := inb_t (by simp only [len, hll]; omega)
      have hg : lget (lens l) (toN (i : Int)) (0 : Int) = (lenT l[i] : Int) := by
        rw [lget_i (by omega)]
        simp [lens]
      simp only
      rw [cnd_t (ilt_t (by simp only [len, hll]; omega)), grd_t hin, hg, cnd_f (ilt_f (by omega)), w64_succ hi (by omega)]
      have e : w64 (iadd (a : Int) (lenT l[i] : Int)) = ((a + lenT l[i] : Nat) : Int) := by
        unfold iadd; rw [w64_id (by omega)]; omega
      rw [e]
    · rw [sumT_take l i hi, hI]; omega
  · simp only
    rw [cnd_f (ilt_f (by simp only [len, hll]; omega)), hI, List.take_length]
theorem rowsE_zero : ∀ (l : List Row) (k : Int), rowsE l k = 0 → (∀ r ∈ l, rowE r = 0) ∧ k = 0
  | [], k, h => ⟨fun r hr => (by cases hr), h⟩
  | r :: l, k, h => by
    simp only [rowsE] at h
    split at h
    · rename_i hc; exact absurd h hc
    · rename_i hc
      obtain ⟨h1, h2⟩ := rowsE_zero l k h
      refine ⟨fun q hq => ?_, h2⟩
      rcases List.mem_cons.1 hq with rfl | hq
      · simpa using hc
      · exact h1 q hq
theorem ev_ok {x : Ev} {rs : List Reg} (h : evChk x rs = 0) : 1 ≤ x.1 ∧ x.1 ≤ 1099511627776 ∧ (0 ≤ x.2.1.1 ∧ x.2.1.1 < x.2.1.2 ∧ x.2.1.2 ≤ 5184000) ∧ 0 < x.2.2.2.2.2.length ∧ x.2.2.2.2.2.length ≤ 4 ∧ (∀ r ∈ x.2.2.2.2.2, rowE r = 0) ∧ ∃ r, findR rs x.2.2.1 = some r ∧ (placeS r (lens x.2.2.2.2.2)).2 = 0 := by
  unfold evChk at h
  split at h
  · cases h
  split at h
  · cases h
  split at h
  · cases h
  rename_i c1 c2 c3
  split at h
  · cases h
  rename_i r hr
  split at h
  · cases h
  split at h
  · cases h
  split at h
  · cases h
  split at h
  · cases h
  rename_i c6 c7
  obtain ⟨h1, h2⟩ := rowsE_zero _ _ h
  exact ⟨by omega, by omega, by omega, by omega, by omega, h1, r, hr, h2⟩

def ordB (p : Option Ev) (x : Ev) : Bool := match p with
  | some q => decide (lessE q x)
  | none => true
def evRnd (rs : List Reg) (last : Int) (pre : List Ev) (x : Ev) : Int :=
  if evChk x rs ≠ 0 then evChk x rs else if last < x.1 then 2 else if ordB pre.getLast? x = false then 8 else if hasE pre x.1 then 7 else 0
def evsChk (d : Doc) : Int := errL (evRnd d.2.2.2.2.2.1 d.2.2.2.2.1) [] d.2.2.2.2.2.2.1
theorem evRnd_ok {rs : List Reg} {last : Int} {pre : List Ev} {x : Ev} (h : evRnd rs last pre x = 0) : evChk x rs = 0 ∧ x.1 ≤ last ∧ ordB pre.getLast? x = true ∧ ¬ hasE pre x.1 := by
  unfold evRnd at h
  split at h
  · rename_i hc; exact absurd h hc
  rename_i c1
  split at h
  · cases h
  rename_i c2
  split at h
  · cases h
  rename_i c3
  split at h
  · cases h
  rename_i c4
  exact ⟨by simpa using c1, by omega, by simpa using c3, c4⟩
theorem last_take {α : Type} {l : List α} {i : Nat} (h : i < l.length) : (l.take (i + 1)).getLast? = some l[i] := by
  rw [List.take_succ_eq_append_getElem h, List.getLast?_concat]
end
end Go.Mo
end

section
/-
  Plain facts: the comments of a document, on both sides.
-/
namespace Go.Mo
open Go Go.W Go.Lib
set_option maxRecDepth 100000
noncomputable section

theorem jn_u {α : Type} {K : Unit → Option α} {X : Option α} (h : K () = X) (T : (Unit → Option α) → Option α) : jn K T = T fun _ => X := by
  rw [jn_e, show K = fun _ => X from funext fun _ => h]
def cOrd (p : Option Cmt) (c : Cmt) : Bool := match p with
  | some q => decide (q.1 < c.1)
  | none => true
def evZ : Ev := (0, (0, 0), [], 0, [], [])
def evAt (l : List Ev) (k : Int) : Ev := lget l (toN (findE 0 l k)) evZ
def ancE (d : Doc) (c : Cmt) : Int :=
  if c.2.1 < 1 then 2 else if d.2.2.2.2.1 < c.2.1 then 2 else
  if c.2.2.2.2.2.2.2 = true then (if c.2.2.1 ≠ 0 then 2 else if c.2.2.2.1 ≠ 0 then 2 else 0) else
  if ¬ hasE d.2.2.2.2.2.2.1 c.2.1 then 6 else if c.2.2.1 < 0 then 2 else if c.2.2.2.1 ≤ c.2.2.1 then 2 else
  if evLen (evAt d.2.2.2.2.2.2.1 c.2.1) < c.2.2.2.1 then 2 else 0
def endE (c : Cmt) : Int := if nm c.2.2.2.2.1 = false then 5 else if vld c.2.2.2.2.2.1 = false then 10 else if c.2.2.2.2.2.1 = [] then 4 else if 400 < c.2.2.2.2.2.1.length then 9 else 0
def tailE (d : Doc) (c : Cmt) : Int := if ancE d c ≠ 0 then ancE d c else endE c
def cmtRnd (d : Doc) (pre : List Cmt) (c : Cmt) : Int :=
  if c.1 < 1 then 2 else if d.2.2.2.2.1 < c.1 then 2 else if cOrd pre.getLast? c = false then 8 else if hasE d.2.2.2.2.2.2.1 c.1 then 7 else tailE d c
def cmtsChk (d : Doc) : Int := if 64 < d.2.2.2.2.2.2.2.length then 9 else errL (cmtRnd d) [] d.2.2.2.2.2.2.2
/-- the events are good, the texts of comments not too long -/
def goodD (d : Doc) : Prop := (∀ x ∈ d.2.2.2.2.2.2.1, (∀ r ∈ x.2.2.2.2.2, okR r) ∧ x.2.2.2.2.2.length ≤ 4) ∧ d.2.2.2.2.2.2.1.length ≤ 400 ∧ ∀ c ∈ d.2.2.2.2.2.2.2, c.2.2.2.2.2.1.length ≤ 4000000
theorem evAt_lenS {d : Doc} (hg : goodD d) {k : Int} (h : hasE d.2.2.2.2.2.2.1 k) : inb (findE 0 d.2.2.2.2.2.2.1 k) (len d.2.2.2.2.2.2.1) = true ∧ 0 ≤ findE 0 d.2.2.2.2.2.2.1 k ∧ event_Len fuelH (evAt d.2.2.2.2.2.2.1 k) = some (evLen (evAt d.2.2.2.2.2.2.1 k)) := by
  obtain ⟨j, hj, e1, e2, e3⟩ := findE_yes _ 0 k h
  have he : evAt d.2.2.2.2.2.2.1 k = d.2.2.2.2.2.2.1[j] := by
    unfold evAt
    rw [e1, Nat.zero_add, lget_i hj]
  obtain ⟨h1, h2⟩ := hg.1 _ (List.getElem_mem hj)
  rw [he]
  refine ⟨by rw [e1]; exact inb_t (by simp only [len]; omega), by omega, event_len_eq h1 (by omega)⟩
theorem anchored_eq {d : Doc} (hg : goodD d) (c : Cmt) : document_anchored fuelH (d, c, mapE 0 d.2.2.2.2.2.2.1) = some (ancE d c, mapE 0 d.2.2.2.2.2.2.1) := by
  unfold document_anchored ancE
  simp only
  rw [cnd_ilt]
  by_cases c1 : c.2.1 < 1
  · rw [if_pos c1, if_pos c1]
  rw [if_neg c1, if_neg c1, cnd_ilt]
  by_cases c2 : d.2.2.2.2.1 < c.2.1
  · rw [if_pos c2, if_pos c2]
  rw [if_neg c2, if_neg c2]
  by_cases c3 : c.2.2.2.2.2.2.2 = true
  · rw [cnd_t c3, if_pos c3, cnd_ine, cnd_ine]
    by_cases c4 : c.2.2.1 ≠ 0
    · rw [if_pos c4, if_pos c4]
    rw [if_neg c4, if_neg c4]
    by_cases c5 : c.2.2.2.1 ≠ 0
    · rw [if_pos c5, if_pos c5]
    · rw [if_neg c5, if_neg c5]
  · rw [cnd_f (by simpa using c3), if_neg c3, mhas_mapE, cnd_bnot]
    by_cases c4 : hasE d.2.2.2.2.2.2.1 c.2.1
    · rw [if_pos c4, if_neg (not_not_intro c4), cnd_ilt]
      by_cases c5 : c.2.2.1 < 0
      · rw [if_pos c5, if_pos c5]
      rw [if_neg c5, if_neg c5, cnd_ile]
      by_cases c6 : c.2.2.2.1 ≤ c.2.2.1
      · rw [if_pos c6, if_pos c6]
      obtain ⟨q1, q2, q3⟩ := evAt_lenS hg c4
      have hm : mget ieq (0 : Int) (mapE 0 d.2.2.2.2.2.2.1) c.2.1 = findE 0 d.2.2.2.2.2.2.1 c.2.1 := mget_mapE _ _ _ c4
      rw [if_neg c6, if_neg c6, hm, grd_t q1]
      refine Eq.trans (bnd_s (show event_Len fuelH (lget d.2.2.2.2.2.2.1 (toN (findE 0 d.2.2.2.2.2.2.1 c.2.1)) evZ) = _ from q3)) ?_
      rw [cnd_ilt]
      by_cases c7 : evLen (evAt d.2.2.2.2.2.2.1 c.2.1) < c.2.2.2.1
      · rw [if_pos c7, if_pos c7]
      · rw [if_neg c7, if_neg c7]
    · rw [if_neg c4, if_pos c4]
theorem comments_eq {d : Doc} (hg : goodD d) : document_comments fuelH (d, mapE 0 d.2.2.2.2.2.2.1) = some (cmtsChk d, mapE 0 d.2.2.2.2.2.2.1) := by
  unfold document_comments cmtsChk
  simp only
  by_cases h : 64 < d.2.2.2.2.2.2.2.length
  · rw [cnd_t (ilt_t (by simp only [len]; omega)), if_pos h]
  rw [cnd_f (ilt_f (by simp only [len]; omega)), if_neg h, jn_e]
  have hanc := fun c => anchored_eq hg c
  have hvl := hg.2.2
  generalize hm : mapE 0 d.2.2.2.2.2.2.1 = m at hanc ⊢
  have hmh : ∀ k, mhas ieq m k = decide (hasE d.2.2.2.2.2.2.1 k) := fun k => by rw [← hm]; exact mhas_mapE _ _ _
  generalize hl : d.2.2.2.2.2.2.2 = l at h hvl ⊢
  refine Eq.trans (loop_err (l := l) (fun (_ : Unit) (p : Nat) => ((p : Int), m)) (fun _ => ()) (cmtRnd d) (fun e => (e, m)) (some (0, m)) (fun self i hi => ?_) (fun _ self => ?_) fuelH 0 (Nat.zero_le _) (by have := fuelH_eq; omega) (fun j _ hj => by omega)) ?_
  · have hin : inb (i : Int) (len l) = true := inb_t (by simp only [len]; omega)
    have hv := hvl _ (List.getElem_mem hi)
    simp only
    rw [cnd_t (ilt_t (by simp only [len]; omega)), grd_t hin, lget_i hi]
    refine Eq.trans (jn_u (X := if tailE d l[i] ≠ 0 then some (tailE d l[i], m) else self (((i + 1 : Nat) : Int), m)) ?_ _) ?_
    · skip
      rw [hanc, bnd_some']
      unfold tailE
      by_cases c1 : ancE d l[i] ≠ 0
      · rw [if_pos c1, if_pos c1, cnd_t (ine_t c1)]
      · rw [if_neg c1, cnd_f (ine_f (by simpa using c1)), lines_name, bnd_some']
        unfold endE
        by_cases c2 : nm l[i].2.2.2.2.1 = false
        · rw [cnd_t (by rw [c2]; rfl), if_pos c2, if_pos (by decide)]
        rw [cnd_f (by rw [← Bool.not_eq_true, bnot_t]; exact c2), if_neg c2, ch_valid _ hv, bnd_some']
        by_cases c3 : vld l[i].2.2.2.2.2.1 = false
        · rw [cnd_t (by rw [c3]; rfl), if_pos c3, if_pos (by decide)]
        rw [cnd_f (by rw [← Bool.not_eq_true, bnot_t]; exact c3), if_neg c3]
        by_cases c4 : l[i].2.2.2.2.2.1 = []
        · rw [cnd_t (by rw [seq_t]; exact c4), if_pos c4, if_pos (by decide)]
        rw [cnd_f (by rw [← Bool.not_eq_true, seq_t]; exact c4), if_neg c4]
        by_cases c5 : 400 < l[i].2.2.2.2.2.1.length
        · rw [cnd_t (ilt_t (by simp only [len]; omega)), if_pos c5, if_pos (by decide)]
        · rw [cnd_f (ilt_f (by simp only [len]; omega)), if_neg c5, if_neg (by decide), w64_succ hi (by omega)]
    · simp only
      rw [cnd_ilt, cnd_ilt]
      unfold cmtRnd
      by_cases c1 : l[i].1 < 1
      · rw [if_pos c1, if_pos c1, if_pos (by decide)]
      rw [if_neg c1, if_neg c1]
      by_cases c2 : d.2.2.2.2.1 < l[i].1
      · rw [if_pos c2, if_pos c2, if_pos (by decide)]
      rw [if_neg c2, if_neg c2, hmh]
      cases i with
      | zero =>
        rw [cnd_f (by rfl)]
        have e0 : cOrd (l.take 0).getLast? l[0] = true := rfl
        rw [e0, if_neg (show ¬ true = false by decide), cnd_dec]
        by_cases c3 : hasE d.2.2.2.2.2.2.1 l[0].1
        · rw [if_pos c3, if_pos c3, if_pos (by decide)]
        · rw [if_neg c3, if_neg c3]
      | succ i =>
        rw [cnd_t (ilt_t (by omega)), w64_back (by omega), grd_t (inb_t (by simp only [len]; omega)), lget_i (show i < l.length by omega), cnd_ile, cnd_dec]
        have e0 : cOrd (l.take (i + 1)).getLast? l[i + 1] = decide (l[i].1 < l[i + 1].1) := by rw [last_take (show i < l.length by omega)]; rfl
        rw [e0]
        by_cases c4 : l[i + 1].1 ≤ l[i].1
        · rw [if_pos c4, decide_eq_false (by omega), if_pos rfl, if_pos (by decide)]
        rw [if_neg c4, decide_eq_true (by omega), if_neg (show ¬ true = false by decide)]
        by_cases c3 : hasE d.2.2.2.2.2.2.1 l[i + 1].1
        · rw [if_pos c3, if_pos c3, if_pos (by decide)]
        · rw [if_neg c3, if_neg c3]
  · simp only
    rw [cnd_f (ilt_f (by simp only [len]; omega))]
  · rw [List.take_zero, List.drop_zero]
    by_cases hc : errL (cmtRnd d) [] l ≠ 0
    · rw [if_pos hc]
    · rw [if_neg hc]
      have hc : errL (cmtRnd d) [] l = 0 := by simpa using hc
      rw [hc]
end
end Go.Mo
end

section
/-
  Plain facts: the check of a document is the specified one.
-/
namespace Go.Mo
open Go Go.W Go.Lib
set_option maxRecDepth 100000
noncomputable section

def docChk (d : Doc) : Int :=
  if headChk d ≠ 0 then headChk d else if regsChk d.2.2.2.2.2.1 ≠ 0 then regsChk d.2.2.2.2.2.1 else
  if 400 < d.2.2.2.2.2.2.1.length then 9 else if evsChk d ≠ 0 then evsChk d else cmtsChk d
def smallD (d : Doc) : Prop := d.1.length ≤ 4000000 ∧ d.2.2.2.2.2.1.length ≤ 4000000 ∧ (∀ x ∈ d.2.2.2.2.2.2.1, smallL x.2.2.2.2.2) ∧ ∀ c ∈ d.2.2.2.2.2.2.2, c.2.2.2.2.2.1.length ≤ 4000000
theorem good_of {d : Doc} (hs : smallD d) (hn : d.2.2.2.2.2.2.1.length ≤ 400) (h : ∀ j (h : j < d.2.2.2.2.2.2.1.length), evRnd d.2.2.2.2.2.1 d.2.2.2.2.1 (d.2.2.2.2.2.2.1.take j) d.2.2.2.2.2.2.1[j] = 0) : goodD d := by
  refine ⟨fun x hx => ?_, hn, hs.2.2.2⟩
  obtain ⟨j, hj, rfl⟩ := List.mem_iff_getElem.1 hx
  obtain ⟨h1, _⟩ := evRnd_ok (h j hj)
  obtain ⟨_, _, _, _, h4, h5, _⟩ := ev_ok h1
  exact ⟨fun r hr => rowE_ok (hs.2.2.1 _ hx r hr) (h5 r hr), h4⟩
theorem mput_take {l : List Ev} {i : Nat} (hi : i < l.length) (hn : ¬ hasE (l.take i) l[i].1) : mput ieq (mapE 0 (l.take i)) l[i].1 (i : Int) = mapE 0 (l.take (i + 1)) := by
  rw [mput_new _ (by rw [mhas_mapE, decide_eq_false hn]), List.take_succ_eq_append_getElem hi, mapE_app]
  have : (l.take i).length = i := by rw [List.length_take]; omega
  rw [this, Nat.zero_add]
  rfl
theorem document_check {d : Doc} (hs : smallD d) : document_Check fuelH d = some (docChk d) := by
  unfold document_Check docChk
  rw [bnd_s (header_eq hs.1)]
  by_cases c1 : headChk d ≠ 0
  · rw [cnd_t (ine_t c1), if_pos c1]
  rw [cnd_f (ine_f (by simpa using c1)), if_neg c1, bnd_s (region_list _)]
  by_cases c2 : regsChk d.2.2.2.2.2.1 ≠ 0
  · rw [cnd_t (ine_t c2), if_pos c2]
  rw [cnd_f (ine_f (by simpa using c2)), if_neg c2]
  by_cases c3 : 400 < d.2.2.2.2.2.2.1.length
  · rw [cnd_t (ilt_t (by simp only [len]; omega)), if_pos c3]
  rw [cnd_f (ilt_f (by simp only [len]; omega)), if_neg c3, jn_e]
  have hgood := @good_of d hs (by omega)
  have hcm := @comments_eq d
  unfold evsChk
  have hev := hs.2.2.1
  generalize hl : d.2.2.2.2.2.2.1 = l at c3 hgood hcm hev ⊢
  refine Eq.trans (loop_err (l := l) (fun (a : List (Int × Int)) (p : Nat) => ((p : Int), a)) (fun pre => mapE 0 pre) (evRnd d.2.2.2.2.2.1 d.2.2.2.2.1) (fun e => e) (some (cmtsChk d)) (fun self i hi => ?_) (fun hz self => ?_) fuelH 0 (Nat.zero_le _) (by have := fuelH_eq; omega) (fun j _ hj => by omega)) ?_
  · have hin : inb (i : Int) (len l) = true := inb_t (by simp only [len]; omega)
    have hx := hev _ (List.getElem_mem hi)
    simp only
    rw [cnd_t (ilt_t (by simp only [len]; omega)), grd_t hin, lget_i hi, bnd_s (event_check_eq hx hs.2.1), cnd_ilt, w64_succ hi (by omega)]
    unfold evRnd
    by_cases e1 : evChk l[i] d.2.2.2.2.2.1 ≠ 0
    · rw [if_pos e1, if_pos e1, cnd_t (ine_t e1)]
    rw [if_neg e1, cnd_f (ine_f (by simpa using e1))]
    by_cases e2 : d.2.2.2.2.1 < l[i].1
    · rw [if_pos e2, if_pos e2, if_pos (by decide)]
    rw [if_neg e2, if_neg e2]
    have hput := fun h => mput_take hi h
    cases i with
    | zero =>
      rw [cnd_f (by rfl), mhas_mapE, cnd_dec]
      have e0 : ordB (l.take 0).getLast? l[0] = true := rfl
      rw [e0, if_neg (show ¬ true = false by decide)]
      by_cases e3 : hasE (l.take 0) l[0].1
      · rw [if_pos e3, if_pos e3, if_pos (by decide)]
      · rw [if_neg e3, if_neg e3, hput e3, if_neg (by decide)]
    | succ i =>
      rw [cnd_t (ilt_t (by omega)), w64_back (by omega), grd_t (inb_t (by simp only [len]; omega)), lget_i (show i < l.length by omega), bnd_s (event_less _ _), mhas_mapE, cnd_dec, cnd_bnot]
      have e0 : ordB (l.take (i + 1)).getLast? l[i + 1] = decide (lessE l[i] l[i + 1]) := by rw [last_take (show i < l.length by omega)]; rfl
      rw [e0]
      by_cases e4 : lessE l[i] l[i + 1]
      · rw [if_pos e4, decide_eq_true e4, if_neg (show ¬ true = false by decide)]
        by_cases e3 : hasE (l.take (i + 1)) l[i + 1].1
        · rw [if_pos e3, if_pos e3, if_pos (by decide)]
        · rw [if_neg e3, if_neg e3, hput e3, if_neg (by decide)]
      · rw [if_neg e4, decide_eq_false e4, if_pos rfl, if_pos (by decide)]
  · simp only
    rw [cnd_f (ilt_f (by simp only [len]; omega)), bnd_s (hcm (hgood hz))]
  · rw [List.take_zero, List.drop_zero]
    split <;> rfl
end
end Go.Mo
end

section
/-
  Plain facts: the place of a good event, and its region.
-/
namespace Go.Mo
open Go Go.W Go.Lib
set_option maxRecDepth 100000
noncomputable section

end
end Go.Mo
end

section
/-
  Plain facts: the document as the form carries it, on both sides.
-/
namespace Go.Mo
open Go Go.W Go.Lib
set_option maxRecDepth 100000
noncomputable section

end
end Go.Mo
end

section
/-
  Plain facts: a document is the same as itself; StlAccepts returns true.
-/
namespace Go.Mo
open Go Go.W Go.Lib
set_option maxRecDepth 100000
noncomputable section

theorem regs_self {l : List Reg} (hl : l.length ≤ 1000000) : slices_Equal_Lapi_Region_api_Region fuelH (l, l) = some true := by
  unfold slices_Equal_Lapi_Region_api_Region
  simp only
  rw [cnd_f (ine_f rfl), jn_e]
  refine loop_inv (n := l.length) (fun (_ : Unit) (i : Nat) => (i : Int)) (fun _ _ => True) _ (fun self a i hi _ => ⟨(), ?_, trivial⟩) (fun self a _ => ?_) fuelH 0 () (Nat.zero_le _) (by have := fuelH_eq; omega) trivial
  · have hin : inb (i : Int) (len l) = true := inb_t (by simp only [len]; omega)
    rw [cnd_t (ilt_t (by simp only [len]; omega)), grd_t hin, grd_t hin, lget_i hi, w64_succ hi (by omega), cnd_f]
    rw [← Bool.not_eq_true, bnot_t, Bool.eq_false_iff]
    intro h
    refine h ?_
    simp only [band_tt, seq_t, ieq_tt, beqb_t]
    simp
  · rw [cnd_f (ilt_f (by simp only [len]; omega))]
theorem ev_self {x : Ev} (h1 : x.2.2.2.2.2.length ≤ 4000000) (h2 : ∀ r ∈ x.2.2.2.2.2, r.length ≤ 4000000) : event_Same fuelH (x, x) = some true := by
  unfold event_Same
  simp only
  rw [cnd_t (ieq_t rfl), cnd_t (by simp [band_tt, ieq_tt]), cnd_t (by rw [seq_t]), cnd_t (ieq_t rfl), cnd_t (by rw [seq_t]), same_rows _ _ h1 h2, bnd_some']
  simp
theorem evs_self {l : List Ev} (hl : l.length ≤ 1000000) (h : ∀ x ∈ l, x.2.2.2.2.2.length ≤ 4000000 ∧ ∀ r ∈ x.2.2.2.2.2, r.length ≤ 4000000) : slices_EqualFunc_Lapi_Event_Lapi_Event_api_Event_api_Event fuelH (l, l) = some true := by
  unfold slices_EqualFunc_Lapi_Event_Lapi_Event_api_Event_api_Event
  simp only
  rw [cnd_f (ine_f rfl), jn_e]
  refine loop_inv (n := l.length) (fun (_ : Unit) (i : Nat) => (i : Int)) (fun _ _ => True) _ (fun self a i hi _ => ⟨(), ?_, trivial⟩) (fun self a _ => ?_) fuelH 0 () (Nat.zero_le _) (by have := fuelH_eq; omega) trivial
  · have hin : inb (i : Int) (len l) = true := inb_t (by simp only [len]; omega)
    obtain ⟨h1, h2⟩ := h _ (List.getElem_mem hi)
    rw [cnd_t (ilt_t (by simp only [len]; omega)), grd_t hin, grd_t hin, lget_i hi, w64_succ hi (by omega), bnd_s (ev_self h1 h2), cnd_f (by rfl)]
  · rw [cnd_f (ilt_f (by simp only [len]; omega))]
theorem doc_self {d : Doc} (h1 : d.2.2.2.2.2.1.length ≤ 1000000) (h2 : d.2.2.2.2.2.2.1.length ≤ 1000000) (h3 : ∀ x ∈ d.2.2.2.2.2.2.1, x.2.2.2.2.2.length ≤ 4000000 ∧ ∀ r ∈ x.2.2.2.2.2, r.length ≤ 4000000) (h4 : d.2.2.2.2.2.2.2 = []) : document_Same fuelH (d, d) = some true := by
  unfold document_Same
  have hh : document_Head fuelH d = some (d.1, d.2.1, d.2.2.1, d.2.2.2.1, d.2.2.2.2.1) := rfl
  simp only
  rw [hh, bnd_some', bnd_some', cnd_t (by simp [band_tt, ieq_tt, seq_t, beqb_t]), regs_self h1, bnd_some', cnd_t rfl, evs_self h2 h3, bnd_some', cnd_t rfl, h4]
  have : slices_Equal_Lapi_Comment_api_Comment fuelH ([], []) = some true := by kernel_rfl
  rw [this]
  rfl

end
end Go.Mo
end

section
/-
  Plain facts: StlAccepts returns true.
-/
namespace Go.Mo
open Go Go.W Go.Lib
set_option maxRecDepth 100000
noncomputable section

def wtG (r : Reg) : Nat := r.1.length + 1 + (1 + (1 + (1 + (1 + (1 + 1)))))
def wtX (x : Ev) : Nat := 1 + (1 + 1 + (x.2.2.1.length + 1 + (1 + (x.2.2.2.2.1.length + 1 + (bkL wtR x.2.2.2.2.2 + 1)))))
def wtC (c : Cmt) : Nat := 1 + (1 + (1 + (1 + (c.2.2.2.2.1.length + 1 + (c.2.2.2.2.2.1.length + 1 + (1 + 1))))))
def wtD (d : Doc) : Nat := d.1.length + 1 + (d.2.1.length + 1 + (1 + (1 + (1 + (bkL wtG d.2.2.2.2.2.1 + 1 + (bkL wtX d.2.2.2.2.2.2.1 + 1 + (bkL wtC d.2.2.2.2.2.2.2 + 1)))))))
end
end Go.Mo
end

section
/-
  Plain facts: texts that are joined; the normal form of a row that is good.
-/
namespace Go.Mo
open Go Go.W Go.Lib
set_option maxRecDepth 100000
noncomputable section

def decP (t : List UInt8) (r : Int) : Bool := ieq ((decodeL (enc r ++ t)).1 : Int) r && decide ((decodeL (enc r ++ t)).2 = (enc r).length)
theorem dec_tab (t : List UInt8) : ((loRunes ++ hiRunes).all (decP t)) = true := by kernel_rfl
theorem dec_enc {r : Int} (hr : inRep r = true) (t : List UInt8) : ((decodeL (enc r ++ t)).1 : Int) = r ∧ (decodeL (enc r ++ t)).2 = (enc r).length := by
  have h : decP t r = true := all_rep (dec_tab t) hr
  unfold decP at h
  rw [Bool.and_eq_true, ieq_tt, decide_eq_true_eq] at h
  exact h
theorem enc_ne2 {r : Int} (hr : inRep r = true) : enc r ≠ [] := by
  have h := all_rep (P := fun r => !(enc r).isEmpty) (by kernel_rfl) hr
  intro e
  simp [e] at h
theorem rns_ofR : ∀ (l : List Int) (t : List UInt8), l.all inRep = true → rns (ofR l ++ t) = l ++ rns t
  | [], t, _ => rfl
  | r :: l, t, h => by
    rw [List.all_cons, Bool.and_eq_true] at h
    have e : ofR (r :: l) ++ t = enc r ++ (ofR l ++ t) := by unfold ofR; rw [List.flatMap_cons, List.append_assoc]
    obtain ⟨d1, d2⟩ := dec_enc h.1 (ofR l ++ t)
    rw [e, rns_step _ (by simp [enc_ne2 h.1]), d1, d2, List.drop_left, rns_ofR l t h.2]
    rfl
theorem vld_ofR : ∀ (l : List Int) (t : List UInt8), l.all inRep = true → vld (ofR l ++ t) = vld t
  | [], t, _ => rfl
  | r :: l, t, h => by
    rw [List.all_cons, Bool.and_eq_true] at h
    have e : ofR (r :: l) ++ t = enc r ++ (ofR l ++ t) := by unfold ofR; rw [List.flatMap_cons, List.append_assoc]
    obtain ⟨d1, d2⟩ := dec_enc h.1 (ofR l ++ t)
    rw [e, vld_step _ (by simp [enc_ne2 h.1]), d1, d2, List.drop_left, if_pos h.1, vld_ofR l t h.2]
theorem rns_cat {a : List UInt8} (h : vld a = true) (b : List UInt8) : rns (a ++ b) = rns a ++ rns b := by
  conv => lhs; rw [← ofR_rns h]
  exact rns_ofR _ _ (rns_ok h)
theorem vld_cat {a : List UInt8} (h : vld a = true) (b : List UInt8) : vld (a ++ b) = vld b := by
  conv => lhs; rw [← ofR_rns h]
  exact vld_ofR _ _ (rns_ok h)

theorem plainT_app (a b : Row) : plainT (a ++ b) = plainT a ++ plainT b := by unfold plainT; rw [List.flatMap_append]
theorem plainT_one (x : Run) : plainT [x] = x.1 := by unfold plainT; simp
theorem snoc_plain (out : Row) (x : Run) : plainT (snoc out x) = plainT out ++ x.1 := by
  unfold snoc
  split
  · rename_i h; rw [h, List.append_nil]
  · split
    · rename_i p hp
      split
      · rw [plainT_app, plainT_one]
        conv => rhs; rw [last_eq hp, plainT_app, plainT_one]
        simp
      · rw [plainT_app, plainT_one]
    · rw [plainT_app, plainT_one]
theorem fold_plain : ∀ (l out : Row), plainT (l.foldl snoc out) = plainT out ++ plainT l
  | [], out => by simp [plainT]
  | x :: l, out => by
    rw [List.foldl_cons, fold_plain l, snoc_plain]
    have : plainT (x :: l) = x.1 ++ plainT l := by unfold plainT; rw [List.flatMap_cons]
    rw [this, List.append_assoc]
theorem lenT_plain : ∀ (l : Row), (∀ x ∈ l, vld x.1 = true) → lenT l = (rns (plainT l)).length
  | [], _ => rfl
  | x :: l, h => by
    have : plainT (x :: l) = x.1 ++ plainT l := by unfold plainT; rw [List.flatMap_cons]
    rw [this, rns_cat (h x List.mem_cons_self), List.length_append, ← lenT_plain l fun y hy => h y (List.mem_cons_of_mem _ hy)]
    rfl

def lst (p : Option Run) (out : Row) : Option Run := match out.getLast? with
  | some q => some q
  | none => p
theorem lst_cons (p : Option Run) (y : Run) (out : Row) : lst p (y :: out) = lst (some y) out := by
  unfold lst
  rw [List.getLast?_cons]
  cases out.getLast? <;> rfl
theorem chk_snoc : ∀ (out : Row) (p : Option Run) (x : Run), chkL p (out ++ [x]) = 0 ↔ chkL p out = 0 ∧ runChk (lst p out) x = 0
  | [], p, x => by
    simp only [List.nil_append, chkL, lst, List.getLast?_nil]
    by_cases h : runChk p x ≠ 0
    · rw [if_pos h]; simp
    · rw [if_neg h]; simpa using h
  | y :: out, p, x => by
    simp only [List.cons_append, chkL]
    by_cases h : runChk p y ≠ 0
    · rw [if_pos h, if_pos h]; exact ⟨fun k => absurd k h, fun k => absurd k.1 h⟩
    · rw [if_neg h, if_neg h, chk_snoc out (some y) x, lst_cons]
theorem runChk_zero {p : Option Run} {x : Run} : runChk p x = 0 ↔ vld x.1 = true ∧ x.1 ≠ [] ∧ n8 x.2.1.1 ≤ 6 ∧ vld x.2.2 = true ∧ ∀ q, p = some q → ¬ alikeP q x := by
  unfold runChk
  by_cases h1 : vld x.1 = false
  · rw [if_pos h1]; simp [h1]
  rw [if_neg h1]
  by_cases h2 : x.1 = []
  · rw [if_pos h2]; simp [h2]
  rw [if_neg h2]
  by_cases h3 : n8 x.2.1.1 ≤ 6
  · rw [if_neg (not_not_intro h3)]
    by_cases h4 : vld x.2.2 = false
    · rw [if_pos h4]; simp [h4]
    rw [if_neg h4]
    have h1 : vld x.1 = true := by simpa using h1
    have h4 : vld x.2.2 = true := by simpa using h4
    cases p with
    | none => exact ⟨fun _ => ⟨h1, h2, h3, h4, fun q hq => by cases hq⟩, fun _ => rfl⟩
    | some q =>
      simp only
      by_cases h5 : alikeP q x
      · rw [if_pos h5]; exact ⟨fun k => (by cases k), fun k => absurd h5 (k.2.2.2.2 q rfl)⟩
      · rw [if_neg h5]; exact ⟨fun _ => ⟨h1, h2, h3, h4, fun r hr => by injection hr with hr; rw [← hr]; exact h5⟩, fun _ => rfl⟩
  · rw [if_pos h3]; exact ⟨fun k => (by cases k), fun k => absurd k.2.2.1 h3⟩
def goodS (out : Row) : Prop := chkL none out = 0 ∧ ∀ x ∈ out, x.2.2 = []
theorem snoc_good {out : Row} {x : Run} (h : goodS out) (h1 : vld x.1 = true) (h2 : n8 x.2.1.1 ≤ 6) (h3 : x.2.2 = []) : goodS (snoc out x) := by
  have hv : vld x.2.2 = true := by rw [h3]; rfl
  unfold snoc
  split
  · exact h
  · rename_i he
    split
    · rename_i p hp
      have e := last_eq hp
      have hin : p ∈ out := by rw [e]; simp
      split
      · rename_i ha
        have hc := h.1
        rw [e, chk_snoc, runChk_zero] at hc
        obtain ⟨c1, c2, c3, c4, c5, c6⟩ := hc
        refine ⟨(chk_snoc _ _ _).2 ⟨c1, runChk_zero.2 ⟨?_, by simp [he], c4, c5, fun q hq k => c6 q hq ⟨k.1, k.2.1, k.2.2⟩⟩⟩, fun y hy => ?_⟩
        · rw [vld_cat c2]; exact h1
        · rcases List.mem_append.1 hy with hy | hy
          · exact h.2 y (List.dropLast_subset _ hy)
          · rw [List.mem_singleton.1 hy]; exact h.2 p hin
      · rename_i ha
        refine ⟨(chk_snoc _ _ _).2 ⟨h.1, runChk_zero.2 ⟨h1, he, h2, hv, fun q hq => ?_⟩⟩, fun y hy => ?_⟩
        · unfold lst at hq
          rw [hp] at hq
          injection hq with hq
          rw [← hq]; exact ha
        · rcases List.mem_append.1 hy with hy | hy
          · exact h.2 y hy
          · rw [List.mem_singleton.1 hy]; exact h3
    · rename_i hp
      have : out = [] := List.getLast?_eq_none_iff.1 hp
      subst this
      refine ⟨(chk_snoc _ _ _).2 ⟨rfl, runChk_zero.2 ⟨h1, he, h2, hv, fun q hq => by cases hq⟩⟩, fun y hy => ?_⟩
      rw [List.nil_append] at hy
      rw [List.mem_singleton.1 hy]; exact h3
theorem norm_id : ∀ (l pre : Row), chkL pre.getLast? l = 0 → l.foldl snoc pre = pre ++ l
  | [], pre, _ => by simp
  | x :: l, pre, h => by
    simp only [chkL] at h
    split at h
    · rename_i hc; exact absurd h hc
    · rename_i hc
      have hc : runChk pre.getLast? x = 0 := by simpa using hc
      rw [runChk_zero] at hc
      have e : snoc pre x = pre ++ [x] := by
        rw [snoc_ne hc.2.1]
        cases hp : pre.getLast? with
        | none => rfl
        | some p => simp only; rw [if_neg (hc.2.2.2.2 p hp)]
      rw [List.foldl_cons, e, norm_id l _ (by rw [List.getLast?_concat]; exact h), List.append_assoc]
      rfl
theorem rowE_zero {l : Row} (h : rowE l = 0) : rowChk l = 0 ∧ neatT (plainT l) = true ∧ lenT l ≤ 32 := by
  unfold rowE at h
  split at h
  · rename_i hc; exact absurd h hc
  split at h
  · cases h
  split at h
  · cases h
  rename_i c1 c2 c3
  exact ⟨by simpa using c1, by simpa using c2, by omega⟩
theorem rowsE_of : ∀ (l : List Row) (k : Int), (∀ r ∈ l, rowE r = 0) → rowsE l k = k
  | [], _, _ => rfl
  | r :: l, k, h => by
    simp only [rowsE]
    rw [if_neg (by rw [h r List.mem_cons_self]; simp)]
    exact rowsE_of l k fun q hq => h q (List.mem_cons_of_mem _ hq)
end
end Go.Mo
end

section
/-
  Plain facts: the regions of a reduced document; its events stand where they stood.
-/
namespace Go.Mo
open Go Go.W Go.Lib
set_option maxRecDepth 100000
noncomputable section

end
end Go.Mo
end

section
/-
  Plain facts: a reduced document is good; StlReduced returns true.
-/
namespace Go.Mo
open Go Go.W Go.Lib
set_option maxRecDepth 100000
noncomputable section

theorem errL_of {α : Type} {R : List α → α → Int} : ∀ (l pre : List α), (∀ j (h : j < l.length), R (pre ++ l.take j) l[j] = 0) → errL R pre l = 0
  | [], _, _ => rfl
  | x :: l, pre, h => by
    have h0 : R pre x = 0 := by have := h 0 (by simp); simpa using this
    simp only [errL]
    rw [if_neg (by rw [h0]; simp)]
    refine errL_of l _ fun j hj => ?_
    have := h (j + 1) (by simpa using hj)
    simpa using this
theorem doc_parts {d : Doc} (h : docChk d = 0) : headChk d = 0 ∧ d.2.2.2.2.2.2.1.length ≤ 400 ∧ evsChk d = 0 := by
  unfold docChk at h
  split at h
  · rename_i hc; exact absurd h hc
  rename_i c1
  split at h
  · rename_i hc; exact absurd h hc
  split at h
  · cases h
  rename_i hn
  split at h
  · rename_i hc; exact absurd h hc
  rename_i hc
  exact ⟨by simpa using c1, by omega, by simpa using hc⟩
end
end Go.Mo
end

section
/-
  Plain facts: digits and the bytes of a header.
-/
namespace Go.Mo
open Go Go.W Go.Lib
set_option maxRecDepth 100000

end Go.Mo
end

section
/-
  Plain facts: what the check of a header lets through; the bytes of a header.
-/
namespace Go.Mo
open Go Go.W Go.Lib
set_option maxRecDepth 100000
noncomputable section

def lblOk (l : Lbl) : Prop := (0 ≤ l.1 ∧ l.1 ≤ 23) ∧ (0 ≤ l.2.1 ∧ l.2.1 ≤ 59) ∧ (0 ≤ l.2.2.1 ∧ l.2.2.1 ≤ 59) ∧ (0 ≤ l.2.2.2.1 ∧ l.2.2.2.1 ≤ 59)
structure HdrOk (h : Hdr) : Prop where
  rate : h.1 = 3 ∨ h.1 = 5
  lang : h.2.1 = [] ∨ nm h.2.1 = true
  ttl : vld h.2.2.1 = true
  ttlL : h.2.2.1.length ≤ 400
  blocks : 0 ≤ h.2.2.2.1 ∧ h.2.2.2.1 ≤ 99999
  groups : 0 ≤ h.2.2.2.2.1 ∧ h.2.2.2.2.1 ≤ 99999
  start : lblOk h.2.2.2.2.2.1
  first : lblOk h.2.2.2.2.2.2.1
  rows : 0 ≤ h.2.2.2.2.2.2.2.1 ∧ h.2.2.2.2.2.2.2.1 ≤ 99
  cols : 0 ≤ h.2.2.2.2.2.2.2.2 ∧ h.2.2.2.2.2.2.2.2 ≤ 99
  d1 : h.2.2.2.2.2.1.2.2.2.2 = false
  d2 : h.2.2.2.2.2.2.1.2.2.2.2 = false
end
end Go.Mo
end

section
/-
  Plain facts: numbers and names read back.
-/
namespace Go.Mo
open Go Go.W Go.Lib
set_option maxRecDepth 100000
noncomputable section

end
end Go.Mo
end

section
/-
  Plain facts: a header read back; TapeHeaders.
-/
namespace Go.Mo
open Go Go.W Go.Lib
set_option maxRecDepth 100000
noncomputable section

def hz : Hdr := ((0 : UInt8), ([] : List UInt8), ([] : List UInt8), (0 : Int), (0 : Int), ((0 : Int), (0 : Int), (0 : Int), (0 : Int), false), ((0 : Int), (0 : Int), (0 : Int), (0 : Int), false), (0 : Int), (0 : Int))
end
end Go.Mo
end

section
/-
  Plain facts: rows that are read are small; a subtitle that is read, both sides.
-/
namespace Go.Mo
open Go Go.W Go.Lib
set_option maxRecDepth 100000
noncomputable section

theorem norm_tot (l : Row) : tot (normR l) = tot l := by
  rw [← plainT_len, ← plainT_len]
  unfold normR
  rw [fold_plain]
  rfl
end
end Go.Mo
end

section
/-
  Plain facts: events in document order, both sides.
-/
namespace Go.Mo
open Go Go.W Go.Lib
set_option maxRecDepth 100000
noncomputable section

end
end Go.Mo
end

section
/-
  Plain facts: the program's sorting of few events.
-/
namespace Go.Mo
open Go Go.W Go.Lib
set_option maxRecDepth 100000
noncomputable section

end
end Go.Mo
end

section
/-
  Plain facts: what is read is a valid document that the form carries; StlValid returns true.
-/
namespace Go.Mo
open Go Go.W Go.Lib
set_option maxRecDepth 100000
noncomputable section

end
end Go.Mo
end

section
/-
  Plain facts: the blocks of a subtitle lead back to it.
-/
namespace Go.Mo
open Go Go.W Go.Lib
set_option maxRecDepth 100000
noncomputable section

end
end Go.Mo
end

section
/-
  Plain facts: the file of an accepted document is read as the reduced document; StlCarries returns true.
-/
namespace Go.Mo
open Go Go.W Go.Lib
set_option maxRecDepth 100000
noncomputable section

end
end Go.Mo
end
end

section
/-
  Plain facts: times and their texts, both sides; SubripClocks returns true.
-/
namespace Go.Mo
open Go Go.W Go.Lib
set_option maxRecDepth 100000
noncomputable section

theorem awake19 : l19_awake fuelH () = some true := by kernel_rfl

end
end Go.Mo
end

section
/-
  Plain facts: the markup of rows, both sides.
-/
namespace Go.Mo
open Go Go.W Go.Lib
set_option maxRecDepth 100000
noncomputable section

def wht (x : Run) : Run := (x.1, (0, x.2.1.2), [])
def carr (r : Row) : Row := normR (r.map wht)
theorem wht_tot (l : Row) : tot (l.map wht) = tot l := by
  induction l with
  | nil => rfl
  | cons x l ih => simp only [List.map_cons, tot, ih]; rfl
theorem sub_carried {l : Row} (hl : l.length ≤ 4000000) (ht : tot l ≤ 8000000) : subrip_carried fuelH l = some (carr l) := by
  unfold subrip_carried
  rw [jn_e]
  refine loop_inv (n := l.length) (fun (b : Row) (j : Nat) => ((j : Int), b)) (fun j b => b = (l.take j).map wht) _ (fun self b j hj hJ => ?_) (fun self b hJ => ?_) fuelH 0 [] (Nat.zero_le _) (by have := fuelH_eq; omega) rfl
  · refine ⟨b ++ [wht l[j]], ?_, by rw [hJ, List.take_succ_eq_append_getElem hj, List.map_append]; rfl⟩
    have hbl : b.length ≤ 4000000 := by rw [hJ, List.length_map, List.length_take]; omega
    simp only
    rw [cnd_t (ilt_t (by simp only [len]; omega)), grd_t (inb_t (by simp only [len]; omega)), lget_i hj, grd_t (room_t (by simp only [iadd, len, List.length_singleton]; omega)), w64_succ hj (by omega)]
    rfl
  · simp only
    rw [cnd_f (ilt_f (by simp only [len]; omega)), hJ, List.take_length, style_Norm_eq (by rw [List.length_map]; exact hl) (by rw [wht_tot]; exact ht), bnd_some']
    rfl
theorem carr_plain (r : Row) : plainT (carr r) = plainT r := by
  unfold carr normR
  rw [fold_plain]
  show [] ++ plainT (r.map wht) = _
  rw [List.nil_append]
  unfold plainT
  rw [List.flatMap_map]
  rfl
theorem carr_len (r : Row) : (carr r).length ≤ r.length ∧ tot (carr r) = tot r := by
  have h1 := normR_len (r.map wht)
  rw [List.length_map] at h1
  exact ⟨h1, (norm_tot _).trans (wht_tot r)⟩
end
end Go.Mo
end

section
/-
  Plain facts: the markup of rows by the specification; what a text with tags means, both sides; SubripMarkups returns true.
-/
namespace Go.Mo
open Go Go.W Go.Lib
set_option maxRecDepth 100000
noncomputable section

end
end Go.Mo
end

section
/-
  Plain facts: what a text with tags means, both sides; SubripMarkups returns true.
-/
namespace Go.Mo
open Go Go.W Go.Lib
set_option maxRecDepth 100000
noncomputable section

end
end Go.Mo
end

section
/-
  Plain facts: the markup of a row means the row without colours and ruby; SubripReturns returns true.
-/
namespace Go.Mo
open Go Go.W Go.Lib
set_option maxRecDepth 100000
noncomputable section

theorem snoc_col {out : Row} {x : Run} (h : ∀ y ∈ out, y.2.1.1 = 0) (hx : x.2.1.1 = 0) : ∀ y ∈ snoc out x, y.2.1.1 = 0 := by
  unfold snoc
  split
  · exact h
  · split
    · rename_i p hp
      have e := last_eq hp
      have hin : p ∈ out := by rw [e]; simp
      split
      · intro y hy
        rcases List.mem_append.1 hy with hy | hy
        · exact h y (List.dropLast_subset _ hy)
        · rw [List.mem_singleton.1 hy]; exact h p hin
      · intro y hy
        rcases List.mem_append.1 hy with hy | hy
        · exact h y hy
        · rw [List.mem_singleton.1 hy]; exact hx
    · intro y hy
      rcases List.mem_append.1 hy with hy | hy
      · exact h y hy
      · rw [List.mem_singleton.1 hy]; exact hx
theorem fold_wht : ∀ (l out : Row), goodS out → (∀ y ∈ out, y.2.1.1 = 0) → (∀ x ∈ l, vld x.1 = true) → goodS ((l.map wht).foldl snoc out) ∧ ∀ y ∈ (l.map wht).foldl snoc out, y.2.1.1 = 0
  | [], _, h1, h2, _ => ⟨h1, h2⟩
  | x :: l, out, h1, h2, hv => by
    rw [List.map_cons, List.foldl_cons]
    exact fold_wht l _ (snoc_good h1 (hv x List.mem_cons_self) (by show n8 0 ≤ 6; decide) rfl) (snoc_col h2 rfl) fun y hy => hv y (List.mem_cons_of_mem _ hy)
theorem carr_good {r : Row} (h : rowChk r = 0) : goodS (carr r) ∧ ∀ y ∈ carr r, y.2.1.1 = 0 :=
  fold_wht r [] ⟨rfl, fun x hx => by cases hx⟩ (fun x hx => by cases hx) fun x hx => ((rowChk_ok h).2 x hx).1
end
end Go.Mo
end

section
/-
  Plain facts: the document as the form carries it, both sides; SubripReduced returns true.
-/
namespace Go.Mo
open Go Go.W Go.Lib
set_option maxRecDepth 100000
noncomputable section

def noQ : Doc := ([], [], 0, false, 0, [], [], [])
def fewQ (d : Doc) : Doc := (d.1, d.2.1, d.2.2.1, d.2.2.2.1, d.2.2.2.2.1, d.2.2.2.2.2.1, d.2.2.2.2.2.2.1.take 6, d.2.2.2.2.2.2.2.take 4)
theorem few_eqQ (d : Doc) : l19_few fuelH d = some (fewQ d) := by
  unfold l19_few fewQ
  obtain ⟨e1, e2⟩ := min_take d.2.2.2.2.2.2.1 6
  obtain ⟨e3, e4⟩ := min_take d.2.2.2.2.2.2.2 4
  have e1 : ltake (toN (imin (len d.2.2.2.2.2.2.1) (6 : Int))) d.2.2.2.2.2.2.1 = _ := e1
  have e3 : ltake (toN (imin (len d.2.2.2.2.2.2.2) (4 : Int))) d.2.2.2.2.2.2.2 = _ := e3
  rw [grd_t (show in2 (imin (len d.2.2.2.2.2.2.1) (6 : Int)) (len d.2.2.2.2.2.2.1) = true from e2), grd_t (show in2 (imin (len d.2.2.2.2.2.2.2) (4 : Int)) (len d.2.2.2.2.2.2.2) = true from e4), e1, e3]
theorem few_smallQ {d : Doc} (hb : wtD d ≤ 1048576) : smallD (fewQ d) ∧ ∀ x ∈ (fewQ d).2.2.2.2.2.2.1, ∀ r ∈ x.2.2.2.2.2, tot r ≤ 1048576 := by
  unfold wtD at hb
  have hg := bk_len (f := wtG) (fun r => by unfold wtG; omega) d.2.2.2.2.2.1
  have hrow : ∀ x ∈ (fewQ d).2.2.2.2.2.2.1, ∀ r ∈ x.2.2.2.2.2, shortR r ∧ tot r ≤ 1048576 := fun x hx r hr => by
    have hx : x ∈ d.2.2.2.2.2.2.1 := List.mem_of_mem_take (show x ∈ d.2.2.2.2.2.2.1.take 6 from hx)
    have h1 : 1 + (1 + 1 + (x.2.2.1.length + 1 + (1 + (x.2.2.2.2.1.length + 1 + (bkL wtR x.2.2.2.2.2 + 1))))) ≤ bkL wtX d.2.2.2.2.2.2.1 := bk_mem (f := wtX) hx
    have h2 : bkL wtU r + 1 ≤ bkL wtR x.2.2.2.2.2 := bk_mem (f := wtR) hr
    have h3 := cost_wt r
    have h4 := tot_cost r
    exact ⟨short_wt (l := x.2.2.2.2.2) (B := 1048576) (by omega) (by omega) r hr, by omega⟩
  refine ⟨⟨by show d.1.length ≤ _; omega, by show d.2.2.2.2.2.1.length ≤ _; omega, fun x hx r hr => ⟨(hrow x hx r hr).1, by have := (hrow x hx r hr).2; omega⟩, fun c hc => ?_⟩, fun x hx r hr => (hrow x hx r hr).2⟩
  have hc : c ∈ d.2.2.2.2.2.2.2 := List.mem_of_mem_take (show c ∈ d.2.2.2.2.2.2.2.take 4 from hc)
  have h1 : 1 + (1 + (1 + (1 + (c.2.2.2.2.1.length + 1 + (c.2.2.2.2.2.1.length + 1 + (1 + 1)))))) ≤ bkL wtC d.2.2.2.2.2.2.2 := bk_mem (f := wtC) hc
  omega

def evQ (i : Nat) (x : Ev) : Ev := (((i + 1 : Nat) : Int), x.2.1, [], 1, [], x.2.2.2.2.2.map carr)
def evsQ : Nat → List Ev → List Ev
  | _, [] => []
  | i, x :: l => evQ i x :: evsQ (i + 1) l
def docQ (d : Doc) : Doc := ([], [], d.2.2.1, d.2.2.2.1, len d.2.2.2.2.2.2.1, [], evsQ 0 d.2.2.2.2.2.2.1, [])
def redQ (d : Doc) : Doc := if docChk d ≠ 0 then noQ else docQ d
theorem evsQ_app : ∀ (l m : List Ev) (i : Nat), evsQ i (l ++ m) = evsQ i l ++ evsQ (i + l.length) m
  | [], m, i => rfl
  | x :: l, m, i => by
    simp only [List.cons_append, evsQ, List.length_cons]
    rw [evsQ_app l m (i + 1), show i + 1 + l.length = i + (l.length + 1) by omega]
theorem evsQ_len : ∀ (l : List Ev) (i : Nat), (evsQ i l).length = l.length
  | [], _ => rfl
  | x :: l, i => by simp only [evsQ, List.length_cons, evsQ_len l (i + 1)]
theorem evsQ_take {l : List Ev} {i : Nat} (h : i < l.length) : evsQ 0 (l.take (i + 1)) = evsQ 0 (l.take i) ++ [evQ i l[i]] := by
  rw [List.take_succ_eq_append_getElem h, evsQ_app]
  have e : 0 + (l.take i).length = i := by rw [List.length_take]; omega
  rw [e]
  rfl
theorem evsQ_get : ∀ (l : List Ev) (i j : Nat), (evsQ i l)[j]? = (l[j]?).map (evQ (i + j))
  | [], _, _ => by simp [evsQ]
  | x :: l, i, 0 => by simp [evsQ]
  | x :: l, i, j + 1 => by
    simp only [evsQ, List.getElem?_cons_succ]
    rw [evsQ_get l (i + 1) j, show i + 1 + j = i + (j + 1) by omega]
theorem evsQ_at (l : List Ev) (j : Nat) (h : j < l.length) (h' : j < (evsQ 0 l).length) : (evsQ 0 l)[j] = evQ j l[j] := by
  have := evsQ_get l 0 j
  rw [List.getElem?_eq_getElem h', List.getElem?_eq_getElem h, Nat.zero_add] at this
  injection this
/-- the events of a document that is good are few and good -/
theorem doc_evs {d : Doc} (h : docChk d = 0) : headChk d = 0 ∧ d.2.2.2.2.2.2.1.length ≤ 400 ∧ ∀ j (hj : j < d.2.2.2.2.2.2.1.length), evRnd d.2.2.2.2.2.1 d.2.2.2.2.1 (d.2.2.2.2.2.2.1.take j) d.2.2.2.2.2.2.1[j] = 0 := by
  obtain ⟨h1, h2, h3⟩ := doc_parts h
  refine ⟨h1, h2, fun j hj => ?_⟩
  have := errL_zero _ _ h3 j hj
  rwa [List.nil_append] at this
theorem ev_rows {d : Doc} (h : docChk d = 0) {x : Ev} (hx : x ∈ d.2.2.2.2.2.2.1) : evChk x d.2.2.2.2.2.1 = 0 := by
  obtain ⟨_, _, h3⟩ := doc_evs h
  obtain ⟨j, hj, rfl⟩ := List.mem_iff_getElem.1 hx
  exact (evRnd_ok (h3 j hj)).1
theorem rows_carr {x : Ev} {d : Doc} (hs : smallD d) (h : docChk d = 0) (hx : x ∈ d.2.2.2.2.2.2.1) : x.2.2.2.2.2.length ≤ 4 ∧ ∀ r ∈ x.2.2.2.2.2, okR r := by
  obtain ⟨_, _, _, _, h4, h5, _⟩ := ev_ok (ev_rows h hx)
  exact ⟨h4, fun r hr => okR_of (hs.2.2.1 x hx r hr) (rowE_zero (h5 r hr)).1⟩
theorem sub_reduce {d : Doc} (hs : smallD d) : subrip_Reduce fuelH d = some (redQ d) := by
  unfold subrip_Reduce redQ
  rw [document_check hs, bnd_some']
  by_cases hc : docChk d ≠ 0
  · rw [cnd_t (ine_t hc), if_pos hc]
    rfl
  have hc : docChk d = 0 := by simpa using hc
  obtain ⟨_, hn, _⟩ := doc_evs hc
  rw [cnd_f (ine_f hc), if_neg (by rw [hc]; simp), jn_e]
  refine loop_inv (n := d.2.2.2.2.2.2.1.length) (fun (a : List Ev) (i : Nat) => ((i : Int), ([], [], d.2.2.1, d.2.2.2.1, len d.2.2.2.2.2.2.1, [], a, []))) (fun i a => a = evsQ 0 (d.2.2.2.2.2.2.1.take i)) _ (fun self a i hi hI => ?_) (fun self a hI => ?_) fuelH 0 [] (Nat.zero_le _) (by have := fuelH_eq; omega) rfl
  · obtain ⟨hr4, hok⟩ := rows_carr hs hc (List.getElem_mem hi)
    refine ⟨a ++ [evQ i d.2.2.2.2.2.2.1[i]], ?_, by rw [evsQ_take hi, hI]⟩
    have ha : a.length ≤ 400 := by rw [hI, evsQ_len, List.length_take]; omega
    simp only
    rw [cnd_t (ilt_t (by simp only [len]; omega)), jn_e, grd_t (inb_t (by simp only [len]; omega)), jn_e, w64_succ hi (by omega)]
    simp only [lget_i hi]
    generalize d.2.2.2.2.2.2.1[i] = x at hr4 hok ⊢
    refine loop_inv (n := x.2.2.2.2.2.length) (fun (b : List Row) (j : Nat) => ((j : Int), ((i + 1 : Nat) : Int), x.2.1, ([] : List UInt8), (1 : UInt8), ([] : List UInt8), b)) (fun j b => b = (x.2.2.2.2.2.take j).map carr) _ (fun self' b j hj hJ => ?_) (fun self' b hJ => ?_) fuelH 0 [] (Nat.zero_le _) (by have := fuelH_eq; omega) rfl
    · have hk := hok _ (List.getElem_mem hj)
      refine ⟨b ++ [carr x.2.2.2.2.2[j]], ?_, by rw [hJ, List.take_succ_eq_append_getElem hj, List.map_append]; rfl⟩
      have hb : b.length ≤ 4 := by rw [hJ, List.length_map, List.length_take]; omega
      simp only
      rw [cnd_t (ilt_t (by simp only [len]; omega)), grd_t (inb_t (by simp only [len]; omega)), lget_i hj, sub_carried (by have := hk.1; omega) (by have := hk.2.2; omega), bnd_some', grd_t (room_t (by simp only [iadd, len, List.length_singleton]; omega)), w64_succ hj (by omega)]
      rfl
    · simp only
      rw [cnd_f (ilt_f (by simp only [len]; omega)), grd_t (room_t (by simp only [iadd, len, List.length_singleton]; omega)), hJ, List.take_length]
      rfl
  · simp only
    rw [cnd_f (ilt_f (by simp only [len]; omega)), hI, List.take_length]
    rfl
end
end Go.Mo
end

section
/-
  Plain facts: the document as the form carries it is good; SubripReduced returns true.
-/
namespace Go.Mo
open Go Go.W Go.Lib
set_option maxRecDepth 100000
noncomputable section

theorem carr_chk {l : Row} (h : rowChk l = 0) : rowChk (carr l) = 0 := by
  have h1 := (rowChk_ok h).1
  have h2 := (carr_len l).1
  unfold rowChk
  rw [if_neg (by omega)]
  exact (carr_good h).1.1
theorem carr_lenT {l : Row} (h : rowChk l = 0) : lenT (carr l) = lenT l := by
  rw [lenT_plain _ fun x hx => ((rowChk_ok (carr_chk h)).2 x hx).1, lenT_plain _ fun x hx => ((rowChk_ok h).2 x hx).1, carr_plain]
theorem carr_rowE {l : Row} (h : rowE l = 0) : rowE (carr l) = 0 := by
  obtain ⟨h1, h2, h3⟩ := rowE_zero h
  unfold rowE
  rw [if_neg (by rw [carr_chk h1]; simp), carr_plain, h2, if_neg (by simp), carr_lenT h1, if_neg (by omega)]
theorem carr_carr {l : Row} (h : rowChk l = 0) : carr (carr l) = carr l := by
  obtain ⟨g1, g2⟩ := carr_good h
  have e : (carr l).map wht = carr l := by
    have : (carr l).map wht = (carr l).map id := List.map_congr_left fun x hx => by
      have h1 := g2 x hx
      have h2 := g1.2 x hx
      obtain ⟨t, ⟨c, i, u⟩, r⟩ := x
      simp only at h1 h2
      subst h1
      subst h2
      rfl
    rw [this, List.map_id]
  show normR ((carr l).map wht) = carr l
  rw [e]
  exact (norm_id (carr l) [] g1.1).trans (List.nil_append _)
theorem placeL_ok {r : Reg} {k : Nat} : ∀ (l : List Int) (i : Nat) (out : List Spot), (∀ n ∈ l, 0 ≤ n ∧ n ≤ r.2.2.2.2.1) → (placeL r k i l out).2 = 0
  | [], _, _, _ => rfl
  | n :: l, i, out, h => by
    have hn := h n List.mem_cons_self
    simp only [placeL]
    rw [if_neg (by omega), if_neg (by omega)]
    exact placeL_ok l _ _ fun m hm => h m (List.mem_cons_of_mem _ hm)
/-- rows that are good, of an event without a region -/
theorem ev_plain {i s e : Int} {rows : List Row} (hi : 1 ≤ i ∧ i ≤ 1099511627776) (hs : 0 ≤ s ∧ s < e ∧ e ≤ 5184000) (h4 : 0 < rows.length) (h5 : rows.length ≤ 4) (h6 : ∀ r ∈ rows, rowE r = 0) : evChk (i, (s, e), [], 1, [], rows) [] = 0 := by
  have hf : findR [] ([] : List UInt8) = some defR := rfl
  unfold evChk
  simp only
  rw [hf, if_neg (by omega), if_neg (by omega), if_neg (not_not_intro hs)]
  simp only
  rw [if_neg (not_not_intro ⟨by decide, by decide⟩), if_neg (fun k => k.1 rfl), if_neg (by omega), if_neg (by omega), rowsE_of _ _ h6]
  unfold placeS
  have hl : (lens rows).length = rows.length := by unfold lens; rw [List.length_map]
  have e6 : defR.2.2.1 = 4 := rfl
  rw [if_neg (not_not_intro (.inl rfl)), hl, e6, if_neg (by omega)]
  refine placeL_ok _ _ _ fun n hn => ?_
  unfold lens at hn
  obtain ⟨q, hq, rfl⟩ := List.mem_map.1 hn
  have := (rowE_zero (h6 q hq)).2.2
  have e7 : defR.2.2.2.2.1 = 32 := rfl
  rw [e7]
  omega
theorem evQ_chk {d : Doc} (h : docChk d = 0) {x : Ev} (hx : x ∈ d.2.2.2.2.2.2.1) {i : Nat} (hi : i < 1000) : evChk (evQ i x) [] = 0 := by
  obtain ⟨_, _, h3, h4, h5, h6, _⟩ := ev_ok (ev_rows h hx)
  exact ev_plain (by omega) h3 (by rw [List.length_map]; exact h4) (by rw [List.length_map]; exact h5) fun r hr => by
    obtain ⟨q, hq, rfl⟩ := List.mem_map.1 hr
    exact carr_rowE (h6 q hq)
/-- events in order, numbered from one, of a document without regions -/
theorem evs_good {l : List Ev} (hn : l.length ≤ 400) (h1 : ∀ j (h : j < l.length), evChk l[j] [] = 0 ∧ l[j].1 = ((j + 1 : Nat) : Int)) (h2 : ∀ j (h : j + 1 < l.length), l[j].2.1.1 ≤ l[j + 1].2.1.1) : errL (evRnd [] (len l)) [] l = 0 := by
  refine errL_of _ _ fun j hj => ?_
  rw [List.nil_append]
  unfold evRnd
  obtain ⟨k1, k2⟩ := h1 j hj
  rw [if_neg (by rw [k1]; simp), if_neg (by rw [k2]; simp only [len]; omega)]
  have ho : ordB (l.take j).getLast? l[j] = true := by
    cases j with
    | zero => rfl
    | succ k =>
      have hk : k < l.length := by omega
      rw [last_take hk]
      have := h2 k hj
      have q := (h1 k hk).2
      simp only [ordB, decide_eq_true_eq]
      unfold lessE
      rw [q, k2]
      omega
  rw [ho, if_neg (by simp), if_neg]
  rintro ⟨y, hy, e⟩
  obtain ⟨k, hk, rfl⟩ := List.mem_iff_getElem.1 hy
  rw [List.length_take] at hk
  rw [List.getElem_take] at e
  have q := (h1 k (by omega)).2
  rw [q, k2] at e
  omega
theorem headQ {r : UInt8} {b : Bool} (n : Nat) (hn : n ≤ 400) (hr : ¬ rateBad r b) (rs : List Reg) (es : List Ev) (cs : List Cmt) : headChk ([], [], r, b, (n : Int), rs, es, cs) = 0 := by
  unfold headChk
  show (if vld [] = false then (10 : Int) else if 400 < ([] : List UInt8).length then 9 else if ([] : List UInt8) ≠ [] ∧ nm [] = false then 5 else if rateBad r b then 13 else if (n : Int) < 0 then 2 else if 1099511627776 < (n : Int) then 2 else 0) = 0
  rw [if_neg (by rw [show vld [] = true from rfl]; simp), if_neg (by simp), if_neg (fun k => k.1 rfl), if_neg hr, if_neg (by omega), if_neg (by omega)]
theorem rate_of {d : Doc} (h : headChk d = 0) : ¬ rateBad d.2.2.1 d.2.2.2.1 := by
  unfold headChk at h
  split at h
  · cases h
  split at h
  · cases h
  split at h
  · cases h
  split at h
  · cases h
  rename_i c
  exact c
theorem docQ_chk {d : Doc} (h : docChk d = 0) : docChk (docQ d) = 0 := by
  obtain ⟨h1, h2, h3⟩ := doc_evs h
  have hh : headChk (docQ d) = 0 := headQ _ h2 (rate_of h1) _ _ _
  have hl := evsQ_len d.2.2.2.2.2.2.1 0
  have he : evsChk (docQ d) = 0 := by
    have e : len d.2.2.2.2.2.2.1 = len (evsQ 0 d.2.2.2.2.2.2.1) := by unfold len; rw [hl]
    unfold evsChk docQ
    simp only
    rw [e]
    refine evs_good (by omega) (fun j hj => ?_) fun j hj => ?_
    · have hj' : j < d.2.2.2.2.2.2.1.length := by omega
      rw [evsQ_at _ j hj' hj]
      exact ⟨evQ_chk h (List.getElem_mem hj') (by omega), rfl⟩
    · have hj1 : j + 1 < d.2.2.2.2.2.2.1.length := by omega
      have hj2 : j < d.2.2.2.2.2.2.1.length := by omega
      rw [evsQ_at _ j hj2 (by omega), evsQ_at _ (j + 1) hj1 hj]
      have := (evRnd_ok (h3 (j + 1) hj1)).2.2.1
      rw [last_take hj2] at this
      simp only [ordB, decide_eq_true_eq] at this
      unfold lessE at this
      show (d.2.2.2.2.2.2.1[j]).2.1.1 ≤ (d.2.2.2.2.2.2.1[j + 1]).2.1.1
      omega
  unfold docChk
  rw [if_neg (by rw [hh]; simp)]
  show (if regsChk [] ≠ 0 then regsChk [] else if 400 < (evsQ 0 d.2.2.2.2.2.2.1).length then 9 else if evsChk (docQ d) ≠ 0 then evsChk (docQ d) else cmtsChk (docQ d)) = 0
  rw [if_neg (by show ¬ (0 : Int) ≠ 0; simp), if_neg (by omega), if_neg (by rw [he]; simp)]
  rfl
theorem docQ_small {d : Doc} (hs : smallD d) (h : docChk d = 0) : smallD (docQ d) := by
  refine ⟨by show ([] : List UInt8).length ≤ _; simp, by show ([] : List Reg).length ≤ _; simp, fun y hy => ?_, fun c hc => by cases hc⟩
  have hy : y ∈ evsQ 0 d.2.2.2.2.2.2.1 := hy
  obtain ⟨j, hj, rfl⟩ := List.mem_iff_getElem.1 hy
  have hj' : j < d.2.2.2.2.2.2.1.length := by rw [evsQ_len] at hj; exact hj
  have hx := List.getElem_mem hj'
  rw [evsQ_at _ j hj' hj]
  intro r hr
  obtain ⟨q, hq, rfl⟩ := List.mem_map.1 (show r ∈ (d.2.2.2.2.2.2.1[j]).2.2.2.2.2.map carr from hr)
  have hk := (rows_carr hs h hx).2 q hq
  obtain ⟨_, _, _, _, _, h6, _⟩ := ev_ok (ev_rows h hx)
  have hc := (rowE_zero (h6 q hq)).1
  have ht := (carr_len q).2
  refine ⟨fun x hx => ?_, by rw [ht]; exact (hs.2.2.1 _ (List.getElem_mem hj') q hq).2⟩
  have h1 := tot_mem hx
  have h2 := (carr_good hc).1.2 x hx
  have h3 := hk.2.2
  exact ⟨by omega, by rw [h2]; simp⟩
theorem evsQ_again {d : Doc} (h : docChk d = 0) : ∀ (l : List Ev) (i : Nat), (∀ x ∈ l, x ∈ d.2.2.2.2.2.2.1) → evsQ i (evsQ i l) = evsQ i l
  | [], _, _ => rfl
  | x :: l, i, hm => by
    obtain ⟨_, _, _, _, _, h6, _⟩ := ev_ok (ev_rows h (hm x List.mem_cons_self))
    simp only [evsQ]
    rw [evsQ_again h l (i + 1) fun y hy => hm y (List.mem_cons_of_mem _ hy)]
    congr 1
    unfold evQ
    simp only
    rw [List.map_map]
    congr 5
    exact List.map_congr_left fun r hr => carr_carr (rowE_zero (h6 r hr)).1
theorem docQ_again {d : Doc} (h : docChk d = 0) : docQ (docQ d) = docQ d := by
  have hl := evsQ_len d.2.2.2.2.2.2.1 0
  unfold docQ
  simp only
  rw [evsQ_again h _ 0 fun x hx => hx]
  have : len (evsQ 0 d.2.2.2.2.2.2.1) = len d.2.2.2.2.2.2.1 := by unfold len; rw [hl]
  rw [this]
theorem noQ_self : document_Same fuelH (noQ, noQ) = some true := doc_self (by simp [noQ]) (by simp [noQ]) (fun x hx => by cases hx) rfl
theorem docQ_self {d : Doc} (hs : smallD d) (h : docChk d = 0) : document_Same fuelH (docQ d, docQ d) = some true := by
  obtain ⟨_, h2, _⟩ := doc_evs h
  refine doc_self (by simp [docQ]) (by show (evsQ 0 d.2.2.2.2.2.2.1).length ≤ _; rw [evsQ_len]; omega) (fun x hx => ?_) rfl
  have hx : x ∈ evsQ 0 d.2.2.2.2.2.2.1 := hx
  obtain ⟨j, hj, rfl⟩ := List.mem_iff_getElem.1 hx
  have hj' : j < d.2.2.2.2.2.2.1.length := by rw [evsQ_len] at hj; exact hj
  rw [evsQ_at _ j hj' hj]
  obtain ⟨h4, hok⟩ := rows_carr hs h (List.getElem_mem hj')
  refine ⟨by show ((d.2.2.2.2.2.2.1[j]).2.2.2.2.2.map carr).length ≤ _; rw [List.length_map]; omega, fun r hr => ?_⟩
  obtain ⟨q, hq, rfl⟩ := List.mem_map.1 (show r ∈ (d.2.2.2.2.2.2.1[j]).2.2.2.2.2.map carr from hr)
  have h1 := (carr_len q).1
  have h2 := (hok q hq).1
  omega
theorem reduced19_true {x : Doc} (hb : wtD x ≤ 1048576) : l19_SubripReduced fuelH x = some true := by
  unfold l19_SubripReduced
  obtain ⟨hs, _⟩ := few_smallQ hb
  rw [awake19, bnd_some', cnd_f (by rfl), few_eqQ, bnd_some', sub_reduce hs, bnd_some', document_check hs, bnd_some']
  unfold redQ
  by_cases h : docChk (fewQ x) ≠ 0
  · rw [if_pos h, cnd_t (ine_t h)]
    exact (congrArg (fun z => bnd z fun v4 => some v4) noQ_self)
  have h : docChk (fewQ x) = 0 := by simpa using h
  have hs2 := docQ_small hs h
  have hc2 := docQ_chk h
  rw [if_neg (by rw [h]; simp), cnd_f (ine_f h), document_check hs2, bnd_some', cnd_t (ieq_t hc2), sub_reduce hs2, bnd_some']
  have : redQ (docQ (fewQ x)) = docQ (fewQ x) := by unfold redQ; rw [if_neg (by rw [hc2]; simp), docQ_again h]
  rw [this, docQ_self hs h]
  rfl
end
end Go.Mo
end
