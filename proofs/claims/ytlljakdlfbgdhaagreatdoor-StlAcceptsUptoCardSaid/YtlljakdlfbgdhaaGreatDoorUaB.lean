/-
  Texts put together, in build order: WK PA PB PC PD PE PF PG PHa PHb PHc PHd PMa PPa PFs QA QB QC QD QE QF QG RA RB RC RD RE RF RG RH RI RJ RK RL RM RN RO RP.
-/
import Derived.Test.YtlljakdlfbgdhaaGreatDoorUaA
import Derived.KernelRfl
import Derived.Lib.ValidLaws
import Derived.Lib.TrimUEq
import Derived.Lib.MapLaws
import Derived.Test.YtlljakdlfbgdhaaGreatDoorZC
import Derived.Lib.IndexMore
set_option linter.all false

section
/-
  The functions do what their models say. Printed by a program.
-/
namespace Go.Mo
open Go Go.W Go.Proofs
noncomputable section
set_option maxRecDepth 100000
theorem k_utf8_word_string (N : Nat) : ConOk E ⟨214, ps_utf8_word_string, rs_utf8_word_string, utf8_word_string N⟩ := by
  have hc : CallsOk E [] := callsOk_all (tab := []) trivial
  rw [← x_utf8_word_string N]
  exact execF_ok envOk hc (drawn_ok envOk hc) (show E.P.funcs[214]? = some Tryz.f214 from by kernel_rfl) (by kernel_rfl) _ _ _
theorem k_utf8_ValidString (N : Nat) : ConOk E ⟨160, ps_utf8_ValidString, rs_utf8_ValidString, utf8_ValidString N⟩ := kh_utf8_ValidString N
theorem k_charset_place (N : Nat) : ConOk E ⟨215, ps_charset_place, rs_charset_place, charset_place N⟩ := by
  have hc : CallsOk E [] := callsOk_all (tab := []) trivial
  rw [← x_charset_place N]
  exact execF_ok envOk hc (drawn_ok envOk hc) (show E.P.funcs[215]? = some Tryz.f215 from by kernel_rfl) (by kernel_rfl) _ _ _
theorem k_charset_Index (N : Nat) : ConOk E ⟨161, ps_charset_Index, rs_charset_Index, charset_Index N⟩ := by
  have hc : CallsOk E [⟨215, ps_charset_place, rs_charset_place, charset_place N⟩] := callsOk_all ⟨k_charset_place N, trivial⟩
  rw [← x_charset_Index N]
  exact execF_ok envOk hc (drawn_ok envOk hc) (show E.P.funcs[161]? = some Tryz.f161 from by kernel_rfl) (by kernel_rfl) _ _ _
theorem k_charset_Valid (N : Nat) : ConOk E ⟨97, ps_charset_Valid, rs_charset_Valid, charset_Valid N⟩ := by
  have hc : CallsOk E [⟨160, ps_utf8_ValidString, rs_utf8_ValidString, utf8_ValidString N⟩, ⟨161, ps_charset_Index, rs_charset_Index, charset_Index N⟩] := callsOk_all ⟨k_utf8_ValidString N, k_charset_Index N, trivial⟩
  rw [← x_charset_Valid N]
  exact execF_ok envOk hc (drawn_ok envOk hc) (show E.P.funcs[97]? = some Tryz.f97 from by kernel_rfl) (by kernel_rfl) _ _ _
theorem k_style_Valid (N : Nat) : ConOk E ⟨109, ps_style_Valid, rs_style_Valid, style_Valid N⟩ := by
  have hc : CallsOk E [] := callsOk_all (tab := []) trivial
  rw [← x_style_Valid N]
  exact execF_ok envOk hc (drawn_ok envOk hc) (show E.P.funcs[109]? = some Tryz.f109 from by kernel_rfl) (by kernel_rfl) _ _ _
theorem k_style_alike (N : Nat) : ConOk E ⟨110, ps_style_alike, rs_style_alike, style_alike N⟩ := by
  have hc : CallsOk E [] := callsOk_all (tab := []) trivial
  rw [← x_style_alike N]
  exact execF_ok envOk hc (drawn_ok envOk hc) (show E.P.funcs[110]? = some Tryz.f110 from by kernel_rfl) (by kernel_rfl) _ _ _
theorem k_style_Check (N : Nat) : ConOk E ⟨53, ps_style_Check, rs_style_Check, style_Check N⟩ := by
  have hc : CallsOk E [⟨97, ps_charset_Valid, rs_charset_Valid, charset_Valid N⟩, ⟨109, ps_style_Valid, rs_style_Valid, style_Valid N⟩, ⟨110, ps_style_alike, rs_style_alike, style_alike N⟩] := callsOk_all ⟨k_charset_Valid N, k_style_Valid N, k_style_alike N, trivial⟩
  rw [← x_style_Check N]
  exact execF_ok envOk hc (drawn_ok envOk hc) (show E.P.funcs[53]? = some Tryz.f53 from by kernel_rfl) (by kernel_rfl) _ _ _
theorem k_stl_colorByte (N : Nat) : ConOk E ⟨54, ps_stl_colorByte, rs_stl_colorByte, stl_colorByte N⟩ := by
  have hc : CallsOk E [] := callsOk_all (tab := []) trivial
  rw [← x_stl_colorByte N]
  exact execF_ok envOk hc (drawn_ok envOk hc) (show E.P.funcs[54]? = some Tryz.f54 from by kernel_rfl) (by kernel_rfl) _ _ _
theorem k_stl_on (N : Nat) : ConOk E ⟨55, ps_stl_on, rs_stl_on, stl_on N⟩ := by
  have hc : CallsOk E [] := callsOk_all (tab := []) trivial
  rw [← x_stl_on N]
  exact execF_ok envOk hc (drawn_ok envOk hc) (show E.P.funcs[55]? = some Tryz.f55 from by kernel_rfl) (by kernel_rfl) _ _ _
theorem k_latin_Carries (N : Nat) : ConOk E ⟨170, ps_latin_Carries, rs_latin_Carries, latin_Carries N⟩ := by
  have hc : CallsOk E [⟨161, ps_charset_Index, rs_charset_Index, charset_Index N⟩] := callsOk_all ⟨k_charset_Index N, trivial⟩
  rw [← x_latin_Carries N]
  exact execF_ok envOk hc (drawn_ok envOk hc) (show E.P.funcs[170]? = some Tryz.f170 from by kernel_rfl) (by kernel_rfl) _ _ _
theorem k_latin_accented (N : Nat) : ConOk E ⟨117, ps_latin_accented, rs_latin_accented, latin_accented N⟩ := by
  have hc : CallsOk E [] := callsOk_all (tab := []) trivial
  rw [← x_latin_accented N]
  exact execF_ok envOk hc (drawn_ok envOk hc) (show E.P.funcs[117]? = some Tryz.f117 from by kernel_rfl) (by kernel_rfl) _ _ _
theorem k_charset_Upper (N : Nat) : ConOk E ⟨172, ps_charset_Upper, rs_charset_Upper, charset_Upper N⟩ := by
  have hc : CallsOk E [⟨161, ps_charset_Index, rs_charset_Index, charset_Index N⟩] := callsOk_all ⟨k_charset_Index N, trivial⟩
  rw [← x_charset_Upper N]
  exact execF_ok envOk hc (drawn_ok envOk hc) (show E.P.funcs[172]? = some Tryz.f172 from by kernel_rfl) (by kernel_rfl) _ _ _
theorem k_bytealg_IndexByteString (N : Nat) : ConOk E ⟨270, ps_bytealg_IndexByteString, rs_bytealg_IndexByteString, bytealg_IndexByteString N⟩ := kh_bytealg_IndexByteString N
theorem k_stringslite_IndexByte (N : Nat) : ConOk E ⟨261, ps_stringslite_IndexByte, rs_stringslite_IndexByte, stringslite_IndexByte N⟩ := by
  have hc : CallsOk E [⟨270, ps_bytealg_IndexByteString, rs_bytealg_IndexByteString, bytealg_IndexByteString N⟩] := callsOk_all ⟨k_bytealg_IndexByteString N, trivial⟩
  rw [← x_stringslite_IndexByte N]
  exact execF_ok envOk hc (drawn_ok envOk hc) (show E.P.funcs[261]? = some Tryz.f261 from by kernel_rfl) (by kernel_rfl) _ _ _
theorem k_strings_IndexByte (N : Nat) : ConOk E ⟨242, ps_strings_IndexByte, rs_strings_IndexByte, strings_IndexByte N⟩ := by
  have hc : CallsOk E [⟨261, ps_stringslite_IndexByte, rs_stringslite_IndexByte, stringslite_IndexByte N⟩] := callsOk_all ⟨k_stringslite_IndexByte N, trivial⟩
  rw [← x_strings_IndexByte N]
  exact execF_ok envOk hc (drawn_ok envOk hc) (show E.P.funcs[242]? = some Tryz.f242 from by kernel_rfl) (by kernel_rfl) _ _ _
theorem k_utf8_ValidRune (N : Nat) : ConOk E ⟨243, ps_utf8_ValidRune, rs_utf8_ValidRune, utf8_ValidRune N⟩ := by
  have hc : CallsOk E [] := callsOk_all (tab := []) trivial
  rw [← x_utf8_ValidRune N]
  exact execF_ok envOk hc (drawn_ok envOk hc) (show E.P.funcs[243]? = some Tryz.f243 from by kernel_rfl) (by kernel_rfl) _ _ _
theorem k_bytealg_Cutover (N : Nat) : ConOk E ⟨244, ps_bytealg_Cutover, rs_bytealg_Cutover, bytealg_Cutover N⟩ := by
  have hc : CallsOk E [] := callsOk_all (tab := []) trivial
  rw [← x_bytealg_Cutover N]
  exact execF_ok envOk hc (drawn_ok envOk hc) (show E.P.funcs[244]? = some Tryz.f244 from by kernel_rfl) (by kernel_rfl) _ _ _
theorem k_strings_IndexRune (N : Nat) : ConOk E ⟨220, ps_strings_IndexRune, rs_strings_IndexRune, strings_IndexRune N⟩ := by
  have hc : CallsOk E [⟨242, ps_strings_IndexByte, rs_strings_IndexByte, strings_IndexByte N⟩, ⟨243, ps_utf8_ValidRune, rs_utf8_ValidRune, utf8_ValidRune N⟩, ⟨244, ps_bytealg_Cutover, rs_bytealg_Cutover, bytealg_Cutover N⟩] := callsOk_all ⟨k_strings_IndexByte N, k_utf8_ValidRune N, k_bytealg_Cutover N, trivial⟩
  rw [← x_strings_IndexRune N]
  exact execF_ok envOk hc (drawn_ok envOk hc) (show E.P.funcs[220]? = some Tryz.f220 from by kernel_rfl) (by kernel_rfl) _ _ _
theorem k_strings_ContainsRune (N : Nat) : ConOk E ⟨171, ps_strings_ContainsRune, rs_strings_ContainsRune, strings_ContainsRune N⟩ := by
  have hc : CallsOk E [⟨220, ps_strings_IndexRune, rs_strings_IndexRune, strings_IndexRune N⟩] := callsOk_all ⟨k_strings_IndexRune N, trivial⟩
  rw [← x_strings_ContainsRune N]
  exact execF_ok envOk hc (drawn_ok envOk hc) (show E.P.funcs[171]? = some Tryz.f171 from by kernel_rfl) (by kernel_rfl) _ _ _
theorem k_charset_Base (N : Nat) : ConOk E ⟨119, ps_charset_Base, rs_charset_Base, charset_Base N⟩ := by
  have hc : CallsOk E [⟨161, ps_charset_Index, rs_charset_Index, charset_Index N⟩] := callsOk_all ⟨k_charset_Index N, trivial⟩
  rw [← x_charset_Base N]
  exact execF_ok envOk hc (drawn_ok envOk hc) (show E.P.funcs[119]? = some Tryz.f119 from by kernel_rfl) (by kernel_rfl) _ _ _
theorem k_latin_Put (N : Nat) : ConOk E ⟨111, ps_latin_Put, rs_latin_Put, latin_Put N⟩ := by
  have hc : CallsOk E [⟨170, ps_latin_Carries, rs_latin_Carries, latin_Carries N⟩, ⟨117, ps_latin_accented, rs_latin_accented, latin_accented N⟩, ⟨172, ps_charset_Upper, rs_charset_Upper, charset_Upper N⟩, ⟨171, ps_strings_ContainsRune, rs_strings_ContainsRune, strings_ContainsRune N⟩, ⟨119, ps_charset_Base, rs_charset_Base, charset_Base N⟩] := callsOk_all ⟨k_latin_Carries N, k_latin_accented N, k_charset_Upper N, k_strings_ContainsRune N, k_charset_Base N, trivial⟩
  rw [← x_latin_Put N]
  exact execF_ok envOk hc (drawn_ok envOk hc) (show E.P.funcs[111]? = some Tryz.f111 from by kernel_rfl) (by kernel_rfl) _ _ _
theorem k_latin_Encode (N : Nat) : ConOk E ⟨56, ps_latin_Encode, rs_latin_Encode, latin_Encode N⟩ := by
  have hc : CallsOk E [⟨97, ps_charset_Valid, rs_charset_Valid, charset_Valid N⟩, ⟨111, ps_latin_Put, rs_latin_Put, latin_Put N⟩] := callsOk_all ⟨k_charset_Valid N, k_latin_Put N, trivial⟩
  rw [← x_latin_Encode N]
  exact execF_ok envOk hc (drawn_ok envOk hc) (show E.P.funcs[56]? = some Tryz.f56 from by kernel_rfl) (by kernel_rfl) _ _ _
theorem k_stl_Text (N : Nat) : ConOk E ⟨20, ps_stl_Text, rs_stl_Text, stl_Text N⟩ := by
  have hc : CallsOk E [⟨53, ps_style_Check, rs_style_Check, style_Check N⟩, ⟨54, ps_stl_colorByte, rs_stl_colorByte, stl_colorByte N⟩, ⟨55, ps_stl_on, rs_stl_on, stl_on N⟩, ⟨56, ps_latin_Encode, rs_latin_Encode, latin_Encode N⟩] := callsOk_all ⟨k_style_Check N, k_stl_colorByte N, k_stl_on N, k_latin_Encode N, trivial⟩
  rw [← x_stl_Text N]
  exact execF_ok envOk hc (drawn_ok envOk hc) (show E.P.funcs[20]? = some Tryz.f20 from by kernel_rfl) (by kernel_rfl) _ _ _
theorem k_slices_Equal_Lbyte_byte (N : Nat) : ConOk E ⟨24, ps_slices_Equal_Lbyte_byte, rs_slices_Equal_Lbyte_byte, slices_Equal_Lbyte_byte N⟩ := by
  have hc : CallsOk E [] := callsOk_all (tab := []) trivial
  rw [← x_slices_Equal_Lbyte_byte N]
  exact execF_ok envOk hc (drawn_ok envOk hc) (show E.P.funcs[24]? = some Tryz.f24 from by kernel_rfl) (by kernel_rfl) _ _ _
theorem k_lines_Name (N : Nat) : ConOk E ⟨98, ps_lines_Name, rs_lines_Name, lines_Name N⟩ := by
  have hc : CallsOk E [] := callsOk_all (tab := []) trivial
  rw [← x_lines_Name N]
  exact execF_ok envOk hc (drawn_ok envOk hc) (show E.P.funcs[98]? = some Tryz.f98 from by kernel_rfl) (by kernel_rfl) _ _ _
theorem k_timebase_of (N : Nat) : ConOk E ⟨148, ps_timebase_of, rs_timebase_of, timebase_of N⟩ := by
  have hc : CallsOk E [] := callsOk_all (tab := []) trivial
  rw [← x_timebase_of N]
  exact execF_ok envOk hc (drawn_ok envOk hc) (show E.P.funcs[148]? = some Tryz.f148 from by kernel_rfl) (by kernel_rfl) _ _ _
theorem k_timebase_Valid (N : Nat) : ConOk E ⟨146, ps_timebase_Valid, rs_timebase_Valid, timebase_Valid N⟩ := by
  have hc : CallsOk E [⟨148, ps_timebase_of, rs_timebase_of, timebase_of N⟩] := callsOk_all ⟨k_timebase_of N, trivial⟩
  rw [← x_timebase_Valid N]
  exact execF_ok envOk hc (drawn_ok envOk hc) (show E.P.funcs[146]? = some Tryz.f146 from by kernel_rfl) (by kernel_rfl) _ _ _
theorem k_timebase_CanDrop (N : Nat) : ConOk E ⟨147, ps_timebase_CanDrop, rs_timebase_CanDrop, timebase_CanDrop N⟩ := by
  have hc : CallsOk E [⟨148, ps_timebase_of, rs_timebase_of, timebase_of N⟩] := callsOk_all ⟨k_timebase_of N, trivial⟩
  rw [← x_timebase_CanDrop N]
  exact execF_ok envOk hc (drawn_ok envOk hc) (show E.P.funcs[147]? = some Tryz.f147 from by kernel_rfl) (by kernel_rfl) _ _ _
theorem k_document_rate (N : Nat) : ConOk E ⟨99, ps_document_rate, rs_document_rate, document_rate N⟩ := by
  have hc : CallsOk E [⟨146, ps_timebase_Valid, rs_timebase_Valid, timebase_Valid N⟩, ⟨147, ps_timebase_CanDrop, rs_timebase_CanDrop, timebase_CanDrop N⟩] := callsOk_all ⟨k_timebase_Valid N, k_timebase_CanDrop N, trivial⟩
  rw [← x_document_rate N]
  exact execF_ok envOk hc (drawn_ok envOk hc) (show E.P.funcs[99]? = some Tryz.f99 from by kernel_rfl) (by kernel_rfl) _ _ _
theorem k_document_header (N : Nat) : ConOk E ⟨47, ps_document_header, rs_document_header, document_header N⟩ := by
  have hc : CallsOk E [⟨97, ps_charset_Valid, rs_charset_Valid, charset_Valid N⟩, ⟨98, ps_lines_Name, rs_lines_Name, lines_Name N⟩, ⟨99, ps_document_rate, rs_document_rate, document_rate N⟩] := callsOk_all ⟨k_charset_Valid N, k_lines_Name N, k_document_rate N, trivial⟩
  rw [← x_document_header N]
  exact execF_ok envOk hc (drawn_ok envOk hc) (show E.P.funcs[47]? = some Tryz.f47 from by kernel_rfl) (by kernel_rfl) _ _ _
theorem k_region_from (N : Nat) : ConOk E ⟨162, ps_region_from, rs_region_from, region_from N⟩ := by
  have hc : CallsOk E [] := callsOk_all (tab := []) trivial
  rw [← x_region_from N]
  exact execF_ok envOk hc (drawn_ok envOk hc) (show E.P.funcs[162]? = some Tryz.f162 from by kernel_rfl) (by kernel_rfl) _ _ _
theorem k_region_Check (N : Nat) : ConOk E ⟨100, ps_region_Check, rs_region_Check, region_Check N⟩ := by
  have hc : CallsOk E [⟨98, ps_lines_Name, rs_lines_Name, lines_Name N⟩, ⟨162, ps_region_from, rs_region_from, region_from N⟩] := callsOk_all ⟨k_lines_Name N, k_region_from N, trivial⟩
  rw [← x_region_Check N]
  exact execF_ok envOk hc (drawn_ok envOk hc) (show E.P.funcs[100]? = some Tryz.f100 from by kernel_rfl) (by kernel_rfl) _ _ _
theorem k_region_CheckList (N : Nat) : ConOk E ⟨48, ps_region_CheckList, rs_region_CheckList, region_CheckList N⟩ := by
  have hc : CallsOk E [⟨100, ps_region_Check, rs_region_Check, region_Check N⟩] := callsOk_all ⟨k_region_Check N, trivial⟩
  rw [← x_region_CheckList N]
  exact execF_ok envOk hc (drawn_ok envOk hc) (show E.P.funcs[48]? = some Tryz.f48 from by kernel_rfl) (by kernel_rfl) _ _ _
theorem k_region_Default (N : Nat) : ConOk E ⟨149, ps_region_Default, rs_region_Default, region_Default N⟩ := by
  have hc : CallsOk E [] := callsOk_all (tab := []) trivial
  rw [← x_region_Default N]
  exact execF_ok envOk hc (drawn_ok envOk hc) (show E.P.funcs[149]? = some Tryz.f149 from by kernel_rfl) (by kernel_rfl) _ _ _
theorem k_region_Find (N : Nat) : ConOk E ⟨81, ps_region_Find, rs_region_Find, region_Find N⟩ := by
  have hc : CallsOk E [⟨149, ps_region_Default, rs_region_Default, region_Default N⟩] := callsOk_all ⟨k_region_Default N, trivial⟩
  rw [← x_region_Find N]
  exact execF_ok envOk hc (drawn_ok envOk hc) (show E.P.funcs[81]? = some Tryz.f81 from by kernel_rfl) (by kernel_rfl) _ _ _
theorem k_event_spans (N : Nat) : ConOk E ⟨101, ps_event_spans, rs_event_spans, event_spans N⟩ := by
  have hc : CallsOk E [] := callsOk_all (tab := []) trivial
  rw [← x_event_spans N]
  exact execF_ok envOk hc (drawn_ok envOk hc) (show E.P.funcs[101]? = some Tryz.f101 from by kernel_rfl) (by kernel_rfl) _ _ _
theorem k_event_kinds (N : Nat) : ConOk E ⟨163, ps_event_kinds, rs_event_kinds, event_kinds N⟩ := by
  have hc : CallsOk E [] := callsOk_all (tab := []) trivial
  rw [← x_event_kinds N]
  exact execF_ok envOk hc (drawn_ok envOk hc) (show E.P.funcs[163]? = some Tryz.f163 from by kernel_rfl) (by kernel_rfl) _ _ _
theorem k_event_KindName (N : Nat) : ConOk E ⟨102, ps_event_KindName, rs_event_KindName, event_KindName N⟩ := by
  have hc : CallsOk E [⟨163, ps_event_kinds, rs_event_kinds, event_kinds N⟩] := callsOk_all ⟨k_event_kinds N, trivial⟩
  rw [← x_event_KindName N]
  exact execF_ok envOk hc (drawn_ok envOk hc) (show E.P.funcs[102]? = some Tryz.f102 from by kernel_rfl) (by kernel_rfl) _ _ _
theorem k_strings_Builder_copyCheck (N : Nat) : ConOk E ⟨239, ps_strings_Builder_copyCheck, rs_strings_Builder_copyCheck, strings_Builder_copyCheck N⟩ := kh_strings_Builder_copyCheck N
theorem k_strings_Builder_WriteString (N : Nat) : ConOk E ⟨216, ps_strings_Builder_WriteString, rs_strings_Builder_WriteString, strings_Builder_WriteString N⟩ := by
  have hc : CallsOk E [⟨239, ps_strings_Builder_copyCheck, rs_strings_Builder_copyCheck, strings_Builder_copyCheck N⟩] := callsOk_all ⟨k_strings_Builder_copyCheck N, trivial⟩
  rw [← x_strings_Builder_WriteString N]
  exact execF_ok envOk hc (drawn_ok envOk hc) (show E.P.funcs[216]? = some Tryz.f216 from by kernel_rfl) (by kernel_rfl) _ _ _
theorem k_style_Plain (N : Nat) : ConOk E ⟨164, ps_style_Plain, rs_style_Plain, style_Plain N⟩ := by
  have hc : CallsOk E [⟨216, ps_strings_Builder_WriteString, rs_strings_Builder_WriteString, strings_Builder_WriteString N⟩] := callsOk_all ⟨k_strings_Builder_WriteString N, trivial⟩
  rw [← x_style_Plain N]
  exact execF_ok envOk hc (drawn_ok envOk hc) (show E.P.funcs[164]? = some Tryz.f164 from by kernel_rfl) (by kernel_rfl) _ _ _
theorem k_bytealg_hashStr_string (N : Nat) : ConOk E ⟨271, ps_bytealg_hashStr_string, rs_bytealg_hashStr_string, bytealg_hashStr_string N⟩ := by
  have hc : CallsOk E [] := callsOk_all (tab := []) trivial
  rw [← x_bytealg_hashStr_string N]
  exact execF_ok envOk hc (drawn_ok envOk hc) (show E.P.funcs[271]? = some Tryz.f271 from by kernel_rfl) (by kernel_rfl) _ _ _
theorem k_bytealg_IndexRabinKarp_string (N : Nat) : ConOk E ⟨262, ps_bytealg_IndexRabinKarp_string, rs_bytealg_IndexRabinKarp_string, bytealg_IndexRabinKarp_string N⟩ := by
  have hc : CallsOk E [⟨271, ps_bytealg_hashStr_string, rs_bytealg_hashStr_string, bytealg_hashStr_string N⟩] := callsOk_all ⟨k_bytealg_hashStr_string N, trivial⟩
  rw [← x_bytealg_IndexRabinKarp_string N]
  exact execF_ok envOk hc (drawn_ok envOk hc) (show E.P.funcs[262]? = some Tryz.f262 from by kernel_rfl) (by kernel_rfl) _ _ _
theorem k_stringslite_Index (N : Nat) : ConOk E ⟨240, ps_stringslite_Index, rs_stringslite_Index, stringslite_Index N⟩ := by
  have hc : CallsOk E [⟨261, ps_stringslite_IndexByte, rs_stringslite_IndexByte, stringslite_IndexByte N⟩, ⟨244, ps_bytealg_Cutover, rs_bytealg_Cutover, bytealg_Cutover N⟩, ⟨262, ps_bytealg_IndexRabinKarp_string, rs_bytealg_IndexRabinKarp_string, bytealg_IndexRabinKarp_string N⟩] := callsOk_all ⟨k_stringslite_IndexByte N, k_bytealg_Cutover N, k_bytealg_IndexRabinKarp_string N, trivial⟩
  rw [← x_stringslite_Index N]
  exact execF_ok envOk hc (drawn_ok envOk hc) (show E.P.funcs[240]? = some Tryz.f240 from by kernel_rfl) (by kernel_rfl) _ _ _
theorem k_strings_Index (N : Nat) : ConOk E ⟨218, ps_strings_Index, rs_strings_Index, strings_Index N⟩ := by
  have hc : CallsOk E [⟨240, ps_stringslite_Index, rs_stringslite_Index, stringslite_Index N⟩] := callsOk_all ⟨k_stringslite_Index N, trivial⟩
  rw [← x_strings_Index N]
  exact execF_ok envOk hc (drawn_ok envOk hc) (show E.P.funcs[218]? = some Tryz.f218 from by kernel_rfl) (by kernel_rfl) _ _ _
theorem k_strings_Contains (N : Nat) : ConOk E ⟨165, ps_strings_Contains, rs_strings_Contains, strings_Contains N⟩ := kh_strings_Contains N
theorem k_utf8_RuneCountInString (N : Nat) : ConOk E ⟨241, ps_utf8_RuneCountInString, rs_utf8_RuneCountInString, utf8_RuneCountInString N⟩ := by
  have hc : CallsOk E [] := callsOk_all (tab := []) trivial
  rw [← x_utf8_RuneCountInString N]
  exact execF_ok envOk hc (drawn_ok envOk hc) (show E.P.funcs[241]? = some Tryz.f241 from by kernel_rfl) (by kernel_rfl) _ _ _
theorem k_charset_Len (N : Nat) : ConOk E ⟨219, ps_charset_Len, rs_charset_Len, charset_Len N⟩ := by
  have hc : CallsOk E [⟨97, ps_charset_Valid, rs_charset_Valid, charset_Valid N⟩, ⟨241, ps_utf8_RuneCountInString, rs_utf8_RuneCountInString, utf8_RuneCountInString N⟩] := callsOk_all ⟨k_charset_Valid N, k_utf8_RuneCountInString N, trivial⟩
  rw [← x_charset_Len N]
  exact execF_ok envOk hc (drawn_ok envOk hc) (show E.P.funcs[219]? = some Tryz.f219 from by kernel_rfl) (by kernel_rfl) _ _ _
theorem k_style_Len (N : Nat) : ConOk E ⟨166, ps_style_Len, rs_style_Len, style_Len N⟩ := by
  have hc : CallsOk E [⟨219, ps_charset_Len, rs_charset_Len, charset_Len N⟩] := callsOk_all ⟨k_charset_Len N, trivial⟩
  rw [← x_style_Len N]
  exact execF_ok envOk hc (drawn_ok envOk hc) (show E.P.funcs[166]? = some Tryz.f166 from by kernel_rfl) (by kernel_rfl) _ _ _
theorem k_event_row (N : Nat) : ConOk E ⟨103, ps_event_row, rs_event_row, event_row N⟩ := by
  have hc : CallsOk E [⟨53, ps_style_Check, rs_style_Check, style_Check N⟩, ⟨164, ps_style_Plain, rs_style_Plain, style_Plain N⟩, ⟨165, ps_strings_Contains, rs_strings_Contains, strings_Contains N⟩, ⟨166, ps_style_Len, rs_style_Len, style_Len N⟩] := callsOk_all ⟨k_style_Check N, k_style_Plain N, k_strings_Contains N, k_style_Len N, trivial⟩
  rw [← x_event_row N]
  exact execF_ok envOk hc (drawn_ok envOk hc) (show E.P.funcs[103]? = some Tryz.f103 from by kernel_rfl) (by kernel_rfl) _ _ _
theorem k_event_lens (N : Nat) : ConOk E ⟨105, ps_event_lens, rs_event_lens, event_lens N⟩ := by
  have hc : CallsOk E [⟨166, ps_style_Len, rs_style_Len, style_Len N⟩] := callsOk_all ⟨k_style_Len N, trivial⟩
  rw [← x_event_lens N]
  exact execF_ok envOk hc (drawn_ok envOk hc) (show E.P.funcs[105]? = some Tryz.f105 from by kernel_rfl) (by kernel_rfl) _ _ _
theorem k_region_usable (N : Nat) : ConOk E ⟨167, ps_region_usable, rs_region_usable, region_usable N⟩ := by
  have hc : CallsOk E [⟨149, ps_region_Default, rs_region_Default, region_Default N⟩, ⟨100, ps_region_Check, rs_region_Check, region_Check N⟩] := callsOk_all ⟨k_region_Default N, k_region_Check N, trivial⟩
  rw [← x_region_usable N]
  exact execF_ok envOk hc (drawn_ok envOk hc) (show E.P.funcs[167]? = some Tryz.f167 from by kernel_rfl) (by kernel_rfl) _ _ _
theorem k_region_Place (N : Nat) : ConOk E ⟨104, ps_region_Place, rs_region_Place, region_Place N⟩ := by
  have hc : CallsOk E [⟨167, ps_region_usable, rs_region_usable, region_usable N⟩] := callsOk_all ⟨k_region_usable N, trivial⟩
  rw [← x_region_Place N]
  exact execF_ok envOk hc (drawn_ok envOk hc) (show E.P.funcs[104]? = some Tryz.f104 from by kernel_rfl) (by kernel_rfl) _ _ _
theorem k_event_Check (N : Nat) : ConOk E ⟨49, ps_event_Check, rs_event_Check, event_Check N⟩ := by
  have hc : CallsOk E [⟨81, ps_region_Find, rs_region_Find, region_Find N⟩, ⟨101, ps_event_spans, rs_event_spans, event_spans N⟩, ⟨102, ps_event_KindName, rs_event_KindName, event_KindName N⟩, ⟨98, ps_lines_Name, rs_lines_Name, lines_Name N⟩, ⟨103, ps_event_row, rs_event_row, event_row N⟩, ⟨105, ps_event_lens, rs_event_lens, event_lens N⟩, ⟨104, ps_region_Place, rs_region_Place, region_Place N⟩] := callsOk_all ⟨k_region_Find N, k_event_spans N, k_event_KindName N, k_lines_Name N, k_event_row N, k_event_lens N, k_region_Place N, trivial⟩
  rw [← x_event_Check N]
  exact execF_ok envOk hc (drawn_ok envOk hc) (show E.P.funcs[49]? = some Tryz.f49 from by kernel_rfl) (by kernel_rfl) _ _ _
theorem k_cmp_isNaN_int64 (N : Nat) : ConOk E ⟨168, ps_cmp_isNaN_int64, rs_cmp_isNaN_int64, cmp_isNaN_int64 N⟩ := by
  have hc : CallsOk E [] := callsOk_all (tab := []) trivial
  rw [← x_cmp_isNaN_int64 N]
  exact execF_ok envOk hc (drawn_ok envOk hc) (show E.P.funcs[168]? = some Tryz.f168 from by kernel_rfl) (by kernel_rfl) _ _ _
theorem k_cmp_Compare_int64 (N : Nat) : ConOk E ⟨107, ps_cmp_Compare_int64, rs_cmp_Compare_int64, cmp_Compare_int64 N⟩ := by
  have hc : CallsOk E [⟨168, ps_cmp_isNaN_int64, rs_cmp_isNaN_int64, cmp_isNaN_int64 N⟩] := callsOk_all ⟨k_cmp_isNaN_int64 N, trivial⟩
  rw [← x_cmp_Compare_int64 N]
  exact execF_ok envOk hc (drawn_ok envOk hc) (show E.P.funcs[107]? = some Tryz.f107 from by kernel_rfl) (by kernel_rfl) _ _ _
theorem k_cmp_Or_int (N : Nat) : ConOk E ⟨106, ps_cmp_Or_int, rs_cmp_Or_int, cmp_Or_int N⟩ := by
  have hc : CallsOk E [] := callsOk_all (tab := []) trivial
  rw [← x_cmp_Or_int N]
  exact execF_ok envOk hc (drawn_ok envOk hc) (show E.P.funcs[106]? = some Tryz.f106 from by kernel_rfl) (by kernel_rfl) _ _ _
theorem k_event_Less (N : Nat) : ConOk E ⟨50, ps_event_Less, rs_event_Less, event_Less N⟩ := by
  have hc : CallsOk E [⟨107, ps_cmp_Compare_int64, rs_cmp_Compare_int64, cmp_Compare_int64 N⟩, ⟨106, ps_cmp_Or_int, rs_cmp_Or_int, cmp_Or_int N⟩] := callsOk_all ⟨k_cmp_Compare_int64 N, k_cmp_Or_int N, trivial⟩
  rw [← x_event_Less N]
  exact execF_ok envOk hc (drawn_ok envOk hc) (show E.P.funcs[50]? = some Tryz.f50 from by kernel_rfl) (by kernel_rfl) _ _ _
theorem k_event_Len (N : Nat) : ConOk E ⟨169, ps_event_Len, rs_event_Len, event_Len N⟩ := by
  have hc : CallsOk E [⟨105, ps_event_lens, rs_event_lens, event_lens N⟩] := callsOk_all ⟨k_event_lens N, trivial⟩
  rw [← x_event_Len N]
  exact execF_ok envOk hc (drawn_ok envOk hc) (show E.P.funcs[169]? = some Tryz.f169 from by kernel_rfl) (by kernel_rfl) _ _ _
theorem k_document_anchored (N : Nat) : ConOk E ⟨108, ps_document_anchored, rs_document_anchored, document_anchored N⟩ := by
  have hc : CallsOk E [⟨169, ps_event_Len, rs_event_Len, event_Len N⟩] := callsOk_all ⟨k_event_Len N, trivial⟩
  rw [← x_document_anchored N]
  exact execF_ok envOk hc (drawn_ok envOk hc) (show E.P.funcs[108]? = some Tryz.f108 from by kernel_rfl) (by kernel_rfl) _ _ _
theorem k_document_comments (N : Nat) : ConOk E ⟨51, ps_document_comments, rs_document_comments, document_comments N⟩ := by
  have hc : CallsOk E [⟨108, ps_document_anchored, rs_document_anchored, document_anchored N⟩, ⟨98, ps_lines_Name, rs_lines_Name, lines_Name N⟩, ⟨97, ps_charset_Valid, rs_charset_Valid, charset_Valid N⟩] := callsOk_all ⟨k_document_anchored N, k_lines_Name N, k_charset_Valid N, trivial⟩
  rw [← x_document_comments N]
  exact execF_ok envOk hc (drawn_ok envOk hc) (show E.P.funcs[51]? = some Tryz.f51 from by kernel_rfl) (by kernel_rfl) _ _ _
theorem k_document_Check (N : Nat) : ConOk E ⟨18, ps_document_Check, rs_document_Check, document_Check N⟩ := by
  have hc : CallsOk E [⟨47, ps_document_header, rs_document_header, document_header N⟩, ⟨48, ps_region_CheckList, rs_region_CheckList, region_CheckList N⟩, ⟨49, ps_event_Check, rs_event_Check, event_Check N⟩, ⟨50, ps_event_Less, rs_event_Less, event_Less N⟩, ⟨51, ps_document_comments, rs_document_comments, document_comments N⟩] := callsOk_all ⟨k_document_header N, k_region_CheckList N, k_event_Check N, k_event_Less N, k_document_comments N, trivial⟩
  rw [← x_document_Check N]
  exact execF_ok envOk hc (drawn_ok envOk hc) (show E.P.funcs[18]? = some Tryz.f18 from by kernel_rfl) (by kernel_rfl) _ _ _
theorem k_event_Spots (N : Nat) : ConOk E ⟨80, ps_event_Spots, rs_event_Spots, event_Spots N⟩ := by
  have hc : CallsOk E [⟨81, ps_region_Find, rs_region_Find, region_Find N⟩, ⟨105, ps_event_lens, rs_event_lens, event_lens N⟩, ⟨104, ps_region_Place, rs_region_Place, region_Place N⟩] := callsOk_all ⟨k_region_Find N, k_event_lens N, k_region_Place N, trivial⟩
  rw [← x_event_Spots N]
  exact execF_ok envOk hc (drawn_ok envOk hc) (show E.P.funcs[80]? = some Tryz.f80 from by kernel_rfl) (by kernel_rfl) _ _ _
theorem k_stl_placed (N : Nat) : ConOk E ⟨33, ps_stl_placed, rs_stl_placed, stl_placed N⟩ := by
  have hc : CallsOk E [⟨80, ps_event_Spots, rs_event_Spots, event_Spots N⟩, ⟨81, ps_region_Find, rs_region_Find, region_Find N⟩] := callsOk_all ⟨k_event_Spots N, k_region_Find N, trivial⟩
  rw [← x_stl_placed N]
  exact execF_ok envOk hc (drawn_ok envOk hc) (show E.P.funcs[33]? = some Tryz.f33 from by kernel_rfl) (by kernel_rfl) _ _ _
theorem k_istrconv_small (N : Nat) : ConOk E ⟨235, ps_istrconv_small, rs_istrconv_small, istrconv_small N⟩ := by
  have hc : CallsOk E [] := callsOk_all (tab := []) trivial
  rw [← x_istrconv_small N]
  exact execF_ok envOk hc (drawn_ok envOk hc) (show E.P.funcs[235]? = some Tryz.f235 from by kernel_rfl) (by kernel_rfl) _ _ _
theorem k_bits_Len64 (N : Nat) : ConOk E ⟨256, ps_bits_Len64, rs_bits_Len64, bits_Len64 N⟩ := by
  have hc : CallsOk E [] := callsOk_all (tab := []) trivial
  rw [← x_bits_Len64 N]
  exact execF_ok envOk hc (drawn_ok envOk hc) (show E.P.funcs[256]? = some Tryz.f256 from by kernel_rfl) (by kernel_rfl) _ _ _
theorem k_istrconv_log10Pow2 (N : Nat) : ConOk E ⟨255, ps_istrconv_log10Pow2, rs_istrconv_log10Pow2, istrconv_log10Pow2 N⟩ := by
  have hc : CallsOk E [] := callsOk_all (tab := []) trivial
  rw [← x_istrconv_log10Pow2 N]
  exact execF_ok envOk hc (drawn_ok envOk hc) (show E.P.funcs[255]? = some Tryz.f255 from by kernel_rfl) (by kernel_rfl) _ _ _
theorem k_istrconv_bool2_int (N : Nat) : ConOk E ⟨257, ps_istrconv_bool2_int, rs_istrconv_bool2_int, istrconv_bool2_int N⟩ := by
  have hc : CallsOk E [] := callsOk_all (tab := []) trivial
  rw [← x_istrconv_bool2_int N]
  exact execF_ok envOk hc (drawn_ok envOk hc) (show E.P.funcs[257]? = some Tryz.f257 from by kernel_rfl) (by kernel_rfl) _ _ _
theorem k_istrconv_formatBase10 (N : Nat) : ConOk E ⟨237, ps_istrconv_formatBase10, rs_istrconv_formatBase10, istrconv_formatBase10 N⟩ := by
  have hc : CallsOk E [] := callsOk_all (tab := []) trivial
  rw [← x_istrconv_formatBase10 N]
  exact execF_ok envOk hc (drawn_ok envOk hc) (show E.P.funcs[237]? = some Tryz.f237 from by kernel_rfl) (by kernel_rfl) _ _ _
theorem k_istrconv_isPowerOfTwo (N : Nat) : ConOk E ⟨258, ps_istrconv_isPowerOfTwo, rs_istrconv_isPowerOfTwo, istrconv_isPowerOfTwo N⟩ := by
  have hc : CallsOk E [] := callsOk_all (tab := []) trivial
  rw [← x_istrconv_isPowerOfTwo N]
  exact execF_ok envOk hc (drawn_ok envOk hc) (show E.P.funcs[258]? = some Tryz.f258 from by kernel_rfl) (by kernel_rfl) _ _ _
theorem k_bits_TrailingZeros32 (N : Nat) : ConOk E ⟨268, ps_bits_TrailingZeros32, rs_bits_TrailingZeros32, bits_TrailingZeros32 N⟩ := by
  have hc : CallsOk E [] := callsOk_all (tab := []) trivial
  rw [← x_bits_TrailingZeros32 N]
  exact execF_ok envOk hc (drawn_ok envOk hc) (show E.P.funcs[268]? = some Tryz.f268 from by kernel_rfl) (by kernel_rfl) _ _ _
theorem k_bits_TrailingZeros64 (N : Nat) : ConOk E ⟨269, ps_bits_TrailingZeros64, rs_bits_TrailingZeros64, bits_TrailingZeros64 N⟩ := by
  have hc : CallsOk E [] := callsOk_all (tab := []) trivial
  rw [← x_bits_TrailingZeros64 N]
  exact execF_ok envOk hc (drawn_ok envOk hc) (show E.P.funcs[269]? = some Tryz.f269 from by kernel_rfl) (by kernel_rfl) _ _ _
theorem k_bits_TrailingZeros (N : Nat) : ConOk E ⟨259, ps_bits_TrailingZeros, rs_bits_TrailingZeros, bits_TrailingZeros N⟩ := by
  have hc : CallsOk E [⟨268, ps_bits_TrailingZeros32, rs_bits_TrailingZeros32, bits_TrailingZeros32 N⟩, ⟨269, ps_bits_TrailingZeros64, rs_bits_TrailingZeros64, bits_TrailingZeros64 N⟩] := callsOk_all ⟨k_bits_TrailingZeros32 N, k_bits_TrailingZeros64 N, trivial⟩
  rw [← x_bits_TrailingZeros N]
  exact execF_ok envOk hc (drawn_ok envOk hc) (show E.P.funcs[259]? = some Tryz.f259 from by kernel_rfl) (by kernel_rfl) _ _ _
theorem k_istrconv_FormatInt (N : Nat) : ConOk E ⟨210, ps_istrconv_FormatInt, rs_istrconv_FormatInt, istrconv_FormatInt N⟩ := by
  have hc : CallsOk E [⟨235, ps_istrconv_small, rs_istrconv_small, istrconv_small N⟩, ⟨237, ps_istrconv_formatBase10, rs_istrconv_formatBase10, istrconv_formatBase10 N⟩] := callsOk_all ⟨k_istrconv_small N, k_istrconv_formatBase10 N, trivial⟩
  rw [← x_istrconv_FormatInt N]
  exact execF_ok envOk hc (drawn_ok envOk hc) (show E.P.funcs[210]? = some Tryz.f210 from by kernel_rfl) (by kernel_rfl) _ _ _
theorem k_strconv_FormatInt (N : Nat) : ConOk E ⟨150, ps_strconv_FormatInt, rs_strconv_FormatInt, strconv_FormatInt N⟩ := by
  have hc : CallsOk E [⟨210, ps_istrconv_FormatInt, rs_istrconv_FormatInt, istrconv_FormatInt N⟩] := callsOk_all ⟨k_istrconv_FormatInt N, trivial⟩
  rw [← x_strconv_FormatInt N]
  exact execF_ok envOk hc (drawn_ok envOk hc) (show E.P.funcs[150]? = some Tryz.f150 from by kernel_rfl) (by kernel_rfl) _ _ _
theorem k_lines_Decimal (N : Nat) : ConOk E ⟨82, ps_lines_Decimal, rs_lines_Decimal, lines_Decimal N⟩ := by
  have hc : CallsOk E [⟨150, ps_strconv_FormatInt, rs_strconv_FormatInt, strconv_FormatInt N⟩] := callsOk_all ⟨k_strconv_FormatInt N, trivial⟩
  rw [← x_lines_Decimal N]
  exact execF_ok envOk hc (drawn_ok envOk hc) (show E.P.funcs[82]? = some Tryz.f82 from by kernel_rfl) (by kernel_rfl) _ _ _
theorem k_stl_place_region (N : Nat) : ConOk E ⟨34, ps_stl_place_region, rs_stl_place_region, stl_place_region N⟩ := by
  have hc : CallsOk E [⟨82, ps_lines_Decimal, rs_lines_Decimal, lines_Decimal N⟩] := callsOk_all ⟨k_lines_Decimal N, trivial⟩
  rw [← x_stl_place_region N]
  exact execF_ok envOk hc (drawn_ok envOk hc) (show E.P.funcs[34]? = some Tryz.f34 from by kernel_rfl) (by kernel_rfl) _ _ _
theorem k_stl_add (N : Nat) : ConOk E ⟨32, ps_stl_add, rs_stl_add, stl_add N⟩ := by
  have hc : CallsOk E [] := callsOk_all (tab := []) trivial
  rw [← x_stl_add N]
  exact execF_ok envOk hc (drawn_ok envOk hc) (show E.P.funcs[32]? = some Tryz.f32 from by kernel_rfl) (by kernel_rfl) _ _ _
theorem k_style_norm (N : Nat) : ConOk E ⟨64, ps_style_norm, rs_style_norm, style_norm N⟩ := by
  have hc : CallsOk E [⟨110, ps_style_alike, rs_style_alike, style_alike N⟩] := callsOk_all ⟨k_style_alike N, trivial⟩
  rw [← x_style_norm N]
  exact execF_ok envOk hc (drawn_ok envOk hc) (show E.P.funcs[64]? = some Tryz.f64 from by kernel_rfl) (by kernel_rfl) _ _ _
theorem k_style_Norm (N : Nat) : ConOk E ⟨26, ps_style_Norm, rs_style_Norm, style_Norm N⟩ := by
  have hc : CallsOk E [⟨64, ps_style_norm, rs_style_norm, style_norm N⟩] := callsOk_all ⟨k_style_norm N, trivial⟩
  rw [← x_style_Norm N]
  exact execF_ok envOk hc (drawn_ok envOk hc) (show E.P.funcs[26]? = some Tryz.f26 from by kernel_rfl) (by kernel_rfl) _ _ _
theorem k_stl_bare (N : Nat) : ConOk E ⟨45, ps_stl_bare, rs_stl_bare, stl_bare N⟩ := by
  have hc : CallsOk E [⟨26, ps_style_Norm, rs_style_Norm, style_Norm N⟩] := callsOk_all ⟨k_style_Norm N, trivial⟩
  rw [← x_stl_bare N]
  exact execF_ok envOk hc (drawn_ok envOk hc) (show E.P.funcs[45]? = some Tryz.f45 from by kernel_rfl) (by kernel_rfl) _ _ _
theorem k_stl_Reduce (N : Nat) : ConOk E ⟨16, ps_stl_Reduce, rs_stl_Reduce, stl_Reduce N⟩ := by
  have hc : CallsOk E [⟨18, ps_document_Check, rs_document_Check, document_Check N⟩, ⟨33, ps_stl_placed, rs_stl_placed, stl_placed N⟩, ⟨34, ps_stl_place_region, rs_stl_place_region, stl_place_region N⟩, ⟨32, ps_stl_add, rs_stl_add, stl_add N⟩, ⟨45, ps_stl_bare, rs_stl_bare, stl_bare N⟩] := callsOk_all ⟨k_document_Check N, k_stl_placed N, k_stl_place_region N, k_stl_add N, k_stl_bare N, trivial⟩
  rw [← x_stl_Reduce N]
  exact execF_ok envOk hc (drawn_ok envOk hc) (show E.P.funcs[16]? = some Tryz.f16 from by kernel_rfl) (by kernel_rfl) _ _ _
theorem k_l24_awake (N : Nat) : ConOk E ⟨11, ps_l24_awake, rs_l24_awake, l24_awake N⟩ := by
  have hc : CallsOk E [⟨20, ps_stl_Text, rs_stl_Text, stl_Text N⟩, ⟨24, ps_slices_Equal_Lbyte_byte, rs_slices_Equal_Lbyte_byte, slices_Equal_Lbyte_byte N⟩, ⟨16, ps_stl_Reduce, rs_stl_Reduce, stl_Reduce N⟩] := callsOk_all ⟨k_stl_Text N, k_slices_Equal_Lbyte_byte N, k_stl_Reduce N, trivial⟩
  rw [← x_l24_awake N]
  exact execF_ok envOk hc (drawn_ok envOk hc) (show E.P.funcs[11]? = some Tryz.f11 from by kernel_rfl) (by kernel_rfl) _ _ _
theorem k_l24_few (N : Nat) : ConOk E ⟨12, ps_l24_few, rs_l24_few, l24_few N⟩ := by
  have hc : CallsOk E [] := callsOk_all (tab := []) trivial
  rw [← x_l24_few N]
  exact execF_ok envOk hc (drawn_ok envOk hc) (show E.P.funcs[12]? = some Tryz.f12 from by kernel_rfl) (by kernel_rfl) _ _ _
theorem k_timecode_rateError (N : Nat) : ConOk E ⟨77, ps_timecode_rateError, rs_timecode_rateError, timecode_rateError N⟩ := by
  have hc : CallsOk E [⟨146, ps_timebase_Valid, rs_timebase_Valid, timebase_Valid N⟩, ⟨147, ps_timebase_CanDrop, rs_timebase_CanDrop, timebase_CanDrop N⟩] := callsOk_all ⟨k_timebase_Valid N, k_timebase_CanDrop N, trivial⟩
  rw [← x_timecode_rateError N]
  exact execF_ok envOk hc (drawn_ok envOk hc) (show E.P.funcs[77]? = some Tryz.f77 from by kernel_rfl) (by kernel_rfl) _ _ _
theorem k_timebase_Nominal (N : Nat) : ConOk E ⟨78, ps_timebase_Nominal, rs_timebase_Nominal, timebase_Nominal N⟩ := by
  have hc : CallsOk E [⟨148, ps_timebase_of, rs_timebase_of, timebase_of N⟩] := callsOk_all ⟨k_timebase_of N, trivial⟩
  rw [← x_timebase_Nominal N]
  exact execF_ok envOk hc (drawn_ok envOk hc) (show E.P.funcs[78]? = some Tryz.f78 from by kernel_rfl) (by kernel_rfl) _ _ _
theorem k_timecode_dropped (N : Nat) : ConOk E ⟨79, ps_timecode_dropped, rs_timecode_dropped, timecode_dropped N⟩ := by
  have hc : CallsOk E [] := callsOk_all (tab := []) trivial
  rw [← x_timecode_dropped N]
  exact execF_ok envOk hc (drawn_ok envOk hc) (show E.P.funcs[79]? = some Tryz.f79 from by kernel_rfl) (by kernel_rfl) _ _ _
theorem k_timecode_Day (N : Nat) : ConOk E ⟨31, ps_timecode_Day, rs_timecode_Day, timecode_Day N⟩ := by
  have hc : CallsOk E [⟨77, ps_timecode_rateError, rs_timecode_rateError, timecode_rateError N⟩, ⟨78, ps_timebase_Nominal, rs_timebase_Nominal, timebase_Nominal N⟩, ⟨79, ps_timecode_dropped, rs_timecode_dropped, timecode_dropped N⟩] := callsOk_all ⟨k_timecode_rateError N, k_timebase_Nominal N, k_timecode_dropped N, trivial⟩
  rw [← x_timecode_Day N]
  exact execF_ok envOk hc (drawn_ok envOk hc) (show E.P.funcs[31]? = some Tryz.f31 from by kernel_rfl) (by kernel_rfl) _ _ _
theorem k_stl_Accept (N : Nat) : ConOk E ⟨13, ps_stl_Accept, rs_stl_Accept, stl_Accept N⟩ := by
  have hc : CallsOk E [⟨18, ps_document_Check, rs_document_Check, document_Check N⟩, ⟨31, ps_timecode_Day, rs_timecode_Day, timecode_Day N⟩, ⟨33, ps_stl_placed, rs_stl_placed, stl_placed N⟩, ⟨34, ps_stl_place_region, rs_stl_place_region, stl_place_region N⟩, ⟨32, ps_stl_add, rs_stl_add, stl_add N⟩] := callsOk_all ⟨k_document_Check N, k_timecode_Day N, k_stl_placed N, k_stl_place_region N, k_stl_add N, trivial⟩
  rw [← x_stl_Accept N]
  exact execF_ok envOk hc (drawn_ok envOk hc) (show E.P.funcs[13]? = some Tryz.f13 from by kernel_rfl) (by kernel_rfl) _ _ _
theorem k_r08_Repertoire (N : Nat) : ConOk E ⟨221, ps_r08_Repertoire, rs_r08_Repertoire, r08_Repertoire N⟩ := by
  have hc : CallsOk E [] := callsOk_all (tab := []) trivial
  rw [← x_r08_Repertoire N]
  exact execF_ok envOk hc (drawn_ok envOk hc) (show E.P.funcs[221]? = some Tryz.f221 from by kernel_rfl) (by kernel_rfl) _ _ _
theorem k_r08_Index (N : Nat) : ConOk E ⟨173, ps_r08_Index, rs_r08_Index, r08_Index N⟩ := by
  have hc : CallsOk E [⟨221, ps_r08_Repertoire, rs_r08_Repertoire, r08_Repertoire N⟩] := callsOk_all ⟨k_r08_Repertoire N, trivial⟩
  rw [← x_r08_Index N]
  exact execF_ok envOk hc (drawn_ok envOk hc) (show E.P.funcs[173]? = some Tryz.f173 from by kernel_rfl) (by kernel_rfl) _ _ _
theorem k_r08_Valid (N : Nat) : ConOk E ⟨112, ps_r08_Valid, rs_r08_Valid, r08_Valid N⟩ := by
  have hc : CallsOk E [⟨173, ps_r08_Index, rs_r08_Index, r08_Index N⟩] := callsOk_all ⟨k_r08_Index N, trivial⟩
  rw [← x_r08_Valid N]
  exact execF_ok envOk hc (drawn_ok envOk hc) (show E.P.funcs[112]? = some Tryz.f112 from by kernel_rfl) (by kernel_rfl) _ _ _
theorem k_r07_digit (N : Nat) : ConOk E ⟨211, ps_r07_digit, rs_r07_digit, r07_digit N⟩ := by
  have hc : CallsOk E [] := callsOk_all (tab := []) trivial
  rw [← x_r07_digit N]
  exact execF_ok envOk hc (drawn_ok envOk hc) (show E.P.funcs[211]? = some Tryz.f211 from by kernel_rfl) (by kernel_rfl) _ _ _
theorem k_r07_Name (N : Nat) : ConOk E ⟨151, ps_r07_Name, rs_r07_Name, r07_Name N⟩ := by
  have hc : CallsOk E [⟨211, ps_r07_digit, rs_r07_digit, r07_digit N⟩] := callsOk_all ⟨k_r07_digit N, trivial⟩
  rw [← x_r07_Name N]
  exact execF_ok envOk hc (drawn_ok envOk hc) (show E.P.funcs[151]? = some Tryz.f151 from by kernel_rfl) (by kernel_rfl) _ _ _
theorem k_r02_Valid (N : Nat) : ConOk E ⟨89, ps_r02_Valid, rs_r02_Valid, r02_Valid N⟩ := by
  have hc : CallsOk E [] := callsOk_all (tab := []) trivial
  rw [← x_r02_Valid N]
  exact execF_ok envOk hc (drawn_ok envOk hc) (show E.P.funcs[89]? = some Tryz.f89 from by kernel_rfl) (by kernel_rfl) _ _ _
theorem k_r02_CanDrop (N : Nat) : ConOk E ⟨90, ps_r02_CanDrop, rs_r02_CanDrop, r02_CanDrop N⟩ := by
  have hc : CallsOk E [] := callsOk_all (tab := []) trivial
  rw [← x_r02_CanDrop N]
  exact execF_ok envOk hc (drawn_ok envOk hc) (show E.P.funcs[90]? = some Tryz.f90 from by kernel_rfl) (by kernel_rfl) _ _ _
theorem k_r12_checkHead (N : Nat) : ConOk E ⟨83, ps_r12_checkHead, rs_r12_checkHead, r12_checkHead N⟩ := by
  have hc : CallsOk E [⟨112, ps_r08_Valid, rs_r08_Valid, r08_Valid N⟩, ⟨151, ps_r07_Name, rs_r07_Name, r07_Name N⟩, ⟨89, ps_r02_Valid, rs_r02_Valid, r02_Valid N⟩, ⟨90, ps_r02_CanDrop, rs_r02_CanDrop, r02_CanDrop N⟩] := callsOk_all ⟨k_r08_Valid N, k_r07_Name N, k_r02_Valid N, k_r02_CanDrop N, trivial⟩
  rw [← x_r12_checkHead N]
  exact execF_ok envOk hc (drawn_ok envOk hc) (show E.P.funcs[83]? = some Tryz.f83 from by kernel_rfl) (by kernel_rfl) _ _ _
theorem k_r10_Check (N : Nat) : ConOk E ⟨152, ps_r10_Check, rs_r10_Check, r10_Check N⟩ := by
  have hc : CallsOk E [⟨151, ps_r07_Name, rs_r07_Name, r07_Name N⟩] := callsOk_all ⟨k_r07_Name N, trivial⟩
  rw [← x_r10_Check N]
  exact execF_ok envOk hc (drawn_ok envOk hc) (show E.P.funcs[152]? = some Tryz.f152 from by kernel_rfl) (by kernel_rfl) _ _ _
theorem k_r10_CheckList (N : Nat) : ConOk E ⟨84, ps_r10_CheckList, rs_r10_CheckList, r10_CheckList N⟩ := by
  have hc : CallsOk E [⟨152, ps_r10_Check, rs_r10_Check, r10_Check N⟩] := callsOk_all ⟨k_r10_Check N, trivial⟩
  rw [← x_r10_CheckList N]
  exact execF_ok envOk hc (drawn_ok envOk hc) (show E.P.funcs[84]? = some Tryz.f84 from by kernel_rfl) (by kernel_rfl) _ _ _
theorem k_r11_spanned (N : Nat) : ConOk E ⟨153, ps_r11_spanned, rs_r11_spanned, r11_spanned N⟩ := by
  have hc : CallsOk E [] := callsOk_all (tab := []) trivial
  rw [← x_r11_spanned N]
  exact execF_ok envOk hc (drawn_ok envOk hc) (show E.P.funcs[153]? = some Tryz.f153 from by kernel_rfl) (by kernel_rfl) _ _ _
theorem k_r10_Default (N : Nat) : ConOk E ⟨159, ps_r10_Default, rs_r10_Default, r10_Default N⟩ := by
  have hc : CallsOk E [] := callsOk_all (tab := []) trivial
  rw [← x_r10_Default N]
  exact execF_ok envOk hc (drawn_ok envOk hc) (show E.P.funcs[159]? = some Tryz.f159 from by kernel_rfl) (by kernel_rfl) _ _ _
theorem k_r10_Find (N : Nat) : ConOk E ⟨95, ps_r10_Find, rs_r10_Find, r10_Find N⟩ := by
  have hc : CallsOk E [⟨159, ps_r10_Default, rs_r10_Default, r10_Default N⟩] := callsOk_all ⟨k_r10_Default N, trivial⟩
  rw [← x_r10_Find N]
  exact execF_ok envOk hc (drawn_ok envOk hc) (show E.P.funcs[95]? = some Tryz.f95 from by kernel_rfl) (by kernel_rfl) _ _ _
theorem k_r09_Valid (N : Nat) : ConOk E ⟨113, ps_r09_Valid, rs_r09_Valid, r09_Valid N⟩ := by
  have hc : CallsOk E [] := callsOk_all (tab := []) trivial
  rw [← x_r09_Valid N]
  exact execF_ok envOk hc (drawn_ok envOk hc) (show E.P.funcs[113]? = some Tryz.f113 from by kernel_rfl) (by kernel_rfl) _ _ _
theorem k_r09_Check (N : Nat) : ConOk E ⟨57, ps_r09_Check, rs_r09_Check, r09_Check N⟩ := by
  have hc : CallsOk E [⟨112, ps_r08_Valid, rs_r08_Valid, r08_Valid N⟩, ⟨113, ps_r09_Valid, rs_r09_Valid, r09_Valid N⟩] := callsOk_all ⟨k_r08_Valid N, k_r09_Valid N, trivial⟩
  rw [← x_r09_Check N]
  exact execF_ok envOk hc (drawn_ok envOk hc) (show E.P.funcs[57]? = some Tryz.f57 from by kernel_rfl) (by kernel_rfl) _ _ _
theorem k_r09_Plain (N : Nat) : ConOk E ⟨155, ps_r09_Plain, rs_r09_Plain, r09_Plain N⟩ := by
  have hc : CallsOk E [] := callsOk_all (tab := []) trivial
  rw [← x_r09_Plain N]
  exact execF_ok envOk hc (drawn_ok envOk hc) (show E.P.funcs[155]? = some Tryz.f155 from by kernel_rfl) (by kernel_rfl) _ _ _
theorem k_r11_neat (N : Nat) : ConOk E ⟨154, ps_r11_neat, rs_r11_neat, r11_neat N⟩ := by
  have hc : CallsOk E [] := callsOk_all (tab := []) trivial
  rw [← x_r11_neat N]
  exact execF_ok envOk hc (drawn_ok envOk hc) (show E.P.funcs[154]? = some Tryz.f154 from by kernel_rfl) (by kernel_rfl) _ _ _
theorem k_r08_runes (N : Nat) : ConOk E ⟨222, ps_r08_runes, rs_r08_runes, r08_runes N⟩ := by
  have hc : CallsOk E [] := callsOk_all (tab := []) trivial
  rw [← x_r08_runes N]
  exact execF_ok envOk hc (drawn_ok envOk hc) (show E.P.funcs[222]? = some Tryz.f222 from by kernel_rfl) (by kernel_rfl) _ _ _
theorem k_r08_Len (N : Nat) : ConOk E ⟨212, ps_r08_Len, rs_r08_Len, r08_Len N⟩ := by
  have hc : CallsOk E [⟨112, ps_r08_Valid, rs_r08_Valid, r08_Valid N⟩, ⟨222, ps_r08_runes, rs_r08_runes, r08_runes N⟩] := callsOk_all ⟨k_r08_Valid N, k_r08_runes N, trivial⟩
  rw [← x_r08_Len N]
  exact execF_ok envOk hc (drawn_ok envOk hc) (show E.P.funcs[212]? = some Tryz.f212 from by kernel_rfl) (by kernel_rfl) _ _ _
theorem k_r09_Len (N : Nat) : ConOk E ⟨156, ps_r09_Len, rs_r09_Len, r09_Len N⟩ := by
  have hc : CallsOk E [⟨212, ps_r08_Len, rs_r08_Len, r08_Len N⟩] := callsOk_all ⟨k_r08_Len N, trivial⟩
  rw [← x_r09_Len N]
  exact execF_ok envOk hc (drawn_ok envOk hc) (show E.P.funcs[156]? = some Tryz.f156 from by kernel_rfl) (by kernel_rfl) _ _ _
theorem k_r10_usable (N : Nat) : ConOk E ⟨213, ps_r10_usable, rs_r10_usable, r10_usable N⟩ := by
  have hc : CallsOk E [⟨152, ps_r10_Check, rs_r10_Check, r10_Check N⟩, ⟨159, ps_r10_Default, rs_r10_Default, r10_Default N⟩] := callsOk_all ⟨k_r10_Check N, k_r10_Default N, trivial⟩
  rw [← x_r10_usable N]
  exact execF_ok envOk hc (drawn_ok envOk hc) (show E.P.funcs[213]? = some Tryz.f213 from by kernel_rfl) (by kernel_rfl) _ _ _
theorem k_r10_Place (N : Nat) : ConOk E ⟨157, ps_r10_Place, rs_r10_Place, r10_Place N⟩ := by
  have hc : CallsOk E [⟨213, ps_r10_usable, rs_r10_usable, r10_usable N⟩] := callsOk_all ⟨k_r10_usable N, trivial⟩
  rw [← x_r10_Place N]
  exact execF_ok envOk hc (drawn_ok envOk hc) (show E.P.funcs[157]? = some Tryz.f157 from by kernel_rfl) (by kernel_rfl) _ _ _
theorem k_r11_Check (N : Nat) : ConOk E ⟨85, ps_r11_Check, rs_r11_Check, r11_Check N⟩ := by
  have hc : CallsOk E [⟨153, ps_r11_spanned, rs_r11_spanned, r11_spanned N⟩, ⟨95, ps_r10_Find, rs_r10_Find, r10_Find N⟩, ⟨151, ps_r07_Name, rs_r07_Name, r07_Name N⟩, ⟨57, ps_r09_Check, rs_r09_Check, r09_Check N⟩, ⟨155, ps_r09_Plain, rs_r09_Plain, r09_Plain N⟩, ⟨154, ps_r11_neat, rs_r11_neat, r11_neat N⟩, ⟨156, ps_r09_Len, rs_r09_Len, r09_Len N⟩, ⟨157, ps_r10_Place, rs_r10_Place, r10_Place N⟩] := callsOk_all ⟨k_r11_spanned N, k_r10_Find N, k_r07_Name N, k_r09_Check N, k_r09_Plain N, k_r11_neat N, k_r09_Len N, k_r10_Place N, trivial⟩
  rw [← x_r11_Check N]
  exact execF_ok envOk hc (drawn_ok envOk hc) (show E.P.funcs[85]? = some Tryz.f85 from by kernel_rfl) (by kernel_rfl) _ _ _
theorem k_r11_Less (N : Nat) : ConOk E ⟨86, ps_r11_Less, rs_r11_Less, r11_Less N⟩ := by
  have hc : CallsOk E [] := callsOk_all (tab := []) trivial
  rw [← x_r11_Less N]
  exact execF_ok envOk hc (drawn_ok envOk hc) (show E.P.funcs[86]? = some Tryz.f86 from by kernel_rfl) (by kernel_rfl) _ _ _
theorem k_r12_Find (N : Nat) : ConOk E ⟨87, ps_r12_Find, rs_r12_Find, r12_Find N⟩ := by
  have hc : CallsOk E [] := callsOk_all (tab := []) trivial
  rw [← x_r12_Find N]
  exact execF_ok envOk hc (drawn_ok envOk hc) (show E.P.funcs[87]? = some Tryz.f87 from by kernel_rfl) (by kernel_rfl) _ _ _
theorem k_r11_Len (N : Nat) : ConOk E ⟨158, ps_r11_Len, rs_r11_Len, r11_Len N⟩ := by
  have hc : CallsOk E [⟨156, ps_r09_Len, rs_r09_Len, r09_Len N⟩] := callsOk_all ⟨k_r09_Len N, trivial⟩
  rw [← x_r11_Len N]
  exact execF_ok envOk hc (drawn_ok envOk hc) (show E.P.funcs[158]? = some Tryz.f158 from by kernel_rfl) (by kernel_rfl) _ _ _
theorem k_r12_checkComment (N : Nat) : ConOk E ⟨88, ps_r12_checkComment, rs_r12_checkComment, r12_checkComment N⟩ := by
  have hc : CallsOk E [⟨87, ps_r12_Find, rs_r12_Find, r12_Find N⟩, ⟨158, ps_r11_Len, rs_r11_Len, r11_Len N⟩, ⟨151, ps_r07_Name, rs_r07_Name, r07_Name N⟩, ⟨112, ps_r08_Valid, rs_r08_Valid, r08_Valid N⟩] := callsOk_all ⟨k_r12_Find N, k_r11_Len N, k_r07_Name N, k_r08_Valid N, trivial⟩
  rw [← x_r12_checkComment N]
  exact execF_ok envOk hc (drawn_ok envOk hc) (show E.P.funcs[88]? = some Tryz.f88 from by kernel_rfl) (by kernel_rfl) _ _ _
theorem k_r12_Check (N : Nat) : ConOk E ⟨35, ps_r12_Check, rs_r12_Check, r12_Check N⟩ := by
  have hc : CallsOk E [⟨83, ps_r12_checkHead, rs_r12_checkHead, r12_checkHead N⟩, ⟨84, ps_r10_CheckList, rs_r10_CheckList, r10_CheckList N⟩, ⟨85, ps_r11_Check, rs_r11_Check, r11_Check N⟩, ⟨86, ps_r11_Less, rs_r11_Less, r11_Less N⟩, ⟨87, ps_r12_Find, rs_r12_Find, r12_Find N⟩, ⟨88, ps_r12_checkComment, rs_r12_checkComment, r12_checkComment N⟩] := callsOk_all ⟨k_r12_checkHead N, k_r10_CheckList N, k_r11_Check N, k_r11_Less N, k_r12_Find N, k_r12_checkComment N, trivial⟩
  rw [← x_r12_Check N]
  exact execF_ok envOk hc (drawn_ok envOk hc) (show E.P.funcs[35]? = some Tryz.f35 from by kernel_rfl) (by kernel_rfl) _ _ _
theorem k_r02_Nominal (N : Nat) : ConOk E ⟨91, ps_r02_Nominal, rs_r02_Nominal, r02_Nominal N⟩ := by
  have hc : CallsOk E [⟨89, ps_r02_Valid, rs_r02_Valid, r02_Valid N⟩] := callsOk_all ⟨k_r02_Valid N, trivial⟩
  rw [← x_r02_Nominal N]
  exact execF_ok envOk hc (drawn_ok envOk hc) (show E.P.funcs[91]? = some Tryz.f91 from by kernel_rfl) (by kernel_rfl) _ _ _
theorem k_r03_Dropped (N : Nat) : ConOk E ⟨92, ps_r03_Dropped, rs_r03_Dropped, r03_Dropped N⟩ := by
  have hc : CallsOk E [] := callsOk_all (tab := []) trivial
  rw [← x_r03_Dropped N]
  exact execF_ok envOk hc (drawn_ok envOk hc) (show E.P.funcs[92]? = some Tryz.f92 from by kernel_rfl) (by kernel_rfl) _ _ _
theorem k_r03_Day (N : Nat) : ConOk E ⟨36, ps_r03_Day, rs_r03_Day, r03_Day N⟩ := by
  have hc : CallsOk E [⟨89, ps_r02_Valid, rs_r02_Valid, r02_Valid N⟩, ⟨90, ps_r02_CanDrop, rs_r02_CanDrop, r02_CanDrop N⟩, ⟨91, ps_r02_Nominal, rs_r02_Nominal, r02_Nominal N⟩, ⟨92, ps_r03_Dropped, rs_r03_Dropped, r03_Dropped N⟩] := callsOk_all ⟨k_r02_Valid N, k_r02_CanDrop N, k_r02_Nominal N, k_r03_Dropped N, trivial⟩
  rw [← x_r03_Day N]
  exact execF_ok envOk hc (drawn_ok envOk hc) (show E.P.funcs[36]? = some Tryz.f36 from by kernel_rfl) (by kernel_rfl) _ _ _
theorem k_r11_Spots (N : Nat) : ConOk E ⟨94, ps_r11_Spots, rs_r11_Spots, r11_Spots N⟩ := by
  have hc : CallsOk E [⟨95, ps_r10_Find, rs_r10_Find, r10_Find N⟩, ⟨156, ps_r09_Len, rs_r09_Len, r09_Len N⟩, ⟨157, ps_r10_Place, rs_r10_Place, r10_Place N⟩] := callsOk_all ⟨k_r10_Find N, k_r09_Len N, k_r10_Place N, trivial⟩
  rw [← x_r11_Spots N]
  exact execF_ok envOk hc (drawn_ok envOk hc) (show E.P.funcs[94]? = some Tryz.f94 from by kernel_rfl) (by kernel_rfl) _ _ _
theorem k_r24_place (N : Nat) : ConOk E ⟨39, ps_r24_place, rs_r24_place, r24_place N⟩ := by
  have hc : CallsOk E [⟨94, ps_r11_Spots, rs_r11_Spots, r11_Spots N⟩, ⟨95, ps_r10_Find, rs_r10_Find, r10_Find N⟩] := callsOk_all ⟨k_r11_Spots N, k_r10_Find N, trivial⟩
  rw [← x_r24_place N]
  exact execF_ok envOk hc (drawn_ok envOk hc) (show E.P.funcs[39]? = some Tryz.f39 from by kernel_rfl) (by kernel_rfl) _ _ _
theorem k_r24_letters (N : Nat) : ConOk E ⟨93, ps_r24_letters, rs_r24_letters, r24_letters N⟩ := by
  have hc : CallsOk E [] := callsOk_all (tab := []) trivial
  rw [← x_r24_letters N]
  exact execF_ok envOk hc (drawn_ok envOk hc) (show E.P.funcs[93]? = some Tryz.f93 from by kernel_rfl) (by kernel_rfl) _ _ _
theorem k_r24_region (N : Nat) : ConOk E ⟨38, ps_r24_region, rs_r24_region, r24_region N⟩ := by
  have hc : CallsOk E [⟨93, ps_r24_letters, rs_r24_letters, r24_letters N⟩] := callsOk_all ⟨k_r24_letters N, trivial⟩
  rw [← x_r24_region N]
  exact execF_ok envOk hc (drawn_ok envOk hc) (show E.P.funcs[38]? = some Tryz.f38 from by kernel_rfl) (by kernel_rfl) _ _ _
theorem k_r24_with (N : Nat) : ConOk E ⟨37, ps_r24_with, rs_r24_with, r24_with N⟩ := by
  have hc : CallsOk E [] := callsOk_all (tab := []) trivial
  rw [← x_r24_with N]
  exact execF_ok envOk hc (drawn_ok envOk hc) (show E.P.funcs[37]? = some Tryz.f37 from by kernel_rfl) (by kernel_rfl) _ _ _
theorem k_r24_Accept (N : Nat) : ConOk E ⟨14, ps_r24_Accept, rs_r24_Accept, r24_Accept N⟩ := by
  have hc : CallsOk E [⟨35, ps_r12_Check, rs_r12_Check, r12_Check N⟩, ⟨36, ps_r03_Day, rs_r03_Day, r03_Day N⟩, ⟨39, ps_r24_place, rs_r24_place, r24_place N⟩, ⟨38, ps_r24_region, rs_r24_region, r24_region N⟩, ⟨37, ps_r24_with, rs_r24_with, r24_with N⟩] := callsOk_all ⟨k_r12_Check N, k_r03_Day N, k_r24_place N, k_r24_region N, k_r24_with N, trivial⟩
  rw [← x_r24_Accept N]
  exact execF_ok envOk hc (drawn_ok envOk hc) (show E.P.funcs[14]? = some Tryz.f14 from by kernel_rfl) (by kernel_rfl) _ _ _
theorem k_r09_Norm (N : Nat) : ConOk E ⟨96, ps_r09_Norm, rs_r09_Norm, r09_Norm N⟩ := by
  have hc : CallsOk E [] := callsOk_all (tab := []) trivial
  rw [← x_r09_Norm N]
  exact execF_ok envOk hc (drawn_ok envOk hc) (show E.P.funcs[96]? = some Tryz.f96 from by kernel_rfl) (by kernel_rfl) _ _ _
theorem k_r24_bare (N : Nat) : ConOk E ⟨46, ps_r24_bare, rs_r24_bare, r24_bare N⟩ := by
  have hc : CallsOk E [⟨96, ps_r09_Norm, rs_r09_Norm, r09_Norm N⟩] := callsOk_all ⟨k_r09_Norm N, trivial⟩
  rw [← x_r24_bare N]
  exact execF_ok envOk hc (drawn_ok envOk hc) (show E.P.funcs[46]? = some Tryz.f46 from by kernel_rfl) (by kernel_rfl) _ _ _
theorem k_r24_Reduce (N : Nat) : ConOk E ⟨17, ps_r24_Reduce, rs_r24_Reduce, r24_Reduce N⟩ := by
  have hc : CallsOk E [⟨35, ps_r12_Check, rs_r12_Check, r12_Check N⟩, ⟨39, ps_r24_place, rs_r24_place, r24_place N⟩, ⟨38, ps_r24_region, rs_r24_region, r24_region N⟩, ⟨37, ps_r24_with, rs_r24_with, r24_with N⟩, ⟨46, ps_r24_bare, rs_r24_bare, r24_bare N⟩] := callsOk_all ⟨k_r12_Check N, k_r24_place N, k_r24_region N, k_r24_with N, k_r24_bare N, trivial⟩
  rw [← x_r24_Reduce N]
  exact execF_ok envOk hc (drawn_ok envOk hc) (show E.P.funcs[17]? = some Tryz.f17 from by kernel_rfl) (by kernel_rfl) _ _ _
theorem k_document_Head (N : Nat) : ConOk E ⟨40, ps_document_Head, rs_document_Head, document_Head N⟩ := by
  have hc : CallsOk E [] := callsOk_all (tab := []) trivial
  rw [← x_document_Head N]
  exact execF_ok envOk hc (drawn_ok envOk hc) (show E.P.funcs[40]? = some Tryz.f40 from by kernel_rfl) (by kernel_rfl) _ _ _
theorem k_slices_Equal_Lapi_Region_api_Region (N : Nat) : ConOk E ⟨41, ps_slices_Equal_Lapi_Region_api_Region, rs_slices_Equal_Lapi_Region_api_Region, slices_Equal_Lapi_Region_api_Region N⟩ := by
  have hc : CallsOk E [] := callsOk_all (tab := []) trivial
  rw [← x_slices_Equal_Lapi_Region_api_Region N]
  exact execF_ok envOk hc (drawn_ok envOk hc) (show E.P.funcs[41]? = some Tryz.f41 from by kernel_rfl) (by kernel_rfl) _ _ _
theorem k_slices_Equal_Lapi_Run_api_Run (N : Nat) : ConOk E ⟨123, ps_slices_Equal_Lapi_Run_api_Run, rs_slices_Equal_Lapi_Run_api_Run, slices_Equal_Lapi_Run_api_Run N⟩ := by
  have hc : CallsOk E [] := callsOk_all (tab := []) trivial
  rw [← x_slices_Equal_Lapi_Run_api_Run N]
  exact execF_ok envOk hc (drawn_ok envOk hc) (show E.P.funcs[123]? = some Tryz.f123 from by kernel_rfl) (by kernel_rfl) _ _ _
theorem k_style_Same (N : Nat) : ConOk E ⟨63, ps_style_Same, rs_style_Same, style_Same N⟩ := by
  have hc : CallsOk E [⟨123, ps_slices_Equal_Lapi_Run_api_Run, rs_slices_Equal_Lapi_Run_api_Run, slices_Equal_Lapi_Run_api_Run N⟩] := callsOk_all ⟨k_slices_Equal_Lapi_Run_api_Run N, trivial⟩
  rw [← x_style_Same N]
  exact execF_ok envOk hc (drawn_ok envOk hc) (show E.P.funcs[63]? = some Tryz.f63 from by kernel_rfl) (by kernel_rfl) _ _ _
theorem k_slices_EqualFunc_Lapi_Row_Lapi_Row_api_Row_api_Row (N : Nat) : ConOk E ⟨62, ps_slices_EqualFunc_Lapi_Row_Lapi_Row_api_Row_api_Row, rs_slices_EqualFunc_Lapi_Row_Lapi_Row_api_Row_api_Row, slices_EqualFunc_Lapi_Row_Lapi_Row_api_Row_api_Row N⟩ := by
  have hc : CallsOk E [⟨63, ps_style_Same, rs_style_Same, style_Same N⟩] := callsOk_all ⟨k_style_Same N, trivial⟩
  rw [← x_slices_EqualFunc_Lapi_Row_Lapi_Row_api_Row_api_Row N]
  exact execF_ok envOk hc (drawn_ok envOk hc) (show E.P.funcs[62]? = some Tryz.f62 from by kernel_rfl) (by kernel_rfl) _ _ _
theorem k_style_SameRows (N : Nat) : ConOk E ⟨25, ps_style_SameRows, rs_style_SameRows, style_SameRows N⟩ := by
  have hc : CallsOk E [⟨62, ps_slices_EqualFunc_Lapi_Row_Lapi_Row_api_Row_api_Row, rs_slices_EqualFunc_Lapi_Row_Lapi_Row_api_Row_api_Row, slices_EqualFunc_Lapi_Row_Lapi_Row_api_Row_api_Row N⟩, ⟨63, ps_style_Same, rs_style_Same, style_Same N⟩] := callsOk_all ⟨k_slices_EqualFunc_Lapi_Row_Lapi_Row_api_Row_api_Row N, k_style_Same N, trivial⟩
  rw [← x_style_SameRows N]
  exact execF_ok envOk hc (drawn_ok envOk hc) (show E.P.funcs[25]? = some Tryz.f25 from by kernel_rfl) (by kernel_rfl) _ _ _
theorem k_event_Same (N : Nat) : ConOk E ⟨43, ps_event_Same, rs_event_Same, event_Same N⟩ := by
  have hc : CallsOk E [⟨25, ps_style_SameRows, rs_style_SameRows, style_SameRows N⟩] := callsOk_all ⟨k_style_SameRows N, trivial⟩
  rw [← x_event_Same N]
  exact execF_ok envOk hc (drawn_ok envOk hc) (show E.P.funcs[43]? = some Tryz.f43 from by kernel_rfl) (by kernel_rfl) _ _ _
theorem k_slices_EqualFunc_Lapi_Event_Lapi_Event_api_Event_api_Event (N : Nat) : ConOk E ⟨42, ps_slices_EqualFunc_Lapi_Event_Lapi_Event_api_Event_api_Event, rs_slices_EqualFunc_Lapi_Event_Lapi_Event_api_Event_api_Event, slices_EqualFunc_Lapi_Event_Lapi_Event_api_Event_api_Event N⟩ := by
  have hc : CallsOk E [⟨43, ps_event_Same, rs_event_Same, event_Same N⟩] := callsOk_all ⟨k_event_Same N, trivial⟩
  rw [← x_slices_EqualFunc_Lapi_Event_Lapi_Event_api_Event_api_Event N]
  exact execF_ok envOk hc (drawn_ok envOk hc) (show E.P.funcs[42]? = some Tryz.f42 from by kernel_rfl) (by kernel_rfl) _ _ _
theorem k_slices_Equal_Lapi_Comment_api_Comment (N : Nat) : ConOk E ⟨44, ps_slices_Equal_Lapi_Comment_api_Comment, rs_slices_Equal_Lapi_Comment_api_Comment, slices_Equal_Lapi_Comment_api_Comment N⟩ := by
  have hc : CallsOk E [] := callsOk_all (tab := []) trivial
  rw [← x_slices_Equal_Lapi_Comment_api_Comment N]
  exact execF_ok envOk hc (drawn_ok envOk hc) (show E.P.funcs[44]? = some Tryz.f44 from by kernel_rfl) (by kernel_rfl) _ _ _
theorem k_document_Same (N : Nat) : ConOk E ⟨15, ps_document_Same, rs_document_Same, document_Same N⟩ := by
  have hc : CallsOk E [⟨40, ps_document_Head, rs_document_Head, document_Head N⟩, ⟨41, ps_slices_Equal_Lapi_Region_api_Region, rs_slices_Equal_Lapi_Region_api_Region, slices_Equal_Lapi_Region_api_Region N⟩, ⟨42, ps_slices_EqualFunc_Lapi_Event_Lapi_Event_api_Event_api_Event, rs_slices_EqualFunc_Lapi_Event_Lapi_Event_api_Event_api_Event, slices_EqualFunc_Lapi_Event_Lapi_Event_api_Event_api_Event N⟩, ⟨43, ps_event_Same, rs_event_Same, event_Same N⟩, ⟨44, ps_slices_Equal_Lapi_Comment_api_Comment, rs_slices_Equal_Lapi_Comment_api_Comment, slices_Equal_Lapi_Comment_api_Comment N⟩] := callsOk_all ⟨k_document_Head N, k_slices_Equal_Lapi_Region_api_Region N, k_slices_EqualFunc_Lapi_Event_Lapi_Event_api_Event_api_Event N, k_event_Same N, k_slices_Equal_Lapi_Comment_api_Comment N, trivial⟩
  rw [← x_document_Same N]
  exact execF_ok envOk hc (drawn_ok envOk hc) (show E.P.funcs[15]? = some Tryz.f15 from by kernel_rfl) (by kernel_rfl) _ _ _
theorem k_l24_StlAccepts (N : Nat) : ConOk E ⟨3, ps_l24_StlAccepts, rs_l24_StlAccepts, l24_StlAccepts N⟩ := by
  have hc : CallsOk E [⟨11, ps_l24_awake, rs_l24_awake, l24_awake N⟩, ⟨12, ps_l24_few, rs_l24_few, l24_few N⟩, ⟨13, ps_stl_Accept, rs_stl_Accept, stl_Accept N⟩, ⟨14, ps_r24_Accept, rs_r24_Accept, r24_Accept N⟩, ⟨16, ps_stl_Reduce, rs_stl_Reduce, stl_Reduce N⟩, ⟨17, ps_r24_Reduce, rs_r24_Reduce, r24_Reduce N⟩, ⟨15, ps_document_Same, rs_document_Same, document_Same N⟩] := callsOk_all ⟨k_l24_awake N, k_l24_few N, k_stl_Accept N, k_r24_Accept N, k_stl_Reduce N, k_r24_Reduce N, k_document_Same N, trivial⟩
  rw [← x_l24_StlAccepts N]
  exact execF_ok envOk hc (drawn_ok envOk hc) (show E.P.funcs[3]? = some Tryz.f3 from by kernel_rfl) (by kernel_rfl) _ _ _
end
end Go.Mo
end

section
/-
  Plain facts on the words of models; what is made of bytes.
-/
namespace Go.Mo
open Go Go.W

theorem grd_t {α : Type} {b : Bool} {k : Option α} (h : b = true) : grd b k = k := by subst h; rfl
theorem cnd_t {α : Type} {b : Bool} {x y : Option α} (h : b = true) : cnd b x y = x := by subst h; rfl
theorem cnd_f {α : Type} {b : Bool} {x y : Option α} (h : b = false) : cnd b x y = y := by subst h; rfl
theorem bnd_s {α β : Type} {x : Option α} {a : α} {k : α → Option β} (h : x = some a) : bnd x k = k a := by subst h; rfl
theorem jn_e {F α : Type} {k : F} {t : F → Option α} : jn k t = t k := rfl
theorem fixN_s {V R : Type} {F : (V → Option R) → V → Option R} {n : Nat} {v : V} : fixN F (n + 1) v = F (fixN F n) v := rfl
theorem w64_id {x : Int} (h : -9223372036854775808 ≤ x ∧ x ≤ 9223372036854775807) : w64 x = x := by
  show IntKind.wrap .i64 x = x
  unfold IntKind.wrap
  simp only [IntKind.bits, IntKind.signed, Bool.true_and, decide_eq_true_eq, show (2 : Int) ^ 64 = 18446744073709551616 from rfl, show (2 : Int) ^ (64 - 1) = 9223372036854775808 from rfl]
  split <;> omega
theorem ilt_t {a b : Int} (h : a < b) : ilt a b = true := decide_eq_true h
theorem ilt_f {a b : Int} (h : ¬ a < b) : ilt a b = false := decide_eq_false h
theorem ile_t {a b : Int} (h : a ≤ b) : ile a b = true := decide_eq_true h
theorem ile_f {a b : Int} (h : ¬ a ≤ b) : ile a b = false := decide_eq_false h
theorem ieq_t {a b : Int} (h : a = b) : ieq a b = true := by subst h; simp [ieq]
theorem ieq_f {a b : Int} (h : a ≠ b) : ieq a b = false := by simp [ieq, h]
theorem ine_t {a b : Int} (h : a ≠ b) : ine a b = true := by simp [ine, h]
theorem ine_f {a b : Int} (h : a = b) : ine a b = false := by simp [ine, h]
theorem inb_t {i n : Int} (h : 0 ≤ i ∧ i < n) : inb i n = true := decide_eq_true h
theorem in2_t {i n : Int} (h : 0 ≤ i ∧ i ≤ n) : in2 i n = true := decide_eq_true h
theorem room_t {n : Int} {b : Nat} (h : n * b ≤ 140737488355328) : room n b = true := decide_eq_true h
theorem n8_inj {a b : UInt8} (h : n8 a = n8 b) : a = b := by
  unfold n8 at h
  apply UInt8.toNat_inj.1
  omega
end Go.Mo
end

section
/-
  Plain facts: rates, labels, the repertoire of characters.
-/
namespace Go.Mo
open Go Go.W
set_option maxRecDepth 100000

theorem all_u8 {P : UInt8 → Bool} (h : ((List.range 256).all fun n => P (UInt8.ofNat n)) = true) (x : UInt8) : P x = true := by
  have h1 : x.toNat < 256 := x.toNat_lt
  have := List.all_eq_true.1 h x.toNat (List.mem_range.2 h1)
  simpa using this
end Go.Mo
end

section
/-
  Plain facts: the repertoire of characters.
-/
namespace Go.Mo
open Go Go.W
set_option maxRecDepth 100000
/-- some number: the kernel does not know which -/
noncomputable def fuelM : Nat := Classical.choose (⟨7995000, rfl⟩ : ∃ n : Nat, n = 7995000)
noncomputable def fuelH : Nat := fuelM + 5000
theorem fuelH_eq : fuelH = 8000000 := by
  have h : fuelM = 7995000 := Classical.choose_spec (⟨7995000, rfl⟩ : ∃ n : Nat, n = 7995000)
  unfold fuelH
  rw [h]
/-- the characters behind ASCII -/
noncomputable def hiRunes : List Int := [161, 162, 163, 164, 165, 166, 167, 169, 171, 174, 176, 183, 187, 189, 191, 192, 193, 194, 195, 196, 197, 198, 199, 200, 201, 202, 203, 204, 205, 206, 207, 209, 210, 211, 212, 213, 214, 216, 217, 218, 219, 220, 223, 224, 225, 226, 227, 228, 229, 230, 231, 232, 233, 234, 235, 236, 237, 238, 239, 241, 242, 243, 244, 245, 246, 248, 249, 250, 251, 252, 338, 339, 8212, 8216, 8217, 8220, 8221, 8226, 8230, 8482, 9834]
noncomputable def loRunes : List Int := (List.range 95).map fun n => ((n + 32 : Nat) : Int)
noncomputable def chain : List Int → Int → Int → Option Int
  | [], _, _ => some (-1)
  | c :: l, i, r => cnd (ieq c r) (some i) (chain l (iadd i 1) r)
noncomputable def rep : List UInt8 := match r08_Repertoire 0 () with
  | some s => s
  | none => []
theorem place_eqN (N : Nat) (r : Int) : charset_place (N + 300) (rep, r) = chain (loRunes ++ hiRunes) 0 r := by kernel_rfl
theorem place_eq (r : Int) : charset_place fuelH (rep, r) = chain (loRunes ++ hiRunes) 0 r := place_eqN (fuelM + 4700) r
theorem r08_indexN (N : Nat) (r : Int) : r08_Index N r = cnd (ile 32 r) (cnd (ile r 126) (some (w64 (wr .i32 (isub r 32)))) (charset_place N (rep, r))) (charset_place N (rep, r)) := by kernel_rfl
theorem r08_index (r : Int) : r08_Index fuelH r = cnd (ile 32 r) (cnd (ile r 126) (some (w64 (wr .i32 (isub r 32)))) (charset_place fuelH (rep, r))) (charset_place fuelH (rep, r)) := r08_indexN fuelH r
theorem ch_indexN (N : Nat) (r : Int) : charset_Index N r = cnd (ile 32 r) (cnd (ile r 126) (some (w64 (wr .i32 (isub r 32)))) (bnd (charset_place N (rep, r)) fun v => some v)) (bnd (charset_place N (rep, r)) fun v => some v) := by kernel_rfl
theorem ch_index (r : Int) : charset_Index fuelH r = cnd (ile 32 r) (cnd (ile r 126) (some (w64 (wr .i32 (isub r 32)))) (bnd (charset_place fuelH (rep, r)) fun v => some v)) (bnd (charset_place fuelH (rep, r)) fun v => some v) := ch_indexN fuelH r
theorem chain_ok : ∀ (l : List Int) (i r : Int), 0 ≤ i → ∃ k, chain l i r = some k ∧ (k < 0 ↔ l.contains r = false)
  | [], i, r, _ => ⟨-1, rfl, by simp⟩
  | c :: l, i, r, h => by
    by_cases hc : c = r
    · exact ⟨i, by simp only [chain]; rw [cnd_t (ieq_t hc)], by subst hc; simp; omega⟩
    · obtain ⟨k, h1, h2⟩ := chain_ok l (iadd i 1) r (by show 0 ≤ i + 1; omega)
      refine ⟨k, by simp only [chain]; rw [cnd_f (ieq_f hc)]; exact h1, ?_⟩
      rw [h2]
      simp only [List.contains_cons, Bool.or_eq_false_iff]
      exact ⟨fun h => ⟨by simpa using fun e => hc e.symm, h⟩, fun h => h.2⟩
noncomputable def inRep (r : Int) : Bool := (decide (32 ≤ r) && decide (r ≤ 126)) || hiRunes.contains r
theorem wi32_id {x : Int} (h : 0 ≤ x ∧ x < 1000) : wr .i32 x = x := by
  show IntKind.wrap .i32 x = x
  unfold IntKind.wrap
  simp only [IntKind.bits, IntKind.signed, Bool.true_and, decide_eq_true_eq, show (2 : Int) ^ 32 = 4294967296 from rfl, show (2 : Int) ^ (32 - 1) = 2147483648 from rfl]
  split <;> omega
theorem lo_mem (r : Int) : loRunes.contains r = (decide (32 ≤ r) && decide (r ≤ 126)) := by
  rw [Bool.eq_iff_iff]
  simp only [loRunes, List.contains_iff_mem, List.mem_map, List.mem_range, Bool.and_eq_true, decide_eq_true_eq]
  constructor
  · rintro ⟨n, hn, rfl⟩; omega
  · intro h; exact ⟨(r - 32).toNat, by omega, by omega⟩
theorem index_some (r : Int) : ∃ i, charset_Index fuelH r = some i ∧ r08_Index fuelH r = some i ∧ (i < 0 ↔ inRep r = false) := by
  rw [ch_index, r08_index, place_eq]
  obtain ⟨k, h1, h2⟩ := chain_ok (loRunes ++ hiRunes) 0 r (Int.le_refl _)
  have hin : (loRunes ++ hiRunes).contains r = inRep r := by
    unfold inRep
    rw [← lo_mem]
    simp [List.contains_eq_mem, List.mem_append]
  rw [hin] at h2
  by_cases ha : 32 ≤ r
  · rw [cnd_t (ile_t ha), cnd_t (ile_t ha)]
    by_cases hb : r ≤ 126
    · rw [cnd_t (ile_t hb), cnd_t (ile_t hb)]
      refine ⟨_, rfl, rfl, ?_⟩
      have : w64 (wr .i32 (isub r 32)) = r - 32 := by
        simp only [isub]
        rw [wi32_id (by omega), w64_id (by omega)]
      rw [this]
      simp [inRep, ha, hb]
    · rw [cnd_f (ile_f hb), cnd_f (ile_f hb)]
      exact ⟨k, by rw [bnd_s h1], h1, h2⟩
  · rw [cnd_f (ile_f ha), cnd_f (ile_f ha)]
    exact ⟨k, by rw [bnd_s h1], h1, h2⟩
end Go.Mo
end

section
/-
  Plain facts: texts of the repertoire.
-/
namespace Go.Mo
open Go Go.W Go.Lib
set_option maxRecDepth 100000

theorem dec_pos (l : List UInt8) : 1 ≤ (decodeL l).2 := by
  unfold decodeL Utf8.decode
  simp only
  repeat' split
  all_goals first | exact Nat.le_refl _ | (show 1 ≤ _; omega)
theorem decR_eq (s : List UInt8) (p : Nat) : decR s p = ((decodeL (s.drop p)).1 : Int) := by
  have := decodeL_drop (bst s) p
  have e : (bst s).data.toList = s := rfl
  rw [e] at this
  unfold decR
  rw [this]
theorem decW_eq (s : List UInt8) (p : Nat) : decW s p = (decodeL (s.drop p)).2 := by
  have := decodeL_drop (bst s) p
  have e : (bst s).data.toList = s := rfl
  rw [e] at this
  unfold decW
  rw [this]

noncomputable def rok : Nat → List UInt8 → Bool
  | 0, _ => true
  | n + 1, l => if l = [] then true else if inRep ((decodeL l).1 : Int) = true then rok n (l.drop (decodeL l).2) else false
/-- characters of the repertoire alone -/
noncomputable def vld (l : List UInt8) : Bool := rok l.length l
theorem rok_nil : ∀ n, rok n [] = true
  | 0 => rfl
  | n + 1 => by simp [rok]
theorem rok_fuel : ∀ (n m : Nat) (l : List UInt8), l.length ≤ n → l.length ≤ m → rok n l = rok m l
  | 0, m, l, h, _ => by
    have : l = [] := List.eq_nil_of_length_eq_zero (by omega)
    subst this
    rw [rok_nil, rok_nil]
  | n + 1, 0, l, _, h => by
    have : l = [] := List.eq_nil_of_length_eq_zero (by omega)
    subst this
    rw [rok_nil, rok_nil]
  | n + 1, m + 1, l, h1, h2 => by
    by_cases hl : l = []
    · subst hl; rw [rok_nil, rok_nil]
    · have hp := dec_pos l
      have hlen : 0 < l.length := List.length_pos_iff.2 hl
      simp only [rok, hl, if_false]
      split
      · exact rok_fuel n m _ (by simp; omega) (by simp; omega)
      · rfl
theorem vld_step (l : List UInt8) (hl : l ≠ []) : vld l = if inRep ((decodeL l).1 : Int) = true then vld (l.drop (decodeL l).2) else false := by
  have hp := dec_pos l
  have hlen : 0 < l.length := List.length_pos_iff.2 hl
  unfold vld
  obtain ⟨n, hn⟩ : ∃ n, l.length = n + 1 := ⟨l.length - 1, by omega⟩
  rw [hn]
  simp only [rok, hl, if_false]
  split
  · exact rok_fuel _ _ _ (by simp; omega) (Nat.le_refl _)
  · rfl
theorem vld_valid : ∀ (n : Nat) (l : List UInt8), l.length ≤ n → vld l = true → validD l = true
  | n, l, h, hv => by
    by_cases hl : l = []
    · subst hl; rfl
    · have hlen : 0 < l.length := List.length_pos_iff.2 hl
      have hp := dec_pos l
      rw [vld_step l hl] at hv
      split at hv
      · rename_i hr
        rw [validD_step l hl, if_neg ?_]
        · cases n with
          | zero => omega
          | succ n => exact vld_valid n _ (by simp; omega) hv
        · rintro ⟨e, _⟩
          rw [e] at hr
          exact absurd hr (by decide)
      · cases hv

theorem valid_loop {s : List UInt8} (hs : s.length ≤ 100000000) (Ix : Int → Option Int) (hI : ∀ r : Int, ∃ i, Ix r = some i ∧ (i < 0 ↔ inRep r = false)) : ∀ (fuel p : Nat), s.length - p < fuel → p ≤ s.length →
    fixN (fun v2 (v3 : (List UInt8) × Int) =>
    cnd (nlt (toN v3.2) (nlen v3.1))
      (bnd (Ix (decR v3.1 (toN v3.2))) fun v4 =>
      cnd (ilt v4 (0 : Int))
        (some false)
        (v2 (v3.1, ofN (nadd (toN v3.2) (decW v3.1 (toN v3.2))))))
      (some true)) fuel (s, ofN p) = some (vld (s.drop p))
  | 0, p, h, _ => by omega
  | fuel + 1, p, h, hp => by
    rw [fixN_s]
    have et : toN (ofN p) = p := by simp [toN, ofN]
    simp only [et]
    by_cases hl : p < s.length
    · have hne : s.drop p ≠ [] := by intro e; have := congrArg List.length e; simp at this; omega
      have hw := dec_pos (s.drop p)
      have hle := decodeL_le (s.drop p) hne
      rw [List.length_drop] at hle
      rw [cnd_t (show nlt p (nlen s) = true from decide_eq_true hl)]
      obtain ⟨i, h1, h2⟩ := hI (decR s p)
      rw [bnd_s h1]
      rw [vld_step _ hne, ← decR_eq]
      by_cases hi : i < 0
      · rw [cnd_t (ilt_t hi), if_neg (by rw [h2.1 hi]; decide)]
      · rw [cnd_f (ilt_f hi)]
        have hin : inRep (decR s p) = true := by
          cases hq : inRep (decR s p) with
          | true => rfl
          | false => exact absurd (h2.2 hq) hi
        rw [if_pos hin, decW_eq, List.drop_drop]
        show fixN _ fuel (s, ofN (p + (decodeL (s.drop p)).2)) = _
        exact valid_loop hs Ix hI fuel _ (by omega) (by omega)
    · rw [cnd_f (show nlt p (nlen s) = false from decide_eq_false hl)]
      have : s.drop p = [] := by simp; omega
      rw [this]
      rfl
theorem r08_valid (s : List UInt8) (hs : s.length ≤ 4000000) : r08_Valid fuelH s = some (vld s) := by
  unfold r08_Valid
  simp only [jn_e]
  have := valid_loop (s := s) (by omega) (r08_Index fuelH) (fun r => by obtain ⟨i, _, h2, h3⟩ := index_some r; exact ⟨i, h2, h3⟩) fuelH 0 (by have := fuelH_eq; omega) (Nat.zero_le _)
  simpa using this
theorem ch_valid (s : List UInt8) (hs : s.length ≤ 4000000) : charset_Valid fuelH s = some (vld s) := by
  unfold charset_Valid
  have hv : utf8_ValidString fuelH s = some (validD s) := by
    show grd (catOk (len s)) (some (validD s)) = _
    exact grd_t (decide_eq_true (by simp only [len]; omega))
  rw [bnd_s hv]
  simp only [jn_e]
  cases hd : validD s with
  | false =>
    rw [cnd_t (show bnot false = true from rfl)]
    cases hq : vld s with
    | false => rfl
    | true => rw [vld_valid _ s (Nat.le_refl _) hq] at hd; cases hd
  | true =>
    rw [cnd_f (show bnot true = false from rfl)]
    have := valid_loop (s := s) (by omega) (charset_Index fuelH) (fun r => by obtain ⟨i, h2, _, h3⟩ := index_some r; exact ⟨i, h2, h3⟩) fuelH 0 (by have := fuelH_eq; omega) (Nat.zero_le _)
    simpa using this
end Go.Mo
end

section
/-
  Plain facts: names; the check of a header.
-/
namespace Go.Mo
open Go Go.W Go.Lib
set_option maxRecDepth 100000

theorem cnd_dec {α : Type} {p : Prop} [Decidable p] {x y : Option α} : cnd (decide p) x y = if p then x else y := by
  by_cases h : p
  · rw [cnd_t (decide_eq_true h), if_pos h]
  · rw [cnd_f (decide_eq_false h), if_neg h]
theorem cnd_ilt {α : Type} {a b : Int} {x y : Option α} : cnd (ilt a b) x y = if a < b then x else y := cnd_dec
theorem cnd_ile {α : Type} {a b : Int} {x y : Option α} : cnd (ile a b) x y = if a ≤ b then x else y := cnd_dec
theorem cnd_ieq {α : Type} {a b : Int} {x y : Option α} : cnd (ieq a b) x y = if a = b then x else y := by
  by_cases h : a = b
  · rw [cnd_t (ieq_t h), if_pos h]
  · rw [cnd_f (ieq_f h), if_neg h]
theorem cnd_ine {α : Type} {a b : Int} {x y : Option α} : cnd (ine a b) x y = if a ≠ b then x else y := by
  by_cases h : a = b
  · rw [cnd_f (ine_f h), if_neg (by simp [h])]
  · rw [cnd_t (ine_t h), if_pos h]
/-- may stand in a name -/
noncomputable def okc (c : Int) : Bool := decide ((65 ≤ c ∧ c ≤ 90) ∨ (48 ≤ c ∧ c ≤ 57) ∨ c = 95 ∨ c = 45)
theorem nm_body (c : Int) (X : Option Bool) :
    (cnd (ilt c (n8 (65 : UInt8)))
                    (cnd (ilt c (n8 (48 : UInt8)))
                      (cnd (ine c (n8 (95 : UInt8)))
                        (cnd (ine c (n8 (45 : UInt8)))
                          (some false)
                          X)
                        X)
                      (cnd (ilt (n8 (57 : UInt8)) c)
                        (cnd (ine c (n8 (95 : UInt8)))
                          (cnd (ine c (n8 (45 : UInt8)))
                            (some false)
                            X)
                          X)
                        X))
                    (cnd (ilt (n8 (90 : UInt8)) c)
                      (cnd (ilt c (n8 (48 : UInt8)))
                        (cnd (ine c (n8 (95 : UInt8)))
                          (cnd (ine c (n8 (45 : UInt8)))
                            (some false)
                            X)
                          X)
                        (cnd (ilt (n8 (57 : UInt8)) c)
                          (cnd (ine c (n8 (95 : UInt8)))
                            (cnd (ine c (n8 (45 : UInt8)))
                              (some false)
                              X)
                            X)
                          X))
                      X)) = cnd (okc c) X (some false) := by
  have e1 : n8 (65 : UInt8) = 65 := rfl
  have e2 : n8 (48 : UInt8) = 48 := rfl
  have e3 : n8 (95 : UInt8) = 95 := rfl
  have e4 : n8 (45 : UInt8) = 45 := rfl
  have e5 : n8 (57 : UInt8) = 57 := rfl
  have e6 : n8 (90 : UInt8) = 90 := rfl
  rw [e1, e2, e3, e4, e5, e6]
  simp only [cnd_ilt, cnd_ine, okc, cnd_dec]
  repeat' split
  all_goals first | rfl | (exfalso; omega)
noncomputable def upc (c : Int) : Bool := decide (65 ≤ c ∧ c ≤ 90)
/-- a name -/
noncomputable def nm (s : List UInt8) : Bool := decide (1 ≤ s.length ∧ s.length ≤ 16) && upc (n8 (s.getD 0 0)) && s.all fun c => okc (n8 c)
theorem all_step {s : List UInt8} {i : Nat} (h : i < s.length) (P : UInt8 → Bool) : (s.drop i).all P = (P s[i] && (s.drop (i + 1)).all P) := by
  rw [List.drop_eq_getElem_cons h, List.all_cons]
theorem nm_loop {s : List UInt8} (hs : s.length ≤ 16) : ∀ (fuel i : Nat), s.length - i < fuel → i ≤ s.length →
    fixN (fun v2 (v3 : Int) =>
                cnd (ilt v3 (len s))
                  (grd (inb v3 (len s)) (cnd (okc (n8 (lget s (toN v3) (0 : UInt8)))) (v2 (w64 (iadd v3 (1 : Int)))) (some false)))
                  (some true)) fuel (i : Int) = some ((s.drop i).all fun c => okc (n8 c))
  | 0, i, h, _ => by omega
  | fuel + 1, i, h, hi => by
    rw [fixN_s]
    by_cases hl : i < s.length
    · have g : lget s (toN (i : Int)) 0 = s[i] := by simp [lget, toN, hl]
      rw [cnd_t (ilt_t (by simp only [len]; omega)), grd_t (inb_t (by simp only [len]; omega)), g, all_step hl]
      have hw : w64 (iadd (i : Int) 1) = ((i + 1 : Nat) : Int) := by
        simp only [iadd]; rw [w64_id (by omega)]; omega
      rw [hw, nm_loop hs fuel (i + 1) (by omega) (by omega)]
      cases okc (n8 s[i]) <;> rfl
    · rw [cnd_f (ilt_f (by simp only [len]; omega))]
      have : s.drop i = [] := by simp; omega
      rw [this]
      rfl
theorem lines_name (s : List UInt8) : lines_Name fuelH s = some (nm s) := by
  unfold lines_Name
  simp only [jn_e, nm_body]
  by_cases h1 : s.length < 1
  · rw [cnd_t (ilt_t (by simp only [len]; omega))]
    simp [nm]; omega
  · rw [cnd_f (ilt_f (by simp only [len]; omega))]
    by_cases h2 : 16 < s.length
    · rw [cnd_t (ilt_t (by simp only [len]; omega))]
      simp [nm]; omega
    · rw [cnd_f (ilt_f (by simp only [len]; omega)), grd_t (inb_t (by simp only [len]; omega))]
      have e0 : lget s (toN 0) 0 = s.getD 0 0 := rfl
      have e1 : n8 (65 : UInt8) = 65 := rfl
      have e2 : n8 (90 : UInt8) = 90 := rfl
      rw [e0, e1, e2, cnd_ilt]
      have hd : decide (1 ≤ s.length ∧ s.length ≤ 16) = true := decide_eq_true (by omega)
      split
      · rename_i h3
        have : upc (n8 (s.getD 0 0)) = false := decide_eq_false (by omega)
        simp only [nm, this, Bool.and_false, Bool.false_and]
      · rw [grd_t (inb_t (by simp only [len]; omega)), cnd_ilt]
        split
        · rename_i h4
          have : upc (n8 (s.getD 0 0)) = false := decide_eq_false (by omega)
          simp only [nm, this, Bool.and_false, Bool.false_and]
        · have hu : upc (n8 (s.getD 0 0)) = true := decide_eq_true (by omega)
          have := nm_loop (s := s) (by omega) fuelH 0 (by have := fuelH_eq; omega) (Nat.zero_le _)
          simp only [nm, hu, hd, Bool.true_and]
          simpa using this
end Go.Mo
end

section
/-
  Plain facts: the check of a header.
-/
namespace Go.Mo
open Go Go.W Go.Lib
set_option maxRecDepth 100000
theorem cnd_bnot {α : Type} {p : Prop} [Decidable p] {x y : Option α} : cnd (bnot (decide p)) x y = if p then y else x := by
  by_cases hp : p <;> simp [hp, bnot, cnd]
theorem bnd_some' {α β : Type} {a : α} {k : α → Option β} : bnd (some a) k = k a := rfl
end Go.Mo
end

section
/-
  Plain facts: the characters of a text, and the text of characters.
-/
namespace Go.Mo
open Go Go.W Go.Lib
set_option maxRecDepth 100000

noncomputable def rnsF : Nat → List UInt8 → List Int
  | 0, _ => []
  | n + 1, l => if l = [] then [] else ((decodeL l).1 : Int) :: rnsF n (l.drop (decodeL l).2)
/-- the characters of a text -/
noncomputable def rns (l : List UInt8) : List Int := rnsF l.length l
theorem rnsF_nil : ∀ n, rnsF n [] = []
  | 0 => rfl
  | n + 1 => by simp [rnsF]
theorem rnsF_fuel : ∀ (n m : Nat) (l : List UInt8), l.length ≤ n → l.length ≤ m → rnsF n l = rnsF m l
  | 0, m, l, h, _ => by
    have : l = [] := List.eq_nil_of_length_eq_zero (by omega)
    subst this
    rw [rnsF_nil, rnsF_nil]
  | n + 1, 0, l, _, h => by
    have : l = [] := List.eq_nil_of_length_eq_zero (by omega)
    subst this
    rw [rnsF_nil, rnsF_nil]
  | n + 1, m + 1, l, h1, h2 => by
    by_cases hl : l = []
    · subst hl; rw [rnsF_nil, rnsF_nil]
    · have hp := dec_pos l
      have hlen : 0 < l.length := List.length_pos_iff.2 hl
      simp only [rnsF, hl, if_false]
      rw [rnsF_fuel n m _ (by simp; omega) (by simp; omega)]
theorem rns_step (l : List UInt8) (hl : l ≠ []) : rns l = ((decodeL l).1 : Int) :: rns (l.drop (decodeL l).2) := by
  have hp := dec_pos l
  have hlen : 0 < l.length := List.length_pos_iff.2 hl
  unfold rns
  obtain ⟨n, hn⟩ : ∃ n, l.length = n + 1 := ⟨l.length - 1, by omega⟩
  rw [hn]
  simp only [rnsF, hl, if_false]
  rw [rnsF_fuel n _ _ (by simp; omega) (Nat.le_refl _)]
theorem rns_len : ∀ (n : Nat) (l : List UInt8), l.length ≤ n → (rns l).length ≤ l.length
  | n, l, h => by
    by_cases hl : l = []
    · subst hl; exact Nat.le_refl _
    · have hlen : 0 < l.length := List.length_pos_iff.2 hl
      have hp := dec_pos l
      rw [rns_step l hl]
      cases n with
      | zero => omega
      | succ n =>
        have := rns_len n (l.drop (decodeL l).2) (by simp; omega)
        simp at this ⊢
        omega

noncomputable def foldR {σ R : Type} (g : Int → σ → (σ → Option R) → Option R) (e : σ → Option R) : List Int → σ → Option R
  | [], a => e a
  | r :: l, a => g r a fun a' => foldR g e l a'
/-- a loop over the characters of a text -/
theorem str_loop {V R σ : Type} {F : (V → Option R) → V → Option R} {s : List UInt8} (st : σ → Nat → V) (g : Int → σ → (σ → Option R) → Option R) (e : σ → Option R)
    (hstep : ∀ self a p, p < s.length → F self (st a p) = g (decR s p) a fun a' => self (st a' (p + decW s p)))
    (hend : ∀ self a p, s.length ≤ p → F self (st a p) = e a) : ∀ (fuel p : Nat) (a : σ), s.length - p < fuel → fixN F fuel (st a p) = foldR g e (rns (s.drop p)) a
  | 0, p, a, h => by omega
  | fuel + 1, p, a, h => by
    rw [fixN_s]
    by_cases hp : p < s.length
    · have hne : s.drop p ≠ [] := by intro e; have := congrArg List.length e; simp at this; omega
      have hw := dec_pos (s.drop p)
      rw [hstep _ _ _ hp, rns_step _ hne, ← decR_eq, foldR, List.drop_drop, ← decW_eq]
      congr 1
      funext a'
      rw [decW_eq]
      have := str_loop st g e hstep hend fuel (p + (decodeL (s.drop p)).2) a' (by omega)
      exact this
    · rw [hend _ _ _ (by omega)]
      have : s.drop p = [] := by simp; omega
      rw [this]
      rfl
noncomputable def foldI {α σ R : Type} (g : Nat → α → σ → (σ → Option R) → Option R) (e : σ → Option R) : Nat → List α → σ → Option R
  | _, [], a => e a
  | i, x :: l, a => g i x a fun a' => foldI g e (i + 1) l a'
/-- a loop over the elements of a list -/
theorem lst_loop {V R σ α : Type} {F : (V → Option R) → V → Option R} {l : List α} (st : σ → Nat → V) (g : Nat → α → σ → (σ → Option R) → Option R) (e : σ → Option R)
    (hstep : ∀ self a i (h : i < l.length), F self (st a i) = g i l[i] a fun a' => self (st a' (i + 1)))
    (hend : ∀ self a, F self (st a l.length) = e a) : ∀ (fuel i : Nat) (a : σ), i ≤ l.length → l.length - i < fuel → fixN F fuel (st a i) = foldI g e i (l.drop i) a
  | 0, i, a, _, h => by omega
  | fuel + 1, i, a, hi, h => by
    rw [fixN_s]
    by_cases hl : i < l.length
    · rw [hstep _ _ _ hl, List.drop_eq_getElem_cons hl, foldI]
      congr 1
      funext a'
      exact lst_loop st g e hstep hend fuel (i + 1) a' (by omega) (by omega)
    · obtain rfl : i = l.length := by omega
      rw [hend, List.drop_length]
      rfl
theorem w64_succ {i n : Nat} (h : i < n) (hn : n ≤ 9223372036854775807) : w64 (iadd (i : Int) 1) = ((i + 1 : Nat) : Int) := by
  simp only [iadd]; rw [w64_id (by omega)]; omega
theorem lget_i {α : Type} {l : List α} {i : Nat} {d : α} (h : i < l.length) : lget l (toN (i : Int)) d = l[i] := by simp [lget, toN, h]
theorem nlt_t {a b : Nat} (h : a < b) : nlt a b = true := decide_eq_true h
theorem nlt_f {a b : Nat} (h : ¬ a < b) : nlt a b = false := decide_eq_false h
theorem toN_ofN (n : Nat) : toN (ofN n) = n := by simp [toN, ofN]
end Go.Mo
end

section
/-
  Plain facts: the characters of the tape form.
-/
namespace Go.Mo
open Go Go.W Go.Lib
set_option maxRecDepth 100000

end Go.Mo
end

section
/-
  Plain facts: the bytes of a character by the specification.
-/
namespace Go.Mo
open Go Go.W Go.Lib
set_option maxRecDepth 100000

end Go.Mo
end

section
/-
  Plain facts: texts in the characters of the tape form.
-/
namespace Go.Mo
open Go Go.W Go.Lib
set_option maxRecDepth 100000

theorem snoc_fold {R : Type} (k : List Int → Option R) : ∀ (l out : List Int), out.length + l.length ≤ 100000000 →
    foldR (fun r out self => grd (room (iadd (len out) (len [r])) 4) (self (lapp out [r]))) k l out = k (out ++ l)
  | [], out, _ => by simp [foldR]
  | r :: l, out, h => by
    simp only [List.length_cons] at h
    rw [foldR, grd_t (room_t (by simp [iadd, len]; omega))]
    show foldR _ _ _ (lapp out [r]) = _
    rw [snoc_fold k l _ (by simp [lapp]; omega)]
    simp [lapp]
theorem r08_runes_eq {s : List UInt8} (hs : s.length ≤ 4000000) : r08_runes fuelH s = some (rns s) := by
  unfold r08_runes
  rw [jn_e]
  rw [show (([] : List Int), s, ofN 0) = (fun (a : List Int) (p : Nat) => (a, s, ofN p)) [] 0 from rfl]
  refine (str_loop (s := s) (fun (a : List Int) (p : Nat) => (a, s, ofN p)) (fun r out self => grd (room (iadd (len out) (len [r])) 4) (self (lapp out [r]))) (fun out => some out) (fun self a p hp => ?_) (fun self a p hp => ?_) fuelH 0 [] (by have := fuelH_eq; omega)).trans ?_
  · simp only [toN_ofN]
    rw [cnd_t (nlt_t (show p < nlen s from hp))]
    rfl
  · simp only [toN_ofN]
    rw [cnd_f (nlt_f (show ¬ p < nlen s by unfold nlen; omega))]
  · have := rns_len _ s (Nat.le_refl _)
    rw [List.drop_zero, snoc_fold _ _ _ (by simp; omega)]
    rfl
end Go.Mo
end

section
/-
  Small plain facts: bytes, lengths, equality of texts.
-/
namespace Go.Mo
open Go Go.W Go.Lib
set_option maxRecDepth 100000
noncomputable section
theorem catOk_t {n : Int} (h : n ≤ 9223372036854775807) : catOk n = true := decide_eq_true h
theorem seq_dec (x y : List UInt8) : seq x y = decide (x = y) := by
  unfold seq
  by_cases h : x = y
  · subst h; simp
  · rw [decide_eq_false h]
    simpa using h
end
end Go.Mo
end

section
/-
  Plain facts: characters of the tape form read back.
-/
namespace Go.Mo
open Go Go.W Go.Lib
set_option maxRecDepth 100000
noncomputable section

end
end Go.Mo
end

section
/-
  Plain facts: the specification's reader of headers.
-/
namespace Go.Mo
open Go Go.W Go.Lib
set_option maxRecDepth 100000
noncomputable section

end
end Go.Mo
end

section
/-
  Plain facts: rates, names, on both sides.
-/
namespace Go.Mo
open Go Go.W Go.Lib
set_option maxRecDepth 100000
noncomputable section
theorem valid_tab : ((List.range 256).all fun n => decide (timebase_Valid 0 (UInt8.ofNat n) = r02_Valid 0 (UInt8.ofNat n) ∧ timebase_CanDrop 0 (UInt8.ofNat n) = r02_CanDrop 0 (UInt8.ofNat n) ∧ timebase_Nominal 0 (UInt8.ofNat n) = r02_Nominal 0 (UInt8.ofNat n))) = true := by kernel_rfl
theorem rate_eq (N : Nat) (r : UInt8) : timebase_Valid N r = r02_Valid N r ∧ timebase_CanDrop N r = r02_CanDrop N r ∧ timebase_Nominal N r = r02_Nominal N r :=
  of_decide_eq_true (all_u8 (P := fun r => decide (timebase_Valid 0 r = r02_Valid 0 r ∧ timebase_CanDrop 0 r = r02_CanDrop 0 r ∧ timebase_Nominal 0 r = r02_Nominal 0 r)) valid_tab r)
theorem digit_eq (N : Nat) (c : UInt8) : r07_digit N c = some (decide (48 ≤ n8 c ∧ n8 c ≤ 57)) := by
  unfold r07_digit
  have e1 : n8 (48 : UInt8) = 48 := rfl
  have e2 : n8 (57 : UInt8) = 57 := rfl
  rw [e1, e2, cnd_ile]
  split
  · simp only [ile, Option.some.injEq, decide_eq_decide]; omega
  · simp only [Option.some.injEq]; exact (decide_eq_false (by omega)).symm
/-- one round -/
theorem r07_body {s : List UInt8} {i : Nat} (h : i < s.length) (X : Option Bool) (N : Nat) :
    (grd (inb (i : Int) (len s)) <|
          cnd (ile (n8 (65 : UInt8)) (n8 (lget s (toN (i : Int)) (0 : UInt8))))
            (grd (inb (i : Int) (len s))
              ((fun (v4 : Bool) =>
            cnd (bnot v4)
              (cnd (ieq (i : Int) (0 : Int))
                (some false)
                (grd (inb (i : Int) (len s))
                  (bnd (r07_digit N (lget s (toN (i : Int)) (0 : UInt8))) fun v5 =>
                  cnd (bnot v5)
                    (grd (inb (i : Int) (len s))
                      (cnd (ine (n8 (lget s (toN (i : Int)) (0 : UInt8))) (n8 (95 : UInt8)))
                        (grd (inb (i : Int) (len s))
                          (cnd (ine (n8 (lget s (toN (i : Int)) (0 : UInt8))) (n8 (45 : UInt8)))
                            (some false)
                            X))
                        X))
                    X)))
              X) (ile (n8 (lget s (toN (i : Int)) (0 : UInt8))) (n8 (90 : UInt8)))))
            ((fun (v4 : Bool) =>
            cnd (bnot v4)
              (cnd (ieq (i : Int) (0 : Int))
                (some false)
                (grd (inb (i : Int) (len s))
                  (bnd (r07_digit N (lget s (toN (i : Int)) (0 : UInt8))) fun v5 =>
                  cnd (bnot v5)
                    (grd (inb (i : Int) (len s))
                      (cnd (ine (n8 (lget s (toN (i : Int)) (0 : UInt8))) (n8 (95 : UInt8)))
                        (grd (inb (i : Int) (len s))
                          (cnd (ine (n8 (lget s (toN (i : Int)) (0 : UInt8))) (n8 (45 : UInt8)))
                            (some false)
                            X))
                        X))
                    X)))
              X) false)) = if upc (n8 s[i]) = true then X else if i = 0 then some false else if okc (n8 s[i]) = true then X else some false := by
  have hb : inb (i : Int) (len s) = true := inb_t (by simp only [len]; omega)
  have g : lget s (toN (i : Int)) 0 = s[i] := by simp [lget, toN, h]
  have e1 : n8 (65 : UInt8) = 65 := rfl
  have e2 : n8 (90 : UInt8) = 90 := rfl
  have e3 : n8 (95 : UInt8) = 95 := rfl
  have e4 : n8 (45 : UInt8) = 45 := rfl
  simp only [grd_t hb, g, e1, e2, e3, e4]
  rw [bnd_s (digit_eq N s[i])]
  generalize n8 s[i] = c
  have hi : ((i : Int) = 0) ↔ i = 0 := by omega
  have b1 : ∀ (p : Prop) [Decidable p] (x y : Option Bool), cnd (bnot (decide p)) x y = if p then y else x := fun p _ x y => by
    by_cases hp : p <;> simp [hp, bnot, cnd]
  have b2 : ∀ x y : Option Bool, cnd (bnot false) x y = x := fun _ _ => rfl
  simp only [cnd_ile, cnd_ieq, cnd_ine, cnd_dec, ile, b1, b2, upc, okc, decide_eq_true_eq, hi]
  repeat' split
  all_goals first | rfl | (exfalso; omega)
theorem r07_name (s : List UInt8) : r07_Name fuelH s = some (nm s) := by
  unfold r07_Name
  by_cases h1 : s.length < 1
  · rw [cnd_t (ilt_t (by simp only [len]; omega))]
    simp [nm]; omega
  · rw [cnd_f (ilt_f (by simp only [len]; omega))]
    by_cases h2 : 16 < s.length
    · rw [cnd_t (ilt_t (by simp only [len]; omega))]
      simp [nm]; omega
    · rw [cnd_f (ilt_f (by simp only [len]; omega))]
      simp only [jn_e]
      have hd : decide (1 ≤ s.length ∧ s.length ≤ 16) = true := decide_eq_true (by omega)
      have loop : ∀ (fuel i : Nat), s.length - i < fuel → i ≤ s.length → fixN (fun v2 (v3 : Int) =>
        cnd (ilt v3 (len s))
          (grd (inb v3 (len s)) <|
          cnd (ile (n8 (65 : UInt8)) (n8 (lget s (toN v3) (0 : UInt8))))
            (grd (inb v3 (len s))
              ((fun (v4 : Bool) =>
            cnd (bnot v4)
              (cnd (ieq v3 (0 : Int))
                (some false)
                (grd (inb v3 (len s))
                  (bnd (r07_digit fuelH (lget s (toN v3) (0 : UInt8))) fun v5 =>
                  cnd (bnot v5)
                    (grd (inb v3 (len s))
                      (cnd (ine (n8 (lget s (toN v3) (0 : UInt8))) (n8 (95 : UInt8)))
                        (grd (inb v3 (len s))
                          (cnd (ine (n8 (lget s (toN v3) (0 : UInt8))) (n8 (45 : UInt8)))
                            (some false)
                            (v2 (w64 (iadd v3 (1 : Int))))))
                        (v2 (w64 (iadd v3 (1 : Int))))))
                    (v2 (w64 (iadd v3 (1 : Int)))))))
              (v2 (w64 (iadd v3 (1 : Int))))) (ile (n8 (lget s (toN v3) (0 : UInt8))) (n8 (90 : UInt8)))))
            ((fun (v4 : Bool) =>
            cnd (bnot v4)
              (cnd (ieq v3 (0 : Int))
                (some false)
                (grd (inb v3 (len s))
                  (bnd (r07_digit fuelH (lget s (toN v3) (0 : UInt8))) fun v5 =>
                  cnd (bnot v5)
                    (grd (inb v3 (len s))
                      (cnd (ine (n8 (lget s (toN v3) (0 : UInt8))) (n8 (95 : UInt8)))
                        (grd (inb v3 (len s))
                          (cnd (ine (n8 (lget s (toN v3) (0 : UInt8))) (n8 (45 : UInt8)))
                            (some false)
                            (v2 (w64 (iadd v3 (1 : Int))))))
                        (v2 (w64 (iadd v3 (1 : Int))))))
                    (v2 (w64 (iadd v3 (1 : Int)))))))
              (v2 (w64 (iadd v3 (1 : Int))))) false))
          (some true)) fuel (i : Int) = some (bif decide (i = 0) then upc (n8 (s.getD 0 0)) && s.all (fun c => okc (n8 c)) else (s.drop i).all fun c => okc (n8 c)) := by
        intro fuel
        induction fuel with
        | zero => intro i h; omega
        | succ fuel ih =>
          intro i h hi
          rw [fixN_s]
          by_cases hl : i < s.length
          · rw [cnd_t (ilt_t (by simp only [len]; omega)), r07_body hl]
            have hw : w64 (iadd (i : Int) 1) = ((i + 1 : Nat) : Int) := by
              simp only [iadd]; rw [w64_id (by omega)]; omega
            rw [hw, ih (i + 1) (by omega) (by omega)]
            have hup : upc (n8 s[i]) = true → okc (n8 s[i]) = true := fun h => by
              have := of_decide_eq_true h
              exact decide_eq_true (.inl this)
            have e0 : decide (i + 1 = 0) = false := decide_eq_false (by omega)
            simp only [e0, cond_false]
            by_cases hz : i = 0
            · subst hz
              have g0 : s.getD 0 0 = s[0] := by simp [hl]
              have hs : s.all (fun c => okc (n8 c)) = (okc (n8 s[0]) && (s.drop 1).all fun c => okc (n8 c)) := by
                have := all_step (s := s) (i := 0) hl (fun c => okc (n8 c))
                simpa using this
              simp only [decide_true, cond_true, if_true, g0, hs]
              cases hu : upc (n8 s[0]) with
              | true => simp [hup hu]
              | false => simp
            · have : decide (i = 0) = false := decide_eq_false hz
              simp only [this, cond_false, hz, if_false, all_step hl]
              cases hu : upc (n8 s[i]) with
              | true => simp [hup hu]
              | false => cases okc (n8 s[i]) <;> simp
          · rw [cnd_f (ilt_f (by simp only [len]; omega))]
            have hz : decide (i = 0) = false := decide_eq_false (by omega)
            have : s.drop i = [] := by simp; omega
            rw [hz, this]
            rfl
      have := loop fuelH 0 (by have := fuelH_eq; omega) (Nat.zero_le _)
      simp only [decide_true, cond_true] at this
      simp only [nm, hd, Bool.true_and]
      exact this
end
end Go.Mo
end

section
/-
  Plain facts: rows of text, their check, their normal form.
-/
namespace Go.Mo
open Go Go.W Go.Lib
set_option maxRecDepth 100000
abbrev Sty := UInt8 × Bool × Bool
abbrev Run := List UInt8 × Sty × List UInt8
abbrev Row := List Run

theorem cnd_ite {α : Type} {b : Bool} {x y : Option α} : cnd b x y = if b = true then x else y := by cases b <;> rfl
theorem bnot_t {b : Bool} : (bnot b = true) = (b = false) := by cases b <;> simp [bnot]
theorem seq_t {a b : List UInt8} : (seq a b = true) = (a = b) := by rw [seq_dec]; simp
theorem ieq_tt {a b : Int} : (ieq a b = true) = (a = b) := by simp [ieq]
theorem ine_tt {a b : Int} : (ine a b = true) = (a ≠ b) := by simp [ine]
theorem ilt_tt {a b : Int} : (ilt a b = true) = (a < b) := by simp [ilt]
theorem beqb_t {a b : Bool} : (beqb a b = true) = (a = b) := by simp [beqb]
theorem band_tt {a b : Bool} : (band a b = true) = (a = true ∧ b = true) := by simp [band]
theorem n8_eq {a b : UInt8} : (n8 a = n8 b) = (a = b) := propext ⟨n8_inj, fun h => by rw [h]⟩
theorem w64_pred {i : Nat} (h : 0 < i) (hn : i ≤ 9223372036854775807) : w64 (isub (i : Int) 1) = ((i - 1 : Nat) : Int) := by
  simp only [isub]; rw [w64_id (by omega)]; omega
theorem w64_back {i : Nat} (hn : i < 9223372036854775807) : w64 (isub ((i + 1 : Nat) : Int) 1) = (i : Int) := by
  rw [w64_pred (Nat.succ_pos i) (by omega)]; rfl
theorem sty_eq {a b : Sty} : (a = b) = (a.1 = b.1 ∧ a.2.1 = b.2.1 ∧ a.2.2 = b.2.2) := by
  obtain ⟨a1, a2, a3⟩ := a; obtain ⟨b1, b2, b3⟩ := b; simp

noncomputable def alikeP (a b : Run) : Prop := a.2.1 = b.2.1 ∧ a.2.2 = [] ∧ b.2.2 = []
instance (a b : Run) : Decidable (alikeP a b) := by unfold alikeP; infer_instance
/-- a run that follows another one -/
noncomputable def runChk (p : Option Run) (x : Run) : Int :=
  if vld x.1 = false then 10 else if x.1 = [] then 4 else if ¬ n8 x.2.1.1 ≤ 6 then 12 else if vld x.2.2 = false then 10 else match p with
    | none => 0
    | some p => if alikeP p x then 8 else 0
noncomputable def chkL : Option Run → List Run → Int
  | _, [] => 0
  | p, x :: r => if runChk p x ≠ 0 then runChk p x else chkL (some x) r
noncomputable def rowChk (l : Row) : Int := if 16 < l.length then 9 else chkL none l
noncomputable def shortR (l : Row) : Prop := ∀ x ∈ l, x.1.length ≤ 4000000 ∧ x.2.2.length ≤ 4000000
/-- the element ahead -/
noncomputable def before {α : Type} (l : List α) : Nat → Option α
  | 0 => none
  | i + 1 => l[i]?
theorem foldI_chk (l : Row) : ∀ (r : List Run) (i : Nat), l.drop i = r → i ≤ l.length → foldI (fun i (x : Run) (_ : Unit) self => if runChk (before l i) x ≠ 0 then some (runChk (before l i) x) else self ()) (fun _ => some (0 : Int)) i r () = some (chkL (before l i) r)
  | [], i, _, _ => rfl
  | x :: r, i, h, hi => by
    have hx : l[i]? = some x := by rw [← List.head?_drop, h]; rfl
    have hr : l.drop (i + 1) = r := by rw [← List.drop_drop, h]; rfl
    have hl : i < l.length := (List.getElem?_eq_some_iff.1 hx).1
    simp only [foldI, chkL]
    rw [foldI_chk l r (i + 1) hr (by omega)]
    have e : before l (i + 1) = some x := hx
    rw [e]
    by_cases hc : runChk (before l i) x ≠ 0
    · rw [if_pos hc, if_pos hc]
    · rw [if_neg hc, if_neg hc]
theorem style_alike_eq (N : Nat) (a b : Run) : style_alike N (a, b) = some (decide (alikeP a b)) := by
  unfold style_alike
  simp only [cnd_ite, band_tt, ieq_tt, beqb_t, n8_eq, seq_dec, decide_eq_true_eq]
  by_cases h1 : a.2.1.1 = b.2.1.1 ∧ a.2.1.2.1 = b.2.1.2.1 ∧ a.2.1.2.2 = b.2.1.2.2
  · rw [if_pos h1]
    have : a.2.1 = b.2.1 := by rw [sty_eq]; exact h1
    by_cases h2 : a.2.2 = []
    · rw [if_pos h2]; simp [alikeP, this, h2]
    · rw [if_neg h2]; simp [alikeP, h2]
  · rw [if_neg h1]
    have : ¬ a.2.1 = b.2.1 := by rw [sty_eq]; exact h1
    simp [alikeP, this]
theorem style_check {l : Row} (hl : shortR l) : style_Check fuelH l = some (rowChk l) := by
  unfold style_Check
  by_cases h : 16 < l.length
  · rw [cnd_t (ilt_t (by simp only [len]; omega))]; simp [rowChk, h]
  · rw [cnd_f (ilt_f (by simp only [len]; omega)), jn_e]
    refine Eq.trans (lst_loop (l := l) (fun (_ : Unit) (p : Nat) => (p : Int)) (fun i (x : Run) (_ : Unit) self => if runChk (before l i) x ≠ 0 then some (runChk (before l i) x) else self ()) (fun _ => some (0 : Int)) (fun self a i hi => ?_) (fun self a => ?_) fuelH 0 () (Nat.zero_le _) (by have := fuelH_eq; omega)) ?_
    · rw [cnd_t (ilt_t (by simp only [len]; omega)), grd_t (inb_t (by simp only [len]; omega)), lget_i hi]
      obtain ⟨b1, b2⟩ := hl l[i] (List.getElem_mem hi)
      rw [bnd_s (ch_valid _ b1), bnd_s (show style_Valid fuelH l[i].2.1 = some (ile (n8 l[i].2.1.1) 6) from rfl), bnd_s (ch_valid _ b2)]
      simp only [cnd_ite, bnot_t, seq_t, ile, decide_eq_false_iff_not]
      rw [w64_succ hi (by omega)]
      cases i with
      | zero =>
        have e0 : before l 0 = none := rfl
        rw [e0, if_neg (show ¬ ilt (0 : Int) ((0 : Nat) : Int) = true by decide)]
        simp only [runChk]
        repeat' split
        all_goals first | rfl | (exfalso; omega) | simp_all
      | succ i =>
        have e0 : before l (i + 1) = some l[i] := by simp only [before]; exact List.getElem?_eq_getElem (by omega)
        rw [e0, if_pos (show ilt (0 : Int) ((i + 1 : Nat) : Int) = true from ilt_t (by omega)), w64_back (by omega), grd_t (inb_t (by simp only [len]; omega)), lget_i (show i < l.length by omega), bnd_s (style_alike_eq _ _ _)]
        simp only [runChk, decide_eq_true_eq]
        repeat' split
        all_goals first | rfl | (exfalso; omega) | simp_all
    · rw [cnd_f (ilt_f (by simp only [len]; omega))]
    · rw [List.drop_zero, foldI_chk l l 0 rfl (Nat.zero_le _)]
      simp [rowChk, h, before]
theorem r09_check {l : Row} (hl : shortR l) : r09_Check fuelH l = some (rowChk l) := by
  unfold r09_Check
  by_cases h : 16 < l.length
  · rw [cnd_t (ilt_t (by simp only [len]; omega))]; simp [rowChk, h]
  · rw [cnd_f (ilt_f (by simp only [len]; omega)), jn_e]
    refine Eq.trans (lst_loop (l := l) (fun (_ : Unit) (p : Nat) => (p : Int)) (fun i (x : Run) (_ : Unit) self => if runChk (before l i) x ≠ 0 then some (runChk (before l i) x) else self ()) (fun _ => some (0 : Int)) (fun self a i hi => ?_) (fun self a => ?_) fuelH 0 () (Nat.zero_le _) (by have := fuelH_eq; omega)) ?_
    · rw [cnd_t (ilt_t (by simp only [len]; omega)), grd_t (inb_t (by simp only [len]; omega)), lget_i hi]
      obtain ⟨b1, b2⟩ := hl l[i] (List.getElem_mem hi)
      rw [bnd_s (r08_valid _ b1), bnd_s (show r09_Valid fuelH l[i].2.1 = some (ile (n8 l[i].2.1.1) 6) from rfl), bnd_s (r08_valid _ b2)]
      simp only [cnd_ite, bnot_t, seq_t, ile, decide_eq_false_iff_not]
      rw [w64_succ hi (by omega)]
      cases i with
      | zero =>
        have e0 : before l 0 = none := rfl
        rw [e0, if_neg (show ¬ ilt (0 : Int) ((0 : Nat) : Int) = true by decide)]
        simp only [runChk]
        repeat' split
        all_goals first | rfl | (exfalso; omega) | simp_all
      | succ i =>
        have e0 : before l (i + 1) = some l[i] := by simp only [before]; exact List.getElem?_eq_getElem (by omega)
        have hin : inb ((i : Nat) : Int) (len l) = true := inb_t (by simp only [len]; omega)
        rw [e0, if_pos (show ilt (0 : Int) ((i + 1 : Nat) : Int) = true from ilt_t (by omega)), w64_back (by omega), grd_t hin, grd_t hin, lget_i (show i < l.length by omega)]
        simp only [runChk, alikeP, band_tt, ieq_tt, beqb_t, n8_eq, ← sty_eq]
        repeat' split
        all_goals first | rfl | (exfalso; omega) | simp_all
    · rw [cnd_f (ilt_f (by simp only [len]; omega))]
    · rw [List.drop_zero, foldI_chk l l 0 rfl (Nat.zero_le _)]
      simp [rowChk, h, before]
end Go.Mo
end

section
/-
  Plain facts: loops with an invariant; the normal form of a row.
-/
namespace Go.Mo
open Go Go.W Go.Lib
set_option maxRecDepth 100000

noncomputable def itI {α σ R : Type} (f : Nat → α → σ → Option R ⊕ σ) (e : σ → Option R) : Nat → List α → σ → Option R
  | _, [], a => e a
  | i, x :: l, a => match f i x a with
    | .inl r => r
    | .inr a' => itI f e (i + 1) l a'
/-- one round: it ends with r, or goes on -/
noncomputable def Rnd {V R σ : Type} (X : Option R) (self : V → Option R) (next : σ → V) (I : σ → Prop) : Option R ⊕ σ → Prop
  | .inl r => X = r
  | .inr a => X = self (next a) ∧ I a
theorem lst_it {V R σ α : Type} {F : (V → Option R) → V → Option R} {l : List α} (st : σ → Nat → V) (f : Nat → α → σ → Option R ⊕ σ) (e : σ → Option R) (I : Nat → σ → Prop)
    (hstep : ∀ self a i (h : i < l.length), I i a → Rnd (F self (st a i)) self (fun a => st a (i + 1)) (I (i + 1)) (f i l[i] a))
    (hend : ∀ self a, I l.length a → F self (st a l.length) = e a) : ∀ (fuel i : Nat) (a : σ), i ≤ l.length → l.length - i < fuel → I i a → fixN F fuel (st a i) = itI f e i (l.drop i) a
  | 0, i, a, _, h, _ => by omega
  | fuel + 1, i, a, hi, h, hI => by
    rw [fixN_s]
    by_cases hl : i < l.length
    · rw [List.drop_eq_getElem_cons hl, itI]
      have hs := hstep (fixN F fuel) a i hl hI
      cases hf : f i l[i] a with
      | inl r => rw [hf] at hs; exact hs
      | inr a' =>
        rw [hf] at hs
        rw [hs.1]
        exact lst_it st f e I hstep hend fuel (i + 1) a' (by omega) (by omega) hs.2
    · obtain rfl : i = l.length := by omega
      rw [hend _ _ hI, List.drop_length]
      rfl
theorem itI_fold {α σ R : Type} (f : α → σ → σ) (e : σ → Option R) : ∀ (i : Nat) (l : List α) (a : σ), itI (fun _ x a => .inr (f x a)) e i l a = e (l.foldl (fun a x => f x a) a)
  | _, [], _ => rfl
  | i, x :: l, a => by simp only [itI, List.foldl_cons]; exact itI_fold f e (i + 1) l (f x a)

noncomputable def snoc (out : Row) (x : Run) : Row :=
  if x.1 = [] then out else match out.getLast? with
    | some p => if alikeP p x then out.dropLast ++ [(p.1 ++ x.1, p.2)] else out ++ [x]
    | none => out ++ [x]
noncomputable def normR (l : Row) : Row := l.foldl snoc []
/-- the letters of a row -/
noncomputable def tot : Row → Nat
  | [] => 0
  | x :: r => x.1.length + tot r
theorem tot_app (a b : Row) : tot (a ++ b) = tot a + tot b := by
  induction a with
  | nil => simp [tot]
  | cons x a ih => simp only [List.cons_append, tot, ih]; omega
theorem last_eq {l : Row} {p : Run} (h : l.getLast? = some p) : l = l.dropLast ++ [p] := by
  cases l with
  | nil => cases h
  | cons x l =>
    rw [List.getLast?_eq_some_getLast (List.cons_ne_nil x l)] at h
    injection h with h
    rw [← h]
    exact (List.dropLast_concat_getLast (List.cons_ne_nil x l)).symm
theorem snoc_tot (out : Row) (x : Run) : tot (snoc out x) = tot out + x.1.length := by
  unfold snoc
  split
  · rename_i h; rw [h]; rfl
  · split
    · rename_i p hp
      split
      · have := congrArg tot (last_eq hp)
        rw [tot_app] at this
        rw [tot_app]
        simp only [tot, List.length_append, Nat.add_zero] at this ⊢
        omega
      · rw [tot_app]; simp [tot]
    · rw [tot_app]; simp [tot]
theorem snoc_len (out : Row) (x : Run) : (snoc out x).length ≤ out.length + 1 := by
  unfold snoc
  split
  · omega
  · split
    · split
      · simp only [List.length_append, List.length_dropLast, List.length_singleton]; omega
      · simp
    · simp
theorem lget_last {out : Row} {p : Run} (h : out.getLast? = some p) (hb : out.length ≤ 100000000) (d : Run) : 0 < out.length ∧ w64 (isub (len out) 1) = ((out.length - 1 : Nat) : Int) ∧ lget out (toN (w64 (isub (len out) 1))) d = p := by
  have hl : 0 < out.length := by
    cases out with
    | nil => cases h
    | cons x l => simp
  have hw : w64 (isub (len out) 1) = ((out.length - 1 : Nat) : Int) := w64_pred hl (by omega)
  refine ⟨hl, hw, ?_⟩
  rw [hw, lget_i (show out.length - 1 < out.length by omega)]
  rw [List.getLast?_eq_getElem?, List.getElem?_eq_getElem (by omega)] at h
  injection h
theorem lset_last {out : Row} {p : Run} (h : out.getLast? = some p) (y : Run) : lset out (out.length - 1) y = out.dropLast ++ [y] := by
  have e := last_eq h
  have hl : out.length - 1 = out.dropLast.length := by simp
  rw [hl]
  conv => lhs; rw [e]
  unfold lset
  rw [List.set_append_right _ _ (by simp)]
  simp
theorem last_tot {out : Row} {p : Run} (h : out.getLast? = some p) : p.1.length ≤ tot out := by
  have := congrArg tot (last_eq h)
  rw [tot_app] at this
  simp only [tot, Nat.add_zero] at this
  omega
theorem tot_mem {l : Row} {x : Run} (h : x ∈ l) : x.1.length ≤ tot l := by
  induction l with
  | nil => cases h
  | cons y l ih =>
    simp only [tot]
    rcases List.mem_cons.1 h with rfl | h
    · omega
    · have := ih h; omega
noncomputable def NI (l : Row) (i : Nat) (out : Row) : Prop := out.length ≤ i ∧ tot out + tot (l.drop i) = tot l
theorem NI_step {l : Row} {i : Nat} (h : i < l.length) {out : Row} (hI : NI l i out) : NI l (i + 1) (snoc out l[i]) := by
  refine ⟨Nat.le_trans (snoc_len _ _) (Nat.succ_le_succ hI.1), ?_⟩
  have := hI.2
  rw [List.drop_eq_getElem_cons h] at this
  rw [snoc_tot]
  simp only [tot] at this
  omega
theorem style_norm_eq {l : Row} (hl : l.length ≤ 4000000) (ht : tot l ≤ 8000000) : style_norm fuelH l = some (normR l) := by
  unfold style_norm
  rw [jn_e]
  refine Eq.trans (lst_it (l := l) (fun (a : Row) (p : Nat) => ((p : Int), a)) (fun _ x a => .inr (snoc a x)) (fun a => some a) (NI l) (fun self a i hi hI => ?_) (fun self a _ => ?_) fuelH 0 [] (Nat.zero_le _) (by have := fuelH_eq; omega) ⟨Nat.le_refl _, by simp [tot]⟩) ?_
  · refine ⟨?_, NI_step hi hI⟩
    have hI1 := hI.1
    have hb : tot a ≤ 8000000 := by have := hI.2; omega
    have hx : l[i].1.length ≤ 8000000 := Nat.le_trans (tot_mem (List.getElem_mem hi)) ht
    simp only
    rw [cnd_t (ilt_t (by simp only [len]; omega)), grd_t (inb_t (by simp only [len]; omega)), lget_i hi, w64_succ hi (by omega)]
    have hroom : room (iadd (len a) (len ([l[i]] : Row))) 40 = true := room_t (by simp only [iadd, len, List.length_singleton]; omega)
    rw [grd_t hroom]
    simp only [cnd_ite, seq_t]
    by_cases he : l[i].1 = []
    · rw [if_pos he]; simp only [snoc, he, if_true]
    · rw [if_neg he]
      cases hla : a.getLast? with
      | none =>
        have ha : a = [] := List.getLast?_eq_none_iff.1 hla
        subst ha
        rw [if_neg (show ¬ ilt (0 : Int) (len ([] : Row)) = true by decide)]
        simp only [snoc, if_neg he, hla]
        rfl
      | some p =>
        obtain ⟨q1, q2, q3⟩ := lget_last hla (by omega) ([], (((0 : UInt8), (false, false)), []))
        have hin : inb (w64 (isub (len a) 1)) (len a) = true := by rw [q2]; exact inb_t (by simp only [len]; omega)
        have hp := last_tot hla
        rw [if_pos (show ilt (0 : Int) (len a) = true from ilt_t (by simp only [len]; omega)), grd_t hin, q3, bnd_s (style_alike_eq _ _ _), grd_t hin, grd_t (show catOk (iadd (len p.1) (len l[i].1)) = true from decide_eq_true (by simp only [iadd, len]; omega)), grd_t hin, q2]
        simp only [decide_eq_true_eq, snoc, if_neg he, hla]
        by_cases hk : alikeP p l[i]
        · rw [if_pos hk, if_pos hk]
          have : toN ((a.length - 1 : Nat) : Int) = a.length - 1 := by simp [toN]
          rw [this, lset_last hla]
          rfl
        · rw [if_neg hk, if_neg hk]; rfl
  · simp only
    rw [cnd_f (ilt_f (by simp only [len]; omega))]
  · rw [List.drop_zero, itI_fold]
    rfl
theorem style_Norm_eq {l : Row} (hl : l.length ≤ 4000000) (ht : tot l ≤ 8000000) : style_Norm fuelH l = some (normR l) := by
  unfold style_Norm
  rw [bnd_s (style_norm_eq hl ht)]
theorem r09_Norm_eq {l : Row} (hl : l.length ≤ 4000000) (ht : tot l ≤ 8000000) : r09_Norm fuelH l = some (normR l) := by
  unfold r09_Norm
  rw [jn_e]
  refine Eq.trans (lst_it (l := l) (fun (a : Row) (p : Nat) => (a, (p : Int))) (fun _ x a => .inr (snoc a x)) (fun a => some a) (NI l) (fun self a i hi hI => ?_) (fun self a _ => ?_) fuelH 0 [] (Nat.zero_le _) (by have := fuelH_eq; omega) ⟨Nat.le_refl _, by simp [tot]⟩) ?_
  · refine ⟨?_, NI_step hi hI⟩
    have hI1 := hI.1
    have hb : tot a ≤ 8000000 := by have := hI.2; omega
    have hx : l[i].1.length ≤ 8000000 := Nat.le_trans (tot_mem (List.getElem_mem hi)) ht
    simp only
    rw [cnd_t (ilt_t (by simp only [len]; omega)), grd_t (inb_t (by simp only [len]; omega)), lget_i hi, w64_succ hi (by omega), jn_e]
    have hroom : room (iadd (len a) (len ([l[i]] : Row))) 40 = true := room_t (by simp only [iadd, len, List.length_singleton]; omega)
    rw [grd_t hroom]
    simp only [cnd_ite, seq_t]
    by_cases he : l[i].1 = []
    · rw [if_pos he]; simp only [snoc, he, if_true]
    · rw [if_neg he]
      cases hla : a.getLast? with
      | none =>
        have ha : a = [] := List.getLast?_eq_none_iff.1 hla
        subst ha
        rw [if_neg (show ¬ ilt (0 : Int) (len ([] : Row)) = true by decide)]
        simp only [snoc, if_neg he, hla]
        rfl
      | some p =>
        obtain ⟨q1, q2, q3⟩ := lget_last hla (by omega) ([], (((0 : UInt8), (false, false)), []))
        have hin : inb (w64 (isub (len a) 1)) (len a) = true := by rw [q2]; exact inb_t (by simp only [len]; omega)
        have hp := last_tot hla
        rw [if_pos (show ilt (0 : Int) (len a) = true from ilt_t (by simp only [len]; omega)), grd_t hin, q3, grd_t hin, grd_t hin, grd_t (show catOk (iadd (len p.1) (len l[i].1)) = true from decide_eq_true (by simp only [iadd, len]; omega)), grd_t hin, q2]
        simp only [band_tt, ieq_tt, beqb_t, n8_eq, ← sty_eq]
        simp only [snoc, if_neg he, hla, alikeP]
        have : toN ((a.length - 1 : Nat) : Int) = a.length - 1 := by simp [toN]
        rw [this, lset_last hla]
        by_cases h1 : p.2.1 = l[i].2.1
        · by_cases h2 : p.2.2 = []
          · by_cases h3 : l[i].2.2 = []
            · simp only [h1, h2, h3, if_true, and_self]; rfl
            · simp only [h1, h2, h3, if_true, and_false, if_false]; rfl
          · simp only [h1, h2, if_true, false_and, and_false, if_false]; rfl
        · simp only [h1, false_and, if_false]; rfl
  · simp only
    rw [cnd_f (ilt_f (by simp only [len]; omega))]
  · rw [List.drop_zero, itI_fold]
    rfl
end Go.Mo
end

section
/-
  Plain facts: the bytes of rows.
-/
namespace Go.Mo
open Go Go.W Go.Lib
set_option maxRecDepth 100000
noncomputable section

theorem chkL_ok : ∀ (l : List Run) (p : Option Run), chkL p l = 0 → ∀ x ∈ l, vld x.1 = true ∧ x.1 ≠ [] ∧ n8 x.2.1.1 ≤ 6 ∧ vld x.2.2 = true
  | [], _, _, x, hx => by cases hx
  | y :: l, p, h, x, hx => by
    simp only [chkL] at h
    split at h
    · rename_i hc; exact absurd h hc
    · rename_i hc
      rcases List.mem_cons.1 hx with rfl | hx
      · have hc : runChk p x = 0 := by simpa using hc
        unfold runChk at hc
        split at hc
        · cases hc
        · split at hc
          · cases hc
          · split at hc
            · cases hc
            · split at hc
              · cases hc
              · rename_i h1 h2 h3 h4
                exact ⟨by simpa using h1, h2, by omega, by simpa using h4⟩
      · exact chkL_ok l _ h x hx
theorem rowChk_ok {l : Row} (h : rowChk l = 0) : l.length ≤ 16 ∧ ∀ x ∈ l, vld x.1 = true ∧ x.1 ≠ [] ∧ n8 x.2.1.1 ≤ 6 ∧ vld x.2.2 = true := by
  unfold rowChk at h
  split at h
  · cases h
  · exact ⟨by omega, chkL_ok l _ h⟩

noncomputable def cost : Row → Nat
  | [] => 0
  | x :: r => 3 + x.1.length + cost r
theorem cost_eq (l : Row) : cost l = 3 * l.length + tot l := by
  induction l with
  | nil => rfl
  | cons x l ih => simp only [cost, tot, List.length_cons, ih]; omega
noncomputable def shortL (l : List Row) : Prop := ∀ r ∈ l, shortR r
end
end Go.Mo
end

section
/-
  Plain facts: rows that are read from bytes, on both sides.
-/
namespace Go.Mo
open Go Go.W Go.Lib
set_option maxRecDepth 100000
noncomputable section

end
end Go.Mo
end

section
/-
  Plain facts: rows that are read by the reference; equality of rows; StlTexts returns true.
-/
namespace Go.Mo
open Go Go.W Go.Lib
set_option maxRecDepth 100000
noncomputable section

theorem run_eq {a b : Run} : (a = b) = (a.1 = b.1 ∧ a.2.1 = b.2.1 ∧ a.2.2 = b.2.2) := by
  obtain ⟨a1, a2, a3⟩ := a; obtain ⟨b1, b2, b3⟩ := b; simp
/-- a loop that compares -/
theorem same_fold {α : Type} : ∀ (l m : List α) [DecidableEq α], l.length = m.length → ∀ i, itI (fun i (x : α) (_ : Unit) => if some x = m[i]? then (.inr () : Option Bool ⊕ Unit) else .inl (some false)) (fun _ => some true) i (l.drop i) () = some (decide (l.drop i = m.drop i)) := by
  intro l m _ hl i
  generalize hr : l.drop i = r
  induction r generalizing i with
  | nil =>
    have h1 : l.length ≤ i := by have := congrArg List.length hr; simp at this; omega
    have : m.drop i = [] := by rw [List.drop_eq_nil_iff]; omega
    rw [this]; simp [itI]
  | cons x r ih =>
    have hx : l[i]? = some x := by rw [← List.head?_drop, hr]; rfl
    have hi := (List.getElem?_eq_some_iff.1 hx).1
    have hr' : l.drop (i + 1) = r := by rw [← List.drop_drop, hr]; rfl
    have hm : m.drop i = m[i] :: m.drop (i + 1) := List.drop_eq_getElem_cons (by omega)
    rw [hm]
    simp only [itI]
    by_cases h : some x = m[i]?
    · rw [if_pos h]
      simp only
      rw [ih (i + 1) hr']
      rw [List.getElem?_eq_getElem (by omega)] at h
      injection h with h
      exact congrArg some (decide_eq_decide.2 ⟨fun e => by rw [h, e], fun e => by injection e⟩)
    · rw [if_neg h]
      rw [List.getElem?_eq_getElem (by omega)] at h
      have : x ≠ m[i] := fun e => h (by rw [e])
      exact congrArg some (decide_eq_false fun e => this (by injection e)).symm
theorem eqRuns (a b : Row) (hl : a.length ≤ 4000000) : slices_Equal_Lapi_Run_api_Run fuelH (a, b) = some (decide (a = b)) := by
  unfold slices_Equal_Lapi_Run_api_Run
  by_cases h : a.length = b.length
  · rw [cnd_f (ine_f (by simp only [len]; omega)), jn_e]
    refine Eq.trans (lst_it (l := a) (fun (_ : Unit) (p : Nat) => (p : Int)) (fun i (x : Run) (_ : Unit) => if some x = b[i]? then .inr () else .inl (some false)) (fun _ => some true) (fun _ _ => True) (fun self _ i hi _ => ?_) (fun self _ _ => ?_) fuelH 0 () (Nat.zero_le _) (by have := fuelH_eq; omega) trivial) ?_
    · have hb : i < b.length := by omega
      have e : cnd (ilt (i : Int) (len a)) (grd (inb (i : Int) (len a)) (grd (inb (i : Int) (len b)) (cnd (bnot (band (seq (lget a (toN (i : Int)) ([], (((0 : UInt8), (false, false)), []))).1 (lget b (toN (i : Int)) ([], (((0 : UInt8), (false, false)), []))).1) (band (band (ieq (n8 (lget a (toN (i : Int)) ([], (((0 : UInt8), (false, false)), []))).2.1.1) (n8 (lget b (toN (i : Int)) ([], (((0 : UInt8), (false, false)), []))).2.1.1)) (band (beqb (lget a (toN (i : Int)) ([], (((0 : UInt8), (false, false)), []))).2.1.2.1 (lget b (toN (i : Int)) ([], (((0 : UInt8), (false, false)), []))).2.1.2.1) (beqb (lget a (toN (i : Int)) ([], (((0 : UInt8), (false, false)), []))).2.1.2.2 (lget b (toN (i : Int)) ([], (((0 : UInt8), (false, false)), []))).2.1.2.2))) (seq (lget a (toN (i : Int)) ([], (((0 : UInt8), (false, false)), []))).2.2 (lget b (toN (i : Int)) ([], (((0 : UInt8), (false, false)), []))).2.2)))) (some false) (self (w64 (iadd (i : Int) 1)))))) (some true) = if a[i] = b[i] then self ((i + 1 : Nat) : Int) else some false := by
        rw [cnd_t (ilt_t (by simp only [len]; omega)), grd_t (inb_t (by simp only [len]; omega)), grd_t (inb_t (by simp only [len]; omega)), lget_i hi, lget_i hb, w64_succ hi (by omega), cnd_ite]
        simp only [bnot_t, Bool.eq_false_iff, ne_eq, band_tt, seq_t, ieq_tt, beqb_t, n8_eq, ← sty_eq, ← run_eq]
        by_cases hc : a[i] = b[i]
        · rw [if_neg (by simpa using hc), if_pos hc]
        · rw [if_pos hc, if_neg hc]
      rw [List.getElem?_eq_getElem hb]
      by_cases hc : a[i] = b[i]
      · rw [if_pos (by rw [hc])]
        exact ⟨e.trans (if_pos hc), trivial⟩
      · rw [if_neg (fun h => hc (by injection h))]
        exact e.trans (if_neg hc)
    · simp only
      rw [cnd_f (ilt_f (by simp only [len]; omega))]
    · exact same_fold a b h 0
  · rw [cnd_t (ine_t (by simp only [len]; omega))]
    have : a ≠ b := fun e => h (by rw [e])
    simp [this]
theorem same_row (a b : Row) (hl : a.length ≤ 4000000) : style_Same fuelH (a, b) = some (decide (a = b)) := by
  unfold style_Same
  rw [eqRuns a b hl, bnd_some']
theorem same_rows (a b : List Row) (hl : a.length ≤ 4000000) (h : ∀ r ∈ a, r.length ≤ 4000000) : style_SameRows fuelH (a, b) = some (decide (a = b)) := by
  unfold style_SameRows slices_EqualFunc_Lapi_Row_Lapi_Row_api_Row_api_Row
  by_cases hab : a.length = b.length
  · rw [cnd_f (ine_f (by simp only [len]; omega)), jn_e]
    have : ∀ X : Option Bool, (bnd X fun v0 => some v0) = X := fun X => by cases X <;> rfl
    rw [this]
    refine Eq.trans (lst_it (l := a) (fun (_ : Unit) (p : Nat) => (p : Int)) (fun i (x : Row) (_ : Unit) => if some x = b[i]? then .inr () else .inl (some false)) (fun _ => some true) (fun _ _ => True) (fun self _ i hi _ => ?_) (fun self _ _ => ?_) fuelH 0 () (Nat.zero_le _) (by have := fuelH_eq; omega) trivial) ?_
    · have hb : i < b.length := by omega
      have e : cnd (ilt (i : Int) (len a)) (grd (inb (i : Int) (len a)) (grd (inb (i : Int) (len b)) (bnd (style_Same fuelH (lget a (toN (i : Int)) [], lget b (toN (i : Int)) [])) fun v4 => cnd (bnot v4) (some false) (self (w64 (iadd (i : Int) 1)))))) (some true) = if a[i] = b[i] then self ((i + 1 : Nat) : Int) else some false := by
        rw [cnd_t (ilt_t (by simp only [len]; omega)), grd_t (inb_t (by simp only [len]; omega)), grd_t (inb_t (by simp only [len]; omega)), lget_i hi, lget_i hb, w64_succ hi (by omega), same_row _ _ (h _ (List.getElem_mem hi)), bnd_some', cnd_bnot]
      rw [List.getElem?_eq_getElem hb]
      by_cases hc : a[i] = b[i]
      · rw [if_pos (by rw [hc])]
        exact ⟨e.trans (if_pos hc), trivial⟩
      · rw [if_neg (fun h => hc (by injection h))]
        exact e.trans (if_neg hc)
    · simp only
      rw [cnd_f (ilt_f (by simp only [len]; omega))]
    · exact same_fold a b hab 0
  · rw [cnd_t (ine_t (by simp only [len]; omega))]
    have : a ≠ b := fun e => hab (by rw [e])
    simp [this, bnd_some']
end
end Go.Mo
end

section
/-
  Plain facts: StlTexts returns true.
-/
namespace Go.Mo
open Go Go.W Go.Lib
set_option maxRecDepth 100000
noncomputable section
theorem awake24 : l24_awake fuelH () = some true := by kernel_rfl

theorem loop_inv {V R σ : Type} {F : (V → Option R) → V → Option R} {n : Nat} (st : σ → Nat → V) (I : Nat → σ → Prop) (r : Option R)
    (hstep : ∀ self a i, i < n → I i a → ∃ a', F self (st a i) = self (st a' (i + 1)) ∧ I (i + 1) a') (hend : ∀ self a, I n a → F self (st a n) = r) : ∀ (fuel i : Nat) (a : σ), i ≤ n → n - i < fuel → I i a → fixN F fuel (st a i) = r
  | 0, i, a, _, h, _ => by omega
  | fuel + 1, i, a, hi, h, hI => by
    rw [fixN_s]
    by_cases hl : i < n
    · obtain ⟨a', h1, h2⟩ := hstep (fixN F fuel) a i hl hI
      rw [h1]
      exact loop_inv st I r hstep hend fuel (i + 1) a' (by omega) (by omega) h2
    · obtain rfl : i = n := by omega
      exact hend _ _ hI

theorem bk_mem {α : Type} {f : α → Nat} {l : List α} {x : α} (h : x ∈ l) : f x ≤ bkL f l := by
  induction l with
  | nil => cases h
  | cons y l ih =>
    simp only [bkL]
    rcases List.mem_cons.1 h with rfl | h
    · omega
    · have := ih h; omega
noncomputable def wtU (x : Run) : Nat := x.1.length + 1 + (1 + (1 + 1) + (x.2.2.length + 1))
noncomputable def wtR (r : Row) : Nat := bkL wtU r + 1
theorem cost_wt (r : Row) : cost r ≤ bkL wtU r := by
  induction r with
  | nil => exact Nat.le_refl _
  | cons x r ih => simp only [cost, bkL, wtU]; omega
theorem short_wt {l : List Row} {B : Nat} (h : bkL wtR l ≤ B) (hB : B ≤ 4000000) : shortL l := fun r hr x hx => by
  have h1 : bkL wtU r + 1 ≤ bkL wtR l := bk_mem (f := wtR) hr
  have h2 : x.1.length + 1 + (1 + (1 + 1) + (x.2.2.length + 1)) ≤ bkL wtU r := bk_mem (f := wtU) hx
  omega

theorem min_take {α : Type} (l : List α) (n : Nat) : ltake (toN (imin (len l) (n : Int))) l = l.take n ∧ in2 (imin (len l) (n : Int)) (len l) = true := by
  have e : toN (imin (len l) (n : Int)) = min l.length n := by simp only [toN, imin, len]; omega
  refine ⟨?_, in2_t (by simp only [imin, len]; omega)⟩
  rw [e]
  unfold ltake
  by_cases h : l.length ≤ n
  · rw [Nat.min_eq_left h, List.take_length, List.take_of_length_le h]
  · rw [Nat.min_eq_right (by omega)]
theorem fold_len : ∀ (l out : Row), (l.foldl snoc out).length ≤ out.length + l.length
  | [], out => Nat.le_refl _
  | x :: l, out => by
    have h1 := snoc_len out x
    have h2 := fold_len l (snoc out x)
    simp only [List.foldl_cons, List.length_cons]
    omega
theorem normR_len (l : Row) : (normR l).length ≤ l.length := by
  have := fold_len l []
  simpa [normR] using this
end
end Go.Mo
end

section
/-
  Plain facts: StlReturns returns true.
-/
namespace Go.Mo
open Go Go.W Go.Lib
set_option maxRecDepth 100000
noncomputable section

noncomputable def bare (x : Run) : Run := (x.1, x.2.1, [])
noncomputable def back (r : Row) : Row := normR (r.map bare)
theorem bare_tot (l : Row) : tot (l.map bare) = tot l := by
  induction l with
  | nil => rfl
  | cons x l ih => simp only [List.map_cons, tot, ih]; rfl
theorem tot_cost (l : Row) : tot l ≤ cost l := by rw [cost_eq]; omega
end
end Go.Mo
end

section
/-
  Plain facts: regions, their check, a region by its name, the places of rows.
-/
namespace Go.Mo
open Go Go.W Go.Lib
set_option maxRecDepth 100000
noncomputable section
abbrev Reg := List UInt8 × Int × Int × Int × Int × UInt8 × Bool
abbrev Spot := Int × Int × Int

theorem from_eq (N : Nat) (a b c : Int) : region_from N (a, b, c) = some (decide (b ≤ a ∧ a ≤ c)) := by
  unfold region_from
  rw [cnd_ile]
  by_cases h : b ≤ a
  · simp [h, ile]
  · simp [h]
def regChk (r : Reg) : Int :=
  if nm r.1 = false then 5 else
  if ¬ (0 ≤ r.2.1 ∧ r.2.1 ≤ 14) then 2 else
  if ¬ (1 ≤ r.2.2.1 ∧ r.2.2.1 ≤ 15 - r.2.1) then 2 else
  if ¬ (0 ≤ r.2.2.2.1 ∧ r.2.2.2.1 ≤ 31) then 2 else
  if ¬ (1 ≤ r.2.2.2.2.1 ∧ r.2.2.2.2.1 ≤ 32 - r.2.2.2.1) then 2 else
  if ¬ (1 ≤ n8 r.2.2.2.2.2.1 ∧ n8 r.2.2.2.2.2.1 ≤ 3) then 3 else 0
theorem dec_f {p : Prop} [Decidable p] : (decide p = false) = ¬ p := by by_cases h : p <;> simp [h]
theorem region_check (r : Reg) : region_Check fuelH r = some (regChk r) := by
  unfold region_Check regChk
  rw [lines_name, bnd_some']
  simp only [from_eq, bnd_some', cnd_ite, bnot_t, dec_f, ilt_tt]
  have e1 : n8 (1 : UInt8) = 1 := rfl
  have e3 : n8 (3 : UInt8) = 3 := rfl
  rw [e1, e3]
  by_cases h0 : nm r.1 = false
  · rw [if_pos h0, if_pos h0]
  rw [if_neg h0, if_neg h0]
  by_cases h1 : 0 ≤ r.2.1 ∧ r.2.1 ≤ 14
  · rw [if_neg (not_not_intro h1), if_neg (not_not_intro h1)]
    have w1 : w64 (isub 15 r.2.1) = 15 - r.2.1 := by unfold isub; rw [w64_id (by omega)]
    rw [w1]
    by_cases h2 : 1 ≤ r.2.2.1 ∧ r.2.2.1 ≤ 15 - r.2.1
    · rw [if_neg (not_not_intro h2), if_neg (not_not_intro h2)]
      by_cases h3 : 0 ≤ r.2.2.2.1 ∧ r.2.2.2.1 ≤ 31
      · rw [if_neg (not_not_intro h3), if_neg (not_not_intro h3)]
        have w2 : w64 (isub 32 r.2.2.2.1) = 32 - r.2.2.2.1 := by unfold isub; rw [w64_id (by omega)]
        rw [w2]
        by_cases h4 : 1 ≤ r.2.2.2.2.1 ∧ r.2.2.2.2.1 ≤ 32 - r.2.2.2.1
        · rw [if_neg (not_not_intro h4), if_neg (not_not_intro h4)]
          by_cases h5 : n8 r.2.2.2.2.2.1 < 1
          · rw [if_pos h5, if_pos (by omega)]
          · rw [if_neg h5]
            by_cases h6 : 3 < n8 r.2.2.2.2.2.1
            · rw [if_pos h6, if_pos (by omega)]
            · rw [if_neg h6, if_neg (by omega)]
        · rw [if_pos h4, if_pos h4]
      · rw [if_pos h3, if_pos h3]
    · rw [if_pos h2, if_pos h2]
  · rw [if_pos h1, if_pos h1]
theorem r10_check (r : Reg) : r10_Check fuelH r = some (regChk r) := by
  unfold r10_Check regChk
  rw [r07_name, bnd_some']
  simp only [cnd_ite, bnot_t, ilt_tt, ine_tt]
  by_cases h0 : nm r.1 = false
  · rw [if_pos h0, if_pos h0]
  rw [if_neg h0, if_neg h0]
  by_cases h1 : 0 ≤ r.2.1 ∧ r.2.1 ≤ 14
  · rw [if_neg (by omega), if_neg (by omega), if_neg (not_not_intro h1)]
    have w1 : w64 (isub 15 r.2.1) = 15 - r.2.1 := by unfold isub; rw [w64_id (by omega)]
    rw [w1]
    by_cases h2 : 1 ≤ r.2.2.1 ∧ r.2.2.1 ≤ 15 - r.2.1
    · rw [if_neg (by omega), if_neg (by omega), if_neg (not_not_intro h2)]
      by_cases h3 : 0 ≤ r.2.2.2.1 ∧ r.2.2.2.1 ≤ 31
      · rw [if_neg (by omega), if_neg (by omega), if_neg (not_not_intro h3)]
        have w2 : w64 (isub 32 r.2.2.2.1) = 32 - r.2.2.2.1 := by unfold isub; rw [w64_id (by omega)]
        rw [w2]
        by_cases h4 : 1 ≤ r.2.2.2.2.1 ∧ r.2.2.2.2.1 ≤ 32 - r.2.2.2.1
        · rw [if_neg (by omega), if_neg (by omega), if_neg (not_not_intro h4)]
          have e1 : n8 (1 : UInt8) = 1 := rfl
          have e2 : n8 (2 : UInt8) = 2 := rfl
          have e3 : n8 (3 : UInt8) = 3 := rfl
          rw [e1, e2, e3]
          by_cases c1 : n8 r.2.2.2.2.2.1 = 1
          · rw [if_neg (not_not_intro c1), if_neg (by omega)]
          rw [if_pos c1]
          by_cases c2 : n8 r.2.2.2.2.2.1 = 2
          · rw [if_neg (not_not_intro c2), if_neg (by omega)]
          rw [if_pos c2]
          by_cases c3 : n8 r.2.2.2.2.2.1 = 3
          · rw [if_neg (not_not_intro c3), if_neg (by omega)]
          · rw [if_pos c3, if_pos (by omega)]
        · rw [if_pos h4]
          by_cases h : r.2.2.2.2.1 < 1
          · rw [if_pos h]
          · rw [if_neg h, if_pos (by omega)]
      · rw [if_pos h3]
        by_cases h : r.2.2.2.1 < 0
        · rw [if_pos h]
        · rw [if_neg h, if_pos (by omega)]
    · rw [if_pos h2]
      by_cases h : r.2.2.1 < 1
      · rw [if_pos h]
      · rw [if_neg h, if_pos (by omega)]
  · rw [if_pos h1]
    by_cases h : r.2.1 < 0
    · rw [if_pos h]
    · rw [if_neg h, if_pos (by omega)]

def chkRegs : Option Reg → List Reg → Int
  | _, [] => 0
  | p, r :: l => if regChk r ≠ 0 then regChk r else match p with
    | none => chkRegs (some r) l
    | some q => if r.1 = q.1 then 7 else if slt r.1 q.1 = true then 8 else chkRegs (some r) l
def regsChk (l : List Reg) : Int := if 16 < l.length then 9 else chkRegs none l
/-- one round of the check -/
def regRnd (p : Option Reg) (r : Reg) : Option Int ⊕ Unit := if regChk r ≠ 0 then .inl (some (regChk r)) else match p with
    | none => .inr ()
    | some q => if r.1 = q.1 then .inl (some 7) else if slt r.1 q.1 = true then .inl (some 8) else .inr ()
theorem itI_regs (l : List Reg) : ∀ (r : List Reg) (i : Nat), l.drop i = r → i ≤ l.length → itI (fun i x (_ : Unit) => regRnd (before l i) x) (fun _ => some (0 : Int)) i r () = some (chkRegs (before l i) r)
  | [], i, _, _ => rfl
  | x :: r, i, h, hi => by
    have hx : l[i]? = some x := by rw [← List.head?_drop, h]; rfl
    have hr : l.drop (i + 1) = r := by rw [← List.drop_drop, h]; rfl
    have hl : i < l.length := (List.getElem?_eq_some_iff.1 hx).1
    simp only [itI, chkRegs, regRnd]
    have e : before l (i + 1) = some x := hx
    have ih := itI_regs l r (i + 1) hr (by omega)
    rw [e] at ih
    by_cases hc : regChk x ≠ 0
    · rw [if_pos hc, if_pos hc]
    · rw [if_neg hc, if_neg hc]
      cases before l i with
      | none => exact ih
      | some q =>
        simp only
        by_cases h7 : x.1 = q.1
        · rw [if_pos h7, if_pos h7]
        · rw [if_neg h7, if_neg h7]
          by_cases h8 : slt x.1 q.1 = true
          · rw [if_pos h8, if_pos h8]
          · rw [if_neg h8, if_neg h8]
            exact ih
theorem region_list (l : List Reg) : region_CheckList fuelH l = some (regsChk l) := by
  unfold region_CheckList
  by_cases h : 16 < l.length
  · rw [cnd_t (ilt_t (by simp only [len]; omega))]; simp [regsChk, h]
  · rw [cnd_f (ilt_f (by simp only [len]; omega)), jn_e]
    refine Eq.trans (lst_it (l := l) (fun (_ : Unit) (p : Nat) => (p : Int)) (fun i x (_ : Unit) => regRnd (before l i) x) (fun _ => some (0 : Int)) (fun _ _ => True) (fun self a i hi _ => ?_) (fun self a _ => ?_) fuelH 0 () (Nat.zero_le _) (by have := fuelH_eq; omega) trivial) ?_
    · rw [cnd_t (ilt_t (by simp only [len]; omega)), grd_t (inb_t (by simp only [len]; omega)), lget_i hi, bnd_s (region_check _)]
      unfold regRnd
      by_cases hc : regChk l[i] ≠ 0
      · rw [if_pos hc, cnd_t (ine_t hc)]; rfl
      · rw [if_neg hc, cnd_f (ine_f (by simpa using hc)), jn_e, w64_succ hi (by omega)]
        cases i with
        | zero =>
          rw [cnd_f (by rfl), cnd_f (by rfl)]
          exact ⟨rfl, trivial⟩
        | succ i =>
          have e0 : before l (i + 1) = some l[i] := by simp only [before]; exact List.getElem?_eq_getElem (by omega)
          have hin : inb ((i : Nat) : Int) (len l) = true := inb_t (by simp only [len]; omega)
          have hp : ilt (0 : Int) ((i + 1 : Nat) : Int) = true := ilt_t (by omega)
          rw [e0, cnd_t hp, w64_back (by omega), grd_t hin, lget_i (show i < l.length by omega), cnd_t hp, grd_t hin]
          simp only
          by_cases h7 : l[i + 1].1 = l[i].1
          · rw [if_pos h7, cnd_t (by rw [seq_t]; exact h7)]; rfl
          · rw [if_neg h7, cnd_f (by rw [← Bool.not_eq_true, seq_t]; exact h7)]
            by_cases h8 : slt l[i + 1].1 l[i].1 = true
            · rw [if_pos h8, cnd_t h8]; rfl
            · rw [if_neg h8, cnd_f (by simpa using h8)]
              exact ⟨rfl, trivial⟩
    · rw [cnd_f (ilt_f (by simp only [len]; omega))]
    · rw [List.drop_zero, itI_regs l l 0 rfl (Nat.zero_le _)]
      simp [regsChk, h, before]
theorem r10_list (l : List Reg) : r10_CheckList fuelH l = some (regsChk l) := by
  rw [← region_list]
  have e : r10_Check fuelH = region_Check fuelH := funext fun r => by rw [r10_check, region_check]
  unfold r10_CheckList region_CheckList
  rw [e]

def defR : Reg := ([], 11, 4, 0, 32, 2, true)
def noR : Reg := ([], 0, 0, 0, 0, 0, false)
def findR (l : List Reg) (n : List UInt8) : Option Reg := if n = [] then some defR else l.find? fun r => decide (r.1 = n)
def findP (l : List Reg) (n : List UInt8) : Reg × Bool := match findR l n with
  | some r => (r, true)
  | none => (noR, false)
theorem itI_find (n : List UInt8) : ∀ (l : List Reg) (i : Nat), itI (fun _ (x : Reg) (_ : Unit) => if x.1 = n then (.inl (some (x, true)) : Option (Reg × Bool) ⊕ Unit) else .inr ()) (fun _ => some (noR, false)) i l () = some (match l.find? fun r => decide (r.1 = n) with | some r => (r, true) | none => (noR, false))
  | [], _ => rfl
  | x :: l, i => by
    simp only [itI, List.find?_cons]
    by_cases h : x.1 = n
    · rw [if_pos h, decide_eq_true h]
    · rw [if_neg h, decide_eq_false h]
      exact itI_find n l (i + 1)
theorem region_find (l : List Reg) (hl : l.length ≤ 4000000) (n : List UInt8) : region_Find fuelH (l, n) = some (findP l n) := by
  unfold region_Find findP findR
  simp only
  by_cases h : n = []
  · rw [cnd_t (by rw [seq_t]; exact h), if_pos h]; rfl
  · rw [cnd_f (by rw [← Bool.not_eq_true, seq_t]; exact h), if_neg h, jn_e]
    refine Eq.trans (lst_it (l := l) (fun (_ : Unit) (p : Nat) => (p : Int)) (fun _ (x : Reg) (_ : Unit) => if x.1 = n then .inl (some (x, true)) else .inr ()) (fun _ => some (noR, false)) (fun _ _ => True) (fun self a i hi _ => ?_) (fun self a _ => ?_) fuelH 0 () (Nat.zero_le _) (by have := fuelH_eq; omega) trivial) (itI_find n l 0)
    · have hin : inb (i : Int) (len l) = true := inb_t (by simp only [len]; omega)
      rw [cnd_t (ilt_t (by simp only [len]; omega)), grd_t hin, lget_i hi]
      by_cases hc : l[i].1 = n
      · rw [if_pos hc, cnd_t (by rw [seq_t]; exact hc)]; rfl
      · rw [if_neg hc, cnd_f (by rw [← Bool.not_eq_true, seq_t]; exact hc), w64_succ hi (by omega)]
        exact ⟨rfl, trivial⟩
    · rw [cnd_f (ilt_f (by simp only [len]; omega))]
      rfl
theorem r10_find : r10_Find fuelH = region_Find fuelH := by kernel_rfl
end
end Go.Mo
end

section
/-
  Plain facts: the places of rows.
-/
namespace Go.Mo
open Go Go.W Go.Lib
set_option maxRecDepth 100000
noncomputable section

def usableR (r : Reg) : Prop := r = defR ∨ regChk r = 0
instance (r : Reg) : Decidable (usableR r) := by unfold usableR; infer_instance
theorem reg_eq {a b : Reg} : (a = b) = (a.1 = b.1 ∧ a.2.1 = b.2.1 ∧ a.2.2.1 = b.2.2.1 ∧ a.2.2.2.1 = b.2.2.2.1 ∧ a.2.2.2.2.1 = b.2.2.2.2.1 ∧ a.2.2.2.2.2.1 = b.2.2.2.2.2.1 ∧ a.2.2.2.2.2.2 = b.2.2.2.2.2.2) := by
  obtain ⟨a1, a2, a3, a4, a5, a6, a7⟩ := a; obtain ⟨b1, b2, b3, b4, b5, b6, b7⟩ := b; simp
theorem def_band (x : Reg) : (band (seq x.1 defR.1) (band (ieq x.2.1 defR.2.1) (band (ieq x.2.2.1 defR.2.2.1) (band (ieq x.2.2.2.1 defR.2.2.2.1) (band (ieq x.2.2.2.2.1 defR.2.2.2.2.1) (band (ieq (n8 x.2.2.2.2.2.1) (n8 defR.2.2.2.2.2.1)) (beqb x.2.2.2.2.2.2 defR.2.2.2.2.2.2)))))) = true) = (x = defR) := by
  simp only [band_tt, seq_t, ieq_tt, beqb_t, n8_eq]
  exact reg_eq.symm
theorem region_usable_eq (r : Reg) : region_usable fuelH r = some (decide (usableR r)) := by
  unfold region_usable
  rw [bnd_s (show region_Default fuelH () = some defR from rfl), region_check, bnd_some']
  by_cases h : r = defR
  · rw [cnd_t ((def_band r).mpr h), @decide_eq_true (usableR r) _ (.inl h)]
  · rw [cnd_f (by rw [← Bool.not_eq_true]; exact fun k => h ((def_band r).mp k))]
    congr 1
    by_cases h2 : regChk r = 0
    · rw [ieq_t h2, @decide_eq_true (usableR r) _ (.inr h2)]
    · rw [ieq_f h2, @decide_eq_false (usableR r) _ (fun k => k.elim h h2)]
theorem r10_usable_eq (r : Reg) : r10_usable fuelH r = some (decide (usableR r)) := by
  unfold r10_usable
  rw [bnd_s (show r10_Default fuelH () = some defR from rfl), r10_check, bnd_some']
  by_cases h2 : regChk r = 0
  · rw [cnd_t (ieq_t h2), @decide_eq_true (usableR r) _ (.inr h2)]
  · rw [cnd_f (ieq_f h2)]
    congr 1
    have hd := def_band r
    by_cases h : r = defR
    · rw [@decide_eq_true (usableR r) _ (.inl h)]
      exact hd.mpr h
    · rw [@decide_eq_false (usableR r) _ (fun k => k.elim h h2), ← Bool.not_eq_true]
      exact fun k => h (hd.mp k)
theorem usable_bd {r : Reg} (h : usableR r) : 0 ≤ r.2.1 ∧ 1 ≤ r.2.2.1 ∧ r.2.1 + r.2.2.1 ≤ 15 ∧ 0 ≤ r.2.2.2.1 ∧ 1 ≤ r.2.2.2.2.1 ∧ r.2.2.2.1 + r.2.2.2.2.1 ≤ 32 ∧ 1 ≤ n8 r.2.2.2.2.2.1 ∧ n8 r.2.2.2.2.2.1 ≤ 3 := by
  rcases h with rfl | h
  · decide
  · unfold regChk at h
    split at h
    · cases h
    split at h
    · cases h
    split at h
    · cases h
    split at h
    · cases h
    split at h
    · cases h
    split at h
    · cases h
    omega

def colOf (r : Reg) (n : Int) : Int := if n8 r.2.2.2.2.2.1 = 3 then r.2.2.2.1 + (r.2.2.2.2.1 - n) else if n8 r.2.2.2.2.2.1 = 2 then r.2.2.2.1 + (r.2.2.2.2.1 - n).tdiv 2 else r.2.2.2.1
def topOf (r : Reg) (k : Nat) : Int := if r.2.2.2.2.2.2 = true then r.2.1 + (r.2.2.1 - (k : Int)) else r.2.1
def plRnd (r : Reg) (k : Nat) (i : Nat) (n : Int) (out : List Spot) : Option (List Spot × Int) ⊕ List Spot :=
  if n < 0 then .inl (some ([], 2)) else if r.2.2.2.2.1 < n then .inl (some ([], 11)) else .inr (out ++ [(topOf r k + (i : Int), colOf r n, n)])
def placeL (r : Reg) (k : Nat) : Nat → List Int → List Spot → List Spot × Int
  | _, [], out => (out, 0)
  | i, n :: l, out => if n < 0 then ([], 2) else if r.2.2.2.2.1 < n then ([], 11) else placeL r k (i + 1) l (out ++ [(topOf r k + (i : Int), colOf r n, n)])
def placeS (r : Reg) (l : List Int) : List Spot × Int := if ¬ usableR r then ([], 1) else if r.2.2.1 < (l.length : Int) then ([], 9) else placeL r l.length 0 l []
theorem itI_place (r : Reg) (k : Nat) : ∀ (l : List Int) (i : Nat) (out : List Spot), itI (plRnd r k) (fun a => some (a, (0 : Int))) i l out = some (placeL r k i l out)
  | [], i, out => rfl
  | n :: l, i, out => by
    simp only [itI, placeL, plRnd]
    by_cases h1 : n < 0
    · rw [if_pos h1, if_pos h1]
    · rw [if_neg h1, if_neg h1]
      by_cases h2 : r.2.2.2.2.1 < n
      · rw [if_pos h2, if_pos h2]
      · rw [if_neg h2, if_neg h2]
        exact itI_place r k l (i + 1) _
theorem jn_cnd {α β : Type} (K : α → Option β) (b : Bool) (x y : α) : jn K (fun v => cnd b (v x) (v y)) = K (if b = true then x else y) := by
  rw [jn_e]; cases b <;> rfl
theorem half_bd {x : Int} (h : 0 ≤ x) : 0 ≤ x.tdiv 2 ∧ x.tdiv 2 ≤ x := by
  rw [Int.tdiv_eq_ediv_of_nonneg h]; omega
/-- the numbers of one place do not wrap -/
theorem spot_w {r : Reg} (hu : usableR r) {k i : Nat} {n : Int} (hk : (k : Int) ≤ r.2.2.1) (hi : i < k) (h0 : 0 ≤ n) (hn : n ≤ r.2.2.2.2.1) :
    w64 (iadd (topOf r k) (i : Int)) = topOf r k + (i : Int) ∧ w64 (isub r.2.2.2.2.1 n) = r.2.2.2.2.1 - n ∧ w64 (iadd r.2.2.2.1 (r.2.2.2.2.1 - n)) = r.2.2.2.1 + (r.2.2.2.2.1 - n) ∧ w64 (idiv (r.2.2.2.2.1 - n) 2) = (r.2.2.2.2.1 - n).tdiv 2 ∧ w64 (iadd r.2.2.2.1 ((r.2.2.2.2.1 - n).tdiv 2)) = r.2.2.2.1 + (r.2.2.2.2.1 - n).tdiv 2 := by
  have hb := usable_bd hu
  have hd := half_bd (x := r.2.2.2.2.1 - n) (by omega)
  refine ⟨?_, ?_, ?_, ?_, ?_⟩
  · unfold iadd topOf
    rw [w64_id]
    split <;> omega
  · unfold isub; rw [w64_id (by omega)]
  · unfold iadd; rw [w64_id (by omega)]
  · unfold idiv; rw [w64_id (by omega)]
  · unfold iadd; rw [w64_id (by omega)]
theorem region_place (r : Reg) (l : List Int) : region_Place fuelH (r, l) = some (placeS r l) := by
  unfold region_Place placeS
  simp only
  rw [region_usable_eq, bnd_some', cnd_bnot]
  by_cases hu : usableR r
  · rw [if_pos hu, if_neg (not_not_intro hu)]
    have hb := usable_bd hu
    by_cases hk : r.2.2.1 < (l.length : Int)
    · rw [cnd_t (ilt_t (show r.2.2.1 < len l from hk)), if_pos hk]
    · rw [cnd_f (ilt_f (show ¬ r.2.2.1 < len l from hk)), if_neg hk, jn_cnd]
      have et : (if r.2.2.2.2.2.2 = true then w64 (iadd r.2.1 (w64 (isub r.2.2.1 (len l)))) else r.2.1) = topOf r l.length := by
        unfold topOf
        have e1 : w64 (isub r.2.2.1 (len l)) = r.2.2.1 - (l.length : Int) := by unfold isub len; rw [w64_id (by omega)]
        rw [e1]
        unfold iadd
        rw [w64_id (by omega)]
      rw [et, jn_e]
      refine Eq.trans (lst_it (l := l) (fun (a : List Spot) (p : Nat) => (a, (p : Int))) (plRnd r l.length) (fun a => some (a, (0 : Int))) (fun i a => a.length ≤ i) (fun self a i hi ha => ?_) (fun self a _ => ?_) fuelH 0 [] (Nat.zero_le _) (by have := fuelH_eq; omega) (Nat.le_refl _)) (itI_place r l.length l 0 [])
      · have hin : inb (i : Int) (len l) = true := inb_t (by simp only [len]; omega)
        simp only
        rw [cnd_t (ilt_t (by simp only [len]; omega)), grd_t hin, lget_i hi, w64_succ hi (by omega)]
        unfold plRnd
        by_cases h1 : l[i] < 0
        · rw [if_pos h1, cnd_t (ilt_t h1)]; rfl
        · rw [if_neg h1, cnd_f (ilt_f h1)]
          by_cases h2 : r.2.2.2.2.1 < l[i]
          · rw [if_pos h2, cnd_t (ilt_t h2)]; rfl
          · rw [if_neg h2, cnd_f (ilt_f h2)]
            obtain ⟨q1, q2, q3, q4, q5⟩ := spot_w hu (k := l.length) (i := i) (n := l[i]) (by omega) hi (by omega) (by omega)
            have hroom : ∀ s : Spot, room (iadd (len a) (len [s])) 24 = true := fun s => room_t (by simp only [iadd, len, List.length_singleton]; omega)
            rw [q1, q2, q3, q4, q5]
            rw [grd_t (hroom _), grd_t (hroom _), grd_t (hroom _)]
            refine ⟨?_, by simp only [List.length_append, List.length_singleton]; omega⟩
            unfold colOf
            have e3 : n8 (3 : UInt8) = 3 := rfl
            have e2 : n8 (2 : UInt8) = 2 := rfl
            rw [cnd_ieq, cnd_ieq, e3, e2]
            by_cases c3 : n8 r.2.2.2.2.2.1 = 3
            · rw [if_pos c3, if_pos c3]; rfl
            · rw [if_neg c3, if_neg c3]
              by_cases c2 : n8 r.2.2.2.2.2.1 = 2
              · rw [if_pos c2, if_pos c2]; rfl
              · rw [if_neg c2, if_neg c2]; rfl
      · simp only
        rw [cnd_f (ilt_f (by simp only [len]; omega))]
  · rw [if_neg hu, if_pos hu]
theorem r10_place (r : Reg) (l : List Int) : r10_Place fuelH (r, l) = some (placeS r l) := by
  unfold r10_Place placeS
  simp only
  rw [r10_usable_eq, bnd_some', cnd_bnot]
  by_cases hu : usableR r
  · rw [if_pos hu, if_neg (not_not_intro hu)]
    have hb := usable_bd hu
    by_cases hk : r.2.2.1 < (l.length : Int)
    · rw [cnd_t (ilt_t (show r.2.2.1 < len l from hk)), if_pos hk]
    · rw [cnd_f (ilt_f (show ¬ r.2.2.1 < len l from hk)), if_neg hk, jn_e]
      refine Eq.trans (lst_it (l := l) (fun (a : List Spot) (p : Nat) => (a, (p : Int))) (plRnd r l.length) (fun a => some (a, (0 : Int))) (fun i a => a.length ≤ i) (fun self a i hi ha => ?_) (fun self a _ => ?_) fuelH 0 [] (Nat.zero_le _) (by have := fuelH_eq; omega) (Nat.le_refl _)) (itI_place r l.length l 0 [])
      · have hin : inb (i : Int) (len l) = true := inb_t (by simp only [len]; omega)
        simp only
        rw [cnd_t (ilt_t (by simp only [len]; omega)), grd_t hin, lget_i hi, w64_succ hi (by omega)]
        unfold plRnd
        by_cases h1 : l[i] < 0
        · rw [if_pos h1, cnd_t (ilt_t h1)]; rfl
        · rw [if_neg h1, cnd_f (ilt_f h1)]
          by_cases h2 : r.2.2.2.2.1 < l[i]
          · rw [if_pos h2, cnd_t (ilt_t h2)]; rfl
          · rw [if_neg h2, cnd_f (ilt_f h2), jn_cnd]
            obtain ⟨q1, q2, q3, q4, q5⟩ := spot_w hu (k := l.length) (i := i) (n := l[i]) (by omega) hi (by omega) (by omega)
            have et : (if r.2.2.2.2.2.2 = true then (w64 (iadd (w64 (iadd r.2.1 (i : Int))) (w64 (isub r.2.2.1 (len l)))), r.2.2.2.1, l[i]) else (w64 (iadd r.2.1 (i : Int)), r.2.2.2.1, l[i])) = ((topOf r l.length + (i : Int), r.2.2.2.1, l[i]) : Spot) := by
              have e1 : w64 (isub r.2.2.1 (len l)) = r.2.2.1 - (l.length : Int) := by unfold isub len; rw [w64_id (by omega)]
              have e2 : w64 (iadd r.2.1 (i : Int)) = r.2.1 + (i : Int) := by unfold iadd; rw [w64_id (by omega)]
              have e3 : w64 (iadd (r.2.1 + (i : Int)) (r.2.2.1 - (l.length : Int))) = r.2.1 + (r.2.2.1 - (l.length : Int)) + (i : Int) := by unfold iadd; rw [w64_id (by omega)]; omega
              rw [e1, e2, e3]
              unfold topOf
              split <;> rfl
            rw [et]
            simp only
            have hroom : ∀ s : Spot, room (iadd (len a) (len [s])) 24 = true := fun s => room_t (by simp only [iadd, len, List.length_singleton]; omega)
            rw [q2, q3, q4, q5]
            rw [grd_t (hroom _), grd_t (hroom _), grd_t (hroom _)]
            refine ⟨?_, by simp only [List.length_append, List.length_singleton]; omega⟩
            unfold colOf
            have e3 : n8 (3 : UInt8) = 3 := rfl
            have e2 : n8 (2 : UInt8) = 2 := rfl
            rw [cnd_ieq, cnd_ieq, e3, e2]
            by_cases c3 : n8 r.2.2.2.2.2.1 = 3
            · rw [if_pos c3, if_pos c3]; rfl
            · rw [if_neg c3, if_neg c3]
              by_cases c2 : n8 r.2.2.2.2.2.1 = 2
              · rw [if_pos c2, if_pos c2]; rfl
              · rw [if_neg c2, if_neg c2]; rfl
      · simp only
        rw [cnd_f (ilt_f (by simp only [len]; omega))]
  · rw [if_neg hu, if_pos hu]
end
end Go.Mo
end

section
/-
  Plain facts: the text and the length of a row; events and their check.
-/
namespace Go.Mo
open Go Go.W Go.Lib
set_option maxRecDepth 100000
noncomputable section
abbrev Ev := Int × (Int × Int) × List UInt8 × UInt8 × List UInt8 × List Row

theorem rune_count {s : List UInt8} (hs : s.length ≤ 4000000) : utf8_RuneCountInString fuelH s = some ((rns s).length : Int) := by
  unfold utf8_RuneCountInString
  rw [jn_e]
  have hf : ∀ (l : List Int) (n : Nat), n + l.length ≤ 100000000 → foldR (fun (_ : Int) (a : Int) self => self (w64 (iadd a 1))) (fun a => some a) l (n : Int) = some ((n + l.length : Nat) : Int) := by
    intro l
    induction l with
    | nil => intro n _; rfl
    | cons r l ih =>
      intro n hn
      simp only [List.length_cons] at hn
      simp only [foldR]
      rw [w64_succ (show n < n + 1 by omega) (by omega), ih (n + 1) (by omega)]
      simp only [List.length_cons]
      congr 2
      omega
  refine (str_loop (s := s) (fun (a : Int) (p : Nat) => (a, s, ofN p)) (fun _ a self => self (w64 (iadd a 1))) (fun a => some a) (fun self a p hp => ?_) (fun self a p hp => ?_) fuelH 0 (0 : Int) (by have := fuelH_eq; omega)).trans ?_
  · simp only [toN_ofN]
    rw [cnd_t (nlt_t (show p < nlen s from hp))]
    rfl
  · simp only [toN_ofN]
    rw [cnd_f (nlt_f (show ¬ p < nlen s by unfold nlen; omega))]
  · have := rns_len _ s (Nat.le_refl _)
    have h := hf (rns s) 0 (by omega)
    rw [List.drop_zero]
    simpa using h
theorem ch_len {s : List UInt8} (hs : s.length ≤ 4000000) (hv : vld s = true) : charset_Len fuelH s = some ((rns s).length : Int) := by
  unfold charset_Len
  rw [ch_valid _ hs, bnd_some', hv, cnd_f (by rfl), rune_count hs]
  rfl
theorem r08_len {s : List UInt8} (hs : s.length ≤ 4000000) (hv : vld s = true) : r08_Len fuelH s = some ((rns s).length : Int) := by
  unfold r08_Len
  rw [r08_valid _ hs, bnd_some', hv, cnd_f (by rfl), r08_runes_eq hs]
  rfl
def lenT : Row → Nat
  | [] => 0
  | x :: l => (rns x.1).length + lenT l
def plainT (l : Row) : List UInt8 := l.flatMap (·.1)
/-- a row whose check says yes, of texts that are not too long -/
def okR (l : Row) : Prop := l.length ≤ 16 ∧ (∀ x ∈ l, vld x.1 = true ∧ x.1.length ≤ 4000000) ∧ tot l ≤ 4000000
def smallR (l : Row) : Prop := shortR l ∧ tot l ≤ 4000000
def smallL (l : List Row) : Prop := ∀ r ∈ l, smallR r
theorem okR_of {l : Row} (hs : smallR l) (h : rowChk l = 0) : okR l := by
  obtain ⟨h1, h2⟩ := rowChk_ok h
  exact ⟨h1, fun x hx => ⟨(h2 x hx).1, (hs.1 x hx).1⟩, hs.2⟩
theorem lenT_le : ∀ (l : Row), (∀ x ∈ l, x.1.length ≤ 4000000) → lenT l ≤ 4000000 * l.length
  | [], _ => Nat.le_refl _
  | x :: l, h => by
    have h1 := rns_len _ x.1 (Nat.le_refl _)
    have h2 := h x List.mem_cons_self
    have h3 := lenT_le l fun y hy => h y (List.mem_cons_of_mem _ hy)
    simp only [lenT, List.length_cons]
    omega
theorem lenT_take : ∀ (l : Row) (i : Nat) (h : i < l.length), lenT (l.take (i + 1)) = lenT (l.take i) + (rns l[i].1).length
  | x :: l, 0, _ => by simp [lenT]
  | x :: l, i + 1, h => by
    have := lenT_take l i (by simpa using h)
    simp only [List.take_succ_cons, lenT, this, List.getElem_cons_succ]
    omega
theorem lenT_take_le (l : Row) (i : Nat) : lenT (l.take i) ≤ lenT l := by
  induction l generalizing i with
  | nil => simp [lenT]
  | cons x l ih => cases i with
    | zero => simp [lenT]
    | succ i => simp only [List.take_succ_cons, lenT]; have := ih i; omega
theorem len_loop {l : Row} (h : okR l) (L : List UInt8 → Option Int) (hL : ∀ s : List UInt8, s.length ≤ 4000000 → vld s = true → L s = some ((rns s).length : Int)) :
    fixN (fun (v2 : Int × Int → Option Int) (v3 : Int × Int) =>
    cnd (ilt v3.2 (len l))
      (grd (inb v3.2 (len l))
        (bnd (L (lget l (toN v3.2) ([], (((0 : UInt8), (false, false)), []))).1) fun v4 =>
        cnd (ilt v4 (0 : Int))
          (some (-1 : Int))
          (v2 (w64 (iadd v3.1 v4), w64 (iadd v3.2 (1 : Int))))))
      (some v3.1)) fuelH ((0 : Int), (0 : Int)) = some (lenT l : Int) := by
  have hb := lenT_le l fun x hx => (h.2.1 x hx).2
  have hl := h.1
  refine loop_inv (n := l.length) (fun (a : Nat) (i : Nat) => ((a : Int), (i : Int))) (fun i a => a = lenT (l.take i)) _ (fun self a i hi hI => ?_) (fun self a hI => ?_) fuelH 0 0 (Nat.zero_le _) (by have := fuelH_eq; omega) rfl
  · refine ⟨a + (rns l[i].1).length, ?_, ?_⟩
    · have ht := lenT_take l i hi
      have ht2 := lenT_take_le l (i + 1)
      simp only
      rw [cnd_t (ilt_t (by simp only [len]; omega)), grd_t (inb_t (by simp only [len]; omega)), lget_i hi, hL _ (h.2.1 _ (List.getElem_mem hi)).2 (h.2.1 _ (List.getElem_mem hi)).1, bnd_some', cnd_f (ilt_f (by omega)), w64_succ hi (by omega)]
      have e : w64 (iadd (a : Int) ((rns l[i].1).length : Int)) = ((a + (rns l[i].1).length : Nat) : Int) := by
        unfold iadd; rw [w64_id (by omega)]; omega
      rw [e]
    · rw [lenT_take l i hi, hI]
  · simp only
    rw [cnd_f (ilt_f (by simp only [len]; omega)), hI, List.take_length]
theorem style_len {l : Row} (h : okR l) : style_Len fuelH l = some (lenT l : Int) := by
  unfold style_Len
  rw [jn_e]
  exact len_loop h (charset_Len fuelH) fun s => ch_len
theorem r09_len {l : Row} (h : okR l) : r09_Len fuelH l = some (lenT l : Int) := by
  unfold r09_Len
  rw [jn_e]
  exact len_loop h (r08_Len fuelH) fun s => r08_len

theorem plainT_take (l : Row) (i : Nat) (h : i < l.length) : plainT (l.take (i + 1)) = plainT (l.take i) ++ l[i].1 := by
  unfold plainT
  rw [List.take_succ_eq_append_getElem h, List.flatMap_append]
  simp
theorem plainT_len : ∀ (l : Row), (plainT l).length = tot l
  | [] => rfl
  | x :: l => by
    have h3 := plainT_len l
    unfold plainT at h3 ⊢
    simp only [List.flatMap_cons, List.length_append, tot, h3]
theorem tot_take (l : Row) (i : Nat) : tot (l.take i) ≤ tot l := by
  have h := tot_app (l.take i) (l.drop i)
  rw [List.take_append_drop] at h
  omega
theorem plainT_le {l : Row} (h : okR l) (i : Nat) : (plainT (l.take i)).length ≤ 4000000 := by
  rw [plainT_len]
  have := tot_take l i
  have := h.2.2
  omega
theorem write_str {N : Nat} {a b : List UInt8} (h : a.length + b.length ≤ 100000000) : strings_Builder_WriteString N (((), a), b) = some ((b.length : Int), (), (), a ++ b) := by
  unfold strings_Builder_WriteString
  show (grd (room (iadd (len a) (len b)) 1) (some (len b, (), (), lapp a b))) = _
  rw [grd_t (room_t (by simp only [iadd, len]; omega))]
  rfl
theorem style_plain {l : Row} (h : okR l) : style_Plain fuelH l = some (plainT l) := by
  unfold style_Plain
  rw [jn_e]
  have hl := h.1
  refine loop_inv (n := l.length) (fun (a : List UInt8) (i : Nat) => ((i : Int), (), a)) (fun i a => a = plainT (l.take i)) _ (fun self a i hi hI => ?_) (fun self a hI => ?_) fuelH 0 [] (Nat.zero_le _) (by have := fuelH_eq; omega) rfl
  · refine ⟨a ++ l[i].1, ?_, ?_⟩
    · have h1 := plainT_le h i
      have h2 := (h.2.1 _ (List.getElem_mem hi)).2
      simp only
      rw [cnd_t (ilt_t (by simp only [len]; omega)), grd_t (inb_t (by simp only [len]; omega)), lget_i hi, write_str (by rw [hI]; omega), bnd_some', w64_succ hi (by omega)]
    · rw [plainT_take l i hi, hI]
  · simp only
    rw [cnd_f (ilt_f (by simp only [len]; omega)), hI, List.take_length]
theorem r09_plain {l : Row} (h : okR l) : r09_Plain fuelH l = some (plainT l) := by
  unfold r09_Plain
  rw [jn_e]
  have hl := h.1
  refine loop_inv (n := l.length) (fun (a : List UInt8) (i : Nat) => (a, (i : Int))) (fun i a => a = plainT (l.take i)) _ (fun self a i hi hI => ?_) (fun self a hI => ?_) fuelH 0 [] (Nat.zero_le _) (by have := fuelH_eq; omega) rfl
  · refine ⟨a ++ l[i].1, ?_, ?_⟩
    · have h1 := plainT_le h i
      have h2 := (h.2.1 _ (List.getElem_mem hi)).2
      simp only
      rw [cnd_t (ilt_t (by simp only [len]; omega)), grd_t (inb_t (by simp only [len]; omega)), lget_i hi, grd_t (catOk_t (by rw [hI]; simp only [iadd, len]; omega)), w64_succ hi (by omega)]
      rfl
    · rw [plainT_take l i hi, hI]
  · simp only
    rw [cnd_f (ilt_f (by simp only [len]; omega)), hI, List.take_length]

def sp2 : List UInt8 → Bool
  | [] => false
  | [_] => false
  | a :: b :: t => ([32, 32] : List UInt8).isPrefixOf (a :: b :: t) || sp2 (b :: t)
theorem sp2_index : ∀ t : List UInt8, decide (0 ≤ index t [32, 32]) = sp2 t
  | [] => rfl
  | [a] => by
    have e : index [a] [32, 32] = if ([32, 32] : List UInt8).isPrefixOf [a] = true then 0 else if (index [] [32, 32] == -1) = true then -1 else index [] [32, 32] + 1 := rfl
    have hp : ([32, 32] : List UInt8).isPrefixOf [a] = false := by cases h : ((32 : UInt8) == a) <;> simp [List.isPrefixOf, h]
    rw [e, hp]
    rfl
  | a :: b :: t => by
    have ih := sp2_index (b :: t)
    have hg := index_ge (b :: t) [32, 32]
    have e : index (a :: b :: t) [32, 32] = if ([32, 32] : List UInt8).isPrefixOf (a :: b :: t) = true then 0 else if (index (b :: t) [32, 32] == -1) = true then -1 else index (b :: t) [32, 32] + 1 := rfl
    have e2 : sp2 (a :: b :: t) = (([32, 32] : List UInt8).isPrefixOf (a :: b :: t) || sp2 (b :: t)) := rfl
    rw [e, e2, ← ih]
    generalize index (b :: t) [32, 32] = m at hg ⊢
    cases ([32, 32] : List UInt8).isPrefixOf (a :: b :: t) with
    | true => rfl
    | false =>
      rw [if_neg (by decide), Bool.false_or]
      by_cases h1 : m = -1
      · subst h1; rfl
      · rw [if_neg (by simpa using h1), decide_eq_true (by omega), decide_eq_true (by omega)]
theorem sp2_contains (t : List UInt8) : contains t [32, 32] = sp2 t := sp2_index t
def neatT (t : List UInt8) : Bool := if t = [] then false else if n8 (lget t (toN (0 : Int)) 0) = n8 (32 : UInt8) then false else if n8 (lget t (toN (w64 (isub (len t) 1))) 0) = n8 (32 : UInt8) then false else !sp2 t
theorem sp2_step {t : List UInt8} {i : Nat} (h : i + 1 < t.length) : sp2 (t.drop i) = (((32 == t[i]) && ((32 == t[i + 1]) && true)) || sp2 (t.drop (i + 1))) := by
  rw [List.drop_eq_getElem_cons (show i < t.length by omega), List.drop_eq_getElem_cons h]
  rfl
theorem beq_n {a : UInt8} (h : ¬ n8 a = n8 (32 : UInt8)) : ((32 : UInt8) == a) = false := by
  rw [beq_eq_false_iff_ne]; intro e; exact h (by rw [← e])
theorem beq_y {a : UInt8} (h : n8 a = n8 (32 : UInt8)) : ((32 : UInt8) == a) = true := by
  rw [n8_inj h]; rfl
theorem neat_loop {t : List UInt8} (ht : t.length ≤ 100000000) : ∀ (fuel i : Nat), t.length - (i + 1) < fuel → i + 1 ≤ t.length →
    fixN (fun (v2 : Int → Option Bool) (v3 : Int) =>
              cnd (ilt v3 (len t))
                (grd (inb v3 (len t))
                  (cnd (ieq (n8 (lget t (toN v3) (0 : UInt8))) (n8 (32 : UInt8)))
                    (grd (inb (w64 (isub v3 (1 : Int))) (len t))
                      (cnd (ieq (n8 (lget t (toN (w64 (isub v3 (1 : Int)))) (0 : UInt8))) (n8 (32 : UInt8)))
                        (some false)
                        (v2 (w64 (iadd v3 (1 : Int))))))
                    (v2 (w64 (iadd v3 (1 : Int))))))
                (some true)) fuel ((i + 1 : Nat) : Int) = some (!sp2 (t.drop i))
  | 0, i, h, _ => by omega
  | fuel + 1, i, h, hi => by
    rw [fixN_s]
    by_cases hl : i + 1 < t.length
    · have h0 : inb ((i : Nat) : Int) (len t) = true := inb_t (by simp only [len]; omega)
      rw [cnd_t (ilt_t (by simp only [len]; omega)), grd_t (inb_t (by simp only [len]; omega)), lget_i hl, w64_succ hl (by omega), w64_back (by omega), grd_t h0, lget_i (show i < t.length by omega), sp2_step hl, neat_loop ht fuel (i + 1) (by omega) (by omega), cnd_ieq, cnd_ieq]
      by_cases c1 : n8 t[i + 1] = n8 (32 : UInt8)
      · rw [if_pos c1, beq_y c1]
        by_cases c2 : n8 t[i] = n8 (32 : UInt8)
        · rw [if_pos c2, beq_y c2]; rfl
        · rw [if_neg c2, beq_n c2]; rfl
      · rw [if_neg c1, beq_n c1]; simp
    · rw [cnd_f (ilt_f (by simp only [len]; omega))]
      have : t.drop i = [t[i]] := by
        rw [List.drop_eq_getElem_cons (show i < t.length by omega), List.drop_eq_nil_of_le (by omega)]
      rw [this]
      rfl
theorem r11_neat_eq {t : List UInt8} (ht : t.length ≤ 4000000) : r11_neat fuelH t = some (neatT t) := by
  unfold r11_neat neatT
  by_cases h0 : t = []
  · rw [cnd_t (by rw [seq_t]; exact h0), if_pos h0]
  · have hl : 0 < t.length := List.length_pos_iff.2 h0
    have e1 : w64 (isub (len t) 1) = ((t.length - 1 : Nat) : Int) := w64_pred hl (by omega)
    have hin : inb (w64 (isub (len t) 1)) (len t) = true := by rw [e1]; exact inb_t (by simp only [len]; omega)
    rw [cnd_f (by rw [← Bool.not_eq_true, seq_t]; exact h0), if_neg h0, grd_t (inb_t (by simp only [len]; omega)), cnd_ieq]
    by_cases h1 : n8 (lget t (toN (0 : Int)) 0) = n8 (32 : UInt8)
    · rw [if_pos h1, if_pos h1]
    · rw [if_neg h1, if_neg h1, grd_t hin, cnd_ieq]
      by_cases h2 : n8 (lget t (toN (w64 (isub (len t) 1))) 0) = n8 (32 : UInt8)
      · rw [if_pos h2, if_pos h2]
      · rw [if_neg h2, if_neg h2, jn_e]
        exact neat_loop (by omega) fuelH 0 (by have := fuelH_eq; omega) hl
def rowE (l : Row) : Int := if rowChk l ≠ 0 then rowChk l else if neatT (plainT l) = false then 4 else if 32 < lenT l then 11 else 0
theorem event_row_eq {l : Row} (hs : smallR l) : event_row fuelH l = some (rowE l) := by
  unfold event_row rowE
  rw [bnd_s (style_check hs.1)]
  by_cases hk : rowChk l ≠ 0
  · rw [cnd_t (ine_t hk), if_pos hk]
  · rw [cnd_f (ine_f (by simpa using hk)), if_neg hk]
    have hr := okR_of hs (by simpa using hk)
    have hp := plainT_le hr l.length
    rw [List.take_length] at hp
    rw [bnd_s (style_plain hr)]
    generalize plainT l = t at hp ⊢
    unfold neatT
    by_cases h0 : t = []
    · rw [cnd_t (by rw [seq_t]; exact h0), if_pos h0, if_pos rfl]
    · have hl : 0 < t.length := List.length_pos_iff.2 h0
      have e1 : w64 (isub (len t) 1) = ((t.length - 1 : Nat) : Int) := w64_pred hl (by omega)
      have hin : inb (w64 (isub (len t) 1)) (len t) = true := by rw [e1]; exact inb_t (by simp only [len]; omega)
      rw [cnd_f (by rw [← Bool.not_eq_true, seq_t]; exact h0), if_neg h0, grd_t (inb_t (by simp only [len]; omega)), cnd_ieq]
      by_cases h1 : n8 (lget t (toN (0 : Int)) 0) = n8 (32 : UInt8)
      · rw [if_pos h1, if_pos h1, if_pos rfl]
      · rw [if_neg h1, if_neg h1, grd_t hin, cnd_ieq]
        by_cases h2 : n8 (lget t (toN (w64 (isub (len t) 1))) 0) = n8 (32 : UInt8)
        · rw [if_pos h2, if_pos h2, if_pos rfl]
        · rw [if_neg h2, if_neg h2]
          have hc : strings_Contains fuelH (t, [32, 32]) = some (sp2 t) := by
            show grd (decide (t.length < 4294967281)) (some (contains t [32, 32])) = _
            rw [grd_t (decide_eq_true (by omega)), sp2_contains]
          rw [bnd_s hc]
          by_cases h3 : sp2 t = true
          · rw [cnd_t h3, h3, if_pos (by decide)]
          · rw [cnd_f (by simpa using h3), Bool.eq_false_iff.2 h3, if_neg (by simp), bnd_s (style_len hr), cnd_ilt]
            by_cases h4 : 32 < lenT l
            · rw [if_pos (by omega), if_pos h4]
            · rw [if_neg (by omega), if_neg h4]
end
end Go.Mo
end

section
/-
  Plain facts: the check of an event, on both sides; spots; the length of an event.
-/
namespace Go.Mo
open Go Go.W Go.Lib
set_option maxRecDepth 100000
noncomputable section

theorem spans_eq (N : Nat) (s : Int × Int) : event_spans N s = some (decide (0 ≤ s.1 ∧ s.1 < s.2 ∧ s.2 ≤ 5184000)) := by
  unfold event_spans
  rw [cnd_ile, cnd_ilt]
  by_cases h1 : 0 ≤ s.1
  · rw [if_pos h1]
    by_cases h2 : s.1 < s.2
    · rw [if_pos h2]; simp [h1, h2, ile]
    · rw [if_neg h2]; simp [h2]
  · rw [if_neg h1]; simp [h1]
theorem spanned_eq (N : Nat) (s : Int × Int) : r11_spanned N s = some (decide (0 ≤ s.1 ∧ s.1 < s.2 ∧ s.2 ≤ 5184000)) := spans_eq N s
def kindP (k : UInt8) : Bool := match event_KindName fuelH k with
  | some s => decide (seq s [] = decide (¬ (1 ≤ n8 k ∧ n8 k ≤ 4)))
  | none => false
theorem kind_tab (k : UInt8) : ∃ s, event_KindName fuelH k = some s ∧ seq s [] = decide (¬ (1 ≤ n8 k ∧ n8 k ≤ 4)) := by
  have h : kindP k = true := all_u8 (P := kindP) (by kernel_rfl) k
  unfold kindP at h
  split at h
  · rename_i s hs
    exact ⟨s, hs, of_decide_eq_true h⟩
  · cases h
theorem jn_sp {β : Type} (K : Bool → Option β) (s : List UInt8) (X : Option Bool) (hX : X = some (nm s)) : jn K (fun v => cnd (sne s ([] : List UInt8)) (bnd X fun w => v (bnot w)) (v false)) = K (decide (s ≠ [] ∧ nm s = false)) := by
  rw [jn_e, hX, bnd_some']
  by_cases h : s = []
  · subst h; rfl
  · rw [cnd_t (by simp [sne, h])]
    congr 1
    cases hn : nm s <;> simp [bnot, h]
def rowsE : List Row → Int → Int
  | [], k => k
  | l :: r, k => if rowE l ≠ 0 then rowE l else rowsE r k
def lens (l : List Row) : List Int := l.map fun r => (lenT r : Int)
def evChk (x : Ev) (rs : List Reg) : Int :=
  if x.1 < 1 then 2 else if 1099511627776 < x.1 then 2 else
  if ¬ (0 ≤ x.2.1.1 ∧ x.2.1.1 < x.2.1.2 ∧ x.2.1.2 ≤ 5184000) then 2 else
  match findR rs x.2.2.1 with
  | none => 6
  | some r =>
    if ¬ (1 ≤ n8 x.2.2.2.1 ∧ n8 x.2.2.2.1 ≤ 4) then 3 else
    if x.2.2.2.2.1 ≠ [] ∧ nm x.2.2.2.2.1 = false then 5 else
    if x.2.2.2.2.2.length = 0 then 9 else if 4 < x.2.2.2.2.2.length then 9 else
    rowsE x.2.2.2.2.2 (placeS r (lens x.2.2.2.2.2)).2
theorem rowE_ok {l : Row} (hs : smallR l) (h : rowE l = 0) : okR l := by
  unfold rowE at h
  split at h
  · rename_i hc; exact absurd h hc
  · rename_i hc; exact okR_of hs (by simpa using hc)
theorem event_lens_eq {x : Ev} (h : ∀ l ∈ x.2.2.2.2.2, okR l) (hl : x.2.2.2.2.2.length ≤ 1000000) : event_lens fuelH x = some (lens x.2.2.2.2.2) := by
  unfold event_lens
  rw [jn_e]
  generalize x.2.2.2.2.2 = l at h hl ⊢
  refine loop_inv (n := l.length) (fun (a : List Int) (i : Nat) => (a, (i : Int))) (fun i a => a = lens (l.take i)) _ (fun self a i hi hI => ?_) (fun self a hI => ?_) fuelH 0 [] (Nat.zero_le _) (by have := fuelH_eq; omega) rfl
  · refine ⟨a ++ [(lenT l[i] : Int)], ?_, ?_⟩
    · have ha : a.length ≤ i := by rw [hI]; unfold lens; rw [List.length_map, List.length_take]; omega
      simp only
      rw [cnd_t (ilt_t (by simp only [len]; omega)), grd_t (inb_t (by simp only [len]; omega)), lget_i hi, style_len (h _ (List.getElem_mem hi)), bnd_some', grd_t (room_t (by simp only [iadd, len, List.length_singleton]; omega)), w64_succ hi (by omega)]
      rfl
    · rw [hI]; unfold lens; rw [List.take_succ_eq_append_getElem hi, List.map_append]; rfl
  · simp only
    rw [cnd_f (ilt_f (by simp only [len]; omega)), hI, List.take_length]
theorem itI_rows (K : Option Int) (k : Int) : ∀ (l : List Row) (i : Nat), ((∀ r ∈ l, rowE r = 0) → K = some k) → itI (fun _ (r : Row) (_ : Unit) => if rowE r ≠ 0 then (.inl (some (rowE r)) : Option Int ⊕ Unit) else .inr ()) (fun _ => K) i l () = some (rowsE l k)
  | [], i, h => h fun r hr => by cases hr
  | r :: l, i, h => by
    simp only [itI, rowsE]
    by_cases hc : rowE r ≠ 0
    · rw [if_pos hc, if_pos hc]
    · rw [if_neg hc, if_neg hc]
      refine itI_rows K k l (i + 1) fun hl => h fun q hq => ?_
      rcases List.mem_cons.1 hq with rfl | hq
      · simpa using hc
      · exact hl q hq
theorem itI_rows2 (K : List Int → Option Int) (k : List Int → Int) (hK : ∀ a, K a = some (k a)) : ∀ (l : List Row) (i : Nat) (a : List Int), itI (fun _ (r : Row) (a : List Int) => if rowE r ≠ 0 then (.inl (some (rowE r)) : Option Int ⊕ List Int) else .inr (a ++ [(lenT r : Int)])) K i l a = some (rowsE l (k (a ++ lens l)))
  | [], i, a => by simp [itI, hK, rowsE, lens]
  | r :: l, i, a => by
    simp only [itI, rowsE]
    by_cases hc : rowE r ≠ 0
    · rw [if_pos hc, if_pos hc]
    · rw [if_neg hc, if_neg hc]
      simp only
      rw [itI_rows2 K k hK l (i + 1)]
      simp [lens]
theorem event_check_eq {x : Ev} {rs : List Reg} (hs : smallL x.2.2.2.2.2) (hr : rs.length ≤ 4000000) : event_Check fuelH (x, rs) = some (evChk x rs) := by
  unfold event_Check evChk
  simp only
  rw [region_find _ hr, bnd_some', cnd_ilt]
  by_cases c1 : x.1 < 1
  · rw [if_pos c1, if_pos c1]
  rw [if_neg c1, if_neg c1, cnd_ilt]
  by_cases c2 : 1099511627776 < x.1
  · rw [if_pos c2, if_pos c2]
  rw [if_neg c2, if_neg c2, spans_eq, bnd_some', cnd_bnot]
  by_cases c3 : 0 ≤ x.2.1.1 ∧ x.2.1.1 < x.2.1.2 ∧ x.2.1.2 ≤ 5184000
  · rw [if_pos c3, if_neg (not_not_intro c3)]
    unfold findP
    cases hf : findR rs x.2.2.1 with
    | none => rfl
    | some r =>
      simp only
      rw [cnd_f (by rfl)]
      obtain ⟨s, k1, k2⟩ := kind_tab x.2.2.2.1
      rw [bnd_s k1, k2, cnd_dec]
      by_cases c4 : 1 ≤ n8 x.2.2.2.1 ∧ n8 x.2.2.2.1 ≤ 4
      · rw [if_neg (not_not_intro c4), if_neg (not_not_intro c4), jn_sp _ _ _ (lines_name _), cnd_dec]
        by_cases c5 : x.2.2.2.2.1 ≠ [] ∧ nm x.2.2.2.2.1 = false
        · rw [if_pos c5, if_pos c5]
        rw [if_neg c5, if_neg c5]
        by_cases c6 : x.2.2.2.2.2.length = 0
        · rw [cnd_t (ieq_t (by simp only [len]; omega)), if_pos c6]
        rw [cnd_f (ieq_f (by simp only [len]; omega)), if_neg c6]
        by_cases c7 : 4 < x.2.2.2.2.2.length
        · rw [cnd_t (ilt_t (by simp only [len]; omega)), if_pos c7]
        rw [cnd_f (ilt_f (by simp only [len]; omega)), if_neg c7, jn_e]
        have hlen := @event_lens_eq x
        generalize x.2.2.2.2.2 = l at hs c6 c7 hlen ⊢
        refine Eq.trans (lst_it (l := l) (fun (_ : Unit) (p : Nat) => (p : Int)) (fun _ (r : Row) (_ : Unit) => if rowE r ≠ 0 then .inl (some (rowE r)) else .inr ()) (fun _ => bnd (event_lens fuelH x) fun v5 => bnd (region_Place fuelH (r, v5)) fun v6 => some v6.2) (fun _ _ => True) (fun self a i hi _ => ?_) (fun self a _ => ?_) fuelH 0 () (Nat.zero_le _) (by have := fuelH_eq; omega) trivial) (itI_rows _ _ l 0 fun hl => ?_)
        · rw [cnd_t (ilt_t (by simp only [len]; omega)), grd_t (inb_t (by simp only [len]; omega)), lget_i hi, bnd_s (event_row_eq (hs _ (List.getElem_mem hi))), w64_succ hi (by omega)]
          by_cases hc : rowE l[i] ≠ 0
          · rw [if_pos hc, cnd_t (ine_t hc)]; rfl
          · rw [if_neg hc, cnd_f (ine_f (by simpa using hc))]
            exact ⟨rfl, trivial⟩
        · rw [cnd_f (ilt_f (by simp only [len]; omega))]
        · rw [bnd_s (hlen (fun q hq => rowE_ok (hs q hq) (hl q hq)) (by omega)), bnd_s (region_place _ _)]
      · rw [if_pos c4, if_pos c4]
  · rw [if_neg c3, if_pos c3]
theorem r11_check_eq {x : Ev} {rs : List Reg} (hs : smallL x.2.2.2.2.2) (hr : rs.length ≤ 4000000) : r11_Check fuelH (x, rs) = some (evChk x rs) := by
  unfold r11_Check evChk
  simp only
  rw [cnd_ilt]
  by_cases c1 : x.1 < 1
  · rw [if_pos c1, if_pos c1]
  rw [if_neg c1, if_neg c1, cnd_ilt]
  by_cases c2 : 1099511627776 < x.1
  · rw [if_pos c2, if_pos c2]
  rw [if_neg c2, if_neg c2, spanned_eq, bnd_some', cnd_bnot]
  by_cases c3 : 0 ≤ x.2.1.1 ∧ x.2.1.1 < x.2.1.2 ∧ x.2.1.2 ≤ 5184000
  · rw [if_pos c3, if_neg (not_not_intro c3), r10_find, region_find _ hr, bnd_some']
    unfold findP
    cases hf : findR rs x.2.2.1 with
    | none => rfl
    | some r =>
      simp only
      rw [cnd_f (by rfl)]
      have e1 : n8 (1 : UInt8) = 1 := rfl
      have e4 : n8 (4 : UInt8) = 4 := rfl
      rw [cnd_ilt, cnd_ilt, e1, e4]
      by_cases c4 : 1 ≤ n8 x.2.2.2.1 ∧ n8 x.2.2.2.1 ≤ 4
      · rw [if_neg (by omega), if_neg (by omega), if_neg (not_not_intro c4), jn_sp _ _ _ (r07_name _), cnd_dec]
        by_cases c5 : x.2.2.2.2.1 ≠ [] ∧ nm x.2.2.2.2.1 = false
        · rw [if_pos c5, if_pos c5]
        rw [if_neg c5, if_neg c5]
        by_cases c6 : x.2.2.2.2.2.length = 0
        · rw [cnd_t (ieq_t (by simp only [len]; omega)), if_pos c6]
        rw [cnd_f (ieq_f (by simp only [len]; omega)), if_neg c6]
        by_cases c7 : 4 < x.2.2.2.2.2.length
        · rw [cnd_t (ilt_t (by simp only [len]; omega)), if_pos c7]
        rw [cnd_f (ilt_f (by simp only [len]; omega)), if_neg c7, jn_e]
        generalize x.2.2.2.2.2 = l at hs c6 c7 ⊢
        refine Eq.trans (lst_it (l := l) (fun (a : List Int) (p : Nat) => (a, (p : Int))) (fun _ (r : Row) (a : List Int) => if rowE r ≠ 0 then .inl (some (rowE r)) else .inr (a ++ [(lenT r : Int)])) (fun a => bnd (r10_Place fuelH (r, a)) fun v4 => some v4.2) (fun i a => a.length ≤ i) (fun self a i hi ha => ?_) (fun self a _ => ?_) fuelH 0 [] (Nat.zero_le _) (by have := fuelH_eq; omega) (Nat.le_refl _)) (itI_rows2 _ (fun a => (placeS r a).2) (fun a => by rw [r10_place]; rfl) l 0 [])
        · have hsr := hs _ (List.getElem_mem hi)
          have hin : inb (i : Int) (len l) = true := inb_t (by simp only [len]; omega)
          simp only
          rw [cnd_t (ilt_t (by simp only [len]; omega)), grd_t hin, lget_i hi, bnd_s (r09_check hsr.1), w64_succ hi (by omega)]
          generalize l[i] = q at hsr ⊢
          unfold rowE
          by_cases hk : rowChk q ≠ 0
          · rw [if_pos hk, if_pos hk, cnd_t (ine_t hk)]; rfl
          · have hok := okR_of hsr (by simpa using hk)
            have hp := plainT_le hok q.length
            rw [List.take_length] at hp
            rw [if_neg hk, cnd_f (ine_f (by simpa using hk)), bnd_s (r09_plain hok), bnd_s (r11_neat_eq hp), cnd_ite]
            by_cases hn : neatT (plainT q) = false
            · rw [if_pos (by rw [hn]; rfl), if_pos hn, if_pos (by decide)]; rfl
            · rw [if_neg (by rw [bnot_t]; exact hn), if_neg hn, bnd_s (r09_len hok), cnd_ilt]
              by_cases h4 : 32 < lenT q
              · rw [if_pos (by omega), if_pos h4, if_pos (by decide)]; rfl
              · rw [if_neg (by omega), if_neg h4, if_neg (by decide), bnd_s (r09_len hok), grd_t (room_t (by simp only [iadd, len, List.length_singleton]; omega))]
                exact ⟨rfl, by simp only [List.length_append, List.length_singleton]; omega⟩
        · simp only
          rw [cnd_f (ilt_f (by simp only [len]; omega))]
      · rw [if_pos c4]
        by_cases h : n8 x.2.2.2.1 < 1
        · rw [if_pos h]
        · rw [if_neg h, if_pos (by omega)]
  · rw [if_neg c3, if_pos c3]
end
end Go.Mo
end

section
/-
  Plain facts: the header of a document; events by their number; the length of an event.
-/
namespace Go.Mo
open Go Go.W Go.Lib
set_option maxRecDepth 100000
noncomputable section
abbrev Cmt := Int × Int × Int × Int × List UInt8 × List UInt8 × Bool × Bool
abbrev Doc := List UInt8 × List UInt8 × UInt8 × Bool × Int × List Reg × List Ev × List Cmt

def tvB (r : UInt8) : Bool := (timebase_Valid fuelH r).getD false
def cdB (r : UInt8) : Bool := (timebase_CanDrop fuelH r).getD false
theorem tv_eq (r : UInt8) : timebase_Valid fuelH r = some (tvB r) ∧ timebase_CanDrop fuelH r = some (cdB r) :=
  of_decide_eq_true (all_u8 (P := fun r => decide (timebase_Valid fuelH r = some (tvB r) ∧ timebase_CanDrop fuelH r = some (cdB r))) (by kernel_rfl) r)
theorem r02_eq (r : UInt8) : r02_Valid fuelH r = some (tvB r) ∧ r02_CanDrop fuelH r = some (cdB r) := by
  obtain ⟨h1, h2, _⟩ := rate_eq fuelH r
  rw [← h1, ← h2]
  exact tv_eq r
def rateBad (r : UInt8) (drop : Bool) : Prop := tvB r = false ∨ (drop = true ∧ cdB r = false)
instance (r : UInt8) (drop : Bool) : Decidable (rateBad r drop) := by unfold rateBad; infer_instance
def headChk (d : Doc) : Int :=
  if vld d.1 = false then 10 else if 400 < d.1.length then 9 else if d.2.1 ≠ [] ∧ nm d.2.1 = false then 5 else
  if rateBad d.2.2.1 d.2.2.2.1 then 13 else if d.2.2.2.2.1 < 0 then 2 else if 1099511627776 < d.2.2.2.2.1 then 2 else 0
theorem rate_chk (r : UInt8) (b : Bool) : document_rate fuelH (r, b) = some (if rateBad r b then 13 else 0) := by
  unfold document_rate
  obtain ⟨h1, h2⟩ := tv_eq r
  simp only
  rw [h1, bnd_some']
  by_cases c1 : tvB r = false
  · rw [cnd_t (by rw [c1]; rfl), if_pos (show rateBad r b from .inl c1)]
  · rw [cnd_f (by rw [← Bool.not_eq_true, bnot_t]; exact c1)]
    cases b with
    | false =>
      rw [cnd_f rfl, if_neg]
      rintro (h | h)
      · exact c1 h
      · cases h.1
    | true =>
      rw [cnd_t rfl, h2, bnd_some']
      by_cases c2 : cdB r = false
      · rw [cnd_t (by rw [c2]; rfl), if_pos (show rateBad r true from .inr ⟨rfl, c2⟩)]
      · rw [cnd_f (by rw [← Bool.not_eq_true, bnot_t]; exact c2), if_neg]
        rintro (h | h)
        · exact c1 h
        · exact c2 h.2
theorem header_eq {d : Doc} (hd : d.1.length ≤ 4000000) : document_header fuelH d = some (headChk d) := by
  unfold document_header headChk
  rw [jn_e, ch_valid _ hd, bnd_some']
  by_cases c1 : vld d.1 = false
  · rw [cnd_t (by rw [c1]; rfl), if_pos c1]
  rw [cnd_f (by rw [← Bool.not_eq_true, bnot_t]; exact c1), if_neg c1]
  by_cases c2 : 400 < d.1.length
  · rw [cnd_t (ilt_t (by simp only [len]; omega)), if_pos c2]
  rw [cnd_f (ilt_f (by simp only [len]; omega)), if_neg c2, lines_name, bnd_some', rate_chk, bnd_some']
  have hrest : cnd (ine (if rateBad d.2.2.1 d.2.2.2.1 then (13 : Int) else 0) 0) (some (if rateBad d.2.2.1 d.2.2.2.1 then (13 : Int) else 0)) (cnd (ilt d.2.2.2.2.1 0) (some (2 : Int)) (cnd (ilt 1099511627776 d.2.2.2.2.1) (some 2) (some 0))) = some (if rateBad d.2.2.1 d.2.2.2.1 then 13 else if d.2.2.2.2.1 < 0 then 2 else if 1099511627776 < d.2.2.2.2.1 then 2 else 0) := by
    by_cases c4 : rateBad d.2.2.1 d.2.2.2.1
    · rw [if_pos c4, if_pos c4]; rfl
    · rw [if_neg c4, if_neg c4, cnd_f (by rfl), cnd_ilt, cnd_ilt]
      by_cases c5 : d.2.2.2.2.1 < 0
      · rw [if_pos c5, if_pos c5]
      rw [if_neg c5, if_neg c5]
      by_cases c6 : 1099511627776 < d.2.2.2.2.1
      · rw [if_pos c6, if_pos c6]
      · rw [if_neg c6, if_neg c6]
  rw [hrest]
  generalize (if rateBad d.2.2.1 d.2.2.2.1 then (13 : Int) else if d.2.2.2.2.1 < 0 then 2 else if 1099511627776 < d.2.2.2.2.1 then 2 else 0) = R
  by_cases c3 : d.2.1 = []
  · rw [cnd_f (by simp [sne, c3]), if_neg fun h => h.1 c3]
  · rw [cnd_t (by simp [sne, c3])]
    by_cases c4 : nm d.2.1 = false
    · rw [cnd_t (by rw [c4]; rfl), if_pos ⟨c3, c4⟩]
    · rw [cnd_f (by rw [← Bool.not_eq_true, bnot_t]; exact c4), if_neg fun h => c4 h.2]
theorem checkHead_eq {d : Doc} (hd : d.1.length ≤ 4000000) : r12_checkHead fuelH d = some (headChk d) := by
  unfold r12_checkHead headChk
  rw [r08_valid _ hd, bnd_some']
  by_cases c1 : vld d.1 = false
  · rw [cnd_t (by rw [c1]; rfl), if_pos c1]
  rw [cnd_f (by rw [← Bool.not_eq_true, bnot_t]; exact c1), if_neg c1]
  by_cases c2 : 400 < d.1.length
  · rw [cnd_t (ilt_t (by simp only [len]; omega)), if_pos c2]
  rw [cnd_f (ilt_f (by simp only [len]; omega)), if_neg c2, jn_sp _ _ _ (r07_name _), cnd_dec]
  by_cases c3 : d.2.1 ≠ [] ∧ nm d.2.1 = false
  · rw [if_pos c3, if_pos c3]
  rw [if_neg c3, if_neg c3, jn_e]
  obtain ⟨h1, h2⟩ := r02_eq d.2.2.1
  rw [h1, bnd_some', h2, bnd_some']
  have hrest : ∀ b : Bool, b = decide (rateBad d.2.2.1 d.2.2.2.1) → cnd b (some (13 : Int)) (cnd (ilt d.2.2.2.2.1 0) (some (2 : Int)) (cnd (ilt 1099511627776 d.2.2.2.2.1) (some 2) (some 0))) = some (if rateBad d.2.2.1 d.2.2.2.1 then 13 else if d.2.2.2.2.1 < 0 then 2 else if 1099511627776 < d.2.2.2.2.1 then 2 else 0) := by
    rintro b rfl
    rw [cnd_dec, cnd_ilt, cnd_ilt]
    by_cases c4 : rateBad d.2.2.1 d.2.2.2.1
    · rw [if_pos c4, if_pos c4]
    rw [if_neg c4, if_neg c4]
    by_cases c5 : d.2.2.2.2.1 < 0
    · rw [if_pos c5, if_pos c5]
    rw [if_neg c5, if_neg c5]
    by_cases c6 : 1099511627776 < d.2.2.2.2.1
    · rw [if_pos c6, if_pos c6]
    · rw [if_neg c6, if_neg c6]
  by_cases c1 : tvB d.2.2.1 = false
  · rw [cnd_t (by rw [c1]; rfl)]
    exact hrest true (decide_eq_true (show rateBad _ _ from .inl c1)).symm
  · rw [cnd_f (by rw [← Bool.not_eq_true, bnot_t]; exact c1)]
    cases hb : d.2.2.2.1 with
    | false =>
      rw [cnd_f rfl]
      rw [hb] at hrest
      refine hrest false (decide_eq_false ?_).symm
      rintro (h | h)
      · exact c1 h
      · cases h.1
    | true =>
      rw [cnd_t rfl]
      rw [hb] at hrest
      refine hrest _ ?_
      cases hc : cdB d.2.2.1 with
      | false => exact (decide_eq_true (show rateBad _ _ from .inr ⟨rfl, hc⟩)).symm
      | true =>
        refine (decide_eq_false ?_).symm
        rintro (h | h)
        · exact c1 h
        · rw [hc] at h; cases h.2

/-- the events' numbers with their places -/
def mapE : Nat → List Ev → List (Int × Int)
  | _, [] => []
  | i, x :: l => (x.1, (i : Int)) :: mapE (i + 1) l
def findE : Nat → List Ev → Int → Int
  | _, [], _ => -1
  | i, x :: l, k => if x.1 = k then (i : Int) else findE (i + 1) l k
def hasE (l : List Ev) (k : Int) : Prop := ∃ x ∈ l, x.1 = k
instance (l : List Ev) (k : Int) : Decidable (hasE l k) := by unfold hasE; infer_instance
theorem mapE_app : ∀ (a b : List Ev) (i : Nat), mapE i (a ++ b) = mapE i a ++ mapE (i + a.length) b
  | [], b, i => by simp [mapE]
  | x :: a, b, i => by
    simp only [List.cons_append, mapE, mapE_app a b (i + 1), List.length_cons]
    congr 3; omega
theorem mhas_mapE : ∀ (l : List Ev) (i : Nat) (k : Int), mhas ieq (mapE i l) k = decide (hasE l k)
  | [], i, k => by simp [mapE, mhas, hasE]
  | x :: l, i, k => by
    simp only [mapE, mhas, mhas_mapE l (i + 1) k]
    by_cases h : k = x.1
    · rw [ieq_t h, decide_eq_true (show hasE (x :: l) k from ⟨x, List.mem_cons_self, h.symm⟩)]; rfl
    · rw [ieq_f h]
      show (false || _) = _
      rw [Bool.false_or]
      exact decide_eq_decide.2 ⟨fun ⟨y, h1, h2⟩ => ⟨y, List.mem_cons_of_mem _ h1, h2⟩, fun ⟨y, h1, h2⟩ => by
        rcases List.mem_cons.1 h1 with rfl | h1
        · exact absurd h2.symm h
        · exact ⟨y, h1, h2⟩⟩
theorem mput_new {k v : Int} : ∀ (m : List (Int × Int)), mhas ieq m k = false → mput ieq m k v = m ++ [(k, v)]
  | [], _ => rfl
  | x :: m, h => by
    simp only [mhas, bor, Bool.or_eq_false_iff] at h
    simp only [mput, h.1, mput_new m h.2]
    rfl
theorem mget_mapE : ∀ (l : List Ev) (i : Nat) (k : Int), hasE l k → mget ieq 0 (mapE i l) k = findE i l k
  | [], i, k, h => by obtain ⟨x, h, _⟩ := h; cases h
  | x :: l, i, k, h => by
    simp only [mapE, mget, findE]
    by_cases hc : x.1 = k
    · rw [ieq_t hc.symm, if_pos hc]; rfl
    · rw [ieq_f (fun e => hc e.symm), if_neg hc]
      obtain ⟨y, h1, h2⟩ := h
      rcases List.mem_cons.1 h1 with rfl | h1
      · exact absurd h2 hc
      · exact mget_mapE l (i + 1) k ⟨y, h1, h2⟩
theorem findE_no : ∀ (l : List Ev) (i : Nat) (k : Int), ¬ hasE l k → findE i l k = -1
  | [], i, k, _ => rfl
  | x :: l, i, k, h => by
    simp only [findE]
    rw [if_neg fun e => h ⟨x, List.mem_cons_self, e⟩]
    exact findE_no l (i + 1) k fun ⟨y, h1, h2⟩ => h ⟨y, List.mem_cons_of_mem _ h1, h2⟩
theorem findE_yes : ∀ (l : List Ev) (i : Nat) (k : Int), hasE l k → ∃ j, ∃ h : j < l.length, findE i l k = ((i + j : Nat) : Int) ∧ l[j].1 = k ∧ ¬ hasE (l.take j) k
  | [], i, k, h => by obtain ⟨x, h, _⟩ := h; cases h
  | x :: l, i, k, h => by
    simp only [findE]
    by_cases hc : x.1 = k
    · exact ⟨0, by simp, by rw [if_pos hc]; rfl, hc, fun ⟨y, h1, _⟩ => by cases h1⟩
    · obtain ⟨y, h1, h2⟩ := h
      rcases List.mem_cons.1 h1 with rfl | h1
      · exact absurd h2 hc
      · obtain ⟨j, hj, e1, e2, e3⟩ := findE_yes l (i + 1) k ⟨y, h1, h2⟩
        refine ⟨j + 1, by simpa using hj, ?_, by simpa using e2, ?_⟩
        · rw [if_neg hc, e1]; congr 1; omega
        · rintro ⟨z, h3, h4⟩
          rw [List.take_succ_cons] at h3
          rcases List.mem_cons.1 h3 with rfl | h3
          · exact hc h4
          · exact e3 ⟨z, h3, h4⟩
/-- the element at place i is found there just if none ahead has its number -/
theorem findE_at {l : List Ev} {i : Nat} (hi : i < l.length) : findE 0 l l[i].1 = (i : Int) ↔ ¬ hasE (l.take i) l[i].1 := by
  obtain ⟨j, hj, e1, e2, e3⟩ := findE_yes l 0 l[i].1 ⟨l[i], List.getElem_mem hi, rfl⟩
  rw [e1]
  constructor
  · intro h
    have : j = i := by omega
    subst this
    exact e3
  · intro h
    have h1 : ¬ j < i := fun hji => h ⟨l[j], by rw [List.mem_take_iff_getElem]; exact ⟨j, by omega, rfl⟩, e2⟩
    have h2 : ¬ i < j := fun hij => e3 ⟨l[i], by rw [List.mem_take_iff_getElem]; exact ⟨i, by omega, rfl⟩, rfl⟩
    congr 1; omega
theorem find_eq {d : Doc} (h : d.2.2.2.2.2.2.1.length ≤ 4000000) (k : Int) : r12_Find fuelH (d, k) = some (findE 0 d.2.2.2.2.2.2.1 k) := by
  unfold r12_Find
  rw [jn_e]
  simp only
  generalize d.2.2.2.2.2.2.1 = l at h ⊢
  have hit : ∀ (r : List Ev) (i : Nat), itI (fun i (x : Ev) (_ : Unit) => if x.1 = k then (.inl (some (i : Int)) : Option Int ⊕ Unit) else .inr ()) (fun _ => some (-1 : Int)) i r () = some (findE i r k) := by
    intro r
    induction r with
    | nil => intro i; rfl
    | cons x r ih =>
      intro i
      simp only [itI, findE]
      by_cases hc : x.1 = k
      · rw [if_pos hc, if_pos hc]
      · rw [if_neg hc, if_neg hc]; exact ih (i + 1)
  refine Eq.trans (lst_it (l := l) (fun (_ : Unit) (p : Nat) => (p : Int)) (fun i (x : Ev) (_ : Unit) => if x.1 = k then .inl (some (i : Int)) else .inr ()) (fun _ => some (-1 : Int)) (fun _ _ => True) (fun self a i hi _ => ?_) (fun self a _ => ?_) fuelH 0 () (Nat.zero_le _) (by have := fuelH_eq; omega) trivial) (hit l 0)
  · rw [cnd_t (ilt_t (by simp only [len]; omega)), grd_t (inb_t (by simp only [len]; omega)), lget_i hi, w64_succ hi (by omega)]
    by_cases hc : l[i].1 = k
    · rw [if_pos hc, cnd_t (ieq_t hc)]; rfl
    · rw [if_neg hc, cnd_f (ieq_f hc)]
      exact ⟨rfl, trivial⟩
  · rw [cnd_f (ilt_f (by simp only [len]; omega))]

def lessE (a b : Ev) : Prop := a.2.1.1 < b.2.1.1 ∨ (a.2.1.1 = b.2.1.1 ∧ a.1 < b.1)
instance (a b : Ev) : Decidable (lessE a b) := by unfold lessE; infer_instance
theorem r11_less (N : Nat) (a b : Ev) : r11_Less N (a, b) = some (decide (lessE a b)) := by
  unfold r11_Less lessE
  simp only
  rw [cnd_ilt, cnd_ieq]
  by_cases h1 : a.2.1.1 < b.2.1.1
  · rw [if_pos h1]; simp [h1]
  · rw [if_neg h1]
    by_cases h2 : a.2.1.1 = b.2.1.1
    · rw [if_pos h2]; simp [h2, ilt]
    · rw [if_neg h2]; simp [h1, h2]
theorem cmp_eq (N : Nat) (a b : Int) : cmp_Compare_int64 N (a, b) = some (if a < b then -1 else if b < a then 1 else 0) := by
  unfold cmp_Compare_int64
  have h : ∀ x : Int, cmp_isNaN_int64 N x = some false := fun x => by
    show some (ine x x) = _
    rw [ine_f rfl]
  simp only
  rw [h, h, bnd_some', bnd_some', cnd_f rfl, cnd_f rfl, cnd_ilt, cnd_ilt]
  by_cases h1 : a < b
  · rw [if_pos h1, if_pos h1]
  · rw [if_neg h1, if_neg h1]
    by_cases h2 : b < a
    · rw [if_pos h2, if_pos h2]
    · rw [if_neg h2, if_neg h2]
theorem or_eq (a b : Int) : cmp_Or_int fuelH [a, b] = some (if a ≠ 0 then a else b) := by
  have h : cmp_Or_int fuelH [a, b] = cnd (ine a 0) (some a) (cnd (ine b 0) (some b) (some 0)) := by kernel_rfl
  rw [h, cnd_ine, cnd_ine]
  by_cases h1 : a ≠ 0
  · rw [if_pos h1, if_pos h1]
  · rw [if_neg h1, if_neg h1]
    by_cases h2 : b ≠ 0
    · rw [if_pos h2]
    · rw [if_neg h2]; congr 1; omega
theorem event_less (a b : Ev) : event_Less fuelH (a, b) = some (decide (lessE a b)) := by
  unfold event_Less
  simp only
  rw [cmp_eq, bnd_some', cmp_eq, bnd_some', or_eq, bnd_some']
  congr 1
  by_cases h1 : a.2.1.1 < b.2.1.1
  · rw [if_pos h1, if_pos (by decide), @decide_eq_true (lessE a b) _ (.inl h1)]; rfl
  · rw [if_neg h1]
    by_cases h2 : b.2.1.1 < a.2.1.1
    · rw [if_pos h2, if_pos (by decide), @decide_eq_false (lessE a b) _ (by unfold lessE; omega)]; rfl
    · rw [if_neg h2, if_neg (by decide)]
      by_cases h3 : a.1 < b.1
      · rw [if_pos h3, @decide_eq_true (lessE a b) _ (by unfold lessE; omega)]; rfl
      · rw [if_neg h3, @decide_eq_false (lessE a b) _ (by unfold lessE; omega)]
        split <;> rfl
end
end Go.Mo
end

section
/-
  Plain facts: the events of a document, checked one after the other; the length of an event.
-/
namespace Go.Mo
open Go Go.W Go.Lib
set_option maxRecDepth 100000
noncomputable section

def errL {α : Type} (R : List α → α → Int) : List α → List α → Int
  | _, [] => 0
  | pre, x :: l => if R pre x ≠ 0 then R pre x else errL R (pre ++ [x]) l
theorem errL_zero {α : Type} {R : List α → α → Int} : ∀ (l pre : List α), errL R pre l = 0 → ∀ j (h : j < l.length), R (pre ++ l.take j) l[j] = 0
  | [], _, _, j, h => by simp at h
  | x :: l, pre, h0, j, h => by
    simp only [errL] at h0
    split at h0
    · rename_i hc; exact absurd h0 hc
    · rename_i hc
      cases j with
      | zero => simpa using hc
      | succ j =>
        have := errL_zero l (pre ++ [x]) h0 j (by simpa using h)
        simpa using this
theorem loop_err {V σ α ρ : Type} {F : (V → Option ρ) → V → Option ρ} {l : List α} (st : σ → Nat → V) (g : List α → σ) (R : List α → α → Int) (w : Int → ρ) (K : Option ρ)
    (hstep : ∀ self i (h : i < l.length), F self (st (g (l.take i)) i) = if R (l.take i) l[i] ≠ 0 then some (w (R (l.take i) l[i])) else self (st (g (l.take (i + 1))) (i + 1)))
    (hend : (∀ j (h : j < l.length), R (l.take j) l[j] = 0) → ∀ self, F self (st (g l) l.length) = K) :
    ∀ (fuel i : Nat), i ≤ l.length → l.length - i < fuel → (∀ j (h : j < l.length), j < i → R (l.take j) l[j] = 0) →
    fixN F fuel (st (g (l.take i)) i) = if errL R (l.take i) (l.drop i) ≠ 0 then some (w (errL R (l.take i) (l.drop i))) else K
  | 0, i, _, h, _ => by omega
  | fuel + 1, i, hi, h, hp => by
    rw [fixN_s]
    by_cases hl : i < l.length
    · rw [hstep _ i hl, List.drop_eq_getElem_cons hl, errL]
      by_cases hc : R (l.take i) l[i] ≠ 0
      · rw [if_pos hc, if_pos hc, if_pos hc]
      · rw [if_neg hc, if_neg hc]
        have ih := loop_err st g R w K hstep hend fuel (i + 1) (by omega) (by omega) (fun j hj hji => by
          by_cases e : j = i
          · subst e; simpa using hc
          · exact hp j hj (by omega))
        rw [ih, List.take_succ_eq_append_getElem hl]
    · obtain rfl : i = l.length := by omega
      rw [List.take_length, hend (fun j hj => hp j hj hj), List.drop_length]
      rfl

def sumT : List Row → Nat
  | [] => 0
  | r :: l => lenT r + sumT l
def evLen (x : Ev) : Int := ((x.2.2.2.2.2.length - 1 + sumT x.2.2.2.2.2 : Nat) : Int)
theorem sumT_take : ∀ (l : List Row) (i : Nat) (h : i < l.length), sumT (l.take (i + 1)) = sumT (l.take i) + lenT l[i]
  | x :: l, 0, _ => by simp [sumT]
  | x :: l, i + 1, h => by
    have := sumT_take l i (by simpa using h)
    simp only [List.take_succ_cons, sumT, this, List.getElem_cons_succ]
    omega
theorem lenT_tot {l : Row} (h : okR l) : lenT l ≤ 64000000 := by
  have h1 := lenT_le l fun x hx => (h.2.1 x hx).2
  have h2 := h.1
  omega
theorem sumT_le : ∀ (l : List Row), (∀ r ∈ l, okR r) → sumT l ≤ 64000000 * l.length
  | [], _ => Nat.le_refl _
  | r :: l, h => by
    have h1 := lenT_tot (h r List.mem_cons_self)
    have h2 := sumT_le l fun q hq => h q (List.mem_cons_of_mem _ hq)
    simp only [sumT, List.length_cons]
    omega
theorem sumT_take_le (l : List Row) (h : ∀ r ∈ l, okR r) (i : Nat) : sumT (l.take i) ≤ 64000000 * l.length := by
  have h1 := sumT_le (l.take i) fun r hr => h r (List.mem_of_mem_take hr)
  have : (l.take i).length ≤ l.length := by rw [List.length_take]; omega
  omega
theorem event_len_eq {x : Ev} (h : ∀ l ∈ x.2.2.2.2.2, okR l) (hl : x.2.2.2.2.2.length ≤ 1000) : event_Len fuelH x = some (evLen x) := by
  unfold event_Len evLen
  rw [jn_e, bnd_s (event_lens_eq h (by omega))]
  generalize x.2.2.2.2.2 = l at h hl ⊢
  have hll : (lens l).length = l.length := by unfold lens; rw [List.length_map]
  have e0 : imax (w64 (isub (len l) 1)) 0 = ((l.length - 1 : Nat) : Int) := by
    simp only [isub, imax, len]
    rw [w64_id (by omega)]
    omega
  rw [e0]
  refine loop_inv (n := l.length) (fun (a : Nat) (i : Nat) => ((a : Int), (i : Int))) (fun i a => a = l.length - 1 + sumT (l.take i)) _ (fun self a i hi hI => ?_) (fun self a hI => ?_) fuelH 0 (l.length - 1) (Nat.zero_le _) (by have := fuelH_eq; omega) (by simp [sumT])
  · refine ⟨a + lenT l[i], ?_, ?_⟩
    · have ht := sumT_take_le l h i
      have hb := lenT_tot (h _ (List.getElem_mem hi))
      have hin : inb (i : Int) (len (lens l)) = true := inb_t (by simp only [len, hll]; omega)
      have hg : lget (lens l) (toN (i : Int)) (0 : Int) = (lenT l[i] : Int) := by
        rw [lget_i (by omega)]
        simp [lens]
      simp only
      rw [cnd_t (ilt_t (by simp only [len, hll]; omega)), grd_t hin, hg, cnd_f (ilt_f (by omega)), w64_succ hi (by omega)]
      have e : w64 (iadd (a : Int) (lenT l[i] : Int)) = ((a + lenT l[i] : Nat) : Int) := by
        unfold iadd; rw [w64_id (by omega)]; omega
      rw [e]
    · rw [sumT_take l i hi, hI]; omega
  · simp only
    rw [cnd_f (ilt_f (by simp only [len, hll]; omega)), hI, List.take_length]
theorem r11_len_eq {x : Ev} (h : ∀ l ∈ x.2.2.2.2.2, okR l) (hl : x.2.2.2.2.2.length ≤ 1000) : r11_Len fuelH x = some (evLen x) := by
  unfold r11_Len evLen
  rw [jn_e]
  generalize x.2.2.2.2.2 = l at h hl ⊢
  refine loop_inv (n := l.length) (fun (a : Nat) (i : Nat) => ((a : Int), (i : Int))) (fun i a => a = i - 1 + sumT (l.take i)) _ (fun self a i hi hI => ?_) (fun self a hI => ?_) fuelH 0 0 (Nat.zero_le _) (by have := fuelH_eq; omega) (by simp [sumT])
  · refine ⟨i + sumT (l.take i) + lenT l[i], ?_, ?_⟩
    · have ht := sumT_take_le l h i
      have hb := lenT_tot (h _ (List.getElem_mem hi))
      simp only
      rw [cnd_t (ilt_t (by simp only [len]; omega)), grd_t (inb_t (by simp only [len]; omega)), lget_i hi, r09_len (h _ (List.getElem_mem hi)), bnd_some', cnd_f (ilt_f (by omega)), w64_succ hi (by omega)]
      by_cases h0 : i = 0
      · subst h0
        rw [cnd_f (ilt_f (by omega))]
        have e : w64 (iadd (a : Int) (lenT l[0] : Int)) = ((0 + sumT (l.take 0) + lenT l[0] : Nat) : Int) := by
          unfold iadd; rw [w64_id (by omega)]; omega
        rw [e]
      · rw [cnd_t (ilt_t (by omega))]
        have e1 : w64 (iadd (a : Int) 1) = ((a + 1 : Nat) : Int) := by unfold iadd; rw [w64_id (by omega)]; omega
        have e : w64 (iadd ((a + 1 : Nat) : Int) (lenT l[i] : Int)) = ((i + sumT (l.take i) + lenT l[i] : Nat) : Int) := by
          unfold iadd; rw [w64_id (by omega)]; omega
        rw [e1, e]
    · rw [sumT_take l i hi]; omega
  · simp only
    rw [cnd_f (ilt_f (by simp only [len]; omega)), hI, List.take_length]

theorem rowsE_zero : ∀ (l : List Row) (k : Int), rowsE l k = 0 → (∀ r ∈ l, rowE r = 0) ∧ k = 0
  | [], k, h => ⟨fun r hr => (by cases hr), h⟩
  | r :: l, k, h => by
    simp only [rowsE] at h
    split at h
    · rename_i hc; exact absurd h hc
    · rename_i hc
      obtain ⟨h1, h2⟩ := rowsE_zero l k h
      refine ⟨fun q hq => ?_, h2⟩
      rcases List.mem_cons.1 hq with rfl | hq
      · simpa using hc
      · exact h1 q hq
theorem ev_ok {x : Ev} {rs : List Reg} (h : evChk x rs = 0) : 1 ≤ x.1 ∧ x.1 ≤ 1099511627776 ∧ (0 ≤ x.2.1.1 ∧ x.2.1.1 < x.2.1.2 ∧ x.2.1.2 ≤ 5184000) ∧ 0 < x.2.2.2.2.2.length ∧ x.2.2.2.2.2.length ≤ 4 ∧ (∀ r ∈ x.2.2.2.2.2, rowE r = 0) ∧ ∃ r, findR rs x.2.2.1 = some r ∧ (placeS r (lens x.2.2.2.2.2)).2 = 0 := by
  unfold evChk at h
  split at h
  · cases h
  split at h
  · cases h
  split at h
  · cases h
  rename_i c1 c2 c3
  split at h
  · cases h
  rename_i r hr
  split at h
  · cases h
  split at h
  · cases h
  split at h
  · cases h
  split at h
  · cases h
  rename_i c6 c7
  obtain ⟨h1, h2⟩ := rowsE_zero _ _ h
  exact ⟨by omega, by omega, by omega, by omega, by omega, h1, r, hr, h2⟩

def ordB (p : Option Ev) (x : Ev) : Bool := match p with
  | some q => decide (lessE q x)
  | none => true
def evRnd (rs : List Reg) (last : Int) (pre : List Ev) (x : Ev) : Int :=
  if evChk x rs ≠ 0 then evChk x rs else if last < x.1 then 2 else if ordB pre.getLast? x = false then 8 else if hasE pre x.1 then 7 else 0
def evsChk (d : Doc) : Int := errL (evRnd d.2.2.2.2.2.1 d.2.2.2.2.1) [] d.2.2.2.2.2.2.1
theorem evRnd_ok {rs : List Reg} {last : Int} {pre : List Ev} {x : Ev} (h : evRnd rs last pre x = 0) : evChk x rs = 0 ∧ x.1 ≤ last ∧ ordB pre.getLast? x = true ∧ ¬ hasE pre x.1 := by
  unfold evRnd at h
  split at h
  · rename_i hc; exact absurd h hc
  rename_i c1
  split at h
  · cases h
  rename_i c2
  split at h
  · cases h
  rename_i c3
  split at h
  · cases h
  rename_i c4
  exact ⟨by simpa using c1, by omega, by simpa using c3, c4⟩
theorem last_take {α : Type} {l : List α} {i : Nat} (h : i < l.length) : (l.take (i + 1)).getLast? = some l[i] := by
  rw [List.take_succ_eq_append_getElem h, List.getLast?_concat]
end
end Go.Mo
end

section
/-
  Plain facts: the comments of a document, on both sides.
-/
namespace Go.Mo
open Go Go.W Go.Lib
set_option maxRecDepth 100000
noncomputable section

theorem jn_u {α : Type} {K : Unit → Option α} {X : Option α} (h : K () = X) (T : (Unit → Option α) → Option α) : jn K T = T fun _ => X := by
  rw [jn_e, show K = fun _ => X from funext fun _ => h]
def cOrd (p : Option Cmt) (c : Cmt) : Bool := match p with
  | some q => decide (q.1 < c.1)
  | none => true
def evZ : Ev := (0, (0, 0), [], 0, [], [])
def evAt (l : List Ev) (k : Int) : Ev := lget l (toN (findE 0 l k)) evZ
def ancE (d : Doc) (c : Cmt) : Int :=
  if c.2.1 < 1 then 2 else if d.2.2.2.2.1 < c.2.1 then 2 else
  if c.2.2.2.2.2.2.2 = true then (if c.2.2.1 ≠ 0 then 2 else if c.2.2.2.1 ≠ 0 then 2 else 0) else
  if ¬ hasE d.2.2.2.2.2.2.1 c.2.1 then 6 else if c.2.2.1 < 0 then 2 else if c.2.2.2.1 ≤ c.2.2.1 then 2 else
  if evLen (evAt d.2.2.2.2.2.2.1 c.2.1) < c.2.2.2.1 then 2 else 0
def endE (c : Cmt) : Int := if nm c.2.2.2.2.1 = false then 5 else if vld c.2.2.2.2.2.1 = false then 10 else if c.2.2.2.2.2.1 = [] then 4 else if 400 < c.2.2.2.2.2.1.length then 9 else 0
def tailE (d : Doc) (c : Cmt) : Int := if ancE d c ≠ 0 then ancE d c else endE c
def cmtRnd (d : Doc) (pre : List Cmt) (c : Cmt) : Int :=
  if c.1 < 1 then 2 else if d.2.2.2.2.1 < c.1 then 2 else if cOrd pre.getLast? c = false then 8 else if hasE d.2.2.2.2.2.2.1 c.1 then 7 else tailE d c
def cmtsChk (d : Doc) : Int := if 64 < d.2.2.2.2.2.2.2.length then 9 else errL (cmtRnd d) [] d.2.2.2.2.2.2.2
/-- the events are good, the texts of comments not too long -/
def goodD (d : Doc) : Prop := (∀ x ∈ d.2.2.2.2.2.2.1, (∀ r ∈ x.2.2.2.2.2, okR r) ∧ x.2.2.2.2.2.length ≤ 4) ∧ d.2.2.2.2.2.2.1.length ≤ 400 ∧ ∀ c ∈ d.2.2.2.2.2.2.2, c.2.2.2.2.2.1.length ≤ 4000000
theorem evAt_len {d : Doc} (hg : goodD d) {k : Int} (h : hasE d.2.2.2.2.2.2.1 k) : inb (findE 0 d.2.2.2.2.2.2.1 k) (len d.2.2.2.2.2.2.1) = true ∧ 0 ≤ findE 0 d.2.2.2.2.2.2.1 k ∧ event_Len fuelH (evAt d.2.2.2.2.2.2.1 k) = some (evLen (evAt d.2.2.2.2.2.2.1 k)) ∧ r11_Len fuelH (evAt d.2.2.2.2.2.2.1 k) = some (evLen (evAt d.2.2.2.2.2.2.1 k)) := by
  obtain ⟨j, hj, e1, e2, e3⟩ := findE_yes _ 0 k h
  have he : evAt d.2.2.2.2.2.2.1 k = d.2.2.2.2.2.2.1[j] := by
    unfold evAt
    rw [e1, Nat.zero_add, lget_i hj]
  obtain ⟨h1, h2⟩ := hg.1 _ (List.getElem_mem hj)
  rw [he]
  refine ⟨by rw [e1]; exact inb_t (by simp only [len]; omega), by omega, event_len_eq h1 (by omega), r11_len_eq h1 (by omega)⟩
theorem anchored_eq {d : Doc} (hg : goodD d) (c : Cmt) : document_anchored fuelH (d, c, mapE 0 d.2.2.2.2.2.2.1) = some (ancE d c, mapE 0 d.2.2.2.2.2.2.1) := by
  unfold document_anchored ancE
  simp only
  rw [cnd_ilt]
  by_cases c1 : c.2.1 < 1
  · rw [if_pos c1, if_pos c1]
  rw [if_neg c1, if_neg c1, cnd_ilt]
  by_cases c2 : d.2.2.2.2.1 < c.2.1
  · rw [if_pos c2, if_pos c2]
  rw [if_neg c2, if_neg c2]
  by_cases c3 : c.2.2.2.2.2.2.2 = true
  · rw [cnd_t c3, if_pos c3, cnd_ine, cnd_ine]
    by_cases c4 : c.2.2.1 ≠ 0
    · rw [if_pos c4, if_pos c4]
    rw [if_neg c4, if_neg c4]
    by_cases c5 : c.2.2.2.1 ≠ 0
    · rw [if_pos c5, if_pos c5]
    · rw [if_neg c5, if_neg c5]
  · rw [cnd_f (by simpa using c3), if_neg c3, mhas_mapE, cnd_bnot]
    by_cases c4 : hasE d.2.2.2.2.2.2.1 c.2.1
    · rw [if_pos c4, if_neg (not_not_intro c4), cnd_ilt]
      by_cases c5 : c.2.2.1 < 0
      · rw [if_pos c5, if_pos c5]
      rw [if_neg c5, if_neg c5, cnd_ile]
      by_cases c6 : c.2.2.2.1 ≤ c.2.2.1
      · rw [if_pos c6, if_pos c6]
      obtain ⟨q1, q2, q3, q4⟩ := evAt_len hg c4
      have hm : mget ieq (0 : Int) (mapE 0 d.2.2.2.2.2.2.1) c.2.1 = findE 0 d.2.2.2.2.2.2.1 c.2.1 := mget_mapE _ _ _ c4
      rw [if_neg c6, if_neg c6, hm, grd_t q1]
      refine Eq.trans (bnd_s (show event_Len fuelH (lget d.2.2.2.2.2.2.1 (toN (findE 0 d.2.2.2.2.2.2.1 c.2.1)) evZ) = _ from q3)) ?_
      rw [cnd_ilt]
      by_cases c7 : evLen (evAt d.2.2.2.2.2.2.1 c.2.1) < c.2.2.2.1
      · rw [if_pos c7, if_pos c7]
      · rw [if_neg c7, if_neg c7]
    · rw [if_neg c4, if_pos c4]
theorem comments_eq {d : Doc} (hg : goodD d) : document_comments fuelH (d, mapE 0 d.2.2.2.2.2.2.1) = some (cmtsChk d, mapE 0 d.2.2.2.2.2.2.1) := by
  unfold document_comments cmtsChk
  simp only
  by_cases h : 64 < d.2.2.2.2.2.2.2.length
  · rw [cnd_t (ilt_t (by simp only [len]; omega)), if_pos h]
  rw [cnd_f (ilt_f (by simp only [len]; omega)), if_neg h, jn_e]
  have hanc := fun c => anchored_eq hg c
  have hvl := hg.2.2
  generalize hm : mapE 0 d.2.2.2.2.2.2.1 = m at hanc ⊢
  have hmh : ∀ k, mhas ieq m k = decide (hasE d.2.2.2.2.2.2.1 k) := fun k => by rw [← hm]; exact mhas_mapE _ _ _
  generalize hl : d.2.2.2.2.2.2.2 = l at h hvl ⊢
  refine Eq.trans (loop_err (l := l) (fun (_ : Unit) (p : Nat) => ((p : Int), m)) (fun _ => ()) (cmtRnd d) (fun e => (e, m)) (some (0, m)) (fun self i hi => ?_) (fun _ self => ?_) fuelH 0 (Nat.zero_le _) (by have := fuelH_eq; omega) (fun j _ hj => by omega)) ?_
  · have hin : inb (i : Int) (len l) = true := inb_t (by simp only [len]; omega)
    have hv := hvl _ (List.getElem_mem hi)
    simp only
    rw [cnd_t (ilt_t (by simp only [len]; omega)), grd_t hin, lget_i hi]
    refine Eq.trans (jn_u (X := if tailE d l[i] ≠ 0 then some (tailE d l[i], m) else self (((i + 1 : Nat) : Int), m)) ?_ _) ?_
    · skip
      rw [hanc, bnd_some']
      unfold tailE
      by_cases c1 : ancE d l[i] ≠ 0
      · rw [if_pos c1, if_pos c1, cnd_t (ine_t c1)]
      · rw [if_neg c1, cnd_f (ine_f (by simpa using c1)), lines_name, bnd_some']
        unfold endE
        by_cases c2 : nm l[i].2.2.2.2.1 = false
        · rw [cnd_t (by rw [c2]; rfl), if_pos c2, if_pos (by decide)]
        rw [cnd_f (by rw [← Bool.not_eq_true, bnot_t]; exact c2), if_neg c2, ch_valid _ hv, bnd_some']
        by_cases c3 : vld l[i].2.2.2.2.2.1 = false
        · rw [cnd_t (by rw [c3]; rfl), if_pos c3, if_pos (by decide)]
        rw [cnd_f (by rw [← Bool.not_eq_true, bnot_t]; exact c3), if_neg c3]
        by_cases c4 : l[i].2.2.2.2.2.1 = []
        · rw [cnd_t (by rw [seq_t]; exact c4), if_pos c4, if_pos (by decide)]
        rw [cnd_f (by rw [← Bool.not_eq_true, seq_t]; exact c4), if_neg c4]
        by_cases c5 : 400 < l[i].2.2.2.2.2.1.length
        · rw [cnd_t (ilt_t (by simp only [len]; omega)), if_pos c5, if_pos (by decide)]
        · rw [cnd_f (ilt_f (by simp only [len]; omega)), if_neg c5, if_neg (by decide), w64_succ hi (by omega)]
    · simp only
      rw [cnd_ilt, cnd_ilt]
      unfold cmtRnd
      by_cases c1 : l[i].1 < 1
      · rw [if_pos c1, if_pos c1, if_pos (by decide)]
      rw [if_neg c1, if_neg c1]
      by_cases c2 : d.2.2.2.2.1 < l[i].1
      · rw [if_pos c2, if_pos c2, if_pos (by decide)]
      rw [if_neg c2, if_neg c2, hmh]
      cases i with
      | zero =>
        rw [cnd_f (by rfl)]
        have e0 : cOrd (l.take 0).getLast? l[0] = true := rfl
        rw [e0, if_neg (show ¬ true = false by decide), cnd_dec]
        by_cases c3 : hasE d.2.2.2.2.2.2.1 l[0].1
        · rw [if_pos c3, if_pos c3, if_pos (by decide)]
        · rw [if_neg c3, if_neg c3]
      | succ i =>
        rw [cnd_t (ilt_t (by omega)), w64_back (by omega), grd_t (inb_t (by simp only [len]; omega)), lget_i (show i < l.length by omega), cnd_ile, cnd_dec]
        have e0 : cOrd (l.take (i + 1)).getLast? l[i + 1] = decide (l[i].1 < l[i + 1].1) := by rw [last_take (show i < l.length by omega)]; rfl
        rw [e0]
        by_cases c4 : l[i + 1].1 ≤ l[i].1
        · rw [if_pos c4, decide_eq_false (by omega), if_pos rfl, if_pos (by decide)]
        rw [if_neg c4, decide_eq_true (by omega), if_neg (show ¬ true = false by decide)]
        by_cases c3 : hasE d.2.2.2.2.2.2.1 l[i + 1].1
        · rw [if_pos c3, if_pos c3, if_pos (by decide)]
        · rw [if_neg c3, if_neg c3]
  · simp only
    rw [cnd_f (ilt_f (by simp only [len]; omega))]
  · rw [List.take_zero, List.drop_zero]
    by_cases hc : errL (cmtRnd d) [] l ≠ 0
    · rw [if_pos hc]
    · rw [if_neg hc]
      have hc : errL (cmtRnd d) [] l = 0 := by simpa using hc
      rw [hc]
theorem comment_eq {d : Doc} (hg : goodD d) (h64 : d.2.2.2.2.2.2.2.length ≤ 64) {i : Nat} (hi : i < d.2.2.2.2.2.2.2.length) : r12_checkComment fuelH (d, (i : Int)) = some (cmtRnd d (d.2.2.2.2.2.2.2.take i) d.2.2.2.2.2.2.2[i]) := by
  unfold r12_checkComment
  simp only
  have hfind := fun k => find_eq (d := d) (by have := hg.2.1; omega) k
  have hv := hg.2.2 _ (List.getElem_mem hi)
  have hlen := fun k => evAt_len (k := k) hg
  rw [grd_t (inb_t (by simp only [len]; omega)), lget_i hi]
  generalize hl : d.2.2.2.2.2.2.2 = l at hi hv h64 ⊢
  rw [cnd_ilt, cnd_ilt]
  unfold cmtRnd
  by_cases c1 : l[i].1 < 1
  · rw [if_pos c1, if_pos c1]
  rw [if_neg c1, if_neg c1]
  by_cases c2 : d.2.2.2.2.1 < l[i].1
  · rw [if_pos c2, if_pos c2]
  rw [if_neg c2, if_neg c2]
  refine Eq.trans (jn_u (X := some (if hasE d.2.2.2.2.2.2.1 l[i].1 then 7 else tailE d l[i])) ?_ _) ?_
  · skip
    rw [hfind, bnd_some', cnd_ile]
    by_cases c3 : hasE d.2.2.2.2.2.2.1 l[i].1
    · rw [if_pos (hlen _ c3).2.1, if_pos c3]
    rw [if_neg (by rw [findE_no _ _ _ c3]; decide), if_neg c3]
    unfold tailE ancE
    rw [cnd_ilt, cnd_ilt]
    by_cases a1 : l[i].2.1 < 1
    · rw [if_pos a1, if_pos a1, if_pos (by decide)]
    rw [if_neg a1, if_neg a1]
    by_cases a2 : d.2.2.2.2.1 < l[i].2.1
    · rw [if_pos a2, if_pos a2, if_pos (by decide)]
    rw [if_neg a2, if_neg a2]
    refine Eq.trans (jn_u (X := some (endE l[i])) ?_ _) ?_
    · skip
      rw [r07_name, bnd_some']
      unfold endE
      by_cases c2 : nm l[i].2.2.2.2.1 = false
      · rw [cnd_t (by rw [c2]; rfl), if_pos c2]
      rw [cnd_f (by rw [← Bool.not_eq_true, bnot_t]; exact c2), if_neg c2, r08_valid _ hv, bnd_some']
      by_cases c3 : vld l[i].2.2.2.2.2.1 = false
      · rw [cnd_t (by rw [c3]; rfl), if_pos c3]
      rw [cnd_f (by rw [← Bool.not_eq_true, bnot_t]; exact c3), if_neg c3]
      by_cases c4 : l[i].2.2.2.2.2.1 = []
      · rw [cnd_t (by rw [seq_t]; exact c4), if_pos c4]
      rw [cnd_f (by rw [← Bool.not_eq_true, seq_t]; exact c4), if_neg c4]
      by_cases c5 : 400 < l[i].2.2.2.2.2.1.length
      · rw [cnd_t (ilt_t (by simp only [len]; omega)), if_pos c5]
      · rw [cnd_f (ilt_f (by simp only [len]; omega)), if_neg c5]
    · simp only
      by_cases c3 : l[i].2.2.2.2.2.2.2 = true
      · rw [cnd_t c3, if_pos c3, cnd_ine, cnd_ine]
        by_cases c4 : l[i].2.2.1 ≠ 0
        · rw [if_pos c4, if_pos c4, if_pos (by decide)]
        rw [if_neg c4, if_neg c4]
        by_cases c5 : l[i].2.2.2.1 ≠ 0
        · rw [if_pos c5, if_pos c5, if_pos (by decide)]
        · rw [if_neg c5, if_neg c5, if_neg (by decide)]
      · rw [cnd_f (by simpa using c3), if_neg c3, hfind, bnd_some', cnd_ilt]
        by_cases c4 : hasE d.2.2.2.2.2.2.1 l[i].2.1
        · obtain ⟨q1, q2, q3, q4⟩ := hlen _ c4
          rw [if_neg (by omega), if_neg (not_not_intro c4), cnd_ilt]
          by_cases c5 : l[i].2.2.1 < 0
          · rw [if_pos c5, if_pos c5, if_pos (by decide)]
          rw [if_neg c5, if_neg c5, cnd_ile]
          by_cases c6 : l[i].2.2.2.1 ≤ l[i].2.2.1
          · rw [if_pos c6, if_pos c6, if_pos (by decide)]
          rw [if_neg c6, if_neg c6, grd_t q1]
          refine Eq.trans (bnd_s (show r11_Len fuelH (lget d.2.2.2.2.2.2.1 (toN (findE 0 d.2.2.2.2.2.2.1 l[i].2.1)) evZ) = _ from q4)) ?_
          rw [cnd_ilt]
          by_cases c7 : evLen (evAt d.2.2.2.2.2.2.1 l[i].2.1) < l[i].2.2.2.1
          · rw [if_pos c7, if_pos c7, if_pos (by decide)]
          · rw [if_neg c7, if_neg c7, if_neg (by decide)]
        · rw [if_pos (by rw [findE_no _ _ _ c4]; decide), if_pos c4, if_pos (by decide)]
  · simp only
    cases i with
    | zero =>
      rw [cnd_f (by rfl)]
      have e0 : cOrd (l.take 0).getLast? l[0] = true := rfl
      rw [e0, if_neg (show ¬ true = false by decide)]
    | succ i =>
      rw [cnd_t (ilt_t (by omega)), w64_back (by omega), grd_t (inb_t (by simp only [len]; omega)), lget_i (show i < l.length by omega), cnd_ile]
      have e0 : cOrd (l.take (i + 1)).getLast? l[i + 1] = decide (l[i].1 < l[i + 1].1) := by rw [last_take (show i < l.length by omega)]; rfl
      rw [e0]
      by_cases c4 : l[i + 1].1 ≤ l[i].1
      · rw [if_pos c4, decide_eq_false (by omega), if_pos rfl]
      · rw [if_neg c4, decide_eq_true (by omega), if_neg (show ¬ true = false by decide)]
end
end Go.Mo
end

section
/-
  Plain facts: the check of a document is the specified one.
-/
namespace Go.Mo
open Go Go.W Go.Lib
set_option maxRecDepth 100000
noncomputable section

def docChk (d : Doc) : Int :=
  if headChk d ≠ 0 then headChk d else if regsChk d.2.2.2.2.2.1 ≠ 0 then regsChk d.2.2.2.2.2.1 else
  if 400 < d.2.2.2.2.2.2.1.length then 9 else if evsChk d ≠ 0 then evsChk d else cmtsChk d
def smallD (d : Doc) : Prop := d.1.length ≤ 4000000 ∧ d.2.2.2.2.2.1.length ≤ 4000000 ∧ (∀ x ∈ d.2.2.2.2.2.2.1, smallL x.2.2.2.2.2) ∧ ∀ c ∈ d.2.2.2.2.2.2.2, c.2.2.2.2.2.1.length ≤ 4000000
theorem good_of {d : Doc} (hs : smallD d) (hn : d.2.2.2.2.2.2.1.length ≤ 400) (h : ∀ j (h : j < d.2.2.2.2.2.2.1.length), evRnd d.2.2.2.2.2.1 d.2.2.2.2.1 (d.2.2.2.2.2.2.1.take j) d.2.2.2.2.2.2.1[j] = 0) : goodD d := by
  refine ⟨fun x hx => ?_, hn, hs.2.2.2⟩
  obtain ⟨j, hj, rfl⟩ := List.mem_iff_getElem.1 hx
  obtain ⟨h1, _⟩ := evRnd_ok (h j hj)
  obtain ⟨_, _, _, _, h4, h5, _⟩ := ev_ok h1
  exact ⟨fun r hr => rowE_ok (hs.2.2.1 _ hx r hr) (h5 r hr), h4⟩
theorem mput_take {l : List Ev} {i : Nat} (hi : i < l.length) (hn : ¬ hasE (l.take i) l[i].1) : mput ieq (mapE 0 (l.take i)) l[i].1 (i : Int) = mapE 0 (l.take (i + 1)) := by
  rw [mput_new _ (by rw [mhas_mapE, decide_eq_false hn]), List.take_succ_eq_append_getElem hi, mapE_app]
  have : (l.take i).length = i := by rw [List.length_take]; omega
  rw [this, Nat.zero_add]
  rfl
theorem document_check {d : Doc} (hs : smallD d) : document_Check fuelH d = some (docChk d) := by
  unfold document_Check docChk
  rw [bnd_s (header_eq hs.1)]
  by_cases c1 : headChk d ≠ 0
  · rw [cnd_t (ine_t c1), if_pos c1]
  rw [cnd_f (ine_f (by simpa using c1)), if_neg c1, bnd_s (region_list _)]
  by_cases c2 : regsChk d.2.2.2.2.2.1 ≠ 0
  · rw [cnd_t (ine_t c2), if_pos c2]
  rw [cnd_f (ine_f (by simpa using c2)), if_neg c2]
  by_cases c3 : 400 < d.2.2.2.2.2.2.1.length
  · rw [cnd_t (ilt_t (by simp only [len]; omega)), if_pos c3]
  rw [cnd_f (ilt_f (by simp only [len]; omega)), if_neg c3, jn_e]
  have hgood := @good_of d hs (by omega)
  have hcm := @comments_eq d
  unfold evsChk
  have hev := hs.2.2.1
  generalize hl : d.2.2.2.2.2.2.1 = l at c3 hgood hcm hev ⊢
  refine Eq.trans (loop_err (l := l) (fun (a : List (Int × Int)) (p : Nat) => ((p : Int), a)) (fun pre => mapE 0 pre) (evRnd d.2.2.2.2.2.1 d.2.2.2.2.1) (fun e => e) (some (cmtsChk d)) (fun self i hi => ?_) (fun hz self => ?_) fuelH 0 (Nat.zero_le _) (by have := fuelH_eq; omega) (fun j _ hj => by omega)) ?_
  · have hin : inb (i : Int) (len l) = true := inb_t (by simp only [len]; omega)
    have hx := hev _ (List.getElem_mem hi)
    simp only
    rw [cnd_t (ilt_t (by simp only [len]; omega)), grd_t hin, lget_i hi, bnd_s (event_check_eq hx hs.2.1), cnd_ilt, w64_succ hi (by omega)]
    unfold evRnd
    by_cases e1 : evChk l[i] d.2.2.2.2.2.1 ≠ 0
    · rw [if_pos e1, if_pos e1, cnd_t (ine_t e1)]
    rw [if_neg e1, cnd_f (ine_f (by simpa using e1))]
    by_cases e2 : d.2.2.2.2.1 < l[i].1
    · rw [if_pos e2, if_pos e2, if_pos (by decide)]
    rw [if_neg e2, if_neg e2]
    have hput := fun h => mput_take hi h
    cases i with
    | zero =>
      rw [cnd_f (by rfl), mhas_mapE, cnd_dec]
      have e0 : ordB (l.take 0).getLast? l[0] = true := rfl
      rw [e0, if_neg (show ¬ true = false by decide)]
      by_cases e3 : hasE (l.take 0) l[0].1
      · rw [if_pos e3, if_pos e3, if_pos (by decide)]
      · rw [if_neg e3, if_neg e3, hput e3, if_neg (by decide)]
    | succ i =>
      rw [cnd_t (ilt_t (by omega)), w64_back (by omega), grd_t (inb_t (by simp only [len]; omega)), lget_i (show i < l.length by omega), bnd_s (event_less _ _), mhas_mapE, cnd_dec, cnd_bnot]
      have e0 : ordB (l.take (i + 1)).getLast? l[i + 1] = decide (lessE l[i] l[i + 1]) := by rw [last_take (show i < l.length by omega)]; rfl
      rw [e0]
      by_cases e4 : lessE l[i] l[i + 1]
      · rw [if_pos e4, decide_eq_true e4, if_neg (show ¬ true = false by decide)]
        by_cases e3 : hasE (l.take (i + 1)) l[i + 1].1
        · rw [if_pos e3, if_pos e3, if_pos (by decide)]
        · rw [if_neg e3, if_neg e3, hput e3, if_neg (by decide)]
      · rw [if_neg e4, decide_eq_false e4, if_pos rfl, if_pos (by decide)]
  · simp only
    rw [cnd_f (ilt_f (by simp only [len]; omega)), bnd_s (hcm (hgood hz))]
  · rw [List.take_zero, List.drop_zero]
    split <;> rfl
theorem r12_check {d : Doc} (hs : smallD d) : r12_Check fuelH d = some (docChk d) := by
  unfold r12_Check docChk
  rw [bnd_s (checkHead_eq hs.1)]
  by_cases c1 : headChk d ≠ 0
  · rw [cnd_t (ine_t c1), if_pos c1]
  rw [cnd_f (ine_f (by simpa using c1)), if_neg c1, bnd_s (r10_list _)]
  by_cases c2 : regsChk d.2.2.2.2.2.1 ≠ 0
  · rw [cnd_t (ine_t c2), if_pos c2]
  rw [cnd_f (ine_f (by simpa using c2)), if_neg c2]
  by_cases c3 : 400 < d.2.2.2.2.2.2.1.length
  · rw [cnd_t (ilt_t (by simp only [len]; omega)), if_pos c3]
  rw [cnd_f (ilt_f (by simp only [len]; omega)), if_neg c3, jn_e]
  have hgood := @good_of d hs (by omega)
  have hcm := @comment_eq d
  have hfind := fun k => find_eq (d := d) (by omega) k
  unfold evsChk
  have hev := hs.2.2.1
  generalize hl : d.2.2.2.2.2.2.1 = l at c3 hgood hfind hev ⊢
  refine Eq.trans (loop_err (l := l) (fun (_ : Unit) (p : Nat) => (p : Int)) (fun _ => ()) (evRnd d.2.2.2.2.2.1 d.2.2.2.2.1) (fun e => e) (some (cmtsChk d)) (fun self i hi => ?_) (fun hz self => ?_) fuelH 0 (Nat.zero_le _) (by have := fuelH_eq; omega) (fun j _ hj => by omega)) ?_
  · have hin : inb (i : Int) (len l) = true := inb_t (by simp only [len]; omega)
    have hx := hev _ (List.getElem_mem hi)
    have hat := findE_at hi
    rw [cnd_t (ilt_t (by simp only [len]; omega)), grd_t hin, lget_i hi, bnd_s (r11_check_eq hx hs.2.1), cnd_ilt, w64_succ hi (by omega)]
    unfold evRnd
    by_cases e1 : evChk l[i] d.2.2.2.2.2.1 ≠ 0
    · rw [if_pos e1, if_pos e1, cnd_t (ine_t e1)]
    rw [if_neg e1, cnd_f (ine_f (by simpa using e1))]
    by_cases e2 : d.2.2.2.2.1 < l[i].1
    · rw [if_pos e2, if_pos e2, if_pos (by decide)]
    rw [if_neg e2, if_neg e2]
    cases i with
    | zero =>
      rw [cnd_f (by rfl), hfind, bnd_some', cnd_ine]
      have e0 : ordB (l.take 0).getLast? l[0] = true := rfl
      rw [e0, if_neg (show ¬ true = false by decide)]
      by_cases e3 : hasE (l.take 0) l[0].1
      · rw [if_pos (fun e => hat.1 e e3), if_pos e3, if_pos (by decide)]
      · rw [if_neg (not_not_intro (hat.2 e3)), if_neg e3, if_neg (by decide)]
    | succ i =>
      rw [cnd_t (ilt_t (by omega)), w64_back (by omega), grd_t (inb_t (by simp only [len]; omega)), lget_i (show i < l.length by omega), bnd_s (r11_less _ _ _), hfind, bnd_some', cnd_ine, cnd_bnot]
      have e0 : ordB (l.take (i + 1)).getLast? l[i + 1] = decide (lessE l[i] l[i + 1]) := by rw [last_take (show i < l.length by omega)]; rfl
      rw [e0]
      by_cases e4 : lessE l[i] l[i + 1]
      · rw [if_pos e4, decide_eq_true e4, if_neg (show ¬ true = false by decide)]
        by_cases e3 : hasE (l.take (i + 1)) l[i + 1].1
        · rw [if_pos (fun e => hat.1 e e3), if_pos e3, if_pos (by decide)]
        · rw [if_neg (not_not_intro (hat.2 e3)), if_neg e3, if_neg (by decide)]
      · rw [if_neg e4, decide_eq_false e4, if_pos rfl, if_pos (by decide)]
  · rw [cnd_f (ilt_f (by simp only [len]; omega))]
    have hg := hgood hz
    unfold cmtsChk
    by_cases h64 : 64 < d.2.2.2.2.2.2.2.length
    · rw [cnd_t (ilt_t (by simp only [len]; omega)), if_pos h64]
    rw [cnd_f (ilt_f (by simp only [len]; omega)), if_neg h64, jn_e]
    have hcm := @hcm hg (by omega)
    generalize hm : d.2.2.2.2.2.2.2 = m at h64 hcm ⊢
    refine Eq.trans (loop_err (l := m) (fun (_ : Unit) (p : Nat) => (p : Int)) (fun _ => ()) (cmtRnd d) (fun e => e) (some 0) (fun self i hi => ?_) (fun _ self => ?_) fuelH 0 (Nat.zero_le _) (by have := fuelH_eq; omega) (fun j _ hj => by omega)) ?_
    · rw [cnd_t (ilt_t (by simp only [len]; omega)), hcm hi, bnd_some', cnd_ine, w64_succ hi (by omega)]
    · rw [cnd_f (ilt_f (by simp only [len]; omega))]
    · rw [List.take_zero, List.drop_zero]
      by_cases hc : errL (cmtRnd d) [] m ≠ 0
      · rw [if_pos hc]
      · rw [if_neg hc]
        have hc : errL (cmtRnd d) [] m = 0 := by simpa using hc
        rw [hc]
  · rw [List.take_zero, List.drop_zero]
    split <;> rfl
end
end Go.Mo
end

section
/-
  Plain facts: the place of a good event, and its region.
-/
namespace Go.Mo
open Go Go.W Go.Lib
set_option maxRecDepth 100000
noncomputable section

theorem lens_loop {l : List Int} (hl : l.length ≤ 1000000) (h0 : ∀ n ∈ l, 0 ≤ n) (K : Option (List Spot × Int)) : fixN (fun (v5 : Int → Option (List Spot × Int)) (v6 : Int) =>
      cnd (ilt v6 (len l))
        (grd (inb v6 (len l))
          (cnd (ilt (lget l (toN v6) (0 : Int)) (0 : Int))
            (some (([] : List Spot), (10 : Int)))
            (v5 (w64 (iadd v6 (1 : Int))))))
        K) fuelH (0 : Int) = K := by
  refine loop_inv (n := l.length) (fun (_ : Unit) (i : Nat) => (i : Int)) (fun _ _ => True) _ (fun self a i hi _ => ⟨(), ?_, trivial⟩) (fun self a _ => ?_) fuelH 0 () (Nat.zero_le _) (by have := fuelH_eq; omega) trivial
  · have := h0 _ (List.getElem_mem hi)
    rw [cnd_t (ilt_t (by simp only [len]; omega)), grd_t (inb_t (by simp only [len]; omega)), lget_i hi, cnd_f (ilt_f (by omega)), w64_succ hi (by omega)]
  · rw [cnd_f (ilt_f (by simp only [len]; omega))]
theorem lens_pos (l : List Row) : ∀ n ∈ lens l, 0 ≤ n := by
  intro n hn
  obtain ⟨r, _, rfl⟩ := List.mem_map.1 hn
  omega
theorem spots_eq {x : Ev} {rs : List Reg} {r : Reg} (hrs : rs.length ≤ 4000000) (h : ∀ l ∈ x.2.2.2.2.2, okR l) (hl : x.2.2.2.2.2.length ≤ 1000) (hf : findR rs x.2.2.1 = some r) : event_Spots fuelH (x, rs) = some (placeS r (lens x.2.2.2.2.2)) := by
  unfold event_Spots
  simp only
  rw [region_find _ hrs, bnd_some']
  unfold findP
  rw [hf]
  simp only
  rw [cnd_f (by rfl), event_lens_eq h (by omega), bnd_some', jn_e, lens_loop (by unfold lens; rw [List.length_map]; omega) (lens_pos _), region_place]
  rfl
theorem r11_spots_eq {x : Ev} {rs : List Reg} {r : Reg} (hrs : rs.length ≤ 4000000) (h : ∀ l ∈ x.2.2.2.2.2, okR l) (hl : x.2.2.2.2.2.length ≤ 1000) (hf : findR rs x.2.2.1 = some r) : r11_Spots fuelH (x, rs) = some (placeS r (lens x.2.2.2.2.2)) := by
  unfold r11_Spots
  simp only
  rw [r10_find, region_find _ hrs, bnd_some']
  unfold findP
  rw [hf]
  simp only
  rw [cnd_f (by rfl), jn_e]
  generalize x.2.2.2.2.2 = l at h hl ⊢
  refine loop_inv (n := l.length) (fun (a : List Int) (i : Nat) => (a, (i : Int))) (fun i a => a = lens (l.take i)) _ (fun self a i hi hI => ?_) (fun self a hI => ?_) fuelH 0 [] (Nat.zero_le _) (by have := fuelH_eq; omega) rfl
  · refine ⟨a ++ [(lenT l[i] : Int)], ?_, ?_⟩
    · have ha : a.length ≤ i := by rw [hI]; unfold lens; rw [List.length_map, List.length_take]; omega
      have hok := h _ (List.getElem_mem hi)
      simp only
      rw [cnd_t (ilt_t (by simp only [len]; omega)), grd_t (inb_t (by simp only [len]; omega)), lget_i hi, r09_len hok, bnd_some', cnd_f (ilt_f (by omega)), bnd_some', grd_t (room_t (by simp only [iadd, len, List.length_singleton]; omega)), w64_succ hi (by omega)]
      rfl
    · rw [hI]; unfold lens; rw [List.take_succ_eq_append_getElem hi, List.map_append]; rfl
  · simp only
    rw [cnd_f (ilt_f (by simp only [len]; omega)), hI, List.take_length, r10_place]
    rfl

theorem placeL_ok (r : Reg) (k : Nat) : ∀ (l : List Int) (i : Nat) (out : List Spot), (placeL r k i l out).2 = 0 → ∃ t, (placeL r k i l out).1 = out ++ t ∧ t.length = l.length ∧ ∀ n l', l = n :: l' → t[0]? = some (topOf r k + (i : Int), colOf r n, n)
  | [], i, out, _ => ⟨[], by simp [placeL], rfl, fun n l' h => by cases h⟩
  | n :: l, i, out, h => by
    simp only [placeL] at h ⊢
    by_cases h1 : n < 0
    · rw [if_pos h1] at h; cases h
    rw [if_neg h1] at h ⊢
    by_cases h2 : r.2.2.2.2.1 < n
    · rw [if_pos h2] at h; cases h
    rw [if_neg h2] at h ⊢
    obtain ⟨t, e1, e2, _⟩ := placeL_ok r k l (i + 1) _ h
    refine ⟨(topOf r k + (i : Int), colOf r n, n) :: t, by rw [e1]; simp, by simp [e2], fun m l' e => ?_⟩
    injection e with e3 e4
    subst e3
    rfl
theorem placeS_ok {r : Reg} {l : List Int} (h : (placeS r l).2 = 0) (hl : l ≠ []) : usableR r ∧ (l.length : Int) ≤ r.2.2.1 ∧ ∃ s t, (placeS r l).1 = s :: t ∧ s.1 = topOf r l.length ∧ t.length + 1 = l.length := by
  unfold placeS at h ⊢
  by_cases hu : usableR r
  · rw [if_neg (not_not_intro hu)] at h ⊢
    by_cases hk : r.2.2.1 < (l.length : Int)
    · rw [if_pos hk] at h; cases h
    rw [if_neg hk] at h ⊢
    refine ⟨hu, by omega, ?_⟩
    cases l with
    | nil => exact absurd rfl hl
    | cons n l' =>
      obtain ⟨t, e1, e2, e3⟩ := placeL_ok r _ _ _ _ h
      have e4 := e3 n l' rfl
      cases t with
      | nil => cases e2
      | cons s t =>
        refine ⟨s, t, by simpa using e1, ?_, by simpa using e2⟩
        simp only [List.getElem?_cons_zero, Option.some.injEq] at e4
        rw [e4]
        simp
  · rw [if_pos hu] at h; cases h
/-- the grid row where a good event begins, and its alignment -/
def placeE (x : Ev) (rs : List Reg) : Int × UInt8 := match findR rs x.2.2.1 with
  | some r => (topOf r x.2.2.2.2.2.length, r.2.2.2.2.2.1)
  | none => (0, 0)
theorem place_bd {x : Ev} {rs : List Reg} (h : evChk x rs = 0) : 0 ≤ (placeE x rs).1 ∧ (placeE x rs).1 ≤ 14 ∧ 1 ≤ n8 (placeE x rs).2 ∧ n8 (placeE x rs).2 ≤ 3 := by
  obtain ⟨_, _, _, h4, h5, _, r, hf, hp⟩ := ev_ok h
  have hne : lens x.2.2.2.2.2 ≠ [] := by
    unfold lens; intro e; have := congrArg List.length e; rw [List.length_map] at this; simp only [List.length_nil] at this; omega
  obtain ⟨hu, hk, _⟩ := placeS_ok hp hne
  have hb := usable_bd hu
  have hll : (lens x.2.2.2.2.2).length = x.2.2.2.2.2.length := by unfold lens; rw [List.length_map]
  rw [hll] at hk
  unfold placeE
  rw [hf]
  unfold topOf
  simp only
  split <;> omega
theorem placed_eq {d : Doc} {x : Ev} (hs : smallL x.2.2.2.2.2) (hrs : d.2.2.2.2.2.1.length ≤ 4000000) (h : evChk x d.2.2.2.2.2.1 = 0) : stl_placed fuelH (d, x) = some (placeE x d.2.2.2.2.2.1) ∧ r24_place fuelH (x, d.2.2.2.2.2.1) = some (placeE x d.2.2.2.2.2.1) := by
  obtain ⟨_, _, _, h4, h5, h6, r, hf, hp⟩ := ev_ok h
  have hok : ∀ l ∈ x.2.2.2.2.2, okR l := fun l hl => rowE_ok (hs l hl) (h6 l hl)
  have hne : lens x.2.2.2.2.2 ≠ [] := by
    unfold lens; intro e; have := congrArg List.length e; rw [List.length_map] at this; simp only [List.length_nil] at this; omega
  obtain ⟨hu, hk, s, t, e1, e2, e3⟩ := placeS_ok hp hne
  have hll : (lens x.2.2.2.2.2).length = x.2.2.2.2.2.length := by unfold lens; rw [List.length_map]
  rw [hll] at e2
  have hE : placeE x d.2.2.2.2.2.1 = (s.1, r.2.2.2.2.2.1) := by unfold placeE; rw [hf, e2]
  have hF : region_Find fuelH (d.2.2.2.2.2.1, x.2.2.1) = some (r, true) := by rw [region_find _ hrs]; unfold findP; rw [hf]
  constructor
  · unfold stl_placed
    simp only
    rw [spots_eq hrs hok (by omega) hf, bnd_some', hF, bnd_some', e1, grd_t (inb_t (by simp only [len, List.length_cons]; omega)), hE]
    rfl
  · unfold r24_place
    simp only
    rw [r11_spots_eq hrs hok (by omega) hf, bnd_some', r10_find, hF, bnd_some', e1, grd_t (inb_t (by simp only [len, List.length_cons]; omega)), hE]
    rfl

def letR (a : UInt8) : UInt8 := if a = 1 then 76 else if a = 2 then 67 else 82
def regOf (p : Int × UInt8) : Reg := ([82, b8 (48 + p.1 / 10), b8 (48 + p.1 % 10), letR p.2], p.1, 15 - p.1, 0, 32, p.2, false)
def regB (x : Option Reg) (r : Reg) : Bool := match x with
  | some y => seq y.1 r.1 && (ieq y.2.1 r.2.1 && (ieq y.2.2.1 r.2.2.1 && (ieq y.2.2.2.1 r.2.2.2.1 && (ieq y.2.2.2.2.1 r.2.2.2.2.1 && (ieq (n8 y.2.2.2.2.2.1) (n8 r.2.2.2.2.2.1) && beqb y.2.2.2.2.2.2 r.2.2.2.2.2.2)))))
  | none => false
theorem regB_t {x : Option Reg} {r : Reg} (h : regB x r = true) : x = some r := by
  cases x with
  | none => cases h
  | some y =>
    simp only [regB, Bool.and_eq_true, seq_t, ieq_tt, beqb_t, n8_eq] at h
    rw [← reg_eq] at h
    rw [h]
theorem regOf_tab : ((List.range 15).all fun n => ([1, 2, 3] : List UInt8).all fun a => (regB (stl_place_region fuelH ((n : Int), a)) (regOf ((n : Int), a)) && regB (r24_region fuelH ((n : Int), a)) (regOf ((n : Int), a)))) = true := by kernel_rfl
theorem regOf_eq {p : Int × UInt8} (h : 0 ≤ p.1 ∧ p.1 ≤ 14 ∧ 1 ≤ n8 p.2 ∧ n8 p.2 ≤ 3) : stl_place_region fuelH p = some (regOf p) ∧ r24_region fuelH p = some (regOf p) := by
  obtain ⟨n, a⟩ := p
  obtain ⟨h1, h2, h3, h4⟩ := h
  simp only at h1 h2 h3 h4
  have hn : (n.toNat : Int) = n := by omega
  have ha : a ∈ ([1, 2, 3] : List UInt8) := by
    have e1 : n8 (1 : UInt8) = 1 := rfl
    have e2 : n8 (2 : UInt8) = 2 := rfl
    have e3 : n8 (3 : UInt8) = 3 := rfl
    have : n8 a = n8 (1 : UInt8) ∨ n8 a = n8 (2 : UInt8) ∨ n8 a = n8 (3 : UInt8) := by omega
    rcases this with e | e | e <;> rw [n8_inj e] <;> simp
  have := List.all_eq_true.1 (List.all_eq_true.1 regOf_tab n.toNat (List.mem_range.2 (by omega))) a ha
  rw [hn] at this
  rw [Bool.and_eq_true] at this
  exact ⟨regB_t this.1, regB_t this.2⟩
end
end Go.Mo
end

section
/-
  Plain facts: regions in the order of their names; rows without ruby.
-/
namespace Go.Mo
open Go Go.W Go.Lib
set_option maxRecDepth 100000
noncomputable section

theorem slt_cons (a b : UInt8) (x y : List UInt8) : slt (a :: x) (b :: y) = true ↔ a.toNat < b.toNat ∨ (a = b ∧ slt x y = true) := by
  show (decide (a < b) || (a == b && Op.bytesLess x y)) = true ↔ _
  rw [Bool.or_eq_true, Bool.and_eq_true, decide_eq_true_eq, beq_iff_eq, UInt8.lt_iff_toNat_lt]
  rfl
theorem slt_irr : ∀ x : List UInt8, slt x x = false
  | [] => rfl
  | a :: x => by
    rw [← Bool.not_eq_true, slt_cons]
    rintro (h | h)
    · omega
    · rw [slt_irr x] at h; cases h.2
theorem slt_tr : ∀ x y z : List UInt8, slt x y = true → slt y z = true → slt x z = true
  | x, [], z, h, _ => by cases x <;> cases h
  | x, b :: y, [], _, h => by cases h
  | [], b :: y, c :: z, _, _ => rfl
  | a :: x, b :: y, c :: z, h1, h2 => by
    rw [slt_cons] at h1 h2 ⊢
    rcases h1 with h1 | ⟨rfl, h1⟩
    · rcases h2 with h2 | ⟨rfl, h2⟩
      · exact .inl (by omega)
      · exact .inl h1
    · rcases h2 with h2 | ⟨rfl, h2⟩
      · exact .inl h2
      · exact .inr ⟨rfl, slt_tr x y z h1 h2⟩
theorem slt_tri : ∀ x y : List UInt8, slt x y = false → x ≠ y → slt y x = true
  | [], [], _, h => absurd rfl h
  | [], b :: y, h, _ => by cases h
  | a :: x, [], _, _ => rfl
  | a :: x, b :: y, h, hne => by
    rw [← Bool.not_eq_true, slt_cons] at h
    rw [slt_cons]
    by_cases h1 : b.toNat < a.toNat
    · exact .inl h1
    · have e : a = b := UInt8.toNat_inj.1 (by
        have : ¬ a.toNat < b.toNat := fun h2 => h (.inl h2)
        omega)
      subst e
      refine .inr ⟨rfl, slt_tri x y ?_ fun e => hne (by rw [e])⟩
      rw [← Bool.not_eq_true]
      exact fun h2 => h (.inr ⟨rfl, h2⟩)

def addS : List Reg → Reg → List Reg
  | [], r => [r]
  | x :: l, r => if slt x.1 r.1 = true then x :: addS l r else if x.1 = r.1 then x :: l else r :: x :: l
theorem addS_len (l : List Reg) (r : Reg) : (addS l r).length ≤ l.length + 1 := by
  induction l with
  | nil => simp [addS]
  | cons x l ih =>
    simp only [addS]
    split
    · simp only [List.length_cons]; omega
    · split <;> simp
/-- what the program's loop has found at place k: all ahead are less -/
theorem addS_at : ∀ (l : List Reg) (r : Reg) (k : Nat), k ≤ l.length → (∀ x ∈ l.take k, slt x.1 r.1 = true) → addS l r = l.take k ++ addS (l.drop k) r
  | l, r, 0, _, _ => rfl
  | [], r, k + 1, h, _ => by simp at h
  | x :: l, r, k + 1, h, hk => by
    simp only [addS, List.take_succ_cons, List.drop_succ_cons, List.cons_append]
    rw [if_pos (hk x (by simp)), addS_at l r k (by simpa using h) fun y hy => hk y (by simp [hy])]
theorem stl_add_eq {l : List Reg} (r : Reg) (hl : l.length ≤ 1000000) : stl_add fuelH (l, r) = some (addS l r) := by
  unfold stl_add
  simp only
  rw [jn_e]
  have hbody : ∀ k : Nat, k ≤ l.length → (∀ x ∈ l.take k, slt x.1 r.1 = true) → (∀ h : k < l.length, slt l[k].1 r.1 = false) →
    (jn (fun (_ : Unit) =>
      grd (in2 (k : Int) (len l)) <|
      grd (room (iadd (len ([] : List Reg)) (len (ltake (toN (k : Int)) l))) 56) <|
      grd (room (iadd (len (lapp ([] : List Reg) (ltake (toN (k : Int)) l))) (len ([r] : List Reg))) 56) <|
      grd (in2 (k : Int) (len l)) <|
      grd (room (iadd (len (lapp (lapp ([] : List Reg) (ltake (toN (k : Int)) l)) ([r] : List Reg))) (len (ldrop (toN (k : Int)) l))) 56) <|
      some (lapp (lapp (lapp ([] : List Reg) (ltake (toN (k : Int)) l)) ([r] : List Reg)) (ldrop (toN (k : Int)) l)))
    fun v2 =>
    cnd (ilt (k : Int) (len l))
      (grd (inb (k : Int) (len l))
        (cnd (seq (lget l (toN (k : Int)) ([], ((0 : Int), ((0 : Int), ((0 : Int), ((0 : Int), ((0 : UInt8), false))))))).1 r.1)
          (some l)
          (v2 ())))
      (v2 ())) = some (addS l r) := by
    intro k hk hlt hge
    have htl : (l.take k).length = k := by rw [List.length_take]; omega
    have hdl : (l.drop k).length = l.length - k := List.length_drop
    have hin : in2 (k : Int) (len l) = true := in2_t (by simp only [len]; omega)
    refine Eq.trans (jn_u (X := some (l.take k ++ r :: l.drop k)) ?_ _) ?_
    · have e1 : ltake (toN (k : Int)) l = l.take k := by simp [ltake, toN]
      have e2 : ldrop (toN (k : Int)) l = l.drop k := by simp [ldrop, toN]
      rw [e1, e2, grd_t hin, grd_t (room_t (by simp only [iadd, len, List.length_nil]; omega)), grd_t (room_t (by simp only [iadd, len, lapp, List.length_append, List.length_nil, List.length_singleton]; omega)), grd_t hin, grd_t (room_t (by simp only [iadd, len, lapp, List.length_append, List.length_nil, List.length_singleton]; omega))]
      simp [lapp]
    · simp only
      by_cases hc : k < l.length
      · have hd := List.drop_eq_getElem_cons hc
        rw [cnd_t (ilt_t (by simp only [len]; omega)), grd_t (inb_t (by simp only [len]; omega)), lget_i hc, addS_at l r k hk hlt, hd]
        simp only [addS]
        rw [if_neg (by rw [hge hc]; decide)]
        by_cases he : l[k].1 = r.1
        · rw [cnd_t (by rw [seq_t]; exact he), if_pos he, ← hd, List.take_append_drop]
        · rw [cnd_f (by rw [← Bool.not_eq_true, seq_t]; exact he), if_neg he]
      · rw [cnd_f (ilt_f (by simp only [len]; omega)), addS_at l r k hk hlt]
        have : l.drop k = [] := List.drop_eq_nil_of_le (by omega)
        rw [this]
        rfl
  have hloop : ∀ (fuel k : Nat), l.length - k < fuel → k ≤ l.length → (∀ x ∈ l.take k, slt x.1 r.1 = true) → ∀ K : Int → Option (List Reg), (∀ k : Nat, k ≤ l.length → (∀ x ∈ l.take k, slt x.1 r.1 = true) → (∀ h : k < l.length, slt l[k].1 r.1 = false) → K (k : Int) = some (addS l r)) →
    fixN (fun (v4 : Int → Option (List Reg)) (v5 : Int) =>
    cnd (ilt v5 (len l))
      (grd (inb v5 (len l))
        (cnd (slt (lget l (toN v5) ([], ((0 : Int), ((0 : Int), ((0 : Int), ((0 : Int), ((0 : UInt8), false))))))).1 r.1)
          (v4 (w64 (iadd v5 (1 : Int))))
          (K v5)))
      (K v5)) fuel (k : Int) = some (addS l r) := by
    intro fuel
    induction fuel with
    | zero => intro k h; omega
    | succ fuel ih =>
      intro k h hk hlt K hK
      rw [fixN_s]
      by_cases hc : k < l.length
      · rw [cnd_t (ilt_t (by simp only [len]; omega)), grd_t (inb_t (by simp only [len]; omega)), lget_i hc, w64_succ hc (by omega)]
        by_cases hs : slt l[k].1 r.1 = true
        · rw [cnd_t hs]
          refine ih (k + 1) (by omega) (by omega) (fun x hx => ?_) K hK
          rw [List.take_succ_eq_append_getElem hc] at hx
          rcases List.mem_append.1 hx with hx | hx
          · exact hlt x hx
          · rw [List.mem_singleton.1 hx]; exact hs
        · rw [cnd_f (by simpa using hs)]
          exact hK k hk hlt fun _ => by simpa using hs
      · rw [cnd_f (ilt_f (by simp only [len]; omega))]
        exact hK k hk hlt fun h => absurd h hc
  exact hloop fuelH 0 (by have := fuelH_eq; omega) (Nat.zero_le _) (fun x hx => by cases hx) _ hbody
end
end Go.Mo
end

section
/-
  Plain facts: the reference's list of regions is the same.
-/
namespace Go.Mo
open Go Go.W Go.Lib
set_option maxRecDepth 100000
noncomputable section

def srt (l : List Reg) : Prop := l.Pairwise fun a b => slt a.1 b.1 = true
theorem slt_asym {x y : List UInt8} (h : slt x y = true) : slt y x = false := by
  rw [← Bool.not_eq_true]
  intro h2
  have := slt_tr _ _ _ h h2
  rw [slt_irr] at this
  cases this
theorem slt_ne {x y : List UInt8} (h : slt x y = true) : x ≠ y := fun e => by
  subst e; rw [slt_irr] at h; cases h
theorem mem_addS : ∀ (l : List Reg) (r x : Reg), x ∈ addS l r → x ∈ l ∨ x = r
  | [], r, x, h => .inr (List.mem_singleton.1 h)
  | y :: l, r, x, h => by
    simp only [addS] at h
    split at h
    · rcases List.mem_cons.1 h with rfl | h
      · exact .inl List.mem_cons_self
      · rcases mem_addS l r x h with h | h
        · exact .inl (List.mem_cons_of_mem _ h)
        · exact .inr h
    · split at h
      · exact .inl h
      · rcases List.mem_cons.1 h with rfl | h
        · exact .inr rfl
        · exact .inl h
theorem srt_add : ∀ (l : List Reg) (r : Reg), srt l → srt (addS l r)
  | [], r, _ => List.pairwise_singleton _ _
  | x :: l, r, h => by
    have h1 := (List.pairwise_cons.1 h)
    simp only [addS]
    split
    · rename_i hc
      refine List.pairwise_cons.2 ⟨fun y hy => ?_, srt_add l r h1.2⟩
      rcases mem_addS l r y hy with hy | rfl
      · exact h1.1 y hy
      · exact hc
    · rename_i hc
      split
      · exact h
      · rename_i he
        have hr : slt r.1 x.1 = true := slt_tri _ _ (by simpa using hc) he
        refine List.pairwise_cons.2 ⟨fun y hy => ?_, h⟩
        rcases List.mem_cons.1 hy with rfl | hy
        · exact hr
        · exact slt_tr _ _ _ hr (h1.1 y hy)
def wthF (l : List Reg) (r : Reg) (v2 : (List Reg) × Bool × Int → Option (List Reg)) (v3 : (List Reg) × Bool × Int) : Option (List Reg) :=
    cnd (ilt v3.2.2 (len l))
      (grd (inb v3.2.2 (len l))
        (cnd (seq (lget l (toN v3.2.2) ([], ((0 : Int), ((0 : Int), ((0 : Int), ((0 : Int), ((0 : UInt8), false))))))).1 r.1)
          (some l)
          (cnd (bnot v3.2.1)
            (cnd (slt r.1 (lget l (toN v3.2.2) ([], ((0 : Int), ((0 : Int), ((0 : Int), ((0 : Int), ((0 : UInt8), false))))))).1)
              (grd (room (iadd (len v3.1) (len ([r] : List Reg))) 56)
                (grd (room (iadd (len (lapp v3.1 ([r] : List Reg))) (len ([lget l (toN v3.2.2) ([], ((0 : Int), ((0 : Int), ((0 : Int), ((0 : Int), ((0 : UInt8), false))))))] : List Reg))) 56)
                  (v2 (lapp (lapp v3.1 ([r] : List Reg)) ([lget l (toN v3.2.2) ([], ((0 : Int), ((0 : Int), ((0 : Int), ((0 : Int), ((0 : UInt8), false))))))] : List Reg), true, w64 (iadd v3.2.2 (1 : Int))))))
              (grd (room (iadd (len v3.1) (len ([lget l (toN v3.2.2) ([], ((0 : Int), ((0 : Int), ((0 : Int), ((0 : Int), ((0 : UInt8), false))))))] : List Reg))) 56)
                (v2 (lapp v3.1 ([lget l (toN v3.2.2) ([], ((0 : Int), ((0 : Int), ((0 : Int), ((0 : Int), ((0 : UInt8), false))))))] : List Reg), v3.2.1, w64 (iadd v3.2.2 (1 : Int))))))
            (grd (room (iadd (len v3.1) (len ([lget l (toN v3.2.2) ([], ((0 : Int), ((0 : Int), ((0 : Int), ((0 : Int), ((0 : UInt8), false))))))] : List Reg))) 56)
              (v2 (lapp v3.1 ([lget l (toN v3.2.2) ([], ((0 : Int), ((0 : Int), ((0 : Int), ((0 : Int), ((0 : UInt8), false))))))] : List Reg), v3.2.1, w64 (iadd v3.2.2 (1 : Int))))))))
      (cnd (bnot v3.2.1)
      (grd (room (iadd (len v3.1) (len ([r] : List Reg))) 56)
        (some (lapp v3.1 ([r] : List Reg))))
      (some v3.1))
theorem wth_put {l : List Reg} {r : Reg} (hl : l.length ≤ 1000000) : ∀ (fuel i : Nat) (out : List Reg), l.length - i < fuel → i ≤ l.length → out.length ≤ i + 1 → (∀ x ∈ l.drop i, x.1 ≠ r.1) → fixN (wthF l r) fuel (out, true, (i : Int)) = some (out ++ l.drop i)
  | 0, i, _, h, _, _, _ => by omega
  | fuel + 1, i, out, h, hi, ho, hne => by
    rw [fixN_s]
    unfold wthF
    by_cases hc : i < l.length
    · have hd := List.drop_eq_getElem_cons hc
      have h1 : l[i].1 ≠ r.1 := hne _ (by rw [hd]; exact List.mem_cons_self)
      simp only
      rw [cnd_t (ilt_t (by simp only [len]; omega)), grd_t (inb_t (by simp only [len]; omega)), lget_i hc, cnd_f (by rw [← Bool.not_eq_true, seq_t]; exact h1), cnd_f (by rfl), grd_t (room_t (by simp only [iadd, len, List.length_singleton]; omega)), w64_succ hc (by omega)]
      refine (wth_put hl fuel (i + 1) _ (by omega) (by omega) (by simp only [lapp, List.length_append, List.length_singleton]; omega) fun x hx => hne x (by rw [hd]; exact List.mem_cons_of_mem _ hx)).trans ?_
      rw [hd]
      simp [lapp]
    · simp only
      rw [cnd_f (ilt_f (by simp only [len]; omega)), cnd_f (by rfl), List.drop_eq_nil_of_le (by omega), List.append_nil]
theorem wth_loop {l : List Reg} {r : Reg} (hs : srt l) (hl : l.length ≤ 1000000) : ∀ (fuel i : Nat), l.length - i < fuel → i ≤ l.length → (∀ x ∈ l.take i, slt x.1 r.1 = true) → fixN (wthF l r) fuel (l.take i, false, (i : Int)) = some (addS l r)
  | 0, i, h, _, _ => by omega
  | fuel + 1, i, h, hi, hlt => by
    have htl : (l.take i).length = i := by rw [List.length_take]; omega
    have ha := addS_at l r i hi hlt
    rw [fixN_s]
    unfold wthF
    by_cases hc : i < l.length
    · have hd := List.drop_eq_getElem_cons hc
      simp only
      rw [cnd_t (ilt_t (by simp only [len]; omega)), grd_t (inb_t (by simp only [len]; omega)), lget_i hc]
      rw [hd] at ha
      simp only [addS] at ha
      by_cases he : l[i].1 = r.1
      · rw [cnd_t (by rw [seq_t]; exact he), ha, if_neg (by rw [he, slt_irr]; decide), if_pos he, ← hd, List.take_append_drop]
      · rw [cnd_f (by rw [← Bool.not_eq_true, seq_t]; exact he), cnd_t (by rfl)]
        by_cases hr : slt r.1 l[i].1 = true
        · rw [cnd_t hr, grd_t (room_t (by simp only [iadd, len, List.length_singleton]; omega)), grd_t (room_t (by simp only [iadd, len, lapp, List.length_append, List.length_singleton]; omega)), w64_succ hc (by omega)]
          have hsd : srt (l[i] :: l.drop (i + 1)) := by rw [← hd]; exact List.Pairwise.sublist (List.drop_sublist i l) hs
          refine (wth_put hl fuel (i + 1) _ (by omega) (by omega) (by simp only [lapp, List.length_append, List.length_singleton]; omega) fun x hx => ?_).trans ?_
          · exact (slt_ne (slt_tr _ _ _ hr ((List.pairwise_cons.1 hsd).1 x hx))).symm
          · rw [ha, if_neg (by rw [slt_asym hr]; decide), if_neg he]
            simp [lapp]
        · have hlt2 : slt l[i].1 r.1 = true := slt_tri _ _ (by simpa using hr) fun e => he e.symm
          rw [cnd_f (by simpa using hr), grd_t (room_t (by simp only [iadd, len, List.length_singleton]; omega)), w64_succ hc (by omega)]
          have e : lapp (l.take i) [l[i]] = l.take (i + 1) := (List.take_succ_eq_append_getElem hc).symm
          rw [e]
          refine wth_loop hs hl fuel (i + 1) (by omega) (by omega) fun x hx => ?_
          rw [List.take_succ_eq_append_getElem hc] at hx
          rcases List.mem_append.1 hx with hx | hx
          · exact hlt x hx
          · rw [List.mem_singleton.1 hx]; exact hlt2
    · simp only
      rw [cnd_f (ilt_f (by simp only [len]; omega)), cnd_t (by rfl), grd_t (room_t (by simp only [iadd, len, List.length_singleton]; omega)), ha, List.drop_eq_nil_of_le (by omega)]
      rfl
theorem r24_with_eq {l : List Reg} (r : Reg) (hs : srt l) (hl : l.length ≤ 1000000) : r24_with fuelH (l, r) = some (addS l r) := by
  unfold r24_with
  simp only
  rw [jn_e]
  exact wth_loop hs hl fuelH 0 (by have := fuelH_eq; omega) (Nat.zero_le _) fun x hx => by cases hx
end
end Go.Mo
end

section
/-
  Plain facts: rows without ruby, both sides; the day.
-/
namespace Go.Mo
open Go Go.W Go.Lib
set_option maxRecDepth 100000
noncomputable section

theorem bare_loop {l : List Row} (h : ∀ q ∈ l, okR q) (hl : l.length ≤ 1000) (Nrm : Row → Option Row) (hN : ∀ q : Row, q.length ≤ 4000000 → tot q ≤ 8000000 → Nrm q = some (normR q)) :
  fixN (fun (v2 : (List Row) × Int → Option (List Row)) (v3 : (List Row) × Int) =>
    cnd (ilt v3.2 (len l))
      (jn (fun (v4 : List Row) =>
        v2 (v4, w64 (iadd v3.2 (1 : Int))))
      fun v5 =>
      grd (inb v3.2 (len l)) <|
      jn (fun (v6 : Row) =>
        bnd (Nrm v6) fun v7 =>
        grd (room (iadd (len v3.1) (len ([v7] : List Row))) 24) <|
        v5 (lapp v3.1 ([v7] : List Row)))
      fun v8 =>
      fixN (fun v9 (v10 : Int × Row) =>
        cnd (ilt v10.1 (len (lget l (toN v3.2) [])))
          (grd (inb v10.1 (len (lget l (toN v3.2) [])))
            (grd (room (iadd (len v10.2) (len ([((lget (lget l (toN v3.2) []) (toN v10.1) ([], (((0 : UInt8), (false, false)), []))).1, (lget (lget l (toN v3.2) []) (toN v10.1) ([], (((0 : UInt8), (false, false)), []))).2.1, ([] : List UInt8))] : Row))) 40)
              (v9 (w64 (iadd v10.1 (1 : Int)), lapp v10.2 ([((lget (lget l (toN v3.2) []) (toN v10.1) ([], (((0 : UInt8), (false, false)), []))).1, (lget (lget l (toN v3.2) []) (toN v10.1) ([], (((0 : UInt8), (false, false)), []))).2.1, ([] : List UInt8))] : Row)))))
          (v8 v10.2)) fuelH ((0 : Int), ([] : Row)))
      (some v3.1)) fuelH (([] : List Row), (0 : Int)) = some (l.map back) := by
  refine loop_inv (n := l.length) (fun (a : List Row) (i : Nat) => (a, (i : Int))) (fun i a => a = (l.take i).map back) _ (fun self a i hi hI => ?_) (fun self a hI => ?_) fuelH 0 [] (Nat.zero_le _) (by have := fuelH_eq; omega) rfl
  · refine ⟨a ++ [back l[i]], ?_, ?_⟩
    · have hli := h l[i] (List.getElem_mem hi)
      have hq1 := hli.1
      have hq2 := hli.2.2
      have ha : a.length ≤ i := by rw [hI, List.length_map, List.length_take]; omega
      simp only
      rw [cnd_t (ilt_t (by simp only [len]; omega)), jn_e, grd_t (inb_t (by simp only [len]; omega)), lget_i hi, jn_e]
      generalize l[i] = q at hq1 hq2 ⊢
      refine loop_inv (n := q.length) (fun (b : Row) (j : Nat) => ((j : Int), b)) (fun j b => b = (q.take j).map bare) _ (fun self' b j hj hJ => ?_) (fun self' b hJ => ?_) fuelH 0 [] (Nat.zero_le _) (by have := fuelH_eq; omega) rfl
      · refine ⟨b ++ [bare q[j]], ?_, ?_⟩
        · have hbl : b.length ≤ 16 := by rw [hJ, List.length_map, List.length_take]; omega
          simp only
          rw [cnd_t (ilt_t (by simp only [len]; omega)), grd_t (inb_t (by simp only [len]; omega)), lget_i hj, grd_t (room_t (by simp only [iadd, len, List.length_singleton]; omega)), w64_succ hj (by omega)]
          rfl
        · rw [hJ, List.take_succ_eq_append_getElem hj, List.map_append]; rfl
      · simp only
        rw [cnd_f (ilt_f (by simp only [len]; omega))]
        rw [hJ, List.take_length]
        have hn : Nrm (q.map bare) = some (back q) := hN _ (by rw [List.length_map]; omega) (by rw [bare_tot]; omega)
        rw [hn, bnd_some', grd_t (room_t (by simp only [iadd, len, List.length_singleton]; omega)), w64_succ hi (by omega)]
        rfl
    · rw [hI, List.take_succ_eq_append_getElem hi, List.map_append]; rfl
  · simp only
    rw [cnd_f (ilt_f (by simp only [len]; omega)), hI, List.take_length]
theorem stl_bare_eq {l : List Row} (h : ∀ q ∈ l, okR q) (hl : l.length ≤ 1000) : stl_bare fuelH l = some (l.map back) := by
  unfold stl_bare
  rw [jn_e]
  exact bare_loop h hl (style_Norm fuelH) fun q => style_Norm_eq
theorem r24_bare_eq {l : List Row} (h : ∀ q ∈ l, okR q) (hl : l.length ≤ 1000) : r24_bare fuelH l = some (l.map back) := by
  unfold r24_bare
  rw [jn_e]
  exact bare_loop h hl (r09_Norm fuelH) fun q => r09_Norm_eq
def dayOf (r : UInt8) : Int := if r = 3 then 2160000 else 2592000
theorem day_eq {r : UInt8} (h : r = 3 ∨ r = 5) : timecode_Day fuelH (r, false) = some (dayOf r) ∧ r03_Day fuelH (r, false) = some (dayOf r) := by
  rcases h with rfl | rfl
  · exact ⟨by kernel_rfl, by kernel_rfl⟩
  · exact ⟨by kernel_rfl, by kernel_rfl⟩

def acceptRnd (rs : List Reg) (day : Int) (i : Nat) (x : Ev) (l : List Reg) : Option (Int × Int) ⊕ List Reg :=
  if day ≤ x.2.1.2 then .inl (some ((i : Int), 2)) else if 16 < (addS l (regOf (placeE x rs))).length then .inl (some ((i : Int), 9)) else .inr (addS l (regOf (placeE x rs)))
def acceptL (d : Doc) : Option (Int × Int) := itI (acceptRnd d.2.2.2.2.2.1 (dayOf d.2.2.1)) (fun _ => some (-1, 0)) 0 d.2.2.2.2.2.2.1 []
def acceptS (d : Doc) : Option (Int × Int) := if docChk d ≠ 0 then some (-1, docChk d) else if ¬ (d.2.2.1 = 3 ∨ d.2.2.1 = 5) then some (-1, 13) else acceptL d
theorem chk_evs {d : Doc} (h : docChk d = 0) : d.2.2.2.2.2.2.1.length ≤ 400 ∧ ∀ x ∈ d.2.2.2.2.2.2.1, evChk x d.2.2.2.2.2.1 = 0 := by
  unfold docChk at h
  split at h
  · rename_i hc; exact absurd h hc
  split at h
  · rename_i hc; exact absurd h hc
  split at h
  · cases h
  rename_i hn
  split at h
  · rename_i hc; exact absurd h hc
  rename_i hc
  have hc : evsChk d = 0 := by simpa using hc
  refine ⟨by omega, fun x hx => ?_⟩
  obtain ⟨j, hj, rfl⟩ := List.mem_iff_getElem.1 hx
  exact (evRnd_ok (errL_zero _ _ hc j hj)).1
theorem rate_cnd {α : Type} (r : UInt8) (X Y : Option α) : cnd (ine (n8 r) (n8 (3 : UInt8))) (cnd (ine (n8 r) (n8 (5 : UInt8))) X Y) Y = if ¬ (r = 3 ∨ r = 5) then X else Y := by
  rw [cnd_ine, cnd_ine]
  by_cases h3 : r = 3
  · rw [if_neg (by rw [h3]; simp), if_neg (not_not_intro (.inl h3))]
  · rw [if_pos (fun e => h3 (n8_inj e))]
    by_cases h5 : r = 5
    · rw [if_neg (by rw [h5]; simp), if_neg (not_not_intro (.inr h5))]
    · rw [if_pos (fun e => h5 (n8_inj e)), if_pos (fun e => e.elim h3 h5)]
end
end Go.Mo
end

section
/-
  Plain facts: what the form accepts, on both sides.
-/
namespace Go.Mo
open Go Go.W Go.Lib
set_option maxRecDepth 100000
noncomputable section

theorem acc_some (rs : List Reg) (day : Int) : ∀ (l : List Ev) (i : Nat) (a : List Reg), ∃ v, itI (acceptRnd rs day) (fun _ => some ((-1 : Int), (0 : Int))) i l a = some v
  | [], i, a => ⟨_, rfl⟩
  | x :: l, i, a => by
    simp only [itI, acceptRnd]
    by_cases h1 : day ≤ x.2.1.2
    · rw [if_pos h1]; exact ⟨_, rfl⟩
    · rw [if_neg h1]
      by_cases h2 : 16 < (addS a (regOf (placeE x rs))).length
      · rw [if_pos h2]; exact ⟨_, rfl⟩
      · rw [if_neg h2]; exact acc_some rs day l (i + 1) _
theorem accept_some (d : Doc) : ∃ v, acceptS d = some v := by
  unfold acceptS
  split
  · exact ⟨_, rfl⟩
  split
  · exact ⟨_, rfl⟩
  exact acc_some _ _ _ _ _
theorem stl_accept {d : Doc} (hs : smallD d) : stl_Accept fuelH d = acceptS d := by
  unfold stl_Accept acceptS
  rw [bnd_s (document_check hs)]
  by_cases c1 : docChk d ≠ 0
  · rw [cnd_t (ine_t c1), if_pos c1]
  rw [cnd_f (ine_f (by simpa using c1)), if_neg c1, jn_e, rate_cnd]
  by_cases c2 : d.2.2.1 = 3 ∨ d.2.2.1 = 5
  · rw [if_neg (not_not_intro c2), if_neg (not_not_intro c2), jn_e]
    obtain ⟨hn, hev⟩ := chk_evs (d := d) (by simpa using c1)
    unfold acceptL
    have hsm := hs.2.2.1
    have hpl := fun x hx => placed_eq (d := d) (x := x) (hsm x hx) hs.2.1 (hev x hx)
    generalize hl : d.2.2.2.2.2.2.1 = l at hn hev hpl ⊢
    refine Eq.trans (lst_it (l := l) (fun (a : List Reg) (p : Nat) => (a, (p : Int))) (acceptRnd d.2.2.2.2.2.1 (dayOf d.2.2.1)) (fun _ => some (-1, 0)) (fun i a => a.length ≤ i) (fun self a i hi ha => ?_) (fun self a _ => ?_) fuelH 0 [] (Nat.zero_le _) (by have := fuelH_eq; omega) (Nat.le_refl _)) ?_
    · have hx := List.getElem_mem hi
      simp only
      rw [cnd_t (ilt_t (by simp only [len]; omega)), grd_t (inb_t (by simp only [len]; omega)), lget_i hi, bnd_s (day_eq c2).1, cnd_ile, bnd_s (hpl _ hx).1, bnd_s (regOf_eq (place_bd (hev _ hx))).1, bnd_s (stl_add_eq _ (by omega)), cnd_ilt, w64_succ hi (by omega)]
      unfold acceptRnd
      by_cases h1 : dayOf d.2.2.1 ≤ l[i].2.1.2
      · rw [if_pos h1, if_pos h1]; rfl
      · rw [if_neg h1, if_neg h1]
        have hal := addS_len a (regOf (placeE l[i] d.2.2.2.2.2.1))
        by_cases h2 : 16 < (addS a (regOf (placeE l[i] d.2.2.2.2.2.1))).length
        · rw [if_pos h2, if_pos (by simp only [len]; omega)]; rfl
        · rw [if_neg h2, if_neg (by simp only [len]; omega)]
          exact ⟨rfl, by omega⟩
    · simp only
      rw [cnd_f (ilt_f (by simp only [len]; omega))]
    · rw [List.drop_zero]
  · rw [if_pos c2, if_pos c2]
theorem r24_accept {d : Doc} (hs : smallD d) : r24_Accept fuelH d = acceptS d := by
  unfold r24_Accept acceptS
  rw [bnd_s (r12_check hs)]
  by_cases c1 : docChk d ≠ 0
  · rw [cnd_t (ine_t c1), if_pos c1]
  rw [cnd_f (ine_f (by simpa using c1)), if_neg c1, jn_e, rate_cnd]
  by_cases c2 : d.2.2.1 = 3 ∨ d.2.2.1 = 5
  · rw [if_neg (not_not_intro c2), if_neg (not_not_intro c2), jn_e]
    obtain ⟨hn, hev⟩ := chk_evs (d := d) (by simpa using c1)
    unfold acceptL
    have hsm := hs.2.2.1
    have hpl := fun x hx => placed_eq (d := d) (x := x) (hsm x hx) hs.2.1 (hev x hx)
    generalize hl : d.2.2.2.2.2.2.1 = l at hn hev hpl ⊢
    refine Eq.trans (lst_it (l := l) (fun (a : List Reg) (p : Nat) => (a, (p : Int))) (acceptRnd d.2.2.2.2.2.1 (dayOf d.2.2.1)) (fun _ => some (-1, 0)) (fun i a => a.length ≤ i ∧ srt a) (fun self a i hi ha => ?_) (fun self a _ => ?_) fuelH 0 [] (Nat.zero_le _) (by have := fuelH_eq; omega) ⟨Nat.le_refl _, List.Pairwise.nil⟩) ?_
    · have hx := List.getElem_mem hi
      obtain ⟨ha, hso⟩ := ha
      simp only
      rw [cnd_t (ilt_t (by simp only [len]; omega)), grd_t (inb_t (by simp only [len]; omega)), lget_i hi, bnd_s (day_eq c2).2, cnd_ile, bnd_s (hpl _ hx).2, bnd_s (regOf_eq (place_bd (hev _ hx))).2, bnd_s (r24_with_eq _ hso (by omega)), cnd_ilt, w64_succ hi (by omega)]
      unfold acceptRnd
      by_cases h1 : dayOf d.2.2.1 ≤ l[i].2.1.2
      · rw [if_pos h1, if_pos h1]; rfl
      · rw [if_neg h1, if_neg h1]
        have hal := addS_len a (regOf (placeE l[i] d.2.2.2.2.2.1))
        by_cases h2 : 16 < (addS a (regOf (placeE l[i] d.2.2.2.2.2.1))).length
        · rw [if_pos h2, if_pos (by simp only [len]; omega)]; rfl
        · rw [if_neg h2, if_neg (by simp only [len]; omega)]
          exact ⟨rfl, by omega, srt_add _ _ hso⟩
    · simp only
      rw [cnd_f (ilt_f (by simp only [len]; omega))]
    · rw [List.drop_zero]
  · rw [if_pos c2, if_pos c2]
end
end Go.Mo
end

section
/-
  Plain facts: the document as the form carries it, on both sides.
-/
namespace Go.Mo
open Go Go.W Go.Lib
set_option maxRecDepth 100000
noncomputable section

def noD : Doc := ([], [], 0, false, 0, [], [], [])
def evR (rs : List Reg) (i : Nat) (x : Ev) : Ev := (((i + 1 : Nat) : Int), x.2.1, (regOf (placeE x rs)).1, 1, [], x.2.2.2.2.2.map back)
def redRnd (rs : List Reg) (i : Nat) (x : Ev) (a : List Reg × List Ev) : Option Doc ⊕ List Reg × List Ev := .inr (addS a.1 (regOf (placeE x rs)), a.2 ++ [evR rs i x])
def redE (d : Doc) (a : List Reg × List Ev) : Option Doc := some (d.1, d.2.1, d.2.2.1, d.2.2.2.1, len d.2.2.2.2.2.2.1, a.1, a.2, [])
def redD (d : Doc) : Option Doc := if docChk d ≠ 0 then some noD else itI (redRnd d.2.2.2.2.2.1) (redE d) 0 d.2.2.2.2.2.2.1 ([], [])
theorem stl_reduce {d : Doc} (hs : smallD d) : stl_Reduce fuelH d = redD d := by
  unfold stl_Reduce redD
  rw [bnd_s (document_check hs)]
  by_cases c1 : docChk d ≠ 0
  · rw [cnd_t (ine_t c1), if_pos c1]; rfl
  rw [cnd_f (ine_f (by simpa using c1)), if_neg c1, jn_e]
  obtain ⟨hn, hev⟩ := chk_evs (d := d) (by simpa using c1)
  unfold redE
  have hsm := hs.2.2.1
  have hpl := fun x hx => placed_eq (d := d) (x := x) (hsm x hx) hs.2.1 (hev x hx)
  have hok : ∀ x ∈ d.2.2.2.2.2.2.1, (∀ l ∈ x.2.2.2.2.2, okR l) ∧ x.2.2.2.2.2.length ≤ 4 := fun x hx => by
    obtain ⟨_, _, _, _, h5, h6, _⟩ := ev_ok (hev x hx)
    exact ⟨fun l hl => rowE_ok (hsm x hx l hl) (h6 l hl), h5⟩
  generalize hl : d.2.2.2.2.2.2.1 = l at hn hev hpl hok ⊢
  refine Eq.trans (lst_it (l := l) (fun (a : List Reg × List Ev) (p : Nat) => ((p : Int), d.1, d.2.1, d.2.2.1, d.2.2.2.1, len l, a.1, a.2, ([] : List Cmt))) (redRnd d.2.2.2.2.2.1) (fun a => some (d.1, d.2.1, d.2.2.1, d.2.2.2.1, len l, a.1, a.2, [])) (fun i a => a.1.length ≤ i ∧ a.2.length ≤ i) (fun self a i hi ha => ?_) (fun self a _ => ?_) fuelH 0 ([], []) (Nat.zero_le _) (by have := fuelH_eq; omega) ⟨Nat.le_refl _, Nat.le_refl _⟩) ?_
  · have hx := List.getElem_mem hi
    have hal := addS_len a.1 (regOf (placeE l[i] d.2.2.2.2.2.1))
    simp only
    rw [cnd_t (ilt_t (by simp only [len]; omega)), grd_t (inb_t (by simp only [len]; omega)), lget_i hi, bnd_s (hpl _ hx).1, bnd_s (regOf_eq (place_bd (hev _ hx))).1, bnd_s (stl_add_eq _ (by omega)), bnd_s (stl_bare_eq (hok _ hx).1 (by have := (hok _ hx).2; omega)), grd_t (room_t (by simp only [iadd, len, List.length_singleton]; omega)), w64_succ hi (by omega)]
    exact ⟨rfl, by simp only; omega, by simp only [List.length_append, List.length_singleton]; omega⟩
  · simp only
    rw [cnd_f (ilt_f (by simp only [len]; omega))]
  · rw [List.drop_zero]
theorem r24_reduce {d : Doc} (hs : smallD d) : r24_Reduce fuelH d = redD d := by
  unfold r24_Reduce redD
  rw [bnd_s (r12_check hs)]
  by_cases c1 : docChk d ≠ 0
  · rw [cnd_t (ine_t c1), if_pos c1]; rfl
  rw [cnd_f (ine_f (by simpa using c1)), if_neg c1, jn_e]
  obtain ⟨hn, hev⟩ := chk_evs (d := d) (by simpa using c1)
  unfold redE
  have hsm := hs.2.2.1
  have hpl := fun x hx => placed_eq (d := d) (x := x) (hsm x hx) hs.2.1 (hev x hx)
  have hok : ∀ x ∈ d.2.2.2.2.2.2.1, (∀ l ∈ x.2.2.2.2.2, okR l) ∧ x.2.2.2.2.2.length ≤ 4 := fun x hx => by
    obtain ⟨_, _, _, _, h5, h6, _⟩ := ev_ok (hev x hx)
    exact ⟨fun l hl => rowE_ok (hsm x hx l hl) (h6 l hl), h5⟩
  generalize hl : d.2.2.2.2.2.2.1 = l at hn hev hpl hok ⊢
  refine Eq.trans (lst_it (l := l) (fun (a : List Reg × List Ev) (p : Nat) => ((p : Int), d.1, d.2.1, d.2.2.1, d.2.2.2.1, len l, a.1, a.2, ([] : List Cmt))) (redRnd d.2.2.2.2.2.1) (fun a => some (d.1, d.2.1, d.2.2.1, d.2.2.2.1, len l, a.1, a.2, [])) (fun i a => a.1.length ≤ i ∧ a.2.length ≤ i ∧ srt a.1) (fun self a i hi ha => ?_) (fun self a _ => ?_) fuelH 0 ([], []) (Nat.zero_le _) (by have := fuelH_eq; omega) ⟨Nat.le_refl _, Nat.le_refl _, List.Pairwise.nil⟩) ?_
  · have hx := List.getElem_mem hi
    have hal := addS_len a.1 (regOf (placeE l[i] d.2.2.2.2.2.1))
    simp only
    rw [cnd_t (ilt_t (by simp only [len]; omega)), grd_t (inb_t (by simp only [len]; omega)), lget_i hi, bnd_s (hpl _ hx).2, bnd_s (regOf_eq (place_bd (hev _ hx))).2, bnd_s (r24_with_eq _ ha.2.2 (by omega)), bnd_s (r24_bare_eq (hok _ hx).1 (by have := (hok _ hx).2; omega)), grd_t (room_t (by simp only [iadd, len, List.length_singleton]; omega)), w64_succ hi (by omega)]
    exact ⟨rfl, by simp only; omega, by simp only [List.length_append, List.length_singleton]; omega, srt_add _ _ ha.2.2⟩
  · simp only
    rw [cnd_f (ilt_f (by simp only [len]; omega))]
  · rw [List.drop_zero]
end
end Go.Mo
end

section
/-
  Plain facts: a document is the same as itself; StlAccepts returns true.
-/
namespace Go.Mo
open Go Go.W Go.Lib
set_option maxRecDepth 100000
noncomputable section

theorem regs_self {l : List Reg} (hl : l.length ≤ 1000000) : slices_Equal_Lapi_Region_api_Region fuelH (l, l) = some true := by
  unfold slices_Equal_Lapi_Region_api_Region
  simp only
  rw [cnd_f (ine_f rfl), jn_e]
  refine loop_inv (n := l.length) (fun (_ : Unit) (i : Nat) => (i : Int)) (fun _ _ => True) _ (fun self a i hi _ => ⟨(), ?_, trivial⟩) (fun self a _ => ?_) fuelH 0 () (Nat.zero_le _) (by have := fuelH_eq; omega) trivial
  · have hin : inb (i : Int) (len l) = true := inb_t (by simp only [len]; omega)
    rw [cnd_t (ilt_t (by simp only [len]; omega)), grd_t hin, grd_t hin, lget_i hi, w64_succ hi (by omega), cnd_f]
    rw [← Bool.not_eq_true, bnot_t, Bool.eq_false_iff]
    intro h
    refine h ?_
    simp only [band_tt, seq_t, ieq_tt, beqb_t]
    simp
  · rw [cnd_f (ilt_f (by simp only [len]; omega))]
theorem ev_self {x : Ev} (h1 : x.2.2.2.2.2.length ≤ 4000000) (h2 : ∀ r ∈ x.2.2.2.2.2, r.length ≤ 4000000) : event_Same fuelH (x, x) = some true := by
  unfold event_Same
  simp only
  rw [cnd_t (ieq_t rfl), cnd_t (by simp [band_tt, ieq_tt]), cnd_t (by rw [seq_t]), cnd_t (ieq_t rfl), cnd_t (by rw [seq_t]), same_rows _ _ h1 h2, bnd_some']
  simp
theorem evs_self {l : List Ev} (hl : l.length ≤ 1000000) (h : ∀ x ∈ l, x.2.2.2.2.2.length ≤ 4000000 ∧ ∀ r ∈ x.2.2.2.2.2, r.length ≤ 4000000) : slices_EqualFunc_Lapi_Event_Lapi_Event_api_Event_api_Event fuelH (l, l) = some true := by
  unfold slices_EqualFunc_Lapi_Event_Lapi_Event_api_Event_api_Event
  simp only
  rw [cnd_f (ine_f rfl), jn_e]
  refine loop_inv (n := l.length) (fun (_ : Unit) (i : Nat) => (i : Int)) (fun _ _ => True) _ (fun self a i hi _ => ⟨(), ?_, trivial⟩) (fun self a _ => ?_) fuelH 0 () (Nat.zero_le _) (by have := fuelH_eq; omega) trivial
  · have hin : inb (i : Int) (len l) = true := inb_t (by simp only [len]; omega)
    obtain ⟨h1, h2⟩ := h _ (List.getElem_mem hi)
    rw [cnd_t (ilt_t (by simp only [len]; omega)), grd_t hin, grd_t hin, lget_i hi, w64_succ hi (by omega), bnd_s (ev_self h1 h2), cnd_f (by rfl)]
  · rw [cnd_f (ilt_f (by simp only [len]; omega))]
theorem doc_self {d : Doc} (h1 : d.2.2.2.2.2.1.length ≤ 1000000) (h2 : d.2.2.2.2.2.2.1.length ≤ 1000000) (h3 : ∀ x ∈ d.2.2.2.2.2.2.1, x.2.2.2.2.2.length ≤ 4000000 ∧ ∀ r ∈ x.2.2.2.2.2, r.length ≤ 4000000) (h4 : d.2.2.2.2.2.2.2 = []) : document_Same fuelH (d, d) = some true := by
  unfold document_Same
  have hh : document_Head fuelH d = some (d.1, d.2.1, d.2.2.1, d.2.2.2.1, d.2.2.2.2.1) := rfl
  simp only
  rw [hh, bnd_some', bnd_some', cnd_t (by simp [band_tt, ieq_tt, seq_t, beqb_t]), regs_self h1, bnd_some', cnd_t rfl, evs_self h2 h3, bnd_some', cnd_t rfl, h4]
  have : slices_Equal_Lapi_Comment_api_Comment fuelH ([], []) = some true := by kernel_rfl
  rw [this]
  rfl

theorem red_small {rs : List Reg} (d : Doc) : ∀ (l : List Ev) (i : Nat) (a : List Reg × List Ev), (∀ x ∈ l, (∀ q ∈ x.2.2.2.2.2, okR q) ∧ x.2.2.2.2.2.length ≤ 4) → (∀ x ∈ a.2, x.2.2.2.2.2.length ≤ 4000000 ∧ ∀ r ∈ x.2.2.2.2.2, r.length ≤ 4000000) →
    ∃ y : Doc, itI (redRnd rs) (redE d) i l a = some y ∧ y.2.2.2.2.2.1.length ≤ a.1.length + l.length ∧ y.2.2.2.2.2.2.1.length ≤ a.2.length + l.length ∧ (∀ x ∈ y.2.2.2.2.2.2.1, x.2.2.2.2.2.length ≤ 4000000 ∧ ∀ r ∈ x.2.2.2.2.2, r.length ≤ 4000000) ∧ y.2.2.2.2.2.2.2 = []
  | [], i, a, _, ha => ⟨_, rfl, Nat.le_refl _, Nat.le_refl _, ha, rfl⟩
  | x :: l, i, a, h, ha => by
    simp only [itI, redRnd]
    obtain ⟨k1, k2⟩ := h x List.mem_cons_self
    obtain ⟨y, e1, e2, e3, e4, e5⟩ := red_small (rs := rs) d l (i + 1) (addS a.1 (regOf (placeE x rs)), a.2 ++ [evR rs i x]) (fun z hz => h z (List.mem_cons_of_mem _ hz)) (fun z hz => by
      rcases List.mem_append.1 hz with hz | hz
      · exact ha z hz
      · rw [List.mem_singleton.1 hz]
        unfold evR
        simp only
        refine ⟨by rw [List.length_map]; omega, fun r hr => ?_⟩
        obtain ⟨q, hq, rfl⟩ := List.mem_map.1 hr
        have h1 := normR_len (q.map bare)
        have h2 := (k1 q hq).1
        rw [List.length_map] at h1
        show (normR (q.map bare)).length ≤ _
        omega)
    have hal := addS_len a.1 (regOf (placeE x rs))
    refine ⟨y, e1, ?_, ?_, e4, e5⟩
    · simp only [List.length_cons] at e2 ⊢; omega
    · simp only [List.length_append, List.length_cons, List.length_nil] at e3 ⊢; omega
theorem redD_small {d : Doc} (hs : smallD d) : ∃ y, redD d = some y ∧ document_Same fuelH (y, y) = some true := by
  unfold redD
  by_cases c1 : docChk d ≠ 0
  · rw [if_pos c1]
    exact ⟨_, rfl, doc_self (by simp [noD]) (by simp [noD]) (fun x hx => by cases hx) rfl⟩
  · rw [if_neg c1]
    obtain ⟨hn, hev⟩ := chk_evs (d := d) (by simpa using c1)
    have hsm := hs.2.2.1
    obtain ⟨y, e1, e2, e3, e4, e5⟩ := red_small (rs := d.2.2.2.2.2.1) d d.2.2.2.2.2.2.1 0 ([], []) (fun x hx => by
      obtain ⟨_, _, _, _, h5, h6, _⟩ := ev_ok (hev x hx)
      exact ⟨fun l hl => rowE_ok (hsm x hx l hl) (h6 l hl), h5⟩) (fun x hx => by cases hx)
    simp only [List.length_nil, Nat.zero_add] at e2 e3
    exact ⟨y, e1, doc_self (by omega) (by omega) e4 e5⟩
end
end Go.Mo
end

section
/-
  Plain facts: StlAccepts returns true.
-/
namespace Go.Mo
open Go Go.W Go.Lib
set_option maxRecDepth 100000
noncomputable section

def wtG (r : Reg) : Nat := r.1.length + 1 + (1 + (1 + (1 + (1 + (1 + 1)))))
def wtX (x : Ev) : Nat := 1 + (1 + 1 + (x.2.2.1.length + 1 + (1 + (x.2.2.2.2.1.length + 1 + (bkL wtR x.2.2.2.2.2 + 1)))))
def wtC (c : Cmt) : Nat := 1 + (1 + (1 + (1 + (c.2.2.2.2.1.length + 1 + (c.2.2.2.2.2.1.length + 1 + (1 + 1))))))
def wtD (d : Doc) : Nat := d.1.length + 1 + (d.2.1.length + 1 + (1 + (1 + (1 + (bkL wtG d.2.2.2.2.2.1 + 1 + (bkL wtX d.2.2.2.2.2.2.1 + 1 + (bkL wtC d.2.2.2.2.2.2.2 + 1)))))))
def fewD (d : Doc) : Doc := (d.1, d.2.1, d.2.2.1, d.2.2.2.1, d.2.2.2.2.1, d.2.2.2.2.2.1.take 6, d.2.2.2.2.2.2.1.take 5, d.2.2.2.2.2.2.2.take 4)
theorem few_eq (d : Doc) : l24_few fuelH d = some (fewD d) := by
  unfold l24_few fewD
  obtain ⟨e1, e2⟩ := min_take d.2.2.2.2.2.2.1 5
  obtain ⟨e3, e4⟩ := min_take d.2.2.2.2.2.2.2 4
  obtain ⟨e5, e6⟩ := min_take d.2.2.2.2.2.1 6
  have e1 : ltake (toN (imin (len d.2.2.2.2.2.2.1) (5 : Int))) d.2.2.2.2.2.2.1 = _ := e1
  have e3 : ltake (toN (imin (len d.2.2.2.2.2.2.2) (4 : Int))) d.2.2.2.2.2.2.2 = _ := e3
  have e5 : ltake (toN (imin (len d.2.2.2.2.2.1) (6 : Int))) d.2.2.2.2.2.1 = _ := e5
  rw [grd_t (show in2 (imin (len d.2.2.2.2.2.2.1) (5 : Int)) (len d.2.2.2.2.2.2.1) = true from e2), grd_t (show in2 (imin (len d.2.2.2.2.2.2.2) (4 : Int)) (len d.2.2.2.2.2.2.2) = true from e4), grd_t (show in2 (imin (len d.2.2.2.2.2.1) (6 : Int)) (len d.2.2.2.2.2.1) = true from e6), e1, e3, e5]
theorem few_small {d : Doc} (hb : wtD d ≤ 1048576) : smallD (fewD d) := by
  unfold wtD at hb
  refine ⟨by show d.1.length ≤ _; omega, by show (d.2.2.2.2.2.1.take 6).length ≤ _; rw [List.length_take]; omega, fun x hx => ?_, fun c hc => ?_⟩
  · have hx : x ∈ d.2.2.2.2.2.2.1 := List.mem_of_mem_take (show x ∈ d.2.2.2.2.2.2.1.take 5 from hx)
    have h1 : 1 + (1 + 1 + (x.2.2.1.length + 1 + (1 + (x.2.2.2.2.1.length + 1 + (bkL wtR x.2.2.2.2.2 + 1))))) ≤ bkL wtX d.2.2.2.2.2.2.1 := bk_mem (f := wtX) hx
    intro r hr
    have h2 : bkL wtU r + 1 ≤ bkL wtR x.2.2.2.2.2 := bk_mem (f := wtR) hr
    have h3 := cost_wt r
    have h4 := tot_cost r
    exact ⟨short_wt (l := x.2.2.2.2.2) (B := 1048576) (by omega) (by omega) r hr, by omega⟩
  · have hc : c ∈ d.2.2.2.2.2.2.2 := List.mem_of_mem_take (show c ∈ d.2.2.2.2.2.2.2.take 4 from hc)
    have h1 : 1 + (1 + (1 + (1 + (c.2.2.2.2.1.length + 1 + (c.2.2.2.2.2.1.length + 1 + (1 + 1)))))) ≤ bkL wtC d.2.2.2.2.2.2.2 := bk_mem (f := wtC) hc
    omega
theorem accepts_true {x : Doc} (hb : wtD x ≤ 1048576) : l24_StlAccepts fuelH x = some true := by
  unfold l24_StlAccepts
  have hs := few_small hb
  obtain ⟨v, hv⟩ := accept_some (fewD x)
  obtain ⟨y, hy, hyy⟩ := redD_small hs
  rw [awake24, bnd_some', cnd_f (by rfl), few_eq, bnd_some', stl_accept hs, r24_accept hs, hv, bnd_some', bnd_some', cnd_t (ieq_t rfl), cnd_t (ieq_t rfl), stl_reduce hs, r24_reduce hs, hy, bnd_some', bnd_some', hyy]
  rfl
end
end Go.Mo
end
