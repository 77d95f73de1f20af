/-
  Texts put together, in build order: WK WO WD PA PB PC PD PE PF PG PHa PHb PHc PI PJ PK PL PMa PMb PN PH.
-/
import Derived.Test.YtcccboodapgejaaDoorZC
import Derived.ProofKit
import Derived.Deep.Slices
import Derived.Deep.Fields
import Derived.ChangeSame
import Derived.Below
import Derived.Carry
import Derived.OpenShut
import Derived.LaidMore
import Derived.Stop.Joined
import Derived.KernelRfl
import Derived.Lib.ValidLaws
import Derived.Lib.TrimUEq
import Derived.Lib.MapLaws
set_option linter.all false

section
/-
  The functions do what their models say. Printed by a program.
-/
namespace Go.Mo
open Go Go.W Go.Proofs
noncomputable section
set_option maxRecDepth 100000
theorem k_l23_example (N : Nat) : ConOk E ⟨11, ps_l23_example, rs_l23_example, l23_example N⟩ := by
  have hc : CallsOk E [] := callsOk_all (tab := []) trivial
  rw [← x_l23_example N]
  exact execF_ok envOk hc (drawn_ok envOk hc) (show E.P.funcs[11]? = some Tryd.f11 from by kernel_rfl) (by kernel_rfl) _ _ _
theorem k_tape_timed (N : Nat) : ConOk E ⟨55, ps_tape_timed, rs_tape_timed, tape_timed N⟩ := by
  have hc : CallsOk E [] := callsOk_all (tab := []) trivial
  rw [← x_tape_timed N]
  exact execF_ok envOk hc (drawn_ok envOk hc) (show E.P.funcs[55]? = some Tryd.f55 from by kernel_rfl) (by kernel_rfl) _ _ _
theorem k_bytealg_IndexByte (N : Nat) : ConOk E ⟨56, ps_bytealg_IndexByte, rs_bytealg_IndexByte, bytealg_IndexByte N⟩ := kh_bytealg_IndexByte N
theorem k_bytes_IndexByte (N : Nat) : ConOk E ⟨32, ps_bytes_IndexByte, rs_bytes_IndexByte, bytes_IndexByte N⟩ := by
  have hc : CallsOk E [⟨56, ps_bytealg_IndexByte, rs_bytealg_IndexByte, bytealg_IndexByte N⟩] := callsOk_all ⟨k_bytealg_IndexByte N, trivial⟩
  rw [← x_bytes_IndexByte N]
  exact execF_ok envOk hc (drawn_ok envOk hc) (show E.P.funcs[32]? = some Tryd.f32 from by kernel_rfl) (by kernel_rfl) _ _ _
theorem k_tape_Check (N : Nat) : ConOk E ⟨31, ps_tape_Check, rs_tape_Check, tape_Check N⟩ := by
  have hc : CallsOk E [⟨55, ps_tape_timed, rs_tape_timed, tape_timed N⟩, ⟨32, ps_bytes_IndexByte, rs_bytes_IndexByte, bytes_IndexByte N⟩] := callsOk_all ⟨k_tape_timed N, k_bytes_IndexByte N, trivial⟩
  rw [← x_tape_Check N]
  exact execF_ok envOk hc (drawn_ok envOk hc) (show E.P.funcs[31]? = some Tryd.f31 from by kernel_rfl) (by kernel_rfl) _ _ _
theorem k_bits_Mul32 (N : Nat) : ConOk E ⟨62, ps_bits_Mul32, rs_bits_Mul32, bits_Mul32 N⟩ := by
  have hc : CallsOk E [] := callsOk_all (tab := []) trivial
  rw [← x_bits_Mul32 N]
  exact execF_ok envOk hc (drawn_ok envOk hc) (show E.P.funcs[62]? = some Tryd.f62 from by kernel_rfl) (by kernel_rfl) _ _ _
theorem k_bits_Mul64 (N : Nat) : ConOk E ⟨63, ps_bits_Mul64, rs_bits_Mul64, bits_Mul64 N⟩ := by
  have hc : CallsOk E [] := callsOk_all (tab := []) trivial
  rw [← x_bits_Mul64 N]
  exact execF_ok envOk hc (drawn_ok envOk hc) (show E.P.funcs[63]? = some Tryd.f63 from by kernel_rfl) (by kernel_rfl) _ _ _
theorem k_bits_Mul (N : Nat) : ConOk E ⟨35, ps_bits_Mul, rs_bits_Mul, bits_Mul N⟩ := by
  have hc : CallsOk E [⟨62, ps_bits_Mul32, rs_bits_Mul32, bits_Mul32 N⟩, ⟨63, ps_bits_Mul64, rs_bits_Mul64, bits_Mul64 N⟩] := callsOk_all ⟨k_bits_Mul32 N, k_bits_Mul64 N, trivial⟩
  rw [← x_bits_Mul N]
  exact execF_ok envOk hc (drawn_ok envOk hc) (show E.P.funcs[35]? = some Tryd.f35 from by kernel_rfl) (by kernel_rfl) _ _ _
theorem k_bytes_Repeat (N : Nat) : ConOk E ⟨14, ps_bytes_Repeat, rs_bytes_Repeat, bytes_Repeat N⟩ := by
  have hc : CallsOk E [⟨35, ps_bits_Mul, rs_bits_Mul, bits_Mul N⟩] := callsOk_all ⟨k_bits_Mul N, trivial⟩
  rw [← x_bytes_Repeat N]
  exact execF_ok envOk hc (drawn_ok envOk hc) (show E.P.funcs[14]? = some Tryd.f14 from by kernel_rfl) (by kernel_rfl) _ _ _
theorem k_tape_Put (N : Nat) : ConOk E ⟨10, ps_tape_Put, rs_tape_Put, tape_Put N⟩ := by
  have hc : CallsOk E [⟨31, ps_tape_Check, rs_tape_Check, tape_Check N⟩, ⟨14, ps_bytes_Repeat, rs_bytes_Repeat, bytes_Repeat N⟩] := callsOk_all ⟨k_tape_Check N, k_bytes_Repeat N, trivial⟩
  rw [← x_tape_Put N]
  exact execF_ok envOk hc (drawn_ok envOk hc) (show E.P.funcs[10]? = some Tryd.f10 from by kernel_rfl) (by kernel_rfl) _ _ _
theorem k_slices_Equal_Lbyte_byte (N : Nat) : ConOk E ⟨7, ps_slices_Equal_Lbyte_byte, rs_slices_Equal_Lbyte_byte, slices_Equal_Lbyte_byte N⟩ := by
  have hc : CallsOk E [] := callsOk_all (tab := []) trivial
  rw [← x_slices_Equal_Lbyte_byte N]
  exact execF_ok envOk hc (drawn_ok envOk hc) (show E.P.funcs[7]? = some Tryd.f7 from by kernel_rfl) (by kernel_rfl) _ _ _
theorem k_bytes_Clone (N : Nat) : ConOk E ⟨33, ps_bytes_Clone, rs_bytes_Clone, bytes_Clone N⟩ := by
  have hc : CallsOk E [] := callsOk_all (tab := []) trivial
  rw [← x_bytes_Clone N]
  exact execF_ok envOk hc (drawn_ok envOk hc) (show E.P.funcs[33]? = some Tryd.f33 from by kernel_rfl) (by kernel_rfl) _ _ _
theorem k_tape_Split (N : Nat) : ConOk E ⟨12, ps_tape_Split, rs_tape_Split, tape_Split N⟩ := by
  have hc : CallsOk E [⟨31, ps_tape_Check, rs_tape_Check, tape_Check N⟩, ⟨32, ps_bytes_IndexByte, rs_bytes_IndexByte, bytes_IndexByte N⟩, ⟨33, ps_bytes_Clone, rs_bytes_Clone, bytes_Clone N⟩] := callsOk_all ⟨k_tape_Check N, k_bytes_IndexByte N, k_bytes_Clone N, trivial⟩
  rw [← x_tape_Split N]
  exact execF_ok envOk hc (drawn_ok envOk hc) (show E.P.funcs[12]? = some Tryd.f12 from by kernel_rfl) (by kernel_rfl) _ _ _
theorem k_l23_awake (N : Nat) : ConOk E ⟨4, ps_l23_awake, rs_l23_awake, l23_awake N⟩ := by
  have hc : CallsOk E [⟨11, ps_l23_example, rs_l23_example, l23_example N⟩, ⟨10, ps_tape_Put, rs_tape_Put, tape_Put N⟩, ⟨7, ps_slices_Equal_Lbyte_byte, rs_slices_Equal_Lbyte_byte, slices_Equal_Lbyte_byte N⟩, ⟨12, ps_tape_Split, rs_tape_Split, tape_Split N⟩] := callsOk_all ⟨k_l23_example N, k_tape_Put N, k_slices_Equal_Lbyte_byte N, k_tape_Split N, trivial⟩
  rw [← x_l23_awake N]
  exact execF_ok envOk hc (drawn_ok envOk hc) (show E.P.funcs[4]? = some Tryd.f4 from by kernel_rfl) (by kernel_rfl) _ _ _
theorem k_lines_Name (N : Nat) : ConOk E ⟨23, ps_lines_Name, rs_lines_Name, lines_Name N⟩ := by
  have hc : CallsOk E [] := callsOk_all (tab := []) trivial
  rw [← x_lines_Name N]
  exact execF_ok envOk hc (drawn_ok envOk hc) (show E.P.funcs[23]? = some Tryd.f23 from by kernel_rfl) (by kernel_rfl) _ _ _
theorem k_utf8_word_string (N : Nat) : ConOk E ⟨73, ps_utf8_word_string, rs_utf8_word_string, utf8_word_string N⟩ := by
  have hc : CallsOk E [] := callsOk_all (tab := []) trivial
  rw [← x_utf8_word_string N]
  exact execF_ok envOk hc (drawn_ok envOk hc) (show E.P.funcs[73]? = some Tryd.f73 from by kernel_rfl) (by kernel_rfl) _ _ _
theorem k_utf8_ValidString (N : Nat) : ConOk E ⟨43, ps_utf8_ValidString, rs_utf8_ValidString, utf8_ValidString N⟩ := kh_utf8_ValidString N
theorem k_charset_place (N : Nat) : ConOk E ⟨74, ps_charset_place, rs_charset_place, charset_place N⟩ := by
  have hc : CallsOk E [] := callsOk_all (tab := []) trivial
  rw [← x_charset_place N]
  exact execF_ok envOk hc (drawn_ok envOk hc) (show E.P.funcs[74]? = some Tryd.f74 from by kernel_rfl) (by kernel_rfl) _ _ _
theorem k_charset_Index (N : Nat) : ConOk E ⟨44, ps_charset_Index, rs_charset_Index, charset_Index N⟩ := by
  have hc : CallsOk E [⟨74, ps_charset_place, rs_charset_place, charset_place N⟩] := callsOk_all ⟨k_charset_place N, trivial⟩
  rw [← x_charset_Index N]
  exact execF_ok envOk hc (drawn_ok envOk hc) (show E.P.funcs[44]? = some Tryd.f44 from by kernel_rfl) (by kernel_rfl) _ _ _
theorem k_charset_Valid (N : Nat) : ConOk E ⟨24, ps_charset_Valid, rs_charset_Valid, charset_Valid N⟩ := by
  have hc : CallsOk E [⟨43, ps_utf8_ValidString, rs_utf8_ValidString, utf8_ValidString N⟩, ⟨44, ps_charset_Index, rs_charset_Index, charset_Index N⟩] := callsOk_all ⟨k_utf8_ValidString N, k_charset_Index N, trivial⟩
  rw [← x_charset_Valid N]
  exact execF_ok envOk hc (drawn_ok envOk hc) (show E.P.funcs[24]? = some Tryd.f24 from by kernel_rfl) (by kernel_rfl) _ _ _
theorem k_timebase_of (N : Nat) : ConOk E ⟨77, ps_timebase_of, rs_timebase_of, timebase_of N⟩ := by
  have hc : CallsOk E [] := callsOk_all (tab := []) trivial
  rw [← x_timebase_of N]
  exact execF_ok envOk hc (drawn_ok envOk hc) (show E.P.funcs[77]? = some Tryd.f77 from by kernel_rfl) (by kernel_rfl) _ _ _
theorem k_timebase_Valid (N : Nat) : ConOk E ⟨75, ps_timebase_Valid, rs_timebase_Valid, timebase_Valid N⟩ := by
  have hc : CallsOk E [⟨77, ps_timebase_of, rs_timebase_of, timebase_of N⟩] := callsOk_all ⟨k_timebase_of N, trivial⟩
  rw [← x_timebase_Valid N]
  exact execF_ok envOk hc (drawn_ok envOk hc) (show E.P.funcs[75]? = some Tryd.f75 from by kernel_rfl) (by kernel_rfl) _ _ _
theorem k_timebase_CanDrop (N : Nat) : ConOk E ⟨76, ps_timebase_CanDrop, rs_timebase_CanDrop, timebase_CanDrop N⟩ := by
  have hc : CallsOk E [⟨77, ps_timebase_of, rs_timebase_of, timebase_of N⟩] := callsOk_all ⟨k_timebase_of N, trivial⟩
  rw [← x_timebase_CanDrop N]
  exact execF_ok envOk hc (drawn_ok envOk hc) (show E.P.funcs[76]? = some Tryd.f76 from by kernel_rfl) (by kernel_rfl) _ _ _
theorem k_timecode_rateError (N : Nat) : ConOk E ⟨45, ps_timecode_rateError, rs_timecode_rateError, timecode_rateError N⟩ := by
  have hc : CallsOk E [⟨75, ps_timebase_Valid, rs_timebase_Valid, timebase_Valid N⟩, ⟨76, ps_timebase_CanDrop, rs_timebase_CanDrop, timebase_CanDrop N⟩] := callsOk_all ⟨k_timebase_Valid N, k_timebase_CanDrop N, trivial⟩
  rw [← x_timecode_rateError N]
  exact execF_ok envOk hc (drawn_ok envOk hc) (show E.P.funcs[45]? = some Tryd.f45 from by kernel_rfl) (by kernel_rfl) _ _ _
theorem k_timebase_Nominal (N : Nat) : ConOk E ⟨46, ps_timebase_Nominal, rs_timebase_Nominal, timebase_Nominal N⟩ := by
  have hc : CallsOk E [⟨77, ps_timebase_of, rs_timebase_of, timebase_of N⟩] := callsOk_all ⟨k_timebase_of N, trivial⟩
  rw [← x_timebase_Nominal N]
  exact execF_ok envOk hc (drawn_ok envOk hc) (show E.P.funcs[46]? = some Tryd.f46 from by kernel_rfl) (by kernel_rfl) _ _ _
theorem k_timecode_dropped (N : Nat) : ConOk E ⟨47, ps_timecode_dropped, rs_timecode_dropped, timecode_dropped N⟩ := by
  have hc : CallsOk E [] := callsOk_all (tab := []) trivial
  rw [← x_timecode_dropped N]
  exact execF_ok envOk hc (drawn_ok envOk hc) (show E.P.funcs[47]? = some Tryd.f47 from by kernel_rfl) (by kernel_rfl) _ _ _
theorem k_timecode_Check (N : Nat) : ConOk E ⟨25, ps_timecode_Check, rs_timecode_Check, timecode_Check N⟩ := by
  have hc : CallsOk E [⟨45, ps_timecode_rateError, rs_timecode_rateError, timecode_rateError N⟩, ⟨46, ps_timebase_Nominal, rs_timebase_Nominal, timebase_Nominal N⟩, ⟨47, ps_timecode_dropped, rs_timecode_dropped, timecode_dropped N⟩] := callsOk_all ⟨k_timecode_rateError N, k_timebase_Nominal N, k_timecode_dropped N, trivial⟩
  rw [← x_timecode_Check N]
  exact execF_ok envOk hc (drawn_ok envOk hc) (show E.P.funcs[25]? = some Tryd.f25 from by kernel_rfl) (by kernel_rfl) _ _ _
theorem k_tape_CheckHeader (N : Nat) : ConOk E ⟨8, ps_tape_CheckHeader, rs_tape_CheckHeader, tape_CheckHeader N⟩ := by
  have hc : CallsOk E [⟨23, ps_lines_Name, rs_lines_Name, lines_Name N⟩, ⟨24, ps_charset_Valid, rs_charset_Valid, charset_Valid N⟩, ⟨25, ps_timecode_Check, rs_timecode_Check, timecode_Check N⟩] := callsOk_all ⟨k_lines_Name N, k_charset_Valid N, k_timecode_Check N, trivial⟩
  rw [← x_tape_CheckHeader N]
  exact execF_ok envOk hc (drawn_ok envOk hc) (show E.P.funcs[8]? = some Tryd.f8 from by kernel_rfl) (by kernel_rfl) _ _ _
theorem k_latin_Carries (N : Nat) : ConOk E ⟨57, ps_latin_Carries, rs_latin_Carries, latin_Carries N⟩ := by
  have hc : CallsOk E [⟨44, ps_charset_Index, rs_charset_Index, charset_Index N⟩] := callsOk_all ⟨k_charset_Index N, trivial⟩
  rw [← x_latin_Carries N]
  exact execF_ok envOk hc (drawn_ok envOk hc) (show E.P.funcs[57]? = some Tryd.f57 from by kernel_rfl) (by kernel_rfl) _ _ _
theorem k_latin_accented (N : Nat) : ConOk E ⟨59, ps_latin_accented, rs_latin_accented, latin_accented N⟩ := by
  have hc : CallsOk E [] := callsOk_all (tab := []) trivial
  rw [← x_latin_accented N]
  exact execF_ok envOk hc (drawn_ok envOk hc) (show E.P.funcs[59]? = some Tryd.f59 from by kernel_rfl) (by kernel_rfl) _ _ _
theorem k_charset_Upper (N : Nat) : ConOk E ⟨60, ps_charset_Upper, rs_charset_Upper, charset_Upper N⟩ := by
  have hc : CallsOk E [⟨44, ps_charset_Index, rs_charset_Index, charset_Index N⟩] := callsOk_all ⟨k_charset_Index N, trivial⟩
  rw [← x_charset_Upper N]
  exact execF_ok envOk hc (drawn_ok envOk hc) (show E.P.funcs[60]? = some Tryd.f60 from by kernel_rfl) (by kernel_rfl) _ _ _
theorem k_bytealg_IndexByteString (N : Nat) : ConOk E ⟨98, ps_bytealg_IndexByteString, rs_bytealg_IndexByteString, bytealg_IndexByteString N⟩ := kh_bytealg_IndexByteString N
theorem k_stringslite_IndexByte (N : Nat) : ConOk E ⟨97, ps_stringslite_IndexByte, rs_stringslite_IndexByte, stringslite_IndexByte N⟩ := by
  have hc : CallsOk E [⟨98, ps_bytealg_IndexByteString, rs_bytealg_IndexByteString, bytealg_IndexByteString N⟩] := callsOk_all ⟨k_bytealg_IndexByteString N, trivial⟩
  rw [← x_stringslite_IndexByte N]
  exact execF_ok envOk hc (drawn_ok envOk hc) (show E.P.funcs[97]? = some Tryd.f97 from by kernel_rfl) (by kernel_rfl) _ _ _
theorem k_strings_IndexByte (N : Nat) : ConOk E ⟨92, ps_strings_IndexByte, rs_strings_IndexByte, strings_IndexByte N⟩ := by
  have hc : CallsOk E [⟨97, ps_stringslite_IndexByte, rs_stringslite_IndexByte, stringslite_IndexByte N⟩] := callsOk_all ⟨k_stringslite_IndexByte N, trivial⟩
  rw [← x_strings_IndexByte N]
  exact execF_ok envOk hc (drawn_ok envOk hc) (show E.P.funcs[92]? = some Tryd.f92 from by kernel_rfl) (by kernel_rfl) _ _ _
theorem k_utf8_ValidRune (N : Nat) : ConOk E ⟨93, ps_utf8_ValidRune, rs_utf8_ValidRune, utf8_ValidRune N⟩ := by
  have hc : CallsOk E [] := callsOk_all (tab := []) trivial
  rw [← x_utf8_ValidRune N]
  exact execF_ok envOk hc (drawn_ok envOk hc) (show E.P.funcs[93]? = some Tryd.f93 from by kernel_rfl) (by kernel_rfl) _ _ _
theorem k_bytealg_Cutover (N : Nat) : ConOk E ⟨94, ps_bytealg_Cutover, rs_bytealg_Cutover, bytealg_Cutover N⟩ := by
  have hc : CallsOk E [] := callsOk_all (tab := []) trivial
  rw [← x_bytealg_Cutover N]
  exact execF_ok envOk hc (drawn_ok envOk hc) (show E.P.funcs[94]? = some Tryd.f94 from by kernel_rfl) (by kernel_rfl) _ _ _
theorem k_strings_IndexRune (N : Nat) : ConOk E ⟨84, ps_strings_IndexRune, rs_strings_IndexRune, strings_IndexRune N⟩ := by
  have hc : CallsOk E [⟨92, ps_strings_IndexByte, rs_strings_IndexByte, strings_IndexByte N⟩, ⟨93, ps_utf8_ValidRune, rs_utf8_ValidRune, utf8_ValidRune N⟩, ⟨94, ps_bytealg_Cutover, rs_bytealg_Cutover, bytealg_Cutover N⟩] := callsOk_all ⟨k_strings_IndexByte N, k_utf8_ValidRune N, k_bytealg_Cutover N, trivial⟩
  rw [← x_strings_IndexRune N]
  exact execF_ok envOk hc (drawn_ok envOk hc) (show E.P.funcs[84]? = some Tryd.f84 from by kernel_rfl) (by kernel_rfl) _ _ _
theorem k_strings_ContainsRune (N : Nat) : ConOk E ⟨58, ps_strings_ContainsRune, rs_strings_ContainsRune, strings_ContainsRune N⟩ := by
  have hc : CallsOk E [⟨84, ps_strings_IndexRune, rs_strings_IndexRune, strings_IndexRune N⟩] := callsOk_all ⟨k_strings_IndexRune N, trivial⟩
  rw [← x_strings_ContainsRune N]
  exact execF_ok envOk hc (drawn_ok envOk hc) (show E.P.funcs[58]? = some Tryd.f58 from by kernel_rfl) (by kernel_rfl) _ _ _
theorem k_charset_Base (N : Nat) : ConOk E ⟨61, ps_charset_Base, rs_charset_Base, charset_Base N⟩ := by
  have hc : CallsOk E [⟨44, ps_charset_Index, rs_charset_Index, charset_Index N⟩] := callsOk_all ⟨k_charset_Index N, trivial⟩
  rw [← x_charset_Base N]
  exact execF_ok envOk hc (drawn_ok envOk hc) (show E.P.funcs[61]? = some Tryd.f61 from by kernel_rfl) (by kernel_rfl) _ _ _
theorem k_latin_Put (N : Nat) : ConOk E ⟨34, ps_latin_Put, rs_latin_Put, latin_Put N⟩ := by
  have hc : CallsOk E [⟨57, ps_latin_Carries, rs_latin_Carries, latin_Carries N⟩, ⟨59, ps_latin_accented, rs_latin_accented, latin_accented N⟩, ⟨60, ps_charset_Upper, rs_charset_Upper, charset_Upper N⟩, ⟨58, ps_strings_ContainsRune, rs_strings_ContainsRune, strings_ContainsRune N⟩, ⟨61, ps_charset_Base, rs_charset_Base, charset_Base N⟩] := callsOk_all ⟨k_latin_Carries N, k_latin_accented N, k_charset_Upper N, k_strings_ContainsRune N, k_charset_Base N, trivial⟩
  rw [← x_latin_Put N]
  exact execF_ok envOk hc (drawn_ok envOk hc) (show E.P.funcs[34]? = some Tryd.f34 from by kernel_rfl) (by kernel_rfl) _ _ _
theorem k_latin_Encode (N : Nat) : ConOk E ⟨13, ps_latin_Encode, rs_latin_Encode, latin_Encode N⟩ := by
  have hc : CallsOk E [⟨24, ps_charset_Valid, rs_charset_Valid, charset_Valid N⟩, ⟨34, ps_latin_Put, rs_latin_Put, latin_Put N⟩] := callsOk_all ⟨k_charset_Valid N, k_latin_Put N, trivial⟩
  rw [← x_latin_Encode N]
  exact execF_ok envOk hc (drawn_ok envOk hc) (show E.P.funcs[13]? = some Tryd.f13 from by kernel_rfl) (by kernel_rfl) _ _ _
theorem k_tape_signature (N : Nat) : ConOk E ⟨15, ps_tape_signature, rs_tape_signature, tape_signature N⟩ := by
  have hc : CallsOk E [] := callsOk_all (tab := []) trivial
  rw [← x_tape_signature N]
  exact execF_ok envOk hc (drawn_ok envOk hc) (show E.P.funcs[15]? = some Tryd.f15 from by kernel_rfl) (by kernel_rfl) _ _ _
theorem k_tape_digits (N : Nat) : ConOk E ⟨16, ps_tape_digits, rs_tape_digits, tape_digits N⟩ := by
  have hc : CallsOk E [] := callsOk_all (tab := []) trivial
  rw [← x_tape_digits N]
  exact execF_ok envOk hc (drawn_ok envOk hc) (show E.P.funcs[16]? = some Tryd.f16 from by kernel_rfl) (by kernel_rfl) _ _ _
theorem k_tape_clock (N : Nat) : ConOk E ⟨17, ps_tape_clock, rs_tape_clock, tape_clock N⟩ := by
  have hc : CallsOk E [⟨16, ps_tape_digits, rs_tape_digits, tape_digits N⟩] := callsOk_all ⟨k_tape_digits N, trivial⟩
  rw [← x_tape_clock N]
  exact execF_ok envOk hc (drawn_ok envOk hc) (show E.P.funcs[17]? = some Tryd.f17 from by kernel_rfl) (by kernel_rfl) _ _ _
theorem k_tape_PutHeader (N : Nat) : ConOk E ⟨5, ps_tape_PutHeader, rs_tape_PutHeader, tape_PutHeader N⟩ := by
  have hc : CallsOk E [⟨8, ps_tape_CheckHeader, rs_tape_CheckHeader, tape_CheckHeader N⟩, ⟨13, ps_latin_Encode, rs_latin_Encode, latin_Encode N⟩, ⟨14, ps_bytes_Repeat, rs_bytes_Repeat, bytes_Repeat N⟩, ⟨15, ps_tape_signature, rs_tape_signature, tape_signature N⟩, ⟨16, ps_tape_digits, rs_tape_digits, tape_digits N⟩, ⟨17, ps_tape_clock, rs_tape_clock, tape_clock N⟩] := callsOk_all ⟨k_tape_CheckHeader N, k_latin_Encode N, k_bytes_Repeat N, k_tape_signature N, k_tape_digits N, k_tape_clock N, trivial⟩
  rw [← x_tape_PutHeader N]
  exact execF_ok envOk hc (drawn_ok envOk hc) (show E.P.funcs[5]? = some Tryd.f5 from by kernel_rfl) (by kernel_rfl) _ _ _
theorem k_r07_digit (N : Nat) : ConOk E ⟨64, ps_r07_digit, rs_r07_digit, r07_digit N⟩ := by
  have hc : CallsOk E [] := callsOk_all (tab := []) trivial
  rw [← x_r07_digit N]
  exact execF_ok envOk hc (drawn_ok envOk hc) (show E.P.funcs[64]? = some Tryd.f64 from by kernel_rfl) (by kernel_rfl) _ _ _
theorem k_r07_Name (N : Nat) : ConOk E ⟨37, ps_r07_Name, rs_r07_Name, r07_Name N⟩ := by
  have hc : CallsOk E [⟨64, ps_r07_digit, rs_r07_digit, r07_digit N⟩] := callsOk_all ⟨k_r07_digit N, trivial⟩
  rw [← x_r07_Name N]
  exact execF_ok envOk hc (drawn_ok envOk hc) (show E.P.funcs[37]? = some Tryd.f37 from by kernel_rfl) (by kernel_rfl) _ _ _
theorem k_r08_Repertoire (N : Nat) : ConOk E ⟨85, ps_r08_Repertoire, rs_r08_Repertoire, r08_Repertoire N⟩ := by
  have hc : CallsOk E [] := callsOk_all (tab := []) trivial
  rw [← x_r08_Repertoire N]
  exact execF_ok envOk hc (drawn_ok envOk hc) (show E.P.funcs[85]? = some Tryd.f85 from by kernel_rfl) (by kernel_rfl) _ _ _
theorem k_r08_Index (N : Nat) : ConOk E ⟨65, ps_r08_Index, rs_r08_Index, r08_Index N⟩ := by
  have hc : CallsOk E [⟨85, ps_r08_Repertoire, rs_r08_Repertoire, r08_Repertoire N⟩] := callsOk_all ⟨k_r08_Repertoire N, trivial⟩
  rw [← x_r08_Index N]
  exact execF_ok envOk hc (drawn_ok envOk hc) (show E.P.funcs[65]? = some Tryd.f65 from by kernel_rfl) (by kernel_rfl) _ _ _
theorem k_r08_Valid (N : Nat) : ConOk E ⟨38, ps_r08_Valid, rs_r08_Valid, r08_Valid N⟩ := by
  have hc : CallsOk E [⟨65, ps_r08_Index, rs_r08_Index, r08_Index N⟩] := callsOk_all ⟨k_r08_Index N, trivial⟩
  rw [← x_r08_Valid N]
  exact execF_ok envOk hc (drawn_ok envOk hc) (show E.P.funcs[38]? = some Tryd.f38 from by kernel_rfl) (by kernel_rfl) _ _ _
theorem k_r23_within (N : Nat) : ConOk E ⟨39, ps_r23_within, rs_r23_within, r23_within N⟩ := by
  have hc : CallsOk E [] := callsOk_all (tab := []) trivial
  rw [← x_r23_within N]
  exact execF_ok envOk hc (drawn_ok envOk hc) (show E.P.funcs[39]? = some Tryd.f39 from by kernel_rfl) (by kernel_rfl) _ _ _
theorem k_r02_Valid (N : Nat) : ConOk E ⟨86, ps_r02_Valid, rs_r02_Valid, r02_Valid N⟩ := by
  have hc : CallsOk E [] := callsOk_all (tab := []) trivial
  rw [← x_r02_Valid N]
  exact execF_ok envOk hc (drawn_ok envOk hc) (show E.P.funcs[86]? = some Tryd.f86 from by kernel_rfl) (by kernel_rfl) _ _ _
theorem k_r02_CanDrop (N : Nat) : ConOk E ⟨87, ps_r02_CanDrop, rs_r02_CanDrop, r02_CanDrop N⟩ := by
  have hc : CallsOk E [] := callsOk_all (tab := []) trivial
  rw [← x_r02_CanDrop N]
  exact execF_ok envOk hc (drawn_ok envOk hc) (show E.P.funcs[87]? = some Tryd.f87 from by kernel_rfl) (by kernel_rfl) _ _ _
theorem k_r03_kind (N : Nat) : ConOk E ⟨66, ps_r03_kind, rs_r03_kind, r03_kind N⟩ := by
  have hc : CallsOk E [⟨86, ps_r02_Valid, rs_r02_Valid, r02_Valid N⟩, ⟨87, ps_r02_CanDrop, rs_r02_CanDrop, r02_CanDrop N⟩] := callsOk_all ⟨k_r02_Valid N, k_r02_CanDrop N, trivial⟩
  rw [← x_r03_kind N]
  exact execF_ok envOk hc (drawn_ok envOk hc) (show E.P.funcs[66]? = some Tryd.f66 from by kernel_rfl) (by kernel_rfl) _ _ _
theorem k_r02_Nominal (N : Nat) : ConOk E ⟨67, ps_r02_Nominal, rs_r02_Nominal, r02_Nominal N⟩ := by
  have hc : CallsOk E [⟨86, ps_r02_Valid, rs_r02_Valid, r02_Valid N⟩] := callsOk_all ⟨k_r02_Valid N, trivial⟩
  rw [← x_r02_Nominal N]
  exact execF_ok envOk hc (drawn_ok envOk hc) (show E.P.funcs[67]? = some Tryd.f67 from by kernel_rfl) (by kernel_rfl) _ _ _
theorem k_r03_Dropped (N : Nat) : ConOk E ⟨68, ps_r03_Dropped, rs_r03_Dropped, r03_Dropped N⟩ := by
  have hc : CallsOk E [] := callsOk_all (tab := []) trivial
  rw [← x_r03_Dropped N]
  exact execF_ok envOk hc (drawn_ok envOk hc) (show E.P.funcs[68]? = some Tryd.f68 from by kernel_rfl) (by kernel_rfl) _ _ _
theorem k_r03_Check (N : Nat) : ConOk E ⟨40, ps_r03_Check, rs_r03_Check, r03_Check N⟩ := by
  have hc : CallsOk E [⟨66, ps_r03_kind, rs_r03_kind, r03_kind N⟩, ⟨67, ps_r02_Nominal, rs_r02_Nominal, r02_Nominal N⟩, ⟨68, ps_r03_Dropped, rs_r03_Dropped, r03_Dropped N⟩] := callsOk_all ⟨k_r03_kind N, k_r02_Nominal N, k_r03_Dropped N, trivial⟩
  rw [← x_r03_Check N]
  exact execF_ok envOk hc (drawn_ok envOk hc) (show E.P.funcs[40]? = some Tryd.f40 from by kernel_rfl) (by kernel_rfl) _ _ _
theorem k_r23_CheckHeader (N : Nat) : ConOk E ⟨18, ps_r23_CheckHeader, rs_r23_CheckHeader, r23_CheckHeader N⟩ := by
  have hc : CallsOk E [⟨37, ps_r07_Name, rs_r07_Name, r07_Name N⟩, ⟨38, ps_r08_Valid, rs_r08_Valid, r08_Valid N⟩, ⟨39, ps_r23_within, rs_r23_within, r23_within N⟩, ⟨40, ps_r03_Check, rs_r03_Check, r03_Check N⟩] := callsOk_all ⟨k_r07_Name N, k_r08_Valid N, k_r23_within N, k_r03_Check N, trivial⟩
  rw [← x_r23_CheckHeader N]
  exact execF_ok envOk hc (drawn_ok envOk hc) (show E.P.funcs[18]? = some Tryd.f18 from by kernel_rfl) (by kernel_rfl) _ _ _
theorem k_r08_runes (N : Nat) : ConOk E ⟨69, ps_r08_runes, rs_r08_runes, r08_runes N⟩ := by
  have hc : CallsOk E [] := callsOk_all (tab := []) trivial
  rw [← x_r08_runes N]
  exact execF_ok envOk hc (drawn_ok envOk hc) (show E.P.funcs[69]? = some Tryd.f69 from by kernel_rfl) (by kernel_rfl) _ _ _
theorem k_r08_Chars (N : Nat) : ConOk E ⟨41, ps_r08_Chars, rs_r08_Chars, r08_Chars N⟩ := by
  have hc : CallsOk E [⟨38, ps_r08_Valid, rs_r08_Valid, r08_Valid N⟩, ⟨69, ps_r08_runes, rs_r08_runes, r08_runes N⟩] := callsOk_all ⟨k_r08_Valid N, k_r08_runes N, trivial⟩
  rw [← x_r08_Chars N]
  exact execF_ok envOk hc (drawn_ok envOk hc) (show E.P.funcs[41]? = some Tryd.f41 from by kernel_rfl) (by kernel_rfl) _ _ _
theorem k_r22_Carries (N : Nat) : ConOk E ⟨70, ps_r22_Carries, rs_r22_Carries, r22_Carries N⟩ := by
  have hc : CallsOk E [⟨65, ps_r08_Index, rs_r08_Index, r08_Index N⟩] := callsOk_all ⟨k_r08_Index N, trivial⟩
  rw [← x_r22_Carries N]
  exact execF_ok envOk hc (drawn_ok envOk hc) (show E.P.funcs[70]? = some Tryd.f70 from by kernel_rfl) (by kernel_rfl) _ _ _
theorem k_r22_single (N : Nat) : ConOk E ⟨71, ps_r22_single, rs_r22_single, r22_single N⟩ := by
  have hc : CallsOk E [] := callsOk_all (tab := []) trivial
  rw [← x_r22_single N]
  exact execF_ok envOk hc (drawn_ok envOk hc) (show E.P.funcs[71]? = some Tryd.f71 from by kernel_rfl) (by kernel_rfl) _ _ _
theorem k_r22_double (N : Nat) : ConOk E ⟨72, ps_r22_double, rs_r22_double, r22_double N⟩ := by
  have hc : CallsOk E [] := callsOk_all (tab := []) trivial
  rw [← x_r22_double N]
  exact execF_ok envOk hc (drawn_ok envOk hc) (show E.P.funcs[72]? = some Tryd.f72 from by kernel_rfl) (by kernel_rfl) _ _ _
theorem k_r22_Put (N : Nat) : ConOk E ⟨42, ps_r22_Put, rs_r22_Put, r22_Put N⟩ := by
  have hc : CallsOk E [⟨70, ps_r22_Carries, rs_r22_Carries, r22_Carries N⟩, ⟨71, ps_r22_single, rs_r22_single, r22_single N⟩, ⟨72, ps_r22_double, rs_r22_double, r22_double N⟩] := callsOk_all ⟨k_r22_Carries N, k_r22_single N, k_r22_double N, trivial⟩
  rw [← x_r22_Put N]
  exact execF_ok envOk hc (drawn_ok envOk hc) (show E.P.funcs[42]? = some Tryd.f42 from by kernel_rfl) (by kernel_rfl) _ _ _
theorem k_r22_Encode (N : Nat) : ConOk E ⟨19, ps_r22_Encode, rs_r22_Encode, r22_Encode N⟩ := by
  have hc : CallsOk E [⟨38, ps_r08_Valid, rs_r08_Valid, r08_Valid N⟩, ⟨41, ps_r08_Chars, rs_r08_Chars, r08_Chars N⟩, ⟨42, ps_r22_Put, rs_r22_Put, r22_Put N⟩] := callsOk_all ⟨k_r08_Valid N, k_r08_Chars N, k_r22_Put N, trivial⟩
  rw [← x_r22_Encode N]
  exact execF_ok envOk hc (drawn_ok envOk hc) (show E.P.funcs[19]? = some Tryd.f19 from by kernel_rfl) (by kernel_rfl) _ _ _
theorem k_r23_fill (N : Nat) : ConOk E ⟨20, ps_r23_fill, rs_r23_fill, r23_fill N⟩ := by
  have hc : CallsOk E [] := callsOk_all (tab := []) trivial
  rw [← x_r23_fill N]
  exact execF_ok envOk hc (drawn_ok envOk hc) (show E.P.funcs[20]? = some Tryd.f20 from by kernel_rfl) (by kernel_rfl) _ _ _
theorem kr_r23_digits (N : Nat) : ∀ D, ConOk E ⟨21, ps_r23_digits, rs_r23_digits, r23_digits_r N D⟩
  | 0 => fun _ _ h => by cases h
  | D + 1 => by
    have hc : CallsOk E [⟨21, ps_r23_digits, rs_r23_digits, r23_digits_r N D⟩] := callsOk_all ⟨kr_r23_digits N D, trivial⟩
    rw [← x_r23_digits N D]
    exact execF_ok envOk hc (drawn_ok envOk hc) (show E.P.funcs[21]? = some Tryd.f21 from by kernel_rfl) (by kernel_rfl) _ _ _
theorem k_r23_digits (N : Nat) : ConOk E ⟨21, ps_r23_digits, rs_r23_digits, r23_digits N⟩ := kr_r23_digits N N
theorem k_r23_label (N : Nat) : ConOk E ⟨22, ps_r23_label, rs_r23_label, r23_label N⟩ := by
  have hc : CallsOk E [⟨21, ps_r23_digits, rs_r23_digits, r23_digits N⟩] := callsOk_all ⟨k_r23_digits N, trivial⟩
  rw [← x_r23_label N]
  exact execF_ok envOk hc (drawn_ok envOk hc) (show E.P.funcs[22]? = some Tryd.f22 from by kernel_rfl) (by kernel_rfl) _ _ _
theorem k_r23_PutHeader (N : Nat) : ConOk E ⟨6, ps_r23_PutHeader, rs_r23_PutHeader, r23_PutHeader N⟩ := by
  have hc : CallsOk E [⟨18, ps_r23_CheckHeader, rs_r23_CheckHeader, r23_CheckHeader N⟩, ⟨19, ps_r22_Encode, rs_r22_Encode, r22_Encode N⟩, ⟨20, ps_r23_fill, rs_r23_fill, r23_fill N⟩, ⟨21, ps_r23_digits, rs_r23_digits, r23_digits N⟩, ⟨22, ps_r23_label, rs_r23_label, r23_label N⟩] := callsOk_all ⟨k_r23_CheckHeader N, k_r22_Encode N, k_r23_fill N, k_r23_digits N, k_r23_label N, trivial⟩
  rw [← x_r23_PutHeader N]
  exact execF_ok envOk hc (drawn_ok envOk hc) (show E.P.funcs[6]? = some Tryd.f6 from by kernel_rfl) (by kernel_rfl) _ _ _
theorem k_tape_number (N : Nat) : ConOk E ⟨26, ps_tape_number, rs_tape_number, tape_number N⟩ := by
  have hc : CallsOk E [] := callsOk_all (tab := []) trivial
  rw [← x_tape_number N]
  exact execF_ok envOk hc (drawn_ok envOk hc) (show E.P.funcs[26]? = some Tryd.f26 from by kernel_rfl) (by kernel_rfl) _ _ _
theorem k_tape_label (N : Nat) : ConOk E ⟨27, ps_tape_label, rs_tape_label, tape_label N⟩ := by
  have hc : CallsOk E [⟨26, ps_tape_number, rs_tape_number, tape_number N⟩] := callsOk_all ⟨k_tape_number N, trivial⟩
  rw [← x_tape_label N]
  exact execF_ok envOk hc (drawn_ok envOk hc) (show E.P.funcs[27]? = some Tryd.f27 from by kernel_rfl) (by kernel_rfl) _ _ _
theorem k_bytes_trimRightByte (N : Nat) : ConOk E ⟨48, ps_bytes_trimRightByte, rs_bytes_trimRightByte, bytes_trimRightByte N⟩ := by
  have hc : CallsOk E [] := callsOk_all (tab := []) trivial
  rw [← x_bytes_trimRightByte N]
  exact execF_ok envOk hc (drawn_ok envOk hc) (show E.P.funcs[48]? = some Tryd.f48 from by kernel_rfl) (by kernel_rfl) _ _ _
theorem k_bytes_trimRightASCII (N : Nat) : ConOk E ⟨50, ps_bytes_trimRightASCII, rs_bytes_trimRightASCII, bytes_trimRightASCII N⟩ := by
  have hc : CallsOk E [] := callsOk_all (tab := []) trivial
  rw [← x_bytes_trimRightASCII N]
  exact execF_ok envOk hc (drawn_ok envOk hc) (show E.P.funcs[50]? = some Tryd.f50 from by kernel_rfl) (by kernel_rfl) _ _ _
theorem k_utf8_RuneStart (N : Nat) : ConOk E ⟨88, ps_utf8_RuneStart, rs_utf8_RuneStart, utf8_RuneStart N⟩ := by
  have hc : CallsOk E [] := callsOk_all (tab := []) trivial
  rw [← x_utf8_RuneStart N]
  exact execF_ok envOk hc (drawn_ok envOk hc) (show E.P.funcs[88]? = some Tryd.f88 from by kernel_rfl) (by kernel_rfl) _ _ _
theorem k_utf8_decodeRuneSlow (N : Nat) : ConOk E ⟨96, ps_utf8_decodeRuneSlow, rs_utf8_decodeRuneSlow, utf8_decodeRuneSlow N⟩ := by
  have hc : CallsOk E [] := callsOk_all (tab := []) trivial
  rw [← x_utf8_decodeRuneSlow N]
  exact execF_ok envOk hc (drawn_ok envOk hc) (show E.P.funcs[96]? = some Tryd.f96 from by kernel_rfl) (by kernel_rfl) _ _ _
theorem k_utf8_DecodeRune (N : Nat) : ConOk E ⟨89, ps_utf8_DecodeRune, rs_utf8_DecodeRune, utf8_DecodeRune N⟩ := by
  have hc : CallsOk E [⟨96, ps_utf8_decodeRuneSlow, rs_utf8_decodeRuneSlow, utf8_decodeRuneSlow N⟩] := callsOk_all ⟨k_utf8_decodeRuneSlow N, trivial⟩
  rw [← x_utf8_DecodeRune N]
  exact execF_ok envOk hc (drawn_ok envOk hc) (show E.P.funcs[89]? = some Tryd.f89 from by kernel_rfl) (by kernel_rfl) _ _ _
theorem k_utf8_DecodeLastRune (N : Nat) : ConOk E ⟨79, ps_utf8_DecodeLastRune, rs_utf8_DecodeLastRune, utf8_DecodeLastRune N⟩ := by
  have hc : CallsOk E [⟨88, ps_utf8_RuneStart, rs_utf8_RuneStart, utf8_RuneStart N⟩, ⟨89, ps_utf8_DecodeRune, rs_utf8_DecodeRune, utf8_DecodeRune N⟩] := callsOk_all ⟨k_utf8_RuneStart N, k_utf8_DecodeRune N, trivial⟩
  rw [← x_utf8_DecodeLastRune N]
  exact execF_ok envOk hc (drawn_ok envOk hc) (show E.P.funcs[79]? = some Tryd.f79 from by kernel_rfl) (by kernel_rfl) _ _ _
theorem k_bytes_containsRune (N : Nat) : ConOk E ⟨80, ps_bytes_containsRune, rs_bytes_containsRune, bytes_containsRune N⟩ := by
  have hc : CallsOk E [] := callsOk_all (tab := []) trivial
  rw [← x_bytes_containsRune N]
  exact execF_ok envOk hc (drawn_ok envOk hc) (show E.P.funcs[80]? = some Tryd.f80 from by kernel_rfl) (by kernel_rfl) _ _ _
theorem k_bytes_trimRightUnicode (N : Nat) : ConOk E ⟨51, ps_bytes_trimRightUnicode, rs_bytes_trimRightUnicode, bytes_trimRightUnicode N⟩ := by
  have hc : CallsOk E [⟨79, ps_utf8_DecodeLastRune, rs_utf8_DecodeLastRune, utf8_DecodeLastRune N⟩, ⟨80, ps_bytes_containsRune, rs_bytes_containsRune, bytes_containsRune N⟩] := callsOk_all ⟨k_utf8_DecodeLastRune N, k_bytes_containsRune N, trivial⟩
  rw [← x_bytes_trimRightUnicode N]
  exact execF_ok envOk hc (drawn_ok envOk hc) (show E.P.funcs[51]? = some Tryd.f51 from by kernel_rfl) (by kernel_rfl) _ _ _
theorem k_bytes_TrimRight (N : Nat) : ConOk E ⟨28, ps_bytes_TrimRight, rs_bytes_TrimRight, bytes_TrimRight N⟩ := by
  have hc : CallsOk E [⟨48, ps_bytes_trimRightByte, rs_bytes_trimRightByte, bytes_trimRightByte N⟩, ⟨50, ps_bytes_trimRightASCII, rs_bytes_trimRightASCII, bytes_trimRightASCII N⟩, ⟨51, ps_bytes_trimRightUnicode, rs_bytes_trimRightUnicode, bytes_trimRightUnicode N⟩] := callsOk_all ⟨k_bytes_trimRightByte N, k_bytes_trimRightASCII N, k_bytes_trimRightUnicode N, trivial⟩
  rw [← x_bytes_TrimRight N]
  exact execF_ok envOk hc (drawn_ok envOk hc) (show E.P.funcs[28]? = some Tryd.f28 from by kernel_rfl) (by kernel_rfl) _ _ _
theorem k_charset_Lower (N : Nat) : ConOk E ⟨81, ps_charset_Lower, rs_charset_Lower, charset_Lower N⟩ := by
  have hc : CallsOk E [⟨44, ps_charset_Index, rs_charset_Index, charset_Index N⟩] := callsOk_all ⟨k_charset_Index N, trivial⟩
  rw [← x_charset_Lower N]
  exact execF_ok envOk hc (drawn_ok envOk hc) (show E.P.funcs[81]? = some Tryd.f81 from by kernel_rfl) (by kernel_rfl) _ _ _
theorem k_latin_Get (N : Nat) : ConOk E ⟨52, ps_latin_Get, rs_latin_Get, latin_Get N⟩ := by
  have hc : CallsOk E [⟨59, ps_latin_accented, rs_latin_accented, latin_accented N⟩, ⟨81, ps_charset_Lower, rs_charset_Lower, charset_Lower N⟩, ⟨61, ps_charset_Base, rs_charset_Base, charset_Base N⟩] := callsOk_all ⟨k_latin_accented N, k_charset_Lower N, k_charset_Base N, trivial⟩
  rw [← x_latin_Get N]
  exact execF_ok envOk hc (drawn_ok envOk hc) (show E.P.funcs[52]? = some Tryd.f52 from by kernel_rfl) (by kernel_rfl) _ _ _
theorem k_strings_Builder_copyCheck (N : Nat) : ConOk E ⟨82, ps_strings_Builder_copyCheck, rs_strings_Builder_copyCheck, strings_Builder_copyCheck N⟩ := kh_strings_Builder_copyCheck N
theorem k_utf8_appendRuneNonASCII (N : Nat) : ConOk E ⟨91, ps_utf8_appendRuneNonASCII, rs_utf8_appendRuneNonASCII, utf8_appendRuneNonASCII N⟩ := by
  have hc : CallsOk E [] := callsOk_all (tab := []) trivial
  rw [← x_utf8_appendRuneNonASCII N]
  exact execF_ok envOk hc (drawn_ok envOk hc) (show E.P.funcs[91]? = some Tryd.f91 from by kernel_rfl) (by kernel_rfl) _ _ _
theorem k_utf8_AppendRune (N : Nat) : ConOk E ⟨83, ps_utf8_AppendRune, rs_utf8_AppendRune, utf8_AppendRune N⟩ := by
  have hc : CallsOk E [⟨91, ps_utf8_appendRuneNonASCII, rs_utf8_appendRuneNonASCII, utf8_appendRuneNonASCII N⟩] := callsOk_all ⟨k_utf8_appendRuneNonASCII N, trivial⟩
  rw [← x_utf8_AppendRune N]
  exact execF_ok envOk hc (drawn_ok envOk hc) (show E.P.funcs[83]? = some Tryd.f83 from by kernel_rfl) (by kernel_rfl) _ _ _
theorem k_strings_Builder_WriteRune (N : Nat) : ConOk E ⟨53, ps_strings_Builder_WriteRune, rs_strings_Builder_WriteRune, strings_Builder_WriteRune N⟩ := by
  have hc : CallsOk E [⟨82, ps_strings_Builder_copyCheck, rs_strings_Builder_copyCheck, strings_Builder_copyCheck N⟩, ⟨83, ps_utf8_AppendRune, rs_utf8_AppendRune, utf8_AppendRune N⟩] := callsOk_all ⟨k_strings_Builder_copyCheck N, k_utf8_AppendRune N, trivial⟩
  rw [← x_strings_Builder_WriteRune N]
  exact execF_ok envOk hc (drawn_ok envOk hc) (show E.P.funcs[53]? = some Tryd.f53 from by kernel_rfl) (by kernel_rfl) _ _ _
theorem k_latin_Decode (N : Nat) : ConOk E ⟨29, ps_latin_Decode, rs_latin_Decode, latin_Decode N⟩ := by
  have hc : CallsOk E [⟨52, ps_latin_Get, rs_latin_Get, latin_Get N⟩, ⟨53, ps_strings_Builder_WriteRune, rs_strings_Builder_WriteRune, strings_Builder_WriteRune N⟩] := callsOk_all ⟨k_latin_Get N, k_strings_Builder_WriteRune N, trivial⟩
  rw [← x_latin_Decode N]
  exact execF_ok envOk hc (drawn_ok envOk hc) (show E.P.funcs[29]? = some Tryd.f29 from by kernel_rfl) (by kernel_rfl) _ _ _
theorem k_bytes_Equal (N : Nat) : ConOk E ⟨30, ps_bytes_Equal, rs_bytes_Equal, bytes_Equal N⟩ := by
  have hc : CallsOk E [] := callsOk_all (tab := []) trivial
  rw [← x_bytes_Equal N]
  exact execF_ok envOk hc (drawn_ok envOk hc) (show E.P.funcs[30]? = some Tryd.f30 from by kernel_rfl) (by kernel_rfl) _ _ _
theorem k_tape_GetHeader (N : Nat) : ConOk E ⟨9, ps_tape_GetHeader, rs_tape_GetHeader, tape_GetHeader N⟩ := by
  have hc : CallsOk E [⟨26, ps_tape_number, rs_tape_number, tape_number N⟩, ⟨27, ps_tape_label, rs_tape_label, tape_label N⟩, ⟨15, ps_tape_signature, rs_tape_signature, tape_signature N⟩, ⟨28, ps_bytes_TrimRight, rs_bytes_TrimRight, bytes_TrimRight N⟩, ⟨29, ps_latin_Decode, rs_latin_Decode, latin_Decode N⟩, ⟨5, ps_tape_PutHeader, rs_tape_PutHeader, tape_PutHeader N⟩, ⟨30, ps_bytes_Equal, rs_bytes_Equal, bytes_Equal N⟩] := callsOk_all ⟨k_tape_number N, k_tape_label N, k_tape_signature N, k_bytes_TrimRight N, k_latin_Decode N, k_tape_PutHeader N, k_bytes_Equal N, trivial⟩
  rw [← x_tape_GetHeader N]
  exact execF_ok envOk hc (drawn_ok envOk hc) (show E.P.funcs[9]? = some Tryd.f9 from by kernel_rfl) (by kernel_rfl) _ _ _
theorem k_l23_TapeHeaders (N : Nat) : ConOk E ⟨3, ps_l23_TapeHeaders, rs_l23_TapeHeaders, l23_TapeHeaders N⟩ := by
  have hc : CallsOk E [⟨4, ps_l23_awake, rs_l23_awake, l23_awake N⟩, ⟨5, ps_tape_PutHeader, rs_tape_PutHeader, tape_PutHeader N⟩, ⟨6, ps_r23_PutHeader, rs_r23_PutHeader, r23_PutHeader N⟩, ⟨7, ps_slices_Equal_Lbyte_byte, rs_slices_Equal_Lbyte_byte, slices_Equal_Lbyte_byte N⟩, ⟨8, ps_tape_CheckHeader, rs_tape_CheckHeader, tape_CheckHeader N⟩, ⟨9, ps_tape_GetHeader, rs_tape_GetHeader, tape_GetHeader N⟩] := callsOk_all ⟨k_l23_awake N, k_tape_PutHeader N, k_r23_PutHeader N, k_slices_Equal_Lbyte_byte N, k_tape_CheckHeader N, k_tape_GetHeader N, trivial⟩
  rw [← x_l23_TapeHeaders N]
  exact execF_ok envOk hc (drawn_ok envOk hc) (show E.P.funcs[3]? = some Tryd.f3 from by kernel_rfl) (by kernel_rfl) _ _ _
end
end Go.Mo
end

section
/-
  Arguments of a law, opened to plain values; a law that has returned true. No program in it.
-/
namespace Go.W
open Go Go.RowKit Go.WideShapes Go.ChangeShapes Go.Deep

/-- the ranges of the numbers in a value, the lengths -/
def OkV : (T : Ty) → T.den → Prop
  | .int k, x => (Lit.int k x).wf = true
  | .str, s => List.length s ≤ maxLen
  | .slice t, xs => List.length xs ≤ maxLen ∧ ∀ x ∈ (xs : List t.den), OkV t x
  | .arr _ t, xs => ∀ x ∈ (xs : List t.den), OkV t x
  | .pair a b, x => OkV a x.1 ∧ OkV b x.2
  | .st t, x => OkV t x
  | _, _ => True

/-- no pointers, no interfaces -/
def Ty.plain : Ty → Bool
  | .slice t | .arr _ t | .st t => t.plain
  | .pair a b => a.plain && b.plain
  | .nptr | .nif => false
  | _ => true

/-- all that lies in the memory now -/
def kOf (w : World) : Kn := fun b o => match w.heap[b]? with
  | some (.cells cs _ _) => cs[o]?
  | _ => none
theorem kOf_cell {w : World} {a : Addr} {v : Value} (h : w.cell? a = some v) : a.spot = none ∧ kOf w a.block a.off = some v := by
  unfold World.cell? at h
  split at h
  · rename_i cs e fz hb
    split at h
    · cases h
    · rename_i hs
      refine ⟨by simpa using hs, ?_⟩
      unfold kOf
      rw [hb]
      exact h
  · cases h
theorem kOf_ok (w : World) : ∀ b o v, kOf w b o = some v → ∃ cs e fz, w.heap[b]? = some (.cells cs e fz) ∧ cs[o]? = some v := fun b o v h => by
  unfold kOf at h
  split at h
  · rename_i cs e fz hb; exact ⟨cs, e, fz, hb, h⟩
  · cases h

theorem repL_chunks {α : Type} {R : α → List Value → Prop} {Q : α → Prop} {sz : Nat} : ∀ (n : Nat) {es : List Value}, es.length = n * sz → (∀ i, i < n → ∃ a, R a ((es.drop (i * sz)).take sz) ∧ Q a) → ∃ xs : List α, xs.length = n ∧ RepL R xs es ∧ ∀ x ∈ xs, Q x
  | 0, es, hl, _ => ⟨[], rfl, List.eq_nil_of_length_eq_zero (by simpa using hl), fun x hx => by cases hx⟩
  | n + 1, es, hl, h => by
    obtain ⟨a, ha, hq⟩ := h 0 (Nat.succ_pos n)
    rw [Nat.zero_mul, List.drop_zero] at ha
    obtain ⟨xs, x1, x2, x3⟩ := repL_chunks (R := R) (Q := Q) (sz := sz) n (es := es.drop sz) (by rw [List.length_drop, hl, Nat.add_mul]; omega) (fun i hi => by
      obtain ⟨b, hb, hq⟩ := h (i + 1) (by omega)
      refine ⟨b, ?_, hq⟩
      rw [List.drop_drop]
      rw [Nat.add_mul, Nat.one_mul, Nat.add_comm] at hb
      exact hb)
    exact ⟨a :: xs, by simp [x1], ⟨_, _, (List.take_append_drop sz es).symm, ha, x2⟩, fun x hx => by
      rcases List.mem_cons.1 hx with hx | hx
      · rw [hx]; exact hq
      · exact x3 x hx⟩

section
variable {H : Type} {enc : TypeId × Value → H} {E : Env} {w : World} {base : Nat} {spare : Nat → Bool} {held : Bool}
theorem cellsOf_ok (hE : EnvOk E) {t : TypeId} {T : Ty} (ht : E.t t = some T) : E.P.cellsOf t = T.size := by
  obtain ⟨i, z, h1, h2, _⟩ := hE.info ht
  unfold Program.cellsOf
  rw [h1]
  exact h2
/-- what can be read of a type is a plain value -/
def Op1 (enc : TypeId × Value → H) (E : Env) (w : World) (base : Nat) (spare : Nat → Bool) (held : Bool) (T : Ty) : Prop :=
  ∀ (t : TypeId) (fuel : Nat) (cs : List Value) (x : DataW H × List MemPlace), E.t t = some T → DataW.trod enc E.P w base spare held fuel t cs = some x → ∃ a : T.den, RepC (kOf w) T a cs ∧ OkV T a
/-- fields -/
def Op2 (enc : TypeId × Value → H) (E : Env) (w : World) (base : Nat) (spare : Nat → Bool) (held : Bool) (B : Ty) : Prop :=
  ∀ (fs : List Field) (off n : Nat) (cs : List Value), fldOk E fs off B = true → off + B.size ≤ cs.length → (∀ (i : Nat) (f : Field), fs[i]? = some f → ∃ y, DataW.trod enc E.P w base spare held n f.type ((cs.drop f.offset).take (E.P.cellsOf f.type)) = some y) →
    ∃ a : B.den, RepC (kOf w) B a ((cs.drop off).take B.size) ∧ OkV B a
theorem op2_of (hE : EnvOk E) {B : Ty} (h : Op1 enc E w base spare held B) (hp : B.isPair = false) : Op2 enc E w base spare held B := by
  intro fs off n cs hf hl hr
  match fs, hf with
  | [], hf => cases hf
  | [f], hf =>
    simp only [fldOk, Bool.and_eq_true] at hf
    obtain ⟨⟨⟨h1, h2⟩, _⟩, _⟩ := hf
    have h1 := Nat.eq_of_beq_eq_true h1
    have ht := tyIs_eq h2
    obtain ⟨y, hy⟩ := hr 0 f rfl
    rw [h1, cellsOf_ok hE ht] at hy
    exact h f.type n _ y ht hy
  | f :: g :: r, hf =>
    cases B with
    | pair a b => cases hp
    | _ => cases hf
theorem opens_both (hE : EnvOk E) (T : Ty) (hpl : T.plain = true) : Op1 enc E w base spare held T ∧ Op2 enc E w base spare held T := by
  induction T with
  | int k =>
    have h : Op1 enc E w base spare held (.int k) := fun t fuel cs x ht hr => by
      obtain ⟨z, h1, _, hwf⟩ := DataW.trod_int (hE.und ht).1 hr
      exact ⟨z, h1, hwf⟩
    exact ⟨h, op2_of hE h rfl⟩
  | u8 =>
    have h : Op1 enc E w base spare held .u8 := fun t fuel cs x ht hr => by
      obtain ⟨z, h1, _, hwf⟩ := DataW.trod_int (hE.und ht) hr
      have hz : 0 ≤ z ∧ z ≤ 255 := by simpa [Lit.wf, IntKind.min, IntKind.max, IntKind.signed, IntKind.bits] using hwf
      refine ⟨b8 z, ?_, trivial⟩
      show cs = [.int .u8 (n8 (b8 z))]
      rw [h1]
      congr 2
      unfold n8 b8
      rw [UInt8.toNat_ofNat']
      omega
    exact ⟨h, op2_of hE h rfl⟩
  | bool =>
    have h : Op1 enc E w base spare held .bool := fun t fuel cs x ht hr => by
      obtain ⟨z, h1, _⟩ := DataW.trod_bool (hE.und ht) hr
      exact ⟨z, h1, trivial⟩
    exact ⟨h, op2_of hE h rfl⟩
  | str =>
    have h : Op1 enc E w base spare held .str := fun t fuel cs x ht hr => by
      obtain ⟨s, h1, _, hs⟩ := DataW.trod_string (hE.und ht) hr
      refine ⟨s.data.toList, ?_, ?_⟩
      · show cs = [.string (bst s.data.toList)]
        rw [h1]
        rfl
      · show s.data.toList.length ≤ maxLen
        have : s.data.toList.length = s.size := Array.length_toList
        omega
    exact ⟨h, op2_of hE h rfl⟩
  | slice T ih =>
    have ih := ih hpl
    have h : Op1 enc E w base spare held (.slice T) := fun t fuel cs x ht hr => by
      obtain ⟨te, hu, he⟩ := hE.und ht
      have hc := cellsOf_ok hE he
      have hpos : 0 < T.size := by obtain ⟨_, _, _, _, _, _, hpos, _⟩ := hE.info he; exact hpos
      rcases DataW.trod_slice hu hr with ⟨rfl, _⟩ | ⟨a, len, cap, elems, rest, n, rfl, rfl, _, hb, hl, hm, hel, hi, _⟩
      · exact ⟨[], ⟨none, 0, rfl, Nat.le_refl _, Nat.zero_le _, [], rfl, .inl rfl⟩, Nat.zero_le _, fun x hx => by cases hx⟩
      · rw [hc] at hi
        have hcell : ∀ j, j < len * T.size → ∃ v, w.cell? (a.add j) = some v := fun j hj => by
          have hq : j / T.size < len := (Nat.div_lt_iff_lt_mul hpos).2 hj
          have h1 := hi (j / T.size) hq
          rw [List.getElem?_eq_getElem (by omega)] at h1
          cases hcs : w.cells? base (a.add (j / T.size * T.size)) T.size with
          | none => rw [hcs] at h1; cases h1
          | some c =>
            obtain ⟨_, c2, c3⟩ := World.cells?_some hcs
            have := c3 (j % T.size) (Nat.mod_lt _ hpos)
            rw [add_add, Nat.div_add_mod'] at this
            rw [this]
            exact ⟨_, List.getElem?_eq_getElem (by rw [c2]; exact Nat.mod_lt _ hpos)⟩
        let es := (List.range (len * T.size)).map fun j => (w.cell? (a.add j)).getD undef
        have hes : ∀ j v, es[j]? = some v → w.cell? (a.add j) = some v := fun j v hv => by
          have hj : j < len * T.size := by have := (List.getElem?_eq_some_iff.1 hv).1; simpa [es] using this
          obtain ⟨u, hu⟩ := hcell j hj
          simp only [es, List.getElem?_map, List.getElem?_range hj, Option.map_some, hu, Option.getD_some, Option.some.injEq] at hv
          rw [hu, hv]
        obtain ⟨xs, x1, x2, x3⟩ := repL_chunks (R := RepC (kOf w) T) (Q := OkV T) (sz := T.size) len (es := es) (by simp [es]) (fun i hil => by
          have h1 := hi i hil
          rw [List.getElem?_eq_getElem (by omega)] at h1
          cases hcs : w.cells? base (a.add (i * T.size)) T.size with
          | none => rw [hcs] at h1; cases h1
          | some c =>
            rw [hcs] at h1
            obtain ⟨v, hv, hq⟩ := ih.1 te n c _ he h1
            obtain ⟨_, c2, c3⟩ := World.cells?_some hcs
            have : (es.drop (i * T.size)).take T.size = c := by
              apply List.ext_getElem?
              intro r
              rw [List.getElem?_take]
              split
              · rename_i hr
                rw [List.getElem?_drop]
                have hlt : i * T.size + r < len * T.size := by
                  have : (i + 1) * T.size ≤ len * T.size := Nat.mul_le_mul_right _ hil
                  rw [Nat.add_mul] at this
                  omega
                have := c3 r hr
                rw [add_add] at this
                simp only [es, List.getElem?_map, List.getElem?_range hlt, Option.map_some]
                rw [this, List.getElem?_eq_getElem (by omega)]
                rfl
              · rename_i hr
                rw [List.getElem?_eq_none (by omega)]
            exact ⟨v, by rw [this]; exact hv, hq⟩)
        refine ⟨xs, ⟨some a, cap, by show _ = [Value.slice _ (List.length xs) cap]; rw [x1], by show List.length xs ≤ cap; omega, hm, es, x2, ?_⟩, by show List.length xs ≤ maxLen; omega, x3⟩
        by_cases h0 : len * T.size = 0
        · left; apply List.eq_nil_of_length_eq_zero; simpa [es] using h0
        · right
          obtain ⟨v0, hv0⟩ := hcell 0 (by omega)
          have hs : a.spot = none := by
            have := (kOf_cell hv0).1
            simpa [Addr.add] using this
          refine ⟨a, rfl, hs, fun j v hv => ?_⟩
          have := (kOf_cell (hes j v hv)).2
          rw [add_parts hs] at this
          exact this
    exact ⟨h, op2_of hE h rfl⟩
  | arr n T ih =>
    have ih := ih hpl
    have h : Op1 enc E w base spare held (.arr n T) := fun t fuel cs x ht hr => by
      obtain ⟨te, hu, he, _⟩ := hE.und ht
      have hc := cellsOf_ok hE he
      obtain ⟨xs, m, _, _, hl, hxl, hf⟩ := DataW.trod_array hu hr
      rw [cellsOf_ok hE ht] at hl
      rw [hc] at hf
      obtain ⟨ys, y1, y2, y3⟩ := repL_chunks (R := RepC (kOf w) T) (Q := OkV T) (sz := T.size) n (es := cs) hl (fun i hi => by
        have h1 := hf i hi
        rw [List.getElem?_eq_getElem (by omega)] at h1
        exact ih.1 te m _ _ he h1)
      exact ⟨ys, ⟨y1, y2⟩, y3⟩
    exact ⟨h, op2_of hE h rfl⟩
  | unit => exact ⟨fun t fuel cs x ht hr => (hE.und ht).elim, op2_of hE (fun t fuel cs x ht hr => (hE.und ht).elim) rfl⟩
  | pair a b iha ihb =>
    simp only [Ty.plain, Bool.and_eq_true] at hpl
    have iha := iha hpl.1
    have ihb := ihb hpl.2
    refine ⟨fun t fuel cs x ht hr => (hE.und ht).elim, ?_⟩
    intro fs off n cs hf hl hr
    match fs, hf with
    | [], hf => cases hf
    | [f], hf => simp [fldOk, Ty.isPair] at hf
    | f :: g :: r, hf =>
      simp only [fldOk, Bool.and_eq_true] at hf
      obtain ⟨⟨⟨h1, h2⟩, _⟩, h4⟩ := hf
      have h1 := Nat.eq_of_beq_eq_true h1
      have ht := tyIs_eq h2
      obtain ⟨y, hy⟩ := hr 0 f rfl
      rw [h1, cellsOf_ok hE ht] at hy
      obtain ⟨va, r1, q1⟩ := iha.1 f.type n _ y ht hy
      have hsz : (Ty.pair a b).size = a.size + b.size := rfl
      rw [hsz] at hl ⊢
      obtain ⟨vb, r2, q2⟩ := ihb.2 (g :: r) (off + a.size) n cs h4 (by omega) (fun i f' hf' => hr (i + 1) f' hf')
      refine ⟨(va, vb), ⟨_, _, ?_, r1, r2⟩, q1, q2⟩
      rw [List.take_add, List.drop_drop]
  | st B ih =>
    have ih := ih hpl
    have h : Op1 enc E w base spare held (.st B) := fun t fuel cs x ht hr => by
      obtain ⟨fs, hu, hf, _⟩ := hE.und ht
      obtain ⟨xs, n, _, _, hl, hxl, hff⟩ := DataW.trod_struct hu hr
      rw [cellsOf_ok hE ht] at hl
      have hl : cs.length = B.size := hl
      obtain ⟨a, r1, q1⟩ := ih.2 fs.toList 0 n cs hf (by omega) (fun i f hfi => by
        have hfi' : fs[i]? = some f := by simpa using hfi
        have hi := (Array.getElem?_eq_some_iff.1 hfi').1
        have := hff i f hfi'
        rw [List.getElem?_eq_getElem (by omega)] at this
        exact ⟨_, this⟩)
      refine ⟨a, ?_, q1⟩
      rw [List.drop_zero, List.take_of_length_le (by omega)] at r1
      exact r1
    exact ⟨h, op2_of hE h rfl⟩
  | nptr => cases hpl
  | nif => cases hpl

/-! ### arguments of a law: values alone -/
def psOf : List Ty → List PK
  | [] => []
  | T :: Ts => .k (.v T []) :: psOf Ts
def OkVec : (Ts : List Ty) → Vec (kTys (kdP (psOf Ts))) → Prop
  | [], _ => True
  | T :: Ts, x => OkV T (vhd T (kTys (kdP (psOf Ts))) x) ∧ OkVec Ts (vtl T (kTys (kdP (psOf Ts))) x)
theorem vhd_vcons : ∀ (t : Ty) (ts : List Ty) (x : t.den) (v : Vec ts), vhd t ts (vcons t ts x v) = x
  | _, [], _, _ => rfl
  | _, _ :: _, _, _ => rfl
theorem vtl_vcons : ∀ (t : Ty) (ts : List Ty) (x : t.den) (v : Vec ts), vtl t ts (vcons t ts x v) = v
  | _, [], _, _ => rfl
  | _, _ :: _, _, _ => rfl
theorem psOf_len : ∀ Ts : List Ty, (psOf Ts).length = Ts.length
  | [] => rfl
  | _ :: Ts => by simp only [psOf, List.length_cons, psOf_len Ts]
theorem unmask_nil (tk : Nat) : ∀ (cs : List Cell) (i n : Nat), unmask [] tk i n cs = (cs, [])
  | [], _, _ => rfl
  | c :: cs, i, n => by simp only [unmask, memN, unmask_nil tk cs]
theorem unpackV_nil (T : Ty) (tk n : Nat) (x : T.den) : unpackV T [] tk n x = (valOf T x, []) := by
  unfold unpackV valOf
  rw [unmask_nil]
  cases T.agg <;> cases cellsOf T x <;> rfl
theorem valOf_of {γ : Ghs} {K : Kn} {T : Ty} {x : T.den} {V : Value} {cs : List Value} (h : RepC K T x cs) (hag : T.agg = true → V = .agg cs.toArray) (hno : T.agg = false → cs = [V]) : RepV γ K (valOf T x) V := by
  have hr := cellsOf_rep (γ := γ) h
  unfold valOf
  cases ha : T.agg with
  | true =>
    have : V = .agg cs.toArray := hag ha
    subst this
    exact ⟨cs, rfl, hr⟩
  | false =>
    have := hno ha
    subst this
    cases hc : cellsOf T x with
    | nil => rw [hc] at hr; cases hr
    | cons c r =>
      rw [hc] at hr
      obtain ⟨v, rr, e, h1, _⟩ := hr
      injection e with e1 e2
      subst e1
      exact h1
theorem arg_open (hE : EnvOk E) {T : Ty} (hpl : T.plain = true) (hna : ∀ n U, T ≠ .arr n U) {t : TypeId} {r : Reach} {b0 : Nat} {v : Value} {d : DataW H} {ps : List MemPlace} (ht : E.t t = some T) (hv : Value.okWide E.P w r b0 t v) (h : DataW.Trod enc E.P w base spare held t v d ps) :
    ∃ a : T.den, (∀ γ, RepV γ (kOf w) (valOf T a) v) ∧ OkV T a := by
  obtain ⟨fuel, hf⟩ := h
  obtain ⟨a, h1, h2⟩ := (opens_both hE T hpl).1 t fuel _ _ ht hf
  refine ⟨a, fun γ => valOf_of h1 (fun ha => ?_) (fun ha => ?_), h2⟩
  · cases T with
    | st B =>
      obtain ⟨fs, hu, _⟩ := hE.und ht
      obtain ⟨cs, rfl, _⟩ := okWide_struct hu hv
      simp [Value.cells]
    | arr n U => exact absurd rfl (hna n U)
    | _ => cases ha
  · cases T with
    | int k => obtain ⟨n, rfl⟩ := okWide_int (hE.und ht).1 hv; rfl
    | u8 => obtain ⟨n, rfl⟩ := okWide_int (hE.und ht) hv; rfl
    | bool => obtain ⟨n, rfl⟩ := okWide_bool (hE.und ht) hv; rfl
    | str => obtain ⟨n, rfl⟩ := okWide_string (hE.und ht) hv; rfl
    | slice U => obtain ⟨te, hu, _⟩ := hE.und ht; obtain ⟨_, _, _, rfl⟩ := okWide_slice hu hv; rfl
    | unit => exact (hE.und ht).elim
    | pair a b => exact (hE.und ht).elim
    | nptr => cases hpl
    | nif => cases hpl
    | _ => cases ha
def notArr : Ty → Bool
  | .arr _ _ => false
  | _ => true
theorem args_open (hE : EnvOk E) {r : Reach} {b0 : Nat} : ∀ (Ts : List Ty) (ts : List TypeId) (vs : List Value) (ds : List (DataW H)) (ps : List MemPlace), (∀ T ∈ Ts, T.plain = true ∧ notArr T = true) → ts.map E.t = Ts.map some → (∀ (j : Nat) t v, ts[j]? = some t → vs[j]? = some v → Value.okWide E.P w r b0 t v) → DataW.TrodAll enc E.P w base spare held ts vs ds ps →
    ∃ x : Vec (kTys (kdP (psOf Ts))), OkVec Ts x ∧ vs.length = Ts.length ∧ (unpackG 1 (kdP (psOf Ts)) 0 x).2 = [] ∧ ∀ i0 b, (inP (psOf Ts) (unpackG 1 (kdP (psOf Ts)) 0 x).1 i0 b).2 = [] ∧
      ∀ y v sv, lk (inP (psOf Ts) (unpackG 1 (kdP (psOf Ts)) 0 x).1 i0 b).1 y = some (v, sv) → v = 0 ∧ i0 ≤ y ∧ ∀ γ, RepSV γ (kOf w) sv (vs.getD (y - i0) undef)
  | [], ts, vs, ds, ps, _, hts, _, h => by
    cases ts with
    | cons _ _ => simp at hts
    | nil =>
      cases vs with
      | cons _ _ => cases ds <;> exact h.elim
      | nil => exact ⟨(), trivial, rfl, rfl, fun i0 b => ⟨rfl, fun y v sv hy => by cases hy⟩⟩
  | T :: Ts, ts, vs, ds, ps, hT, hts, hok, h => by
    cases ts with
    | nil => simp at hts
    | cons t ts =>
      simp only [List.map_cons, List.cons.injEq] at hts
      cases vs with
      | nil => cases ds <;> exact h.elim
      | cons v vs =>
        cases ds with
        | nil => exact h.elim
        | cons d ds =>
          obtain ⟨p, q, h1, h2, rfl⟩ := h
          obtain ⟨a, ha, hq⟩ := arg_open hE (hT T List.mem_cons_self).1 (fun n U e => by have := (hT T List.mem_cons_self).2; subst e; cases this) hts.1 (hok 0 t v rfl rfl) h1
          obtain ⟨x, x1, x2, x3, x4⟩ := args_open hE Ts ts vs ds q (fun U hU => hT U (List.mem_cons_of_mem _ hU)) hts.2 (fun j t' v' e1 e2 => hok (j + 1) t' v' e1 e2) h2
          have hu : unpackG 1 (kdP (psOf (T :: Ts))) 0 (vcons T (kTys (kdP (psOf Ts))) a x) = (.val (valOf T a) :: (unpackG 1 (kdP (psOf Ts)) 0 x).1, []) := by
            show (match unpackK 1 0 (.v T []) (vhd T (kTys (kdP (psOf Ts))) (vcons T (kTys (kdP (psOf Ts))) a x)) with
              | (p, os) => match unpackG 1 (kdP (psOf Ts)) (0 + lng os) (vtl T (kTys (kdP (psOf Ts))) (vcons T (kTys (kdP (psOf Ts))) a x)) with
                | (ps, os') => (p :: ps, app os os')) = _
            rw [vhd_vcons, vtl_vcons]
            simp only [unpackK, unpackV_nil, lng, Nat.add_zero]
            rw [show unpackG 1 (kdP (psOf Ts)) 0 x = ((unpackG 1 (kdP (psOf Ts)) 0 x).1, (unpackG 1 (kdP (psOf Ts)) 0 x).2) from rfl, x3]
            rfl
          refine ⟨vcons T _ a x, ⟨by rw [vhd_vcons]; exact hq, by rw [vtl_vcons]; exact x1⟩, by simp [x2], by rw [hu], fun i0 b => ?_⟩
          rw [hu]
          obtain ⟨y1, y2⟩ := x4 (i0 + 1) b
          refine ⟨y1, fun y v' sv hy => ?_⟩
          have hy : lk ((i0, 0, .val (valOf T a)) :: (inP (psOf Ts) (unpackG 1 (kdP (psOf Ts)) 0 x).1 (i0 + 1) b).1) y = some (v', sv) := hy
          by_cases hb : y = i0
          · subst hb
            have hy : some (0, SV.val (valOf T a)) = some (v', sv) := by
              rw [← hy]
              simp only [lk]
              rw [show Nat.beq y y = true by simp]
              rfl
            simp only [Option.some.injEq, Prod.mk.injEq] at hy
            obtain ⟨e1, e2⟩ := hy
            subst e1
            subst e2
            exact ⟨rfl, Nat.le_refl _, fun γ => by rw [Nat.sub_self]; exact ha γ⟩
          · have hbq : Nat.beq i0 y = false := by
              cases hq : Nat.beq i0 y with
              | false => rfl
              | true => exact absurd (Nat.eq_of_beq_eq_true hq).symm hb
            have hy : lk (inP (psOf Ts) (unpackG 1 (kdP (psOf Ts)) 0 x).1 (i0 + 1) b).1 y = some (v', sv) := by
              rw [← hy]
              conv => rhs; unfold lk
              rw [hbq]
              rfl
            obtain ⟨z1, z2, z3⟩ := y2 y v' sv hy
            refine ⟨z1, by omega, fun γ => ?_⟩
            have := z3 γ
            rw [show y - i0 = (y - (i0 + 1)) + 1 by omega]
            simpa using this

/-! ### a law is called -/
theorem law_call (_hE : EnvOk E) {f : Nat} {Ts : List Ty} {fn : Vec (kTys (kdP (psOf Ts))) → Option (Vec (kTys (app [.v .bool []] (kdB (psOf Ts)))))} (hc : ConOk E ⟨f, psOf Ts, [.v .bool []], fn⟩) {x : Vec (kTys (kdP (psOf Ts)))} {r : Vec (kTys (app [.v .bool []] (kdB (psOf Ts))))} (hx : fn x = some r)
    {vs : List Value} (hlen : vs.length = Ts.length) (h1 : (unpackG 1 (kdP (psOf Ts)) 0 x).2 = []) (h2 : ∀ i0 b, (inP (psOf Ts) (unpackG 1 (kdP (psOf Ts)) 0 x).1 i0 b).2 = [] ∧
      ∀ y v sv, lk (inP (psOf Ts) (unpackG 1 (kdP (psOf Ts)) 0 x).1 i0 b).1 y = some (v, sv) → v = 0 ∧ i0 ≤ y ∧ ∀ γ, RepSV γ (kOf w) sv (vs.getD (y - i0) undef)) (hg : GlobOk E (kOf w))
    (hnv : (callFunc f vs.toArray).run E.P w = .ok (.enter f vs.toArray) w) :
    Calls E.P f vs.toArray w fun e w' => ∃ V, e = .returned V ∧ Below w.heap.size w w' ∧ ∃ γ K, RepSV γ K (oneV (valsP [.v .bool []] (unpackG 1 (app [.v .bool []] (kdB (psOf Ts))) 0 r).1)) V := by
  have hpl := psOf_len Ts
  have hob : (start (psOf Ts) x).ob = [] := by
    unfold start
    rw [show unpackG 1 (kdP (psOf Ts)) 0 x = ((unpackG 1 (kdP (psOf Ts)) 0 x).1, (unpackG 1 (kdP (psOf Ts)) 0 x).2) from rfl, h1]
    have := (h2 0 (1 + lng ([] : List Ob))).1
    simp only
    rw [show inP (psOf Ts) (unpackG 1 (kdP (psOf Ts)) 0 x).1 0 (1 + lng ([] : List Ob)) = ((inP (psOf Ts) (unpackG 1 (kdP (psOf Ts)) 0 x).1 0 (1 + lng ([] : List Ob))).1, (inP (psOf Ts) (unpackG 1 (kdP (psOf Ts)) 0 x).1 0 (1 + lng ([] : List Ob))).2) from rfl, this]
    rfl
  have hsl : (start (psOf Ts) x).sl = (inP (psOf Ts) (unpackG 1 (kdP (psOf Ts)) 0 x).1 0 (1 + lng ([] : List Ob))).1 := by
    unfold start
    rw [show unpackG 1 (kdP (psOf Ts)) 0 x = ((unpackG 1 (kdP (psOf Ts)) 0 x).1, (unpackG 1 (kdP (psOf Ts)) 0 x).2) from rfl, h1]
  have hobs : ∀ j, obs (start (psOf Ts) x) j = none := fun j => by
    unfold obs
    rw [hob]
    rfl
  have hEnt : Ent E (psOf Ts) x w (kOf w) (fun _ => False) (fun _ => none) vs.toArray := by
    refine ⟨by simp [hlen, hpl], fun y v sv hy => ?_, ?_, hg, fun j g hg => (by cases hg), fun j e hj => (by rw [hob] at hj; cases hj)⟩
    · rw [hsl] at hy
      obtain ⟨z1, _, z3⟩ := (h2 0 _).2 y v sv hy
      refine ⟨z1, ?_⟩
      have := z3 (fun _ => none)
      rw [Nat.sub_zero] at this
      simpa using this
    · exact ⟨rfl, rfl, rfl, Nat.le_refl _, fun b _ _ => ⟨rfl, fun _ => rfl⟩, Kn.le.refl _, kOf_ok w, fun j o g hj => (by rw [hobs] at hj; cases hj), fun j o g hj => (by rw [hobs] at hj; cases hj), fun i j p q g g' hi => (by rw [hobs] at hi; cases hi)⟩
  rcases hc x r hx w (kOf w) _ _ vs.toArray hEnt with ⟨v, w', e1, _⟩ | ⟨_, h⟩
  · rw [hnv] at e1; cases e1
  · refine h.mono fun e w' he => ?_
    cases e with
    | returned V =>
      obtain ⟨γf, obF, Kf, gs, js, q1, q2, _, _, q5⟩ := he 1 Nat.one_pos
      refine ⟨V, rfl, ⟨q1.os, q1.tape, q1.output, q1.size, fun b hb => (q1.blk b hb (fun h => h)).1⟩, fun j => gs[j - 1]?, Kf, q5 _ fun k g hk => ?_⟩
      show gs[1 + (0 + k) - 1]? = some g
      rw [show 1 + (0 + k) - 1 = k by omega]
      exact hk
    | panicked ch => exact he.elim
    | outgrown => exact he.elim

theorem trodAll_len {P : Program} {W : World} : ∀ {ts : List TypeId} {vs : List Value} {ds : List (DataW H)} {ps : List MemPlace}, DataW.TrodAll enc P W base spare held ts vs ds ps → ds.length = ts.length
  | [], [], [], _, _ => rfl
  | _ :: _, _ :: _, _ :: _, _, ⟨_, _, _, h, _⟩ => by simp [trodAll_len h]
  | [], [], _ :: _, _, h => h.elim
  | [], _ :: _, _, _, h => h.elim
  | _ :: _, [], _, _, h => h.elim
  | _ :: _, _ :: _, [], _, h => h.elim
theorem trodAll_stays {P : Program} (hl : laidOutB P = true) {W W' : World} (hb : Below W.heap.size W W') : ∀ {ts : List TypeId} {vs : List Value} {ds : List (DataW H)} {ps : List MemPlace}, DataW.TrodAll enc P W 0 (fun _ => true) true ts vs ds ps →
    (∀ t ∈ ts, P.readableRec t = true ∧ t < P.types.size) → (∀ x ∈ ps, x.block < W.heap.size) → DataW.TrodAll enc P W' 0 (fun b => decide (b < W.heap.size)) true ts vs ds ps
  | [], [], [], _, h, _, _ => h
  | t :: _, _ :: _, _ :: _, _, ⟨p, q, h1, h2, rfl⟩, hr, hlt =>
    ⟨p, q, Below.trod hl (hr t (List.mem_cons_self ..)).1 (hr t (List.mem_cons_self ..)).2 h1 hb (fun x hx => hlt x (List.mem_append_left _ hx)),
      trodAll_stays hl hb h2 (fun t' ht' => hr t' (List.mem_cons_of_mem _ ht')) (fun x hx => hlt x (List.mem_append_right _ hx)), rfl⟩
  | [], [], _ :: _, _, h, _, _ => h.elim
  | [], _ :: _, _, _, h, _, _ => h.elim
  | _ :: _, [], _, _, h, _, _ => h.elim
  | _ :: _, _ :: _, [], _, h, _, _ => h.elim

/-- what a law's row asks of a call that has returned true and made new memory alone -/
theorem law_post {P : Program} {f : Func} {s : ChangeSpec} {apart fresh handsOn : Bool} {W W' : World} {args : Array Value} {ds gs : List (DataW H)} {before : List MemPlace} {tb : TypeId}
    (hW : DataW.Whole enc P f.params.toList s.vars apart W args.toList ds gs before) (hvars : s.vars = []) (hfn : s.fn H (ds ++ gs) = { results := [.lit (.bool true)], args := ds })
    (hrt : f.resultTypes = #[tb]) (htb : P.underlying tb = some .bool) (hl : laidOutB P = true) (hread : ∀ t ∈ f.params.toList, P.readableRec t = true ∧ t < P.types.size) (hb : Below W.heap.size W W') :
    s.post enc P f apart fresh handsOn false W args (.bool true) W' := by
  have hlt : ∀ p ∈ before, p.block < W.heap.size := fun p hp => hW.lt p hp
  have hW0 := hW
  obtain ⟨p, q, hA, hV, rfl, _, _⟩ := hW0
  refine ⟨ds, gs, p ++ q, [], p, [], hW, ?_, ?_, ?_, hb.frame _, fun h => by cases h⟩
  · rw [hfn, hrt]
    exact trodAll_mk1 (shut_bool htb true)
  · rw [hfn]
    exact trodAll_stays hl hb hA hread (fun x hx => hlt x (List.mem_append_left _ hx))
  · rw [hfn, hvars]
    rfl
end
end Go.W
end

section
/-
  Package variables that are listed with their content, asl the machine on plain values knows them. No program in it.
-/
namespace Go.W
open Go Go.RowKit

def Ty.flat : Ty → Bool
  | .int _ | .u8 | .bool => true
  | .arr _ t => t.flat && !t.isPair
  | .st t => t.flat
  | .pair a b => a.flat && b.flat && !a.isPair
  | _ => false
mutual
/-- a value asl a datum -/
def toD {H : Type} : (T : Ty) → T.den → DataW H
  | .int k, x => .lit (.int k x)
  | .u8, x => .lit (.int .u8 (n8 x))
  | .bool, x => .lit (.bool x)
  | .arr _ t, xs => .agg (List.map (toD t) xs)
  | .st B, x => .agg (toDs B x)
  | _, _ => .nil
def toDs {H : Type} : (B : Ty) → B.den → List (DataW H)
  | .pair a b, x => toD a x.1 :: toDs b x.2
  | .int k, x => [.lit (.int k x)]
  | .u8, x => [.lit (.int .u8 (n8 x))]
  | .bool, x => [.lit (.bool x)]
  | .arr _ t, xs => [.agg (List.map (toD t) xs)]
  | .st B, x => [.agg (toDs B x)]
  | _, _ => []
end
theorem toDs_one {H : Type} {T : Ty} (hf : T.flat = true) (hp : T.isPair = false) (x : T.den) : toDs (H := H) T x = [toD T x] := by
  cases T with
  | int k => simp only [toDs, toD]
  | u8 => simp only [toDs, toD]
  | bool => simp only [toDs, toD]
  | arr n t => simp only [toDs, toD]
  | st B => simp only [toDs, toD]
  | pair a b => cases hp
  | _ => cases hf
theorem map_inj {α β : Type} {f : α → β} (h : ∀ x y, f x = f y → x = y) : ∀ {l m : List α}, l.map f = m.map f → l = m
  | [], [], _ => rfl
  | [], _ :: _, e => by cases e
  | _ :: _, [], e => by cases e
  | x :: l, y :: m, e => by
    simp only [List.map_cons, List.cons.injEq] at e
    rw [h x y e.1, map_inj h e.2]
theorem toD_inj {H : Type} (T : Ty) (hf : T.flat = true) : (∀ x y : T.den, T.isPair = false → toD (H := H) T x = toD T y → x = y) ∧ (∀ x y : T.den, toDs (H := H) T x = toDs T y → x = y) := by
  have one : ∀ {T : Ty}, T.flat = true → T.isPair = false → (∀ x y : T.den, toD (H := H) T x = toD T y → x = y) → (∀ x y : T.den, T.isPair = false → toD (H := H) T x = toD T y → x = y) ∧ (∀ x y : T.den, toDs (H := H) T x = toDs T y → x = y) := fun hf hp h =>
    ⟨fun x y _ => h x y, fun x y e => by
      rw [toDs_one hf hp, toDs_one hf hp] at e
      injection e with e _
      exact h x y e⟩
  induction T with
  | int k => exact one hf rfl fun x y e => by simpa [toD] using e
  | u8 =>
    refine one hf rfl fun x y e => ?_
    have : n8 x = n8 y := by simpa [toD] using e
    unfold n8 at this
    apply UInt8.toNat_inj.1
    omega
  | bool => exact one hf rfl fun x y e => by simpa [toD] using e
  | arr n t ih =>
    refine one hf rfl fun x y e => ?_
    simp only [toD, DataW.agg.injEq] at e
    simp only [Ty.flat, Bool.and_eq_true, Bool.not_eq_true'] at hf
    exact map_inj (fun a b h => (ih hf.1).1 a b hf.2 h) e
  | st B ih =>
    refine one hf rfl fun x y e => ?_
    simp only [toD, DataW.agg.injEq] at e
    exact (ih hf).2 x y e
  | pair a b iha ihb =>
    simp only [Ty.flat, Bool.and_eq_true, Bool.not_eq_true'] at hf
    refine ⟨fun x y hp _ => (by cases hp), fun x y e => ?_⟩
    simp only [toDs, List.cons.injEq] at e
    exact Prod.ext ((iha hf.1.1).1 _ _ hf.2 e.1) ((ihb hf.1.2).2 _ _ e.2)
  | _ => cases hf

theorem repL_chunksD {α β : Type} {R : α → List Value → Prop} {f : α → β} {sz : Nat} : ∀ (n : Nat) {es : List Value} {xs : List β}, es.length = n * sz → xs.length = n → (∀ i, i < n → ∃ a, R a ((es.drop (i * sz)).take sz) ∧ xs[i]? = some (f a)) → ∃ asl : List α, asl.length = n ∧ RepL R asl es ∧ xs = asl.map f
  | 0, es, xs, hl, hx, _ => ⟨[], rfl, List.eq_nil_of_length_eq_zero (by simpa using hl), by simpa using List.eq_nil_of_length_eq_zero hx⟩
  | n + 1, es, xs, hl, hx, h => by
    obtain ⟨a, ha, hq⟩ := h 0 (Nat.succ_pos n)
    rw [Nat.zero_mul, List.drop_zero] at ha
    cases xs with
    | nil => simp at hx
    | cons x xs =>
      obtain ⟨asl, x1, x2, x3⟩ := repL_chunksD (R := R) (f := f) (sz := sz) n (es := es.drop sz) (xs := xs) (by rw [List.length_drop, hl, Nat.add_mul]; omega) (by simpa using hx) (fun i hi => by
        obtain ⟨b, hb, hq⟩ := h (i + 1) (by omega)
        refine ⟨b, ?_, by simpa using hq⟩
        rw [List.drop_drop]
        rw [Nat.add_mul, Nat.one_mul, Nat.add_comm] at hb
        exact hb)
      refine ⟨a :: asl, by simp [x1], ⟨_, _, (List.take_append_drop sz es).symm, ha, x2⟩, ?_⟩
      simp only [List.getElem?_cons_zero, Option.some.injEq] at hq
      rw [hq, x3]
      rfl

section
variable {H : Type} {enc : TypeId × Value → H} {E : Env} {w : World} {base : Nat} {spare : Nat → Bool} {held : Bool}
def Dp1 (enc : TypeId × Value → H) (E : Env) (w : World) (base : Nat) (spare : Nat → Bool) (held : Bool) (T : Ty) : Prop :=
  ∀ (t : TypeId) (fuel : Nat) (cs : List Value) (x : DataW H × List MemPlace), E.t t = some T → DataW.trod enc E.P w base spare held fuel t cs = some x → ∃ a : T.den, RepC (kOf w) T a cs ∧ x.1 = toD T a
def Dp2 (enc : TypeId × Value → H) (E : Env) (w : World) (base : Nat) (spare : Nat → Bool) (held : Bool) (B : Ty) : Prop :=
  ∀ (fs : List Field) (off n : Nat) (cs : List Value) (xs : List (DataW H × List MemPlace)), fldOk E fs off B = true → off + B.size ≤ cs.length → xs.length = fs.length → (∀ (i : Nat) (f : Field), fs[i]? = some f → DataW.trod enc E.P w base spare held n f.type ((cs.drop f.offset).take (E.P.cellsOf f.type)) = xs[i]?) →
    ∃ a : B.den, RepC (kOf w) B a ((cs.drop off).take B.size) ∧ xs.map (·.1) = toDs B a
theorem dp2_of (hE : EnvOk E) {B : Ty} (hfl : B.flat = true) (h : Dp1 enc E w base spare held B) (hp : B.isPair = false) : Dp2 enc E w base spare held B := by
  intro fs off n cs xs hf hl hxl hr
  match fs, hf with
  | [], hf => cases hf
  | [f], hf =>
    simp only [fldOk, Bool.and_eq_true] at hf
    obtain ⟨⟨⟨h1, h2⟩, _⟩, _⟩ := hf
    have h1 := Nat.eq_of_beq_eq_true h1
    have ht := tyIs_eq h2
    have hy := hr 0 f rfl
    rw [h1, cellsOf_ok hE ht] at hy
    match xs, hxl with
    | [y], _ =>
      obtain ⟨a, r1, r2⟩ := h f.type n _ y ht hy
      exact ⟨a, r1, by rw [toDs_one hfl hp, ← r2]; rfl⟩
  | f :: g :: r, hf =>
    cases B with
    | pair a b => cases hp
    | _ => cases hf
theorem data_both (hE : EnvOk E) (T : Ty) (hfl : T.flat = true) : (T.isPair = false → Dp1 enc E w base spare held T) ∧ Dp2 enc E w base spare held T := by
  have both : ∀ {T : Ty}, T.flat = true → T.isPair = false → Dp1 enc E w base spare held T → (T.isPair = false → Dp1 enc E w base spare held T) ∧ Dp2 enc E w base spare held T := fun hf hp h => ⟨fun _ => h, dp2_of hE hf h hp⟩
  induction T with
  | int k =>
    refine both hfl rfl fun t fuel cs x ht hr => ?_
    obtain ⟨z, h1, h2, _⟩ := DataW.trod_int (hE.und ht).1 hr
    exact ⟨z, h1, by rw [h2]; simp only [toD]⟩
  | u8 =>
    refine both hfl rfl fun t fuel cs x ht hr => ?_
    obtain ⟨z, h1, h2, hwf⟩ := DataW.trod_int (hE.und ht) hr
    have hz : 0 ≤ z ∧ z ≤ 255 := by simpa [Lit.wf, IntKind.min, IntKind.max, IntKind.signed, IntKind.bits] using hwf
    have e : n8 (b8 z) = z := by
      unfold n8 b8
      rw [UInt8.toNat_ofNat']
      omega
    refine ⟨b8 z, ?_, by rw [h2]; simp only [toD, e]⟩
    show cs = [.int .u8 (n8 (b8 z))]
    rw [h1, e]
  | bool =>
    refine both hfl rfl fun t fuel cs x ht hr => ?_
    obtain ⟨z, h1, h2⟩ := DataW.trod_bool (hE.und ht) hr
    exact ⟨z, h1, by rw [h2]; simp only [toD]⟩
  | arr n T ih =>
    simp only [Ty.flat, Bool.and_eq_true, Bool.not_eq_true'] at hfl
    refine both (by simp only [Ty.flat, hfl.1, hfl.2]; rfl) rfl fun t fuel cs x ht hr => ?_
    obtain ⟨te, hu, he, _⟩ := hE.und ht
    have hc := cellsOf_ok hE he
    obtain ⟨xs, m, _, hx, hl, hxl, hf⟩ := DataW.trod_array hu hr
    rw [cellsOf_ok hE ht] at hl
    rw [hc] at hf
    obtain ⟨ys, y1, y2, y3⟩ := repL_chunksD (R := RepC (kOf w) T) (f := toD (H := H) T) (sz := T.size) n (es := cs) (xs := xs.map (·.1)) hl (by simpa using hxl) (fun i hi => by
      have h1 := hf i hi
      rw [List.getElem?_eq_getElem (by omega)] at h1
      obtain ⟨a, r1, r2⟩ := (ih hfl.1).1 hfl.2 te m _ _ he h1
      exact ⟨a, r1, by rw [List.getElem?_map, List.getElem?_eq_getElem (by omega)]; simp [r2]⟩)
    exact ⟨ys, ⟨y1, y2⟩, by rw [hx]; simp only [toD, y3]⟩
  | pair a b iha ihb =>
    simp only [Ty.flat, Bool.and_eq_true, Bool.not_eq_true'] at hfl
    refine ⟨fun hp => (by cases hp), ?_⟩
    intro fs off n cs xs hf hl hxl hr
    match fs, hf with
    | [], hf => cases hf
    | [f], hf => simp [fldOk, Ty.isPair] at hf
    | f :: g :: r, hf =>
      simp only [fldOk, Bool.and_eq_true] at hf
      obtain ⟨⟨⟨h1, h2⟩, _⟩, h4⟩ := hf
      have h1 := Nat.eq_of_beq_eq_true h1
      have ht := tyIs_eq h2
      have hy := hr 0 f rfl
      rw [h1, cellsOf_ok hE ht] at hy
      cases xs with
      | nil => simp at hxl
      | cons x xs =>
        obtain ⟨va, r1, q1⟩ := (iha hfl.1.1).1 hfl.2 f.type n _ x ht hy
        have hsz : (Ty.pair a b).size = a.size + b.size := rfl
        rw [hsz] at hl ⊢
        obtain ⟨vb, r2, q2⟩ := (ihb hfl.1.2).2 (g :: r) (off + a.size) n cs xs h4 (by omega) (by simpa using hxl) (fun i f' hf' => by simpa using hr (i + 1) f' hf')
        refine ⟨(va, vb), ⟨_, _, ?_, r1, r2⟩, ?_⟩
        · rw [List.take_add, List.drop_drop]
        · simp only [List.map_cons, toDs, q1, q2]
  | st B ih =>
    refine both hfl rfl fun t fuel cs x ht hr => ?_
    obtain ⟨fs, hu, hf, _⟩ := hE.und ht
    obtain ⟨xs, n, _, hx, hl, hxl, hff⟩ := DataW.trod_struct hu hr
    rw [cellsOf_ok hE ht] at hl
    have hl : cs.length = B.size := hl
    obtain ⟨a, r1, q1⟩ := (ih hfl).2 fs.toList 0 n cs xs hf (by omega) (by simpa using hxl) (fun i f hfi => hff i f (by simpa using hfi))
    refine ⟨a, ?_, by rw [hx]; simp only [toD, q1]⟩
    rw [List.drop_zero, List.take_of_length_le (by omega)] at r1
    exact r1
  | _ => cases hfl
/-- a listed variable is known -/
theorem glob_of (hE : EnvOk E) {W : World} {name : String} {D : DataW Unit} {g t : Nat} {T : Ty} {x : T.den} {cs : Array Value} {fuel : Nat} {p : List MemPlace} {enc : TypeId × Value → Unit} {base : Nat} {spare : Nat → Bool} {held : Bool} (hg : E.P.globalNamed name = some g) (ht : E.t t = some T) (hfl : T.flat = true) (hp : T.isPair = false) (hv : W.var? E.P name = some cs) (hd : DataW.trod enc E.P W base spare held fuel t cs.toList = some (D, p)) (hx : D = toD T x) :
    ∃ cs, RepC (kOf W) T x cs ∧ ∀ j u, cs[j]? = some u → kOf W g j = some u := by
  obtain ⟨a, r1, r2⟩ := (data_both hE T hfl).1 hp t fuel cs.toList _ ht hd
  have : a = x := (toD_inj T hfl).1 a x hp (by rw [← r2, ← hx])
  subst this
  refine ⟨cs.toList, r1, fun j u hu => ?_⟩
  have h1 := World.var?_cell hg hv j
  have hu : cs[j]? = some u := by simpa using hu
  rw [hu] at h1
  exact (kOf_cell h1).2
end
end Go.W
end

section
/-
  Plain facts on the words of models; what is made of bytes.
-/
namespace Go.Mo
open Go Go.W

/-! ### words -/
theorem grd_t {α : Type} {b : Bool} {k : Option α} (h : b = true) : grd b k = k := by subst h; rfl
theorem cnd_t {α : Type} {b : Bool} {x y : Option α} (h : b = true) : cnd b x y = x := by subst h; rfl
theorem cnd_f {α : Type} {b : Bool} {x y : Option α} (h : b = false) : cnd b x y = y := by subst h; rfl
theorem bnd_s {α β : Type} {x : Option α} {a : α} {k : α → Option β} (h : x = some a) : bnd x k = k a := by subst h; rfl
theorem jn_e {F α : Type} {k : F} {t : F → Option α} : jn k t = t k := rfl
theorem fixN_s {V R : Type} {F : (V → Option R) → V → Option R} {n : Nat} {v : V} : fixN F (n + 1) v = F (fixN F n) v := rfl
theorem w64_id {x : Int} (h : -9223372036854775808 ≤ x ∧ x ≤ 9223372036854775807) : w64 x = x := by
  show IntKind.wrap .i64 x = x
  unfold IntKind.wrap
  simp only [IntKind.bits, IntKind.signed, Bool.true_and, decide_eq_true_eq, show (2 : Int) ^ 64 = 18446744073709551616 from rfl, show (2 : Int) ^ (64 - 1) = 9223372036854775808 from rfl]
  split <;> omega
theorem wru64_id {x : Int} (h : 0 ≤ x ∧ x < 18446744073709551616) : wr .u64 x = x := by
  show IntKind.wrap .u64 x = x
  unfold IntKind.wrap
  simp only [IntKind.bits, IntKind.signed, Bool.false_and, Bool.false_eq_true, if_false]
  omega
theorem ilt_t {a b : Int} (h : a < b) : ilt a b = true := decide_eq_true h
theorem ilt_f {a b : Int} (h : ¬ a < b) : ilt a b = false := decide_eq_false h
theorem ile_t {a b : Int} (h : a ≤ b) : ile a b = true := decide_eq_true h
theorem ile_f {a b : Int} (h : ¬ a ≤ b) : ile a b = false := decide_eq_false h
theorem ieq_t {a b : Int} (h : a = b) : ieq a b = true := by subst h; simp [ieq]
theorem ieq_f {a b : Int} (h : a ≠ b) : ieq a b = false := by simp [ieq, h]
theorem ine_t {a b : Int} (h : a ≠ b) : ine a b = true := by simp [ine, h]
theorem ine_f {a b : Int} (h : a = b) : ine a b = false := by simp [ine, h]
theorem inb_t {i n : Int} (h : 0 ≤ i ∧ i < n) : inb i n = true := decide_eq_true h
theorem in2_t {i n : Int} (h : 0 ≤ i ∧ i ≤ n) : in2 i n = true := decide_eq_true h
theorem in3_t {l h n : Int} (q : 0 ≤ l ∧ l ≤ h ∧ h ≤ n) : in3 l h n = true := decide_eq_true q
theorem room_t {n : Int} {b : Nat} (h : n * b ≤ 140737488355328) : room n b = true := decide_eq_true h
theorem mkOk_t {l c : Int} {b : Nat} (h : 0 ≤ l ∧ l ≤ c ∧ c * b ≤ 140737488355328) : mkOk l c b = true := decide_eq_true h

/-! ### bytes.Clone -/
theorem clone_eq (N : Nat) (x : List UInt8) (h : (x.length : Int) ≤ 140737488355328) : bytes_Clone N x = some x := by
  have h1 : grd (room (iadd (len ([] : List UInt8)) (len x)) 1) (some (lapp ([] : List UInt8) x)) = some x := by
    rw [grd_t (room_t (by simp [iadd, len]; omega))]
    rfl
  unfold bytes_Clone
  cases x with
  | nil =>
    rw [cnd_f (by rfl)]
    exact univ_of rfl h1
  | cons a x =>
    rw [cnd_t (ine_t (by simp [len]; omega))]
    exact h1

/-! ### bytes.Repeat of one byte -/
theorem mul_tab : ((List.range 1025).all fun n => decide (bits_Mul64 0 (1, (n : Int)) = some (0, (n : Int)))) = true := by kernel_rfl
theorem mul_one {N n : Nat} (h : n ≤ 1024) : bits_Mul N (1, (n : Int)) = some (0, (n : Int)) := by
  have := List.all_eq_true.1 mul_tab n (List.mem_range.2 (by omega))
  have e : bits_Mul64 N (1, (n : Int)) = some (0, (n : Int)) := of_decide_eq_true this
  unfold bits_Mul
  rw [bnd_s e]
theorem rep_loop {b : UInt8} {n : Nat} (hn : n ≤ 1024) : ∀ (fuel bp : Nat) (buf : List UInt8), n - bp < fuel → 1 ≤ bp → bp ≤ n → buf.length = n → buf.take bp = List.replicate bp b →
    fixN (fun v5 (v6 : Int × List UInt8) =>
                cnd (ilt v6.1 (n : Int))
                  (grd (in2 v6.1 (ofN (nlen v6.2)))
                    (grd (in2 (imin v6.1 (n : Int)) (ofN (nlen v6.2)))
                      (v5 (w64 (iadd v6.1 (imin (len (cutl v6.2 0 (toN (imin v6.1 (n : Int))))) (ofN (nsub (nlen v6.2) (toN v6.1))))), putl v6.2 (toN v6.1) (ltake (nsub (nlen v6.2) (toN v6.1)) (cutl v6.2 0 (toN (imin v6.1 (n : Int)))))))))
                  (some v6.2)) fuel ((bp : Int), buf) = some (List.replicate n b)
  | 0, bp, buf, h, _, _, _, _ => by omega
  | fuel + 1, bp, buf, h, h1, h2, h3, h4 => by
    rw [fixN_s]
    simp only
    by_cases he : bp = n
    · subst he
      rw [cnd_f (ilt_f (by omega))]
      rw [← h3, List.take_length, h3] at h4
      rw [h4]
    · have hmin : imin (bp : Int) (n : Int) = (bp : Int) := by show min (bp : Int) n = bp; omega
      rw [cnd_t (ilt_t (by omega)), grd_t (in2_t (by simp only [ofN, nlen]; omega)), hmin, grd_t (in2_t (by simp only [ofN, nlen]; omega))]
      have hc : cutl buf 0 (toN (bp : Int)) = List.replicate bp b := by
        simp only [cutl, toN, List.drop_zero, Int.toNat_natCast]
        exact h4
      have hsub : nsub (nlen buf) (toN (bp : Int)) = n - bp := by simp [nsub, nlen, toN, h3]
      rw [hc, hsub]
      have hl : imin (len (List.replicate bp b)) (ofN (n - bp)) = ((min bp (n - bp) : Nat) : Int) := by
        simp only [imin, len, ofN, List.length_replicate]; omega
      have hw : w64 (iadd (bp : Int) (imin (len (List.replicate bp b)) (ofN (n - bp)))) = ((bp + min bp (n - bp) : Nat) : Int) := by
        rw [hl]
        simp only [iadd]
        rw [w64_id (by omega)]
        omega
      rw [hw]
      have ht : ltake (n - bp) (List.replicate bp b) = List.replicate (min bp (n - bp)) b := by
        simp only [ltake, List.take_replicate]
        rw [Nat.min_comm]
      rw [ht]
      have hp : putl buf (toN (bp : Int)) (List.replicate (min bp (n - bp)) b) = List.replicate (bp + min bp (n - bp)) b ++ buf.drop (bp + min bp (n - bp)) := by
        simp only [putl, toN, Int.toNat_natCast, List.length_replicate]
        rw [h4, List.replicate_append_replicate]
      rw [hp]
      refine rep_loop hn fuel _ _ (by omega) (by omega) (by omega) ?_ ?_
      · simp [h3]; omega
      · rw [List.take_left' (by simp)]
theorem repeat_eq {N : Nat} (hN : 1100 ≤ N) (b : UInt8) {n : Nat} (h0 : 0 < n) (hn : n ≤ 1024) : bytes_Repeat N ([b], (n : Int)) = some (List.replicate n b) := by
  unfold bytes_Repeat
  simp only
  rw [cnd_f (ieq_f (by omega)), cnd_f (ilt_f (by omega))]
  have e1 : wr .u64 (len [b]) = 1 := by rw [wru64_id (by simp [len])]; rfl
  have e2 : wr .u64 (n : Int) = (n : Int) := wru64_id (by omega)
  rw [e1, e2, bnd_s (mul_one hn)]
  simp only
  have ew : w64 (n : Int) = (n : Int) := w64_id (by omega)
  rw [cnd_f (by rfl), cnd_f (ilt_f (by omega)), cnd_f (by rfl), ew]
  simp only [jn_e]
  rw [cnd_f (ilt_f (by omega)), grd_t (mkOk_t (by omega))]
  refine univL_of fun l hl => ?_
  have hl : l.length = n := by simpa [toN] using hl
  rw [grd_t (in3_t (by simp only [len]; omega))]
  have ht : ltake (toN (n : Int)) l = l := by simp only [ltake, toN, Int.toNat_natCast]; rw [List.take_of_length_le (by omega)]
  rw [ht]
  have hm : imin (len [b]) (len l) = ((1 : Nat) : Int) := by simp only [imin, len, List.length_singleton]; omega
  rw [hm]
  have hq : putl l 0 (ltake (nlen l) [b]) = b :: l.drop 1 := by
    simp only [putl, ltake, nlen, List.take_zero, List.nil_append]
    rw [List.take_of_length_le (by simp; omega)]
    rfl
  rw [hq]
  refine rep_loop hn N 1 _ (by omega) (Nat.le_refl _) h0 (by simp; omega) rfl

/-! ### slices.Equal -/
theorem n8_inj {a b : UInt8} (h : n8 a = n8 b) : a = b := by
  unfold n8 at h
  apply UInt8.toNat_inj.1
  omega
theorem equal_loop {x y : List UInt8} (hl : x.length = y.length) (hb : x.length ≤ 100000) : ∀ (fuel i : Nat), x.length - i < fuel → i ≤ x.length → x.take i = y.take i →
    fixN (fun v2 (v3 : Int) =>
      cnd (ilt v3 (len x))
        (grd (inb v3 (len x))
          (grd (inb v3 (len y))
            (cnd (ine (n8 (lget x (toN v3) (0 : UInt8))) (n8 (lget y (toN v3) (0 : UInt8))))
              (some false)
              (v2 (w64 (iadd v3 (1 : Int)))))))
        (some true)) fuel (i : Int) = some (decide (x = y))
  | 0, i, h, _, _ => by omega
  | fuel + 1, i, h, h1, h2 => by
    rw [fixN_s]
    by_cases he : i = x.length
    · rw [cnd_f (ilt_f (by simp only [len]; omega))]
      rw [he, List.take_length, hl, List.take_length] at h2
      simp [h2]
    · have hx : i < x.length := by omega
      have hy : i < y.length := by omega
      rw [cnd_t (ilt_t (by simp only [len]; omega)), grd_t (inb_t (by simp only [len]; omega)), grd_t (inb_t (by simp only [len]; omega))]
      have gx : lget x (toN (i : Int)) 0 = x[i] := by simp [lget, toN, hx]
      have gy : lget y (toN (i : Int)) 0 = y[i] := by simp [lget, toN, hy]
      rw [gx, gy]
      by_cases hc : x[i] = y[i]
      · rw [cnd_f (ine_f (by rw [hc]))]
        have hw : w64 (iadd (i : Int) 1) = ((i + 1 : Nat) : Int) := by
          simp only [iadd]; rw [w64_id (by omega)]; omega
        rw [hw]
        exact equal_loop hl hb fuel (i + 1) (by omega) (by omega) (by rw [List.take_succ_eq_append_getElem hx, List.take_succ_eq_append_getElem hy, h2, hc])
      · rw [cnd_t (ine_t fun h => hc (n8_inj h))]
        have : x ≠ y := fun h => hc (by subst h; rfl)
        simp [this]
theorem equal_eq {N : Nat} (x y : List UInt8) (hb : x.length ≤ 100000) (hN : 100001 ≤ N ∨ x.length < N) : slices_Equal_Lbyte_byte N (x, y) = some (decide (x = y)) := by
  unfold slices_Equal_Lbyte_byte
  simp only [jn_e]
  by_cases hl : x.length = y.length
  · rw [cnd_f (ine_f (by simp only [len]; omega))]
    exact equal_loop hl hb N 0 (by omega) (Nat.zero_le _) rfl
  · rw [cnd_t (ine_t (by simp only [len]; omega))]
    have : x ≠ y := fun h => hl (by rw [h])
    simp [this]

/-! ### awake -/
def exB : Int × Int × UInt8 × UInt8 × (Int × Int × Int × Int × Bool) × (Int × Int × Int × Int × Bool) × Int × UInt8 × Bool × List UInt8 := (0, 258, 255, 0, (1, 2, 3, 4, false), (1, 2, 5, 0, false), 13, 2, false, [65])
def exP : List UInt8 := [0, 2, 1, 255, 0, 1, 2, 3, 4, 1, 2, 5, 0, 13, 2, 0, 65] ++ List.replicate 111 143
theorem ex_eq (N : Nat) : l23_example N () = some exB := by kernel_rfl
theorem putEx {N : Nat} (hN : 1100 ≤ N) : tape_Put N exB = some (exP, 0) := by
  have h : tape_Put N exB = bnd (bytes_Repeat N ([143], ((111 : Nat) : Int))) fun v => grd (room (iadd (len ([0, 2, 1, 255, 0, 1, 2, 3, 4, 1, 2, 5, 0, 13, 2, 0, 65] : List UInt8)) (len v)) 1) (some (lapp ([0, 2, 1, 255, 0, 1, 2, 3, 4, 1, 2, 5, 0, 13, 2, 0, 65] : List UInt8) v, (0 : Int))) := by kernel_rfl
  refine h.trans ((bnd_s (repeat_eq hN 143 (n := 111) (by decide) (by decide))).trans ?_)
  show grd (room (iadd (len ([0, 2, 1, 255, 0, 1, 2, 3, 4, 1, 2, 5, 0, 13, 2, 0, 65] : List UInt8)) (len (List.replicate 111 (143 : UInt8)))) 1) (some (lapp ([0, 2, 1, 255, 0, 1, 2, 3, 4, 1, 2, 5, 0, 13, 2, 0, 65] : List UInt8) (List.replicate 111 (143 : UInt8)), (0 : Int))) = some (exP, 0)
  kernel_rfl
def exQ (e : UInt8) (t : List UInt8) : Int × Int × UInt8 × UInt8 × (Int × Int × Int × Int × Bool) × (Int × Int × Int × Int × Bool) × Int × UInt8 × Bool × List UInt8 := (0, 258, e, 0, (1, 2, 3, 4, false), (1, 2, 5, 0, false), 13, 2, false, t)
theorem splitEx (N : Nat) : tape_Split (N + 3) (exB, List.replicate 113 0) = some ([exQ 0 (List.replicate 112 0), exQ 255 [0]], 0) := by
  have h : tape_Split (N + 3) (exB, List.replicate 113 0) = bnd (bytes_Clone (N + 3) (List.replicate 112 0)) fun v => grd (room (iadd (len ([] : List (Int × Int × UInt8 × UInt8 × (Int × Int × Int × Int × Bool) × (Int × Int × Int × Int × Bool) × Int × UInt8 × Bool × List UInt8))) (len [exQ 0 v])) 144) (bnd (bytes_Clone (N + 3) [0]) fun v' => grd (room (iadd (len (lapp [] [exQ 0 v])) (len [exQ 255 v'])) 144) (some (lapp (lapp [] [exQ 0 v]) [exQ 255 v'], (0 : Int)))) := by kernel_rfl
  refine h.trans ((bnd_s (clone_eq _ _ (by simp))).trans ?_)
  refine (grd_t (by rfl)).trans ?_
  refine (bnd_s (clone_eq _ _ (by simp))).trans ?_
  rfl
theorem awake_true {N : Nat} (hN : 1200 ≤ N) : l23_awake N () = some true := by
  obtain ⟨M, rfl⟩ : ∃ M, N = M + 3 := ⟨N - 3, by omega⟩
  unfold l23_awake
  refine (bnd_s (ex_eq _)).trans ((bnd_s (putEx (by omega))).trans ?_)
  refine (cnd_f (by rfl)).trans ((cnd_f (by kernel_rfl)).trans ((grd_t (by kernel_rfl)).trans ?_))
  refine (bnd_s (equal_eq _ _ (by decide) (.inr (by show 17 < M + 3; omega)))).trans ?_
  refine (cnd_f (by kernel_rfl)).trans ((grd_t (by kernel_rfl)).trans ((cnd_f (by kernel_rfl)).trans ((grd_t (by kernel_rfl)).trans ((cnd_f (by kernel_rfl)).trans ?_))))
  refine (bnd_s (ex_eq _)).trans ((grd_t (by rfl)).trans ?_)
  refine (bnd_s (splitEx M)).trans ?_
  kernel_rfl
end Go.Mo
end

section
/-
  Plain facts: rates, labels, the repertoire of characters.
-/
namespace Go.Mo
open Go Go.W
set_option maxRecDepth 100000

theorem all_u8 {P : UInt8 → Bool} (h : ((List.range 256).all fun n => P (UInt8.ofNat n)) = true) (x : UInt8) : P x = true := by
  have h1 : x.toNat < 256 := x.toNat_lt
  have := List.all_eq_true.1 h x.toNat (List.mem_range.2 h1)
  simpa using this
theorem valid_tab : ((List.range 256).all fun n => decide (timebase_Valid 0 (UInt8.ofNat n) = r02_Valid 0 (UInt8.ofNat n) ∧ timebase_CanDrop 0 (UInt8.ofNat n) = r02_CanDrop 0 (UInt8.ofNat n) ∧ timebase_Nominal 0 (UInt8.ofNat n) = r02_Nominal 0 (UInt8.ofNat n))) = true := by kernel_rfl
theorem rate_eq (N : Nat) (r : UInt8) : timebase_Valid N r = r02_Valid N r ∧ timebase_CanDrop N r = r02_CanDrop N r ∧ timebase_Nominal N r = r02_Nominal N r :=
  of_decide_eq_true (all_u8 (P := fun r => decide (timebase_Valid 0 r = r02_Valid 0 r ∧ timebase_CanDrop 0 r = r02_CanDrop 0 r ∧ timebase_Nominal 0 r = r02_Nominal 0 r)) valid_tab r)
theorem kind_eq (N : Nat) (x : UInt8 × Bool) : timecode_rateError N x = r03_kind N x := by
  unfold timecode_rateError r03_kind
  rw [(rate_eq N x.1).1, (rate_eq N x.1).2.1]
theorem check_eq (N : Nat) (x : UInt8 × Int × Int × Int × Int × Bool) : timecode_Check N x = r03_Check N x := by
  unfold timecode_Check r03_Check
  rw [kind_eq, (rate_eq N x.1).2.2]
  congr 1
  funext v0
  congr 2
  congr 1
  congr 1
  congr 1
  congr 1
  congr 1
  by_cases hF : ilt x.2.2.2.2.1 0 = true
  · rw [cnd_t hF, cnd_t hF]
  · have hF : ilt x.2.2.2.2.1 0 = false := by simpa using hF
    rw [cnd_f hF, cnd_f hF]
    have h0 : ¬ x.2.2.2.2.1 < 0 := of_decide_eq_false hF
    congr 1
    funext v1
    congr 1
    cases hd : x.2.2.2.2.2 with
    | true =>
      rw [cnd_t rfl]
      congr 2
    | false =>
      rw [cnd_f rfl]
      have e : timecode_dropped N (x.1, false) = some 0 := rfl
      rw [bnd_s e, cnd_f (ilt_f h0)]
      have c2 : ∀ b : Bool, cnd b (some (0 : Int)) (some 0) = some 0 := fun b => by cases b <;> rfl
      rw [c2, c2]
end Go.Mo
end

section
/-
  Plain facts: the repertoire of characters.
-/
namespace Go.Mo
open Go Go.W
set_option maxRecDepth 100000
def fuelH : Nat := 5000
/-- the characters behind ASCII -/
def hiRunes : List Int := [161, 162, 163, 164, 165, 166, 167, 169, 171, 174, 176, 183, 187, 189, 191, 192, 193, 194, 195, 196, 197, 198, 199, 200, 201, 202, 203, 204, 205, 206, 207, 209, 210, 211, 212, 213, 214, 216, 217, 218, 219, 220, 223, 224, 225, 226, 227, 228, 229, 230, 231, 232, 233, 234, 235, 236, 237, 238, 239, 241, 242, 243, 244, 245, 246, 248, 249, 250, 251, 252, 338, 339, 8212, 8216, 8217, 8220, 8221, 8226, 8230, 8482, 9834]
def loRunes : List Int := (List.range 95).map fun n => ((n + 32 : Nat) : Int)
def chain : List Int → Int → Int → Option Int
  | [], _, _ => some (-1)
  | c :: l, i, r => cnd (ieq c r) (some i) (chain l (iadd i 1) r)
def rep : List UInt8 := match r08_Repertoire 0 () with
  | some s => s
  | none => []
theorem place_eq (r : Int) : charset_place fuelH (rep, r) = chain (loRunes ++ hiRunes) 0 r := by kernel_rfl
theorem r08_index (r : Int) : r08_Index fuelH r = cnd (ile 32 r) (cnd (ile r 126) (some (w64 (wr .i32 (isub r 32)))) (charset_place fuelH (rep, r))) (charset_place fuelH (rep, r)) := by kernel_rfl
theorem ch_index (r : Int) : charset_Index fuelH r = cnd (ile 32 r) (cnd (ile r 126) (some (w64 (wr .i32 (isub r 32)))) (bnd (charset_place fuelH (rep, r)) fun v => some v)) (bnd (charset_place fuelH (rep, r)) fun v => some v) := by kernel_rfl
theorem chain_ok : ∀ (l : List Int) (i r : Int), 0 ≤ i → ∃ k, chain l i r = some k ∧ (k < 0 ↔ l.contains r = false)
  | [], i, r, _ => ⟨-1, rfl, by simp⟩
  | c :: l, i, r, h => by
    by_cases hc : c = r
    · exact ⟨i, by simp only [chain]; rw [cnd_t (ieq_t hc)], by subst hc; simp; omega⟩
    · obtain ⟨k, h1, h2⟩ := chain_ok l (iadd i 1) r (by show 0 ≤ i + 1; omega)
      refine ⟨k, by simp only [chain]; rw [cnd_f (ieq_f hc)]; exact h1, ?_⟩
      rw [h2]
      simp only [List.contains_cons, Bool.or_eq_false_iff]
      exact ⟨fun h => ⟨by simpa using fun e => hc e.symm, h⟩, fun h => h.2⟩
def inRep (r : Int) : Bool := (decide (32 ≤ r) && decide (r ≤ 126)) || hiRunes.contains r
theorem wi32_id {x : Int} (h : 0 ≤ x ∧ x < 1000) : wr .i32 x = x := by
  show IntKind.wrap .i32 x = x
  unfold IntKind.wrap
  simp only [IntKind.bits, IntKind.signed, Bool.true_and, decide_eq_true_eq, show (2 : Int) ^ 32 = 4294967296 from rfl, show (2 : Int) ^ (32 - 1) = 2147483648 from rfl]
  split <;> omega
theorem lo_mem (r : Int) : loRunes.contains r = (decide (32 ≤ r) && decide (r ≤ 126)) := by
  rw [Bool.eq_iff_iff]
  simp only [loRunes, List.contains_iff_mem, List.mem_map, List.mem_range, Bool.and_eq_true, decide_eq_true_eq]
  constructor
  · rintro ⟨n, hn, rfl⟩; omega
  · intro h; exact ⟨(r - 32).toNat, by omega, by omega⟩
theorem index_some (r : Int) : ∃ i, charset_Index fuelH r = some i ∧ r08_Index fuelH r = some i ∧ (i < 0 ↔ inRep r = false) := by
  rw [ch_index, r08_index, place_eq]
  obtain ⟨k, h1, h2⟩ := chain_ok (loRunes ++ hiRunes) 0 r (Int.le_refl _)
  have hin : (loRunes ++ hiRunes).contains r = inRep r := by
    unfold inRep
    rw [← lo_mem]
    simp [List.contains_eq_mem, List.mem_append]
  rw [hin] at h2
  by_cases ha : 32 ≤ r
  · rw [cnd_t (ile_t ha), cnd_t (ile_t ha)]
    by_cases hb : r ≤ 126
    · rw [cnd_t (ile_t hb), cnd_t (ile_t hb)]
      refine ⟨_, rfl, rfl, ?_⟩
      have : w64 (wr .i32 (isub r 32)) = r - 32 := by
        simp only [isub]
        rw [wi32_id (by omega), w64_id (by omega)]
      rw [this]
      simp [inRep, ha, hb]
    · rw [cnd_f (ile_f hb), cnd_f (ile_f hb)]
      exact ⟨k, by rw [bnd_s h1], h1, h2⟩
  · rw [cnd_f (ile_f ha), cnd_f (ile_f ha)]
    exact ⟨k, by rw [bnd_s h1], h1, h2⟩
end Go.Mo
end

section
/-
  Plain facts: texts of the repertoire.
-/
namespace Go.Mo
open Go Go.W Go.Lib
set_option maxRecDepth 100000

theorem dec_pos (l : List UInt8) : 1 ≤ (decodeL l).2 := by
  unfold decodeL Utf8.decode
  simp only
  repeat' split
  all_goals first | exact Nat.le_refl _ | (show 1 ≤ _; omega)
theorem decR_eq (s : List UInt8) (p : Nat) : decR s p = ((decodeL (s.drop p)).1 : Int) := by
  have := decodeL_drop (bst s) p
  have e : (bst s).data.toList = s := rfl
  rw [e] at this
  unfold decR
  rw [this]
theorem decW_eq (s : List UInt8) (p : Nat) : decW s p = (decodeL (s.drop p)).2 := by
  have := decodeL_drop (bst s) p
  have e : (bst s).data.toList = s := rfl
  rw [e] at this
  unfold decW
  rw [this]

def rok : Nat → List UInt8 → Bool
  | 0, _ => true
  | n + 1, l => if l = [] then true else if inRep ((decodeL l).1 : Int) = true then rok n (l.drop (decodeL l).2) else false
/-- characters of the repertoire alone -/
def vld (l : List UInt8) : Bool := rok l.length l
theorem rok_nil : ∀ n, rok n [] = true
  | 0 => rfl
  | n + 1 => by simp [rok]
theorem rok_fuel : ∀ (n m : Nat) (l : List UInt8), l.length ≤ n → l.length ≤ m → rok n l = rok m l
  | 0, m, l, h, _ => by
    have : l = [] := List.eq_nil_of_length_eq_zero (by omega)
    subst this
    rw [rok_nil, rok_nil]
  | n + 1, 0, l, _, h => by
    have : l = [] := List.eq_nil_of_length_eq_zero (by omega)
    subst this
    rw [rok_nil, rok_nil]
  | n + 1, m + 1, l, h1, h2 => by
    by_cases hl : l = []
    · subst hl; rw [rok_nil, rok_nil]
    · have hp := dec_pos l
      have hlen : 0 < l.length := List.length_pos_iff.2 hl
      simp only [rok, hl, if_false]
      split
      · exact rok_fuel n m _ (by simp; omega) (by simp; omega)
      · rfl
theorem vld_nil : vld [] = true := rfl
theorem vld_step (l : List UInt8) (hl : l ≠ []) : vld l = if inRep ((decodeL l).1 : Int) = true then vld (l.drop (decodeL l).2) else false := by
  have hp := dec_pos l
  have hlen : 0 < l.length := List.length_pos_iff.2 hl
  unfold vld
  obtain ⟨n, hn⟩ : ∃ n, l.length = n + 1 := ⟨l.length - 1, by omega⟩
  rw [hn]
  simp only [rok, hl, if_false]
  split
  · exact rok_fuel _ _ _ (by simp; omega) (Nat.le_refl _)
  · rfl
theorem vld_valid : ∀ (n : Nat) (l : List UInt8), l.length ≤ n → vld l = true → validD l = true
  | n, l, h, hv => by
    by_cases hl : l = []
    · subst hl; rfl
    · have hlen : 0 < l.length := List.length_pos_iff.2 hl
      have hp := dec_pos l
      rw [vld_step l hl] at hv
      split at hv
      · rename_i hr
        rw [validD_step l hl, if_neg ?_]
        · cases n with
          | zero => omega
          | succ n => exact vld_valid n _ (by simp; omega) hv
        · rintro ⟨e, _⟩
          rw [e] at hr
          exact absurd hr (by decide)
      · cases hv

theorem valid_loop {s : List UInt8} (hs : s.length ≤ 100000) (Ix : Int → Option Int) (hI : ∀ r : Int, ∃ i, Ix r = some i ∧ (i < 0 ↔ inRep r = false)) : ∀ (fuel p : Nat), s.length - p < fuel → p ≤ s.length →
    fixN (fun v2 (v3 : (List UInt8) × Int) =>
    cnd (nlt (toN v3.2) (nlen v3.1))
      (bnd (Ix (decR v3.1 (toN v3.2))) fun v4 =>
      cnd (ilt v4 (0 : Int))
        (some false)
        (v2 (v3.1, ofN (nadd (toN v3.2) (decW v3.1 (toN v3.2))))))
      (some true)) fuel (s, ofN p) = some (vld (s.drop p))
  | 0, p, h, _ => by omega
  | fuel + 1, p, h, hp => by
    rw [fixN_s]
    have et : toN (ofN p) = p := by simp [toN, ofN]
    simp only [et]
    by_cases hl : p < s.length
    · have hne : s.drop p ≠ [] := by intro e; have := congrArg List.length e; simp at this; omega
      have hw := dec_pos (s.drop p)
      have hle := decodeL_le (s.drop p) hne
      rw [List.length_drop] at hle
      rw [cnd_t (show nlt p (nlen s) = true from decide_eq_true hl)]
      obtain ⟨i, h1, h2⟩ := hI (decR s p)
      rw [bnd_s h1]
      rw [vld_step _ hne, ← decR_eq]
      by_cases hi : i < 0
      · rw [cnd_t (ilt_t hi), if_neg (by rw [h2.1 hi]; decide)]
      · rw [cnd_f (ilt_f hi)]
        have hin : inRep (decR s p) = true := by
          cases hq : inRep (decR s p) with
          | true => rfl
          | false => exact absurd (h2.2 hq) hi
        rw [if_pos hin, decW_eq, List.drop_drop]
        show fixN _ fuel (s, ofN (p + (decodeL (s.drop p)).2)) = _
        exact valid_loop hs Ix hI fuel _ (by omega) (by omega)
    · rw [cnd_f (show nlt p (nlen s) = false from decide_eq_false hl)]
      have : s.drop p = [] := by simp; omega
      rw [this]
      rfl
theorem r08_valid (s : List UInt8) (hs : s.length ≤ 4000) : r08_Valid fuelH s = some (vld s) := by
  unfold r08_Valid
  simp only [jn_e]
  have := valid_loop (s := s) (by omega) (r08_Index fuelH) (fun r => by obtain ⟨i, _, h2, h3⟩ := index_some r; exact ⟨i, h2, h3⟩) fuelH 0 (by show s.length - 0 < 5000; omega) (Nat.zero_le _)
  simpa using this
theorem ch_valid (s : List UInt8) (hs : s.length ≤ 4000) : charset_Valid fuelH s = some (vld s) := by
  unfold charset_Valid
  have hv : utf8_ValidString fuelH s = some (validD s) := by
    show grd (catOk (len s)) (some (validD s)) = _
    exact grd_t (decide_eq_true (by simp only [len]; omega))
  rw [bnd_s hv]
  simp only [jn_e]
  cases hd : validD s with
  | false =>
    rw [cnd_t (show bnot false = true from rfl)]
    cases hq : vld s with
    | false => rfl
    | true => rw [vld_valid _ s (Nat.le_refl _) hq] at hd; cases hd
  | true =>
    rw [cnd_f (show bnot true = false from rfl)]
    have := valid_loop (s := s) (by omega) (charset_Index fuelH) (fun r => by obtain ⟨i, h2, _, h3⟩ := index_some r; exact ⟨i, h2, h3⟩) fuelH 0 (by show s.length - 0 < 5000; omega) (Nat.zero_le _)
    simpa using this
end Go.Mo
end

section
/-
  Plain facts: names; the check of a header.
-/
namespace Go.Mo
open Go Go.W Go.Lib
set_option maxRecDepth 100000

theorem cnd_dec {α : Type} {p : Prop} [Decidable p] {x y : Option α} : cnd (decide p) x y = if p then x else y := by
  by_cases h : p
  · rw [cnd_t (decide_eq_true h), if_pos h]
  · rw [cnd_f (decide_eq_false h), if_neg h]
theorem cnd_ilt {α : Type} {a b : Int} {x y : Option α} : cnd (ilt a b) x y = if a < b then x else y := cnd_dec
theorem cnd_ile {α : Type} {a b : Int} {x y : Option α} : cnd (ile a b) x y = if a ≤ b then x else y := cnd_dec
theorem cnd_ieq {α : Type} {a b : Int} {x y : Option α} : cnd (ieq a b) x y = if a = b then x else y := by
  by_cases h : a = b
  · rw [cnd_t (ieq_t h), if_pos h]
  · rw [cnd_f (ieq_f h), if_neg h]
theorem cnd_ine {α : Type} {a b : Int} {x y : Option α} : cnd (ine a b) x y = if a ≠ b then x else y := by
  by_cases h : a = b
  · rw [cnd_f (ine_f h), if_neg (by simp [h])]
  · rw [cnd_t (ine_t h), if_pos h]
/-- may stand in a name -/
def okc (c : Int) : Bool := decide ((65 ≤ c ∧ c ≤ 90) ∨ (48 ≤ c ∧ c ≤ 57) ∨ c = 95 ∨ c = 45)
theorem nm_body (c : Int) (X : Option Bool) :
    (cnd (ilt c (n8 (65 : UInt8)))
                    (cnd (ilt c (n8 (48 : UInt8)))
                      (cnd (ine c (n8 (95 : UInt8)))
                        (cnd (ine c (n8 (45 : UInt8)))
                          (some false)
                          X)
                        X)
                      (cnd (ilt (n8 (57 : UInt8)) c)
                        (cnd (ine c (n8 (95 : UInt8)))
                          (cnd (ine c (n8 (45 : UInt8)))
                            (some false)
                            X)
                          X)
                        X))
                    (cnd (ilt (n8 (90 : UInt8)) c)
                      (cnd (ilt c (n8 (48 : UInt8)))
                        (cnd (ine c (n8 (95 : UInt8)))
                          (cnd (ine c (n8 (45 : UInt8)))
                            (some false)
                            X)
                          X)
                        (cnd (ilt (n8 (57 : UInt8)) c)
                          (cnd (ine c (n8 (95 : UInt8)))
                            (cnd (ine c (n8 (45 : UInt8)))
                              (some false)
                              X)
                            X)
                          X))
                      X)) = cnd (okc c) X (some false) := by
  have e1 : n8 (65 : UInt8) = 65 := rfl
  have e2 : n8 (48 : UInt8) = 48 := rfl
  have e3 : n8 (95 : UInt8) = 95 := rfl
  have e4 : n8 (45 : UInt8) = 45 := rfl
  have e5 : n8 (57 : UInt8) = 57 := rfl
  have e6 : n8 (90 : UInt8) = 90 := rfl
  rw [e1, e2, e3, e4, e5, e6]
  simp only [cnd_ilt, cnd_ine, okc, cnd_dec]
  repeat' split
  all_goals first | rfl | (exfalso; omega)
def upc (c : Int) : Bool := decide (65 ≤ c ∧ c ≤ 90)
/-- a name -/
def nm (s : List UInt8) : Bool := decide (1 ≤ s.length ∧ s.length ≤ 16) && upc (n8 (s.getD 0 0)) && s.all fun c => okc (n8 c)
theorem all_step {s : List UInt8} {i : Nat} (h : i < s.length) (P : UInt8 → Bool) : (s.drop i).all P = (P s[i] && (s.drop (i + 1)).all P) := by
  rw [List.drop_eq_getElem_cons h, List.all_cons]
theorem nm_loop {s : List UInt8} (hs : s.length ≤ 16) : ∀ (fuel i : Nat), s.length - i < fuel → i ≤ s.length →
    fixN (fun v2 (v3 : Int) =>
                cnd (ilt v3 (len s))
                  (grd (inb v3 (len s)) (cnd (okc (n8 (lget s (toN v3) (0 : UInt8)))) (v2 (w64 (iadd v3 (1 : Int)))) (some false)))
                  (some true)) fuel (i : Int) = some ((s.drop i).all fun c => okc (n8 c))
  | 0, i, h, _ => by omega
  | fuel + 1, i, h, hi => by
    rw [fixN_s]
    by_cases hl : i < s.length
    · have g : lget s (toN (i : Int)) 0 = s[i] := by simp [lget, toN, hl]
      rw [cnd_t (ilt_t (by simp only [len]; omega)), grd_t (inb_t (by simp only [len]; omega)), g, all_step hl]
      have hw : w64 (iadd (i : Int) 1) = ((i + 1 : Nat) : Int) := by
        simp only [iadd]; rw [w64_id (by omega)]; omega
      rw [hw, nm_loop hs fuel (i + 1) (by omega) (by omega)]
      cases okc (n8 s[i]) <;> rfl
    · rw [cnd_f (ilt_f (by simp only [len]; omega))]
      have : s.drop i = [] := by simp; omega
      rw [this]
      rfl
theorem lines_name (s : List UInt8) : lines_Name fuelH s = some (nm s) := by
  unfold lines_Name
  simp only [jn_e, nm_body]
  by_cases h1 : s.length < 1
  · rw [cnd_t (ilt_t (by simp only [len]; omega))]
    simp [nm]; omega
  · rw [cnd_f (ilt_f (by simp only [len]; omega))]
    by_cases h2 : 16 < s.length
    · rw [cnd_t (ilt_t (by simp only [len]; omega))]
      simp [nm]; omega
    · rw [cnd_f (ilt_f (by simp only [len]; omega)), grd_t (inb_t (by simp only [len]; omega))]
      have e0 : lget s (toN 0) 0 = s.getD 0 0 := rfl
      have e1 : n8 (65 : UInt8) = 65 := rfl
      have e2 : n8 (90 : UInt8) = 90 := rfl
      rw [e0, e1, e2, cnd_ilt]
      have hd : decide (1 ≤ s.length ∧ s.length ≤ 16) = true := decide_eq_true (by omega)
      split
      · rename_i h3
        have : upc (n8 (s.getD 0 0)) = false := decide_eq_false (by omega)
        simp only [nm, this, Bool.and_false, Bool.false_and]
      · rw [grd_t (inb_t (by simp only [len]; omega)), cnd_ilt]
        split
        · rename_i h4
          have : upc (n8 (s.getD 0 0)) = false := decide_eq_false (by omega)
          simp only [nm, this, Bool.and_false, Bool.false_and]
        · have hu : upc (n8 (s.getD 0 0)) = true := decide_eq_true (by omega)
          have := nm_loop (s := s) (by omega) fuelH 0 (by show s.length - 0 < 5000; omega) (Nat.zero_le _)
          simp only [nm, hu, hd, Bool.true_and]
          simpa using this
theorem digit_eq (N : Nat) (c : UInt8) : r07_digit N c = some (decide (48 ≤ n8 c ∧ n8 c ≤ 57)) := by
  unfold r07_digit
  have e1 : n8 (48 : UInt8) = 48 := rfl
  have e2 : n8 (57 : UInt8) = 57 := rfl
  rw [e1, e2, cnd_ile]
  split
  · simp only [ile, Option.some.injEq, decide_eq_decide]; omega
  · simp only [Option.some.injEq]; exact (decide_eq_false (by omega)).symm
/-- one round -/
theorem r07_body {s : List UInt8} {i : Nat} (h : i < s.length) (X : Option Bool) (N : Nat) :
    (grd (inb (i : Int) (len s)) <|
          cnd (ile (n8 (65 : UInt8)) (n8 (lget s (toN (i : Int)) (0 : UInt8))))
            (grd (inb (i : Int) (len s))
              ((fun (v4 : Bool) =>
            cnd (bnot v4)
              (cnd (ieq (i : Int) (0 : Int))
                (some false)
                (grd (inb (i : Int) (len s))
                  (bnd (r07_digit N (lget s (toN (i : Int)) (0 : UInt8))) fun v5 =>
                  cnd (bnot v5)
                    (grd (inb (i : Int) (len s))
                      (cnd (ine (n8 (lget s (toN (i : Int)) (0 : UInt8))) (n8 (95 : UInt8)))
                        (grd (inb (i : Int) (len s))
                          (cnd (ine (n8 (lget s (toN (i : Int)) (0 : UInt8))) (n8 (45 : UInt8)))
                            (some false)
                            X))
                        X))
                    X)))
              X) (ile (n8 (lget s (toN (i : Int)) (0 : UInt8))) (n8 (90 : UInt8)))))
            ((fun (v4 : Bool) =>
            cnd (bnot v4)
              (cnd (ieq (i : Int) (0 : Int))
                (some false)
                (grd (inb (i : Int) (len s))
                  (bnd (r07_digit N (lget s (toN (i : Int)) (0 : UInt8))) fun v5 =>
                  cnd (bnot v5)
                    (grd (inb (i : Int) (len s))
                      (cnd (ine (n8 (lget s (toN (i : Int)) (0 : UInt8))) (n8 (95 : UInt8)))
                        (grd (inb (i : Int) (len s))
                          (cnd (ine (n8 (lget s (toN (i : Int)) (0 : UInt8))) (n8 (45 : UInt8)))
                            (some false)
                            X))
                        X))
                    X)))
              X) false)) = if upc (n8 s[i]) = true then X else if i = 0 then some false else if okc (n8 s[i]) = true then X else some false := by
  have hb : inb (i : Int) (len s) = true := inb_t (by simp only [len]; omega)
  have g : lget s (toN (i : Int)) 0 = s[i] := by simp [lget, toN, h]
  have e1 : n8 (65 : UInt8) = 65 := rfl
  have e2 : n8 (90 : UInt8) = 90 := rfl
  have e3 : n8 (95 : UInt8) = 95 := rfl
  have e4 : n8 (45 : UInt8) = 45 := rfl
  simp only [grd_t hb, g, e1, e2, e3, e4]
  rw [bnd_s (digit_eq N s[i])]
  generalize n8 s[i] = c
  have hi : ((i : Int) = 0) ↔ i = 0 := by omega
  have b1 : ∀ (p : Prop) [Decidable p] (x y : Option Bool), cnd (bnot (decide p)) x y = if p then y else x := fun p _ x y => by
    by_cases hp : p <;> simp [hp, bnot, cnd]
  have b2 : ∀ x y : Option Bool, cnd (bnot false) x y = x := fun _ _ => rfl
  simp only [cnd_ile, cnd_ieq, cnd_ine, cnd_dec, ile, b1, b2, upc, okc, decide_eq_true_eq, hi]
  repeat' split
  all_goals first | rfl | (exfalso; omega)
theorem r07_name (s : List UInt8) : r07_Name fuelH s = some (nm s) := by
  unfold r07_Name
  by_cases h1 : s.length < 1
  · rw [cnd_t (ilt_t (by simp only [len]; omega))]
    simp [nm]; omega
  · rw [cnd_f (ilt_f (by simp only [len]; omega))]
    by_cases h2 : 16 < s.length
    · rw [cnd_t (ilt_t (by simp only [len]; omega))]
      simp [nm]; omega
    · rw [cnd_f (ilt_f (by simp only [len]; omega))]
      simp only [jn_e]
      have hd : decide (1 ≤ s.length ∧ s.length ≤ 16) = true := decide_eq_true (by omega)
      have loop : ∀ (fuel i : Nat), s.length - i < fuel → i ≤ s.length → fixN (fun v2 (v3 : Int) =>
        cnd (ilt v3 (len s))
          (grd (inb v3 (len s)) <|
          cnd (ile (n8 (65 : UInt8)) (n8 (lget s (toN v3) (0 : UInt8))))
            (grd (inb v3 (len s))
              ((fun (v4 : Bool) =>
            cnd (bnot v4)
              (cnd (ieq v3 (0 : Int))
                (some false)
                (grd (inb v3 (len s))
                  (bnd (r07_digit fuelH (lget s (toN v3) (0 : UInt8))) fun v5 =>
                  cnd (bnot v5)
                    (grd (inb v3 (len s))
                      (cnd (ine (n8 (lget s (toN v3) (0 : UInt8))) (n8 (95 : UInt8)))
                        (grd (inb v3 (len s))
                          (cnd (ine (n8 (lget s (toN v3) (0 : UInt8))) (n8 (45 : UInt8)))
                            (some false)
                            (v2 (w64 (iadd v3 (1 : Int))))))
                        (v2 (w64 (iadd v3 (1 : Int))))))
                    (v2 (w64 (iadd v3 (1 : Int)))))))
              (v2 (w64 (iadd v3 (1 : Int))))) (ile (n8 (lget s (toN v3) (0 : UInt8))) (n8 (90 : UInt8)))))
            ((fun (v4 : Bool) =>
            cnd (bnot v4)
              (cnd (ieq v3 (0 : Int))
                (some false)
                (grd (inb v3 (len s))
                  (bnd (r07_digit fuelH (lget s (toN v3) (0 : UInt8))) fun v5 =>
                  cnd (bnot v5)
                    (grd (inb v3 (len s))
                      (cnd (ine (n8 (lget s (toN v3) (0 : UInt8))) (n8 (95 : UInt8)))
                        (grd (inb v3 (len s))
                          (cnd (ine (n8 (lget s (toN v3) (0 : UInt8))) (n8 (45 : UInt8)))
                            (some false)
                            (v2 (w64 (iadd v3 (1 : Int))))))
                        (v2 (w64 (iadd v3 (1 : Int))))))
                    (v2 (w64 (iadd v3 (1 : Int)))))))
              (v2 (w64 (iadd v3 (1 : Int))))) false))
          (some true)) fuel (i : Int) = some (bif decide (i = 0) then upc (n8 (s.getD 0 0)) && s.all (fun c => okc (n8 c)) else (s.drop i).all fun c => okc (n8 c)) := by
        intro fuel
        induction fuel with
        | zero => intro i h; omega
        | succ fuel ih =>
          intro i h hi
          rw [fixN_s]
          by_cases hl : i < s.length
          · rw [cnd_t (ilt_t (by simp only [len]; omega)), r07_body hl]
            have hw : w64 (iadd (i : Int) 1) = ((i + 1 : Nat) : Int) := by
              simp only [iadd]; rw [w64_id (by omega)]; omega
            rw [hw, ih (i + 1) (by omega) (by omega)]
            have hup : upc (n8 s[i]) = true → okc (n8 s[i]) = true := fun h => by
              have := of_decide_eq_true h
              exact decide_eq_true (.inl this)
            have e0 : decide (i + 1 = 0) = false := decide_eq_false (by omega)
            simp only [e0, cond_false]
            by_cases hz : i = 0
            · subst hz
              have g0 : s.getD 0 0 = s[0] := by simp [hl]
              have hs : s.all (fun c => okc (n8 c)) = (okc (n8 s[0]) && (s.drop 1).all fun c => okc (n8 c)) := by
                have := all_step (s := s) (i := 0) hl (fun c => okc (n8 c))
                simpa using this
              simp only [decide_true, cond_true, if_true, g0, hs]
              cases hu : upc (n8 s[0]) with
              | true => simp [hup hu]
              | false => simp
            · have : decide (i = 0) = false := decide_eq_false hz
              simp only [this, cond_false, hz, if_false, all_step hl]
              cases hu : upc (n8 s[i]) with
              | true => simp [hup hu]
              | false => cases okc (n8 s[i]) <;> simp
          · rw [cnd_f (ilt_f (by simp only [len]; omega))]
            have hz : decide (i = 0) = false := decide_eq_false (by omega)
            have : s.drop i = [] := by simp; omega
            rw [hz, this]
            rfl
      have := loop fuelH 0 (by show s.length - 0 < 5000; omega) (Nat.zero_le _)
      simp only [decide_true, cond_true] at this
      simp only [nm, hd, Bool.true_and]
      exact this
end Go.Mo
end

section
/-
  Plain facts: the check of a header.
-/
namespace Go.Mo
open Go Go.W Go.Lib
set_option maxRecDepth 100000
abbrev Lbl := Int × Int × Int × Int × Bool
abbrev Hdr := UInt8 × (List UInt8) × (List UInt8) × Int × Int × Lbl × Lbl × Int × Int
theorem within_eq (N : Nat) (n lo hi : Int) : r23_within N (n, lo, hi) = some (decide (lo ≤ n ∧ n ≤ hi)) := by
  unfold r23_within
  simp only
  rw [cnd_ile]
  split
  · simp only [ile, Option.some.injEq, decide_eq_decide]; omega
  · simp only [Option.some.injEq]; exact (decide_eq_false (by omega)).symm
theorem cnd_bnot {α : Type} {p : Prop} [Decidable p] {x y : Option α} : cnd (bnot (decide p)) x y = if p then y else x := by
  by_cases hp : p <;> simp [hp, bnot, cnd]
theorem bnd_some' {α β : Type} {a : α} {k : α → Option β} : bnd (some a) k = k a := rfl
theorem rng_eq {α : Type} {n lo hi : Int} {x r : Option α} : cnd (bnot (decide (lo ≤ n ∧ n ≤ hi))) x r = cnd (ilt n lo) x (cnd (ilt hi n) x r) := by
  rw [cnd_bnot, cnd_ilt, cnd_ilt]
  repeat' split
  all_goals first | rfl | (exfalso; omega)
theorem checkHeader_eq (h : Hdr) (h2 : h.2.2.1.length ≤ 4000) : tape_CheckHeader fuelH h = r23_CheckHeader fuelH h := by
  unfold tape_CheckHeader r23_CheckHeader
  simp only [ch_valid _ h2, r08_valid _ h2, lines_name, r07_name, within_eq, bnd_some', rng_eq, check_eq]
  kernel_rfl
end Go.Mo
end

section
/-
  Plain facts: the characters of a text, and the text of characters.
-/
namespace Go.Mo
open Go Go.W Go.Lib
set_option maxRecDepth 100000

def rnsF : Nat → List UInt8 → List Int
  | 0, _ => []
  | n + 1, l => if l = [] then [] else ((decodeL l).1 : Int) :: rnsF n (l.drop (decodeL l).2)
/-- the characters of a text -/
def rns (l : List UInt8) : List Int := rnsF l.length l
/-- the text of characters -/
def ofR (l : List Int) : List UInt8 := l.flatMap enc
theorem rnsF_nil : ∀ n, rnsF n [] = []
  | 0 => rfl
  | n + 1 => by simp [rnsF]
theorem rnsF_fuel : ∀ (n m : Nat) (l : List UInt8), l.length ≤ n → l.length ≤ m → rnsF n l = rnsF m l
  | 0, m, l, h, _ => by
    have : l = [] := List.eq_nil_of_length_eq_zero (by omega)
    subst this
    rw [rnsF_nil, rnsF_nil]
  | n + 1, 0, l, _, h => by
    have : l = [] := List.eq_nil_of_length_eq_zero (by omega)
    subst this
    rw [rnsF_nil, rnsF_nil]
  | n + 1, m + 1, l, h1, h2 => by
    by_cases hl : l = []
    · subst hl; rw [rnsF_nil, rnsF_nil]
    · have hp := dec_pos l
      have hlen : 0 < l.length := List.length_pos_iff.2 hl
      simp only [rnsF, hl, if_false]
      rw [rnsF_fuel n m _ (by simp; omega) (by simp; omega)]
theorem rns_nil : rns [] = [] := rfl
theorem rns_step (l : List UInt8) (hl : l ≠ []) : rns l = ((decodeL l).1 : Int) :: rns (l.drop (decodeL l).2) := by
  have hp := dec_pos l
  have hlen : 0 < l.length := List.length_pos_iff.2 hl
  unfold rns
  obtain ⟨n, hn⟩ : ∃ n, l.length = n + 1 := ⟨l.length - 1, by omega⟩
  rw [hn]
  simp only [rnsF, hl, if_false]
  rw [rnsF_fuel n _ _ (by simp; omega) (Nat.le_refl _)]
theorem rep_mem {r : Int} (h : inRep r = true) : r ∈ loRunes ++ hiRunes := by
  unfold inRep at h
  rw [← lo_mem, Bool.or_eq_true] at h
  rw [List.mem_append]
  rcases h with h | h
  · exact .inl (List.contains_iff_mem.1 h)
  · exact .inr (List.contains_iff_mem.1 h)
theorem all_rep {P : Int → Bool} (h : ((loRunes ++ hiRunes).all P) = true) {r : Int} (hr : inRep r = true) : P r = true :=
  List.all_eq_true.1 h r (rep_mem hr)
theorem enc_rep {r : Int} (hr : inRep r = true) : enc r = encodeRune r :=
  of_decide_eq_true (all_rep (P := fun r => decide (enc r = encodeRune r)) (by kernel_rfl) hr)
theorem enc_dec (l : List UInt8) (hl : l ≠ []) (hr : inRep ((decodeL l).1 : Int) = true) : enc ((decodeL l).1 : Int) = l.take (decodeL l).2 := by
  rw [enc_rep hr]
  refine encode_decode l hl ?_
  rintro ⟨e, _⟩
  rw [e] at hr
  exact absurd hr (by decide)
theorem rns_rep : ∀ (n : Nat) (l : List UInt8), l.length ≤ n → vld l = true → (rns l).all inRep = true ∧ ofR (rns l) = l
  | n, l, h, hv => by
    by_cases hl : l = []
    · subst hl; exact ⟨rfl, rfl⟩
    · have hlen : 0 < l.length := List.length_pos_iff.2 hl
      have hp := dec_pos l
      rw [vld_step l hl] at hv
      split at hv
      · rename_i hr
        cases n with
        | zero => omega
        | succ n =>
          obtain ⟨h1, h2⟩ := rns_rep n _ (by simp; omega) hv
          rw [rns_step l hl]
          refine ⟨by rw [List.all_cons, hr, h1]; rfl, ?_⟩
          unfold ofR at h2 ⊢
          rw [List.flatMap_cons, h2, enc_dec l hl hr, List.take_append_drop]
      · cases hv
theorem rns_ok {l : List UInt8} (h : vld l = true) : (rns l).all inRep = true := (rns_rep _ l (Nat.le_refl _) h).1
theorem ofR_rns {l : List UInt8} (h : vld l = true) : ofR (rns l) = l := (rns_rep _ l (Nat.le_refl _) h).2
theorem rns_len : ∀ (n : Nat) (l : List UInt8), l.length ≤ n → (rns l).length ≤ l.length
  | n, l, h => by
    by_cases hl : l = []
    · subst hl; exact Nat.le_refl _
    · have hlen : 0 < l.length := List.length_pos_iff.2 hl
      have hp := dec_pos l
      rw [rns_step l hl]
      cases n with
      | zero => omega
      | succ n =>
        have := rns_len n (l.drop (decodeL l).2) (by simp; omega)
        simp at this ⊢
        omega

/-! ### loops -/
def foldR {σ R : Type} (g : Int → σ → (σ → Option R) → Option R) (e : σ → Option R) : List Int → σ → Option R
  | [], a => e a
  | r :: l, a => g r a fun a' => foldR g e l a'
/-- a loop over the characters of a text -/
theorem str_loop {V R σ : Type} {F : (V → Option R) → V → Option R} {s : List UInt8} (st : σ → Nat → V) (g : Int → σ → (σ → Option R) → Option R) (e : σ → Option R)
    (hstep : ∀ self a p, p < s.length → F self (st a p) = g (decR s p) a fun a' => self (st a' (p + decW s p)))
    (hend : ∀ self a p, s.length ≤ p → F self (st a p) = e a) : ∀ (fuel p : Nat) (a : σ), s.length - p < fuel → fixN F fuel (st a p) = foldR g e (rns (s.drop p)) a
  | 0, p, a, h => by omega
  | fuel + 1, p, a, h => by
    rw [fixN_s]
    by_cases hp : p < s.length
    · have hne : s.drop p ≠ [] := by intro e; have := congrArg List.length e; simp at this; omega
      have hw := dec_pos (s.drop p)
      rw [hstep _ _ _ hp, rns_step _ hne, ← decR_eq, foldR, List.drop_drop, ← decW_eq]
      congr 1
      funext a'
      rw [decW_eq]
      have := str_loop st g e hstep hend fuel (p + (decodeL (s.drop p)).2) a' (by omega)
      exact this
    · rw [hend _ _ _ (by omega)]
      have : s.drop p = [] := by simp; omega
      rw [this]
      rfl
def foldI {α σ R : Type} (g : Nat → α → σ → (σ → Option R) → Option R) (e : σ → Option R) : Nat → List α → σ → Option R
  | _, [], a => e a
  | i, x :: l, a => g i x a fun a' => foldI g e (i + 1) l a'
/-- a loop over the elements of a list -/
theorem lst_loop {V R σ α : Type} {F : (V → Option R) → V → Option R} {l : List α} (st : σ → Nat → V) (g : Nat → α → σ → (σ → Option R) → Option R) (e : σ → Option R)
    (hstep : ∀ self a i (h : i < l.length), F self (st a i) = g i l[i] a fun a' => self (st a' (i + 1)))
    (hend : ∀ self a, F self (st a l.length) = e a) : ∀ (fuel i : Nat) (a : σ), i ≤ l.length → l.length - i < fuel → fixN F fuel (st a i) = foldI g e i (l.drop i) a
  | 0, i, a, _, h => by omega
  | fuel + 1, i, a, hi, h => by
    rw [fixN_s]
    by_cases hl : i < l.length
    · rw [hstep _ _ _ hl, List.drop_eq_getElem_cons hl, foldI]
      congr 1
      funext a'
      exact lst_loop st g e hstep hend fuel (i + 1) a' (by omega) (by omega)
    · obtain rfl : i = l.length := by omega
      rw [hend, List.drop_length]
      rfl
theorem w64_succ {i n : Nat} (h : i < n) (hn : n ≤ 9223372036854775807) : w64 (iadd (i : Int) 1) = ((i + 1 : Nat) : Int) := by
  simp only [iadd]; rw [w64_id (by omega)]; omega
theorem lget_i {α : Type} {l : List α} {i : Nat} {d : α} (h : i < l.length) : lget l (toN (i : Int)) d = l[i] := by simp [lget, toN, h]
theorem nlt_t {a b : Nat} (h : a < b) : nlt a b = true := decide_eq_true h
theorem nlt_f {a b : Nat} (h : ¬ a < b) : nlt a b = false := decide_eq_false h
theorem toN_ofN (n : Nat) : toN (ofN n) = n := by simp [toN, ofN]
end Go.Mo
end

section
/-
  Plain facts: the characters of the tape form.
-/
namespace Go.Mo
open Go Go.W Go.Lib
set_option maxRecDepth 100000

/-! ### the layer's own functions -/
def ixE (r : Int) : Option Int := cnd (ile 32 r) (cnd (ile r 126) (some (w64 (wr .i32 (isub r 32)))) (chain (loRunes ++ hiRunes) 0 r)) (chain (loRunes ++ hiRunes) 0 r)
theorem bnd_id {α : Type} (x : Option α) : (bnd x fun v => some v) = x := by cases x <;> rfl
theorem ch_ix (r : Int) : charset_Index fuelH r = ixE r := by
  rw [ch_index, place_eq, bnd_id]
  rfl
theorem r08_ix (r : Int) : r08_Index fuelH r = ixE r := by
  rw [r08_index, place_eq]
  rfl
def ix (r : Int) : Int := (ixE r).getD 0
theorem ix_tab : ((loRunes ++ hiRunes).all fun r => decide (ixE r = some (ix r) ∧ 0 ≤ ix r)) = true := by kernel_rfl
theorem ix_ok {r : Int} (hr : inRep r = true) : ixE r = some (ix r) ∧ 0 ≤ ix r := of_decide_eq_true (all_rep (P := fun r => decide (ixE r = some (ix r) ∧ 0 ≤ ix r)) ix_tab hr)
/-- the capital letter -/
def up (r : Int) : Int := if (97 ≤ r ∧ r ≤ 122) ∨ (224 ≤ r ∧ r ≤ 255) then r - 32 else if r = 339 then 338 else r
def upK (x v0 : Int) : Option Int :=
  cnd (ilt v0 (0 : Int))
    (some (0 : Int))
    (jn (fun (v1 : Bool) =>
      cnd v1
        (some (wr .i32 (isub x (32 : Int))))
        (cnd (ieq x (339 : Int))
          (some (338 : Int))
          (some x)))
    fun v2 =>
    cnd (ile (97 : Int) x)
      (cnd (ile x (122 : Int))
        (v2 (ile x (122 : Int)))
        (cnd (ile (224 : Int) x)
          (v2 (ile x (255 : Int)))
          (v2 false)))
      (cnd (ile (224 : Int) x)
        (v2 (ile x (255 : Int)))
        (v2 false)))
theorem upper_eq {r : Int} (hr : inRep r = true) : charset_Upper fuelH r = some (up r) := by
  have h : charset_Upper fuelH r = bnd (charset_Index fuelH r) (upK r) := rfl
  rw [h, ch_ix, (ix_ok hr).1, bnd_some']
  exact of_decide_eq_true (all_rep (P := fun r => decide (upK r (ix r) = some (up r))) (by kernel_rfl) hr)
/-- the letter of a letter with a diacritic -/
def basT : List Int := [33, 99, 76, 36, 89, 124, 83, 67, 34, 82, 111, 46, 34, 50, 63, 65, 65, 65, 65, 65, 65, 65, 67, 69, 69, 69, 69, 73, 73, 73, 73, 78, 79, 79, 79, 79, 79, 79, 85, 85, 85, 85, 115, 97, 97, 97, 97, 97, 97, 97, 99, 101, 101, 101, 101, 105, 105, 105, 105, 110, 111, 111, 111, 111, 111, 111, 117, 117, 117, 117, 79, 111, 45, 39, 39, 34, 34, 46, 46, 84, 35]
def bas (r : Int) : Int := if r < 127 then r else basT.getD ((ix r).toNat - 95) 0
def basB : List UInt8 := [33, 99, 76, 36, 89, 124, 83, 67, 34, 82, 111, 46, 34, 50, 63, 65, 65, 65, 65, 65, 65, 65, 67, 69, 69, 69, 69, 73, 73, 73, 73, 78, 79, 79, 79, 79, 79, 79, 85, 85, 85, 85, 115, 97, 97, 97, 97, 97, 97, 97, 99, 101, 101, 101, 101, 105, 105, 105, 105, 110, 111, 111, 111, 111, 111, 111, 117, 117, 117, 117, 79, 111, 45, 39, 39, 34, 34, 46, 46, 84, 35]
def basK (x v0 : Int) : Option Int :=
  cnd (ilt v0 (0 : Int))
    (some (0 : Int))
    (cnd (ilt v0 (95 : Int))
      (some x)
      (grd (inb (w64 (isub v0 (95 : Int))) (len basB))
        (some (wr .i32 (n8 (lget basB (toN (w64 (isub v0 (95 : Int)))) (0 : UInt8)))))))
theorem base_eq {r : Int} (hr : inRep r = true) : charset_Base fuelH r = some (bas r) := by
  have h : charset_Base fuelH r = bnd (charset_Index fuelH r) (basK r) := by kernel_rfl
  rw [h, ch_ix, (ix_ok hr).1, bnd_some']
  exact of_decide_eq_true (all_rep (P := fun r => decide (basK r (ix r) = some (bas r))) (by kernel_rfl) hr)
/-- the bytes of diacritics, and their letters -/
def accs : List (UInt8 × List UInt8 × List Int) := [(193, [195, 128, 195, 136, 195, 140, 195, 146, 195, 153], [192, 200, 204, 210, 217]), (194, [195, 129, 195, 137, 195, 141, 195, 147, 195, 154], [193, 201, 205, 211, 218]), (195, [195, 130, 195, 138, 195, 142, 195, 148, 195, 155], [194, 202, 206, 212, 219]), (196, [195, 131, 195, 145, 195, 149], [195, 209, 213]), (197, [], []), (198, [], []), (199, [], []), (200, [195, 132, 195, 139, 195, 143, 195, 150, 195, 156], [196, 203, 207, 214, 220]), (201, [], []), (202, [195, 133], [197]), (203, [195, 135], [199])]
theorem cont_tab : (accs.all fun a => (loRunes ++ hiRunes).all fun r => decide (strings_ContainsRune fuelH (a.2.1, up r) = some (a.2.2.contains (up r)))) = true := by kernel_rfl
theorem cont_eq {a : UInt8 × List UInt8 × List Int} (ha : a ∈ accs) {r : Int} (hr : inRep r = true) : strings_ContainsRune fuelH (a.2.1, up r) = some (a.2.2.contains (up r)) :=
  of_decide_eq_true (all_rep (P := fun r => decide (strings_ContainsRune fuelH (a.2.1, up r) = some (a.2.2.contains (up r)))) (List.all_eq_true.1 cont_tab a ha) hr)
def sgs : List (Int × UInt8) := [(161, 161), (162, 162), (163, 163), (164, 164), (165, 165), (166, 166), (167, 167), (169, 168), (8216, 169), (8220, 170), (171, 171), (174, 172), (8212, 173), (8226, 174), (8230, 175), (176, 176), (8482, 180), (183, 183), (8217, 185), (8221, 186), (187, 187), (189, 189), (191, 191), (9834, 213), (198, 225), (216, 233), (338, 234), (230, 241), (248, 249), (339, 250), (223, 251)]
def sgC : List (Int × UInt8) → Int → Option (List UInt8) → Option (List UInt8)
  | [], _, k => k
  | (c, b) :: l, r, k => cnd (ieq c r) (some [b]) (sgC l r k)
def acC : List (UInt8 × List UInt8 × List Int) → Int → Option (List UInt8)
  | [], _ => some []
  | (b, s, _) :: l, r => bnd (charset_Upper fuelH r) fun v7 => bnd (strings_ContainsRune fuelH (s, v7)) fun v8 => cnd v8 (bnd (charset_Base fuelH r) fun v9 => some [b, b8 v9]) (acC l r)
theorem latin_put_eq (r : Int) : latin_Put fuelH r = bnd (latin_Carries fuelH r) fun v0 => cnd (bnot v0) (some []) (cnd (ilt r 127) (some [b8 r]) (sgC sgs r (acC accs r))) := by kernel_rfl
/-- the same without calls -/
def acP : List (UInt8 × List UInt8 × List Int) → Int → List UInt8
  | [], _ => []
  | (b, _, l) :: r, x => if l.contains (up x) then [b, b8 (bas x)] else acP r x
theorem acC_eq {r : Int} (hr : inRep r = true) : ∀ (l : List (UInt8 × List UInt8 × List Int)), (∀ a ∈ l, a ∈ accs) → acC l r = some (acP l r)
  | [], _ => rfl
  | (b, s, m) :: l, h => by
    simp only [acC, acP]
    have := cont_eq (h (b, s, m) (by simp)) hr
    rw [upper_eq hr, bnd_some', bnd_s this, base_eq hr, bnd_some', acC_eq hr l fun a ha => h a (by simp [ha])]
    cases m.contains (up r) <;> rfl
def sgP : List (Int × UInt8) → Int → List UInt8 → List UInt8
  | [], _, k => k
  | (c, b) :: l, r, k => if c = r then [b] else sgP l r k
theorem sgC_eq : ∀ (l : List (Int × UInt8)) (r : Int) (k : List UInt8), sgC l r (some k) = some (sgP l r k)
  | [], _, _ => rfl
  | (c, b) :: l, r, k => by
    simp only [sgC, sgP]
    rw [sgC_eq l r k]
    by_cases h : c = r
    · rw [cnd_t (ieq_t h), if_pos h]
    · rw [cnd_f (ieq_f h), if_neg h]
/-- the bytes of a character -/
def lat (r : Int) : List UInt8 := if r < 127 then [b8 r] else sgP sgs r (acP accs r)
theorem latin_put {r : Int} (hr : inRep r = true) : latin_Put fuelH r = some (lat r) := by
  have hc : latin_Carries fuelH r = some true := by
    unfold latin_Carries
    rw [ch_ix, (ix_ok hr).1, bnd_some', ile_t (ix_ok hr).2]
  rw [latin_put_eq, bnd_s hc, cnd_f (by rfl), acC_eq hr accs fun a h => h, sgC_eq, cnd_ilt]
  unfold lat
  split <;> rfl


/-! ### the specification's functions -/
/-- the character of a byte -/
def sgl (c : UInt8) : Int := if 32 ≤ n8 c ∧ n8 c ≤ 126 then n8 c else ((sgs.find? fun x => x.2 == c).map (·.1)).getD 0
theorem single_eq (c : UInt8) : r22_single fuelH c = some (sgl c) :=
  of_decide_eq_true (all_u8 (P := fun c => decide (r22_single fuelH c = some (sgl c))) (by kernel_rfl) c)
/-- the character of two bytes -/
def dbT : List (UInt8 × List Int) := accs.map fun a => (a.1, a.2.2)
def dbl (a b : UInt8) : Int :=
  let c := if 97 ≤ n8 b ∧ n8 b ≤ 122 then b - 32 else b
  match (accs.filter fun x => x.1 == a).flatMap fun x => x.2.2.filter fun r => bas r == n8 c with
  | [] => 0
  | r :: _ => if 97 ≤ n8 b ∧ n8 b ≤ 122 then r + 32 else r
theorem double_eq {n k : Nat} (hn : n < 11) (hk : k < 58) : r22_double fuelH (UInt8.ofNat (n + 193), UInt8.ofNat (k + 65)) = some (dbl (UInt8.ofNat (n + 193)) (UInt8.ofNat (k + 65))) := by
  have : ((List.range 11).all fun n => (List.range 58).all fun k => decide (r22_double fuelH (UInt8.ofNat (n + 193), UInt8.ofNat (k + 65)) = some (dbl (UInt8.ofNat (n + 193)) (UInt8.ofNat (k + 65))))) = true := by kernel_rfl
  exact of_decide_eq_true (List.all_eq_true.1 (List.all_eq_true.1 this n (List.mem_range.2 hn)) k (List.mem_range.2 hk))
/-- the first number with a property -/
def fst1 (P : Nat → Bool) : Nat → Nat → Option Nat
  | 0, _ => none
  | n + 1, i => if P i then some i else fst1 P n (i + 1)
def sg256 : List Int := (List.range 256).map fun n => sgl (UInt8.ofNat n)
def db638 : List (List Int) := (List.range 11).map fun n => (List.range 58).map fun k => dbl (UInt8.ofNat (n + 193)) (UInt8.ofNat (k + 65))
def idxI : List Int → Int → Nat → Option Nat
  | [], _, _ => none
  | c :: l, r, i => if c = r then some i else idxI l r (i + 1)
def idxII : List (List Int) → Int → Nat → Option (Nat × Nat)
  | [], _, _ => none
  | c :: l, r, i => match idxI c r 0 with
    | some k => some (i, k)
    | none => idxII l r (i + 1)
def latR (r : Int) : List UInt8 := match idxI sg256 r 0 with
  | some i => [UInt8.ofNat i]
  | none => match idxII db638 r 0 with
    | some (a, b) => [UInt8.ofNat (a + 193), UInt8.ofNat (b + 65)]
    | none => []
theorem latR_eq {r : Int} (hr : inRep r = true) : latR r = lat r :=
  of_decide_eq_true (all_rep (P := fun r => decide (latR r = lat r)) (by kernel_rfl) hr)
end Go.Mo
end

section
/-
  Plain facts: the bytes of a character by the specification.
-/
namespace Go.Mo
open Go Go.W Go.Lib
set_option maxRecDepth 100000

theorem b8_nat {n : Nat} (h : n < 256) : b8 (n : Int) = UInt8.ofNat n := by
  unfold b8
  congr 1
  omega
theorem foldI_idx {R : Type} (r : Int) (y : Nat → R) (K : Option R) : ∀ (l : List Int) (i : Nat), foldI (fun i c (_ : Unit) self => cnd (ieq c r) (some (y i)) (self ())) (fun _ => K) i l () = match idxI l r i with
    | some j => some (y j)
    | none => K
  | [], i => rfl
  | c :: l, i => by
    simp only [foldI, idxI]
    by_cases h : c = r
    · rw [cnd_t (ieq_t h), if_pos h]
    · rw [cnd_f (ieq_f h), if_neg h]
      exact foldI_idx r y K l (i + 1)
theorem foldI_idx2 {R : Type} (r : Int) (y : Nat → Nat → R) (K : Option R) : ∀ (l : List (List Int)) (i : Nat), foldI (fun i c (_ : Unit) self => match idxI c r 0 with
    | some k => some (y i k)
    | none => self ()) (fun _ => K) i l () = match idxII l r i with
    | some (j, k) => some (y j k)
    | none => K
  | [], i => rfl
  | c :: l, i => by
    simp only [foldI, idxII]
    cases idxI c r 0 with
    | some k => rfl
    | none => exact foldI_idx2 r y K l (i + 1)
theorem put_loops {r : Int} (T : List Int) (hT : T.length = 256) (hg : ∀ (i : Nat) (h : i < T.length), T[i] = sgl (UInt8.ofNat i)) (D : List (List Int)) (hD : D.length = 11)
    (hd : ∀ (i : Nat) (h : i < D.length), D[i].length = 58 ∧ ∀ (k : Nat) (h' : k < D[i].length), D[i][k] = dbl (UInt8.ofNat (i + 193)) (UInt8.ofNat (k + 65))) (hc : r22_Carries fuelH r = some true) :
    r22_Put fuelH r = match idxI T r 0 with
      | some i => some [UInt8.ofNat i]
      | none => match idxII D r 0 with
        | some (a, b) => some [UInt8.ofNat (a + 193), UInt8.ofNat (b + 65)]
        | none => some [] := by
  have h5 : fuelH = 5000 := rfl
  unfold r22_Put
  rw [bnd_s hc, cnd_f (by rfl), jn_e, jn_e]
  generalize fuelH = Q at h5 ⊢
  have hsg : ∀ c, r22_single Q c = some (sgl c) := by subst h5; exact single_eq
  have hdb : ∀ n k : Nat, n < 11 → k < 58 → r22_double Q (UInt8.ofNat (n + 193), UInt8.ofNat (k + 65)) = some (dbl (UInt8.ofNat (n + 193)) (UInt8.ofNat (k + 65))) := by subst h5; exact fun n k h h' => double_eq h h'
  refine Eq.trans (lst_loop (l := T) (fun (_ : Unit) (p : Nat) => (p : Int)) (fun i c (_ : Unit) self => cnd (ieq c r) (some [UInt8.ofNat i]) (self ())) (fun _ => match idxII D r 0 with
        | some (a, b) => some [UInt8.ofNat (a + 193), UInt8.ofNat (b + 65)]
        | none => some []) (fun self a i hi => ?_) (fun self a => ?_) Q 0 () (Nat.zero_le _) (by rw [hT, h5]; decide)) ?_
  · have h1 : i < 256 := by omega
    rw [cnd_t (ilt_t (by omega)), b8_nat h1, hsg, bnd_some', w64_succ h1 (by omega), hg i hi]
  · rw [hT, cnd_f (ilt_f (by omega))]
    show fixN _ Q 193 = _
    rw [show (193 : Int) = ((0 + 193 : Nat) : Int) from rfl]
    refine Eq.trans (lst_loop (l := D) (fun (_ : Unit) (p : Nat) => ((p + 193 : Nat) : Int)) (fun i c (_ : Unit) self => match idxI c r 0 with
      | some k => some [UInt8.ofNat (i + 193), UInt8.ofNat (k + 65)]
      | none => self ()) (fun _ => some []) (fun self a i hi => ?_) (fun self a => ?_) Q 0 () (Nat.zero_le _) (by rw [hD, h5]; decide)) ?_
    · have h1 : i < 11 := by omega
      obtain ⟨hl, hr⟩ := hd i hi
      rw [cnd_t (ile_t (by omega)), jn_e, b8_nat (show i + 193 < 256 by omega), show (65 : Int) = ((0 + 65 : Nat) : Int) from rfl]
      have hw : w64 (iadd ((i + 193 : Nat) : Int) 1) = ((i + 1 + 193 : Nat) : Int) := by
        simp only [iadd]; rw [w64_id (by omega)]; omega
      rw [hw]
      refine Eq.trans (lst_loop (l := D[i]) (fun (_ : Unit) (p : Nat) => ((p + 65 : Nat) : Int)) (fun k c (_ : Unit) self => cnd (ieq c r) (some [UInt8.ofNat (i + 193), UInt8.ofNat (k + 65)]) (self ())) (fun _ => self ((i + 1 + 193 : Nat) : Int)) (fun self a k hk => ?_) (fun self a => ?_) Q 0 () (Nat.zero_le _) (by rw [hl, h5]; decide)) ?_
      · have h2 : k < 58 := by omega
        rw [cnd_t (ile_t (by omega)), b8_nat (show k + 65 < 256 by omega), hdb i k h1 h2, bnd_some', hr k hk]
        have hw : wr .i32 (iadd ((k + 65 : Nat) : Int) 1) = ((k + 1 + 65 : Nat) : Int) := by
          rw [wi32_id (by simp only [iadd]; omega)]
          simp only [iadd]; omega
        rw [hw]
      · rw [hl, cnd_f (ile_f (by omega))]
      · rw [List.drop_zero, foldI_idx r (fun k => [UInt8.ofNat (i + 193), UInt8.ofNat (k + 65)])]
    · rw [hD, cnd_f (ile_f (by omega))]
    · rw [List.drop_zero, foldI_idx2 r (fun i k => [UInt8.ofNat (i + 193), UInt8.ofNat (k + 65)])]
  · rw [List.drop_zero, foldI_idx r (fun k => [UInt8.ofNat k])]
theorem r22_put {r : Int} (hr : inRep r = true) : r22_Put fuelH r = some (lat r) := by
  have hc : r22_Carries fuelH r = some true := by
    unfold r22_Carries
    rw [r08_ix, (ix_ok hr).1, bnd_some', ile_t (ix_ok hr).2]
  rw [← latR_eq hr, put_loops sg256 (by unfold sg256; rw [List.length_map, List.length_range]) (fun i h => by simp only [sg256, List.getElem_map, List.getElem_range]) db638 (by unfold db638; rw [List.length_map, List.length_range])
    (fun i h => by
      have e : db638[i] = (List.range 58).map fun k => dbl (UInt8.ofNat (i + 193)) (UInt8.ofNat (k + 65)) := by simp only [db638, List.getElem_map, List.getElem_range]
      refine ⟨by rw [e, List.length_map, List.length_range], fun k h' => ?_⟩
      simp only [e, List.getElem_map, List.getElem_range]) hc]
  unfold latR
  generalize idxI sg256 r 0 = a
  generalize idxII db638 r 0 = b
  cases a with
  | some j => rfl
  | none => cases b with
    | some p => rfl
    | none => rfl
theorem lat_tab : ((loRunes ++ hiRunes).all fun r => decide ((lat r).length ≤ (enc r).length ∧ 0 < (lat r).length)) = true := by kernel_rfl
theorem lat_ok {r : Int} (hr : inRep r = true) : latin_Put fuelH r = some (lat r) ∧ (lat r).length ≤ (enc r).length ∧ 0 < (lat r).length ∧ r22_Put fuelH r = some (lat r) := by
  have := of_decide_eq_true (all_rep (P := fun r => decide ((lat r).length ≤ (enc r).length ∧ 0 < (lat r).length)) lat_tab hr)
  exact ⟨latin_put hr, this.1, this.2, r22_put hr⟩
end Go.Mo
end

section
/-
  Plain facts: texts in the characters of the tape form.
-/
namespace Go.Mo
open Go Go.W Go.Lib
set_option maxRecDepth 100000

/-- the bytes of a text -/
def latE (s : List UInt8) : List UInt8 := (rns s).flatMap lat
theorem lat_len : ∀ (l : List Int), l.all inRep = true → (l.flatMap lat).length ≤ (ofR l).length
  | [], _ => Nat.le_refl _
  | r :: l, h => by
    rw [List.all_cons, Bool.and_eq_true] at h
    have h1 := (lat_ok h.1).2.1
    have h2 := lat_len l h.2
    unfold ofR at h2 ⊢
    simp only [List.flatMap_cons, List.length_append]
    omega
theorem latE_len {s : List UInt8} (h : vld s = true) : (latE s).length ≤ s.length := by
  have := lat_len (rns s) (rns_ok h)
  rwa [ofR_rns h] at this
/-- all the bytes of characters behind bytes -/
theorem put_fold {R : Type} (Put : Int → Option (List UInt8)) (hP : ∀ r, inRep r = true → Put r = some (lat r)) (k : List UInt8 → Option R) : ∀ (l : List Int) (out : List UInt8), l.all inRep = true → out.length + (ofR l).length ≤ 100000 →
    foldR (fun r out self => bnd (Put r) fun v => grd (room (iadd (len out) (len v)) 1) (self (lapp out v))) k l out = k (out ++ l.flatMap lat)
  | [], out, _, _ => by simp [foldR]
  | r :: l, out, h, hb => by
    rw [List.all_cons, Bool.and_eq_true] at h
    have h1 := (lat_ok h.1).2.1
    simp only [ofR, List.flatMap_cons, List.length_append] at hb
    rw [foldR, bnd_s (hP r h.1), grd_t (room_t (by simp only [iadd, len]; omega))]
    show foldR _ _ _ (lapp out (lat r)) = _
    rw [put_fold Put hP k l _ h.2 (by simp only [lapp, List.length_append, ofR]; omega)]
    simp [lapp]
theorem latin_encode {s : List UInt8} (hs : s.length ≤ 4000) : latin_Encode fuelH s = if vld s = true then some (latE s, 0) else some ([], 10) := by
  unfold latin_Encode
  rw [bnd_s (ch_valid s hs)]
  cases hv : vld s with
  | false => rfl
  | true =>
    rw [cnd_f (by rfl), jn_e, if_pos rfl]
    rw [show (([] : List UInt8), s, ofN 0) = (fun (a : List UInt8) (p : Nat) => (a, s, ofN p)) [] 0 from rfl]
    refine (str_loop (s := s) (fun (a : List UInt8) (p : Nat) => (a, s, ofN p)) (fun r out self => bnd (latin_Put fuelH r) fun v => grd (room (iadd (len out) (len v)) 1) (self (lapp out v))) (fun out => some (out, 0)) (fun self a p hp => ?_) (fun self a p hp => ?_) fuelH 0 [] (by show s.length - 0 < 5000; omega)).trans ?_
    · simp only [toN_ofN]
      rw [cnd_t (nlt_t (show p < nlen s from hp))]
      rfl
    · simp only [toN_ofN]
      rw [cnd_f (nlt_f (show ¬ p < nlen s by unfold nlen; omega))]
    · rw [List.drop_zero, put_fold (latin_Put fuelH) (fun r h => (lat_ok h).1) _ _ _ (rns_ok hv) (by rw [ofR_rns hv]; simp; omega)]
      rfl
theorem snoc_fold {R : Type} (k : List Int → Option R) : ∀ (l out : List Int), out.length + l.length ≤ 100000 →
    foldR (fun r out self => grd (room (iadd (len out) (len [r])) 4) (self (lapp out [r]))) k l out = k (out ++ l)
  | [], out, _ => by simp [foldR]
  | r :: l, out, h => by
    simp only [List.length_cons] at h
    rw [foldR, grd_t (room_t (by simp [iadd, len]; omega))]
    show foldR _ _ _ (lapp out [r]) = _
    rw [snoc_fold k l _ (by simp [lapp]; omega)]
    simp [lapp]
theorem r08_runes_eq {s : List UInt8} (hs : s.length ≤ 4000) : r08_runes fuelH s = some (rns s) := by
  unfold r08_runes
  rw [jn_e]
  rw [show (([] : List Int), s, ofN 0) = (fun (a : List Int) (p : Nat) => (a, s, ofN p)) [] 0 from rfl]
  refine (str_loop (s := s) (fun (a : List Int) (p : Nat) => (a, s, ofN p)) (fun r out self => grd (room (iadd (len out) (len [r])) 4) (self (lapp out [r]))) (fun out => some out) (fun self a p hp => ?_) (fun self a p hp => ?_) fuelH 0 [] (by show s.length - 0 < 5000; omega)).trans ?_
  · simp only [toN_ofN]
    rw [cnd_t (nlt_t (show p < nlen s from hp))]
    rfl
  · simp only [toN_ofN]
    rw [cnd_f (nlt_f (show ¬ p < nlen s by unfold nlen; omega))]
  · have := rns_len _ s (Nat.le_refl _)
    rw [List.drop_zero, snoc_fold _ _ _ (by simp; omega)]
    rfl
theorem put_foldI {R : Type} (Put : Int → Option (List UInt8)) (hP : ∀ r, inRep r = true → Put r = some (lat r)) (k : List UInt8 → Option R) : ∀ (l : List Int) (i : Nat) (out : List UInt8), l.all inRep = true → out.length + (ofR l).length ≤ 100000 →
    foldI (fun _ r out self => bnd (Put r) fun v => grd (room (iadd (len out) (len v)) 1) (self (lapp out v))) k i l out = k (out ++ l.flatMap lat)
  | [], i, out, _, _ => by simp [foldI]
  | r :: l, i, out, h, hb => by
    rw [List.all_cons, Bool.and_eq_true] at h
    have h1 := (lat_ok h.1).2.1
    simp only [ofR, List.flatMap_cons, List.length_append] at hb
    rw [foldI, bnd_s (hP r h.1), grd_t (room_t (by simp only [iadd, len]; omega))]
    show foldI _ _ _ _ (lapp out (lat r)) = _
    rw [put_foldI Put hP k l (i + 1) _ h.2 (by simp only [lapp, List.length_append, ofR]; omega)]
    simp [lapp]
theorem r22_encode {s : List UInt8} (hs : s.length ≤ 4000) : r22_Encode fuelH s = if vld s = true then some (latE s, 0) else some ([], 10) := by
  unfold r22_Encode
  rw [bnd_s (r08_valid s hs)]
  cases hv : vld s with
  | false => rfl
  | true =>
    have hc : r08_Chars fuelH s = some (rns s) := by
      unfold r08_Chars
      rw [bnd_s (r08_valid s hs), hv, cnd_f (by rfl), bnd_s (r08_runes_eq hs)]
    have hl := rns_len _ s (Nat.le_refl _)
    rw [cnd_f (by rfl), jn_e, if_pos rfl, bnd_s hc]
    rw [show (([] : List UInt8), (0 : Int)) = (fun (a : List UInt8) (p : Nat) => (a, (p : Int))) [] 0 from rfl]
    refine (lst_loop (l := rns s) (fun (a : List UInt8) (p : Nat) => (a, (p : Int))) (fun _ r out self => bnd (r22_Put fuelH r) fun v => grd (room (iadd (len out) (len v)) 1) (self (lapp out v))) (fun out => some (out, 0)) (fun self a i hi => ?_) (fun self a => ?_) fuelH 0 [] (Nat.zero_le _) (by show _ - 0 < 5000; omega)).trans ?_
    · rw [cnd_t (ilt_t (by simp only [len]; omega)), grd_t (inb_t (by simp only [len]; omega)), lget_i hi, w64_succ hi (by omega)]
    · rw [cnd_f (ilt_f (by simp only [len]; omega))]
    · rw [List.drop_zero, put_foldI (r22_Put fuelH) (fun r h => (lat_ok h).2.2.2) _ _ _ _ (rns_ok hv) (by rw [ofR_rns hv]; simp; omega)]
      rfl
end Go.Mo
end

section
/-
  Plain facts: digits and the bytes of a header.
-/
namespace Go.Mo
open Go Go.W Go.Lib
set_option maxRecDepth 100000

/-- the byte of the last digit -/
def dg (v : Int) : UInt8 := b8 (w64 (iadd 48 (imod v 10)))
def dv (v : Int) : Int := w64 (idiv v 10)
theorem digits2 (v : Int) : tape_digits fuelH (v, 2) = some [dg (dv v), dg v] := by kernel_rfl
theorem digits3 (v : Int) : tape_digits fuelH (v, 3) = some [dg (dv (dv v)), dg (dv v), dg v] := by kernel_rfl
theorem digits5 (v : Int) : tape_digits fuelH (v, 5) = some [dg (dv (dv (dv (dv v)))), dg (dv (dv (dv v))), dg (dv (dv v)), dg (dv v), dg v] := by kernel_rfl
theorem r23_digits2 (v : Int) : r23_digits fuelH (v, 2) = some [dg (dv v), dg v] := by kernel_rfl
theorem r23_digits3 (v : Int) : r23_digits fuelH (v, 3) = some [dg (dv (dv v)), dg (dv v), dg v] := by kernel_rfl
theorem r23_digits5 (v : Int) : r23_digits fuelH (v, 5) = some [dg (dv (dv (dv (dv v)))), dg (dv (dv (dv v))), dg (dv (dv v)), dg (dv v), dg v] := by kernel_rfl
def clk (l : Lbl) : List UInt8 := [dg (dv l.1), dg l.1, dg (dv l.2.1), dg l.2.1, dg (dv l.2.2.1), dg l.2.2.1, dg (dv l.2.2.2.1), dg l.2.2.2.1]
theorem clock_eq (l : Lbl) : tape_clock fuelH l = some (clk l) := by kernel_rfl
theorem label_eq (l : Lbl) : r23_label fuelH l = some (clk l) := by kernel_rfl
/-- the digits of a header: n the bytes of the title -/
def hdg (h : Hdr) (n : Int) : List UInt8 :=
  [dg (dv (dv n)), dg (dv n), dg n] ++ [dg (dv (dv (dv (dv h.2.2.2.1)))), dg (dv (dv (dv h.2.2.2.1))), dg (dv (dv h.2.2.2.1)), dg (dv h.2.2.2.1), dg h.2.2.2.1] ++ [dg (dv (dv (dv (dv h.2.2.2.2.1)))), dg (dv (dv (dv h.2.2.2.2.1))), dg (dv (dv h.2.2.2.2.1)), dg (dv h.2.2.2.2.1), dg h.2.2.2.2.1] ++ clk h.2.2.2.2.2.1 ++ clk h.2.2.2.2.2.2.1 ++ [dg (dv h.2.2.2.2.2.2.2.1), dg h.2.2.2.2.2.2.2.1] ++ [dg (dv h.2.2.2.2.2.2.2.2), dg h.2.2.2.2.2.2.2.2]
def sig (r : UInt8) : List UInt8 := if r = 5 then [83, 84, 76, 51, 48, 46, 48, 49] else [83, 84, 76, 50, 53, 46, 48, 49]
/-- bytes filled up with spaces -/
def pad (l : List UInt8) (n : Nat) : List UInt8 := l ++ List.replicate (n - l.length) 32
/-- the bytes of a header -/
noncomputable def hby (h : Hdr) : List UInt8 := sig h.1 ++ pad h.2.1 16 ++ pad (hdg h ((latE h.2.2.1).length : Int)) 40 ++ pad (latE h.2.2.1) 960
theorem sig_len (r : UInt8) : (sig r).length = 8 := by unfold sig; split <;> rfl
theorem hdg_len (h : Hdr) (n : Int) : (hdg h n).length = 33 := rfl
theorem pad_len {l : List UInt8} {n : Nat} (h : l.length ≤ n) : (pad l n).length = n := by simp [pad]; omega
theorem fill_eq {l : List UInt8} {n : Nat} (hn : n ≤ 1100) (hl : l.length ≤ n) : r23_fill fuelH (l, (n : Int), 32) = some (pad l n) := by
  unfold r23_fill
  rw [jn_e, grd_t (room_t (by simp [iadd, len]; omega))]
  have : ∀ (fuel : Nat) (m : List UInt8), n - m.length < fuel → m.length ≤ n → fixN (fun v2 (v3 : List UInt8) =>
    cnd (ilt (len v3) (n : Int))
      (grd (room (iadd (len v3) (len ([32] : List UInt8))) 1)
        (v2 (lapp v3 ([32] : List UInt8))))
      (some v3)) fuel m = some (pad m n) := by
    intro fuel
    induction fuel with
    | zero => intro m h; omega
    | succ fuel ih =>
      intro m h h2
      rw [fixN_s]
      by_cases hm : m.length < n
      · rw [cnd_t (ilt_t (by simp only [len]; omega)), grd_t (room_t (by simp [iadd, len]; omega)), ih _ (by simp [lapp]; omega) (by simp [lapp]; omega)]
        congr 1
        unfold pad lapp
        obtain ⟨k, hk⟩ : ∃ k, n - m.length = k + 1 := ⟨n - m.length - 1, by omega⟩
        rw [hk, List.replicate_succ, List.length_append, List.append_assoc]
        simp only [List.length_singleton, show n - (m.length + 1) = k by omega]
        rfl
      · rw [cnd_f (ilt_f (by simp only [len]; omega))]
        unfold pad
        rw [show n - m.length = 0 by omega]
        simp
  have := this fuelH (lapp [] l) (by simp [lapp]; show n - l.length < 5000; omega) (by simp [lapp]; omega)
  simpa [lapp] using this
end Go.Mo
end

section
/-
  Plain facts: what the check of a header lets through; the bytes of a header.
-/
namespace Go.Mo
open Go Go.W Go.Lib
set_option maxRecDepth 100000

def lblOk (l : Lbl) : Prop := (0 ≤ l.1 ∧ l.1 ≤ 23) ∧ (0 ≤ l.2.1 ∧ l.2.1 ≤ 59) ∧ (0 ≤ l.2.2.1 ∧ l.2.2.1 ≤ 59) ∧ (0 ≤ l.2.2.2.1 ∧ l.2.2.2.1 ≤ 59)
structure HdrOk (h : Hdr) : Prop where
  rate : h.1 = 3 ∨ h.1 = 5
  lang : h.2.1 = [] ∨ nm h.2.1 = true
  ttl : vld h.2.2.1 = true
  ttlL : h.2.2.1.length ≤ 400
  blocks : 0 ≤ h.2.2.2.1 ∧ h.2.2.2.1 ≤ 99999
  groups : 0 ≤ h.2.2.2.2.1 ∧ h.2.2.2.2.1 ≤ 99999
  start : lblOk h.2.2.2.2.2.1
  first : lblOk h.2.2.2.2.2.2.1
  rows : 0 ≤ h.2.2.2.2.2.2.2.1 ∧ h.2.2.2.2.2.2.2.1 ≤ 99
  cols : 0 ≤ h.2.2.2.2.2.2.2.2 ∧ h.2.2.2.2.2.2.2.2 ≤ 99
  d1 : h.2.2.2.2.2.1.2.2.2.2 = false
  d2 : h.2.2.2.2.2.2.1.2.2.2.2 = false
theorem r03_ok (N : Nat) {r : UInt8} (l : Lbl) (hr : r = 3 ∨ r = 5) : ∃ e, r03_Check N (r, l) = some e ∧ (e = 0 → lblOk l) := by
  obtain ⟨H, M, S, F, D⟩ := l
  cases D with
  | true =>
    refine ⟨13, ?_, fun h => absurd h (by decide)⟩
    rcases hr with rfl | rfl <;> kernel_rfl
  | false =>
    have e : ∃ n : Int, (n = 25 ∨ n = 30) ∧ r03_Check N (r, H, M, S, F, false) = cnd (ilt H 0) (some 2) (cnd (ilt 23 H) (some 2) (cnd (ilt M 0) (some 2) (cnd (ilt 59 M) (some 2) (cnd (ilt S 0) (some 2) (cnd (ilt 59 S) (some 2) (cnd (ilt F 0) (some 2) (cnd (ile n F) (some 2) (some 0)))))))) := by
      rcases hr with rfl | rfl
      · exact ⟨25, .inl rfl, by kernel_rfl⟩
      · exact ⟨30, .inr rfl, by kernel_rfl⟩
    obtain ⟨n, hn, e⟩ := e
    rw [e]
    by_cases h1 : H < 0
    · exact ⟨2, cnd_t (ilt_t h1), fun h => absurd h (by decide)⟩
    rw [cnd_f (ilt_f h1)]
    by_cases h2 : 23 < H
    · exact ⟨2, cnd_t (ilt_t h2), fun h => absurd h (by decide)⟩
    rw [cnd_f (ilt_f h2)]
    by_cases h3 : M < 0
    · exact ⟨2, cnd_t (ilt_t h3), fun h => absurd h (by decide)⟩
    rw [cnd_f (ilt_f h3)]
    by_cases h4 : 59 < M
    · exact ⟨2, cnd_t (ilt_t h4), fun h => absurd h (by decide)⟩
    rw [cnd_f (ilt_f h4)]
    by_cases h5 : S < 0
    · exact ⟨2, cnd_t (ilt_t h5), fun h => absurd h (by decide)⟩
    rw [cnd_f (ilt_f h5)]
    by_cases h6 : 59 < S
    · exact ⟨2, cnd_t (ilt_t h6), fun h => absurd h (by decide)⟩
    rw [cnd_f (ilt_f h6)]
    by_cases h7 : F < 0
    · exact ⟨2, cnd_t (ilt_t h7), fun h => absurd h (by decide)⟩
    rw [cnd_f (ilt_f h7)]
    by_cases h8 : n ≤ F
    · exact ⟨2, cnd_t (ile_t h8), fun h => absurd h (by decide)⟩
    rw [cnd_f (ile_f h8)]
    exact ⟨0, rfl, fun _ => ⟨⟨by show 0 ≤ H; omega, by show H ≤ 23; omega⟩, ⟨by show 0 ≤ M; omega, by show M ≤ 59; omega⟩, ⟨by show 0 ≤ S; omega, by show S ≤ 59; omega⟩, ⟨by show 0 ≤ F; omega, by show F ≤ 59; omega⟩⟩⟩

def ckC (h : Hdr) : Option Int :=
  bnd (r23_within fuelH (h.2.2.2.1, (0 : Int), (99999 : Int))) fun v3 =>
  cnd (bnot v3) (some (2 : Int))
    (bnd (r23_within fuelH (h.2.2.2.2.1, (0 : Int), (99999 : Int))) fun v4 =>
    cnd (bnot v4) (some (2 : Int))
      (bnd (r23_within fuelH (h.2.2.2.2.2.2.2.1, (0 : Int), (99 : Int))) fun v5 =>
      cnd (bnot v5) (some (2 : Int))
        (bnd (r23_within fuelH (h.2.2.2.2.2.2.2.2, (0 : Int), (99 : Int))) fun v6 =>
        cnd (bnot v6) (some (2 : Int))
          (cnd (ilt h.2.2.2.1 h.2.2.2.2.1) (some (8 : Int))
            (bnd (r03_Check fuelH (h.1, h.2.2.2.2.2.1)) fun v7 =>
            cnd (ine v7 (0 : Int)) (some v7)
              (bnd (r03_Check fuelH (h.1, h.2.2.2.2.2.2.1)) fun v8 =>
              cnd (ine v8 (0 : Int)) (some v8)
                (cnd h.2.2.2.2.2.1.2.2.2.2 (some (13 : Int))
                  (cnd h.2.2.2.2.2.2.1.2.2.2.2 (some (13 : Int)) (some (0 : Int))))))))))
def ckB (h : Hdr) (v1 : Bool) : Option Int :=
  cnd v1 (some (5 : Int))
    (bnd (r08_Valid fuelH h.2.2.1) fun v2 => cnd (bnot v2) (some (10 : Int)) (cnd (ilt (400 : Int) (len h.2.2.1)) (some (9 : Int)) (ckC h)))
def ckA (h : Hdr) (v0 : Bool) : Option Int :=
  cnd v0 (some (13 : Int)) (cnd (sne h.2.1 ([] : List UInt8)) (bnd (r07_Name fuelH h.2.1) fun v10 => ckB h (bnot v10)) (ckB h false))
theorem ck_eq (h : Hdr) : r23_CheckHeader fuelH h = cnd (ine (n8 h.1) (n8 (3 : UInt8))) (ckA h (ine (n8 h.1) (n8 (5 : UInt8)))) (ckA h false) := by kernel_rfl
theorem check_ok {h : Hdr} (h2 : h.2.2.1.length ≤ 4000) : ∃ e, r23_CheckHeader fuelH h = some e ∧ (e = 0 → HdrOk h) := by
  rw [ck_eq]
  by_cases hr : h.1 = 3 ∨ h.1 = 5
  · have ea : cnd (ine (n8 h.1) (n8 (3 : UInt8))) (ckA h (ine (n8 h.1) (n8 (5 : UInt8)))) (ckA h false) = ckA h false := by
      rcases hr with hr | hr
      · rw [hr]; rfl
      · rw [hr]; rfl
    rw [ea]
    have eb : ∃ b : Bool, ckA h false = ckB h b ∧ (b = false → h.2.1 = [] ∨ nm h.2.1 = true) := by
      unfold ckA
      rw [cnd_f rfl]
      by_cases hl : h.2.1 = []
      · exact ⟨false, cnd_f (by simp [sne, hl]), fun _ => .inl hl⟩
      · refine ⟨bnot (nm h.2.1), ?_, fun hb => .inr (by cases hq : nm h.2.1 <;> simp_all [bnot])⟩
        rw [cnd_t (by simp [sne, hl]), bnd_s (r07_name h.2.1)]
    obtain ⟨b, eb, hb⟩ := eb
    rw [eb]
    unfold ckB
    cases b with
    | true => exact ⟨5, rfl, fun h => absurd h (by decide)⟩
    | false =>
      rw [cnd_f rfl, bnd_s (r08_valid _ h2)]
      cases hv : vld h.2.2.1 with
      | false => exact ⟨10, rfl, fun h => absurd h (by decide)⟩
      | true =>
        rw [cnd_f (by rfl)]
        by_cases hL : (400 : Int) < len h.2.2.1
        · exact ⟨9, cnd_t (ilt_t hL), fun h => absurd h (by decide)⟩
        rw [cnd_f (ilt_f hL)]
        unfold ckC
        rw [within_eq, bnd_some', cnd_bnot]
        by_cases q1 : 0 ≤ h.2.2.2.1 ∧ h.2.2.2.1 ≤ 99999
        case neg => exact ⟨2, if_neg q1, fun h => absurd h (by decide)⟩
        rw [if_pos q1, within_eq, bnd_some', cnd_bnot]
        by_cases q2 : 0 ≤ h.2.2.2.2.1 ∧ h.2.2.2.2.1 ≤ 99999
        case neg => exact ⟨2, if_neg q2, fun h => absurd h (by decide)⟩
        rw [if_pos q2, within_eq, bnd_some', cnd_bnot]
        by_cases q3 : 0 ≤ h.2.2.2.2.2.2.2.1 ∧ h.2.2.2.2.2.2.2.1 ≤ 99
        case neg => exact ⟨2, if_neg q3, fun h => absurd h (by decide)⟩
        rw [if_pos q3, within_eq, bnd_some', cnd_bnot]
        by_cases q4 : 0 ≤ h.2.2.2.2.2.2.2.2 ∧ h.2.2.2.2.2.2.2.2 ≤ 99
        case neg => exact ⟨2, if_neg q4, fun h => absurd h (by decide)⟩
        rw [if_pos q4, cnd_ilt]
        by_cases q5 : h.2.2.2.1 < h.2.2.2.2.1
        · exact ⟨8, if_pos q5, fun h => absurd h (by decide)⟩
        rw [if_neg q5]
        obtain ⟨e1, f1, g1⟩ := r03_ok fuelH h.2.2.2.2.2.1 hr
        obtain ⟨e2, f2, g2⟩ := r03_ok fuelH h.2.2.2.2.2.2.1 hr
        rw [bnd_s f1, cnd_ine]
        by_cases z1 : e1 = 0
        case neg => exact ⟨e1, if_pos z1, fun h => absurd h z1⟩
        rw [if_neg (by simp [z1]), bnd_s f2, cnd_ine]
        by_cases z2 : e2 = 0
        case neg => exact ⟨e2, if_pos z2, fun h => absurd h z2⟩
        rw [if_neg (by simp [z2])]
        cases d1 : h.2.2.2.2.2.1.2.2.2.2 with
        | true => exact ⟨13, rfl, fun h => absurd h (by decide)⟩
        | false =>
          cases d2 : h.2.2.2.2.2.2.1.2.2.2.2 with
          | true => exact ⟨13, rfl, fun h => absurd h (by decide)⟩
          | false => exact ⟨0, rfl, fun _ => ⟨hr, hb rfl, hv, by simp only [len] at hL; omega, q1, q2, g1 z1, g2 z2, q3, q4, d1, d2⟩⟩
  · have h3 : n8 h.1 ≠ n8 (3 : UInt8) := fun e => hr (.inl (n8_inj e))
    have h5 : n8 h.1 ≠ n8 (5 : UInt8) := fun e => hr (.inr (n8_inj e))
    refine ⟨13, ?_, fun h => absurd h (by decide)⟩
    rw [cnd_t (ine_t h3), ine_t h5]
    rfl
theorem lang_len {h : Hdr} (H : HdrOk h) : h.2.1.length ≤ 16 := by
  rcases H.lang with e | e
  · rw [e]; decide
  · simp only [nm, Bool.and_eq_true, decide_eq_true_eq] at e
    exact e.1.1.2
end Go.Mo
end

section
/-
  Plain facts: the bytes of a header, by the layer and by the specification.
-/
namespace Go.Mo
open Go Go.W Go.Lib
set_option maxRecDepth 100000

theorem put_at {A B : List UInt8} {m : Nat} {k : Int} (hk : k = (A.length : Int)) (hB : B.length ≤ m) :
    putl (A ++ List.replicate m 32) (toN k) (ltake (nsub (nlen (A ++ List.replicate m 32)) (toN k)) B) = A ++ B ++ List.replicate (m - B.length) 32 := by
  subst hk
  have e1 : nsub (nlen (A ++ List.replicate m 32)) (toN (A.length : Int)) = m := by simp [nsub, nlen, toN]
  rw [e1]
  unfold ltake putl
  rw [List.take_of_length_le hB, show toN (A.length : Int) = A.length from by simp [toN], List.take_left' rfl]
  rw [List.drop_append, List.drop_eq_nil_of_le (by omega), List.nil_append, List.drop_replicate]
  congr 2
  omega
theorem rep_pad (l : List UInt8) {n m : Nat} (h : l.length ≤ n) (hm : n ≤ m) : l ++ List.replicate (m - l.length) 32 = pad l n ++ List.replicate (m - n) 32 := by
  unfold pad
  rw [List.append_assoc, List.replicate_append_replicate]
  congr 2
  omega
theorem sig_eq (N : Nat) (r : UInt8) : tape_signature N r = some (sig r) := by
  unfold tape_signature sig
  by_cases h : r = 5
  · subst h; rfl
  · rw [cnd_f (ieq_f fun e => h (n8_inj e)), if_neg h]
theorem tape_put {h : Hdr} (hc : tape_CheckHeader fuelH h = some 0) (H : HdrOk h) : tape_PutHeader fuelH h = some (hby h, 0) := by
  have hL := lang_len H
  have hT := latE_len H.ttl
  have hT4 := H.ttlL
  have hs := sig_len h.1
  unfold tape_PutHeader
  rw [bnd_s hc, cnd_f (ine_f rfl), latin_encode (by omega), if_pos H.ttl, bnd_some', grd_t (by kernel_rfl)]
  rw [show ([32], (1024 : Int)) = (([32] : List UInt8), ((1024 : Nat) : Int)) from rfl, bnd_s (repeat_eq (by decide) 32 (by decide) (by decide)), sig_eq, bnd_some']
  have e1 : putl (List.replicate 1024 32) 0 (ltake (nlen (List.replicate 1024 (32 : UInt8))) (sig h.1)) = sig h.1 ++ List.replicate 1016 32 := by
    have := put_at (A := []) (B := sig h.1) (m := 1024) (k := 0) rfl (by omega)
    rw [hs] at this
    exact this
  have e2 : putl (sig h.1 ++ List.replicate 1016 32) (toN (8 : Int)) (ltake (nsub (nlen (sig h.1 ++ List.replicate 1016 (32 : UInt8))) (toN (8 : Int))) h.2.1) = (sig h.1 ++ pad h.2.1 16) ++ List.replicate 1000 32 := by
    rw [put_at (A := sig h.1) (by omega) (by omega), List.append_assoc, rep_pad h.2.1 hL (by decide), List.append_assoc]
  have l2 : (sig h.1 ++ pad h.2.1 16).length = 24 := by rw [List.length_append, hs, pad_len hL]
  have e3 : ∀ B : List UInt8, B.length = 33 → putl ((sig h.1 ++ pad h.2.1 16) ++ List.replicate 1000 32) (toN (24 : Int)) (ltake (nsub (nlen ((sig h.1 ++ pad h.2.1 16) ++ List.replicate 1000 (32 : UInt8))) (toN (24 : Int))) B) = (sig h.1 ++ pad h.2.1 16 ++ pad B 40) ++ List.replicate 960 32 := by
    intro B hB
    rw [put_at (A := sig h.1 ++ pad h.2.1 16) (by omega) (by omega), List.append_assoc _ B, rep_pad B (n := 40) (by omega) (by decide), List.append_assoc _ (pad B 40)]
  have e4 : ∀ B : List UInt8, B.length = 33 → putl ((sig h.1 ++ pad h.2.1 16 ++ pad B 40) ++ List.replicate 960 32) (toN (64 : Int)) (ltake (nsub (nlen ((sig h.1 ++ pad h.2.1 16 ++ pad B 40) ++ List.replicate 960 (32 : UInt8))) (toN (64 : Int))) (latE h.2.2.1)) = sig h.1 ++ pad h.2.1 16 ++ pad B 40 ++ pad (latE h.2.2.1) 960 := by
    intro B hB
    rw [put_at (A := sig h.1 ++ pad h.2.1 16 ++ pad B 40) (by rw [List.length_append, l2, pad_len (by omega)]; rfl) (by omega), List.append_assoc _ (latE h.2.2.1)]
    rfl
  have l1 : nlen (sig h.1 ++ List.replicate 1016 (32 : UInt8)) = 1024 := by simp [nlen, hs]
  have l2' : nlen (sig h.1 ++ pad h.2.1 16 ++ List.replicate 1000 (32 : UInt8)) = 1024 := by unfold nlen; rw [List.length_append, l2]; simp
  have l3 : ∀ B : List UInt8, B.length = 33 → nlen ((sig h.1 ++ pad h.2.1 16 ++ pad B 40) ++ List.replicate 960 (32 : UInt8)) = 1024 := by
    intro B hB
    unfold nlen
    rw [List.length_append, List.length_append, l2, pad_len (by omega)]; simp
  rw [l2'] at e3
  have e4 : ∀ B : List UInt8, B.length = 33 → putl ((sig h.1 ++ pad h.2.1 16 ++ pad B 40) ++ List.replicate 960 32) (toN (64 : Int)) (ltake (nsub 1024 (toN (64 : Int))) (latE h.2.2.1)) = sig h.1 ++ pad h.2.1 16 ++ pad B 40 ++ pad (latE h.2.2.1) 960 := fun B hB => by rw [← l3 B hB]; exact e4 B hB
  rw [e1, e2, l1, l2', grd_t (by kernel_rfl), grd_t (by kernel_rfl)]
  rw [digits3, bnd_some', digits5, bnd_some', grd_t (by kernel_rfl), digits5, bnd_some', grd_t (by kernel_rfl), clock_eq, bnd_some', grd_t (by kernel_rfl), clock_eq, bnd_some', grd_t (by kernel_rfl), digits2, bnd_some', grd_t (by kernel_rfl), digits2, bnd_some', grd_t (by kernel_rfl)]
  rw [e3 _ (by kernel_rfl), l3 _ (by kernel_rfl), grd_t (by kernel_rfl), e4 _ (by kernel_rfl)]
  show some _ = some _
  kernel_rfl
def refPut (x : Hdr) (v1 : List UInt8) : Option (List UInt8 × Int) :=
      bnd (r22_Encode fuelH x.2.2.1) fun v2 =>
      grd (catOk (len v1)) <|
      grd (catOk (len x.2.1)) <|
      bnd (r23_fill fuelH (x.2.1, (16 : Int), (32 : UInt8))) fun v3 =>
      grd (room (iadd (len v1) (len v3)) 1) <|
      bnd (r23_digits fuelH (len v2.1, (3 : Int))) fun v4 =>
      bnd (r23_digits fuelH (x.2.2.2.1, (5 : Int))) fun v5 =>
      grd (catOk (iadd (len v4) (len v5))) <|
      bnd (r23_digits fuelH (x.2.2.2.2.1, (5 : Int))) fun v6 =>
      grd (catOk (iadd (len (lapp v4 v5)) (len v6))) <|
      bnd (r23_label fuelH x.2.2.2.2.2.1) fun v7 =>
      grd (catOk (iadd (len (lapp (lapp v4 v5) v6)) (len v7))) <|
      bnd (r23_label fuelH x.2.2.2.2.2.2.1) fun v8 =>
      grd (catOk (iadd (len (lapp (lapp (lapp v4 v5) v6) v7)) (len v8))) <|
      bnd (r23_digits fuelH (x.2.2.2.2.2.2.2.1, (2 : Int))) fun v9 =>
      grd (catOk (iadd (len (lapp (lapp (lapp (lapp v4 v5) v6) v7) v8)) (len v9))) <|
      bnd (r23_digits fuelH (x.2.2.2.2.2.2.2.2, (2 : Int))) fun v10 =>
      grd (catOk (iadd (len (lapp (lapp (lapp (lapp (lapp v4 v5) v6) v7) v8) v9)) (len v10))) <|
      grd (catOk (len (lapp (lapp (lapp (lapp (lapp (lapp v4 v5) v6) v7) v8) v9) v10))) <|
      bnd (r23_fill fuelH (lapp (lapp (lapp (lapp (lapp (lapp v4 v5) v6) v7) v8) v9) v10, (40 : Int), (32 : UInt8))) fun v11 =>
      grd (room (iadd (len (lapp v1 v3)) (len v11)) 1) <|
      grd (room (iadd (len (lapp (lapp v1 v3) v11)) (len v2.1)) 1) <|
      bnd (r23_fill fuelH (lapp (lapp (lapp v1 v3) v11) v2.1, (1024 : Int), (32 : UInt8))) fun v12 =>
      some (v12, (0 : Int))
theorem ref_eq (h : Hdr) : r23_PutHeader fuelH h = bnd (r23_CheckHeader fuelH h) fun v0 => cnd (ine v0 (0 : Int)) (some (([] : List UInt8), v0)) (cnd (ieq (n8 h.1) (n8 (5 : UInt8))) (refPut h [83, 84, 76, 51, 48, 46, 48, 49]) (refPut h [83, 84, 76, 50, 53, 46, 48, 49])) := by kernel_rfl
theorem catOk_t {n : Int} (h : n ≤ 9223372036854775807) : catOk n = true := decide_eq_true h
theorem ref_put {h : Hdr} (hc : r23_CheckHeader fuelH h = some 0) (H : HdrOk h) : r23_PutHeader fuelH h = some (hby h, 0) := by
  have hL := lang_len H
  have hT := latE_len H.ttl
  have hT4 := H.ttlL
  have hs := sig_len h.1
  rw [ref_eq, bnd_s hc, cnd_f (ine_f rfl)]
  have e0 : cnd (ieq (n8 h.1) (n8 (5 : UInt8))) (refPut h [83, 84, 76, 51, 48, 46, 48, 49]) (refPut h [83, 84, 76, 50, 53, 46, 48, 49]) = refPut h (sig h.1) := by
    unfold sig
    by_cases h5 : h.1 = 5
    · rw [h5]; rfl
    · rw [cnd_f (ieq_f fun e => h5 (n8_inj e)), if_neg h5]
  rw [e0]
  unfold refPut
  have l1 : len (sig h.1) = 8 := by simp only [len]; omega
  have f1 : r23_fill fuelH (h.2.1, (16 : Int), (32 : UInt8)) = some (pad h.2.1 16) := fill_eq (n := 16) (by decide) hL
  have f2 : ∀ B : List UInt8, B.length = 33 → r23_fill fuelH (B, (40 : Int), (32 : UInt8)) = some (pad B 40) := fun B hB => fill_eq (n := 40) (by decide) (by omega)
  have l2 : len (lapp (sig h.1) (pad h.2.1 16)) = 24 := by unfold lapp len; rw [List.length_append, hs, pad_len hL]; rfl
  have l3 : ∀ B : List UInt8, B.length = 33 → (lapp (lapp (sig h.1) (pad h.2.1 16)) (pad B 40)).length = 64 := by
    intro B hB
    unfold lapp
    rw [List.length_append, List.length_append, hs, pad_len hL, pad_len (by omega)]
  have f3 : ∀ B : List UInt8, B.length = 33 → r23_fill fuelH (lapp (lapp (lapp (sig h.1) (pad h.2.1 16)) (pad B 40)) (latE h.2.2.1), (1024 : Int), (32 : UInt8)) = some (sig h.1 ++ pad h.2.1 16 ++ pad B 40 ++ pad (latE h.2.2.1) 960) := by
    intro B hB
    have := l3 B hB
    refine (fill_eq (n := 1024) (by decide) (by unfold lapp at this ⊢; rw [List.length_append, this]; omega)).trans ?_
    congr 1
    show lapp _ _ ++ _ = _
    unfold lapp at this ⊢
    rw [List.length_append, this, List.append_assoc _ (latE h.2.2.1)]
    show _ = _ ++ (latE h.2.2.1 ++ List.replicate (960 - (latE h.2.2.1).length) 32)
    congr 3
    omega
  rw [r22_encode (by omega), if_pos H.ttl, bnd_some', l1, grd_t (by kernel_rfl), grd_t (catOk_t (by simp only [len]; omega)), f1, bnd_some', grd_t (room_t (by simp only [iadd, len]; rw [pad_len hL]; decide))]
  rw [r23_digits3, bnd_some', r23_digits5, bnd_some', grd_t (by kernel_rfl), r23_digits5, bnd_some', grd_t (by kernel_rfl), label_eq, bnd_some', grd_t (by kernel_rfl), label_eq, bnd_some', grd_t (by kernel_rfl), r23_digits2, bnd_some', grd_t (by kernel_rfl), r23_digits2, bnd_some', grd_t (by kernel_rfl), grd_t (by kernel_rfl)]
  rw [f2 _ (by kernel_rfl), bnd_some', l2, grd_t (room_t (by simp only [iadd, len]; rw [pad_len (by exact Nat.le_of_ble_eq_true (by kernel_rfl))]; decide))]
  rw [grd_t (room_t (by simp only [iadd, len]; rw [l3 _ (by kernel_rfl)]; omega)), f3 _ (by kernel_rfl), bnd_some']
  show some _ = some _
  kernel_rfl
theorem put_both {h : Hdr} (h2 : h.2.2.1.length ≤ 4000) : ∃ e, tape_CheckHeader fuelH h = some e ∧ r23_CheckHeader fuelH h = some e ∧ ((e ≠ 0 ∧ tape_PutHeader fuelH h = some ([], e) ∧ r23_PutHeader fuelH h = some ([], e)) ∨ (e = 0 ∧ HdrOk h ∧ tape_PutHeader fuelH h = some (hby h, 0) ∧ r23_PutHeader fuelH h = some (hby h, 0))) := by
  obtain ⟨e, h1, h3⟩ := check_ok h2
  have ht := (checkHeader_eq h h2).trans h1
  refine ⟨e, ht, h1, ?_⟩
  by_cases he : e = 0
  · subst he
    exact .inr ⟨rfl, h3 rfl, tape_put ht (h3 rfl), ref_put h1 (h3 rfl)⟩
  · refine .inl ⟨he, ?_, ?_⟩
    · unfold tape_PutHeader
      rw [bnd_s ht, cnd_t (ine_t he)]
    · rw [ref_eq, bnd_s h1, cnd_t (ine_t he)]
theorem hby_len {h : Hdr} (H : HdrOk h) : (hby h).length = 1024 := by
  have hT := latE_len H.ttl
  have hT4 := H.ttlL
  unfold hby
  rw [List.length_append, List.length_append, List.length_append, sig_len, pad_len (lang_len H), pad_len (by rw [hdg_len]; decide), pad_len (by omega)]
end Go.Mo
end

section
/-
  Plain facts: numbers and names read back.
-/
namespace Go.Mo
open Go Go.W Go.Lib
set_option maxRecDepth 100000

/-! ### numbers -/
theorem n8_b8 {x : Int} (h : 0 ≤ x ∧ x < 256) : n8 (b8 x) = x := by
  unfold n8 b8
  rw [UInt8.toNat_ofNat']
  omega
theorem n8_rng (c : UInt8) : 0 ≤ n8 c ∧ n8 c < 256 := by
  unfold n8
  have : c.toNat < 256 := c.toNat_lt
  omega
theorem dg_n8 {v : Int} (h : 0 ≤ v) : n8 (dg v) = 48 + v % 10 := by
  unfold dg iadd imod
  have e : v.tmod 10 = v % 10 := Int.tmod_eq_emod_of_nonneg h
  have h1 := Int.emod_nonneg v (show (10 : Int) ≠ 0 by decide)
  have h2 := Int.emod_lt_of_pos v (show (0 : Int) < 10 by decide)
  rw [e, w64_id (by omega), n8_b8 (by omega)]
theorem dv_eq {v : Int} (h : 0 ≤ v ∧ v ≤ 1000000) : dv v = v / 10 := by
  unfold dv idiv
  rw [Int.tdiv_eq_ediv_of_nonneg h.1, w64_id (by omega)]
/-- one digit more -/
def numK (c : UInt8) (n : Int) (self : Int → Option Int) : Option Int :=
  cnd (ilt (n8 c) (n8 (48 : UInt8)))
          (some (0 : Int))
          (cnd (ilt (n8 (57 : UInt8)) (n8 c))
            (some (0 : Int))
            (self (w64 (iadd (w64 (imul (10 : Int) n)) (w64 (n8 (b8 (isub (n8 c) (n8 (48 : UInt8))))))))))
theorem number_fold {l : List UInt8} (hl : l.length ≤ 4000) : tape_number fuelH l = foldI (fun _ c n self => numK c n self) (fun n => some n) 0 l 0 := by
  unfold tape_number
  rw [jn_e, show ((0 : Int), (0 : Int)) = (fun (n : Int) (p : Nat) => (n, (p : Int))) 0 0 from rfl]
  refine Eq.trans (lst_loop (l := l) (fun (n : Int) (p : Nat) => (n, (p : Int))) (fun _ c n self => numK c n self) (fun n => some n) (fun self a i hi => ?_) (fun self a => ?_) fuelH 0 0 (Nat.zero_le _) (by show _ < 5000; omega)) ?_
  · rw [cnd_t (ilt_t (by simp only [len]; omega)), grd_t (inb_t (by simp only [len]; omega)), lget_i hi, w64_succ hi (by omega)]
    rfl
  · rw [cnd_f (ilt_f (by simp only [len]; omega))]
  · rw [List.drop_zero]
theorem num_step {c : UInt8} {d n : Int} (hc : n8 c = 48 + d) (hd : 0 ≤ d ∧ d ≤ 9) (hn : 0 ≤ n ∧ n ≤ 1000000) (self : Int → Option Int) : numK c n self = self (10 * n + d) := by
  have e48 : n8 (48 : UInt8) = 48 := rfl
  have e57 : n8 (57 : UInt8) = 57 := rfl
  unfold numK
  rw [e48, e57, hc, cnd_f (ilt_f (by omega)), cnd_f (ilt_f (by omega))]
  have e1 : isub (48 + d) 48 = d := by simp only [isub]; omega
  rw [e1, n8_b8 (by omega), w64_id (x := d) (by omega)]
  simp only [imul, iadd]
  rw [w64_id (x := 10 * n) (by omega), w64_id (by omega)]
theorem num2 {v : Int} (h : 0 ≤ v ∧ v ≤ 99) : tape_number fuelH [dg (dv v), dg v] = some v := by
  rw [number_fold (by simp)]
  simp only [foldI]
  have e1 := dv_eq (v := v) (by omega)
  rw [num_step (d := v / 10 % 10) (by rw [e1]; exact dg_n8 (by omega)) (by omega) (by omega), num_step (d := v % 10) (dg_n8 (by omega)) (by omega) (by omega)]
  congr 1
  omega
theorem num3 {v : Int} (h : 0 ≤ v ∧ v ≤ 999) : tape_number fuelH [dg (dv (dv v)), dg (dv v), dg v] = some v := by
  rw [number_fold (by simp)]
  simp only [foldI]
  have e1 := dv_eq (v := v) (by omega)
  have e2 := dv_eq (v := v / 10) (by omega)
  rw [e1, e2]
  rw [num_step (d := v / 10 / 10 % 10) (dg_n8 (by omega)) (by omega) (by omega), num_step (d := v / 10 % 10) (dg_n8 (by omega)) (by omega) (by omega), num_step (d := v % 10) (dg_n8 (by omega)) (by omega) (by omega)]
  congr 1
  omega
theorem num5 {v : Int} (h : 0 ≤ v ∧ v ≤ 99999) : tape_number fuelH [dg (dv (dv (dv (dv v)))), dg (dv (dv (dv v))), dg (dv (dv v)), dg (dv v), dg v] = some v := by
  rw [number_fold (by simp)]
  simp only [foldI]
  have e1 := dv_eq (v := v) (by omega)
  have e2 := dv_eq (v := v / 10) (by omega)
  have e3 := dv_eq (v := v / 10 / 10) (by omega)
  have e4 := dv_eq (v := v / 10 / 10 / 10) (by omega)
  rw [e1, e2, e3, e4]
  rw [num_step (d := v / 10 / 10 / 10 / 10 % 10) (dg_n8 (by omega)) (by omega) (by omega), num_step (d := v / 10 / 10 / 10 % 10) (dg_n8 (by omega)) (by omega) (by omega), num_step (d := v / 10 / 10 % 10) (dg_n8 (by omega)) (by omega) (by omega), num_step (d := v / 10 % 10) (dg_n8 (by omega)) (by omega) (by omega), num_step (d := v % 10) (dg_n8 (by omega)) (by omega) (by omega)]
  congr 1
  omega
theorem label_back {l : Lbl} (h : lblOk l) (hd : l.2.2.2.2 = false) : tape_label fuelH (clk l) = some l := by
  obtain ⟨⟨a1, a2⟩, ⟨b1, b2⟩, ⟨c1, c2⟩, ⟨d1, d2⟩⟩ := h
  unfold tape_label
  rw [grd_t (by kernel_rfl)]
  have e1 : ltake (toN (2 : Int)) (clk l) = [dg (dv l.1), dg l.1] := rfl
  have e2 : ldrop (toN (2 : Int)) (ltake (toN (4 : Int)) (clk l)) = [dg (dv l.2.1), dg l.2.1] := rfl
  have e3 : ldrop (toN (4 : Int)) (ltake (toN (6 : Int)) (clk l)) = [dg (dv l.2.2.1), dg l.2.2.1] := rfl
  have e4 : ldrop (toN (6 : Int)) (ltake (toN (8 : Int)) (clk l)) = [dg (dv l.2.2.2.1), dg l.2.2.2.1] := rfl
  rw [e1, num2 (by omega), bnd_some', grd_t (by kernel_rfl), e2, num2 (by omega), bnd_some', grd_t (by kernel_rfl), e3, num2 (by omega), bnd_some', grd_t (by kernel_rfl), e4, num2 (by omega), bnd_some', ← hd]

/-! ### the name -/
theorem trim_loop {l : List UInt8} (hl : l = [] ∨ ∃ c m, l = m ++ [c] ∧ n8 c ≠ 32) : ∀ (fuel k : Nat), k < fuel → l.length + k ≤ 100000 →
    fixN (fun v2 (v3 : List UInt8) =>
    cnd (ilt (0 : Int) (len v3))
      (grd (inb (w64 (isub (len v3) (1 : Int))) (len v3))
        (cnd (ieq (n8 (lget v3 (toN (w64 (isub (len v3) (1 : Int)))) (0 : UInt8))) (n8 (32 : UInt8)))
          (grd (in2 (w64 (isub (len v3) (1 : Int))) (len v3))
            (v2 (ltake (toN (w64 (isub (len v3) (1 : Int)))) v3)))
          (some v3)))
      (some v3)) fuel (l ++ List.replicate k 32) = some l
  | 0, k, h, _ => by omega
  | fuel + 1, k, h, hb => by
    rw [fixN_s]
    have hw : ∀ m : List UInt8, 0 < m.length → m.length ≤ 100000 → w64 (isub (len m) 1) = ((m.length - 1 : Nat) : Int) := by
      intro m h1 h2
      simp only [isub, len]
      rw [w64_id (by omega)]
      omega
    cases k with
    | zero =>
      simp only [List.replicate_zero, List.append_nil]
      rcases hl with rfl | ⟨c, m, rfl, hc⟩
      · rfl
      · have h0 : 0 < (m ++ [c]).length := by simp
        rw [cnd_t (ilt_t (by simp only [len]; omega)), hw _ h0 (by omega), grd_t (inb_t (by simp only [len]; omega)), lget_i (show (m ++ [c]).length - 1 < (m ++ [c]).length by omega)]
        have hg : (m ++ [c])[(m ++ [c]).length - 1] = c := by simp
        rw [hg, cnd_f (ieq_f (show n8 c ≠ n8 32 from hc))]
    | succ k =>
      have e : l ++ List.replicate (k + 1) 32 = (l ++ List.replicate k 32) ++ [32] := by rw [List.replicate_succ', List.append_assoc]
      rw [e]
      generalize hm : l ++ List.replicate k 32 = m
      have hml : m.length = l.length + k := by rw [← hm]; simp
      have h0 : 0 < (m ++ [(32 : UInt8)]).length := by simp
      have h1 : (m ++ [(32 : UInt8)]).length = m.length + 1 := by simp
      rw [cnd_t (ilt_t (by simp only [len]; omega)), hw _ h0 (by omega), grd_t (inb_t (by simp only [len]; omega)), lget_i (show (m ++ [(32 : UInt8)]).length - 1 < (m ++ [(32 : UInt8)]).length by omega)]
      have hg : (m ++ [(32 : UInt8)])[(m ++ [(32 : UInt8)]).length - 1] = 32 := by simp
      have ht : ltake (toN (((m ++ [(32 : UInt8)]).length - 1 : Nat) : Int)) (m ++ [32]) = m := by
        rw [h1]
        simp [ltake, toN]
      rw [hg, cnd_t (ieq_t rfl), grd_t (in2_t (by simp only [len]; omega)), ht, ← hm]
      exact trim_loop hl fuel k (by omega) (by omega)
theorem name_end {l : List UInt8} (h : l = [] ∨ nm l = true) : l = [] ∨ ∃ c m, l = m ++ [c] ∧ n8 c ≠ 32 := by
  rcases h with h | h
  · exact .inl h
  · by_cases hl : l = []
    · exact .inl hl
    · refine .inr ⟨l.getLast hl, l.dropLast, (List.dropLast_concat_getLast hl).symm, ?_⟩
      simp only [nm, Bool.and_eq_true] at h
      have := List.all_eq_true.1 h.2 _ (List.getLast_mem hl)
      have := of_decide_eq_true this
      omega
theorem trim_pad {l : List UInt8} (h : l = [] ∨ nm l = true) (hl : l.length ≤ 16) : bytes_TrimRight fuelH (pad l 16, [32]) = some l := by
  have hp : (pad l 16).length = 16 := pad_len hl
  unfold bytes_TrimRight
  rw [cnd_f (ieq_f (by simp only [len]; omega)), cnd_f (by rfl), cnd_t (by rfl), grd_t (by kernel_rfl), cnd_t (by rfl), grd_t (by kernel_rfl)]
  have : bytes_trimRightByte fuelH (pad l 16, lget [32] (toN 0) 0) = some l := by
    unfold bytes_trimRightByte
    rw [jn_e]
    exact trim_loop (name_end h) fuelH (16 - l.length) (by show _ < 5000; omega) (by omega)
  rw [bnd_s this]
end Go.Mo
end

section
/-
  Plain facts: characters of the tape form read back.
-/
namespace Go.Mo
open Go Go.W Go.Lib
set_option maxRecDepth 100000

/-! ### tables -/
/-- the small letter -/
def low (r : Int) : Int := if (65 ≤ r ∧ r ≤ 90) ∨ (192 ≤ r ∧ r < 223) then r + 32 else if r = 338 then 339 else r
def lowK (x v0 : Int) : Option Int :=
  cnd (ilt v0 (0 : Int))
    (some (0 : Int))
    (jn (fun (v1 : Bool) =>
      cnd v1
        (some (wr .i32 (iadd x (32 : Int))))
        (cnd (ieq x (338 : Int))
          (some (339 : Int))
          (some x)))
    fun v2 =>
    cnd (ile (65 : Int) x)
      (cnd (ile x (90 : Int))
        (v2 (ile x (90 : Int)))
        (cnd (ile (192 : Int) x)
          (v2 (ilt x (223 : Int)))
          (v2 false)))
      (cnd (ile (192 : Int) x)
        (v2 (ilt x (223 : Int)))
        (v2 false)))
theorem lower_eq {r : Int} (hr : inRep r = true) : charset_Lower fuelH r = some (low r) := by
  have h : charset_Lower fuelH r = bnd (charset_Index fuelH r) (lowK r) := by kernel_rfl
  rw [h, ch_ix, (ix_ok hr).1, bnd_some']
  exact of_decide_eq_true (all_rep (P := fun r => decide (lowK r (ix r) = some (low r))) (by kernel_rfl) hr)
/-- the letters of the byte of a diacritic: their bytes, and themselves -/
def accS (a : UInt8) : List UInt8 := match accs.find? fun x => x.1 == a with
  | some x => x.2.1
  | none => []
def accR (a : UInt8) : List Int := match accs.find? fun x => x.1 == a with
  | some x => x.2.2
  | none => []
theorem accR_tab (a : UInt8) : latin_accented fuelH a = some (accS a) ∧ rns (accS a) = accR a ∧ (accR a).all (fun r => inRep r && inRep (low r)) = true :=
  of_decide_eq_true (all_u8 (P := fun a => decide (latin_accented fuelH a = some (accS a) ∧ rns (accS a) = accR a ∧ (accR a).all (fun r => inRep r && inRep (low r)) = true)) (by kernel_rfl) a)
def sgStr : List UInt8 := [194, 161, 194, 162, 194, 163, 194, 164, 194, 165, 194, 166, 194, 167, 194, 169, 226, 128, 152, 226, 128, 156, 194, 171, 194, 174, 226, 128, 148, 226, 128, 162, 226, 128, 166, 194, 176, 226, 132, 162, 194, 183, 226, 128, 153, 226, 128, 157, 194, 187, 194, 189, 194, 191, 226, 153, 170, 195, 134, 195, 152, 197, 146, 195, 166, 195, 184, 197, 147, 195, 159]
def sgB : List UInt8 := [161, 162, 163, 164, 165, 166, 167, 168, 169, 170, 171, 172, 173, 174, 175, 176, 180, 183, 185, 186, 187, 189, 191, 213, 225, 233, 234, 241, 249, 250, 251]
theorem sgStr_rns : rns sgStr = sgs.map (·.1) := by kernel_rfl

/-! ### the character at the beginning of bytes -/
def gS (a : UInt8) (r i : Int) (self : Int → Option (Int × Int)) : Option (Int × Int) :=
  grd (inb i (len sgB)) (cnd (ieq (n8 (lget sgB (toN i) (0 : UInt8))) (n8 a)) (some (r, (1 : Int))) (self (w64 (iadd i (1 : Int)))))
def sgG : List (Int × UInt8) → UInt8 → Option (Int × Int) → Option (Int × Int)
  | [], _, K => K
  | (r, b) :: l, a, K => cnd (ieq (n8 b) (n8 a)) (some (r, (1 : Int))) (sgG l a K)
theorem gS_eq (a : UInt8) (K : Option (Int × Int)) : foldR (gS a) (fun _ => K) (sgs.map (·.1)) 0 = sgG sgs a K := by kernel_rfl
def inner (r w : Int) (x : List UInt8) (K : Option (Int × Int)) : Option (Int × Int) :=
  fixN (fun v8 (v9 : Int) =>
                cnd (ilt v9 (2 : Int))
                  (grd (inb v9 (ofN 2))
                    (bnd (charset_Base fuelH (lget ([r, w] : List Int) (toN v9) (0 : Int))) fun v10 =>
                    grd (inb (1 : Int) (len x)) <|
                    cnd (ieq v10 (wr .i32 (n8 (lget x (toN (1 : Int)) (0 : UInt8)))))
                      (some (lget ([r, w] : List Int) (toN v9) (0 : Int), (2 : Int)))
                      (v8 (w64 (iadd v9 (1 : Int))))))
                  K) fuelH (0 : Int)
theorem wr8 (c : UInt8) : wr .i32 (n8 c) = n8 c := by
  have := n8_rng c
  exact wi32_id (by omega)
theorem inner_eq {r w : Int} (hr : inRep r = true) (hw : inRep w = true) (a b : UInt8) (t : List UInt8) (K : Option (Int × Int)) :
    inner r w (a :: b :: t) K = cnd (ieq (bas r) (n8 b)) (some (r, 2)) (cnd (ieq (bas w) (n8 b)) (some (w, 2)) K) := by
  unfold inner
  refine Eq.trans (lst_loop (l := [r, w]) (fun (_ : Unit) (p : Nat) => (p : Int)) (fun _ c (_ : Unit) self => bnd (charset_Base fuelH c) fun v10 => cnd (ieq v10 (n8 b)) (some (c, (2 : Int))) (self ())) (fun _ => K) (fun self a' i hi => ?_) (fun self a => ?_) fuelH 0 () (Nat.zero_le _) (by show 2 - 0 < 5000; omega)) ?_
  · have hi2 : i < 2 := hi
    rw [cnd_t (ilt_t (by omega)), grd_t (inb_t (by simp only [ofN]; omega)), lget_i hi, w64_succ hi2 (by omega)]
    rw [show lget (a :: b :: t) (toN (1 : Int)) 0 = b from rfl, wr8]
    have hg : inb (1 : Int) (len (a :: b :: t)) = true := inb_t (by simp only [len, List.length_cons]; omega)
    rw [hg]
    rfl
  · exact cnd_f (by rfl)
  · rw [List.drop_zero]
    simp only [foldI]
    rw [base_eq hr, base_eq hw]
    rfl
def acG : List Int → UInt8 → Option (Int × Int)
  | [], _ => some (0, 0)
  | r :: l, b => cnd (ieq (bas r) (n8 b)) (some (r, (2 : Int))) (cnd (ieq (bas (low r)) (n8 b)) (some (low r, (2 : Int))) (acG l b))
theorem acG_eq (a b : UInt8) (t : List UInt8) : ∀ l : List Int, l.all (fun r => inRep r && inRep (low r)) = true →
    foldR (fun r (_ : Unit) self => bnd (charset_Lower fuelH r) fun v7 => inner r v7 (a :: b :: t) (self ())) (fun _ => some (0, 0)) l () = acG l b
  | [], _ => rfl
  | r :: l, h => by
    rw [List.all_cons, Bool.and_eq_true, Bool.and_eq_true] at h
    rw [foldR, lower_eq h.1.1, bnd_some', inner_eq h.1.1 h.1.2]
    show cnd _ _ (cnd _ _ (foldR _ _ l ())) = _
    rw [acG_eq a b t l h.2]
    rfl
def acH (a : UInt8) : List UInt8 → Option (Int × Int)
  | [] => some (0, 0)
  | b :: _ => acG (accR a) b
def gtX (a : UInt8) (t : List UInt8) : Option (Int × Int) := sgG sgs a (acH a t)
def gtY (x : List UInt8) : Option (Int × Int) :=
  jn (fun (v0 : Unit) =>
      jn (fun (v1 : Unit) =>
        cnd (ilt (len x) (2 : Int))
          (some ((0 : Int), (0 : Int)))
          (jn (fun (v2 : Unit) =>
            some ((0 : Int), (0 : Int)))
          fun v3 =>
          grd (inb (0 : Int) (len x)) <|
          bnd (latin_accented fuelH (lget x (toN (0 : Int)) (0 : UInt8))) fun v4 =>
          fixN (fun v5 (v6 : (List UInt8) × Int) =>
            cnd (nlt (toN v6.2) (nlen v6.1))
              (bnd (charset_Lower fuelH (decR v6.1 (toN v6.2))) fun v7 =>
              inner (decR v6.1 (toN v6.2)) v7 x (v5 (v6.1, ofN (nadd (toN v6.2) (decW v6.1 (toN v6.2))))))
              (v3 ())) fuelH (v4, ofN 0)))
      fun v11 =>
      fixN (fun v12 (v13 : Int × (List UInt8) × Int) =>
        cnd (nlt (toN v13.2.2) (nlen v13.2.1))
          (grd (inb v13.1 (len sgB))
            (grd (inb (0 : Int) (len x))
              (cnd (ieq (n8 (lget sgB (toN v13.1) (0 : UInt8))) (n8 (lget x (toN (0 : Int)) (0 : UInt8))))
                (some (decR v13.2.1 (toN v13.2.2), (1 : Int)))
                (v12 (w64 (iadd v13.1 (1 : Int)), v13.2.1, ofN (nadd (toN v13.2.2) (decW v13.2.1 (toN v13.2.2))))))))
          (v11 ())) fuelH ((0 : Int), sgStr, ofN 0))
    fun v14 =>
    grd (inb (0 : Int) (len x)) <|
    cnd (ile (n8 (32 : UInt8)) (n8 (lget x (toN (0 : Int)) (0 : UInt8))))
      (grd (inb (0 : Int) (len x))
        (cnd (ilt (n8 (lget x (toN (0 : Int)) (0 : UInt8))) (n8 (127 : UInt8)))
          (grd (inb (0 : Int) (len x))
            (some (wr .i32 (n8 (lget x (toN (0 : Int)) (0 : UInt8))), (1 : Int))))
          (v14 ())))
      (v14 ())
theorem gtY_eq (x : List UInt8) : latin_Get fuelH x = cnd (ieq (len x) (0 : Int)) (some ((0 : Int), (0 : Int))) (gtY x) := by kernel_rfl
theorem latin_get_cons (a : UInt8) (t : List UInt8) : latin_Get fuelH (a :: t) = cnd (ile 32 (n8 a)) (cnd (ilt (n8 a) 127) (some (n8 a, 1)) (gtX a t)) (gtX a t) := by
  have hb : inb (0 : Int) (len (a :: t)) = true := inb_t (by simp only [len, List.length_cons]; omega)
  have g0 : lget (a :: t) (toN (0 : Int)) 0 = a := rfl
  have hS : sgStr.length = 71 := by kernel_rfl
  rw [gtY_eq, cnd_f (ieq_f (by simp only [len, List.length_cons]; omega))]
  unfold gtY
  rw [jn_e, hb, g0, wr8]
  have e : ∀ K : Option (Int × Int), fixN (fun v12 (v13 : Int × (List UInt8) × Int) =>
        cnd (nlt (toN v13.2.2) (nlen v13.2.1))
          (grd (inb v13.1 (len sgB))
            (grd true
              (cnd (ieq (n8 (lget sgB (toN v13.1) (0 : UInt8))) (n8 a))
                (some (decR v13.2.1 (toN v13.2.2), (1 : Int)))
                (v12 (w64 (iadd v13.1 (1 : Int)), v13.2.1, ofN (nadd (toN v13.2.2) (decW v13.2.1 (toN v13.2.2))))))))
          K) fuelH ((0 : Int), sgStr, ofN 0) = sgG sgs a K := by
    intro K
    refine Eq.trans (str_loop (s := sgStr) (fun (i : Int) (p : Nat) => (i, sgStr, ofN p)) (gS a) (fun _ => K) (fun self i p hp => ?_) (fun self i p hp => ?_) fuelH 0 0 (by rw [hS]; decide)) ?_
    · rw [cnd_t (nlt_t (show toN (ofN p) < nlen sgStr by rw [toN_ofN]; exact hp))]
      simp only [toN_ofN]
      rfl
    · rw [cnd_f (nlt_f (show ¬ toN (ofN p) < nlen sgStr by rw [toN_ofN]; unfold nlen; omega))]
    · rw [List.drop_zero, sgStr_rns, gS_eq]
  have e' : acH a t = cnd (ilt (len (a :: t)) (2 : Int))
          (some ((0 : Int), (0 : Int)))
          (jn (fun (v2 : Unit) =>
            some ((0 : Int), (0 : Int)))
          fun v3 =>
          grd true <|
          bnd (latin_accented fuelH a) fun v4 =>
          fixN (fun v5 (v6 : (List UInt8) × Int) =>
            cnd (nlt (toN v6.2) (nlen v6.1))
              (bnd (charset_Lower fuelH (decR v6.1 (toN v6.2))) fun v7 =>
              inner (decR v6.1 (toN v6.2)) v7 (a :: t) (v5 (v6.1, ofN (nadd (toN v6.2) (decW v6.1 (toN v6.2))))))
              (v3 ())) fuelH (v4, ofN 0)) := by
    cases t with
    | nil => rfl
    | cons b t =>
      obtain ⟨h1, h2, h3⟩ := accR_tab a
      have hl : (accS a).length < 100 := of_decide_eq_true (all_u8 (P := fun a => decide ((accS a).length < 100)) (by kernel_rfl) a)
      rw [cnd_f (ilt_f (by simp only [len, List.length_cons]; omega)), jn_e, h1, grd_t rfl, bnd_some']
      refine Eq.symm (Eq.trans (str_loop (s := accS a) (fun (_ : Unit) (p : Nat) => (accS a, ofN p)) (fun r (_ : Unit) self => bnd (charset_Lower fuelH r) fun v7 => inner r v7 (a :: b :: t) (self ())) (fun _ => some (0, 0)) (fun self i p hp => ?_) (fun self i p hp => ?_) fuelH 0 () (by show _ < 5000; omega)) ?_)
      · rw [cnd_t (nlt_t (show toN (ofN p) < nlen (accS a) by rw [toN_ofN]; exact hp))]
        simp only [toN_ofN]
        rfl
      · rw [cnd_f (nlt_f (show ¬ toN (ofN p) < nlen (accS a) by rw [toN_ofN]; unfold nlen; omega))]
      · rw [List.drop_zero, h2, acG_eq a b t _ h3]
        rfl
  unfold gtX
  rw [e', ← e]
  rfl
def sgF (a : UInt8) : Option (Int × UInt8) := sgs.find? fun x => n8 x.2 == n8 a
theorem sgG_eq (a : UInt8) (K : Option (Int × Int)) : ∀ l : List (Int × UInt8), sgG l a K = match l.find? fun x => n8 x.2 == n8 a with
    | some x => some (x.1, 1)
    | none => K
  | [] => rfl
  | (r, b) :: l => by
    simp only [sgG, List.find?_cons]
    by_cases h : n8 b = n8 a
    · rw [cnd_t (ieq_t h), show (n8 b == n8 a) = true from by simp [h]]
    · rw [cnd_f (ieq_f h), show (n8 b == n8 a) = false from by simp [h], sgG_eq a K l]
/-- what the bytes of a character say -/
def latB (r : Int) : Bool := match lat r with
  | [a] => (decide (32 ≤ n8 a) && decide (n8 a < 127) && decide (n8 a = r)) || (!(decide (32 ≤ n8 a) && decide (n8 a < 127)) && decide ((sgF a).map (·.1) = some r))
  | [a, b] => !(decide (32 ≤ n8 a) && decide (n8 a < 127)) && (sgF a).isNone && decide (acG (accR a) b = some (r, 2))
  | _ => false
theorem latin_get_lat {r : Int} (hr : inRep r = true) (t : List UInt8) : latin_Get fuelH (lat r ++ t) = some (r, ((lat r).length : Int)) := by
  have hb : latB r = true := all_rep (P := latB) (by kernel_rfl) hr
  unfold latB at hb
  have hx : ∀ a (u : List UInt8), (decide (32 ≤ n8 a) && decide (n8 a < 127)) = false → latin_Get fuelH (a :: u) = gtX a u := by
    intro a u h
    rw [latin_get_cons, cnd_ile, cnd_ilt]
    simp only [Bool.and_eq_false_iff, decide_eq_false_iff_not] at h
    split
    · rw [if_neg (by omega)]
    · rfl
  split at hb
  · rename_i a he
    rw [he]
    show latin_Get fuelH (a :: t) = some (r, 1)
    simp only [Bool.or_eq_true, Bool.and_eq_true, decide_eq_true_eq, Bool.not_eq_true'] at hb
    rcases hb with ⟨⟨h1, h2⟩, h3⟩ | ⟨h1, h2⟩
    · rw [latin_get_cons, cnd_t (ile_t h1), cnd_t (ilt_t h2), h3]
    · rw [hx a t h1]
      unfold gtX
      rw [sgG_eq]
      unfold sgF at h2
      cases hf : sgs.find? fun x => n8 x.2 == n8 a with
      | none => rw [hf] at h2; simp at h2
      | some x =>
        rw [hf] at h2
        simp only [Option.map_some, Option.some.injEq] at h2
        simp only [h2]
  · rename_i a b he
    rw [he]
    show latin_Get fuelH (a :: b :: t) = some (r, 2)
    simp only [Bool.and_eq_true, decide_eq_true_eq, Bool.not_eq_true', Option.isNone_iff_eq_none] at hb
    rw [hx a _ hb.1.1]
    unfold gtX
    rw [sgG_eq]
    have := hb.1.2
    unfold sgF at this
    rw [this]
    exact hb.2
  · cases hb
end Go.Mo
end

section
/-
  Plain facts: texts of the tape form read back.
-/
namespace Go.Mo
open Go Go.W Go.Lib
set_option maxRecDepth 100000

theorem cnd_imp {α : Type} {b : Bool} {x y x' y' : Option α} {L L' : α} (h1 : x = some L → x' = some L') (h2 : y = some L → y' = some L') (h : cnd b x y = some L) : cnd b x' y' = some L' := by
  cases b
  · exact h2 h
  · exact h1 h
theorem app_leaf {out l L : List UInt8} (hb : out.length ≤ 100000) (hl : l.length ≤ 4) (h : grd (room (iadd (len ([] : List UInt8)) (len l)) 1) (some (lapp [] l)) = some L) : grd (room (iadd (len out) (len l)) 1) (some (lapp out l)) = some (out ++ L) := by
  rw [grd_t (room_t (by simp only [iadd, len, List.length_nil]; omega))] at h
  injection h with h
  subst h
  rw [grd_t (room_t (by simp only [iadd, len]; omega))]
  rfl
theorem app_shift {N : Nat} {out L : List UInt8} {r : Int} (hb : out.length ≤ 100000) (h : utf8_AppendRune N ([], r) = some L) : utf8_AppendRune N (out, r) = some (out ++ L) := by
  unfold utf8_AppendRune utf8_appendRuneNonASCII at h ⊢
  rw [bnd_id, jn_e] at h
  rw [bnd_id, jn_e]
  refine cnd_imp (app_leaf hb (by simp)) (cnd_imp (app_leaf hb (by simp)) ?_) h
  refine cnd_imp ?_ (cnd_imp ?_ ?_)
  all_goals exact cnd_imp (app_leaf hb (by simp)) (cnd_imp (cnd_imp (app_leaf hb (by simp)) (app_leaf hb (by simp))) (app_leaf hb (by simp)))
theorem app_nil {r : Int} (N : Nat) (hr : inRep r = true) : utf8_AppendRune N ([], r) = some (enc r) := by
  have h : ((loRunes ++ hiRunes).all fun r => decide (utf8_AppendRune 0 ([], r) = some (enc r))) = true := by kernel_rfl
  exact of_decide_eq_true (all_rep (P := fun r => decide (utf8_AppendRune 0 ([], r) = some (enc r))) h hr)
theorem app_rune {N : Nat} {out : List UInt8} {r : Int} (hb : out.length ≤ 100000) (hr : inRep r = true) : utf8_AppendRune N (out, r) = some (out ++ enc r) :=
  app_shift hb (app_nil N hr)
theorem write_rune {N : Nat} {out : List UInt8} {r : Int} (hb : out.length ≤ 100000) (hr : inRep r = true) : ∃ n, strings_Builder_WriteRune N (((), out), r) = some (n, (), (), out ++ enc r) := by
  refine ⟨w64 (isub (len (out ++ enc r)) (len out)), ?_⟩
  unfold strings_Builder_WriteRune
  rw [show strings_Builder_copyCheck N ((), ((((), out), r) : (Unit × List UInt8) × Int).1.2) = some ((), out) from rfl, bnd_some']
  simp only
  rw [app_rune hb hr, bnd_some']
theorem enc_len {r : Int} (hr : inRep r = true) : (enc r).length ≤ 4 :=
  of_decide_eq_true (all_rep (P := fun r => decide ((enc r).length ≤ 4)) (by kernel_rfl) hr)
theorem dec_loop : ∀ (l : List Int) (fuel : Nat) (out : List UInt8), l.length < fuel → l.all inRep = true → out.length + 4 * l.length ≤ 100000 →
    fixN (fun v2 (v3 : (List UInt8) × Unit × List UInt8) =>
    cnd (ilt (0 : Int) (len v3.1))
      (bnd (latin_Get fuelH v3.1) fun v4 =>
      cnd (ieq v4.2 (0 : Int))
        (some (([] : List UInt8), (4 : Int)))
        (bnd (strings_Builder_WriteRune fuelH (((), v3.2.2), v4.1)) fun v5 =>
        grd (in2 v4.2 (len v3.1)) <|
        v2 (ldrop (toN v4.2) v3.1, (), v5.2.2.2)))
      (some (v3.2.2, (0 : Int)))) fuel (l.flatMap lat, (), out) = some (out ++ ofR l, 0)
  | _, 0, _, h, _, _ => by omega
  | [], fuel + 1, out, _, _, _ => by
    rw [fixN_s]
    show some (out, (0 : Int)) = some (out ++ [], 0)
    rw [List.append_nil]
  | r :: l, fuel + 1, out, h, ha, hb => by
    rw [List.all_cons, Bool.and_eq_true] at ha
    simp only [List.length_cons] at h hb
    have hl := (lat_ok ha.1).2.2.1
    have he := enc_len ha.1
    rw [fixN_s, List.flatMap_cons]
    simp only
    rw [cnd_t (ilt_t (by simp only [len, List.length_append]; omega)), latin_get_lat ha.1, bnd_some', cnd_f (ieq_f (by simp only; omega))]
    obtain ⟨n, hw⟩ := write_rune (N := fuelH) (out := out) (r := r) (by omega) ha.1
    rw [hw, bnd_some', grd_t (in2_t (by simp only [len, List.length_append]; omega))]
    have hd : ldrop (toN ((lat r).length : Int)) (lat r ++ l.flatMap lat) = l.flatMap lat := by simp [ldrop, toN]
    simp only
    rw [hd, dec_loop l fuel (out ++ enc r) (by omega) ha.2 (by rw [List.length_append]; omega)]
    unfold ofR
    rw [List.flatMap_cons, List.append_assoc]
theorem decode_back {s : List UInt8} (hs : s.length ≤ 4000) (hv : vld s = true) : latin_Decode fuelH (latE s) = some (s, 0) := by
  have hl := rns_len _ s (Nat.le_refl _)
  unfold latin_Decode
  rw [jn_e]
  have := dec_loop (rns s) fuelH [] (by show _ < 5000; omega) (rns_ok hv) (by simp only [List.length_nil]; omega)
  rw [ofR_rns hv] at this
  exact this
end Go.Mo
end

section
/-
  Plain facts: a header read back; TapeHeaders.
-/
namespace Go.Mo
open Go Go.W Go.Lib
set_option maxRecDepth 100000

def hz : Hdr := ((0 : UInt8), ([] : List UInt8), ([] : List UInt8), (0 : Int), (0 : Int), ((0 : Int), (0 : Int), (0 : Int), (0 : Int), false), ((0 : Int), (0 : Int), (0 : Int), (0 : Int), false), (0 : Int), (0 : Int))
noncomputable def ghB (x : List UInt8) (v6 : Hdr) : Option (Hdr × Int) :=
        grd (in3 (8 : Int) (24 : Int) (len x)) <|
        bnd (bytes_TrimRight fuelH (ldrop (toN (8 : Int)) (ltake (toN (24 : Int)) x), ([32] : List UInt8))) fun v7 =>
        grd (in3 (24 : Int) (27 : Int) (len x)) <|
        bnd (tape_number fuelH (ldrop (toN (24 : Int)) (ltake (toN (27 : Int)) x))) fun v8 =>
        grd (in3 (64 : Int) (imin (w64 (iadd (64 : Int) v8)) (1024 : Int)) (len x)) <|
        bnd (latin_Decode fuelH (ldrop (toN (64 : Int)) (ltake (toN (imin (w64 (iadd (64 : Int) v8)) (1024 : Int))) x))) fun v9 =>
        cnd (ine v9.2 (0 : Int)) (some (hz, (4 : Int)))
          (bnd (tape_PutHeader fuelH (v6.1, v7, v9.1, v6.2.2.2)) fun v10 =>
          cnd (ine v10.2 (0 : Int)) (some (hz, (4 : Int)))
            (bnd (bytes_Equal fuelH (x, v10.1)) fun v11 =>
            cnd (bnot v11) (some (hz, (4 : Int))) (some ((v6.1, v7, v9.1, v6.2.2.2), (0 : Int)))))
noncomputable def ghA (x : List UInt8) : Option (Hdr × Int) :=
    (grd (in3 (27 : Int) (32 : Int) (len x))
      (bnd (tape_number fuelH (ldrop (toN (27 : Int)) (ltake (toN (32 : Int)) x))) fun v0 =>
      grd (in3 (32 : Int) (37 : Int) (len x)) <|
      bnd (tape_number fuelH (ldrop (toN (32 : Int)) (ltake (toN (37 : Int)) x))) fun v1 =>
      grd (in3 (37 : Int) (45 : Int) (len x)) <|
      bnd (tape_label fuelH (ldrop (toN (37 : Int)) (ltake (toN (45 : Int)) x))) fun v2 =>
      grd (in3 (45 : Int) (53 : Int) (len x)) <|
      bnd (tape_label fuelH (ldrop (toN (45 : Int)) (ltake (toN (53 : Int)) x))) fun v3 =>
      grd (in3 (53 : Int) (55 : Int) (len x)) <|
      bnd (tape_number fuelH (ldrop (toN (53 : Int)) (ltake (toN (55 : Int)) x))) fun v4 =>
      grd (in3 (55 : Int) (57 : Int) (len x)) <|
      bnd (tape_number fuelH (ldrop (toN (55 : Int)) (ltake (toN (57 : Int)) x))) fun v5 =>
      grd (in2 (8 : Int) (len x)) <|
      bnd (tape_signature fuelH (5 : UInt8)) fun v13 =>
      cnd (seq (ltake (toN (8 : Int)) x) v13)
        (ghB x ((5 : UInt8), ([] : List UInt8), ([] : List UInt8), v0, v1, v2, v3, v4, v5))
        (ghB x ((3 : UInt8), ([] : List UInt8), ([] : List UInt8), v0, v1, v2, v3, v4, v5))))
theorem gh_eq (x : List UInt8) : tape_GetHeader fuelH x = cnd (ine (len x) (1024 : Int)) (some (hz, (4 : Int))) (ghA x) := by kernel_rfl
theorem slc {P D T : List UInt8} {k a b : Nat} (hk : P.length = k) (hb : b ≤ D.length) : ldrop (k + a) (ltake (k + b) (P ++ D ++ T)) = ldrop a (ltake b D) := by
  subst hk
  unfold ldrop ltake
  rw [List.append_assoc, List.take_append, List.take_of_length_le (l := P) (by omega), List.drop_append, List.drop_eq_nil_of_le (by omega : P.length ≤ P.length + a), List.nil_append]
  rw [show P.length + b - P.length = b by omega, show P.length + a - P.length = a by omega, List.take_append_of_le_length hb]
theorem get_back {h : Hdr} (hp : tape_PutHeader fuelH h = some (hby h, 0)) (H : HdrOk h) : tape_GetHeader fuelH (hby h) = some (h, 0) := by
  have hL := lang_len H
  have hT := latE_len H.ttl
  have hT4 := H.ttlL
  have hs := sig_len h.1
  have hlen := hby_len H
  have i3 : ∀ l u : Int, 0 ≤ l ∧ l ≤ u ∧ u ≤ 1024 → in3 l u (len (hby h)) = true := fun l u q => in3_t (by simp only [len]; omega)
  have i2 : in2 (8 : Int) (len (hby h)) = true := in2_t (by simp only [len]; omega)
  generalize hx : hby h = x at hlen i3 i2 hp
  have hP : (sig h.1 ++ pad h.2.1 16).length = 24 := by rw [List.length_append, hs, pad_len hL]
  have hx' : x = (sig h.1 ++ pad h.2.1 16) ++ pad (hdg h ((latE h.2.2.1).length : Int)) 40 ++ pad (latE h.2.2.1) 960 := hx.symm
  have hx2 : x = sig h.1 ++ pad h.2.1 16 ++ (pad (hdg h ((latE h.2.2.1).length : Int)) 40 ++ pad (latE h.2.2.1) 960) := by rw [hx']; simp only [List.append_assoc]
  generalize hD : pad (hdg h ((latE h.2.2.1).length : Int)) 40 = D at hx' hx2
  have hDl : D.length = 40 := by rw [← hD, pad_len (by rw [hdg_len]; decide)]
  have sl : ∀ a b : Nat, b ≤ 40 → ldrop (24 + a) (ltake (24 + b) x) = ldrop a (ltake b D) := fun a b hb => by rw [hx']; exact slc hP (by omega)
  have s1 : ldrop (toN (27 : Int)) (ltake (toN (32 : Int)) x) = [dg (dv (dv (dv (dv h.2.2.2.1)))), dg (dv (dv (dv h.2.2.2.1))), dg (dv (dv h.2.2.2.1)), dg (dv h.2.2.2.1), dg h.2.2.2.1] := (sl 3 8 (by decide)).trans (by rw [← hD]; kernel_rfl)
  have s2 : ldrop (toN (32 : Int)) (ltake (toN (37 : Int)) x) = [dg (dv (dv (dv (dv h.2.2.2.2.1)))), dg (dv (dv (dv h.2.2.2.2.1))), dg (dv (dv h.2.2.2.2.1)), dg (dv h.2.2.2.2.1), dg h.2.2.2.2.1] := (sl 8 13 (by decide)).trans (by rw [← hD]; kernel_rfl)
  have s3 : ldrop (toN (37 : Int)) (ltake (toN (45 : Int)) x) = clk h.2.2.2.2.2.1 := (sl 13 21 (by decide)).trans (by rw [← hD]; kernel_rfl)
  have s4 : ldrop (toN (45 : Int)) (ltake (toN (53 : Int)) x) = clk h.2.2.2.2.2.2.1 := (sl 21 29 (by decide)).trans (by rw [← hD]; kernel_rfl)
  have s5 : ldrop (toN (53 : Int)) (ltake (toN (55 : Int)) x) = [dg (dv h.2.2.2.2.2.2.2.1), dg h.2.2.2.2.2.2.2.1] := (sl 29 31 (by decide)).trans (by rw [← hD]; kernel_rfl)
  have s6 : ldrop (toN (55 : Int)) (ltake (toN (57 : Int)) x) = [dg (dv h.2.2.2.2.2.2.2.2), dg h.2.2.2.2.2.2.2.2] := (sl 31 33 (by decide)).trans (by rw [← hD]; kernel_rfl)
  have s7 : ldrop (toN (24 : Int)) (ltake (toN (27 : Int)) x) = [dg (dv (dv ((latE h.2.2.1).length : Int))), dg (dv ((latE h.2.2.1).length : Int)), dg ((latE h.2.2.1).length : Int)] := (sl 0 3 (by decide)).trans (by rw [← hD]; kernel_rfl)
  have s8 : ldrop (toN (8 : Int)) (ltake (toN (24 : Int)) x) = pad h.2.1 16 := by
    rw [hx2]
    refine (slc (P := sig h.1) (k := 8) (a := 0) (b := 16) hs (by rw [pad_len hL]; exact Nat.le_refl _)).trans ?_
    show (pad h.2.1 16).take 16 = _
    rw [List.take_of_length_le (by rw [pad_len hL]; exact Nat.le_refl _)]
  have s9 : ltake (toN (8 : Int)) x = sig h.1 := by
    rw [hx2, List.append_assoc]
    exact List.take_left' hs
  have hn : imin (w64 (iadd (64 : Int) ((latE h.2.2.1).length : Int))) (1024 : Int) = ((64 + (latE h.2.2.1).length : Nat) : Int) := by
    simp only [iadd, imin]
    rw [w64_id (by omega)]
    omega
  have s10 : ldrop (toN (64 : Int)) (ltake (toN ((64 + (latE h.2.2.1).length : Nat) : Int)) x) = latE h.2.2.1 := by
    have hPD : (sig h.1 ++ pad h.2.1 16 ++ D).length = 64 := by rw [List.length_append, hP, hDl]
    have e : x = (sig h.1 ++ pad h.2.1 16 ++ D) ++ latE h.2.2.1 ++ List.replicate (960 - (latE h.2.2.1).length) 32 := by rw [hx', List.append_assoc _ (latE h.2.2.1)]; rfl
    rw [e]
    refine (slc (P := sig h.1 ++ pad h.2.1 16 ++ D) (k := 64) (a := 0) (b := (latE h.2.2.1).length) hPD (Nat.le_refl _)).trans ?_
    show (latE h.2.2.1).take _ = _
    rw [List.take_length]
  have e0 : ∀ r : UInt8, r = h.1 → ghB x (r, [], [], h.2.2.2.1, h.2.2.2.2.1, h.2.2.2.2.2.1, h.2.2.2.2.2.2.1, h.2.2.2.2.2.2.2.1, h.2.2.2.2.2.2.2.2) = some (h, 0) := by
    rintro r rfl
    unfold ghB
    rw [grd_t (i3 8 24 (by decide)), s8, trim_pad H.lang hL, bnd_some', grd_t (i3 24 27 (by decide)), s7, num3 (by omega), bnd_some', hn, grd_t (i3 _ _ (by omega)), s10, decode_back (by omega) H.ttl, bnd_some', cnd_f (ine_f rfl), hp, bnd_some', cnd_f (ine_f rfl)]
    have : bytes_Equal fuelH (x, x) = some true := by
      unfold bytes_Equal seq
      simp
    rw [this]
    rfl
  rw [gh_eq, cnd_f (ine_f (by simp only [len]; omega))]
  unfold ghA
  rw [grd_t (i3 27 32 (by decide)), s1, num5 H.blocks, bnd_some', grd_t (i3 32 37 (by decide)), s2, num5 H.groups, bnd_some', grd_t (i3 37 45 (by decide)), s3, label_back H.start H.d1, bnd_some', grd_t (i3 45 53 (by decide)), s4, label_back H.first H.d2, bnd_some', grd_t (i3 53 55 (by decide)), s5, num2 H.rows, bnd_some', grd_t (i3 55 57 (by decide)), s6, num2 H.cols, bnd_some', grd_t i2, sig_eq, bnd_some', s9]
  rcases H.rate with hr | hr
  · rw [cnd_f (by rw [hr]; rfl)]
    exact e0 3 hr.symm
  · rw [cnd_t (by rw [hr]; rfl)]
    exact e0 5 hr.symm
theorem band_t {a b : Bool} (ha : a = true) (hb : b = true) : band a b = true := by subst ha hb; rfl
theorem seq_r (a : List UInt8) : seq a a = true := by simp [seq]
theorem beqb_r (a : Bool) : beqb a a = true := by simp [beqb]
theorem lbl_r (l : Lbl) : band (ieq l.1 l.1) (band (ieq l.2.1 l.2.1) (band (ieq l.2.2.1 l.2.2.1) (band (ieq l.2.2.2.1 l.2.2.2.1) (beqb l.2.2.2.2 l.2.2.2.2)))) = true :=
  band_t (ieq_t rfl) (band_t (ieq_t rfl) (band_t (ieq_t rfl) (band_t (ieq_t rfl) (beqb_r _))))
theorem hdr_r (h : Hdr) : band (ieq (n8 h.1) (n8 h.1)) (band (seq h.2.1 h.2.1) (band (seq h.2.2.1 h.2.2.1) (band (ieq h.2.2.2.1 h.2.2.2.1) (band (ieq h.2.2.2.2.1 h.2.2.2.2.1) (band (band (ieq h.2.2.2.2.2.1.1 h.2.2.2.2.2.1.1) (band (ieq h.2.2.2.2.2.1.2.1 h.2.2.2.2.2.1.2.1) (band (ieq h.2.2.2.2.2.1.2.2.1 h.2.2.2.2.2.1.2.2.1) (band (ieq h.2.2.2.2.2.1.2.2.2.1 h.2.2.2.2.2.1.2.2.2.1) (beqb h.2.2.2.2.2.1.2.2.2.2 h.2.2.2.2.2.1.2.2.2.2))))) (band (band (ieq h.2.2.2.2.2.2.1.1 h.2.2.2.2.2.2.1.1) (band (ieq h.2.2.2.2.2.2.1.2.1 h.2.2.2.2.2.2.1.2.1) (band (ieq h.2.2.2.2.2.2.1.2.2.1 h.2.2.2.2.2.2.1.2.2.1) (band (ieq h.2.2.2.2.2.2.1.2.2.2.1 h.2.2.2.2.2.2.1.2.2.2.1) (beqb h.2.2.2.2.2.2.1.2.2.2.2 h.2.2.2.2.2.2.1.2.2.2.2))))) (band (ieq h.2.2.2.2.2.2.2.1 h.2.2.2.2.2.2.2.1) (ieq h.2.2.2.2.2.2.2.2 h.2.2.2.2.2.2.2.2)))))))) = true :=
  band_t (ieq_t rfl) (band_t (seq_r _) (band_t (seq_r _) (band_t (ieq_t rfl) (band_t (ieq_t rfl) (band_t (lbl_r _) (band_t (lbl_r _) (band_t (ieq_t rfl) (ieq_t rfl))))))))
end Go.Mo
end

section
/-
  Plain facts: TapeHeaders returns true.
-/
namespace Go.Mo
open Go Go.W Go.Lib
set_option maxRecDepth 100000

theorem take_ok {l : List UInt8} {n : Nat} : (ltake (toN (imin (len l) (n : Int))) l).length ≤ n := by
  simp only [ltake, toN, imin, len, List.length_take]
  omega
theorem take_in {l : List UInt8} {n : Int} (hn : 0 ≤ n) : in2 (imin (len l) n) (len l) = true := in2_t (by simp only [imin, len]; omega)
/-- the law on the header as it is cut -/
noncomputable def hdrK (x : Hdr) : Option Bool :=
        bnd (tape_PutHeader fuelH x) fun v1 =>
        bnd (r23_PutHeader fuelH x) fun v2 =>
        bnd (slices_Equal_Lbyte_byte fuelH (v1.1, v2.1)) fun v3 =>
        cnd (bnot v3)
          (some false)
          (cnd (ine v1.2 v2.2)
            (some false)
            (bnd (tape_CheckHeader fuelH x) fun v4 =>
            cnd (ine v4 v1.2)
              (some false)
              (cnd (ine v1.2 (0 : Int))
                (some (ieq (len v1.1) (0 : Int)))
                (bnd (tape_GetHeader fuelH v1.1) fun v5 =>
                cnd (ieq v5.2 (0 : Int))
                  (cnd (band (ieq (n8 v5.1.1) (n8 x.1)) (band (seq v5.1.2.1 x.2.1) (band (seq v5.1.2.2.1 x.2.2.1) (band (ieq v5.1.2.2.2.1 x.2.2.2.1) (band (ieq v5.1.2.2.2.2.1 x.2.2.2.2.1) (band (band (ieq v5.1.2.2.2.2.2.1.1 x.2.2.2.2.2.1.1) (band (ieq v5.1.2.2.2.2.2.1.2.1 x.2.2.2.2.2.1.2.1) (band (ieq v5.1.2.2.2.2.2.1.2.2.1 x.2.2.2.2.2.1.2.2.1) (band (ieq v5.1.2.2.2.2.2.1.2.2.2.1 x.2.2.2.2.2.1.2.2.2.1) (beqb v5.1.2.2.2.2.2.1.2.2.2.2 x.2.2.2.2.2.1.2.2.2.2))))) (band (band (ieq v5.1.2.2.2.2.2.2.1.1 x.2.2.2.2.2.2.1.1) (band (ieq v5.1.2.2.2.2.2.2.1.2.1 x.2.2.2.2.2.2.1.2.1) (band (ieq v5.1.2.2.2.2.2.2.1.2.2.1 x.2.2.2.2.2.2.1.2.2.1) (band (ieq v5.1.2.2.2.2.2.2.1.2.2.2.1 x.2.2.2.2.2.2.1.2.2.2.1) (beqb v5.1.2.2.2.2.2.2.1.2.2.2.2 x.2.2.2.2.2.2.1.2.2.2.2))))) (band (ieq v5.1.2.2.2.2.2.2.2.1 x.2.2.2.2.2.2.2.1) (ieq v5.1.2.2.2.2.2.2.2.2 x.2.2.2.2.2.2.2.2)))))))))
                    (some (ieq (len v1.1) (1024 : Int)))
                    (some false))
                  (some false)))))
theorem hdrK_true {h : Hdr} (h2 : h.2.2.1.length ≤ 4000) : hdrK h = some true := by
  unfold hdrK
  obtain ⟨e, hc, _, hp⟩ := put_both h2
  have heq : ∀ l : List UInt8, l.length ≤ 4000 → slices_Equal_Lbyte_byte fuelH (l, l) = some true := fun l hl => by
    rw [equal_eq l l (by omega) (.inr (by show _ < 5000; omega)), decide_eq_true rfl]
  rcases hp with ⟨he, p1, p2⟩ | ⟨rfl, H, p1, p2⟩
  · rw [p1, bnd_some', p2, bnd_some', heq [] (by decide), bnd_some', cnd_f (by rfl), cnd_f (ine_f rfl), hc, bnd_some', cnd_f (ine_f rfl), cnd_t (ine_t he)]
    rfl
  · have hl := hby_len H
    rw [p1, bnd_some', p2, bnd_some', heq _ (by show (hby h).length ≤ 4000; omega), bnd_some', cnd_f (by rfl), cnd_f (ine_f rfl), hc, bnd_some', cnd_f (ine_f rfl), cnd_f (ine_f rfl), get_back p1 H, bnd_some', cnd_t (ieq_t rfl), cnd_t (hdr_r h)]
    congr 1
    exact ieq_t (by simp only [len]; omega)
theorem headers_eq (x : Hdr) : l23_TapeHeaders fuelH x = bnd (l23_awake fuelH ()) fun v0 => cnd (bnot v0) (some false) (grd (in2 (imin (len x.2.1) (40 : Int)) (len x.2.1)) (grd (in2 (imin (len x.2.2.1) (420 : Int)) (len x.2.2.1)) (hdrK (x.1, ltake (toN (imin (len x.2.1) (40 : Int))) x.2.1, ltake (toN (imin (len x.2.2.1) (420 : Int))) x.2.2.1, x.2.2.2)))) := by kernel_rfl
theorem headers_true0 (x : Hdr) : l23_TapeHeaders fuelH x = some true := by
  rw [headers_eq, awake_true (by decide), bnd_some', cnd_f (by rfl), grd_t (take_in (by decide)), grd_t (take_in (by decide))]
  have := take_ok (l := x.2.2.1) (n := 420)
  exact hdrK_true (by exact Nat.le_trans this (by decide))
end Go.Mo
end
