/-
  NARROWER THAN 'FOR EVERY INPUT', by the rows' own cells (each row's printed sentence says how): XmlEscapes: laid · XmlUnescapes: laid · XmlChecks: laid · XmlParses: laid · XmlReturns: laid · XmlValid: laid · XmlIgnores: laid · XmlText: laid · XmlCovers: laid · XmlLooks: laid.
  DERIVED. THE GIVEN ROWS OF THIS SEAT. 10 by the template 'for every input the law returns true; each argument reads behind the call as it read before'; 0 by the template 'total and deterministic' (their statements: YtihkkflfdblpcaaGreatDoorTotals.lean).
  GIVEN WITH THE SEED: the statements are not yours to turn. If you find one false, say at which input.
  Laid BY PROGRAM, IN A SANDBOX (cutbox-rows.mjs): the forced cells as the released guide's own fill.sh prints them over the translation 914a07f9f3e3f20d… (all of the seat's roots in one cut). By AI agents, Wed Nov 11 2026. No macro, syntax, notation, axiom, sorry.
-/
import Derived.Test.YtihkkflfdblpcaaGreatDoorChecked
import GoSem.PinnedTables
import GoSem.Claim
import GoSem.ClaimJoined
import GoSem.ClaimMapViews
import Derived.JoinedTies
import Derived.KernelRfl
namespace Go.Proofs.YtihkkflfdblpcaaGreatDoor
/- THE CELL 'sum', in the pinned program and in every row, IS THE sha256 OF THE DUMP (.gsa) THAT YtihkkflfdblpcaaGreatDoorProg.lean LOADS. Nothing in Lean hashes anything: it is a label: what it is worth is what the hold of that sum in a sandbox is worth. -/
noncomputable def Tryz.pinned : Pinned := { name := "ytihkkflfdblpcaagreatdoor", sum := "914a07f9f3e3f20d409644f419253d39f2118b25e89efcacc0bc2b855d23ca6e", checked := Tryz.checked }
namespace Rows
def none {H : Type} : Left H := { results := [], args := [] }

/- WHAT THE LISTED PACKAGE-LEVEL VARIABLES READ AS WHEN THE CALL BEGINS. Each datum BY PROGRAM (the guide's laid-datum.mjs) off the statement by which the dump's own 'gosem.cut.vars' lays the variable. In a bare row this is a premise. The card (YtihkkflfdblpcaaGreatDoorCards.lean) ties it to the program's text. -/
def laid_unicode_utf8_acceptRanges {H : Type} : DataW H := .agg [.agg [.lit (.int .u8 128), .lit (.int .u8 191)], .agg [.lit (.int .u8 160), .lit (.int .u8 191)], .agg [.lit (.int .u8 128), .lit (.int .u8 159)], .agg [.lit (.int .u8 144), .lit (.int .u8 191)], .agg [.lit (.int .u8 128), .lit (.int .u8 143)], .agg [.lit (.int .u8 0), .lit (.int .u8 0)], .agg [.lit (.int .u8 0), .lit (.int .u8 0)], .agg [.lit (.int .u8 0), .lit (.int .u8 0)], .agg [.lit (.int .u8 0), .lit (.int .u8 0)], .agg [.lit (.int .u8 0), .lit (.int .u8 0)], .agg [.lit (.int .u8 0), .lit (.int .u8 0)], .agg [.lit (.int .u8 0), .lit (.int .u8 0)], .agg [.lit (.int .u8 0), .lit (.int .u8 0)], .agg [.lit (.int .u8 0), .lit (.int .u8 0)], .agg [.lit (.int .u8 0), .lit (.int .u8 0)], .agg [.lit (.int .u8 0), .lit (.int .u8 0)]]
def laid_captioner_xml_entities {H : Type} : DataW H := .agg [.agg [.lit (.string [38, 97, 109, 112, 59]), .lit (.string [38])], .agg [.lit (.string [38, 108, 116, 59]), .lit (.string [60])], .agg [.lit (.string [38, 103, 116, 59]), .lit (.string [62])], .agg [.lit (.string [38, 113, 117, 111, 116, 59]), .lit (.string [34])], .agg [.lit (.string [38, 97, 112, 111, 115, 59]), .lit (.string [39])]]
/-- One of Go's own tables, pinned by name: the form's constant. -/
def laid_unicode_utf8_first : DataW Unit := Go.Pinned.utf8First

/-- 'captionerlaw20.XmlEscapes': WHATEVER THE INPUT: true; the input reads as it did. -/
def xmlEscapesSpec : ChangeSpec := { name := "xmlEscapes", fn := fun _ => fun
  | [d] => { results := [.lit (.bool true)], args := [d] }
  | _ => none }
def xmlEscapesRow : OpenClaim := { program := "ytihkkflfdblpcaagreatdoor", sum := "914a07f9f3e3f20d409644f419253d39f2118b25e89efcacc0bc2b855d23ca6e", func := "captioner/captionerlaw20.XmlEscapes", spec := "xmlEscapes", inPlace := ["internal/bytealg.CountString", "internal/bytealg.IndexByteString", "internal/bytealg.IndexString", "sync/atomic.LoadUint32", "(*internal/sync.Mutex).Lock", "internal/race.Disable", "sync/atomic.CompareAndSwapInt32", "internal/race.Enable", "internal/race.Acquire", "(*internal/sync.Mutex).lockSlow", "internal/sync.runtime_canSpin", "internal/sync.runtime_doSpin", "internal/sync.throw", "internal/sync.runtime_nanotime", "internal/sync.runtime_SemacquireMutex", "sync/atomic.AddInt32", "(*internal/sync.Mutex).Unlock", "internal/race.ReleaseMerge", "(*internal/sync.Mutex).unlockSlow", "internal/sync.fatal", "internal/sync.runtime_Semrelease", "sync/atomic.StoreUint32", "internal/abi.NoEscape", "internal/bytealg.MakeNoZero"], unfollowed := true, recurses := true, named := ["internal/bytealg.MaxLen", "unicode/utf8.first", "unicode/utf8.acceptRanges", "captioner/xml.entities"], apart := false, laid := [("unicode/utf8.acceptRanges", laid_unicode_utf8_acceptRanges), ("captioner/xml.entities", laid_captioner_xml_entities), ("unicode/utf8.first", laid_unicode_utf8_first)] }
def XmlEscapesSaid : Prop := xmlEscapesRow.holds Tryz.pinned (OpenSpec.ofChange xmlEscapesSpec)

/-- ITS FALSE NEIGHBOUR: 'it returns false'. Refute it at one input. -/
def xmlEscapesWrong : ChangeSpec := { name := "xmlEscapes", fn := fun _ => fun
  | [d] => { results := [.lit (.bool false)], args := [d] }
  | _ => none }
def XmlEscapesWrongFalsely : Prop := xmlEscapesRow.holds Tryz.pinned (OpenSpec.ofChange xmlEscapesWrong)

/-- 'captionerlaw20.XmlUnescapes': WHATEVER THE INPUT: true; the input reads as it did. -/
def xmlUnescapesSpec : ChangeSpec := { name := "xmlUnescapes", fn := fun _ => fun
  | [d] => { results := [.lit (.bool true)], args := [d] }
  | _ => none }
def xmlUnescapesRow : OpenClaim := { program := "ytihkkflfdblpcaagreatdoor", sum := "914a07f9f3e3f20d409644f419253d39f2118b25e89efcacc0bc2b855d23ca6e", func := "captioner/captionerlaw20.XmlUnescapes", spec := "xmlUnescapes", inPlace := ["internal/bytealg.CountString", "internal/bytealg.IndexByteString", "internal/bytealg.IndexString", "sync/atomic.LoadUint32", "(*internal/sync.Mutex).Lock", "internal/race.Disable", "sync/atomic.CompareAndSwapInt32", "internal/race.Enable", "internal/race.Acquire", "(*internal/sync.Mutex).lockSlow", "internal/sync.runtime_canSpin", "internal/sync.runtime_doSpin", "internal/sync.throw", "internal/sync.runtime_nanotime", "internal/sync.runtime_SemacquireMutex", "sync/atomic.AddInt32", "(*internal/sync.Mutex).Unlock", "internal/race.ReleaseMerge", "(*internal/sync.Mutex).unlockSlow", "internal/sync.fatal", "internal/sync.runtime_Semrelease", "sync/atomic.StoreUint32", "internal/abi.NoEscape", "internal/bytealg.MakeNoZero"], unfollowed := true, recurses := true, named := ["internal/bytealg.MaxLen", "unicode/utf8.first", "unicode/utf8.acceptRanges", "captioner/xml.entities"], apart := false, laid := [("unicode/utf8.acceptRanges", laid_unicode_utf8_acceptRanges), ("captioner/xml.entities", laid_captioner_xml_entities), ("unicode/utf8.first", laid_unicode_utf8_first)] }
def XmlUnescapesSaid : Prop := xmlUnescapesRow.holds Tryz.pinned (OpenSpec.ofChange xmlUnescapesSpec)

/-- ITS FALSE NEIGHBOUR: 'it returns false'. Refute it at one input. -/
def xmlUnescapesWrong : ChangeSpec := { name := "xmlUnescapes", fn := fun _ => fun
  | [d] => { results := [.lit (.bool false)], args := [d] }
  | _ => none }
def XmlUnescapesWrongFalsely : Prop := xmlUnescapesRow.holds Tryz.pinned (OpenSpec.ofChange xmlUnescapesWrong)

/-- 'captionerlaw20.XmlChecks': WHATEVER THE INPUT: true; the input reads as it did. -/
def xmlChecksSpec : ChangeSpec := { name := "xmlChecks", fn := fun _ => fun
  | [d] => { results := [.lit (.bool true)], args := [d] }
  | _ => none }
def xmlChecksRow : OpenClaim := { program := "ytihkkflfdblpcaagreatdoor", sum := "914a07f9f3e3f20d409644f419253d39f2118b25e89efcacc0bc2b855d23ca6e", func := "captioner/captionerlaw20.XmlChecks", spec := "xmlChecks", inPlace := ["internal/bytealg.CountString", "internal/bytealg.IndexByteString", "internal/bytealg.IndexString", "sync/atomic.LoadUint32", "(*internal/sync.Mutex).Lock", "internal/race.Disable", "sync/atomic.CompareAndSwapInt32", "internal/race.Enable", "internal/race.Acquire", "(*internal/sync.Mutex).lockSlow", "internal/sync.runtime_canSpin", "internal/sync.runtime_doSpin", "internal/sync.throw", "internal/sync.runtime_nanotime", "internal/sync.runtime_SemacquireMutex", "sync/atomic.AddInt32", "(*internal/sync.Mutex).Unlock", "internal/race.ReleaseMerge", "(*internal/sync.Mutex).unlockSlow", "internal/sync.fatal", "internal/sync.runtime_Semrelease", "sync/atomic.StoreUint32", "internal/abi.NoEscape", "internal/bytealg.MakeNoZero"], unfollowed := true, recurses := true, named := ["internal/bytealg.MaxLen", "unicode/utf8.first", "unicode/utf8.acceptRanges", "captioner/xml.entities"], apart := false, laid := [("unicode/utf8.acceptRanges", laid_unicode_utf8_acceptRanges), ("captioner/xml.entities", laid_captioner_xml_entities), ("unicode/utf8.first", laid_unicode_utf8_first)] }
def XmlChecksSaid : Prop := xmlChecksRow.holds Tryz.pinned (OpenSpec.ofChange xmlChecksSpec)

/-- ITS FALSE NEIGHBOUR: 'it returns false'. Refute it at one input. -/
def xmlChecksWrong : ChangeSpec := { name := "xmlChecks", fn := fun _ => fun
  | [d] => { results := [.lit (.bool false)], args := [d] }
  | _ => none }
def XmlChecksWrongFalsely : Prop := xmlChecksRow.holds Tryz.pinned (OpenSpec.ofChange xmlChecksWrong)

/-- 'captionerlaw20.XmlParses': WHATEVER THE INPUT: true; the input reads as it did. -/
def xmlParsesSpec : ChangeSpec := { name := "xmlParses", fn := fun _ => fun
  | [d] => { results := [.lit (.bool true)], args := [d] }
  | _ => none }
def xmlParsesRow : OpenClaim := { program := "ytihkkflfdblpcaagreatdoor", sum := "914a07f9f3e3f20d409644f419253d39f2118b25e89efcacc0bc2b855d23ca6e", func := "captioner/captionerlaw20.XmlParses", spec := "xmlParses", inPlace := ["internal/bytealg.CountString", "internal/bytealg.IndexByteString", "internal/bytealg.IndexString", "sync/atomic.LoadUint32", "(*internal/sync.Mutex).Lock", "internal/race.Disable", "sync/atomic.CompareAndSwapInt32", "internal/race.Enable", "internal/race.Acquire", "(*internal/sync.Mutex).lockSlow", "internal/sync.runtime_canSpin", "internal/sync.runtime_doSpin", "internal/sync.throw", "internal/sync.runtime_nanotime", "internal/sync.runtime_SemacquireMutex", "sync/atomic.AddInt32", "(*internal/sync.Mutex).Unlock", "internal/race.ReleaseMerge", "(*internal/sync.Mutex).unlockSlow", "internal/sync.fatal", "internal/sync.runtime_Semrelease", "sync/atomic.StoreUint32", "internal/abi.NoEscape", "internal/bytealg.MakeNoZero"], unfollowed := true, recurses := true, named := ["internal/bytealg.MaxLen", "unicode/utf8.first", "unicode/utf8.acceptRanges", "captioner/xml.entities"], apart := false, laid := [("unicode/utf8.acceptRanges", laid_unicode_utf8_acceptRanges), ("captioner/xml.entities", laid_captioner_xml_entities), ("unicode/utf8.first", laid_unicode_utf8_first)] }
def XmlParsesSaid : Prop := xmlParsesRow.holds Tryz.pinned (OpenSpec.ofChange xmlParsesSpec)

/-- ITS FALSE NEIGHBOUR: 'it returns false'. Refute it at one input. -/
def xmlParsesWrong : ChangeSpec := { name := "xmlParses", fn := fun _ => fun
  | [d] => { results := [.lit (.bool false)], args := [d] }
  | _ => none }
def XmlParsesWrongFalsely : Prop := xmlParsesRow.holds Tryz.pinned (OpenSpec.ofChange xmlParsesWrong)

/-- 'captionerlaw20.XmlReturns': WHATEVER THE INPUT: true; the input reads as it did. -/
def xmlReturnsSpec : ChangeSpec := { name := "xmlReturns", fn := fun _ => fun
  | [d] => { results := [.lit (.bool true)], args := [d] }
  | _ => none }
def xmlReturnsRow : OpenClaim := { program := "ytihkkflfdblpcaagreatdoor", sum := "914a07f9f3e3f20d409644f419253d39f2118b25e89efcacc0bc2b855d23ca6e", func := "captioner/captionerlaw20.XmlReturns", spec := "xmlReturns", inPlace := ["internal/bytealg.CountString", "internal/bytealg.IndexByteString", "internal/bytealg.IndexString", "sync/atomic.LoadUint32", "(*internal/sync.Mutex).Lock", "internal/race.Disable", "sync/atomic.CompareAndSwapInt32", "internal/race.Enable", "internal/race.Acquire", "(*internal/sync.Mutex).lockSlow", "internal/sync.runtime_canSpin", "internal/sync.runtime_doSpin", "internal/sync.throw", "internal/sync.runtime_nanotime", "internal/sync.runtime_SemacquireMutex", "sync/atomic.AddInt32", "(*internal/sync.Mutex).Unlock", "internal/race.ReleaseMerge", "(*internal/sync.Mutex).unlockSlow", "internal/sync.fatal", "internal/sync.runtime_Semrelease", "sync/atomic.StoreUint32", "internal/abi.NoEscape", "internal/bytealg.MakeNoZero"], unfollowed := true, recurses := true, named := ["internal/bytealg.MaxLen", "unicode/utf8.first", "unicode/utf8.acceptRanges", "captioner/xml.entities"], apart := false, laid := [("unicode/utf8.acceptRanges", laid_unicode_utf8_acceptRanges), ("captioner/xml.entities", laid_captioner_xml_entities), ("unicode/utf8.first", laid_unicode_utf8_first)] }
def XmlReturnsSaid : Prop := xmlReturnsRow.holds Tryz.pinned (OpenSpec.ofChange xmlReturnsSpec)

/-- ITS FALSE NEIGHBOUR: 'it returns false'. Refute it at one input. -/
def xmlReturnsWrong : ChangeSpec := { name := "xmlReturns", fn := fun _ => fun
  | [d] => { results := [.lit (.bool false)], args := [d] }
  | _ => none }
def XmlReturnsWrongFalsely : Prop := xmlReturnsRow.holds Tryz.pinned (OpenSpec.ofChange xmlReturnsWrong)

/-- 'captionerlaw20.XmlValid': WHATEVER THE INPUT: true; the input reads as it did. -/
def xmlValidSpec : ChangeSpec := { name := "xmlValid", fn := fun _ => fun
  | [d] => { results := [.lit (.bool true)], args := [d] }
  | _ => none }
def xmlValidRow : OpenClaim := { program := "ytihkkflfdblpcaagreatdoor", sum := "914a07f9f3e3f20d409644f419253d39f2118b25e89efcacc0bc2b855d23ca6e", func := "captioner/captionerlaw20.XmlValid", spec := "xmlValid", inPlace := ["internal/bytealg.CountString", "internal/bytealg.IndexByteString", "internal/bytealg.IndexString", "sync/atomic.LoadUint32", "(*internal/sync.Mutex).Lock", "internal/race.Disable", "sync/atomic.CompareAndSwapInt32", "internal/race.Enable", "internal/race.Acquire", "(*internal/sync.Mutex).lockSlow", "internal/sync.runtime_canSpin", "internal/sync.runtime_doSpin", "internal/sync.throw", "internal/sync.runtime_nanotime", "internal/sync.runtime_SemacquireMutex", "sync/atomic.AddInt32", "(*internal/sync.Mutex).Unlock", "internal/race.ReleaseMerge", "(*internal/sync.Mutex).unlockSlow", "internal/sync.fatal", "internal/sync.runtime_Semrelease", "sync/atomic.StoreUint32", "internal/abi.NoEscape", "internal/bytealg.MakeNoZero"], unfollowed := true, recurses := true, named := ["internal/bytealg.MaxLen", "unicode/utf8.first", "unicode/utf8.acceptRanges", "captioner/xml.entities"], apart := false, laid := [("unicode/utf8.acceptRanges", laid_unicode_utf8_acceptRanges), ("captioner/xml.entities", laid_captioner_xml_entities), ("unicode/utf8.first", laid_unicode_utf8_first)] }
def XmlValidSaid : Prop := xmlValidRow.holds Tryz.pinned (OpenSpec.ofChange xmlValidSpec)

/-- ITS FALSE NEIGHBOUR: 'it returns false'. Refute it at one input. -/
def xmlValidWrong : ChangeSpec := { name := "xmlValid", fn := fun _ => fun
  | [d] => { results := [.lit (.bool false)], args := [d] }
  | _ => none }
def XmlValidWrongFalsely : Prop := xmlValidRow.holds Tryz.pinned (OpenSpec.ofChange xmlValidWrong)

/-- 'captionerlaw20.XmlIgnores': WHATEVER THE INPUT: true; the input reads as it did. -/
def xmlIgnoresSpec : ChangeSpec := { name := "xmlIgnores", fn := fun _ => fun
  | [d1, d2] => { results := [.lit (.bool true)], args := [d1, d2] }
  | _ => none }
def xmlIgnoresRow : OpenClaim := { program := "ytihkkflfdblpcaagreatdoor", sum := "914a07f9f3e3f20d409644f419253d39f2118b25e89efcacc0bc2b855d23ca6e", func := "captioner/captionerlaw20.XmlIgnores", spec := "xmlIgnores", inPlace := ["internal/bytealg.CountString", "internal/bytealg.IndexByteString", "internal/bytealg.IndexString", "sync/atomic.LoadUint32", "(*internal/sync.Mutex).Lock", "internal/race.Disable", "sync/atomic.CompareAndSwapInt32", "internal/race.Enable", "internal/race.Acquire", "(*internal/sync.Mutex).lockSlow", "internal/sync.runtime_canSpin", "internal/sync.runtime_doSpin", "internal/sync.throw", "internal/sync.runtime_nanotime", "internal/sync.runtime_SemacquireMutex", "sync/atomic.AddInt32", "(*internal/sync.Mutex).Unlock", "internal/race.ReleaseMerge", "(*internal/sync.Mutex).unlockSlow", "internal/sync.fatal", "internal/sync.runtime_Semrelease", "sync/atomic.StoreUint32", "internal/abi.NoEscape", "internal/bytealg.MakeNoZero"], unfollowed := true, recurses := true, named := ["internal/bytealg.MaxLen", "unicode/utf8.first", "unicode/utf8.acceptRanges", "captioner/xml.entities"], apart := false, laid := [("unicode/utf8.acceptRanges", laid_unicode_utf8_acceptRanges), ("captioner/xml.entities", laid_captioner_xml_entities), ("unicode/utf8.first", laid_unicode_utf8_first)] }
def XmlIgnoresSaid : Prop := xmlIgnoresRow.holds Tryz.pinned (OpenSpec.ofChange xmlIgnoresSpec)

/-- ITS FALSE NEIGHBOUR: 'it returns false'. Refute it at one input. -/
def xmlIgnoresWrong : ChangeSpec := { name := "xmlIgnores", fn := fun _ => fun
  | [d1, d2] => { results := [.lit (.bool false)], args := [d1, d2] }
  | _ => none }
def XmlIgnoresWrongFalsely : Prop := xmlIgnoresRow.holds Tryz.pinned (OpenSpec.ofChange xmlIgnoresWrong)

/-- 'captionerlaw20.XmlText': WHATEVER THE INPUT: true; the input reads as it did. -/
def xmlTextSpec : ChangeSpec := { name := "xmlText", fn := fun _ => fun
  | [d] => { results := [.lit (.bool true)], args := [d] }
  | _ => none }
def xmlTextRow : OpenClaim := { program := "ytihkkflfdblpcaagreatdoor", sum := "914a07f9f3e3f20d409644f419253d39f2118b25e89efcacc0bc2b855d23ca6e", func := "captioner/captionerlaw20.XmlText", spec := "xmlText", inPlace := ["internal/bytealg.CountString", "internal/bytealg.IndexByteString", "internal/bytealg.IndexString", "sync/atomic.LoadUint32", "(*internal/sync.Mutex).Lock", "internal/race.Disable", "sync/atomic.CompareAndSwapInt32", "internal/race.Enable", "internal/race.Acquire", "(*internal/sync.Mutex).lockSlow", "internal/sync.runtime_canSpin", "internal/sync.runtime_doSpin", "internal/sync.throw", "internal/sync.runtime_nanotime", "internal/sync.runtime_SemacquireMutex", "sync/atomic.AddInt32", "(*internal/sync.Mutex).Unlock", "internal/race.ReleaseMerge", "(*internal/sync.Mutex).unlockSlow", "internal/sync.fatal", "internal/sync.runtime_Semrelease", "sync/atomic.StoreUint32", "internal/abi.NoEscape", "internal/bytealg.MakeNoZero"], unfollowed := true, recurses := true, named := ["internal/bytealg.MaxLen", "unicode/utf8.first", "unicode/utf8.acceptRanges", "captioner/xml.entities"], apart := false, laid := [("unicode/utf8.acceptRanges", laid_unicode_utf8_acceptRanges), ("captioner/xml.entities", laid_captioner_xml_entities), ("unicode/utf8.first", laid_unicode_utf8_first)] }
def XmlTextSaid : Prop := xmlTextRow.holds Tryz.pinned (OpenSpec.ofChange xmlTextSpec)

/-- ITS FALSE NEIGHBOUR: 'it returns false'. Refute it at one input. -/
def xmlTextWrong : ChangeSpec := { name := "xmlText", fn := fun _ => fun
  | [d] => { results := [.lit (.bool false)], args := [d] }
  | _ => none }
def XmlTextWrongFalsely : Prop := xmlTextRow.holds Tryz.pinned (OpenSpec.ofChange xmlTextWrong)

/-- 'captionerlaw20.XmlCovers': WHATEVER THE INPUT: true; the input reads as it did. -/
def xmlCoversSpec : ChangeSpec := { name := "xmlCovers", fn := fun _ => fun
  | [d] => { results := [.lit (.bool true)], args := [d] }
  | _ => none }
def xmlCoversRow : OpenClaim := { program := "ytihkkflfdblpcaagreatdoor", sum := "914a07f9f3e3f20d409644f419253d39f2118b25e89efcacc0bc2b855d23ca6e", func := "captioner/captionerlaw20.XmlCovers", spec := "xmlCovers", inPlace := ["internal/bytealg.CountString", "internal/bytealg.IndexByteString", "internal/bytealg.IndexString", "sync/atomic.LoadUint32", "(*internal/sync.Mutex).Lock", "internal/race.Disable", "sync/atomic.CompareAndSwapInt32", "internal/race.Enable", "internal/race.Acquire", "(*internal/sync.Mutex).lockSlow", "internal/sync.runtime_canSpin", "internal/sync.runtime_doSpin", "internal/sync.throw", "internal/sync.runtime_nanotime", "internal/sync.runtime_SemacquireMutex", "sync/atomic.AddInt32", "(*internal/sync.Mutex).Unlock", "internal/race.ReleaseMerge", "(*internal/sync.Mutex).unlockSlow", "internal/sync.fatal", "internal/sync.runtime_Semrelease", "sync/atomic.StoreUint32", "internal/abi.NoEscape", "internal/bytealg.MakeNoZero"], unfollowed := true, recurses := true, named := ["internal/bytealg.MaxLen", "unicode/utf8.first", "unicode/utf8.acceptRanges", "captioner/xml.entities"], apart := false, laid := [("unicode/utf8.acceptRanges", laid_unicode_utf8_acceptRanges), ("captioner/xml.entities", laid_captioner_xml_entities), ("unicode/utf8.first", laid_unicode_utf8_first)] }
def XmlCoversSaid : Prop := xmlCoversRow.holds Tryz.pinned (OpenSpec.ofChange xmlCoversSpec)

/-- ITS FALSE NEIGHBOUR: 'it returns false'. Refute it at one input. -/
def xmlCoversWrong : ChangeSpec := { name := "xmlCovers", fn := fun _ => fun
  | [d] => { results := [.lit (.bool false)], args := [d] }
  | _ => none }
def XmlCoversWrongFalsely : Prop := xmlCoversRow.holds Tryz.pinned (OpenSpec.ofChange xmlCoversWrong)

/-- 'captionerlaw20.XmlLooks': WHATEVER THE INPUT: true; the input reads as it did. -/
def xmlLooksSpec : ChangeSpec := { name := "xmlLooks", fn := fun _ => fun
  | [d1, d2, d3] => { results := [.lit (.bool true)], args := [d1, d2, d3] }
  | _ => none }
def xmlLooksRow : OpenClaim := { program := "ytihkkflfdblpcaagreatdoor", sum := "914a07f9f3e3f20d409644f419253d39f2118b25e89efcacc0bc2b855d23ca6e", func := "captioner/captionerlaw20.XmlLooks", spec := "xmlLooks", inPlace := ["internal/bytealg.CountString", "internal/bytealg.IndexByteString", "internal/bytealg.IndexString", "sync/atomic.LoadUint32", "(*internal/sync.Mutex).Lock", "internal/race.Disable", "sync/atomic.CompareAndSwapInt32", "internal/race.Enable", "internal/race.Acquire", "(*internal/sync.Mutex).lockSlow", "internal/sync.runtime_canSpin", "internal/sync.runtime_doSpin", "internal/sync.throw", "internal/sync.runtime_nanotime", "internal/sync.runtime_SemacquireMutex", "sync/atomic.AddInt32", "(*internal/sync.Mutex).Unlock", "internal/race.ReleaseMerge", "(*internal/sync.Mutex).unlockSlow", "internal/sync.fatal", "internal/sync.runtime_Semrelease", "sync/atomic.StoreUint32", "internal/abi.NoEscape", "internal/bytealg.MakeNoZero"], unfollowed := true, recurses := true, named := ["internal/bytealg.MaxLen", "unicode/utf8.first", "unicode/utf8.acceptRanges", "captioner/xml.entities"], apart := false, laid := [("unicode/utf8.acceptRanges", laid_unicode_utf8_acceptRanges), ("captioner/xml.entities", laid_captioner_xml_entities), ("unicode/utf8.first", laid_unicode_utf8_first)] }
def XmlLooksSaid : Prop := xmlLooksRow.holds Tryz.pinned (OpenSpec.ofChange xmlLooksSpec)

/-- ITS FALSE NEIGHBOUR: 'it returns false'. Refute it at one input. -/
def xmlLooksWrong : ChangeSpec := { name := "xmlLooks", fn := fun _ => fun
  | [d1, d2, d3] => { results := [.lit (.bool false)], args := [d1, d2, d3] }
  | _ => none }
def XmlLooksWrongFalsely : Prop := xmlLooksRow.holds Tryz.pinned (OpenSpec.ofChange xmlLooksWrong)

/- THE SECOND FORM. 'bulk': how many values and letters a reading holds, each counted each time it is reached (what is shared counts as often as it is met; a slice's spare places count too). A statement '..UptoSaid' is the law's where the arguments, and the package variables that the reading takes, are together of bulk at most 1048576: NARROWER than '..Said'. Prove '..Said' where nothing that the law and all that it calls make is longer than what came in: it says more and counts as full. Else prove '..UptoSaid'. A law counts once. -/
mutual
def uptoBulk {H : Type} : DataW H → Nat
  | .lit (.string bytes) => bytes.length + 1
  | .lit _ => 1
  | .nil => 1
  | .ptr d => uptoBulk d + 1
  | .slice elems spare => uptoBulkAll elems + uptoBulkAll spare + 1
  | .agg parts => uptoBulkAll parts + 1
  | .iface _ d => uptoBulk d + 1
  | .map entries => uptoBulkEntries entries + 1
  | .held _ => 1
def uptoBulkAll {H : Type} : List (DataW H) → Nat
  | [] => 0
  | d :: r => uptoBulk d + uptoBulkAll r
def uptoBulkEntries {H : Type} : List (Lit × DataW H) → Nat
  | [] => 0
  | x :: r => uptoBulkEntry x + uptoBulkEntries r
def uptoBulkEntry {H : Type} : Lit × DataW H → Nat
  | (.string bytes, d) => bytes.length + uptoBulk d + 1
  | (_, d) => uptoBulk d + 1
 end
def uptoSmall : (H : Type) → List (DataW H) → Bool := fun _ ds => decide (uptoBulkAll ds ≤ 1048576)
def OpenSpec.upto (s : _root_.Go.ChangeSpec) : _root_.Go.OpenSpec := { _root_.Go.OpenSpec.ofChange s with cond := some uptoSmall }

/-- 'captionerlaw20.XmlEscapes', WHERE WHAT IT READS IS OF BULK AT MOST 1048576: true; the input reads as it did. -/
def xmlEscapesUptoRow : OpenClaim := { program := "ytihkkflfdblpcaagreatdoor", sum := "914a07f9f3e3f20d409644f419253d39f2118b25e89efcacc0bc2b855d23ca6e", func := "captioner/captionerlaw20.XmlEscapes", spec := "xmlEscapes", inPlace := ["internal/bytealg.CountString", "internal/bytealg.IndexByteString", "internal/bytealg.IndexString", "sync/atomic.LoadUint32", "(*internal/sync.Mutex).Lock", "internal/race.Disable", "sync/atomic.CompareAndSwapInt32", "internal/race.Enable", "internal/race.Acquire", "(*internal/sync.Mutex).lockSlow", "internal/sync.runtime_canSpin", "internal/sync.runtime_doSpin", "internal/sync.throw", "internal/sync.runtime_nanotime", "internal/sync.runtime_SemacquireMutex", "sync/atomic.AddInt32", "(*internal/sync.Mutex).Unlock", "internal/race.ReleaseMerge", "(*internal/sync.Mutex).unlockSlow", "internal/sync.fatal", "internal/sync.runtime_Semrelease", "sync/atomic.StoreUint32", "internal/abi.NoEscape", "internal/bytealg.MakeNoZero"], unfollowed := true, recurses := true, named := ["internal/bytealg.MaxLen", "unicode/utf8.first", "unicode/utf8.acceptRanges", "captioner/xml.entities"], apart := false, laid := [("unicode/utf8.acceptRanges", laid_unicode_utf8_acceptRanges), ("captioner/xml.entities", laid_captioner_xml_entities), ("unicode/utf8.first", laid_unicode_utf8_first)], narrowed := true }
def XmlEscapesUptoSaid : Prop := xmlEscapesUptoRow.holds Tryz.pinned (OpenSpec.upto xmlEscapesSpec)

/-- 'captionerlaw20.XmlUnescapes', WHERE WHAT IT READS IS OF BULK AT MOST 1048576: true; the input reads as it did. -/
def xmlUnescapesUptoRow : OpenClaim := { program := "ytihkkflfdblpcaagreatdoor", sum := "914a07f9f3e3f20d409644f419253d39f2118b25e89efcacc0bc2b855d23ca6e", func := "captioner/captionerlaw20.XmlUnescapes", spec := "xmlUnescapes", inPlace := ["internal/bytealg.CountString", "internal/bytealg.IndexByteString", "internal/bytealg.IndexString", "sync/atomic.LoadUint32", "(*internal/sync.Mutex).Lock", "internal/race.Disable", "sync/atomic.CompareAndSwapInt32", "internal/race.Enable", "internal/race.Acquire", "(*internal/sync.Mutex).lockSlow", "internal/sync.runtime_canSpin", "internal/sync.runtime_doSpin", "internal/sync.throw", "internal/sync.runtime_nanotime", "internal/sync.runtime_SemacquireMutex", "sync/atomic.AddInt32", "(*internal/sync.Mutex).Unlock", "internal/race.ReleaseMerge", "(*internal/sync.Mutex).unlockSlow", "internal/sync.fatal", "internal/sync.runtime_Semrelease", "sync/atomic.StoreUint32", "internal/abi.NoEscape", "internal/bytealg.MakeNoZero"], unfollowed := true, recurses := true, named := ["internal/bytealg.MaxLen", "unicode/utf8.first", "unicode/utf8.acceptRanges", "captioner/xml.entities"], apart := false, laid := [("unicode/utf8.acceptRanges", laid_unicode_utf8_acceptRanges), ("captioner/xml.entities", laid_captioner_xml_entities), ("unicode/utf8.first", laid_unicode_utf8_first)], narrowed := true }
def XmlUnescapesUptoSaid : Prop := xmlUnescapesUptoRow.holds Tryz.pinned (OpenSpec.upto xmlUnescapesSpec)

/-- 'captionerlaw20.XmlChecks', WHERE WHAT IT READS IS OF BULK AT MOST 1048576: true; the input reads as it did. -/
def xmlChecksUptoRow : OpenClaim := { program := "ytihkkflfdblpcaagreatdoor", sum := "914a07f9f3e3f20d409644f419253d39f2118b25e89efcacc0bc2b855d23ca6e", func := "captioner/captionerlaw20.XmlChecks", spec := "xmlChecks", inPlace := ["internal/bytealg.CountString", "internal/bytealg.IndexByteString", "internal/bytealg.IndexString", "sync/atomic.LoadUint32", "(*internal/sync.Mutex).Lock", "internal/race.Disable", "sync/atomic.CompareAndSwapInt32", "internal/race.Enable", "internal/race.Acquire", "(*internal/sync.Mutex).lockSlow", "internal/sync.runtime_canSpin", "internal/sync.runtime_doSpin", "internal/sync.throw", "internal/sync.runtime_nanotime", "internal/sync.runtime_SemacquireMutex", "sync/atomic.AddInt32", "(*internal/sync.Mutex).Unlock", "internal/race.ReleaseMerge", "(*internal/sync.Mutex).unlockSlow", "internal/sync.fatal", "internal/sync.runtime_Semrelease", "sync/atomic.StoreUint32", "internal/abi.NoEscape", "internal/bytealg.MakeNoZero"], unfollowed := true, recurses := true, named := ["internal/bytealg.MaxLen", "unicode/utf8.first", "unicode/utf8.acceptRanges", "captioner/xml.entities"], apart := false, laid := [("unicode/utf8.acceptRanges", laid_unicode_utf8_acceptRanges), ("captioner/xml.entities", laid_captioner_xml_entities), ("unicode/utf8.first", laid_unicode_utf8_first)], narrowed := true }
def XmlChecksUptoSaid : Prop := xmlChecksUptoRow.holds Tryz.pinned (OpenSpec.upto xmlChecksSpec)

/-- 'captionerlaw20.XmlParses', WHERE WHAT IT READS IS OF BULK AT MOST 1048576: true; the input reads as it did. -/
def xmlParsesUptoRow : OpenClaim := { program := "ytihkkflfdblpcaagreatdoor", sum := "914a07f9f3e3f20d409644f419253d39f2118b25e89efcacc0bc2b855d23ca6e", func := "captioner/captionerlaw20.XmlParses", spec := "xmlParses", inPlace := ["internal/bytealg.CountString", "internal/bytealg.IndexByteString", "internal/bytealg.IndexString", "sync/atomic.LoadUint32", "(*internal/sync.Mutex).Lock", "internal/race.Disable", "sync/atomic.CompareAndSwapInt32", "internal/race.Enable", "internal/race.Acquire", "(*internal/sync.Mutex).lockSlow", "internal/sync.runtime_canSpin", "internal/sync.runtime_doSpin", "internal/sync.throw", "internal/sync.runtime_nanotime", "internal/sync.runtime_SemacquireMutex", "sync/atomic.AddInt32", "(*internal/sync.Mutex).Unlock", "internal/race.ReleaseMerge", "(*internal/sync.Mutex).unlockSlow", "internal/sync.fatal", "internal/sync.runtime_Semrelease", "sync/atomic.StoreUint32", "internal/abi.NoEscape", "internal/bytealg.MakeNoZero"], unfollowed := true, recurses := true, named := ["internal/bytealg.MaxLen", "unicode/utf8.first", "unicode/utf8.acceptRanges", "captioner/xml.entities"], apart := false, laid := [("unicode/utf8.acceptRanges", laid_unicode_utf8_acceptRanges), ("captioner/xml.entities", laid_captioner_xml_entities), ("unicode/utf8.first", laid_unicode_utf8_first)], narrowed := true }
def XmlParsesUptoSaid : Prop := xmlParsesUptoRow.holds Tryz.pinned (OpenSpec.upto xmlParsesSpec)

/-- 'captionerlaw20.XmlReturns', WHERE WHAT IT READS IS OF BULK AT MOST 1048576: true; the input reads as it did. -/
def xmlReturnsUptoRow : OpenClaim := { program := "ytihkkflfdblpcaagreatdoor", sum := "914a07f9f3e3f20d409644f419253d39f2118b25e89efcacc0bc2b855d23ca6e", func := "captioner/captionerlaw20.XmlReturns", spec := "xmlReturns", inPlace := ["internal/bytealg.CountString", "internal/bytealg.IndexByteString", "internal/bytealg.IndexString", "sync/atomic.LoadUint32", "(*internal/sync.Mutex).Lock", "internal/race.Disable", "sync/atomic.CompareAndSwapInt32", "internal/race.Enable", "internal/race.Acquire", "(*internal/sync.Mutex).lockSlow", "internal/sync.runtime_canSpin", "internal/sync.runtime_doSpin", "internal/sync.throw", "internal/sync.runtime_nanotime", "internal/sync.runtime_SemacquireMutex", "sync/atomic.AddInt32", "(*internal/sync.Mutex).Unlock", "internal/race.ReleaseMerge", "(*internal/sync.Mutex).unlockSlow", "internal/sync.fatal", "internal/sync.runtime_Semrelease", "sync/atomic.StoreUint32", "internal/abi.NoEscape", "internal/bytealg.MakeNoZero"], unfollowed := true, recurses := true, named := ["internal/bytealg.MaxLen", "unicode/utf8.first", "unicode/utf8.acceptRanges", "captioner/xml.entities"], apart := false, laid := [("unicode/utf8.acceptRanges", laid_unicode_utf8_acceptRanges), ("captioner/xml.entities", laid_captioner_xml_entities), ("unicode/utf8.first", laid_unicode_utf8_first)], narrowed := true }
def XmlReturnsUptoSaid : Prop := xmlReturnsUptoRow.holds Tryz.pinned (OpenSpec.upto xmlReturnsSpec)

/-- 'captionerlaw20.XmlValid', WHERE WHAT IT READS IS OF BULK AT MOST 1048576: true; the input reads as it did. -/
def xmlValidUptoRow : OpenClaim := { program := "ytihkkflfdblpcaagreatdoor", sum := "914a07f9f3e3f20d409644f419253d39f2118b25e89efcacc0bc2b855d23ca6e", func := "captioner/captionerlaw20.XmlValid", spec := "xmlValid", inPlace := ["internal/bytealg.CountString", "internal/bytealg.IndexByteString", "internal/bytealg.IndexString", "sync/atomic.LoadUint32", "(*internal/sync.Mutex).Lock", "internal/race.Disable", "sync/atomic.CompareAndSwapInt32", "internal/race.Enable", "internal/race.Acquire", "(*internal/sync.Mutex).lockSlow", "internal/sync.runtime_canSpin", "internal/sync.runtime_doSpin", "internal/sync.throw", "internal/sync.runtime_nanotime", "internal/sync.runtime_SemacquireMutex", "sync/atomic.AddInt32", "(*internal/sync.Mutex).Unlock", "internal/race.ReleaseMerge", "(*internal/sync.Mutex).unlockSlow", "internal/sync.fatal", "internal/sync.runtime_Semrelease", "sync/atomic.StoreUint32", "internal/abi.NoEscape", "internal/bytealg.MakeNoZero"], unfollowed := true, recurses := true, named := ["internal/bytealg.MaxLen", "unicode/utf8.first", "unicode/utf8.acceptRanges", "captioner/xml.entities"], apart := false, laid := [("unicode/utf8.acceptRanges", laid_unicode_utf8_acceptRanges), ("captioner/xml.entities", laid_captioner_xml_entities), ("unicode/utf8.first", laid_unicode_utf8_first)], narrowed := true }
def XmlValidUptoSaid : Prop := xmlValidUptoRow.holds Tryz.pinned (OpenSpec.upto xmlValidSpec)

/-- 'captionerlaw20.XmlIgnores', WHERE WHAT IT READS IS OF BULK AT MOST 1048576: true; the input reads as it did. -/
def xmlIgnoresUptoRow : OpenClaim := { program := "ytihkkflfdblpcaagreatdoor", sum := "914a07f9f3e3f20d409644f419253d39f2118b25e89efcacc0bc2b855d23ca6e", func := "captioner/captionerlaw20.XmlIgnores", spec := "xmlIgnores", inPlace := ["internal/bytealg.CountString", "internal/bytealg.IndexByteString", "internal/bytealg.IndexString", "sync/atomic.LoadUint32", "(*internal/sync.Mutex).Lock", "internal/race.Disable", "sync/atomic.CompareAndSwapInt32", "internal/race.Enable", "internal/race.Acquire", "(*internal/sync.Mutex).lockSlow", "internal/sync.runtime_canSpin", "internal/sync.runtime_doSpin", "internal/sync.throw", "internal/sync.runtime_nanotime", "internal/sync.runtime_SemacquireMutex", "sync/atomic.AddInt32", "(*internal/sync.Mutex).Unlock", "internal/race.ReleaseMerge", "(*internal/sync.Mutex).unlockSlow", "internal/sync.fatal", "internal/sync.runtime_Semrelease", "sync/atomic.StoreUint32", "internal/abi.NoEscape", "internal/bytealg.MakeNoZero"], unfollowed := true, recurses := true, named := ["internal/bytealg.MaxLen", "unicode/utf8.first", "unicode/utf8.acceptRanges", "captioner/xml.entities"], apart := false, laid := [("unicode/utf8.acceptRanges", laid_unicode_utf8_acceptRanges), ("captioner/xml.entities", laid_captioner_xml_entities), ("unicode/utf8.first", laid_unicode_utf8_first)], narrowed := true }
def XmlIgnoresUptoSaid : Prop := xmlIgnoresUptoRow.holds Tryz.pinned (OpenSpec.upto xmlIgnoresSpec)

/-- 'captionerlaw20.XmlText', WHERE WHAT IT READS IS OF BULK AT MOST 1048576: true; the input reads as it did. -/
def xmlTextUptoRow : OpenClaim := { program := "ytihkkflfdblpcaagreatdoor", sum := "914a07f9f3e3f20d409644f419253d39f2118b25e89efcacc0bc2b855d23ca6e", func := "captioner/captionerlaw20.XmlText", spec := "xmlText", inPlace := ["internal/bytealg.CountString", "internal/bytealg.IndexByteString", "internal/bytealg.IndexString", "sync/atomic.LoadUint32", "(*internal/sync.Mutex).Lock", "internal/race.Disable", "sync/atomic.CompareAndSwapInt32", "internal/race.Enable", "internal/race.Acquire", "(*internal/sync.Mutex).lockSlow", "internal/sync.runtime_canSpin", "internal/sync.runtime_doSpin", "internal/sync.throw", "internal/sync.runtime_nanotime", "internal/sync.runtime_SemacquireMutex", "sync/atomic.AddInt32", "(*internal/sync.Mutex).Unlock", "internal/race.ReleaseMerge", "(*internal/sync.Mutex).unlockSlow", "internal/sync.fatal", "internal/sync.runtime_Semrelease", "sync/atomic.StoreUint32", "internal/abi.NoEscape", "internal/bytealg.MakeNoZero"], unfollowed := true, recurses := true, named := ["internal/bytealg.MaxLen", "unicode/utf8.first", "unicode/utf8.acceptRanges", "captioner/xml.entities"], apart := false, laid := [("unicode/utf8.acceptRanges", laid_unicode_utf8_acceptRanges), ("captioner/xml.entities", laid_captioner_xml_entities), ("unicode/utf8.first", laid_unicode_utf8_first)], narrowed := true }
def XmlTextUptoSaid : Prop := xmlTextUptoRow.holds Tryz.pinned (OpenSpec.upto xmlTextSpec)

/-- 'captionerlaw20.XmlCovers', WHERE WHAT IT READS IS OF BULK AT MOST 1048576: true; the input reads as it did. -/
def xmlCoversUptoRow : OpenClaim := { program := "ytihkkflfdblpcaagreatdoor", sum := "914a07f9f3e3f20d409644f419253d39f2118b25e89efcacc0bc2b855d23ca6e", func := "captioner/captionerlaw20.XmlCovers", spec := "xmlCovers", inPlace := ["internal/bytealg.CountString", "internal/bytealg.IndexByteString", "internal/bytealg.IndexString", "sync/atomic.LoadUint32", "(*internal/sync.Mutex).Lock", "internal/race.Disable", "sync/atomic.CompareAndSwapInt32", "internal/race.Enable", "internal/race.Acquire", "(*internal/sync.Mutex).lockSlow", "internal/sync.runtime_canSpin", "internal/sync.runtime_doSpin", "internal/sync.throw", "internal/sync.runtime_nanotime", "internal/sync.runtime_SemacquireMutex", "sync/atomic.AddInt32", "(*internal/sync.Mutex).Unlock", "internal/race.ReleaseMerge", "(*internal/sync.Mutex).unlockSlow", "internal/sync.fatal", "internal/sync.runtime_Semrelease", "sync/atomic.StoreUint32", "internal/abi.NoEscape", "internal/bytealg.MakeNoZero"], unfollowed := true, recurses := true, named := ["internal/bytealg.MaxLen", "unicode/utf8.first", "unicode/utf8.acceptRanges", "captioner/xml.entities"], apart := false, laid := [("unicode/utf8.acceptRanges", laid_unicode_utf8_acceptRanges), ("captioner/xml.entities", laid_captioner_xml_entities), ("unicode/utf8.first", laid_unicode_utf8_first)], narrowed := true }
def XmlCoversUptoSaid : Prop := xmlCoversUptoRow.holds Tryz.pinned (OpenSpec.upto xmlCoversSpec)

/-- 'captionerlaw20.XmlLooks', WHERE WHAT IT READS IS OF BULK AT MOST 1048576: true; the input reads as it did. -/
def xmlLooksUptoRow : OpenClaim := { program := "ytihkkflfdblpcaagreatdoor", sum := "914a07f9f3e3f20d409644f419253d39f2118b25e89efcacc0bc2b855d23ca6e", func := "captioner/captionerlaw20.XmlLooks", spec := "xmlLooks", inPlace := ["internal/bytealg.CountString", "internal/bytealg.IndexByteString", "internal/bytealg.IndexString", "sync/atomic.LoadUint32", "(*internal/sync.Mutex).Lock", "internal/race.Disable", "sync/atomic.CompareAndSwapInt32", "internal/race.Enable", "internal/race.Acquire", "(*internal/sync.Mutex).lockSlow", "internal/sync.runtime_canSpin", "internal/sync.runtime_doSpin", "internal/sync.throw", "internal/sync.runtime_nanotime", "internal/sync.runtime_SemacquireMutex", "sync/atomic.AddInt32", "(*internal/sync.Mutex).Unlock", "internal/race.ReleaseMerge", "(*internal/sync.Mutex).unlockSlow", "internal/sync.fatal", "internal/sync.runtime_Semrelease", "sync/atomic.StoreUint32", "internal/abi.NoEscape", "internal/bytealg.MakeNoZero"], unfollowed := true, recurses := true, named := ["internal/bytealg.MaxLen", "unicode/utf8.first", "unicode/utf8.acceptRanges", "captioner/xml.entities"], apart := false, laid := [("unicode/utf8.acceptRanges", laid_unicode_utf8_acceptRanges), ("captioner/xml.entities", laid_captioner_xml_entities), ("unicode/utf8.first", laid_unicode_utf8_first)], narrowed := true }
def XmlLooksUptoSaid : Prop := xmlLooksUptoRow.holds Tryz.pinned (OpenSpec.upto xmlLooksSpec)

end Rows
end Go.Proofs.YtihkkflfdblpcaaGreatDoor
