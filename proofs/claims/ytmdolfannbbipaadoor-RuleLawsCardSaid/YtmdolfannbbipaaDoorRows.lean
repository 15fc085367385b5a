/-
  NARROWER THAN 'FOR EVERY INPUT', by the rows' own cells (each row's printed sentence says how): RuleChecks: laid · RulePrints: laid · RuleBack: laid · RuleKnown: laid · RuleLaws: laid · RuleDeep: laid · SurveySums: laid · SurveyPrints: laid · SurveyBack: laid · SurveyReads: laid.
  DERIVED. THE GIVEN ROWS OF THIS SEAT. 10 by the template 'for every input the law returns true; each argument reads behind the call as it read before'; 0 by the template 'total and deterministic' (their statements: YtmdolfannbbipaaDoorTotals.lean).
  GIVEN WITH THE SEED: the statements are not yours to turn. If you find one false, say at which input.
  Laid BY PROGRAM, IN A SANDBOX (cutbox-rows.mjs): the forced cells as the released guide's own fill.sh prints them over the translation a23e3af2a4aeca58… (all of the seat's roots in one cut). By AI agents, Wed Nov 11 2026. No macro, syntax, notation, axiom, sorry.
-/
import Derived.Test.YtmdolfannbbipaaDoorChecked
import GoSem.PinnedTables
import GoSem.Claim
import GoSem.ClaimJoined
import GoSem.ClaimMapViews
import Derived.JoinedTies
import Derived.KernelRfl
namespace Go.Proofs.YtmdolfannbbipaaDoor
/- THE CELL 'sum', in the pinned program and in every row, IS THE sha256 OF THE DUMP (.gsa) THAT YtmdolfannbbipaaDoorProg.lean LOADS. Nothing in Lean hashes anything: it is a label: what it is worth is what the hold of that sum in a sandbox is worth. -/
noncomputable def Tryd.pinned : Pinned := { name := "ytmdolfannbbipaadoor", sum := "a23e3af2a4aeca58bc81328019feefb68f4e10d74aec04134591bbb0b102dd34", checked := Tryd.checked }
namespace Rows
def none {H : Type} : Left H := { results := [], args := [] }

/- WHAT THE LISTED PACKAGE-LEVEL VARIABLES READ AS WHEN THE CALL BEGINS. Each datum BY PROGRAM (the guide's laid-datum.mjs) off the statement by which the dump's own 'gosem.cut.vars' lays the variable. In a bare row this is a premise. The card (YtmdolfannbbipaaDoorCards.lean) ties it to the program's text. -/
def laid_math_bits_deBruijn32tab {H : Type} : DataW H := .agg [.lit (.int .u8 0), .lit (.int .u8 1), .lit (.int .u8 28), .lit (.int .u8 2), .lit (.int .u8 29), .lit (.int .u8 14), .lit (.int .u8 24), .lit (.int .u8 3), .lit (.int .u8 30), .lit (.int .u8 22), .lit (.int .u8 20), .lit (.int .u8 15), .lit (.int .u8 25), .lit (.int .u8 17), .lit (.int .u8 4), .lit (.int .u8 8), .lit (.int .u8 31), .lit (.int .u8 27), .lit (.int .u8 13), .lit (.int .u8 23), .lit (.int .u8 21), .lit (.int .u8 19), .lit (.int .u8 16), .lit (.int .u8 7), .lit (.int .u8 26), .lit (.int .u8 12), .lit (.int .u8 18), .lit (.int .u8 6), .lit (.int .u8 11), .lit (.int .u8 5), .lit (.int .u8 10), .lit (.int .u8 9)]
def laid_math_bits_deBruijn64tab {H : Type} : DataW H := .agg [.lit (.int .u8 0), .lit (.int .u8 1), .lit (.int .u8 56), .lit (.int .u8 2), .lit (.int .u8 57), .lit (.int .u8 49), .lit (.int .u8 28), .lit (.int .u8 3), .lit (.int .u8 61), .lit (.int .u8 58), .lit (.int .u8 42), .lit (.int .u8 50), .lit (.int .u8 38), .lit (.int .u8 29), .lit (.int .u8 17), .lit (.int .u8 4), .lit (.int .u8 62), .lit (.int .u8 47), .lit (.int .u8 59), .lit (.int .u8 36), .lit (.int .u8 45), .lit (.int .u8 43), .lit (.int .u8 51), .lit (.int .u8 22), .lit (.int .u8 53), .lit (.int .u8 39), .lit (.int .u8 33), .lit (.int .u8 30), .lit (.int .u8 24), .lit (.int .u8 18), .lit (.int .u8 12), .lit (.int .u8 5), .lit (.int .u8 63), .lit (.int .u8 55), .lit (.int .u8 48), .lit (.int .u8 27), .lit (.int .u8 60), .lit (.int .u8 41), .lit (.int .u8 37), .lit (.int .u8 16), .lit (.int .u8 46), .lit (.int .u8 35), .lit (.int .u8 44), .lit (.int .u8 21), .lit (.int .u8 52), .lit (.int .u8 32), .lit (.int .u8 23), .lit (.int .u8 11), .lit (.int .u8 54), .lit (.int .u8 26), .lit (.int .u8 40), .lit (.int .u8 15), .lit (.int .u8 34), .lit (.int .u8 20), .lit (.int .u8 31), .lit (.int .u8 10), .lit (.int .u8 25), .lit (.int .u8 14), .lit (.int .u8 19), .lit (.int .u8 9), .lit (.int .u8 13), .lit (.int .u8 8), .lit (.int .u8 7), .lit (.int .u8 6)]
def laid_internal_strconv_uint64pow10 {H : Type} : DataW H := .agg [.lit (.int .u64 1), .lit (.int .u64 10), .lit (.int .u64 100), .lit (.int .u64 1000), .lit (.int .u64 10000), .lit (.int .u64 100000), .lit (.int .u64 1000000), .lit (.int .u64 10000000), .lit (.int .u64 100000000), .lit (.int .u64 1000000000), .lit (.int .u64 10000000000), .lit (.int .u64 100000000000), .lit (.int .u64 1000000000000), .lit (.int .u64 10000000000000), .lit (.int .u64 100000000000000), .lit (.int .u64 1000000000000000), .lit (.int .u64 10000000000000000), .lit (.int .u64 100000000000000000), .lit (.int .u64 1000000000000000000), .lit (.int .u64 10000000000000000000)]
def laid_strconv_ErrRange {H : Type} : DataW H := .iface "*errors.errorString" (.ptr (.agg [.lit (.string [118, 97, 108, 117, 101, 32, 111, 117, 116, 32, 111, 102, 32, 114, 97, 110, 103, 101])]))
def laid_strconv_ErrSyntax {H : Type} : DataW H := .iface "*errors.errorString" (.ptr (.agg [.lit (.string [105, 110, 118, 97, 108, 105, 100, 32, 115, 121, 110, 116, 97, 120])]))
def laid_unicode_utf8_acceptRanges {H : Type} : DataW H := .agg [.agg [.lit (.int .u8 128), .lit (.int .u8 191)], .agg [.lit (.int .u8 160), .lit (.int .u8 191)], .agg [.lit (.int .u8 128), .lit (.int .u8 159)], .agg [.lit (.int .u8 144), .lit (.int .u8 191)], .agg [.lit (.int .u8 128), .lit (.int .u8 143)], .agg [.lit (.int .u8 0), .lit (.int .u8 0)], .agg [.lit (.int .u8 0), .lit (.int .u8 0)], .agg [.lit (.int .u8 0), .lit (.int .u8 0)], .agg [.lit (.int .u8 0), .lit (.int .u8 0)], .agg [.lit (.int .u8 0), .lit (.int .u8 0)], .agg [.lit (.int .u8 0), .lit (.int .u8 0)], .agg [.lit (.int .u8 0), .lit (.int .u8 0)], .agg [.lit (.int .u8 0), .lit (.int .u8 0)], .agg [.lit (.int .u8 0), .lit (.int .u8 0)], .agg [.lit (.int .u8 0), .lit (.int .u8 0)], .agg [.lit (.int .u8 0), .lit (.int .u8 0)]]
/-- One of Go's own tables, pinned by name: the form's constant. -/
def laid_unicode_utf8_first : DataW Unit := Go.Pinned.utf8First

/-- 'minecontrollaw19.RuleChecks': WHATEVER THE INPUT: true; the input reads as it did. -/
def ruleChecksSpec : ChangeSpec := { name := "ruleChecks", fn := fun _ => fun
  | [d1, d2, d3, d4, d5, d6] => { results := [.lit (.bool true)], args := [d1, d2, d3, d4, d5, d6] }
  | _ => none }
def ruleChecksRow : OpenClaim := { program := "ytmdolfannbbipaadoor", sum := "a23e3af2a4aeca58bc81328019feefb68f4e10d74aec04134591bbb0b102dd34", func := "minecontrol/minecontrollaw19.RuleChecks", spec := "ruleChecks", unfollowed := true, recurses := true, named := ["strconv.ErrSyntax", "strconv.ErrRange", "internal/strconv.uint64pow10", "math/bits.deBruijn32tab", "math/bits.deBruijn64tab"], apart := false, laid := [("math/bits.deBruijn32tab", laid_math_bits_deBruijn32tab), ("math/bits.deBruijn64tab", laid_math_bits_deBruijn64tab), ("internal/strconv.uint64pow10", laid_internal_strconv_uint64pow10), ("strconv.ErrRange", laid_strconv_ErrRange), ("strconv.ErrSyntax", laid_strconv_ErrSyntax)] }
def RuleChecksSaid : Prop := ruleChecksRow.holds Tryd.pinned (OpenSpec.ofChange ruleChecksSpec)

/-- ITS FALSE NEIGHBOUR: 'it returns false'. Refute it at one input. -/
def ruleChecksWrong : ChangeSpec := { name := "ruleChecks", fn := fun _ => fun
  | [d1, d2, d3, d4, d5, d6] => { results := [.lit (.bool false)], args := [d1, d2, d3, d4, d5, d6] }
  | _ => none }
def RuleChecksWrongFalsely : Prop := ruleChecksRow.holds Tryd.pinned (OpenSpec.ofChange ruleChecksWrong)

/-- 'minecontrollaw19.RulePrints': WHATEVER THE INPUT: true; the input reads as it did. -/
def rulePrintsSpec : ChangeSpec := { name := "rulePrints", fn := fun _ => fun
  | [d1, d2, d3, d4] => { results := [.lit (.bool true)], args := [d1, d2, d3, d4] }
  | _ => none }
def rulePrintsRow : OpenClaim := { program := "ytmdolfannbbipaadoor", sum := "a23e3af2a4aeca58bc81328019feefb68f4e10d74aec04134591bbb0b102dd34", func := "minecontrol/minecontrollaw19.RulePrints", spec := "rulePrints", unfollowed := true, recurses := true, named := ["internal/strconv.uint64pow10", "math/bits.deBruijn32tab", "math/bits.deBruijn64tab", "strconv.ErrSyntax", "strconv.ErrRange"], apart := false, laid := [("math/bits.deBruijn32tab", laid_math_bits_deBruijn32tab), ("math/bits.deBruijn64tab", laid_math_bits_deBruijn64tab), ("internal/strconv.uint64pow10", laid_internal_strconv_uint64pow10), ("strconv.ErrRange", laid_strconv_ErrRange), ("strconv.ErrSyntax", laid_strconv_ErrSyntax)] }
def RulePrintsSaid : Prop := rulePrintsRow.holds Tryd.pinned (OpenSpec.ofChange rulePrintsSpec)

/-- ITS FALSE NEIGHBOUR: 'it returns false'. Refute it at one input. -/
def rulePrintsWrong : ChangeSpec := { name := "rulePrints", fn := fun _ => fun
  | [d1, d2, d3, d4] => { results := [.lit (.bool false)], args := [d1, d2, d3, d4] }
  | _ => none }
def RulePrintsWrongFalsely : Prop := rulePrintsRow.holds Tryd.pinned (OpenSpec.ofChange rulePrintsWrong)

/-- 'minecontrollaw19.RuleBack': WHATEVER THE INPUT: true; the input reads as it did. -/
def ruleBackSpec : ChangeSpec := { name := "ruleBack", fn := fun _ => fun
  | [d1, d2] => { results := [.lit (.bool true)], args := [d1, d2] }
  | _ => none }
def ruleBackRow : OpenClaim := { program := "ytmdolfannbbipaadoor", sum := "a23e3af2a4aeca58bc81328019feefb68f4e10d74aec04134591bbb0b102dd34", func := "minecontrol/minecontrollaw19.RuleBack", spec := "ruleBack", unfollowed := true, recurses := true, named := ["internal/strconv.uint64pow10", "math/bits.deBruijn32tab", "math/bits.deBruijn64tab", "strconv.ErrSyntax", "strconv.ErrRange"], apart := false, laid := [("math/bits.deBruijn32tab", laid_math_bits_deBruijn32tab), ("math/bits.deBruijn64tab", laid_math_bits_deBruijn64tab), ("internal/strconv.uint64pow10", laid_internal_strconv_uint64pow10), ("strconv.ErrRange", laid_strconv_ErrRange), ("strconv.ErrSyntax", laid_strconv_ErrSyntax)] }
def RuleBackSaid : Prop := ruleBackRow.holds Tryd.pinned (OpenSpec.ofChange ruleBackSpec)

/-- ITS FALSE NEIGHBOUR: 'it returns false'. Refute it at one input. -/
def ruleBackWrong : ChangeSpec := { name := "ruleBack", fn := fun _ => fun
  | [d1, d2] => { results := [.lit (.bool false)], args := [d1, d2] }
  | _ => none }
def RuleBackWrongFalsely : Prop := ruleBackRow.holds Tryd.pinned (OpenSpec.ofChange ruleBackWrong)

/-- 'minecontrollaw19.RuleKnown': WHATEVER THE INPUT: true; the input reads as it did. -/
def ruleKnownSpec : ChangeSpec := { name := "ruleKnown", fn := fun _ => fun
  | [d1, d2, d3] => { results := [.lit (.bool true)], args := [d1, d2, d3] }
  | _ => none }
def ruleKnownRow : OpenClaim := { program := "ytmdolfannbbipaadoor", sum := "a23e3af2a4aeca58bc81328019feefb68f4e10d74aec04134591bbb0b102dd34", func := "minecontrol/minecontrollaw19.RuleKnown", spec := "ruleKnown", unfollowed := true, recurses := true, named := ["strconv.ErrSyntax", "strconv.ErrRange", "internal/strconv.uint64pow10", "math/bits.deBruijn32tab", "math/bits.deBruijn64tab"], apart := false, laid := [("math/bits.deBruijn32tab", laid_math_bits_deBruijn32tab), ("math/bits.deBruijn64tab", laid_math_bits_deBruijn64tab), ("internal/strconv.uint64pow10", laid_internal_strconv_uint64pow10), ("strconv.ErrRange", laid_strconv_ErrRange), ("strconv.ErrSyntax", laid_strconv_ErrSyntax)] }
def RuleKnownSaid : Prop := ruleKnownRow.holds Tryd.pinned (OpenSpec.ofChange ruleKnownSpec)

/-- ITS FALSE NEIGHBOUR: 'it returns false'. Refute it at one input. -/
def ruleKnownWrong : ChangeSpec := { name := "ruleKnown", fn := fun _ => fun
  | [d1, d2, d3] => { results := [.lit (.bool false)], args := [d1, d2, d3] }
  | _ => none }
def RuleKnownWrongFalsely : Prop := ruleKnownRow.holds Tryd.pinned (OpenSpec.ofChange ruleKnownWrong)

/-- 'minecontrollaw19.RuleLaws': WHATEVER THE INPUT: true; the input reads as it did. -/
def ruleLawsSpec : ChangeSpec := { name := "ruleLaws", fn := fun _ => fun
  | [d1, d2] => { results := [.lit (.bool true)], args := [d1, d2] }
  | _ => none }
def ruleLawsRow : OpenClaim := { program := "ytmdolfannbbipaadoor", sum := "a23e3af2a4aeca58bc81328019feefb68f4e10d74aec04134591bbb0b102dd34", func := "minecontrol/minecontrollaw19.RuleLaws", spec := "ruleLaws", unfollowed := true, recurses := true, named := ["internal/strconv.uint64pow10", "math/bits.deBruijn32tab", "math/bits.deBruijn64tab", "strconv.ErrSyntax", "strconv.ErrRange"], apart := false, laid := [("math/bits.deBruijn32tab", laid_math_bits_deBruijn32tab), ("math/bits.deBruijn64tab", laid_math_bits_deBruijn64tab), ("internal/strconv.uint64pow10", laid_internal_strconv_uint64pow10), ("strconv.ErrRange", laid_strconv_ErrRange), ("strconv.ErrSyntax", laid_strconv_ErrSyntax)] }
def RuleLawsSaid : Prop := ruleLawsRow.holds Tryd.pinned (OpenSpec.ofChange ruleLawsSpec)

/-- ITS FALSE NEIGHBOUR: 'it returns false'. Refute it at one input. -/
def ruleLawsWrong : ChangeSpec := { name := "ruleLaws", fn := fun _ => fun
  | [d1, d2] => { results := [.lit (.bool false)], args := [d1, d2] }
  | _ => none }
def RuleLawsWrongFalsely : Prop := ruleLawsRow.holds Tryd.pinned (OpenSpec.ofChange ruleLawsWrong)

/-- 'minecontrollaw19.RuleDeep': WHATEVER THE INPUT: true; the input reads as it did. -/
def ruleDeepSpec : ChangeSpec := { name := "ruleDeep", fn := fun _ => fun
  | [d1, d2] => { results := [.lit (.bool true)], args := [d1, d2] }
  | _ => none }
def ruleDeepRow : OpenClaim := { program := "ytmdolfannbbipaadoor", sum := "a23e3af2a4aeca58bc81328019feefb68f4e10d74aec04134591bbb0b102dd34", func := "minecontrol/minecontrollaw19.RuleDeep", spec := "ruleDeep", unfollowed := true, recurses := true, named := ["strconv.ErrSyntax", "strconv.ErrRange", "internal/strconv.uint64pow10", "math/bits.deBruijn32tab", "math/bits.deBruijn64tab"], apart := false, laid := [("math/bits.deBruijn32tab", laid_math_bits_deBruijn32tab), ("math/bits.deBruijn64tab", laid_math_bits_deBruijn64tab), ("internal/strconv.uint64pow10", laid_internal_strconv_uint64pow10), ("strconv.ErrRange", laid_strconv_ErrRange), ("strconv.ErrSyntax", laid_strconv_ErrSyntax)] }
def RuleDeepSaid : Prop := ruleDeepRow.holds Tryd.pinned (OpenSpec.ofChange ruleDeepSpec)

/-- ITS FALSE NEIGHBOUR: 'it returns false'. Refute it at one input. -/
def ruleDeepWrong : ChangeSpec := { name := "ruleDeep", fn := fun _ => fun
  | [d1, d2] => { results := [.lit (.bool false)], args := [d1, d2] }
  | _ => none }
def RuleDeepWrongFalsely : Prop := ruleDeepRow.holds Tryd.pinned (OpenSpec.ofChange ruleDeepWrong)

/-- 'minecontrollaw02.SurveySums': WHATEVER THE INPUT: true; the input reads as it did. -/
def surveySumsSpec : ChangeSpec := { name := "surveySums", fn := fun _ => fun
  | [d1, d2] => { results := [.lit (.bool true)], args := [d1, d2] }
  | _ => none }
def surveySumsRow : OpenClaim := { program := "ytmdolfannbbipaadoor", sum := "a23e3af2a4aeca58bc81328019feefb68f4e10d74aec04134591bbb0b102dd34", func := "minecontrol/minecontrollaw02.SurveySums", spec := "surveySums", inPlace := ["internal/abi.NoEscape", "internal/bytealg.IndexByteString", "internal/bytealg.IndexString", "internal/bytealg.CountString"], named := ["internal/strconv.uint64pow10", "math/bits.deBruijn32tab", "math/bits.deBruijn64tab", "internal/bytealg.MaxLen", "unicode/utf8.first", "unicode/utf8.acceptRanges"], apart := false, laid := [("math/bits.deBruijn32tab", laid_math_bits_deBruijn32tab), ("math/bits.deBruijn64tab", laid_math_bits_deBruijn64tab), ("internal/strconv.uint64pow10", laid_internal_strconv_uint64pow10), ("unicode/utf8.acceptRanges", laid_unicode_utf8_acceptRanges), ("unicode/utf8.first", laid_unicode_utf8_first)] }
def SurveySumsSaid : Prop := surveySumsRow.holds Tryd.pinned (OpenSpec.ofChange surveySumsSpec)

/-- ITS FALSE NEIGHBOUR: 'it returns false'. Refute it at one input. -/
def surveySumsWrong : ChangeSpec := { name := "surveySums", fn := fun _ => fun
  | [d1, d2] => { results := [.lit (.bool false)], args := [d1, d2] }
  | _ => none }
def SurveySumsWrongFalsely : Prop := surveySumsRow.holds Tryd.pinned (OpenSpec.ofChange surveySumsWrong)

/-- 'minecontrollaw02.SurveyPrints': WHATEVER THE INPUT: true; the input reads as it did. -/
def surveyPrintsSpec : ChangeSpec := { name := "surveyPrints", fn := fun _ => fun
  | [d1, d2] => { results := [.lit (.bool true)], args := [d1, d2] }
  | _ => none }
def surveyPrintsRow : OpenClaim := { program := "ytmdolfannbbipaadoor", sum := "a23e3af2a4aeca58bc81328019feefb68f4e10d74aec04134591bbb0b102dd34", func := "minecontrol/minecontrollaw02.SurveyPrints", spec := "surveyPrints", inPlace := ["internal/abi.NoEscape", "internal/bytealg.IndexByteString", "internal/bytealg.IndexString", "internal/bytealg.CountString"], named := ["internal/strconv.uint64pow10", "math/bits.deBruijn32tab", "math/bits.deBruijn64tab", "internal/bytealg.MaxLen", "unicode/utf8.first", "unicode/utf8.acceptRanges"], apart := false, laid := [("math/bits.deBruijn32tab", laid_math_bits_deBruijn32tab), ("math/bits.deBruijn64tab", laid_math_bits_deBruijn64tab), ("internal/strconv.uint64pow10", laid_internal_strconv_uint64pow10), ("unicode/utf8.acceptRanges", laid_unicode_utf8_acceptRanges), ("unicode/utf8.first", laid_unicode_utf8_first)] }
def SurveyPrintsSaid : Prop := surveyPrintsRow.holds Tryd.pinned (OpenSpec.ofChange surveyPrintsSpec)

/-- ITS FALSE NEIGHBOUR: 'it returns false'. Refute it at one input. -/
def surveyPrintsWrong : ChangeSpec := { name := "surveyPrints", fn := fun _ => fun
  | [d1, d2] => { results := [.lit (.bool false)], args := [d1, d2] }
  | _ => none }
def SurveyPrintsWrongFalsely : Prop := surveyPrintsRow.holds Tryd.pinned (OpenSpec.ofChange surveyPrintsWrong)

/-- 'minecontrollaw02.SurveyBack': WHATEVER THE INPUT: true; the input reads as it did. -/
def surveyBackSpec : ChangeSpec := { name := "surveyBack", fn := fun _ => fun
  | [d1, d2, d3] => { results := [.lit (.bool true)], args := [d1, d2, d3] }
  | _ => none }
def surveyBackRow : OpenClaim := { program := "ytmdolfannbbipaadoor", sum := "a23e3af2a4aeca58bc81328019feefb68f4e10d74aec04134591bbb0b102dd34", func := "minecontrol/minecontrollaw02.SurveyBack", spec := "surveyBack", inPlace := ["internal/abi.NoEscape", "internal/bytealg.IndexByteString", "internal/bytealg.IndexString", "internal/bytealg.CountString"], named := ["internal/strconv.uint64pow10", "math/bits.deBruijn32tab", "math/bits.deBruijn64tab", "internal/bytealg.MaxLen", "unicode/utf8.first", "unicode/utf8.acceptRanges"], apart := false, laid := [("math/bits.deBruijn32tab", laid_math_bits_deBruijn32tab), ("math/bits.deBruijn64tab", laid_math_bits_deBruijn64tab), ("internal/strconv.uint64pow10", laid_internal_strconv_uint64pow10), ("unicode/utf8.acceptRanges", laid_unicode_utf8_acceptRanges), ("unicode/utf8.first", laid_unicode_utf8_first)] }
def SurveyBackSaid : Prop := surveyBackRow.holds Tryd.pinned (OpenSpec.ofChange surveyBackSpec)

/-- ITS FALSE NEIGHBOUR: 'it returns false'. Refute it at one input. -/
def surveyBackWrong : ChangeSpec := { name := "surveyBack", fn := fun _ => fun
  | [d1, d2, d3] => { results := [.lit (.bool false)], args := [d1, d2, d3] }
  | _ => none }
def SurveyBackWrongFalsely : Prop := surveyBackRow.holds Tryd.pinned (OpenSpec.ofChange surveyBackWrong)

/-- 'minecontrollaw02.SurveyReads': WHATEVER THE INPUT: true; the input reads as it did. -/
def surveyReadsSpec : ChangeSpec := { name := "surveyReads", fn := fun _ => fun
  | [d1, d2] => { results := [.lit (.bool true)], args := [d1, d2] }
  | _ => none }
def surveyReadsRow : OpenClaim := { program := "ytmdolfannbbipaadoor", sum := "a23e3af2a4aeca58bc81328019feefb68f4e10d74aec04134591bbb0b102dd34", func := "minecontrol/minecontrollaw02.SurveyReads", spec := "surveyReads", inPlace := ["internal/bytealg.IndexByteString", "internal/bytealg.IndexString", "internal/bytealg.CountString", "internal/abi.NoEscape"], named := ["internal/strconv.uint64pow10", "math/bits.deBruijn32tab", "math/bits.deBruijn64tab", "internal/bytealg.MaxLen", "unicode/utf8.first", "unicode/utf8.acceptRanges"], apart := false, laid := [("math/bits.deBruijn32tab", laid_math_bits_deBruijn32tab), ("math/bits.deBruijn64tab", laid_math_bits_deBruijn64tab), ("internal/strconv.uint64pow10", laid_internal_strconv_uint64pow10), ("unicode/utf8.acceptRanges", laid_unicode_utf8_acceptRanges), ("unicode/utf8.first", laid_unicode_utf8_first)] }
def SurveyReadsSaid : Prop := surveyReadsRow.holds Tryd.pinned (OpenSpec.ofChange surveyReadsSpec)

/-- ITS FALSE NEIGHBOUR: 'it returns false'. Refute it at one input. -/
def surveyReadsWrong : ChangeSpec := { name := "surveyReads", fn := fun _ => fun
  | [d1, d2] => { results := [.lit (.bool false)], args := [d1, d2] }
  | _ => none }
def SurveyReadsWrongFalsely : Prop := surveyReadsRow.holds Tryd.pinned (OpenSpec.ofChange surveyReadsWrong)

/- THE SECOND FORM. 'bulk': how many values and letters a reading holds, each counted each time it is reached (what is shared counts as often as it is met; a slice's spare places count too). A statement '..UptoSaid' is the law's where the arguments, and the package variables that the reading takes, are together of bulk at most 1048576: NARROWER than '..Said'. Prove '..Said' where nothing that the law and all that it calls make is longer than what came in: it says more and counts as full. Else prove '..UptoSaid'. A law counts once. -/
mutual
def uptoBulk {H : Type} : DataW H → Nat
  | .lit (.string bytes) => bytes.length + 1
  | .lit _ => 1
  | .nil => 1
  | .ptr d => uptoBulk d + 1
  | .slice elems spare => uptoBulkAll elems + uptoBulkAll spare + 1
  | .agg parts => uptoBulkAll parts + 1
  | .iface _ d => uptoBulk d + 1
  | .map entries => uptoBulkEntries entries + 1
  | .held _ => 1
def uptoBulkAll {H : Type} : List (DataW H) → Nat
  | [] => 0
  | d :: r => uptoBulk d + uptoBulkAll r
def uptoBulkEntries {H : Type} : List (Lit × DataW H) → Nat
  | [] => 0
  | x :: r => uptoBulkEntry x + uptoBulkEntries r
def uptoBulkEntry {H : Type} : Lit × DataW H → Nat
  | (.string bytes, d) => bytes.length + uptoBulk d + 1
  | (_, d) => uptoBulk d + 1
 end
def uptoSmall : (H : Type) → List (DataW H) → Bool := fun _ ds => decide (uptoBulkAll ds ≤ 1048576)
def OpenSpec.upto (s : _root_.Go.ChangeSpec) : _root_.Go.OpenSpec := { _root_.Go.OpenSpec.ofChange s with cond := some uptoSmall }

/-- 'minecontrollaw19.RuleChecks', WHERE WHAT IT READS IS OF BULK AT MOST 1048576: true; the input reads as it did. -/
def ruleChecksUptoRow : OpenClaim := { program := "ytmdolfannbbipaadoor", sum := "a23e3af2a4aeca58bc81328019feefb68f4e10d74aec04134591bbb0b102dd34", func := "minecontrol/minecontrollaw19.RuleChecks", spec := "ruleChecks", unfollowed := true, recurses := true, named := ["strconv.ErrSyntax", "strconv.ErrRange", "internal/strconv.uint64pow10", "math/bits.deBruijn32tab", "math/bits.deBruijn64tab"], apart := false, laid := [("math/bits.deBruijn32tab", laid_math_bits_deBruijn32tab), ("math/bits.deBruijn64tab", laid_math_bits_deBruijn64tab), ("internal/strconv.uint64pow10", laid_internal_strconv_uint64pow10), ("strconv.ErrRange", laid_strconv_ErrRange), ("strconv.ErrSyntax", laid_strconv_ErrSyntax)], narrowed := true }
def RuleChecksUptoSaid : Prop := ruleChecksUptoRow.holds Tryd.pinned (OpenSpec.upto ruleChecksSpec)

/-- 'minecontrollaw19.RulePrints', WHERE WHAT IT READS IS OF BULK AT MOST 1048576: true; the input reads as it did. -/
def rulePrintsUptoRow : OpenClaim := { program := "ytmdolfannbbipaadoor", sum := "a23e3af2a4aeca58bc81328019feefb68f4e10d74aec04134591bbb0b102dd34", func := "minecontrol/minecontrollaw19.RulePrints", spec := "rulePrints", unfollowed := true, recurses := true, named := ["internal/strconv.uint64pow10", "math/bits.deBruijn32tab", "math/bits.deBruijn64tab", "strconv.ErrSyntax", "strconv.ErrRange"], apart := false, laid := [("math/bits.deBruijn32tab", laid_math_bits_deBruijn32tab), ("math/bits.deBruijn64tab", laid_math_bits_deBruijn64tab), ("internal/strconv.uint64pow10", laid_internal_strconv_uint64pow10), ("strconv.ErrRange", laid_strconv_ErrRange), ("strconv.ErrSyntax", laid_strconv_ErrSyntax)], narrowed := true }
def RulePrintsUptoSaid : Prop := rulePrintsUptoRow.holds Tryd.pinned (OpenSpec.upto rulePrintsSpec)

/-- 'minecontrollaw19.RuleBack', WHERE WHAT IT READS IS OF BULK AT MOST 1048576: true; the input reads as it did. -/
def ruleBackUptoRow : OpenClaim := { program := "ytmdolfannbbipaadoor", sum := "a23e3af2a4aeca58bc81328019feefb68f4e10d74aec04134591bbb0b102dd34", func := "minecontrol/minecontrollaw19.RuleBack", spec := "ruleBack", unfollowed := true, recurses := true, named := ["internal/strconv.uint64pow10", "math/bits.deBruijn32tab", "math/bits.deBruijn64tab", "strconv.ErrSyntax", "strconv.ErrRange"], apart := false, laid := [("math/bits.deBruijn32tab", laid_math_bits_deBruijn32tab), ("math/bits.deBruijn64tab", laid_math_bits_deBruijn64tab), ("internal/strconv.uint64pow10", laid_internal_strconv_uint64pow10), ("strconv.ErrRange", laid_strconv_ErrRange), ("strconv.ErrSyntax", laid_strconv_ErrSyntax)], narrowed := true }
def RuleBackUptoSaid : Prop := ruleBackUptoRow.holds Tryd.pinned (OpenSpec.upto ruleBackSpec)

/-- 'minecontrollaw19.RuleKnown', WHERE WHAT IT READS IS OF BULK AT MOST 1048576: true; the input reads as it did. -/
def ruleKnownUptoRow : OpenClaim := { program := "ytmdolfannbbipaadoor", sum := "a23e3af2a4aeca58bc81328019feefb68f4e10d74aec04134591bbb0b102dd34", func := "minecontrol/minecontrollaw19.RuleKnown", spec := "ruleKnown", unfollowed := true, recurses := true, named := ["strconv.ErrSyntax", "strconv.ErrRange", "internal/strconv.uint64pow10", "math/bits.deBruijn32tab", "math/bits.deBruijn64tab"], apart := false, laid := [("math/bits.deBruijn32tab", laid_math_bits_deBruijn32tab), ("math/bits.deBruijn64tab", laid_math_bits_deBruijn64tab), ("internal/strconv.uint64pow10", laid_internal_strconv_uint64pow10), ("strconv.ErrRange", laid_strconv_ErrRange), ("strconv.ErrSyntax", laid_strconv_ErrSyntax)], narrowed := true }
def RuleKnownUptoSaid : Prop := ruleKnownUptoRow.holds Tryd.pinned (OpenSpec.upto ruleKnownSpec)

/-- 'minecontrollaw19.RuleLaws', WHERE WHAT IT READS IS OF BULK AT MOST 1048576: true; the input reads as it did. -/
def ruleLawsUptoRow : OpenClaim := { program := "ytmdolfannbbipaadoor", sum := "a23e3af2a4aeca58bc81328019feefb68f4e10d74aec04134591bbb0b102dd34", func := "minecontrol/minecontrollaw19.RuleLaws", spec := "ruleLaws", unfollowed := true, recurses := true, named := ["internal/strconv.uint64pow10", "math/bits.deBruijn32tab", "math/bits.deBruijn64tab", "strconv.ErrSyntax", "strconv.ErrRange"], apart := false, laid := [("math/bits.deBruijn32tab", laid_math_bits_deBruijn32tab), ("math/bits.deBruijn64tab", laid_math_bits_deBruijn64tab), ("internal/strconv.uint64pow10", laid_internal_strconv_uint64pow10), ("strconv.ErrRange", laid_strconv_ErrRange), ("strconv.ErrSyntax", laid_strconv_ErrSyntax)], narrowed := true }
def RuleLawsUptoSaid : Prop := ruleLawsUptoRow.holds Tryd.pinned (OpenSpec.upto ruleLawsSpec)

/-- 'minecontrollaw19.RuleDeep', WHERE WHAT IT READS IS OF BULK AT MOST 1048576: true; the input reads as it did. -/
def ruleDeepUptoRow : OpenClaim := { program := "ytmdolfannbbipaadoor", sum := "a23e3af2a4aeca58bc81328019feefb68f4e10d74aec04134591bbb0b102dd34", func := "minecontrol/minecontrollaw19.RuleDeep", spec := "ruleDeep", unfollowed := true, recurses := true, named := ["strconv.ErrSyntax", "strconv.ErrRange", "internal/strconv.uint64pow10", "math/bits.deBruijn32tab", "math/bits.deBruijn64tab"], apart := false, laid := [("math/bits.deBruijn32tab", laid_math_bits_deBruijn32tab), ("math/bits.deBruijn64tab", laid_math_bits_deBruijn64tab), ("internal/strconv.uint64pow10", laid_internal_strconv_uint64pow10), ("strconv.ErrRange", laid_strconv_ErrRange), ("strconv.ErrSyntax", laid_strconv_ErrSyntax)], narrowed := true }
def RuleDeepUptoSaid : Prop := ruleDeepUptoRow.holds Tryd.pinned (OpenSpec.upto ruleDeepSpec)

/-- 'minecontrollaw02.SurveySums', WHERE WHAT IT READS IS OF BULK AT MOST 1048576: true; the input reads as it did. -/
def surveySumsUptoRow : OpenClaim := { program := "ytmdolfannbbipaadoor", sum := "a23e3af2a4aeca58bc81328019feefb68f4e10d74aec04134591bbb0b102dd34", func := "minecontrol/minecontrollaw02.SurveySums", spec := "surveySums", inPlace := ["internal/abi.NoEscape", "internal/bytealg.IndexByteString", "internal/bytealg.IndexString", "internal/bytealg.CountString"], named := ["internal/strconv.uint64pow10", "math/bits.deBruijn32tab", "math/bits.deBruijn64tab", "internal/bytealg.MaxLen", "unicode/utf8.first", "unicode/utf8.acceptRanges"], apart := false, laid := [("math/bits.deBruijn32tab", laid_math_bits_deBruijn32tab), ("math/bits.deBruijn64tab", laid_math_bits_deBruijn64tab), ("internal/strconv.uint64pow10", laid_internal_strconv_uint64pow10), ("unicode/utf8.acceptRanges", laid_unicode_utf8_acceptRanges), ("unicode/utf8.first", laid_unicode_utf8_first)], narrowed := true }
def SurveySumsUptoSaid : Prop := surveySumsUptoRow.holds Tryd.pinned (OpenSpec.upto surveySumsSpec)

/-- 'minecontrollaw02.SurveyPrints', WHERE WHAT IT READS IS OF BULK AT MOST 1048576: true; the input reads as it did. -/
def surveyPrintsUptoRow : OpenClaim := { program := "ytmdolfannbbipaadoor", sum := "a23e3af2a4aeca58bc81328019feefb68f4e10d74aec04134591bbb0b102dd34", func := "minecontrol/minecontrollaw02.SurveyPrints", spec := "surveyPrints", inPlace := ["internal/abi.NoEscape", "internal/bytealg.IndexByteString", "internal/bytealg.IndexString", "internal/bytealg.CountString"], named := ["internal/strconv.uint64pow10", "math/bits.deBruijn32tab", "math/bits.deBruijn64tab", "internal/bytealg.MaxLen", "unicode/utf8.first", "unicode/utf8.acceptRanges"], apart := false, laid := [("math/bits.deBruijn32tab", laid_math_bits_deBruijn32tab), ("math/bits.deBruijn64tab", laid_math_bits_deBruijn64tab), ("internal/strconv.uint64pow10", laid_internal_strconv_uint64pow10), ("unicode/utf8.acceptRanges", laid_unicode_utf8_acceptRanges), ("unicode/utf8.first", laid_unicode_utf8_first)], narrowed := true }
def SurveyPrintsUptoSaid : Prop := surveyPrintsUptoRow.holds Tryd.pinned (OpenSpec.upto surveyPrintsSpec)

/-- 'minecontrollaw02.SurveyBack', WHERE WHAT IT READS IS OF BULK AT MOST 1048576: true; the input reads as it did. -/
def surveyBackUptoRow : OpenClaim := { program := "ytmdolfannbbipaadoor", sum := "a23e3af2a4aeca58bc81328019feefb68f4e10d74aec04134591bbb0b102dd34", func := "minecontrol/minecontrollaw02.SurveyBack", spec := "surveyBack", inPlace := ["internal/abi.NoEscape", "internal/bytealg.IndexByteString", "internal/bytealg.IndexString", "internal/bytealg.CountString"], named := ["internal/strconv.uint64pow10", "math/bits.deBruijn32tab", "math/bits.deBruijn64tab", "internal/bytealg.MaxLen", "unicode/utf8.first", "unicode/utf8.acceptRanges"], apart := false, laid := [("math/bits.deBruijn32tab", laid_math_bits_deBruijn32tab), ("math/bits.deBruijn64tab", laid_math_bits_deBruijn64tab), ("internal/strconv.uint64pow10", laid_internal_strconv_uint64pow10), ("unicode/utf8.acceptRanges", laid_unicode_utf8_acceptRanges), ("unicode/utf8.first", laid_unicode_utf8_first)], narrowed := true }
def SurveyBackUptoSaid : Prop := surveyBackUptoRow.holds Tryd.pinned (OpenSpec.upto surveyBackSpec)

/-- 'minecontrollaw02.SurveyReads', WHERE WHAT IT READS IS OF BULK AT MOST 1048576: true; the input reads as it did. -/
def surveyReadsUptoRow : OpenClaim := { program := "ytmdolfannbbipaadoor", sum := "a23e3af2a4aeca58bc81328019feefb68f4e10d74aec04134591bbb0b102dd34", func := "minecontrol/minecontrollaw02.SurveyReads", spec := "surveyReads", inPlace := ["internal/bytealg.IndexByteString", "internal/bytealg.IndexString", "internal/bytealg.CountString", "internal/abi.NoEscape"], named := ["internal/strconv.uint64pow10", "math/bits.deBruijn32tab", "math/bits.deBruijn64tab", "internal/bytealg.MaxLen", "unicode/utf8.first", "unicode/utf8.acceptRanges"], apart := false, laid := [("math/bits.deBruijn32tab", laid_math_bits_deBruijn32tab), ("math/bits.deBruijn64tab", laid_math_bits_deBruijn64tab), ("internal/strconv.uint64pow10", laid_internal_strconv_uint64pow10), ("unicode/utf8.acceptRanges", laid_unicode_utf8_acceptRanges), ("unicode/utf8.first", laid_unicode_utf8_first)], narrowed := true }
def SurveyReadsUptoSaid : Prop := surveyReadsUptoRow.holds Tryd.pinned (OpenSpec.upto surveyReadsSpec)

end Rows
end Go.Proofs.YtmdolfannbbipaaDoor
