/-
  NARROWER THAN 'FOR EVERY INPUT', by the rows' own cells (each row's printed sentence says how): ExchangeFormats: laid · ExchangeLong: laid · ExchangeParses: laid · ExchangeReads: laid · ExchangeChecks: laid · ExchangeBack: laid · ExchangeDetects: laid · ExchangeSwaps: laid · ExchangeGaps: laid · ExchangeGapsClose: laid.
  DERIVED. THE GIVEN ROWS OF THIS SEAT. 10 by the template 'for every input the law returns true; each argument reads behind the call as it read before'; 0 by the template 'total and deterministic' (their statements: YtdlmgokicfoidaaDoorTotals.lean).
  GIVEN WITH THE SEED: the statements are not yours to turn. If you find one false, say at which input.
  Laid BY PROGRAM, IN A SANDBOX (cutbox-rows.mjs): the forced cells as the released guide's own fill.sh prints them over the translation d9630acffc5bcd40… (all of the seat's roots in one cut). By AI agents, Wed Nov 11 2026. No macro, syntax, notation, axiom, sorry.
-/
import Derived.Test.YtdlmgokicfoidaaDoorChecked
import GoSem.PinnedTables
import GoSem.Claim
import GoSem.ClaimJoined
import GoSem.ClaimMapViews
import Derived.JoinedTies
import Derived.KernelRfl
namespace Go.Proofs.YtdlmgokicfoidaaDoor
/- THE CELL 'sum', in the pinned program and in every row, IS THE sha256 OF THE DUMP (.gsa) THAT YtdlmgokicfoidaaDoorProg.lean LOADS. Nothing in Lean hashes anything: it is a label: what it is worth is what the hold of that sum in a sandbox is worth. -/
noncomputable def Tryd.pinned : Pinned := { name := "ytdlmgokicfoidaadoor", sum := "d9630acffc5bcd40d400d81b1fe23431cbd217c51a0c58d2c3382518674d5cc8", checked := Tryd.checked }
namespace Rows
def none {H : Type} : Left H := { results := [], args := [] }

/- WHAT THE LISTED PACKAGE-LEVEL VARIABLES READ AS WHEN THE CALL BEGINS. Each datum BY PROGRAM (the guide's laid-datum.mjs) off the statement by which the dump's own 'gosem.cut.vars' lays the variable. In a bare row this is a premise. The card (YtdlmgokicfoidaaDoorCards.lean) ties it to the program's text. -/
def laid_math_bits_deBruijn32tab {H : Type} : DataW H := .agg [.lit (.int .u8 0), .lit (.int .u8 1), .lit (.int .u8 28), .lit (.int .u8 2), .lit (.int .u8 29), .lit (.int .u8 14), .lit (.int .u8 24), .lit (.int .u8 3), .lit (.int .u8 30), .lit (.int .u8 22), .lit (.int .u8 20), .lit (.int .u8 15), .lit (.int .u8 25), .lit (.int .u8 17), .lit (.int .u8 4), .lit (.int .u8 8), .lit (.int .u8 31), .lit (.int .u8 27), .lit (.int .u8 13), .lit (.int .u8 23), .lit (.int .u8 21), .lit (.int .u8 19), .lit (.int .u8 16), .lit (.int .u8 7), .lit (.int .u8 26), .lit (.int .u8 12), .lit (.int .u8 18), .lit (.int .u8 6), .lit (.int .u8 11), .lit (.int .u8 5), .lit (.int .u8 10), .lit (.int .u8 9)]
def laid_math_bits_deBruijn64tab {H : Type} : DataW H := .agg [.lit (.int .u8 0), .lit (.int .u8 1), .lit (.int .u8 56), .lit (.int .u8 2), .lit (.int .u8 57), .lit (.int .u8 49), .lit (.int .u8 28), .lit (.int .u8 3), .lit (.int .u8 61), .lit (.int .u8 58), .lit (.int .u8 42), .lit (.int .u8 50), .lit (.int .u8 38), .lit (.int .u8 29), .lit (.int .u8 17), .lit (.int .u8 4), .lit (.int .u8 62), .lit (.int .u8 47), .lit (.int .u8 59), .lit (.int .u8 36), .lit (.int .u8 45), .lit (.int .u8 43), .lit (.int .u8 51), .lit (.int .u8 22), .lit (.int .u8 53), .lit (.int .u8 39), .lit (.int .u8 33), .lit (.int .u8 30), .lit (.int .u8 24), .lit (.int .u8 18), .lit (.int .u8 12), .lit (.int .u8 5), .lit (.int .u8 63), .lit (.int .u8 55), .lit (.int .u8 48), .lit (.int .u8 27), .lit (.int .u8 60), .lit (.int .u8 41), .lit (.int .u8 37), .lit (.int .u8 16), .lit (.int .u8 46), .lit (.int .u8 35), .lit (.int .u8 44), .lit (.int .u8 21), .lit (.int .u8 52), .lit (.int .u8 32), .lit (.int .u8 23), .lit (.int .u8 11), .lit (.int .u8 54), .lit (.int .u8 26), .lit (.int .u8 40), .lit (.int .u8 15), .lit (.int .u8 34), .lit (.int .u8 20), .lit (.int .u8 31), .lit (.int .u8 10), .lit (.int .u8 25), .lit (.int .u8 14), .lit (.int .u8 19), .lit (.int .u8 9), .lit (.int .u8 13), .lit (.int .u8 8), .lit (.int .u8 7), .lit (.int .u8 6)]
def laid_internal_strconv_uint64pow10 {H : Type} : DataW H := .agg [.lit (.int .u64 1), .lit (.int .u64 10), .lit (.int .u64 100), .lit (.int .u64 1000), .lit (.int .u64 10000), .lit (.int .u64 100000), .lit (.int .u64 1000000), .lit (.int .u64 10000000), .lit (.int .u64 100000000), .lit (.int .u64 1000000000), .lit (.int .u64 10000000000), .lit (.int .u64 100000000000), .lit (.int .u64 1000000000000), .lit (.int .u64 10000000000000), .lit (.int .u64 100000000000000), .lit (.int .u64 1000000000000000), .lit (.int .u64 10000000000000000), .lit (.int .u64 100000000000000000), .lit (.int .u64 1000000000000000000), .lit (.int .u64 10000000000000000000)]
def laid_unicode_utf8_acceptRanges {H : Type} : DataW H := .agg [.agg [.lit (.int .u8 128), .lit (.int .u8 191)], .agg [.lit (.int .u8 160), .lit (.int .u8 191)], .agg [.lit (.int .u8 128), .lit (.int .u8 159)], .agg [.lit (.int .u8 144), .lit (.int .u8 191)], .agg [.lit (.int .u8 128), .lit (.int .u8 143)], .agg [.lit (.int .u8 0), .lit (.int .u8 0)], .agg [.lit (.int .u8 0), .lit (.int .u8 0)], .agg [.lit (.int .u8 0), .lit (.int .u8 0)], .agg [.lit (.int .u8 0), .lit (.int .u8 0)], .agg [.lit (.int .u8 0), .lit (.int .u8 0)], .agg [.lit (.int .u8 0), .lit (.int .u8 0)], .agg [.lit (.int .u8 0), .lit (.int .u8 0)], .agg [.lit (.int .u8 0), .lit (.int .u8 0)], .agg [.lit (.int .u8 0), .lit (.int .u8 0)], .agg [.lit (.int .u8 0), .lit (.int .u8 0)], .agg [.lit (.int .u8 0), .lit (.int .u8 0)]]
/-- One of Go's own tables, pinned by name: the form's constant. -/
def laid_unicode_utf8_first : DataW Unit := Go.Pinned.utf8First

/-- 'awardingbodylaw03.ExchangeFormats': WHATEVER THE INPUT: true; the input reads as it did. -/
def exchangeFormatsSpec : ChangeSpec := { name := "exchangeFormats", fn := fun _ => fun
  | [d] => { results := [.lit (.bool true)], args := [d] }
  | _ => none }
def exchangeFormatsRow : OpenClaim := { program := "ytdlmgokicfoidaadoor", sum := "d9630acffc5bcd40d400d81b1fe23431cbd217c51a0c58d2c3382518674d5cc8", func := "awardingbody/awardingbodylaw03.ExchangeFormats", spec := "exchangeFormats", inPlace := ["internal/abi.NoEscape", "internal/bytealg.IndexByteString", "internal/bytealg.CountString", "internal/bytealg.IndexString"], unfollowed := true, recurses := true, named := ["internal/strconv.uint64pow10", "math/bits.deBruijn32tab", "math/bits.deBruijn64tab", "unicode/utf8.first", "unicode/utf8.acceptRanges", "internal/bytealg.MaxLen"], apart := false, laid := [("math/bits.deBruijn32tab", laid_math_bits_deBruijn32tab), ("math/bits.deBruijn64tab", laid_math_bits_deBruijn64tab), ("internal/strconv.uint64pow10", laid_internal_strconv_uint64pow10), ("unicode/utf8.acceptRanges", laid_unicode_utf8_acceptRanges), ("unicode/utf8.first", laid_unicode_utf8_first)] }
def ExchangeFormatsSaid : Prop := exchangeFormatsRow.holds Tryd.pinned (OpenSpec.ofChange exchangeFormatsSpec)

/-- ITS FALSE NEIGHBOUR: 'it returns false'. Refute it at one input. -/
def exchangeFormatsWrong : ChangeSpec := { name := "exchangeFormats", fn := fun _ => fun
  | [d] => { results := [.lit (.bool false)], args := [d] }
  | _ => none }
def ExchangeFormatsWrongFalsely : Prop := exchangeFormatsRow.holds Tryd.pinned (OpenSpec.ofChange exchangeFormatsWrong)

/-- 'awardingbodylaw03.ExchangeLong': WHATEVER THE INPUT: true; the input reads as it did. -/
def exchangeLongSpec : ChangeSpec := { name := "exchangeLong", fn := fun _ => fun
  | [d1, d2, d3] => { results := [.lit (.bool true)], args := [d1, d2, d3] }
  | _ => none }
def exchangeLongRow : OpenClaim := { program := "ytdlmgokicfoidaadoor", sum := "d9630acffc5bcd40d400d81b1fe23431cbd217c51a0c58d2c3382518674d5cc8", func := "awardingbody/awardingbodylaw03.ExchangeLong", spec := "exchangeLong", inPlace := ["internal/abi.NoEscape", "internal/bytealg.IndexByteString", "internal/bytealg.CountString", "internal/bytealg.IndexString"], unfollowed := true, recurses := true, named := ["internal/strconv.uint64pow10", "math/bits.deBruijn32tab", "math/bits.deBruijn64tab", "unicode/utf8.first", "unicode/utf8.acceptRanges", "internal/bytealg.MaxLen"], apart := false, laid := [("math/bits.deBruijn32tab", laid_math_bits_deBruijn32tab), ("math/bits.deBruijn64tab", laid_math_bits_deBruijn64tab), ("internal/strconv.uint64pow10", laid_internal_strconv_uint64pow10), ("unicode/utf8.acceptRanges", laid_unicode_utf8_acceptRanges), ("unicode/utf8.first", laid_unicode_utf8_first)] }
def ExchangeLongSaid : Prop := exchangeLongRow.holds Tryd.pinned (OpenSpec.ofChange exchangeLongSpec)

/-- ITS FALSE NEIGHBOUR: 'it returns false'. Refute it at one input. -/
def exchangeLongWrong : ChangeSpec := { name := "exchangeLong", fn := fun _ => fun
  | [d1, d2, d3] => { results := [.lit (.bool false)], args := [d1, d2, d3] }
  | _ => none }
def ExchangeLongWrongFalsely : Prop := exchangeLongRow.holds Tryd.pinned (OpenSpec.ofChange exchangeLongWrong)

/-- 'awardingbodylaw03.ExchangeParses': WHATEVER THE INPUT: true; the input reads as it did. -/
def exchangeParsesSpec : ChangeSpec := { name := "exchangeParses", fn := fun _ => fun
  | [d] => { results := [.lit (.bool true)], args := [d] }
  | _ => none }
def exchangeParsesRow : OpenClaim := { program := "ytdlmgokicfoidaadoor", sum := "d9630acffc5bcd40d400d81b1fe23431cbd217c51a0c58d2c3382518674d5cc8", func := "awardingbody/awardingbodylaw03.ExchangeParses", spec := "exchangeParses", inPlace := ["internal/bytealg.IndexByteString", "internal/bytealg.CountString", "internal/bytealg.IndexString", "internal/abi.NoEscape"], unfollowed := true, recurses := true, named := ["unicode/utf8.first", "unicode/utf8.acceptRanges", "internal/bytealg.MaxLen", "internal/strconv.uint64pow10", "math/bits.deBruijn32tab", "math/bits.deBruijn64tab"], apart := false, laid := [("math/bits.deBruijn32tab", laid_math_bits_deBruijn32tab), ("math/bits.deBruijn64tab", laid_math_bits_deBruijn64tab), ("internal/strconv.uint64pow10", laid_internal_strconv_uint64pow10), ("unicode/utf8.acceptRanges", laid_unicode_utf8_acceptRanges), ("unicode/utf8.first", laid_unicode_utf8_first)] }
def ExchangeParsesSaid : Prop := exchangeParsesRow.holds Tryd.pinned (OpenSpec.ofChange exchangeParsesSpec)

/-- ITS FALSE NEIGHBOUR: 'it returns false'. Refute it at one input. -/
def exchangeParsesWrong : ChangeSpec := { name := "exchangeParses", fn := fun _ => fun
  | [d] => { results := [.lit (.bool false)], args := [d] }
  | _ => none }
def ExchangeParsesWrongFalsely : Prop := exchangeParsesRow.holds Tryd.pinned (OpenSpec.ofChange exchangeParsesWrong)

/-- 'awardingbodylaw03.ExchangeReads': WHATEVER THE INPUT: true; the input reads as it did. -/
def exchangeReadsSpec : ChangeSpec := { name := "exchangeReads", fn := fun _ => fun
  | [d] => { results := [.lit (.bool true)], args := [d] }
  | _ => none }
def exchangeReadsRow : OpenClaim := { program := "ytdlmgokicfoidaadoor", sum := "d9630acffc5bcd40d400d81b1fe23431cbd217c51a0c58d2c3382518674d5cc8", func := "awardingbody/awardingbodylaw03.ExchangeReads", spec := "exchangeReads", inPlace := ["internal/bytealg.IndexByteString", "internal/bytealg.CountString", "internal/bytealg.IndexString", "internal/abi.NoEscape"], unfollowed := true, recurses := true, named := ["unicode/utf8.first", "unicode/utf8.acceptRanges", "internal/bytealg.MaxLen", "internal/strconv.uint64pow10", "math/bits.deBruijn32tab", "math/bits.deBruijn64tab"], apart := false, laid := [("math/bits.deBruijn32tab", laid_math_bits_deBruijn32tab), ("math/bits.deBruijn64tab", laid_math_bits_deBruijn64tab), ("internal/strconv.uint64pow10", laid_internal_strconv_uint64pow10), ("unicode/utf8.acceptRanges", laid_unicode_utf8_acceptRanges), ("unicode/utf8.first", laid_unicode_utf8_first)] }
def ExchangeReadsSaid : Prop := exchangeReadsRow.holds Tryd.pinned (OpenSpec.ofChange exchangeReadsSpec)

/-- ITS FALSE NEIGHBOUR: 'it returns false'. Refute it at one input. -/
def exchangeReadsWrong : ChangeSpec := { name := "exchangeReads", fn := fun _ => fun
  | [d] => { results := [.lit (.bool false)], args := [d] }
  | _ => none }
def ExchangeReadsWrongFalsely : Prop := exchangeReadsRow.holds Tryd.pinned (OpenSpec.ofChange exchangeReadsWrong)

/-- 'awardingbodylaw03.ExchangeChecks': WHATEVER THE INPUT: true; the input reads as it did. -/
def exchangeChecksSpec : ChangeSpec := { name := "exchangeChecks", fn := fun _ => fun
  | [d1, d2] => { results := [.lit (.bool true)], args := [d1, d2] }
  | _ => none }
def exchangeChecksRow : OpenClaim := { program := "ytdlmgokicfoidaadoor", sum := "d9630acffc5bcd40d400d81b1fe23431cbd217c51a0c58d2c3382518674d5cc8", func := "awardingbody/awardingbodylaw03.ExchangeChecks", spec := "exchangeChecks", inPlace := ["internal/abi.NoEscape", "internal/bytealg.IndexByteString", "internal/bytealg.CountString", "internal/bytealg.IndexString"], unfollowed := true, recurses := true, named := ["internal/strconv.uint64pow10", "math/bits.deBruijn32tab", "math/bits.deBruijn64tab", "unicode/utf8.first", "unicode/utf8.acceptRanges", "internal/bytealg.MaxLen"], apart := false, laid := [("math/bits.deBruijn32tab", laid_math_bits_deBruijn32tab), ("math/bits.deBruijn64tab", laid_math_bits_deBruijn64tab), ("internal/strconv.uint64pow10", laid_internal_strconv_uint64pow10), ("unicode/utf8.acceptRanges", laid_unicode_utf8_acceptRanges), ("unicode/utf8.first", laid_unicode_utf8_first)] }
def ExchangeChecksSaid : Prop := exchangeChecksRow.holds Tryd.pinned (OpenSpec.ofChange exchangeChecksSpec)

/-- ITS FALSE NEIGHBOUR: 'it returns false'. Refute it at one input. -/
def exchangeChecksWrong : ChangeSpec := { name := "exchangeChecks", fn := fun _ => fun
  | [d1, d2] => { results := [.lit (.bool false)], args := [d1, d2] }
  | _ => none }
def ExchangeChecksWrongFalsely : Prop := exchangeChecksRow.holds Tryd.pinned (OpenSpec.ofChange exchangeChecksWrong)

/-- 'awardingbodylaw03.ExchangeBack': WHATEVER THE INPUT: true; the input reads as it did. -/
def exchangeBackSpec : ChangeSpec := { name := "exchangeBack", fn := fun _ => fun
  | [d1, d2] => { results := [.lit (.bool true)], args := [d1, d2] }
  | _ => none }
def exchangeBackRow : OpenClaim := { program := "ytdlmgokicfoidaadoor", sum := "d9630acffc5bcd40d400d81b1fe23431cbd217c51a0c58d2c3382518674d5cc8", func := "awardingbody/awardingbodylaw03.ExchangeBack", spec := "exchangeBack", inPlace := ["internal/abi.NoEscape", "internal/bytealg.IndexByteString", "internal/bytealg.CountString", "internal/bytealg.IndexString"], unfollowed := true, recurses := true, named := ["internal/strconv.uint64pow10", "math/bits.deBruijn32tab", "math/bits.deBruijn64tab", "unicode/utf8.first", "unicode/utf8.acceptRanges", "internal/bytealg.MaxLen"], apart := false, laid := [("math/bits.deBruijn32tab", laid_math_bits_deBruijn32tab), ("math/bits.deBruijn64tab", laid_math_bits_deBruijn64tab), ("internal/strconv.uint64pow10", laid_internal_strconv_uint64pow10), ("unicode/utf8.acceptRanges", laid_unicode_utf8_acceptRanges), ("unicode/utf8.first", laid_unicode_utf8_first)] }
def ExchangeBackSaid : Prop := exchangeBackRow.holds Tryd.pinned (OpenSpec.ofChange exchangeBackSpec)

/-- ITS FALSE NEIGHBOUR: 'it returns false'. Refute it at one input. -/
def exchangeBackWrong : ChangeSpec := { name := "exchangeBack", fn := fun _ => fun
  | [d1, d2] => { results := [.lit (.bool false)], args := [d1, d2] }
  | _ => none }
def ExchangeBackWrongFalsely : Prop := exchangeBackRow.holds Tryd.pinned (OpenSpec.ofChange exchangeBackWrong)

/-- 'awardingbodylaw03.ExchangeDetects': WHATEVER THE INPUT: true; the input reads as it did. -/
def exchangeDetectsSpec : ChangeSpec := { name := "exchangeDetects", fn := fun _ => fun
  | [d1, d2, d3] => { results := [.lit (.bool true)], args := [d1, d2, d3] }
  | _ => none }
def exchangeDetectsRow : OpenClaim := { program := "ytdlmgokicfoidaadoor", sum := "d9630acffc5bcd40d400d81b1fe23431cbd217c51a0c58d2c3382518674d5cc8", func := "awardingbody/awardingbodylaw03.ExchangeDetects", spec := "exchangeDetects", inPlace := ["internal/abi.NoEscape", "internal/bytealg.IndexByteString", "internal/bytealg.CountString", "internal/bytealg.IndexString"], unfollowed := true, recurses := true, named := ["internal/strconv.uint64pow10", "math/bits.deBruijn32tab", "math/bits.deBruijn64tab", "unicode/utf8.first", "unicode/utf8.acceptRanges", "internal/bytealg.MaxLen"], apart := false, laid := [("math/bits.deBruijn32tab", laid_math_bits_deBruijn32tab), ("math/bits.deBruijn64tab", laid_math_bits_deBruijn64tab), ("internal/strconv.uint64pow10", laid_internal_strconv_uint64pow10), ("unicode/utf8.acceptRanges", laid_unicode_utf8_acceptRanges), ("unicode/utf8.first", laid_unicode_utf8_first)] }
def ExchangeDetectsSaid : Prop := exchangeDetectsRow.holds Tryd.pinned (OpenSpec.ofChange exchangeDetectsSpec)

/-- ITS FALSE NEIGHBOUR: 'it returns false'. Refute it at one input. -/
def exchangeDetectsWrong : ChangeSpec := { name := "exchangeDetects", fn := fun _ => fun
  | [d1, d2, d3] => { results := [.lit (.bool false)], args := [d1, d2, d3] }
  | _ => none }
def ExchangeDetectsWrongFalsely : Prop := exchangeDetectsRow.holds Tryd.pinned (OpenSpec.ofChange exchangeDetectsWrong)

/-- 'awardingbodylaw03.ExchangeSwaps': WHATEVER THE INPUT: true; the input reads as it did. -/
def exchangeSwapsSpec : ChangeSpec := { name := "exchangeSwaps", fn := fun _ => fun
  | [d1, d2] => { results := [.lit (.bool true)], args := [d1, d2] }
  | _ => none }
def exchangeSwapsRow : OpenClaim := { program := "ytdlmgokicfoidaadoor", sum := "d9630acffc5bcd40d400d81b1fe23431cbd217c51a0c58d2c3382518674d5cc8", func := "awardingbody/awardingbodylaw03.ExchangeSwaps", spec := "exchangeSwaps", inPlace := ["internal/abi.NoEscape", "internal/bytealg.IndexByteString", "internal/bytealg.CountString", "internal/bytealg.IndexString"], unfollowed := true, recurses := true, named := ["internal/strconv.uint64pow10", "math/bits.deBruijn32tab", "math/bits.deBruijn64tab", "unicode/utf8.first", "unicode/utf8.acceptRanges", "internal/bytealg.MaxLen"], apart := false, laid := [("math/bits.deBruijn32tab", laid_math_bits_deBruijn32tab), ("math/bits.deBruijn64tab", laid_math_bits_deBruijn64tab), ("internal/strconv.uint64pow10", laid_internal_strconv_uint64pow10), ("unicode/utf8.acceptRanges", laid_unicode_utf8_acceptRanges), ("unicode/utf8.first", laid_unicode_utf8_first)] }
def ExchangeSwapsSaid : Prop := exchangeSwapsRow.holds Tryd.pinned (OpenSpec.ofChange exchangeSwapsSpec)

/-- ITS FALSE NEIGHBOUR: 'it returns false'. Refute it at one input. -/
def exchangeSwapsWrong : ChangeSpec := { name := "exchangeSwaps", fn := fun _ => fun
  | [d1, d2] => { results := [.lit (.bool false)], args := [d1, d2] }
  | _ => none }
def ExchangeSwapsWrongFalsely : Prop := exchangeSwapsRow.holds Tryd.pinned (OpenSpec.ofChange exchangeSwapsWrong)

/-- 'awardingbodylaw03.ExchangeGaps': WHATEVER THE INPUT: true; the input reads as it did. -/
def exchangeGapsSpec : ChangeSpec := { name := "exchangeGaps", fn := fun _ => fun
  | [d1, d2] => { results := [.lit (.bool true)], args := [d1, d2] }
  | _ => none }
def exchangeGapsRow : OpenClaim := { program := "ytdlmgokicfoidaadoor", sum := "d9630acffc5bcd40d400d81b1fe23431cbd217c51a0c58d2c3382518674d5cc8", func := "awardingbody/awardingbodylaw03.ExchangeGaps", spec := "exchangeGaps", inPlace := ["internal/abi.NoEscape", "internal/bytealg.IndexByteString", "internal/bytealg.CountString", "internal/bytealg.IndexString"], unfollowed := true, recurses := true, named := ["internal/strconv.uint64pow10", "math/bits.deBruijn32tab", "math/bits.deBruijn64tab", "unicode/utf8.first", "unicode/utf8.acceptRanges", "internal/bytealg.MaxLen"], apart := false, laid := [("math/bits.deBruijn32tab", laid_math_bits_deBruijn32tab), ("math/bits.deBruijn64tab", laid_math_bits_deBruijn64tab), ("internal/strconv.uint64pow10", laid_internal_strconv_uint64pow10), ("unicode/utf8.acceptRanges", laid_unicode_utf8_acceptRanges), ("unicode/utf8.first", laid_unicode_utf8_first)] }
def ExchangeGapsSaid : Prop := exchangeGapsRow.holds Tryd.pinned (OpenSpec.ofChange exchangeGapsSpec)

/-- ITS FALSE NEIGHBOUR: 'it returns false'. Refute it at one input. -/
def exchangeGapsWrong : ChangeSpec := { name := "exchangeGaps", fn := fun _ => fun
  | [d1, d2] => { results := [.lit (.bool false)], args := [d1, d2] }
  | _ => none }
def ExchangeGapsWrongFalsely : Prop := exchangeGapsRow.holds Tryd.pinned (OpenSpec.ofChange exchangeGapsWrong)

/-- 'awardingbodylaw03.ExchangeGapsClose': WHATEVER THE INPUT: true; the input reads as it did. -/
def exchangeGapsCloseSpec : ChangeSpec := { name := "exchangeGapsClose", fn := fun _ => fun
  | [d] => { results := [.lit (.bool true)], args := [d] }
  | _ => none }
def exchangeGapsCloseRow : OpenClaim := { program := "ytdlmgokicfoidaadoor", sum := "d9630acffc5bcd40d400d81b1fe23431cbd217c51a0c58d2c3382518674d5cc8", func := "awardingbody/awardingbodylaw03.ExchangeGapsClose", spec := "exchangeGapsClose", inPlace := ["internal/abi.NoEscape", "internal/bytealg.IndexByteString", "internal/bytealg.CountString", "internal/bytealg.IndexString"], unfollowed := true, recurses := true, named := ["internal/strconv.uint64pow10", "math/bits.deBruijn32tab", "math/bits.deBruijn64tab", "unicode/utf8.first", "unicode/utf8.acceptRanges", "internal/bytealg.MaxLen"], apart := false, laid := [("math/bits.deBruijn32tab", laid_math_bits_deBruijn32tab), ("math/bits.deBruijn64tab", laid_math_bits_deBruijn64tab), ("internal/strconv.uint64pow10", laid_internal_strconv_uint64pow10), ("unicode/utf8.acceptRanges", laid_unicode_utf8_acceptRanges), ("unicode/utf8.first", laid_unicode_utf8_first)] }
def ExchangeGapsCloseSaid : Prop := exchangeGapsCloseRow.holds Tryd.pinned (OpenSpec.ofChange exchangeGapsCloseSpec)

/-- ITS FALSE NEIGHBOUR: 'it returns false'. Refute it at one input. -/
def exchangeGapsCloseWrong : ChangeSpec := { name := "exchangeGapsClose", fn := fun _ => fun
  | [d] => { results := [.lit (.bool false)], args := [d] }
  | _ => none }
def ExchangeGapsCloseWrongFalsely : Prop := exchangeGapsCloseRow.holds Tryd.pinned (OpenSpec.ofChange exchangeGapsCloseWrong)

/- THE SECOND FORM. 'bulk': how many values and letters a reading holds, each counted each time it is reached (what is shared counts as often as it is met; a slice's spare places count too). A statement '..UptoSaid' is the law's where the arguments, and the package variables that the reading takes, are together of bulk at most 1048576: NARROWER than '..Said'. Prove '..Said' where nothing that the law and all that it calls make is longer than what came in: it says more and counts as full. Else prove '..UptoSaid'. A law counts once. -/
mutual
def uptoBulk {H : Type} : DataW H → Nat
  | .lit (.string bytes) => bytes.length + 1
  | .lit _ => 1
  | .nil => 1
  | .ptr d => uptoBulk d + 1
  | .slice elems spare => uptoBulkAll elems + uptoBulkAll spare + 1
  | .agg parts => uptoBulkAll parts + 1
  | .iface _ d => uptoBulk d + 1
  | .map entries => uptoBulkEntries entries + 1
  | .held _ => 1
def uptoBulkAll {H : Type} : List (DataW H) → Nat
  | [] => 0
  | d :: r => uptoBulk d + uptoBulkAll r
def uptoBulkEntries {H : Type} : List (Lit × DataW H) → Nat
  | [] => 0
  | x :: r => uptoBulkEntry x + uptoBulkEntries r
def uptoBulkEntry {H : Type} : Lit × DataW H → Nat
  | (.string bytes, d) => bytes.length + uptoBulk d + 1
  | (_, d) => uptoBulk d + 1
 end
def uptoSmall : (H : Type) → List (DataW H) → Bool := fun _ ds => decide (uptoBulkAll ds ≤ 1048576)
def OpenSpec.upto (s : _root_.Go.ChangeSpec) : _root_.Go.OpenSpec := { _root_.Go.OpenSpec.ofChange s with cond := some uptoSmall }

/-- 'awardingbodylaw03.ExchangeFormats', WHERE WHAT IT READS IS OF BULK AT MOST 1048576: true; the input reads as it did. -/
def exchangeFormatsUptoRow : OpenClaim := { program := "ytdlmgokicfoidaadoor", sum := "d9630acffc5bcd40d400d81b1fe23431cbd217c51a0c58d2c3382518674d5cc8", func := "awardingbody/awardingbodylaw03.ExchangeFormats", spec := "exchangeFormats", inPlace := ["internal/abi.NoEscape", "internal/bytealg.IndexByteString", "internal/bytealg.CountString", "internal/bytealg.IndexString"], unfollowed := true, recurses := true, named := ["internal/strconv.uint64pow10", "math/bits.deBruijn32tab", "math/bits.deBruijn64tab", "unicode/utf8.first", "unicode/utf8.acceptRanges", "internal/bytealg.MaxLen"], apart := false, laid := [("math/bits.deBruijn32tab", laid_math_bits_deBruijn32tab), ("math/bits.deBruijn64tab", laid_math_bits_deBruijn64tab), ("internal/strconv.uint64pow10", laid_internal_strconv_uint64pow10), ("unicode/utf8.acceptRanges", laid_unicode_utf8_acceptRanges), ("unicode/utf8.first", laid_unicode_utf8_first)], narrowed := true }
def ExchangeFormatsUptoSaid : Prop := exchangeFormatsUptoRow.holds Tryd.pinned (OpenSpec.upto exchangeFormatsSpec)

/-- 'awardingbodylaw03.ExchangeLong', WHERE WHAT IT READS IS OF BULK AT MOST 1048576: true; the input reads as it did. -/
def exchangeLongUptoRow : OpenClaim := { program := "ytdlmgokicfoidaadoor", sum := "d9630acffc5bcd40d400d81b1fe23431cbd217c51a0c58d2c3382518674d5cc8", func := "awardingbody/awardingbodylaw03.ExchangeLong", spec := "exchangeLong", inPlace := ["internal/abi.NoEscape", "internal/bytealg.IndexByteString", "internal/bytealg.CountString", "internal/bytealg.IndexString"], unfollowed := true, recurses := true, named := ["internal/strconv.uint64pow10", "math/bits.deBruijn32tab", "math/bits.deBruijn64tab", "unicode/utf8.first", "unicode/utf8.acceptRanges", "internal/bytealg.MaxLen"], apart := false, laid := [("math/bits.deBruijn32tab", laid_math_bits_deBruijn32tab), ("math/bits.deBruijn64tab", laid_math_bits_deBruijn64tab), ("internal/strconv.uint64pow10", laid_internal_strconv_uint64pow10), ("unicode/utf8.acceptRanges", laid_unicode_utf8_acceptRanges), ("unicode/utf8.first", laid_unicode_utf8_first)], narrowed := true }
def ExchangeLongUptoSaid : Prop := exchangeLongUptoRow.holds Tryd.pinned (OpenSpec.upto exchangeLongSpec)

/-- 'awardingbodylaw03.ExchangeParses', WHERE WHAT IT READS IS OF BULK AT MOST 1048576: true; the input reads as it did. -/
def exchangeParsesUptoRow : OpenClaim := { program := "ytdlmgokicfoidaadoor", sum := "d9630acffc5bcd40d400d81b1fe23431cbd217c51a0c58d2c3382518674d5cc8", func := "awardingbody/awardingbodylaw03.ExchangeParses", spec := "exchangeParses", inPlace := ["internal/bytealg.IndexByteString", "internal/bytealg.CountString", "internal/bytealg.IndexString", "internal/abi.NoEscape"], unfollowed := true, recurses := true, named := ["unicode/utf8.first", "unicode/utf8.acceptRanges", "internal/bytealg.MaxLen", "internal/strconv.uint64pow10", "math/bits.deBruijn32tab", "math/bits.deBruijn64tab"], apart := false, laid := [("math/bits.deBruijn32tab", laid_math_bits_deBruijn32tab), ("math/bits.deBruijn64tab", laid_math_bits_deBruijn64tab), ("internal/strconv.uint64pow10", laid_internal_strconv_uint64pow10), ("unicode/utf8.acceptRanges", laid_unicode_utf8_acceptRanges), ("unicode/utf8.first", laid_unicode_utf8_first)], narrowed := true }
def ExchangeParsesUptoSaid : Prop := exchangeParsesUptoRow.holds Tryd.pinned (OpenSpec.upto exchangeParsesSpec)

/-- 'awardingbodylaw03.ExchangeReads', WHERE WHAT IT READS IS OF BULK AT MOST 1048576: true; the input reads as it did. -/
def exchangeReadsUptoRow : OpenClaim := { program := "ytdlmgokicfoidaadoor", sum := "d9630acffc5bcd40d400d81b1fe23431cbd217c51a0c58d2c3382518674d5cc8", func := "awardingbody/awardingbodylaw03.ExchangeReads", spec := "exchangeReads", inPlace := ["internal/bytealg.IndexByteString", "internal/bytealg.CountString", "internal/bytealg.IndexString", "internal/abi.NoEscape"], unfollowed := true, recurses := true, named := ["unicode/utf8.first", "unicode/utf8.acceptRanges", "internal/bytealg.MaxLen", "internal/strconv.uint64pow10", "math/bits.deBruijn32tab", "math/bits.deBruijn64tab"], apart := false, laid := [("math/bits.deBruijn32tab", laid_math_bits_deBruijn32tab), ("math/bits.deBruijn64tab", laid_math_bits_deBruijn64tab), ("internal/strconv.uint64pow10", laid_internal_strconv_uint64pow10), ("unicode/utf8.acceptRanges", laid_unicode_utf8_acceptRanges), ("unicode/utf8.first", laid_unicode_utf8_first)], narrowed := true }
def ExchangeReadsUptoSaid : Prop := exchangeReadsUptoRow.holds Tryd.pinned (OpenSpec.upto exchangeReadsSpec)

/-- 'awardingbodylaw03.ExchangeChecks', WHERE WHAT IT READS IS OF BULK AT MOST 1048576: true; the input reads as it did. -/
def exchangeChecksUptoRow : OpenClaim := { program := "ytdlmgokicfoidaadoor", sum := "d9630acffc5bcd40d400d81b1fe23431cbd217c51a0c58d2c3382518674d5cc8", func := "awardingbody/awardingbodylaw03.ExchangeChecks", spec := "exchangeChecks", inPlace := ["internal/abi.NoEscape", "internal/bytealg.IndexByteString", "internal/bytealg.CountString", "internal/bytealg.IndexString"], unfollowed := true, recurses := true, named := ["internal/strconv.uint64pow10", "math/bits.deBruijn32tab", "math/bits.deBruijn64tab", "unicode/utf8.first", "unicode/utf8.acceptRanges", "internal/bytealg.MaxLen"], apart := false, laid := [("math/bits.deBruijn32tab", laid_math_bits_deBruijn32tab), ("math/bits.deBruijn64tab", laid_math_bits_deBruijn64tab), ("internal/strconv.uint64pow10", laid_internal_strconv_uint64pow10), ("unicode/utf8.acceptRanges", laid_unicode_utf8_acceptRanges), ("unicode/utf8.first", laid_unicode_utf8_first)], narrowed := true }
def ExchangeChecksUptoSaid : Prop := exchangeChecksUptoRow.holds Tryd.pinned (OpenSpec.upto exchangeChecksSpec)

/-- 'awardingbodylaw03.ExchangeBack', WHERE WHAT IT READS IS OF BULK AT MOST 1048576: true; the input reads as it did. -/
def exchangeBackUptoRow : OpenClaim := { program := "ytdlmgokicfoidaadoor", sum := "d9630acffc5bcd40d400d81b1fe23431cbd217c51a0c58d2c3382518674d5cc8", func := "awardingbody/awardingbodylaw03.ExchangeBack", spec := "exchangeBack", inPlace := ["internal/abi.NoEscape", "internal/bytealg.IndexByteString", "internal/bytealg.CountString", "internal/bytealg.IndexString"], unfollowed := true, recurses := true, named := ["internal/strconv.uint64pow10", "math/bits.deBruijn32tab", "math/bits.deBruijn64tab", "unicode/utf8.first", "unicode/utf8.acceptRanges", "internal/bytealg.MaxLen"], apart := false, laid := [("math/bits.deBruijn32tab", laid_math_bits_deBruijn32tab), ("math/bits.deBruijn64tab", laid_math_bits_deBruijn64tab), ("internal/strconv.uint64pow10", laid_internal_strconv_uint64pow10), ("unicode/utf8.acceptRanges", laid_unicode_utf8_acceptRanges), ("unicode/utf8.first", laid_unicode_utf8_first)], narrowed := true }
def ExchangeBackUptoSaid : Prop := exchangeBackUptoRow.holds Tryd.pinned (OpenSpec.upto exchangeBackSpec)

/-- 'awardingbodylaw03.ExchangeDetects', WHERE WHAT IT READS IS OF BULK AT MOST 1048576: true; the input reads as it did. -/
def exchangeDetectsUptoRow : OpenClaim := { program := "ytdlmgokicfoidaadoor", sum := "d9630acffc5bcd40d400d81b1fe23431cbd217c51a0c58d2c3382518674d5cc8", func := "awardingbody/awardingbodylaw03.ExchangeDetects", spec := "exchangeDetects", inPlace := ["internal/abi.NoEscape", "internal/bytealg.IndexByteString", "internal/bytealg.CountString", "internal/bytealg.IndexString"], unfollowed := true, recurses := true, named := ["internal/strconv.uint64pow10", "math/bits.deBruijn32tab", "math/bits.deBruijn64tab", "unicode/utf8.first", "unicode/utf8.acceptRanges", "internal/bytealg.MaxLen"], apart := false, laid := [("math/bits.deBruijn32tab", laid_math_bits_deBruijn32tab), ("math/bits.deBruijn64tab", laid_math_bits_deBruijn64tab), ("internal/strconv.uint64pow10", laid_internal_strconv_uint64pow10), ("unicode/utf8.acceptRanges", laid_unicode_utf8_acceptRanges), ("unicode/utf8.first", laid_unicode_utf8_first)], narrowed := true }
def ExchangeDetectsUptoSaid : Prop := exchangeDetectsUptoRow.holds Tryd.pinned (OpenSpec.upto exchangeDetectsSpec)

/-- 'awardingbodylaw03.ExchangeSwaps', WHERE WHAT IT READS IS OF BULK AT MOST 1048576: true; the input reads as it did. -/
def exchangeSwapsUptoRow : OpenClaim := { program := "ytdlmgokicfoidaadoor", sum := "d9630acffc5bcd40d400d81b1fe23431cbd217c51a0c58d2c3382518674d5cc8", func := "awardingbody/awardingbodylaw03.ExchangeSwaps", spec := "exchangeSwaps", inPlace := ["internal/abi.NoEscape", "internal/bytealg.IndexByteString", "internal/bytealg.CountString", "internal/bytealg.IndexString"], unfollowed := true, recurses := true, named := ["internal/strconv.uint64pow10", "math/bits.deBruijn32tab", "math/bits.deBruijn64tab", "unicode/utf8.first", "unicode/utf8.acceptRanges", "internal/bytealg.MaxLen"], apart := false, laid := [("math/bits.deBruijn32tab", laid_math_bits_deBruijn32tab), ("math/bits.deBruijn64tab", laid_math_bits_deBruijn64tab), ("internal/strconv.uint64pow10", laid_internal_strconv_uint64pow10), ("unicode/utf8.acceptRanges", laid_unicode_utf8_acceptRanges), ("unicode/utf8.first", laid_unicode_utf8_first)], narrowed := true }
def ExchangeSwapsUptoSaid : Prop := exchangeSwapsUptoRow.holds Tryd.pinned (OpenSpec.upto exchangeSwapsSpec)

/-- 'awardingbodylaw03.ExchangeGaps', WHERE WHAT IT READS IS OF BULK AT MOST 1048576: true; the input reads as it did. -/
def exchangeGapsUptoRow : OpenClaim := { program := "ytdlmgokicfoidaadoor", sum := "d9630acffc5bcd40d400d81b1fe23431cbd217c51a0c58d2c3382518674d5cc8", func := "awardingbody/awardingbodylaw03.ExchangeGaps", spec := "exchangeGaps", inPlace := ["internal/abi.NoEscape", "internal/bytealg.IndexByteString", "internal/bytealg.CountString", "internal/bytealg.IndexString"], unfollowed := true, recurses := true, named := ["internal/strconv.uint64pow10", "math/bits.deBruijn32tab", "math/bits.deBruijn64tab", "unicode/utf8.first", "unicode/utf8.acceptRanges", "internal/bytealg.MaxLen"], apart := false, laid := [("math/bits.deBruijn32tab", laid_math_bits_deBruijn32tab), ("math/bits.deBruijn64tab", laid_math_bits_deBruijn64tab), ("internal/strconv.uint64pow10", laid_internal_strconv_uint64pow10), ("unicode/utf8.acceptRanges", laid_unicode_utf8_acceptRanges), ("unicode/utf8.first", laid_unicode_utf8_first)], narrowed := true }
def ExchangeGapsUptoSaid : Prop := exchangeGapsUptoRow.holds Tryd.pinned (OpenSpec.upto exchangeGapsSpec)

/-- 'awardingbodylaw03.ExchangeGapsClose', WHERE WHAT IT READS IS OF BULK AT MOST 1048576: true; the input reads as it did. -/
def exchangeGapsCloseUptoRow : OpenClaim := { program := "ytdlmgokicfoidaadoor", sum := "d9630acffc5bcd40d400d81b1fe23431cbd217c51a0c58d2c3382518674d5cc8", func := "awardingbody/awardingbodylaw03.ExchangeGapsClose", spec := "exchangeGapsClose", inPlace := ["internal/abi.NoEscape", "internal/bytealg.IndexByteString", "internal/bytealg.CountString", "internal/bytealg.IndexString"], unfollowed := true, recurses := true, named := ["internal/strconv.uint64pow10", "math/bits.deBruijn32tab", "math/bits.deBruijn64tab", "unicode/utf8.first", "unicode/utf8.acceptRanges", "internal/bytealg.MaxLen"], apart := false, laid := [("math/bits.deBruijn32tab", laid_math_bits_deBruijn32tab), ("math/bits.deBruijn64tab", laid_math_bits_deBruijn64tab), ("internal/strconv.uint64pow10", laid_internal_strconv_uint64pow10), ("unicode/utf8.acceptRanges", laid_unicode_utf8_acceptRanges), ("unicode/utf8.first", laid_unicode_utf8_first)], narrowed := true }
def ExchangeGapsCloseUptoSaid : Prop := exchangeGapsCloseUptoRow.holds Tryd.pinned (OpenSpec.upto exchangeGapsCloseSpec)

end Rows
end Go.Proofs.YtdlmgokicfoidaaDoor
