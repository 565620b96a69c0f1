/-
  NARROWER THAN 'FOR EVERY INPUT', by the rows' own cells (each row's printed sentence says how): IsaEncodes: laid · IsaDecodes: laid · IsaWords: laid · IsaParses: laid · IsaCodes: laid · IsaBack: laid · IsaNumbers: laid.
  DERIVED. THE GIVEN ROWS OF THIS SEAT. 7 by the template 'for every input the law returns true; each argument reads behind the call as it read before'; 0 by the template 'total and deterministic' (their statements: YtpgohbnaphkngaaDoorTotals.lean).
  GIVEN WITH THE SEED: the statements are not yours to turn. If you find one false, say at which input.
  Laid BY PROGRAM, IN A SANDBOX (cutbox-rows.mjs): the forced cells as the released guide's own fill.sh prints them over the translation 7c52555239a612fe… (all of the seat's roots in one cut). By AI agents, Wed Nov 11 2026. No macro, syntax, notation, axiom, sorry.
-/
import Derived.Test.YtpgohbnaphkngaaDoorChecked
import GoSem.PinnedTables
import GoSem.Claim
import GoSem.ClaimJoined
import GoSem.ClaimMapViews
import Derived.JoinedTies
import Derived.KernelRfl
namespace Go.Proofs.YtpgohbnaphkngaaDoor
/- THE CELL 'sum', in the pinned program and in every row, IS THE sha256 OF THE DUMP (.gsa) THAT YtpgohbnaphkngaaDoorProg.lean LOADS. Nothing in Lean hashes anything: it is a label: what it is worth is what the hold of that sum in a sandbox is worth. -/
noncomputable def Tryd.pinned : Pinned := { name := "ytpgohbnaphkngaadoor", sum := "7c52555239a612fed8698a9b629033fb23eaf688d9e24f1f45a09fc80e6c7560", checked := Tryd.checked }
namespace Rows
def none {H : Type} : Left H := { results := [], args := [] }

/- WHAT THE LISTED PACKAGE-LEVEL VARIABLES READ AS WHEN THE CALL BEGINS. Each datum BY PROGRAM (the guide's laid-datum.mjs) off the statement by which the dump's own 'gosem.cut.vars' lays the variable. In a bare row this is a premise. The card (YtpgohbnaphkngaaDoorCards.lean) ties it to the program's text. -/
def laid_math_bits_deBruijn32tab {H : Type} : DataW H := .agg [.lit (.int .u8 0), .lit (.int .u8 1), .lit (.int .u8 28), .lit (.int .u8 2), .lit (.int .u8 29), .lit (.int .u8 14), .lit (.int .u8 24), .lit (.int .u8 3), .lit (.int .u8 30), .lit (.int .u8 22), .lit (.int .u8 20), .lit (.int .u8 15), .lit (.int .u8 25), .lit (.int .u8 17), .lit (.int .u8 4), .lit (.int .u8 8), .lit (.int .u8 31), .lit (.int .u8 27), .lit (.int .u8 13), .lit (.int .u8 23), .lit (.int .u8 21), .lit (.int .u8 19), .lit (.int .u8 16), .lit (.int .u8 7), .lit (.int .u8 26), .lit (.int .u8 12), .lit (.int .u8 18), .lit (.int .u8 6), .lit (.int .u8 11), .lit (.int .u8 5), .lit (.int .u8 10), .lit (.int .u8 9)]
def laid_math_bits_deBruijn64tab {H : Type} : DataW H := .agg [.lit (.int .u8 0), .lit (.int .u8 1), .lit (.int .u8 56), .lit (.int .u8 2), .lit (.int .u8 57), .lit (.int .u8 49), .lit (.int .u8 28), .lit (.int .u8 3), .lit (.int .u8 61), .lit (.int .u8 58), .lit (.int .u8 42), .lit (.int .u8 50), .lit (.int .u8 38), .lit (.int .u8 29), .lit (.int .u8 17), .lit (.int .u8 4), .lit (.int .u8 62), .lit (.int .u8 47), .lit (.int .u8 59), .lit (.int .u8 36), .lit (.int .u8 45), .lit (.int .u8 43), .lit (.int .u8 51), .lit (.int .u8 22), .lit (.int .u8 53), .lit (.int .u8 39), .lit (.int .u8 33), .lit (.int .u8 30), .lit (.int .u8 24), .lit (.int .u8 18), .lit (.int .u8 12), .lit (.int .u8 5), .lit (.int .u8 63), .lit (.int .u8 55), .lit (.int .u8 48), .lit (.int .u8 27), .lit (.int .u8 60), .lit (.int .u8 41), .lit (.int .u8 37), .lit (.int .u8 16), .lit (.int .u8 46), .lit (.int .u8 35), .lit (.int .u8 44), .lit (.int .u8 21), .lit (.int .u8 52), .lit (.int .u8 32), .lit (.int .u8 23), .lit (.int .u8 11), .lit (.int .u8 54), .lit (.int .u8 26), .lit (.int .u8 40), .lit (.int .u8 15), .lit (.int .u8 34), .lit (.int .u8 20), .lit (.int .u8 31), .lit (.int .u8 10), .lit (.int .u8 25), .lit (.int .u8 14), .lit (.int .u8 19), .lit (.int .u8 9), .lit (.int .u8 13), .lit (.int .u8 8), .lit (.int .u8 7), .lit (.int .u8 6)]
def laid_internal_strconv_uint64pow10 {H : Type} : DataW H := .agg [.lit (.int .u64 1), .lit (.int .u64 10), .lit (.int .u64 100), .lit (.int .u64 1000), .lit (.int .u64 10000), .lit (.int .u64 100000), .lit (.int .u64 1000000), .lit (.int .u64 10000000), .lit (.int .u64 100000000), .lit (.int .u64 1000000000), .lit (.int .u64 10000000000), .lit (.int .u64 100000000000), .lit (.int .u64 1000000000000), .lit (.int .u64 10000000000000), .lit (.int .u64 100000000000000), .lit (.int .u64 1000000000000000), .lit (.int .u64 10000000000000000), .lit (.int .u64 100000000000000000), .lit (.int .u64 1000000000000000000), .lit (.int .u64 10000000000000000000)]
def laid_unicode_utf8_acceptRanges {H : Type} : DataW H := .agg [.agg [.lit (.int .u8 128), .lit (.int .u8 191)], .agg [.lit (.int .u8 160), .lit (.int .u8 191)], .agg [.lit (.int .u8 128), .lit (.int .u8 159)], .agg [.lit (.int .u8 144), .lit (.int .u8 191)], .agg [.lit (.int .u8 128), .lit (.int .u8 143)], .agg [.lit (.int .u8 0), .lit (.int .u8 0)], .agg [.lit (.int .u8 0), .lit (.int .u8 0)], .agg [.lit (.int .u8 0), .lit (.int .u8 0)], .agg [.lit (.int .u8 0), .lit (.int .u8 0)], .agg [.lit (.int .u8 0), .lit (.int .u8 0)], .agg [.lit (.int .u8 0), .lit (.int .u8 0)], .agg [.lit (.int .u8 0), .lit (.int .u8 0)], .agg [.lit (.int .u8 0), .lit (.int .u8 0)], .agg [.lit (.int .u8 0), .lit (.int .u8 0)], .agg [.lit (.int .u8 0), .lit (.int .u8 0)], .agg [.lit (.int .u8 0), .lit (.int .u8 0)]]
def laid_dormouse_isa_ops {H : Type} : DataW H := .agg [.agg [.lit (.int .i64 1), .lit (.string [110, 111, 112]), .lit (.string [])], .agg [.lit (.int .i64 2), .lit (.string [109, 111, 118]), .lit (.string [97, 98])], .agg [.lit (.int .i64 3), .lit (.string [97, 100, 100]), .lit (.string [97, 98, 99])], .agg [.lit (.int .i64 4), .lit (.string [115, 117, 98]), .lit (.string [97, 98, 99])], .agg [.lit (.int .i64 5), .lit (.string [109, 117, 108]), .lit (.string [97, 98, 99])], .agg [.lit (.int .i64 6), .lit (.string [100, 105, 118]), .lit (.string [97, 98, 99])], .agg [.lit (.int .i64 7), .lit (.string [114, 101, 109]), .lit (.string [97, 98, 99])], .agg [.lit (.int .i64 8), .lit (.string [97, 110, 100]), .lit (.string [97, 98, 99])], .agg [.lit (.int .i64 9), .lit (.string [111, 114]), .lit (.string [97, 98, 99])], .agg [.lit (.int .i64 10), .lit (.string [120, 111, 114]), .lit (.string [97, 98, 99])], .agg [.lit (.int .i64 11), .lit (.string [115, 104, 108]), .lit (.string [97, 98, 99])], .agg [.lit (.int .i64 12), .lit (.string [115, 104, 114]), .lit (.string [97, 98, 99])], .agg [.lit (.int .i64 13), .lit (.string [115, 97, 114]), .lit (.string [97, 98, 99])], .agg [.lit (.int .i64 14), .lit (.string [115, 108, 116]), .lit (.string [97, 98, 99])], .agg [.lit (.int .i64 15), .lit (.string [115, 108, 116, 117]), .lit (.string [97, 98, 99])], .agg [.lit (.int .i64 16), .lit (.string [97, 100, 100, 105]), .lit (.string [97, 98, 105])], .agg [.lit (.int .i64 17), .lit (.string [109, 111, 118, 105]), .lit (.string [97, 105])], .agg [.lit (.int .i64 18), .lit (.string [109, 111, 118, 104, 105]), .lit (.string [97, 105])], .agg [.lit (.int .i64 20), .lit (.string [108, 100, 49]), .lit (.string [97, 98, 105])], .agg [.lit (.int .i64 21), .lit (.string [108, 100, 50]), .lit (.string [97, 98, 105])], .agg [.lit (.int .i64 22), .lit (.string [108, 100, 52]), .lit (.string [97, 98, 105])], .agg [.lit (.int .i64 23), .lit (.string [108, 100, 56]), .lit (.string [97, 98, 105])], .agg [.lit (.int .i64 24), .lit (.string [115, 116, 49]), .lit (.string [97, 98, 105])], .agg [.lit (.int .i64 25), .lit (.string [115, 116, 50]), .lit (.string [97, 98, 105])], .agg [.lit (.int .i64 26), .lit (.string [115, 116, 52]), .lit (.string [97, 98, 105])], .agg [.lit (.int .i64 27), .lit (.string [115, 116, 56]), .lit (.string [97, 98, 105])], .agg [.lit (.int .i64 30), .lit (.string [98, 101, 113]), .lit (.string [97, 98, 105])], .agg [.lit (.int .i64 31), .lit (.string [98, 110, 101]), .lit (.string [97, 98, 105])], .agg [.lit (.int .i64 32), .lit (.string [98, 108, 116]), .lit (.string [97, 98, 105])], .agg [.lit (.int .i64 33), .lit (.string [98, 108, 116, 117]), .lit (.string [97, 98, 105])], .agg [.lit (.int .i64 34), .lit (.string [106, 109, 112]), .lit (.string [105])], .agg [.lit (.int .i64 35), .lit (.string [99, 97, 108, 108]), .lit (.string [97, 105])], .agg [.lit (.int .i64 36), .lit (.string [106, 114]), .lit (.string [98])], .agg [.lit (.int .i64 37), .lit (.string [99, 97, 108, 108, 114]), .lit (.string [97, 98])], .agg [.lit (.int .i64 38), .lit (.string [108, 101, 97]), .lit (.string [97, 105])], .agg [.lit (.int .i64 39), .lit (.string [116, 108, 115]), .lit (.string [97, 105])], .agg [.lit (.int .i64 40), .lit (.string [115, 121, 115]), .lit (.string [])], .agg [.lit (.int .i64 41), .lit (.string [116, 114, 97, 112]), .lit (.string [105])]]
/-- One of Go's own tables, pinned by name: the form's constant. -/
def laid_unicode_utf8_first : DataW Unit := Go.Pinned.utf8First

/-- 'dormouselaw12.IsaEncodes': WHATEVER THE INPUT: true; the input reads as it did. -/
def isaEncodesSpec : ChangeSpec := { name := "isaEncodes", fn := fun _ => fun
  | [d1, d2, d3, d4, d5] => { results := [.lit (.bool true)], args := [d1, d2, d3, d4, d5] }
  | _ => none }
def isaEncodesRow : OpenClaim := { program := "ytpgohbnaphkngaadoor", sum := "7c52555239a612fed8698a9b629033fb23eaf688d9e24f1f45a09fc80e6c7560", func := "dormouse/dormouselaw12.IsaEncodes", spec := "isaEncodes", inPlace := ["internal/bytealg.IndexByteString", "internal/bytealg.IndexString", "internal/bytealg.CountString"], unfollowed := true, recurses := true, named := ["dormouse/isa.ops", "internal/bytealg.MaxLen", "internal/strconv.uint64pow10", "math/bits.deBruijn32tab", "math/bits.deBruijn64tab", "unicode/utf8.first", "unicode/utf8.acceptRanges"], apart := false, laid := [("math/bits.deBruijn32tab", laid_math_bits_deBruijn32tab), ("math/bits.deBruijn64tab", laid_math_bits_deBruijn64tab), ("internal/strconv.uint64pow10", laid_internal_strconv_uint64pow10), ("unicode/utf8.acceptRanges", laid_unicode_utf8_acceptRanges), ("dormouse/isa.ops", laid_dormouse_isa_ops), ("unicode/utf8.first", laid_unicode_utf8_first)] }
def IsaEncodesSaid : Prop := isaEncodesRow.holds Tryd.pinned (OpenSpec.ofChange isaEncodesSpec)

/-- ITS FALSE NEIGHBOUR: 'it returns false'. Refute it at one input. -/
def isaEncodesWrong : ChangeSpec := { name := "isaEncodes", fn := fun _ => fun
  | [d1, d2, d3, d4, d5] => { results := [.lit (.bool false)], args := [d1, d2, d3, d4, d5] }
  | _ => none }
def IsaEncodesWrongFalsely : Prop := isaEncodesRow.holds Tryd.pinned (OpenSpec.ofChange isaEncodesWrong)

/-- 'dormouselaw12.IsaDecodes': WHATEVER THE INPUT: true; the input reads as it did. -/
def isaDecodesSpec : ChangeSpec := { name := "isaDecodes", fn := fun _ => fun
  | [d] => { results := [.lit (.bool true)], args := [d] }
  | _ => none }
def isaDecodesRow : OpenClaim := { program := "ytpgohbnaphkngaadoor", sum := "7c52555239a612fed8698a9b629033fb23eaf688d9e24f1f45a09fc80e6c7560", func := "dormouse/dormouselaw12.IsaDecodes", spec := "isaDecodes", inPlace := ["internal/bytealg.IndexByteString", "internal/bytealg.IndexString", "internal/bytealg.CountString"], unfollowed := true, recurses := true, named := ["dormouse/isa.ops", "internal/bytealg.MaxLen", "internal/strconv.uint64pow10", "math/bits.deBruijn32tab", "math/bits.deBruijn64tab", "unicode/utf8.first", "unicode/utf8.acceptRanges"], apart := false, laid := [("math/bits.deBruijn32tab", laid_math_bits_deBruijn32tab), ("math/bits.deBruijn64tab", laid_math_bits_deBruijn64tab), ("internal/strconv.uint64pow10", laid_internal_strconv_uint64pow10), ("unicode/utf8.acceptRanges", laid_unicode_utf8_acceptRanges), ("dormouse/isa.ops", laid_dormouse_isa_ops), ("unicode/utf8.first", laid_unicode_utf8_first)] }
def IsaDecodesSaid : Prop := isaDecodesRow.holds Tryd.pinned (OpenSpec.ofChange isaDecodesSpec)

/-- ITS FALSE NEIGHBOUR: 'it returns false'. Refute it at one input. -/
def isaDecodesWrong : ChangeSpec := { name := "isaDecodes", fn := fun _ => fun
  | [d] => { results := [.lit (.bool false)], args := [d] }
  | _ => none }
def IsaDecodesWrongFalsely : Prop := isaDecodesRow.holds Tryd.pinned (OpenSpec.ofChange isaDecodesWrong)

/-- 'dormouselaw12.IsaWords': WHATEVER THE INPUT: true; the input reads as it did. -/
def isaWordsSpec : ChangeSpec := { name := "isaWords", fn := fun _ => fun
  | [d1, d2, d3, d4, d5] => { results := [.lit (.bool true)], args := [d1, d2, d3, d4, d5] }
  | _ => none }
def isaWordsRow : OpenClaim := { program := "ytpgohbnaphkngaadoor", sum := "7c52555239a612fed8698a9b629033fb23eaf688d9e24f1f45a09fc80e6c7560", func := "dormouse/dormouselaw12.IsaWords", spec := "isaWords", inPlace := ["internal/bytealg.IndexByteString", "internal/bytealg.IndexString", "internal/bytealg.CountString"], unfollowed := true, recurses := true, named := ["dormouse/isa.ops", "internal/bytealg.MaxLen", "internal/strconv.uint64pow10", "math/bits.deBruijn32tab", "math/bits.deBruijn64tab", "unicode/utf8.first", "unicode/utf8.acceptRanges"], apart := false, laid := [("math/bits.deBruijn32tab", laid_math_bits_deBruijn32tab), ("math/bits.deBruijn64tab", laid_math_bits_deBruijn64tab), ("internal/strconv.uint64pow10", laid_internal_strconv_uint64pow10), ("unicode/utf8.acceptRanges", laid_unicode_utf8_acceptRanges), ("dormouse/isa.ops", laid_dormouse_isa_ops), ("unicode/utf8.first", laid_unicode_utf8_first)] }
def IsaWordsSaid : Prop := isaWordsRow.holds Tryd.pinned (OpenSpec.ofChange isaWordsSpec)

/-- ITS FALSE NEIGHBOUR: 'it returns false'. Refute it at one input. -/
def isaWordsWrong : ChangeSpec := { name := "isaWords", fn := fun _ => fun
  | [d1, d2, d3, d4, d5] => { results := [.lit (.bool false)], args := [d1, d2, d3, d4, d5] }
  | _ => none }
def IsaWordsWrongFalsely : Prop := isaWordsRow.holds Tryd.pinned (OpenSpec.ofChange isaWordsWrong)

/-- 'dormouselaw12.IsaParses': WHATEVER THE INPUT: true; the input reads as it did. -/
def isaParsesSpec : ChangeSpec := { name := "isaParses", fn := fun _ => fun
  | [d] => { results := [.lit (.bool true)], args := [d] }
  | _ => none }
def isaParsesRow : OpenClaim := { program := "ytpgohbnaphkngaadoor", sum := "7c52555239a612fed8698a9b629033fb23eaf688d9e24f1f45a09fc80e6c7560", func := "dormouse/dormouselaw12.IsaParses", spec := "isaParses", inPlace := ["internal/bytealg.IndexByteString", "internal/bytealg.IndexString", "internal/bytealg.CountString"], unfollowed := true, recurses := true, named := ["dormouse/isa.ops", "internal/bytealg.MaxLen", "internal/strconv.uint64pow10", "math/bits.deBruijn32tab", "math/bits.deBruijn64tab", "unicode/utf8.first", "unicode/utf8.acceptRanges"], apart := false, laid := [("math/bits.deBruijn32tab", laid_math_bits_deBruijn32tab), ("math/bits.deBruijn64tab", laid_math_bits_deBruijn64tab), ("internal/strconv.uint64pow10", laid_internal_strconv_uint64pow10), ("unicode/utf8.acceptRanges", laid_unicode_utf8_acceptRanges), ("dormouse/isa.ops", laid_dormouse_isa_ops), ("unicode/utf8.first", laid_unicode_utf8_first)] }
def IsaParsesSaid : Prop := isaParsesRow.holds Tryd.pinned (OpenSpec.ofChange isaParsesSpec)

/-- ITS FALSE NEIGHBOUR: 'it returns false'. Refute it at one input. -/
def isaParsesWrong : ChangeSpec := { name := "isaParses", fn := fun _ => fun
  | [d] => { results := [.lit (.bool false)], args := [d] }
  | _ => none }
def IsaParsesWrongFalsely : Prop := isaParsesRow.holds Tryd.pinned (OpenSpec.ofChange isaParsesWrong)

/-- 'dormouselaw12.IsaCodes': WHATEVER THE INPUT: true; the input reads as it did. -/
def isaCodesSpec : ChangeSpec := { name := "isaCodes", fn := fun _ => fun
  | [d] => { results := [.lit (.bool true)], args := [d] }
  | _ => none }
def isaCodesRow : OpenClaim := { program := "ytpgohbnaphkngaadoor", sum := "7c52555239a612fed8698a9b629033fb23eaf688d9e24f1f45a09fc80e6c7560", func := "dormouse/dormouselaw12.IsaCodes", spec := "isaCodes", inPlace := ["internal/bytealg.IndexByteString", "internal/bytealg.IndexString", "internal/bytealg.CountString"], unfollowed := true, recurses := true, named := ["dormouse/isa.ops", "internal/bytealg.MaxLen", "internal/strconv.uint64pow10", "math/bits.deBruijn32tab", "math/bits.deBruijn64tab", "unicode/utf8.first", "unicode/utf8.acceptRanges"], apart := false, laid := [("math/bits.deBruijn32tab", laid_math_bits_deBruijn32tab), ("math/bits.deBruijn64tab", laid_math_bits_deBruijn64tab), ("internal/strconv.uint64pow10", laid_internal_strconv_uint64pow10), ("unicode/utf8.acceptRanges", laid_unicode_utf8_acceptRanges), ("dormouse/isa.ops", laid_dormouse_isa_ops), ("unicode/utf8.first", laid_unicode_utf8_first)] }
def IsaCodesSaid : Prop := isaCodesRow.holds Tryd.pinned (OpenSpec.ofChange isaCodesSpec)

/-- ITS FALSE NEIGHBOUR: 'it returns false'. Refute it at one input. -/
def isaCodesWrong : ChangeSpec := { name := "isaCodes", fn := fun _ => fun
  | [d] => { results := [.lit (.bool false)], args := [d] }
  | _ => none }
def IsaCodesWrongFalsely : Prop := isaCodesRow.holds Tryd.pinned (OpenSpec.ofChange isaCodesWrong)

/-- 'dormouselaw12.IsaBack': WHATEVER THE INPUT: true; the input reads as it did. -/
def isaBackSpec : ChangeSpec := { name := "isaBack", fn := fun _ => fun
  | [d1, d2, d3, d4, d5, d6] => { results := [.lit (.bool true)], args := [d1, d2, d3, d4, d5, d6] }
  | _ => none }
def isaBackRow : OpenClaim := { program := "ytpgohbnaphkngaadoor", sum := "7c52555239a612fed8698a9b629033fb23eaf688d9e24f1f45a09fc80e6c7560", func := "dormouse/dormouselaw12.IsaBack", spec := "isaBack", inPlace := ["internal/bytealg.IndexByteString", "internal/bytealg.IndexString", "internal/bytealg.CountString"], unfollowed := true, recurses := true, named := ["dormouse/isa.ops", "internal/bytealg.MaxLen", "internal/strconv.uint64pow10", "math/bits.deBruijn32tab", "math/bits.deBruijn64tab", "unicode/utf8.first", "unicode/utf8.acceptRanges"], apart := false, laid := [("math/bits.deBruijn32tab", laid_math_bits_deBruijn32tab), ("math/bits.deBruijn64tab", laid_math_bits_deBruijn64tab), ("internal/strconv.uint64pow10", laid_internal_strconv_uint64pow10), ("unicode/utf8.acceptRanges", laid_unicode_utf8_acceptRanges), ("dormouse/isa.ops", laid_dormouse_isa_ops), ("unicode/utf8.first", laid_unicode_utf8_first)] }
def IsaBackSaid : Prop := isaBackRow.holds Tryd.pinned (OpenSpec.ofChange isaBackSpec)

/-- ITS FALSE NEIGHBOUR: 'it returns false'. Refute it at one input. -/
def isaBackWrong : ChangeSpec := { name := "isaBack", fn := fun _ => fun
  | [d1, d2, d3, d4, d5, d6] => { results := [.lit (.bool false)], args := [d1, d2, d3, d4, d5, d6] }
  | _ => none }
def IsaBackWrongFalsely : Prop := isaBackRow.holds Tryd.pinned (OpenSpec.ofChange isaBackWrong)

/-- 'dormouselaw12.IsaNumbers': WHATEVER THE INPUT: true; the input reads as it did. -/
def isaNumbersSpec : ChangeSpec := { name := "isaNumbers", fn := fun _ => fun
  | [d1, d2] => { results := [.lit (.bool true)], args := [d1, d2] }
  | _ => none }
def isaNumbersRow : OpenClaim := { program := "ytpgohbnaphkngaadoor", sum := "7c52555239a612fed8698a9b629033fb23eaf688d9e24f1f45a09fc80e6c7560", func := "dormouse/dormouselaw12.IsaNumbers", spec := "isaNumbers", inPlace := ["internal/bytealg.IndexByteString", "internal/bytealg.IndexString", "internal/bytealg.CountString"], unfollowed := true, recurses := true, named := ["dormouse/isa.ops", "internal/bytealg.MaxLen", "internal/strconv.uint64pow10", "math/bits.deBruijn32tab", "math/bits.deBruijn64tab", "unicode/utf8.first", "unicode/utf8.acceptRanges"], apart := false, laid := [("math/bits.deBruijn32tab", laid_math_bits_deBruijn32tab), ("math/bits.deBruijn64tab", laid_math_bits_deBruijn64tab), ("internal/strconv.uint64pow10", laid_internal_strconv_uint64pow10), ("unicode/utf8.acceptRanges", laid_unicode_utf8_acceptRanges), ("dormouse/isa.ops", laid_dormouse_isa_ops), ("unicode/utf8.first", laid_unicode_utf8_first)] }
def IsaNumbersSaid : Prop := isaNumbersRow.holds Tryd.pinned (OpenSpec.ofChange isaNumbersSpec)

/-- ITS FALSE NEIGHBOUR: 'it returns false'. Refute it at one input. -/
def isaNumbersWrong : ChangeSpec := { name := "isaNumbers", fn := fun _ => fun
  | [d1, d2] => { results := [.lit (.bool false)], args := [d1, d2] }
  | _ => none }
def IsaNumbersWrongFalsely : Prop := isaNumbersRow.holds Tryd.pinned (OpenSpec.ofChange isaNumbersWrong)

/- THE SECOND FORM. 'bulk': how many values and letters a reading holds, each counted each time it is reached (what is shared counts as often as it is met; a slice's spare places count too). A statement '..UptoSaid' is the law's where the arguments, and the package variables that the reading takes, are together of bulk at most 1048576: NARROWER than '..Said'. Prove '..Said' where nothing that the law and all that it calls make is longer than what came in: it says more and counts as full. Else prove '..UptoSaid'. A law counts once. -/
mutual
def uptoBulk {H : Type} : DataW H → Nat
  | .lit (.string bytes) => bytes.length + 1
  | .lit _ => 1
  | .nil => 1
  | .ptr d => uptoBulk d + 1
  | .slice elems spare => uptoBulkAll elems + uptoBulkAll spare + 1
  | .agg parts => uptoBulkAll parts + 1
  | .iface _ d => uptoBulk d + 1
  | .map entries => uptoBulkEntries entries + 1
  | .held _ => 1
def uptoBulkAll {H : Type} : List (DataW H) → Nat
  | [] => 0
  | d :: r => uptoBulk d + uptoBulkAll r
def uptoBulkEntries {H : Type} : List (Lit × DataW H) → Nat
  | [] => 0
  | x :: r => uptoBulkEntry x + uptoBulkEntries r
def uptoBulkEntry {H : Type} : Lit × DataW H → Nat
  | (.string bytes, d) => bytes.length + uptoBulk d + 1
  | (_, d) => uptoBulk d + 1
 end
def uptoSmall : (H : Type) → List (DataW H) → Bool := fun _ ds => decide (uptoBulkAll ds ≤ 1048576)
def OpenSpec.upto (s : _root_.Go.ChangeSpec) : _root_.Go.OpenSpec := { _root_.Go.OpenSpec.ofChange s with cond := some uptoSmall }

/-- 'dormouselaw12.IsaEncodes', WHERE WHAT IT READS IS OF BULK AT MOST 1048576: true; the input reads as it did. -/
def isaEncodesUptoRow : OpenClaim := { program := "ytpgohbnaphkngaadoor", sum := "7c52555239a612fed8698a9b629033fb23eaf688d9e24f1f45a09fc80e6c7560", func := "dormouse/dormouselaw12.IsaEncodes", spec := "isaEncodes", inPlace := ["internal/bytealg.IndexByteString", "internal/bytealg.IndexString", "internal/bytealg.CountString"], unfollowed := true, recurses := true, named := ["dormouse/isa.ops", "internal/bytealg.MaxLen", "internal/strconv.uint64pow10", "math/bits.deBruijn32tab", "math/bits.deBruijn64tab", "unicode/utf8.first", "unicode/utf8.acceptRanges"], apart := false, laid := [("math/bits.deBruijn32tab", laid_math_bits_deBruijn32tab), ("math/bits.deBruijn64tab", laid_math_bits_deBruijn64tab), ("internal/strconv.uint64pow10", laid_internal_strconv_uint64pow10), ("unicode/utf8.acceptRanges", laid_unicode_utf8_acceptRanges), ("dormouse/isa.ops", laid_dormouse_isa_ops), ("unicode/utf8.first", laid_unicode_utf8_first)], narrowed := true }
def IsaEncodesUptoSaid : Prop := isaEncodesUptoRow.holds Tryd.pinned (OpenSpec.upto isaEncodesSpec)

/-- 'dormouselaw12.IsaDecodes', WHERE WHAT IT READS IS OF BULK AT MOST 1048576: true; the input reads as it did. -/
def isaDecodesUptoRow : OpenClaim := { program := "ytpgohbnaphkngaadoor", sum := "7c52555239a612fed8698a9b629033fb23eaf688d9e24f1f45a09fc80e6c7560", func := "dormouse/dormouselaw12.IsaDecodes", spec := "isaDecodes", inPlace := ["internal/bytealg.IndexByteString", "internal/bytealg.IndexString", "internal/bytealg.CountString"], unfollowed := true, recurses := true, named := ["dormouse/isa.ops", "internal/bytealg.MaxLen", "internal/strconv.uint64pow10", "math/bits.deBruijn32tab", "math/bits.deBruijn64tab", "unicode/utf8.first", "unicode/utf8.acceptRanges"], apart := false, laid := [("math/bits.deBruijn32tab", laid_math_bits_deBruijn32tab), ("math/bits.deBruijn64tab", laid_math_bits_deBruijn64tab), ("internal/strconv.uint64pow10", laid_internal_strconv_uint64pow10), ("unicode/utf8.acceptRanges", laid_unicode_utf8_acceptRanges), ("dormouse/isa.ops", laid_dormouse_isa_ops), ("unicode/utf8.first", laid_unicode_utf8_first)], narrowed := true }
def IsaDecodesUptoSaid : Prop := isaDecodesUptoRow.holds Tryd.pinned (OpenSpec.upto isaDecodesSpec)

/-- 'dormouselaw12.IsaWords', WHERE WHAT IT READS IS OF BULK AT MOST 1048576: true; the input reads as it did. -/
def isaWordsUptoRow : OpenClaim := { program := "ytpgohbnaphkngaadoor", sum := "7c52555239a612fed8698a9b629033fb23eaf688d9e24f1f45a09fc80e6c7560", func := "dormouse/dormouselaw12.IsaWords", spec := "isaWords", inPlace := ["internal/bytealg.IndexByteString", "internal/bytealg.IndexString", "internal/bytealg.CountString"], unfollowed := true, recurses := true, named := ["dormouse/isa.ops", "internal/bytealg.MaxLen", "internal/strconv.uint64pow10", "math/bits.deBruijn32tab", "math/bits.deBruijn64tab", "unicode/utf8.first", "unicode/utf8.acceptRanges"], apart := false, laid := [("math/bits.deBruijn32tab", laid_math_bits_deBruijn32tab), ("math/bits.deBruijn64tab", laid_math_bits_deBruijn64tab), ("internal/strconv.uint64pow10", laid_internal_strconv_uint64pow10), ("unicode/utf8.acceptRanges", laid_unicode_utf8_acceptRanges), ("dormouse/isa.ops", laid_dormouse_isa_ops), ("unicode/utf8.first", laid_unicode_utf8_first)], narrowed := true }
def IsaWordsUptoSaid : Prop := isaWordsUptoRow.holds Tryd.pinned (OpenSpec.upto isaWordsSpec)

/-- 'dormouselaw12.IsaParses', WHERE WHAT IT READS IS OF BULK AT MOST 1048576: true; the input reads as it did. -/
def isaParsesUptoRow : OpenClaim := { program := "ytpgohbnaphkngaadoor", sum := "7c52555239a612fed8698a9b629033fb23eaf688d9e24f1f45a09fc80e6c7560", func := "dormouse/dormouselaw12.IsaParses", spec := "isaParses", inPlace := ["internal/bytealg.IndexByteString", "internal/bytealg.IndexString", "internal/bytealg.CountString"], unfollowed := true, recurses := true, named := ["dormouse/isa.ops", "internal/bytealg.MaxLen", "internal/strconv.uint64pow10", "math/bits.deBruijn32tab", "math/bits.deBruijn64tab", "unicode/utf8.first", "unicode/utf8.acceptRanges"], apart := false, laid := [("math/bits.deBruijn32tab", laid_math_bits_deBruijn32tab), ("math/bits.deBruijn64tab", laid_math_bits_deBruijn64tab), ("internal/strconv.uint64pow10", laid_internal_strconv_uint64pow10), ("unicode/utf8.acceptRanges", laid_unicode_utf8_acceptRanges), ("dormouse/isa.ops", laid_dormouse_isa_ops), ("unicode/utf8.first", laid_unicode_utf8_first)], narrowed := true }
def IsaParsesUptoSaid : Prop := isaParsesUptoRow.holds Tryd.pinned (OpenSpec.upto isaParsesSpec)

/-- 'dormouselaw12.IsaCodes', WHERE WHAT IT READS IS OF BULK AT MOST 1048576: true; the input reads as it did. -/
def isaCodesUptoRow : OpenClaim := { program := "ytpgohbnaphkngaadoor", sum := "7c52555239a612fed8698a9b629033fb23eaf688d9e24f1f45a09fc80e6c7560", func := "dormouse/dormouselaw12.IsaCodes", spec := "isaCodes", inPlace := ["internal/bytealg.IndexByteString", "internal/bytealg.IndexString", "internal/bytealg.CountString"], unfollowed := true, recurses := true, named := ["dormouse/isa.ops", "internal/bytealg.MaxLen", "internal/strconv.uint64pow10", "math/bits.deBruijn32tab", "math/bits.deBruijn64tab", "unicode/utf8.first", "unicode/utf8.acceptRanges"], apart := false, laid := [("math/bits.deBruijn32tab", laid_math_bits_deBruijn32tab), ("math/bits.deBruijn64tab", laid_math_bits_deBruijn64tab), ("internal/strconv.uint64pow10", laid_internal_strconv_uint64pow10), ("unicode/utf8.acceptRanges", laid_unicode_utf8_acceptRanges), ("dormouse/isa.ops", laid_dormouse_isa_ops), ("unicode/utf8.first", laid_unicode_utf8_first)], narrowed := true }
def IsaCodesUptoSaid : Prop := isaCodesUptoRow.holds Tryd.pinned (OpenSpec.upto isaCodesSpec)

/-- 'dormouselaw12.IsaBack', WHERE WHAT IT READS IS OF BULK AT MOST 1048576: true; the input reads as it did. -/
def isaBackUptoRow : OpenClaim := { program := "ytpgohbnaphkngaadoor", sum := "7c52555239a612fed8698a9b629033fb23eaf688d9e24f1f45a09fc80e6c7560", func := "dormouse/dormouselaw12.IsaBack", spec := "isaBack", inPlace := ["internal/bytealg.IndexByteString", "internal/bytealg.IndexString", "internal/bytealg.CountString"], unfollowed := true, recurses := true, named := ["dormouse/isa.ops", "internal/bytealg.MaxLen", "internal/strconv.uint64pow10", "math/bits.deBruijn32tab", "math/bits.deBruijn64tab", "unicode/utf8.first", "unicode/utf8.acceptRanges"], apart := false, laid := [("math/bits.deBruijn32tab", laid_math_bits_deBruijn32tab), ("math/bits.deBruijn64tab", laid_math_bits_deBruijn64tab), ("internal/strconv.uint64pow10", laid_internal_strconv_uint64pow10), ("unicode/utf8.acceptRanges", laid_unicode_utf8_acceptRanges), ("dormouse/isa.ops", laid_dormouse_isa_ops), ("unicode/utf8.first", laid_unicode_utf8_first)], narrowed := true }
def IsaBackUptoSaid : Prop := isaBackUptoRow.holds Tryd.pinned (OpenSpec.upto isaBackSpec)

/-- 'dormouselaw12.IsaNumbers', WHERE WHAT IT READS IS OF BULK AT MOST 1048576: true; the input reads as it did. -/
def isaNumbersUptoRow : OpenClaim := { program := "ytpgohbnaphkngaadoor", sum := "7c52555239a612fed8698a9b629033fb23eaf688d9e24f1f45a09fc80e6c7560", func := "dormouse/dormouselaw12.IsaNumbers", spec := "isaNumbers", inPlace := ["internal/bytealg.IndexByteString", "internal/bytealg.IndexString", "internal/bytealg.CountString"], unfollowed := true, recurses := true, named := ["dormouse/isa.ops", "internal/bytealg.MaxLen", "internal/strconv.uint64pow10", "math/bits.deBruijn32tab", "math/bits.deBruijn64tab", "unicode/utf8.first", "unicode/utf8.acceptRanges"], apart := false, laid := [("math/bits.deBruijn32tab", laid_math_bits_deBruijn32tab), ("math/bits.deBruijn64tab", laid_math_bits_deBruijn64tab), ("internal/strconv.uint64pow10", laid_internal_strconv_uint64pow10), ("unicode/utf8.acceptRanges", laid_unicode_utf8_acceptRanges), ("dormouse/isa.ops", laid_dormouse_isa_ops), ("unicode/utf8.first", laid_unicode_utf8_first)], narrowed := true }
def IsaNumbersUptoSaid : Prop := isaNumbersUptoRow.holds Tryd.pinned (OpenSpec.upto isaNumbersSpec)

end Rows
end Go.Proofs.YtpgohbnaphkngaaDoor
