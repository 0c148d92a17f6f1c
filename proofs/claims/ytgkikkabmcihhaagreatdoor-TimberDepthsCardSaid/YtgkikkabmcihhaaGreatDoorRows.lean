/-
  NARROWER THAN 'FOR EVERY INPUT', by the rows' own cells (each row's printed sentence says how): TimberDepths: laid · TimberFinds: laid · TimberOrder: laid · TimberTexts: laid · TimberSizes: laid · TimberSquares: laid · TimberSlopes: laid · TimberWords: laid.
  DERIVED. THE GIVEN ROWS OF THIS SEAT. 8 by the template 'for every input the law returns true; each argument reads behind the call as it read before'; 0 by the template 'total and deterministic' (their statements: YtgkikkabmcihhaaGreatDoorTotals.lean).
  GIVEN WITH THE SEED: the statements are not yours to turn. If you find one false, say at which input.
  Laid BY PROGRAM, IN A SANDBOX (cutbox-rows.mjs): the forced cells as the released guide's own fill.sh prints them over the translation d6590ac8b9af0dc9… (all of the seat's roots in one cut). By AI agents, Wed Nov 11 2026. No macro, syntax, notation, axiom, sorry.
-/
import Derived.Test.YtgkikkabmcihhaaGreatDoorChecked
import GoSem.PinnedTables
import GoSem.Claim
import GoSem.ClaimJoined
import GoSem.ClaimMapViews
import Derived.JoinedTies
import Derived.KernelRfl
namespace Go.Proofs.YtgkikkabmcihhaaGreatDoor
/- THE CELL 'sum', in the pinned program and in every row, IS THE sha256 OF THE DUMP (.gsa) THAT YtgkikkabmcihhaaGreatDoorProg.lean LOADS. Nothing in Lean hashes anything: it is a label: what it is worth is what the hold of that sum in a sandbox is worth. -/
noncomputable def Tryz.pinned : Pinned := { name := "ytgkikkabmcihhaagreatdoor", sum := "d6590ac8b9af0dc95db0a5876a26306710895418b1d6a2bb977e0cb3394bb7f7", checked := Tryz.checked }
namespace Rows
def none {H : Type} : Left H := { results := [], args := [] }

/- WHAT THE LISTED PACKAGE-LEVEL VARIABLES READ AS WHEN THE CALL BEGINS. Each datum BY PROGRAM (the guide's laid-datum.mjs) off the statement by which the dump's own 'gosem.cut.vars' lays the variable. In a bare row this is a premise. The card (YtgkikkabmcihhaaGreatDoorCards.lean) ties it to the program's text. -/
def laid_math_bits_deBruijn32tab {H : Type} : DataW H := .agg [.lit (.int .u8 0), .lit (.int .u8 1), .lit (.int .u8 28), .lit (.int .u8 2), .lit (.int .u8 29), .lit (.int .u8 14), .lit (.int .u8 24), .lit (.int .u8 3), .lit (.int .u8 30), .lit (.int .u8 22), .lit (.int .u8 20), .lit (.int .u8 15), .lit (.int .u8 25), .lit (.int .u8 17), .lit (.int .u8 4), .lit (.int .u8 8), .lit (.int .u8 31), .lit (.int .u8 27), .lit (.int .u8 13), .lit (.int .u8 23), .lit (.int .u8 21), .lit (.int .u8 19), .lit (.int .u8 16), .lit (.int .u8 7), .lit (.int .u8 26), .lit (.int .u8 12), .lit (.int .u8 18), .lit (.int .u8 6), .lit (.int .u8 11), .lit (.int .u8 5), .lit (.int .u8 10), .lit (.int .u8 9)]
def laid_math_bits_deBruijn64tab {H : Type} : DataW H := .agg [.lit (.int .u8 0), .lit (.int .u8 1), .lit (.int .u8 56), .lit (.int .u8 2), .lit (.int .u8 57), .lit (.int .u8 49), .lit (.int .u8 28), .lit (.int .u8 3), .lit (.int .u8 61), .lit (.int .u8 58), .lit (.int .u8 42), .lit (.int .u8 50), .lit (.int .u8 38), .lit (.int .u8 29), .lit (.int .u8 17), .lit (.int .u8 4), .lit (.int .u8 62), .lit (.int .u8 47), .lit (.int .u8 59), .lit (.int .u8 36), .lit (.int .u8 45), .lit (.int .u8 43), .lit (.int .u8 51), .lit (.int .u8 22), .lit (.int .u8 53), .lit (.int .u8 39), .lit (.int .u8 33), .lit (.int .u8 30), .lit (.int .u8 24), .lit (.int .u8 18), .lit (.int .u8 12), .lit (.int .u8 5), .lit (.int .u8 63), .lit (.int .u8 55), .lit (.int .u8 48), .lit (.int .u8 27), .lit (.int .u8 60), .lit (.int .u8 41), .lit (.int .u8 37), .lit (.int .u8 16), .lit (.int .u8 46), .lit (.int .u8 35), .lit (.int .u8 44), .lit (.int .u8 21), .lit (.int .u8 52), .lit (.int .u8 32), .lit (.int .u8 23), .lit (.int .u8 11), .lit (.int .u8 54), .lit (.int .u8 26), .lit (.int .u8 40), .lit (.int .u8 15), .lit (.int .u8 34), .lit (.int .u8 20), .lit (.int .u8 31), .lit (.int .u8 10), .lit (.int .u8 25), .lit (.int .u8 14), .lit (.int .u8 19), .lit (.int .u8 9), .lit (.int .u8 13), .lit (.int .u8 8), .lit (.int .u8 7), .lit (.int .u8 6)]
def laid_internal_strconv_uint64pow10 {H : Type} : DataW H := .agg [.lit (.int .u64 1), .lit (.int .u64 10), .lit (.int .u64 100), .lit (.int .u64 1000), .lit (.int .u64 10000), .lit (.int .u64 100000), .lit (.int .u64 1000000), .lit (.int .u64 10000000), .lit (.int .u64 100000000), .lit (.int .u64 1000000000), .lit (.int .u64 10000000000), .lit (.int .u64 100000000000), .lit (.int .u64 1000000000000), .lit (.int .u64 10000000000000), .lit (.int .u64 100000000000000), .lit (.int .u64 1000000000000000), .lit (.int .u64 10000000000000000), .lit (.int .u64 100000000000000000), .lit (.int .u64 1000000000000000000), .lit (.int .u64 10000000000000000000)]
def laid_unicode_utf8_acceptRanges {H : Type} : DataW H := .agg [.agg [.lit (.int .u8 128), .lit (.int .u8 191)], .agg [.lit (.int .u8 160), .lit (.int .u8 191)], .agg [.lit (.int .u8 128), .lit (.int .u8 159)], .agg [.lit (.int .u8 144), .lit (.int .u8 191)], .agg [.lit (.int .u8 128), .lit (.int .u8 143)], .agg [.lit (.int .u8 0), .lit (.int .u8 0)], .agg [.lit (.int .u8 0), .lit (.int .u8 0)], .agg [.lit (.int .u8 0), .lit (.int .u8 0)], .agg [.lit (.int .u8 0), .lit (.int .u8 0)], .agg [.lit (.int .u8 0), .lit (.int .u8 0)], .agg [.lit (.int .u8 0), .lit (.int .u8 0)], .agg [.lit (.int .u8 0), .lit (.int .u8 0)], .agg [.lit (.int .u8 0), .lit (.int .u8 0)], .agg [.lit (.int .u8 0), .lit (.int .u8 0)], .agg [.lit (.int .u8 0), .lit (.int .u8 0)], .agg [.lit (.int .u8 0), .lit (.int .u8 0)]]
def laid_strconv_ErrRange {H : Type} : DataW H := .iface "*errors.errorString" (.ptr (.agg [.lit (.string [118, 97, 108, 117, 101, 32, 111, 117, 116, 32, 111, 102, 32, 114, 97, 110, 103, 101])]))
def laid_strconv_ErrSyntax {H : Type} : DataW H := .iface "*errors.errorString" (.ptr (.agg [.lit (.string [105, 110, 118, 97, 108, 105, 100, 32, 115, 121, 110, 116, 97, 120])]))
def laid_kingpost_root_primes {H : Type} : DataW H := .agg [.lit (.string [50]), .lit (.string [51]), .lit (.string [53]), .lit (.string [55]), .lit (.string [49, 49]), .lit (.string [49, 51]), .lit (.string [49, 55]), .lit (.string [49, 57]), .lit (.string [50, 51]), .lit (.string [50, 57]), .lit (.string [51, 49]), .lit (.string [51, 55]), .lit (.string [52, 49]), .lit (.string [52, 51]), .lit (.string [52, 55]), .lit (.string [53, 51]), .lit (.string [53, 57]), .lit (.string [54, 49]), .lit (.string [54, 55]), .lit (.string [55, 49]), .lit (.string [55, 51]), .lit (.string [55, 57]), .lit (.string [56, 51]), .lit (.string [56, 57]), .lit (.string [57, 55])]
def laid_kingpost_timber_words {H : Type} : DataW H := .agg [.lit (.string []), .lit (.string [99, 111, 109, 109, 111, 110]), .lit (.string [104, 105, 112, 106, 97, 99, 107]), .lit (.string [118, 97, 108, 108, 101, 121, 106, 97, 99, 107]), .lit (.string [99, 114, 105, 112, 112, 108, 101]), .lit (.string [111, 116, 104, 101, 114]), .lit (.string [104, 105, 112]), .lit (.string [118, 97, 108, 108, 101, 121]), .lit (.string [114, 105, 100, 103, 101]), .lit (.string [112, 117, 114, 108, 105, 110]), .lit (.string [112, 108, 97, 116, 101]), .lit (.string [116, 114, 105, 109, 109, 101, 114]), .lit (.string [104, 101, 97, 100, 101, 114])]
/-- One of Go's own tables, pinned by name: the form's constant. -/
def laid_unicode_utf8_first : DataW Unit := Go.Pinned.utf8First
def laid_kingpost_surd_signPlaces {H : Type} : DataW H := .agg [.lit (.int .i64 4), .lit (.int .i64 16), .lit (.int .i64 64)]

/-- 'kingpostlaw36.TimberDepths': WHATEVER THE INPUT: true; the input reads as it did. -/
def timberDepthsSpec : ChangeSpec := { name := "timberDepths", fn := fun _ => fun
  | [d1, d2] => { results := [.lit (.bool true)], args := [d1, d2] }
  | _ => none }
def timberDepthsRow : OpenClaim := { program := "ytgkikkabmcihhaagreatdoor", sum := "d6590ac8b9af0dc95db0a5876a26306710895418b1d6a2bb977e0cb3394bb7f7", func := "kingpost/kingpostlaw36.TimberDepths", spec := "timberDepths", inPlace := ["internal/abi.NoEscape", "internal/bytealg.IndexByteString", "internal/bytealg.IndexString", "internal/bytealg.MakeNoZero"], unfollowed := true, recurses := true, named := ["kingpost/timber.words", "internal/strconv.uint64pow10", "math/bits.deBruijn32tab", "math/bits.deBruijn64tab", "internal/bytealg.MaxLen", "unicode/utf8.first", "unicode/utf8.acceptRanges", "strconv.ErrSyntax", "strconv.ErrRange", "kingpost/root.primes"], apart := false, laid := [("math/bits.deBruijn32tab", laid_math_bits_deBruijn32tab), ("math/bits.deBruijn64tab", laid_math_bits_deBruijn64tab), ("internal/strconv.uint64pow10", laid_internal_strconv_uint64pow10), ("unicode/utf8.acceptRanges", laid_unicode_utf8_acceptRanges), ("strconv.ErrRange", laid_strconv_ErrRange), ("strconv.ErrSyntax", laid_strconv_ErrSyntax), ("kingpost/root.primes", laid_kingpost_root_primes), ("kingpost/timber.words", laid_kingpost_timber_words), ("unicode/utf8.first", laid_unicode_utf8_first)] }
def TimberDepthsSaid : Prop := timberDepthsRow.holds Tryz.pinned (OpenSpec.ofChange timberDepthsSpec)

/-- ITS FALSE NEIGHBOUR: 'it returns false'. Refute it at one input. -/
def timberDepthsWrong : ChangeSpec := { name := "timberDepths", fn := fun _ => fun
  | [d1, d2] => { results := [.lit (.bool false)], args := [d1, d2] }
  | _ => none }
def TimberDepthsWrongFalsely : Prop := timberDepthsRow.holds Tryz.pinned (OpenSpec.ofChange timberDepthsWrong)

/-- 'kingpostlaw36.TimberFinds': WHATEVER THE INPUT: true; the input reads as it did. -/
def timberFindsSpec : ChangeSpec := { name := "timberFinds", fn := fun _ => fun
  | [d] => { results := [.lit (.bool true)], args := [d] }
  | _ => none }
def timberFindsRow : OpenClaim := { program := "ytgkikkabmcihhaagreatdoor", sum := "d6590ac8b9af0dc95db0a5876a26306710895418b1d6a2bb977e0cb3394bb7f7", func := "kingpost/kingpostlaw36.TimberFinds", spec := "timberFinds", inPlace := ["internal/abi.NoEscape", "internal/bytealg.IndexByteString", "internal/bytealg.IndexString", "internal/bytealg.MakeNoZero"], unfollowed := true, recurses := true, named := ["kingpost/timber.words", "internal/strconv.uint64pow10", "math/bits.deBruijn32tab", "math/bits.deBruijn64tab", "internal/bytealg.MaxLen", "unicode/utf8.first", "unicode/utf8.acceptRanges", "strconv.ErrSyntax", "strconv.ErrRange", "kingpost/root.primes"], apart := false, laid := [("math/bits.deBruijn32tab", laid_math_bits_deBruijn32tab), ("math/bits.deBruijn64tab", laid_math_bits_deBruijn64tab), ("internal/strconv.uint64pow10", laid_internal_strconv_uint64pow10), ("unicode/utf8.acceptRanges", laid_unicode_utf8_acceptRanges), ("strconv.ErrRange", laid_strconv_ErrRange), ("strconv.ErrSyntax", laid_strconv_ErrSyntax), ("kingpost/root.primes", laid_kingpost_root_primes), ("kingpost/timber.words", laid_kingpost_timber_words), ("unicode/utf8.first", laid_unicode_utf8_first)] }
def TimberFindsSaid : Prop := timberFindsRow.holds Tryz.pinned (OpenSpec.ofChange timberFindsSpec)

/-- ITS FALSE NEIGHBOUR: 'it returns false'. Refute it at one input. -/
def timberFindsWrong : ChangeSpec := { name := "timberFinds", fn := fun _ => fun
  | [d] => { results := [.lit (.bool false)], args := [d] }
  | _ => none }
def TimberFindsWrongFalsely : Prop := timberFindsRow.holds Tryz.pinned (OpenSpec.ofChange timberFindsWrong)

/-- 'kingpostlaw36.TimberOrder': WHATEVER THE INPUT: true; the input reads as it did. -/
def timberOrderSpec : ChangeSpec := { name := "timberOrder", fn := fun _ => fun
  | [d1, d2] => { results := [.lit (.bool true)], args := [d1, d2] }
  | _ => none }
def timberOrderRow : OpenClaim := { program := "ytgkikkabmcihhaagreatdoor", sum := "d6590ac8b9af0dc95db0a5876a26306710895418b1d6a2bb977e0cb3394bb7f7", func := "kingpost/kingpostlaw36.TimberOrder", spec := "timberOrder", inPlace := ["internal/abi.NoEscape", "internal/bytealg.IndexByteString", "internal/bytealg.IndexString", "internal/bytealg.MakeNoZero"], unfollowed := true, recurses := true, named := ["kingpost/timber.words", "internal/strconv.uint64pow10", "math/bits.deBruijn32tab", "math/bits.deBruijn64tab", "internal/bytealg.MaxLen", "unicode/utf8.first", "unicode/utf8.acceptRanges", "strconv.ErrSyntax", "strconv.ErrRange", "kingpost/root.primes"], apart := false, laid := [("math/bits.deBruijn32tab", laid_math_bits_deBruijn32tab), ("math/bits.deBruijn64tab", laid_math_bits_deBruijn64tab), ("internal/strconv.uint64pow10", laid_internal_strconv_uint64pow10), ("unicode/utf8.acceptRanges", laid_unicode_utf8_acceptRanges), ("strconv.ErrRange", laid_strconv_ErrRange), ("strconv.ErrSyntax", laid_strconv_ErrSyntax), ("kingpost/root.primes", laid_kingpost_root_primes), ("kingpost/timber.words", laid_kingpost_timber_words), ("unicode/utf8.first", laid_unicode_utf8_first)] }
def TimberOrderSaid : Prop := timberOrderRow.holds Tryz.pinned (OpenSpec.ofChange timberOrderSpec)

/-- ITS FALSE NEIGHBOUR: 'it returns false'. Refute it at one input. -/
def timberOrderWrong : ChangeSpec := { name := "timberOrder", fn := fun _ => fun
  | [d1, d2] => { results := [.lit (.bool false)], args := [d1, d2] }
  | _ => none }
def TimberOrderWrongFalsely : Prop := timberOrderRow.holds Tryz.pinned (OpenSpec.ofChange timberOrderWrong)

/-- 'kingpostlaw36.TimberTexts': WHATEVER THE INPUT: true; the input reads as it did. -/
def timberTextsSpec : ChangeSpec := { name := "timberTexts", fn := fun _ => fun
  | [d1, d2] => { results := [.lit (.bool true)], args := [d1, d2] }
  | _ => none }
def timberTextsRow : OpenClaim := { program := "ytgkikkabmcihhaagreatdoor", sum := "d6590ac8b9af0dc95db0a5876a26306710895418b1d6a2bb977e0cb3394bb7f7", func := "kingpost/kingpostlaw36.TimberTexts", spec := "timberTexts", inPlace := ["internal/abi.NoEscape", "internal/bytealg.IndexByteString", "internal/bytealg.IndexString", "internal/bytealg.MakeNoZero", "internal/bytealg.CountString"], unfollowed := true, recurses := true, named := ["kingpost/timber.words", "internal/strconv.uint64pow10", "math/bits.deBruijn32tab", "math/bits.deBruijn64tab", "internal/bytealg.MaxLen", "unicode/utf8.first", "unicode/utf8.acceptRanges", "strconv.ErrSyntax", "strconv.ErrRange", "kingpost/root.primes"], apart := false, laid := [("math/bits.deBruijn32tab", laid_math_bits_deBruijn32tab), ("math/bits.deBruijn64tab", laid_math_bits_deBruijn64tab), ("internal/strconv.uint64pow10", laid_internal_strconv_uint64pow10), ("unicode/utf8.acceptRanges", laid_unicode_utf8_acceptRanges), ("strconv.ErrRange", laid_strconv_ErrRange), ("strconv.ErrSyntax", laid_strconv_ErrSyntax), ("kingpost/root.primes", laid_kingpost_root_primes), ("kingpost/timber.words", laid_kingpost_timber_words), ("unicode/utf8.first", laid_unicode_utf8_first)] }
def TimberTextsSaid : Prop := timberTextsRow.holds Tryz.pinned (OpenSpec.ofChange timberTextsSpec)

/-- ITS FALSE NEIGHBOUR: 'it returns false'. Refute it at one input. -/
def timberTextsWrong : ChangeSpec := { name := "timberTexts", fn := fun _ => fun
  | [d1, d2] => { results := [.lit (.bool false)], args := [d1, d2] }
  | _ => none }
def TimberTextsWrongFalsely : Prop := timberTextsRow.holds Tryz.pinned (OpenSpec.ofChange timberTextsWrong)

/-- 'kingpostlaw36.TimberSizes': WHATEVER THE INPUT: true; the input reads as it did. -/
def timberSizesSpec : ChangeSpec := { name := "timberSizes", fn := fun _ => fun
  | [d1, d2, d3] => { results := [.lit (.bool true)], args := [d1, d2, d3] }
  | _ => none }
def timberSizesRow : OpenClaim := { program := "ytgkikkabmcihhaagreatdoor", sum := "d6590ac8b9af0dc95db0a5876a26306710895418b1d6a2bb977e0cb3394bb7f7", func := "kingpost/kingpostlaw36.TimberSizes", spec := "timberSizes", inPlace := ["internal/abi.NoEscape", "internal/bytealg.IndexByteString", "internal/bytealg.IndexString", "internal/bytealg.MakeNoZero"], unfollowed := true, recurses := true, named := ["kingpost/timber.words", "internal/strconv.uint64pow10", "math/bits.deBruijn32tab", "math/bits.deBruijn64tab", "internal/bytealg.MaxLen", "unicode/utf8.first", "unicode/utf8.acceptRanges", "strconv.ErrSyntax", "strconv.ErrRange", "kingpost/root.primes"], apart := false, laid := [("math/bits.deBruijn32tab", laid_math_bits_deBruijn32tab), ("math/bits.deBruijn64tab", laid_math_bits_deBruijn64tab), ("internal/strconv.uint64pow10", laid_internal_strconv_uint64pow10), ("unicode/utf8.acceptRanges", laid_unicode_utf8_acceptRanges), ("strconv.ErrRange", laid_strconv_ErrRange), ("strconv.ErrSyntax", laid_strconv_ErrSyntax), ("kingpost/root.primes", laid_kingpost_root_primes), ("kingpost/timber.words", laid_kingpost_timber_words), ("unicode/utf8.first", laid_unicode_utf8_first)] }
def TimberSizesSaid : Prop := timberSizesRow.holds Tryz.pinned (OpenSpec.ofChange timberSizesSpec)

/-- ITS FALSE NEIGHBOUR: 'it returns false'. Refute it at one input. -/
def timberSizesWrong : ChangeSpec := { name := "timberSizes", fn := fun _ => fun
  | [d1, d2, d3] => { results := [.lit (.bool false)], args := [d1, d2, d3] }
  | _ => none }
def TimberSizesWrongFalsely : Prop := timberSizesRow.holds Tryz.pinned (OpenSpec.ofChange timberSizesWrong)

/-- 'kingpostlaw36.TimberSquares': WHATEVER THE INPUT: true; the input reads as it did. -/
def timberSquaresSpec : ChangeSpec := { name := "timberSquares", fn := fun _ => fun
  | [d1, d2, d3] => { results := [.lit (.bool true)], args := [d1, d2, d3] }
  | _ => none }
def timberSquaresRow : OpenClaim := { program := "ytgkikkabmcihhaagreatdoor", sum := "d6590ac8b9af0dc95db0a5876a26306710895418b1d6a2bb977e0cb3394bb7f7", func := "kingpost/kingpostlaw36.TimberSquares", spec := "timberSquares", inPlace := ["internal/bytealg.IndexByteString", "internal/bytealg.IndexString", "internal/abi.NoEscape", "internal/bytealg.MakeNoZero"], unfollowed := true, recurses := true, named := ["internal/strconv.uint64pow10", "math/bits.deBruijn32tab", "math/bits.deBruijn64tab", "unicode/utf8.first", "unicode/utf8.acceptRanges", "strconv.ErrSyntax", "strconv.ErrRange", "internal/bytealg.MaxLen", "kingpost/root.primes", "kingpost/timber.words"], apart := false, laid := [("math/bits.deBruijn32tab", laid_math_bits_deBruijn32tab), ("math/bits.deBruijn64tab", laid_math_bits_deBruijn64tab), ("internal/strconv.uint64pow10", laid_internal_strconv_uint64pow10), ("unicode/utf8.acceptRanges", laid_unicode_utf8_acceptRanges), ("strconv.ErrRange", laid_strconv_ErrRange), ("strconv.ErrSyntax", laid_strconv_ErrSyntax), ("kingpost/root.primes", laid_kingpost_root_primes), ("kingpost/timber.words", laid_kingpost_timber_words), ("unicode/utf8.first", laid_unicode_utf8_first)] }
def TimberSquaresSaid : Prop := timberSquaresRow.holds Tryz.pinned (OpenSpec.ofChange timberSquaresSpec)

/-- ITS FALSE NEIGHBOUR: 'it returns false'. Refute it at one input. -/
def timberSquaresWrong : ChangeSpec := { name := "timberSquares", fn := fun _ => fun
  | [d1, d2, d3] => { results := [.lit (.bool false)], args := [d1, d2, d3] }
  | _ => none }
def TimberSquaresWrongFalsely : Prop := timberSquaresRow.holds Tryz.pinned (OpenSpec.ofChange timberSquaresWrong)

/-- 'kingpostlaw36.TimberSlopes': WHATEVER THE INPUT: true; the input reads as it did. -/
def timberSlopesSpec : ChangeSpec := { name := "timberSlopes", fn := fun _ => fun
  | [d1, d2, d3, d4] => { results := [.lit (.bool true)], args := [d1, d2, d3, d4] }
  | _ => none }
def timberSlopesRow : OpenClaim := { program := "ytgkikkabmcihhaagreatdoor", sum := "d6590ac8b9af0dc95db0a5876a26306710895418b1d6a2bb977e0cb3394bb7f7", func := "kingpost/kingpostlaw36.TimberSlopes", spec := "timberSlopes", inPlace := ["internal/bytealg.IndexByteString", "internal/bytealg.IndexString", "internal/abi.NoEscape", "internal/bytealg.MakeNoZero"], unfollowed := true, recurses := true, named := ["internal/strconv.uint64pow10", "math/bits.deBruijn32tab", "math/bits.deBruijn64tab", "unicode/utf8.first", "unicode/utf8.acceptRanges", "strconv.ErrSyntax", "strconv.ErrRange", "internal/bytealg.MaxLen", "kingpost/root.primes", "kingpost/surd.signPlaces", "kingpost/timber.words"], apart := false, laid := [("math/bits.deBruijn32tab", laid_math_bits_deBruijn32tab), ("math/bits.deBruijn64tab", laid_math_bits_deBruijn64tab), ("internal/strconv.uint64pow10", laid_internal_strconv_uint64pow10), ("unicode/utf8.acceptRanges", laid_unicode_utf8_acceptRanges), ("strconv.ErrRange", laid_strconv_ErrRange), ("strconv.ErrSyntax", laid_strconv_ErrSyntax), ("kingpost/root.primes", laid_kingpost_root_primes), ("kingpost/surd.signPlaces", laid_kingpost_surd_signPlaces), ("kingpost/timber.words", laid_kingpost_timber_words), ("unicode/utf8.first", laid_unicode_utf8_first)] }
def TimberSlopesSaid : Prop := timberSlopesRow.holds Tryz.pinned (OpenSpec.ofChange timberSlopesSpec)

/-- ITS FALSE NEIGHBOUR: 'it returns false'. Refute it at one input. -/
def timberSlopesWrong : ChangeSpec := { name := "timberSlopes", fn := fun _ => fun
  | [d1, d2, d3, d4] => { results := [.lit (.bool false)], args := [d1, d2, d3, d4] }
  | _ => none }
def TimberSlopesWrongFalsely : Prop := timberSlopesRow.holds Tryz.pinned (OpenSpec.ofChange timberSlopesWrong)

/-- 'kingpostlaw36.TimberWords': WHATEVER THE INPUT: true; the input reads as it did. -/
def timberWordsSpec : ChangeSpec := { name := "timberWords", fn := fun _ => fun
  | [d] => { results := [.lit (.bool true)], args := [d] }
  | _ => none }
def timberWordsRow : OpenClaim := { program := "ytgkikkabmcihhaagreatdoor", sum := "d6590ac8b9af0dc95db0a5876a26306710895418b1d6a2bb977e0cb3394bb7f7", func := "kingpost/kingpostlaw36.TimberWords", spec := "timberWords", inPlace := ["internal/abi.NoEscape", "internal/bytealg.IndexByteString", "internal/bytealg.IndexString", "internal/bytealg.MakeNoZero"], unfollowed := true, recurses := true, named := ["kingpost/timber.words", "internal/strconv.uint64pow10", "math/bits.deBruijn32tab", "math/bits.deBruijn64tab", "internal/bytealg.MaxLen", "unicode/utf8.first", "unicode/utf8.acceptRanges", "strconv.ErrSyntax", "strconv.ErrRange", "kingpost/root.primes"], apart := false, laid := [("math/bits.deBruijn32tab", laid_math_bits_deBruijn32tab), ("math/bits.deBruijn64tab", laid_math_bits_deBruijn64tab), ("internal/strconv.uint64pow10", laid_internal_strconv_uint64pow10), ("unicode/utf8.acceptRanges", laid_unicode_utf8_acceptRanges), ("strconv.ErrRange", laid_strconv_ErrRange), ("strconv.ErrSyntax", laid_strconv_ErrSyntax), ("kingpost/root.primes", laid_kingpost_root_primes), ("kingpost/timber.words", laid_kingpost_timber_words), ("unicode/utf8.first", laid_unicode_utf8_first)] }
def TimberWordsSaid : Prop := timberWordsRow.holds Tryz.pinned (OpenSpec.ofChange timberWordsSpec)

/-- ITS FALSE NEIGHBOUR: 'it returns false'. Refute it at one input. -/
def timberWordsWrong : ChangeSpec := { name := "timberWords", fn := fun _ => fun
  | [d] => { results := [.lit (.bool false)], args := [d] }
  | _ => none }
def TimberWordsWrongFalsely : Prop := timberWordsRow.holds Tryz.pinned (OpenSpec.ofChange timberWordsWrong)

/- THE SECOND FORM. 'bulk': how many values and letters a reading holds, each counted each time it is reached (what is shared counts as often as it is met; a slice's spare places count too). A statement '..UptoSaid' is the law's where the arguments, and the package variables that the reading takes, are together of bulk at most 1048576: NARROWER than '..Said'. Prove '..Said' where nothing that the law and all that it calls make is longer than what came in: it says more and counts as full. Else prove '..UptoSaid'. A law counts once. -/
mutual
def uptoBulk {H : Type} : DataW H → Nat
  | .lit (.string bytes) => bytes.length + 1
  | .lit _ => 1
  | .nil => 1
  | .ptr d => uptoBulk d + 1
  | .slice elems spare => uptoBulkAll elems + uptoBulkAll spare + 1
  | .agg parts => uptoBulkAll parts + 1
  | .iface _ d => uptoBulk d + 1
  | .map entries => uptoBulkEntries entries + 1
  | .held _ => 1
def uptoBulkAll {H : Type} : List (DataW H) → Nat
  | [] => 0
  | d :: r => uptoBulk d + uptoBulkAll r
def uptoBulkEntries {H : Type} : List (Lit × DataW H) → Nat
  | [] => 0
  | x :: r => uptoBulkEntry x + uptoBulkEntries r
def uptoBulkEntry {H : Type} : Lit × DataW H → Nat
  | (.string bytes, d) => bytes.length + uptoBulk d + 1
  | (_, d) => uptoBulk d + 1
 end
def uptoSmall : (H : Type) → List (DataW H) → Bool := fun _ ds => decide (uptoBulkAll ds ≤ 1048576)
def OpenSpec.upto (s : _root_.Go.ChangeSpec) : _root_.Go.OpenSpec := { _root_.Go.OpenSpec.ofChange s with cond := some uptoSmall }

/-- 'kingpostlaw36.TimberDepths', WHERE WHAT IT READS IS OF BULK AT MOST 1048576: true; the input reads as it did. -/
def timberDepthsUptoRow : OpenClaim := { program := "ytgkikkabmcihhaagreatdoor", sum := "d6590ac8b9af0dc95db0a5876a26306710895418b1d6a2bb977e0cb3394bb7f7", func := "kingpost/kingpostlaw36.TimberDepths", spec := "timberDepths", inPlace := ["internal/abi.NoEscape", "internal/bytealg.IndexByteString", "internal/bytealg.IndexString", "internal/bytealg.MakeNoZero"], unfollowed := true, recurses := true, named := ["kingpost/timber.words", "internal/strconv.uint64pow10", "math/bits.deBruijn32tab", "math/bits.deBruijn64tab", "internal/bytealg.MaxLen", "unicode/utf8.first", "unicode/utf8.acceptRanges", "strconv.ErrSyntax", "strconv.ErrRange", "kingpost/root.primes"], apart := false, laid := [("math/bits.deBruijn32tab", laid_math_bits_deBruijn32tab), ("math/bits.deBruijn64tab", laid_math_bits_deBruijn64tab), ("internal/strconv.uint64pow10", laid_internal_strconv_uint64pow10), ("unicode/utf8.acceptRanges", laid_unicode_utf8_acceptRanges), ("strconv.ErrRange", laid_strconv_ErrRange), ("strconv.ErrSyntax", laid_strconv_ErrSyntax), ("kingpost/root.primes", laid_kingpost_root_primes), ("kingpost/timber.words", laid_kingpost_timber_words), ("unicode/utf8.first", laid_unicode_utf8_first)], narrowed := true }
def TimberDepthsUptoSaid : Prop := timberDepthsUptoRow.holds Tryz.pinned (OpenSpec.upto timberDepthsSpec)

/-- 'kingpostlaw36.TimberFinds', WHERE WHAT IT READS IS OF BULK AT MOST 1048576: true; the input reads as it did. -/
def timberFindsUptoRow : OpenClaim := { program := "ytgkikkabmcihhaagreatdoor", sum := "d6590ac8b9af0dc95db0a5876a26306710895418b1d6a2bb977e0cb3394bb7f7", func := "kingpost/kingpostlaw36.TimberFinds", spec := "timberFinds", inPlace := ["internal/abi.NoEscape", "internal/bytealg.IndexByteString", "internal/bytealg.IndexString", "internal/bytealg.MakeNoZero"], unfollowed := true, recurses := true, named := ["kingpost/timber.words", "internal/strconv.uint64pow10", "math/bits.deBruijn32tab", "math/bits.deBruijn64tab", "internal/bytealg.MaxLen", "unicode/utf8.first", "unicode/utf8.acceptRanges", "strconv.ErrSyntax", "strconv.ErrRange", "kingpost/root.primes"], apart := false, laid := [("math/bits.deBruijn32tab", laid_math_bits_deBruijn32tab), ("math/bits.deBruijn64tab", laid_math_bits_deBruijn64tab), ("internal/strconv.uint64pow10", laid_internal_strconv_uint64pow10), ("unicode/utf8.acceptRanges", laid_unicode_utf8_acceptRanges), ("strconv.ErrRange", laid_strconv_ErrRange), ("strconv.ErrSyntax", laid_strconv_ErrSyntax), ("kingpost/root.primes", laid_kingpost_root_primes), ("kingpost/timber.words", laid_kingpost_timber_words), ("unicode/utf8.first", laid_unicode_utf8_first)], narrowed := true }
def TimberFindsUptoSaid : Prop := timberFindsUptoRow.holds Tryz.pinned (OpenSpec.upto timberFindsSpec)

/-- 'kingpostlaw36.TimberOrder', WHERE WHAT IT READS IS OF BULK AT MOST 1048576: true; the input reads as it did. -/
def timberOrderUptoRow : OpenClaim := { program := "ytgkikkabmcihhaagreatdoor", sum := "d6590ac8b9af0dc95db0a5876a26306710895418b1d6a2bb977e0cb3394bb7f7", func := "kingpost/kingpostlaw36.TimberOrder", spec := "timberOrder", inPlace := ["internal/abi.NoEscape", "internal/bytealg.IndexByteString", "internal/bytealg.IndexString", "internal/bytealg.MakeNoZero"], unfollowed := true, recurses := true, named := ["kingpost/timber.words", "internal/strconv.uint64pow10", "math/bits.deBruijn32tab", "math/bits.deBruijn64tab", "internal/bytealg.MaxLen", "unicode/utf8.first", "unicode/utf8.acceptRanges", "strconv.ErrSyntax", "strconv.ErrRange", "kingpost/root.primes"], apart := false, laid := [("math/bits.deBruijn32tab", laid_math_bits_deBruijn32tab), ("math/bits.deBruijn64tab", laid_math_bits_deBruijn64tab), ("internal/strconv.uint64pow10", laid_internal_strconv_uint64pow10), ("unicode/utf8.acceptRanges", laid_unicode_utf8_acceptRanges), ("strconv.ErrRange", laid_strconv_ErrRange), ("strconv.ErrSyntax", laid_strconv_ErrSyntax), ("kingpost/root.primes", laid_kingpost_root_primes), ("kingpost/timber.words", laid_kingpost_timber_words), ("unicode/utf8.first", laid_unicode_utf8_first)], narrowed := true }
def TimberOrderUptoSaid : Prop := timberOrderUptoRow.holds Tryz.pinned (OpenSpec.upto timberOrderSpec)

/-- 'kingpostlaw36.TimberTexts', WHERE WHAT IT READS IS OF BULK AT MOST 1048576: true; the input reads as it did. -/
def timberTextsUptoRow : OpenClaim := { program := "ytgkikkabmcihhaagreatdoor", sum := "d6590ac8b9af0dc95db0a5876a26306710895418b1d6a2bb977e0cb3394bb7f7", func := "kingpost/kingpostlaw36.TimberTexts", spec := "timberTexts", inPlace := ["internal/abi.NoEscape", "internal/bytealg.IndexByteString", "internal/bytealg.IndexString", "internal/bytealg.MakeNoZero", "internal/bytealg.CountString"], unfollowed := true, recurses := true, named := ["kingpost/timber.words", "internal/strconv.uint64pow10", "math/bits.deBruijn32tab", "math/bits.deBruijn64tab", "internal/bytealg.MaxLen", "unicode/utf8.first", "unicode/utf8.acceptRanges", "strconv.ErrSyntax", "strconv.ErrRange", "kingpost/root.primes"], apart := false, laid := [("math/bits.deBruijn32tab", laid_math_bits_deBruijn32tab), ("math/bits.deBruijn64tab", laid_math_bits_deBruijn64tab), ("internal/strconv.uint64pow10", laid_internal_strconv_uint64pow10), ("unicode/utf8.acceptRanges", laid_unicode_utf8_acceptRanges), ("strconv.ErrRange", laid_strconv_ErrRange), ("strconv.ErrSyntax", laid_strconv_ErrSyntax), ("kingpost/root.primes", laid_kingpost_root_primes), ("kingpost/timber.words", laid_kingpost_timber_words), ("unicode/utf8.first", laid_unicode_utf8_first)], narrowed := true }
def TimberTextsUptoSaid : Prop := timberTextsUptoRow.holds Tryz.pinned (OpenSpec.upto timberTextsSpec)

/-- 'kingpostlaw36.TimberSizes', WHERE WHAT IT READS IS OF BULK AT MOST 1048576: true; the input reads as it did. -/
def timberSizesUptoRow : OpenClaim := { program := "ytgkikkabmcihhaagreatdoor", sum := "d6590ac8b9af0dc95db0a5876a26306710895418b1d6a2bb977e0cb3394bb7f7", func := "kingpost/kingpostlaw36.TimberSizes", spec := "timberSizes", inPlace := ["internal/abi.NoEscape", "internal/bytealg.IndexByteString", "internal/bytealg.IndexString", "internal/bytealg.MakeNoZero"], unfollowed := true, recurses := true, named := ["kingpost/timber.words", "internal/strconv.uint64pow10", "math/bits.deBruijn32tab", "math/bits.deBruijn64tab", "internal/bytealg.MaxLen", "unicode/utf8.first", "unicode/utf8.acceptRanges", "strconv.ErrSyntax", "strconv.ErrRange", "kingpost/root.primes"], apart := false, laid := [("math/bits.deBruijn32tab", laid_math_bits_deBruijn32tab), ("math/bits.deBruijn64tab", laid_math_bits_deBruijn64tab), ("internal/strconv.uint64pow10", laid_internal_strconv_uint64pow10), ("unicode/utf8.acceptRanges", laid_unicode_utf8_acceptRanges), ("strconv.ErrRange", laid_strconv_ErrRange), ("strconv.ErrSyntax", laid_strconv_ErrSyntax), ("kingpost/root.primes", laid_kingpost_root_primes), ("kingpost/timber.words", laid_kingpost_timber_words), ("unicode/utf8.first", laid_unicode_utf8_first)], narrowed := true }
def TimberSizesUptoSaid : Prop := timberSizesUptoRow.holds Tryz.pinned (OpenSpec.upto timberSizesSpec)

/-- 'kingpostlaw36.TimberSquares', WHERE WHAT IT READS IS OF BULK AT MOST 1048576: true; the input reads as it did. -/
def timberSquaresUptoRow : OpenClaim := { program := "ytgkikkabmcihhaagreatdoor", sum := "d6590ac8b9af0dc95db0a5876a26306710895418b1d6a2bb977e0cb3394bb7f7", func := "kingpost/kingpostlaw36.TimberSquares", spec := "timberSquares", inPlace := ["internal/bytealg.IndexByteString", "internal/bytealg.IndexString", "internal/abi.NoEscape", "internal/bytealg.MakeNoZero"], unfollowed := true, recurses := true, named := ["internal/strconv.uint64pow10", "math/bits.deBruijn32tab", "math/bits.deBruijn64tab", "unicode/utf8.first", "unicode/utf8.acceptRanges", "strconv.ErrSyntax", "strconv.ErrRange", "internal/bytealg.MaxLen", "kingpost/root.primes", "kingpost/timber.words"], apart := false, laid := [("math/bits.deBruijn32tab", laid_math_bits_deBruijn32tab), ("math/bits.deBruijn64tab", laid_math_bits_deBruijn64tab), ("internal/strconv.uint64pow10", laid_internal_strconv_uint64pow10), ("unicode/utf8.acceptRanges", laid_unicode_utf8_acceptRanges), ("strconv.ErrRange", laid_strconv_ErrRange), ("strconv.ErrSyntax", laid_strconv_ErrSyntax), ("kingpost/root.primes", laid_kingpost_root_primes), ("kingpost/timber.words", laid_kingpost_timber_words), ("unicode/utf8.first", laid_unicode_utf8_first)], narrowed := true }
def TimberSquaresUptoSaid : Prop := timberSquaresUptoRow.holds Tryz.pinned (OpenSpec.upto timberSquaresSpec)

/-- 'kingpostlaw36.TimberSlopes', WHERE WHAT IT READS IS OF BULK AT MOST 1048576: true; the input reads as it did. -/
def timberSlopesUptoRow : OpenClaim := { program := "ytgkikkabmcihhaagreatdoor", sum := "d6590ac8b9af0dc95db0a5876a26306710895418b1d6a2bb977e0cb3394bb7f7", func := "kingpost/kingpostlaw36.TimberSlopes", spec := "timberSlopes", inPlace := ["internal/bytealg.IndexByteString", "internal/bytealg.IndexString", "internal/abi.NoEscape", "internal/bytealg.MakeNoZero"], unfollowed := true, recurses := true, named := ["internal/strconv.uint64pow10", "math/bits.deBruijn32tab", "math/bits.deBruijn64tab", "unicode/utf8.first", "unicode/utf8.acceptRanges", "strconv.ErrSyntax", "strconv.ErrRange", "internal/bytealg.MaxLen", "kingpost/root.primes", "kingpost/surd.signPlaces", "kingpost/timber.words"], apart := false, laid := [("math/bits.deBruijn32tab", laid_math_bits_deBruijn32tab), ("math/bits.deBruijn64tab", laid_math_bits_deBruijn64tab), ("internal/strconv.uint64pow10", laid_internal_strconv_uint64pow10), ("unicode/utf8.acceptRanges", laid_unicode_utf8_acceptRanges), ("strconv.ErrRange", laid_strconv_ErrRange), ("strconv.ErrSyntax", laid_strconv_ErrSyntax), ("kingpost/root.primes", laid_kingpost_root_primes), ("kingpost/surd.signPlaces", laid_kingpost_surd_signPlaces), ("kingpost/timber.words", laid_kingpost_timber_words), ("unicode/utf8.first", laid_unicode_utf8_first)], narrowed := true }
def TimberSlopesUptoSaid : Prop := timberSlopesUptoRow.holds Tryz.pinned (OpenSpec.upto timberSlopesSpec)

/-- 'kingpostlaw36.TimberWords', WHERE WHAT IT READS IS OF BULK AT MOST 1048576: true; the input reads as it did. -/
def timberWordsUptoRow : OpenClaim := { program := "ytgkikkabmcihhaagreatdoor", sum := "d6590ac8b9af0dc95db0a5876a26306710895418b1d6a2bb977e0cb3394bb7f7", func := "kingpost/kingpostlaw36.TimberWords", spec := "timberWords", inPlace := ["internal/abi.NoEscape", "internal/bytealg.IndexByteString", "internal/bytealg.IndexString", "internal/bytealg.MakeNoZero"], unfollowed := true, recurses := true, named := ["kingpost/timber.words", "internal/strconv.uint64pow10", "math/bits.deBruijn32tab", "math/bits.deBruijn64tab", "internal/bytealg.MaxLen", "unicode/utf8.first", "unicode/utf8.acceptRanges", "strconv.ErrSyntax", "strconv.ErrRange", "kingpost/root.primes"], apart := false, laid := [("math/bits.deBruijn32tab", laid_math_bits_deBruijn32tab), ("math/bits.deBruijn64tab", laid_math_bits_deBruijn64tab), ("internal/strconv.uint64pow10", laid_internal_strconv_uint64pow10), ("unicode/utf8.acceptRanges", laid_unicode_utf8_acceptRanges), ("strconv.ErrRange", laid_strconv_ErrRange), ("strconv.ErrSyntax", laid_strconv_ErrSyntax), ("kingpost/root.primes", laid_kingpost_root_primes), ("kingpost/timber.words", laid_kingpost_timber_words), ("unicode/utf8.first", laid_unicode_utf8_first)], narrowed := true }
def TimberWordsUptoSaid : Prop := timberWordsUptoRow.holds Tryz.pinned (OpenSpec.upto timberWordsSpec)

end Rows
end Go.Proofs.YtgkikkabmcihhaaGreatDoor
