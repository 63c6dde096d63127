/-
  NARROWER THAN 'FOR EVERY INPUT', by the rows' own cells (each row's printed sentence says how): FnExactStalkForm: laid · FnExactSumOfMany: laid · FnExactTimesForm: laid · FnExactDropForm: laid · FnExactBypassForm: laid · FnExactCompareNumber: laid · FnExactCanonOf: laid · FnExactCanonSum: laid · FnExactPlusNumber: laid · FnExactSumOfTable: laid · FnExactWinnerOf: laid · FnExactUpsOf: laid.
  DERIVED. THE GIVEN ROWS OF THIS SEAT. 12 by the template 'for every input the law returns true; each argument reads behind the call as it read before'; 0 by the template 'total and deterministic' (their statements: YtkbljlbfkgoalaaGreatDoorTotals.lean).
  GIVEN WITH THE SEED: the statements are not yours to turn. If you find one false, say at which input.
  Laid BY PROGRAM, IN A SANDBOX (cutbox-rows.mjs): the forced cells as the released guide's own fill.sh prints them over the translation 061176ed75671b54… (all of the seat's roots in one cut). By AI agents, Wed Nov 11 2026. No macro, syntax, notation, axiom, sorry.
-/
import Derived.Test.YtkbljlbfkgoalaaGreatDoorChecked
import GoSem.PinnedTables
import GoSem.Claim
import GoSem.ClaimJoined
import GoSem.ClaimMapViews
import Derived.JoinedTies
import Derived.KernelRfl
namespace Go.Proofs.YtkbljlbfkgoalaaGreatDoor
/- THE CELL 'sum', in the pinned program and in every row, IS THE sha256 OF THE DUMP (.gsa) THAT YtkbljlbfkgoalaaGreatDoorProg.lean LOADS. Nothing in Lean hashes anything: it is a label: what it is worth is what the hold of that sum in a sandbox is worth. -/
noncomputable def Tryz.pinned : Pinned := { name := "ytkbljlbfkgoalaagreatdoor", sum := "061176ed75671b54a172f4cc2d59c4dfdd47a337bddd05e05d261e490514d72e", checked := Tryz.checked }
namespace Rows
def none {H : Type} : Left H := { results := [], args := [] }

/- WHAT THE LISTED PACKAGE-LEVEL VARIABLES READ AS WHEN THE CALL BEGINS. Each datum BY PROGRAM (the guide's laid-datum.mjs) off the statement by which the dump's own 'gosem.cut.vars' lays the variable. In a bare row this is a premise. The card (YtkbljlbfkgoalaaGreatDoorCards.lean) ties it to the program's text. -/
def laid_math_bits_deBruijn32tab {H : Type} : DataW H := .agg [.lit (.int .u8 0), .lit (.int .u8 1), .lit (.int .u8 28), .lit (.int .u8 2), .lit (.int .u8 29), .lit (.int .u8 14), .lit (.int .u8 24), .lit (.int .u8 3), .lit (.int .u8 30), .lit (.int .u8 22), .lit (.int .u8 20), .lit (.int .u8 15), .lit (.int .u8 25), .lit (.int .u8 17), .lit (.int .u8 4), .lit (.int .u8 8), .lit (.int .u8 31), .lit (.int .u8 27), .lit (.int .u8 13), .lit (.int .u8 23), .lit (.int .u8 21), .lit (.int .u8 19), .lit (.int .u8 16), .lit (.int .u8 7), .lit (.int .u8 26), .lit (.int .u8 12), .lit (.int .u8 18), .lit (.int .u8 6), .lit (.int .u8 11), .lit (.int .u8 5), .lit (.int .u8 10), .lit (.int .u8 9)]
def laid_math_bits_deBruijn64tab {H : Type} : DataW H := .agg [.lit (.int .u8 0), .lit (.int .u8 1), .lit (.int .u8 56), .lit (.int .u8 2), .lit (.int .u8 57), .lit (.int .u8 49), .lit (.int .u8 28), .lit (.int .u8 3), .lit (.int .u8 61), .lit (.int .u8 58), .lit (.int .u8 42), .lit (.int .u8 50), .lit (.int .u8 38), .lit (.int .u8 29), .lit (.int .u8 17), .lit (.int .u8 4), .lit (.int .u8 62), .lit (.int .u8 47), .lit (.int .u8 59), .lit (.int .u8 36), .lit (.int .u8 45), .lit (.int .u8 43), .lit (.int .u8 51), .lit (.int .u8 22), .lit (.int .u8 53), .lit (.int .u8 39), .lit (.int .u8 33), .lit (.int .u8 30), .lit (.int .u8 24), .lit (.int .u8 18), .lit (.int .u8 12), .lit (.int .u8 5), .lit (.int .u8 63), .lit (.int .u8 55), .lit (.int .u8 48), .lit (.int .u8 27), .lit (.int .u8 60), .lit (.int .u8 41), .lit (.int .u8 37), .lit (.int .u8 16), .lit (.int .u8 46), .lit (.int .u8 35), .lit (.int .u8 44), .lit (.int .u8 21), .lit (.int .u8 52), .lit (.int .u8 32), .lit (.int .u8 23), .lit (.int .u8 11), .lit (.int .u8 54), .lit (.int .u8 26), .lit (.int .u8 40), .lit (.int .u8 15), .lit (.int .u8 34), .lit (.int .u8 20), .lit (.int .u8 31), .lit (.int .u8 10), .lit (.int .u8 25), .lit (.int .u8 14), .lit (.int .u8 19), .lit (.int .u8 9), .lit (.int .u8 13), .lit (.int .u8 8), .lit (.int .u8 7), .lit (.int .u8 6)]
def laid_internal_strconv_uint64pow10 {H : Type} : DataW H := .agg [.lit (.int .u64 1), .lit (.int .u64 10), .lit (.int .u64 100), .lit (.int .u64 1000), .lit (.int .u64 10000), .lit (.int .u64 100000), .lit (.int .u64 1000000), .lit (.int .u64 10000000), .lit (.int .u64 100000000), .lit (.int .u64 1000000000), .lit (.int .u64 10000000000), .lit (.int .u64 100000000000), .lit (.int .u64 1000000000000), .lit (.int .u64 10000000000000), .lit (.int .u64 100000000000000), .lit (.int .u64 1000000000000000), .lit (.int .u64 10000000000000000), .lit (.int .u64 100000000000000000), .lit (.int .u64 1000000000000000000), .lit (.int .u64 10000000000000000000)]
def laid_unicode_utf8_acceptRanges {H : Type} : DataW H := .agg [.agg [.lit (.int .u8 128), .lit (.int .u8 191)], .agg [.lit (.int .u8 160), .lit (.int .u8 191)], .agg [.lit (.int .u8 128), .lit (.int .u8 159)], .agg [.lit (.int .u8 144), .lit (.int .u8 191)], .agg [.lit (.int .u8 128), .lit (.int .u8 143)], .agg [.lit (.int .u8 0), .lit (.int .u8 0)], .agg [.lit (.int .u8 0), .lit (.int .u8 0)], .agg [.lit (.int .u8 0), .lit (.int .u8 0)], .agg [.lit (.int .u8 0), .lit (.int .u8 0)], .agg [.lit (.int .u8 0), .lit (.int .u8 0)], .agg [.lit (.int .u8 0), .lit (.int .u8 0)], .agg [.lit (.int .u8 0), .lit (.int .u8 0)], .agg [.lit (.int .u8 0), .lit (.int .u8 0)], .agg [.lit (.int .u8 0), .lit (.int .u8 0)], .agg [.lit (.int .u8 0), .lit (.int .u8 0)], .agg [.lit (.int .u8 0), .lit (.int .u8 0)]]
/-- One of Go's own tables, pinned by name: the form's constant. -/
def laid_unicode_utf8_first : DataW Unit := Go.Pinned.utf8First

/-- 'laws.FnExactStalkForm': WHATEVER THE INPUT: true; the input reads as it did. -/
def fnExactStalkFormSpec : ChangeSpec := { name := "fnExactStalkForm", fn := fun _ => fun
  | [d] => { results := [.lit (.bool true)], args := [d] }
  | _ => none }
def fnExactStalkFormRow : OpenClaim := { program := "ytkbljlbfkgoalaagreatdoor", sum := "061176ed75671b54a172f4cc2d59c4dfdd47a337bddd05e05d261e490514d72e", func := "loop.example/g00868/laws.FnExactStalkForm", spec := "fnExactStalkForm", inPlace := ["internal/bytealg.IndexByteString", "internal/bytealg.IndexString"], unfollowed := true, recurses := true, named := ["unicode/utf8.first", "unicode/utf8.acceptRanges", "internal/strconv.uint64pow10", "math/bits.deBruijn32tab", "math/bits.deBruijn64tab", "internal/bytealg.MaxLen"], plainKeys := false, apart := false, laid := [("math/bits.deBruijn32tab", laid_math_bits_deBruijn32tab), ("math/bits.deBruijn64tab", laid_math_bits_deBruijn64tab), ("internal/strconv.uint64pow10", laid_internal_strconv_uint64pow10), ("unicode/utf8.acceptRanges", laid_unicode_utf8_acceptRanges), ("unicode/utf8.first", laid_unicode_utf8_first)] }
def FnExactStalkFormSaid : Prop := fnExactStalkFormRow.holds Tryz.pinned (OpenSpec.ofChange fnExactStalkFormSpec)

/-- ITS FALSE NEIGHBOUR: 'it returns false'. Refute it at one input. -/
def fnExactStalkFormWrong : ChangeSpec := { name := "fnExactStalkForm", fn := fun _ => fun
  | [d] => { results := [.lit (.bool false)], args := [d] }
  | _ => none }
def FnExactStalkFormWrongFalsely : Prop := fnExactStalkFormRow.holds Tryz.pinned (OpenSpec.ofChange fnExactStalkFormWrong)

/-- 'laws.FnExactSumOfMany': WHATEVER THE INPUT: true; the input reads as it did. -/
def fnExactSumOfManySpec : ChangeSpec := { name := "fnExactSumOfMany", fn := fun _ => fun
  | [d] => { results := [.lit (.bool true)], args := [d] }
  | _ => none }
def fnExactSumOfManyRow : OpenClaim := { program := "ytkbljlbfkgoalaagreatdoor", sum := "061176ed75671b54a172f4cc2d59c4dfdd47a337bddd05e05d261e490514d72e", func := "loop.example/g00868/laws.FnExactSumOfMany", spec := "fnExactSumOfMany", unfollowed := true, recurses := true, named := ["internal/strconv.uint64pow10", "math/bits.deBruijn32tab", "math/bits.deBruijn64tab"], plainKeys := false, apart := false, laid := [("math/bits.deBruijn32tab", laid_math_bits_deBruijn32tab), ("math/bits.deBruijn64tab", laid_math_bits_deBruijn64tab), ("internal/strconv.uint64pow10", laid_internal_strconv_uint64pow10)] }
def FnExactSumOfManySaid : Prop := fnExactSumOfManyRow.holds Tryz.pinned (OpenSpec.ofChange fnExactSumOfManySpec)

/-- ITS FALSE NEIGHBOUR: 'it returns false'. Refute it at one input. -/
def fnExactSumOfManyWrong : ChangeSpec := { name := "fnExactSumOfMany", fn := fun _ => fun
  | [d] => { results := [.lit (.bool false)], args := [d] }
  | _ => none }
def FnExactSumOfManyWrongFalsely : Prop := fnExactSumOfManyRow.holds Tryz.pinned (OpenSpec.ofChange fnExactSumOfManyWrong)

/-- 'laws.FnExactTimesForm': WHATEVER THE INPUT: true; the input reads as it did. -/
def fnExactTimesFormSpec : ChangeSpec := { name := "fnExactTimesForm", fn := fun _ => fun
  | [d1, d2] => { results := [.lit (.bool true)], args := [d1, d2] }
  | _ => none }
def fnExactTimesFormRow : OpenClaim := { program := "ytkbljlbfkgoalaagreatdoor", sum := "061176ed75671b54a172f4cc2d59c4dfdd47a337bddd05e05d261e490514d72e", func := "loop.example/g00868/laws.FnExactTimesForm", spec := "fnExactTimesForm", unfollowed := true, recurses := true, named := ["internal/strconv.uint64pow10", "math/bits.deBruijn32tab", "math/bits.deBruijn64tab"], plainKeys := false, apart := false, laid := [("math/bits.deBruijn32tab", laid_math_bits_deBruijn32tab), ("math/bits.deBruijn64tab", laid_math_bits_deBruijn64tab), ("internal/strconv.uint64pow10", laid_internal_strconv_uint64pow10)] }
def FnExactTimesFormSaid : Prop := fnExactTimesFormRow.holds Tryz.pinned (OpenSpec.ofChange fnExactTimesFormSpec)

/-- ITS FALSE NEIGHBOUR: 'it returns false'. Refute it at one input. -/
def fnExactTimesFormWrong : ChangeSpec := { name := "fnExactTimesForm", fn := fun _ => fun
  | [d1, d2] => { results := [.lit (.bool false)], args := [d1, d2] }
  | _ => none }
def FnExactTimesFormWrongFalsely : Prop := fnExactTimesFormRow.holds Tryz.pinned (OpenSpec.ofChange fnExactTimesFormWrong)

/-- 'laws.FnExactDropForm': WHATEVER THE INPUT: true; the input reads as it did. -/
def fnExactDropFormSpec : ChangeSpec := { name := "fnExactDropForm", fn := fun _ => fun
  | [d] => { results := [.lit (.bool true)], args := [d] }
  | _ => none }
def fnExactDropFormRow : OpenClaim := { program := "ytkbljlbfkgoalaagreatdoor", sum := "061176ed75671b54a172f4cc2d59c4dfdd47a337bddd05e05d261e490514d72e", func := "loop.example/g00868/laws.FnExactDropForm", spec := "fnExactDropForm", unfollowed := true, recurses := true, named := ["internal/strconv.uint64pow10", "math/bits.deBruijn32tab", "math/bits.deBruijn64tab"], plainKeys := false, apart := false, laid := [("math/bits.deBruijn32tab", laid_math_bits_deBruijn32tab), ("math/bits.deBruijn64tab", laid_math_bits_deBruijn64tab), ("internal/strconv.uint64pow10", laid_internal_strconv_uint64pow10)] }
def FnExactDropFormSaid : Prop := fnExactDropFormRow.holds Tryz.pinned (OpenSpec.ofChange fnExactDropFormSpec)

/-- ITS FALSE NEIGHBOUR: 'it returns false'. Refute it at one input. -/
def fnExactDropFormWrong : ChangeSpec := { name := "fnExactDropForm", fn := fun _ => fun
  | [d] => { results := [.lit (.bool false)], args := [d] }
  | _ => none }
def FnExactDropFormWrongFalsely : Prop := fnExactDropFormRow.holds Tryz.pinned (OpenSpec.ofChange fnExactDropFormWrong)

/-- 'laws.FnExactBypassForm': WHATEVER THE INPUT: true; the input reads as it did. -/
def fnExactBypassFormSpec : ChangeSpec := { name := "fnExactBypassForm", fn := fun _ => fun
  | [d] => { results := [.lit (.bool true)], args := [d] }
  | _ => none }
def fnExactBypassFormRow : OpenClaim := { program := "ytkbljlbfkgoalaagreatdoor", sum := "061176ed75671b54a172f4cc2d59c4dfdd47a337bddd05e05d261e490514d72e", func := "loop.example/g00868/laws.FnExactBypassForm", spec := "fnExactBypassForm", unfollowed := true, recurses := true, named := ["internal/strconv.uint64pow10", "math/bits.deBruijn32tab", "math/bits.deBruijn64tab"], plainKeys := false, apart := false, laid := [("math/bits.deBruijn32tab", laid_math_bits_deBruijn32tab), ("math/bits.deBruijn64tab", laid_math_bits_deBruijn64tab), ("internal/strconv.uint64pow10", laid_internal_strconv_uint64pow10)] }
def FnExactBypassFormSaid : Prop := fnExactBypassFormRow.holds Tryz.pinned (OpenSpec.ofChange fnExactBypassFormSpec)

/-- ITS FALSE NEIGHBOUR: 'it returns false'. Refute it at one input. -/
def fnExactBypassFormWrong : ChangeSpec := { name := "fnExactBypassForm", fn := fun _ => fun
  | [d] => { results := [.lit (.bool false)], args := [d] }
  | _ => none }
def FnExactBypassFormWrongFalsely : Prop := fnExactBypassFormRow.holds Tryz.pinned (OpenSpec.ofChange fnExactBypassFormWrong)

/-- 'laws.FnExactCompareNumber': WHATEVER THE INPUT: true; the input reads as it did. -/
def fnExactCompareNumberSpec : ChangeSpec := { name := "fnExactCompareNumber", fn := fun _ => fun
  | [d1, d2] => { results := [.lit (.bool true)], args := [d1, d2] }
  | _ => none }
def fnExactCompareNumberRow : OpenClaim := { program := "ytkbljlbfkgoalaagreatdoor", sum := "061176ed75671b54a172f4cc2d59c4dfdd47a337bddd05e05d261e490514d72e", func := "loop.example/g00868/laws.FnExactCompareNumber", spec := "fnExactCompareNumber", unfollowed := true, recurses := true, named := ["internal/strconv.uint64pow10", "math/bits.deBruijn32tab", "math/bits.deBruijn64tab"], plainKeys := false, apart := false, laid := [("math/bits.deBruijn32tab", laid_math_bits_deBruijn32tab), ("math/bits.deBruijn64tab", laid_math_bits_deBruijn64tab), ("internal/strconv.uint64pow10", laid_internal_strconv_uint64pow10)] }
def FnExactCompareNumberSaid : Prop := fnExactCompareNumberRow.holds Tryz.pinned (OpenSpec.ofChange fnExactCompareNumberSpec)

/-- ITS FALSE NEIGHBOUR: 'it returns false'. Refute it at one input. -/
def fnExactCompareNumberWrong : ChangeSpec := { name := "fnExactCompareNumber", fn := fun _ => fun
  | [d1, d2] => { results := [.lit (.bool false)], args := [d1, d2] }
  | _ => none }
def FnExactCompareNumberWrongFalsely : Prop := fnExactCompareNumberRow.holds Tryz.pinned (OpenSpec.ofChange fnExactCompareNumberWrong)

/-- 'laws.FnExactCanonOf': WHATEVER THE INPUT: true; the input reads as it did. -/
def fnExactCanonOfSpec : ChangeSpec := { name := "fnExactCanonOf", fn := fun _ => fun
  | [d] => { results := [.lit (.bool true)], args := [d] }
  | _ => none }
def fnExactCanonOfRow : OpenClaim := { program := "ytkbljlbfkgoalaagreatdoor", sum := "061176ed75671b54a172f4cc2d59c4dfdd47a337bddd05e05d261e490514d72e", func := "loop.example/g00868/laws.FnExactCanonOf", spec := "fnExactCanonOf", unfollowed := true, recurses := true, named := ["internal/strconv.uint64pow10", "math/bits.deBruijn32tab", "math/bits.deBruijn64tab"], plainKeys := false, apart := false, laid := [("math/bits.deBruijn32tab", laid_math_bits_deBruijn32tab), ("math/bits.deBruijn64tab", laid_math_bits_deBruijn64tab), ("internal/strconv.uint64pow10", laid_internal_strconv_uint64pow10)] }
def FnExactCanonOfSaid : Prop := fnExactCanonOfRow.holds Tryz.pinned (OpenSpec.ofChange fnExactCanonOfSpec)

/-- ITS FALSE NEIGHBOUR: 'it returns false'. Refute it at one input. -/
def fnExactCanonOfWrong : ChangeSpec := { name := "fnExactCanonOf", fn := fun _ => fun
  | [d] => { results := [.lit (.bool false)], args := [d] }
  | _ => none }
def FnExactCanonOfWrongFalsely : Prop := fnExactCanonOfRow.holds Tryz.pinned (OpenSpec.ofChange fnExactCanonOfWrong)

/-- 'laws.FnExactCanonSum': WHATEVER THE INPUT: true; the input reads as it did. -/
def fnExactCanonSumSpec : ChangeSpec := { name := "fnExactCanonSum", fn := fun _ => fun
  | [d] => { results := [.lit (.bool true)], args := [d] }
  | _ => none }
def fnExactCanonSumRow : OpenClaim := { program := "ytkbljlbfkgoalaagreatdoor", sum := "061176ed75671b54a172f4cc2d59c4dfdd47a337bddd05e05d261e490514d72e", func := "loop.example/g00868/laws.FnExactCanonSum", spec := "fnExactCanonSum", unfollowed := true, recurses := true, named := ["internal/strconv.uint64pow10", "math/bits.deBruijn32tab", "math/bits.deBruijn64tab"], plainKeys := false, apart := false, laid := [("math/bits.deBruijn32tab", laid_math_bits_deBruijn32tab), ("math/bits.deBruijn64tab", laid_math_bits_deBruijn64tab), ("internal/strconv.uint64pow10", laid_internal_strconv_uint64pow10)] }
def FnExactCanonSumSaid : Prop := fnExactCanonSumRow.holds Tryz.pinned (OpenSpec.ofChange fnExactCanonSumSpec)

/-- ITS FALSE NEIGHBOUR: 'it returns false'. Refute it at one input. -/
def fnExactCanonSumWrong : ChangeSpec := { name := "fnExactCanonSum", fn := fun _ => fun
  | [d] => { results := [.lit (.bool false)], args := [d] }
  | _ => none }
def FnExactCanonSumWrongFalsely : Prop := fnExactCanonSumRow.holds Tryz.pinned (OpenSpec.ofChange fnExactCanonSumWrong)

/-- 'laws.FnExactPlusNumber': WHATEVER THE INPUT: true; the input reads as it did. -/
def fnExactPlusNumberSpec : ChangeSpec := { name := "fnExactPlusNumber", fn := fun _ => fun
  | [d1, d2] => { results := [.lit (.bool true)], args := [d1, d2] }
  | _ => none }
def fnExactPlusNumberRow : OpenClaim := { program := "ytkbljlbfkgoalaagreatdoor", sum := "061176ed75671b54a172f4cc2d59c4dfdd47a337bddd05e05d261e490514d72e", func := "loop.example/g00868/laws.FnExactPlusNumber", spec := "fnExactPlusNumber", unfollowed := true, recurses := true, named := ["internal/strconv.uint64pow10", "math/bits.deBruijn32tab", "math/bits.deBruijn64tab"], plainKeys := false, apart := false, laid := [("math/bits.deBruijn32tab", laid_math_bits_deBruijn32tab), ("math/bits.deBruijn64tab", laid_math_bits_deBruijn64tab), ("internal/strconv.uint64pow10", laid_internal_strconv_uint64pow10)] }
def FnExactPlusNumberSaid : Prop := fnExactPlusNumberRow.holds Tryz.pinned (OpenSpec.ofChange fnExactPlusNumberSpec)

/-- ITS FALSE NEIGHBOUR: 'it returns false'. Refute it at one input. -/
def fnExactPlusNumberWrong : ChangeSpec := { name := "fnExactPlusNumber", fn := fun _ => fun
  | [d1, d2] => { results := [.lit (.bool false)], args := [d1, d2] }
  | _ => none }
def FnExactPlusNumberWrongFalsely : Prop := fnExactPlusNumberRow.holds Tryz.pinned (OpenSpec.ofChange fnExactPlusNumberWrong)

/-- 'laws.FnExactSumOfTable': WHATEVER THE INPUT: true; the input reads as it did. -/
def fnExactSumOfTableSpec : ChangeSpec := { name := "fnExactSumOfTable", fn := fun _ => fun
  | [d] => { results := [.lit (.bool true)], args := [d] }
  | _ => none }
def fnExactSumOfTableRow : OpenClaim := { program := "ytkbljlbfkgoalaagreatdoor", sum := "061176ed75671b54a172f4cc2d59c4dfdd47a337bddd05e05d261e490514d72e", func := "loop.example/g00868/laws.FnExactSumOfTable", spec := "fnExactSumOfTable", unfollowed := true, recurses := true, named := ["internal/strconv.uint64pow10", "math/bits.deBruijn32tab", "math/bits.deBruijn64tab"], plainKeys := false, apart := false, laid := [("math/bits.deBruijn32tab", laid_math_bits_deBruijn32tab), ("math/bits.deBruijn64tab", laid_math_bits_deBruijn64tab), ("internal/strconv.uint64pow10", laid_internal_strconv_uint64pow10)] }
def FnExactSumOfTableSaid : Prop := fnExactSumOfTableRow.holds Tryz.pinned (OpenSpec.ofChange fnExactSumOfTableSpec)

/-- ITS FALSE NEIGHBOUR: 'it returns false'. Refute it at one input. -/
def fnExactSumOfTableWrong : ChangeSpec := { name := "fnExactSumOfTable", fn := fun _ => fun
  | [d] => { results := [.lit (.bool false)], args := [d] }
  | _ => none }
def FnExactSumOfTableWrongFalsely : Prop := fnExactSumOfTableRow.holds Tryz.pinned (OpenSpec.ofChange fnExactSumOfTableWrong)

/-- 'laws.FnExactWinnerOf': WHATEVER THE INPUT: true; the input reads as it did. -/
def fnExactWinnerOfSpec : ChangeSpec := { name := "fnExactWinnerOf", fn := fun _ => fun
  | [d] => { results := [.lit (.bool true)], args := [d] }
  | _ => none }
def fnExactWinnerOfRow : OpenClaim := { program := "ytkbljlbfkgoalaagreatdoor", sum := "061176ed75671b54a172f4cc2d59c4dfdd47a337bddd05e05d261e490514d72e", func := "loop.example/g00868/laws.FnExactWinnerOf", spec := "fnExactWinnerOf", unfollowed := true, recurses := true, named := ["internal/strconv.uint64pow10", "math/bits.deBruijn32tab", "math/bits.deBruijn64tab"], plainKeys := false, apart := false, laid := [("math/bits.deBruijn32tab", laid_math_bits_deBruijn32tab), ("math/bits.deBruijn64tab", laid_math_bits_deBruijn64tab), ("internal/strconv.uint64pow10", laid_internal_strconv_uint64pow10)] }
def FnExactWinnerOfSaid : Prop := fnExactWinnerOfRow.holds Tryz.pinned (OpenSpec.ofChange fnExactWinnerOfSpec)

/-- ITS FALSE NEIGHBOUR: 'it returns false'. Refute it at one input. -/
def fnExactWinnerOfWrong : ChangeSpec := { name := "fnExactWinnerOf", fn := fun _ => fun
  | [d] => { results := [.lit (.bool false)], args := [d] }
  | _ => none }
def FnExactWinnerOfWrongFalsely : Prop := fnExactWinnerOfRow.holds Tryz.pinned (OpenSpec.ofChange fnExactWinnerOfWrong)

/-- 'laws.FnExactUpsOf': WHATEVER THE INPUT: true; the input reads as it did. -/
def fnExactUpsOfSpec : ChangeSpec := { name := "fnExactUpsOf", fn := fun _ => fun
  | [d] => { results := [.lit (.bool true)], args := [d] }
  | _ => none }
def fnExactUpsOfRow : OpenClaim := { program := "ytkbljlbfkgoalaagreatdoor", sum := "061176ed75671b54a172f4cc2d59c4dfdd47a337bddd05e05d261e490514d72e", func := "loop.example/g00868/laws.FnExactUpsOf", spec := "fnExactUpsOf", recurses := true, named := ["internal/strconv.uint64pow10", "math/bits.deBruijn32tab", "math/bits.deBruijn64tab"], plainKeys := false, apart := false, laid := [("math/bits.deBruijn32tab", laid_math_bits_deBruijn32tab), ("math/bits.deBruijn64tab", laid_math_bits_deBruijn64tab), ("internal/strconv.uint64pow10", laid_internal_strconv_uint64pow10)] }
def FnExactUpsOfSaid : Prop := fnExactUpsOfRow.holds Tryz.pinned (OpenSpec.ofChange fnExactUpsOfSpec)

/-- ITS FALSE NEIGHBOUR: 'it returns false'. Refute it at one input. -/
def fnExactUpsOfWrong : ChangeSpec := { name := "fnExactUpsOf", fn := fun _ => fun
  | [d] => { results := [.lit (.bool false)], args := [d] }
  | _ => none }
def FnExactUpsOfWrongFalsely : Prop := fnExactUpsOfRow.holds Tryz.pinned (OpenSpec.ofChange fnExactUpsOfWrong)

/- THE SECOND FORM. 'bulk': how many values and letters a reading holds, each counted each time it is reached (what is shared counts as often as it is met; a slice's spare places count too). A statement '..UptoSaid' is the law's where the arguments, and the package variables that the reading takes, are together of bulk at most 1048576: NARROWER than '..Said'. Prove '..Said' where nothing that the law and all that it calls make is longer than what came in: it says more and counts as full. Else prove '..UptoSaid'. A law counts once. -/
mutual
def uptoBulk {H : Type} : DataW H → Nat
  | .lit (.string bytes) => bytes.length + 1
  | .lit _ => 1
  | .nil => 1
  | .ptr d => uptoBulk d + 1
  | .slice elems spare => uptoBulkAll elems + uptoBulkAll spare + 1
  | .agg parts => uptoBulkAll parts + 1
  | .iface _ d => uptoBulk d + 1
  | .map entries => uptoBulkEntries entries + 1
  | .held _ => 1
def uptoBulkAll {H : Type} : List (DataW H) → Nat
  | [] => 0
  | d :: r => uptoBulk d + uptoBulkAll r
def uptoBulkEntries {H : Type} : List (Lit × DataW H) → Nat
  | [] => 0
  | x :: r => uptoBulkEntry x + uptoBulkEntries r
def uptoBulkEntry {H : Type} : Lit × DataW H → Nat
  | (.string bytes, d) => bytes.length + uptoBulk d + 1
  | (_, d) => uptoBulk d + 1
 end
def uptoSmall : (H : Type) → List (DataW H) → Bool := fun _ ds => decide (uptoBulkAll ds ≤ 1048576)
def OpenSpec.upto (s : _root_.Go.ChangeSpec) : _root_.Go.OpenSpec := { _root_.Go.OpenSpec.ofChange s with cond := some uptoSmall }

/-- 'laws.FnExactStalkForm', WHERE WHAT IT READS IS OF BULK AT MOST 1048576: true; the input reads as it did. -/
def fnExactStalkFormUptoRow : OpenClaim := { program := "ytkbljlbfkgoalaagreatdoor", sum := "061176ed75671b54a172f4cc2d59c4dfdd47a337bddd05e05d261e490514d72e", func := "loop.example/g00868/laws.FnExactStalkForm", spec := "fnExactStalkForm", inPlace := ["internal/bytealg.IndexByteString", "internal/bytealg.IndexString"], unfollowed := true, recurses := true, named := ["unicode/utf8.first", "unicode/utf8.acceptRanges", "internal/strconv.uint64pow10", "math/bits.deBruijn32tab", "math/bits.deBruijn64tab", "internal/bytealg.MaxLen"], plainKeys := false, apart := false, laid := [("math/bits.deBruijn32tab", laid_math_bits_deBruijn32tab), ("math/bits.deBruijn64tab", laid_math_bits_deBruijn64tab), ("internal/strconv.uint64pow10", laid_internal_strconv_uint64pow10), ("unicode/utf8.acceptRanges", laid_unicode_utf8_acceptRanges), ("unicode/utf8.first", laid_unicode_utf8_first)], narrowed := true }
def FnExactStalkFormUptoSaid : Prop := fnExactStalkFormUptoRow.holds Tryz.pinned (OpenSpec.upto fnExactStalkFormSpec)

/-- 'laws.FnExactSumOfMany', WHERE WHAT IT READS IS OF BULK AT MOST 1048576: true; the input reads as it did. -/
def fnExactSumOfManyUptoRow : OpenClaim := { program := "ytkbljlbfkgoalaagreatdoor", sum := "061176ed75671b54a172f4cc2d59c4dfdd47a337bddd05e05d261e490514d72e", func := "loop.example/g00868/laws.FnExactSumOfMany", spec := "fnExactSumOfMany", unfollowed := true, recurses := true, named := ["internal/strconv.uint64pow10", "math/bits.deBruijn32tab", "math/bits.deBruijn64tab"], plainKeys := false, apart := false, laid := [("math/bits.deBruijn32tab", laid_math_bits_deBruijn32tab), ("math/bits.deBruijn64tab", laid_math_bits_deBruijn64tab), ("internal/strconv.uint64pow10", laid_internal_strconv_uint64pow10)], narrowed := true }
def FnExactSumOfManyUptoSaid : Prop := fnExactSumOfManyUptoRow.holds Tryz.pinned (OpenSpec.upto fnExactSumOfManySpec)

/-- 'laws.FnExactTimesForm', WHERE WHAT IT READS IS OF BULK AT MOST 1048576: true; the input reads as it did. -/
def fnExactTimesFormUptoRow : OpenClaim := { program := "ytkbljlbfkgoalaagreatdoor", sum := "061176ed75671b54a172f4cc2d59c4dfdd47a337bddd05e05d261e490514d72e", func := "loop.example/g00868/laws.FnExactTimesForm", spec := "fnExactTimesForm", unfollowed := true, recurses := true, named := ["internal/strconv.uint64pow10", "math/bits.deBruijn32tab", "math/bits.deBruijn64tab"], plainKeys := false, apart := false, laid := [("math/bits.deBruijn32tab", laid_math_bits_deBruijn32tab), ("math/bits.deBruijn64tab", laid_math_bits_deBruijn64tab), ("internal/strconv.uint64pow10", laid_internal_strconv_uint64pow10)], narrowed := true }
def FnExactTimesFormUptoSaid : Prop := fnExactTimesFormUptoRow.holds Tryz.pinned (OpenSpec.upto fnExactTimesFormSpec)

/-- 'laws.FnExactDropForm', WHERE WHAT IT READS IS OF BULK AT MOST 1048576: true; the input reads as it did. -/
def fnExactDropFormUptoRow : OpenClaim := { program := "ytkbljlbfkgoalaagreatdoor", sum := "061176ed75671b54a172f4cc2d59c4dfdd47a337bddd05e05d261e490514d72e", func := "loop.example/g00868/laws.FnExactDropForm", spec := "fnExactDropForm", unfollowed := true, recurses := true, named := ["internal/strconv.uint64pow10", "math/bits.deBruijn32tab", "math/bits.deBruijn64tab"], plainKeys := false, apart := false, laid := [("math/bits.deBruijn32tab", laid_math_bits_deBruijn32tab), ("math/bits.deBruijn64tab", laid_math_bits_deBruijn64tab), ("internal/strconv.uint64pow10", laid_internal_strconv_uint64pow10)], narrowed := true }
def FnExactDropFormUptoSaid : Prop := fnExactDropFormUptoRow.holds Tryz.pinned (OpenSpec.upto fnExactDropFormSpec)

/-- 'laws.FnExactBypassForm', WHERE WHAT IT READS IS OF BULK AT MOST 1048576: true; the input reads as it did. -/
def fnExactBypassFormUptoRow : OpenClaim := { program := "ytkbljlbfkgoalaagreatdoor", sum := "061176ed75671b54a172f4cc2d59c4dfdd47a337bddd05e05d261e490514d72e", func := "loop.example/g00868/laws.FnExactBypassForm", spec := "fnExactBypassForm", unfollowed := true, recurses := true, named := ["internal/strconv.uint64pow10", "math/bits.deBruijn32tab", "math/bits.deBruijn64tab"], plainKeys := false, apart := false, laid := [("math/bits.deBruijn32tab", laid_math_bits_deBruijn32tab), ("math/bits.deBruijn64tab", laid_math_bits_deBruijn64tab), ("internal/strconv.uint64pow10", laid_internal_strconv_uint64pow10)], narrowed := true }
def FnExactBypassFormUptoSaid : Prop := fnExactBypassFormUptoRow.holds Tryz.pinned (OpenSpec.upto fnExactBypassFormSpec)

/-- 'laws.FnExactCompareNumber', WHERE WHAT IT READS IS OF BULK AT MOST 1048576: true; the input reads as it did. -/
def fnExactCompareNumberUptoRow : OpenClaim := { program := "ytkbljlbfkgoalaagreatdoor", sum := "061176ed75671b54a172f4cc2d59c4dfdd47a337bddd05e05d261e490514d72e", func := "loop.example/g00868/laws.FnExactCompareNumber", spec := "fnExactCompareNumber", unfollowed := true, recurses := true, named := ["internal/strconv.uint64pow10", "math/bits.deBruijn32tab", "math/bits.deBruijn64tab"], plainKeys := false, apart := false, laid := [("math/bits.deBruijn32tab", laid_math_bits_deBruijn32tab), ("math/bits.deBruijn64tab", laid_math_bits_deBruijn64tab), ("internal/strconv.uint64pow10", laid_internal_strconv_uint64pow10)], narrowed := true }
def FnExactCompareNumberUptoSaid : Prop := fnExactCompareNumberUptoRow.holds Tryz.pinned (OpenSpec.upto fnExactCompareNumberSpec)

/-- 'laws.FnExactCanonOf', WHERE WHAT IT READS IS OF BULK AT MOST 1048576: true; the input reads as it did. -/
def fnExactCanonOfUptoRow : OpenClaim := { program := "ytkbljlbfkgoalaagreatdoor", sum := "061176ed75671b54a172f4cc2d59c4dfdd47a337bddd05e05d261e490514d72e", func := "loop.example/g00868/laws.FnExactCanonOf", spec := "fnExactCanonOf", unfollowed := true, recurses := true, named := ["internal/strconv.uint64pow10", "math/bits.deBruijn32tab", "math/bits.deBruijn64tab"], plainKeys := false, apart := false, laid := [("math/bits.deBruijn32tab", laid_math_bits_deBruijn32tab), ("math/bits.deBruijn64tab", laid_math_bits_deBruijn64tab), ("internal/strconv.uint64pow10", laid_internal_strconv_uint64pow10)], narrowed := true }
def FnExactCanonOfUptoSaid : Prop := fnExactCanonOfUptoRow.holds Tryz.pinned (OpenSpec.upto fnExactCanonOfSpec)

/-- 'laws.FnExactCanonSum', WHERE WHAT IT READS IS OF BULK AT MOST 1048576: true; the input reads as it did. -/
def fnExactCanonSumUptoRow : OpenClaim := { program := "ytkbljlbfkgoalaagreatdoor", sum := "061176ed75671b54a172f4cc2d59c4dfdd47a337bddd05e05d261e490514d72e", func := "loop.example/g00868/laws.FnExactCanonSum", spec := "fnExactCanonSum", unfollowed := true, recurses := true, named := ["internal/strconv.uint64pow10", "math/bits.deBruijn32tab", "math/bits.deBruijn64tab"], plainKeys := false, apart := false, laid := [("math/bits.deBruijn32tab", laid_math_bits_deBruijn32tab), ("math/bits.deBruijn64tab", laid_math_bits_deBruijn64tab), ("internal/strconv.uint64pow10", laid_internal_strconv_uint64pow10)], narrowed := true }
def FnExactCanonSumUptoSaid : Prop := fnExactCanonSumUptoRow.holds Tryz.pinned (OpenSpec.upto fnExactCanonSumSpec)

/-- 'laws.FnExactPlusNumber', WHERE WHAT IT READS IS OF BULK AT MOST 1048576: true; the input reads as it did. -/
def fnExactPlusNumberUptoRow : OpenClaim := { program := "ytkbljlbfkgoalaagreatdoor", sum := "061176ed75671b54a172f4cc2d59c4dfdd47a337bddd05e05d261e490514d72e", func := "loop.example/g00868/laws.FnExactPlusNumber", spec := "fnExactPlusNumber", unfollowed := true, recurses := true, named := ["internal/strconv.uint64pow10", "math/bits.deBruijn32tab", "math/bits.deBruijn64tab"], plainKeys := false, apart := false, laid := [("math/bits.deBruijn32tab", laid_math_bits_deBruijn32tab), ("math/bits.deBruijn64tab", laid_math_bits_deBruijn64tab), ("internal/strconv.uint64pow10", laid_internal_strconv_uint64pow10)], narrowed := true }
def FnExactPlusNumberUptoSaid : Prop := fnExactPlusNumberUptoRow.holds Tryz.pinned (OpenSpec.upto fnExactPlusNumberSpec)

/-- 'laws.FnExactSumOfTable', WHERE WHAT IT READS IS OF BULK AT MOST 1048576: true; the input reads as it did. -/
def fnExactSumOfTableUptoRow : OpenClaim := { program := "ytkbljlbfkgoalaagreatdoor", sum := "061176ed75671b54a172f4cc2d59c4dfdd47a337bddd05e05d261e490514d72e", func := "loop.example/g00868/laws.FnExactSumOfTable", spec := "fnExactSumOfTable", unfollowed := true, recurses := true, named := ["internal/strconv.uint64pow10", "math/bits.deBruijn32tab", "math/bits.deBruijn64tab"], plainKeys := false, apart := false, laid := [("math/bits.deBruijn32tab", laid_math_bits_deBruijn32tab), ("math/bits.deBruijn64tab", laid_math_bits_deBruijn64tab), ("internal/strconv.uint64pow10", laid_internal_strconv_uint64pow10)], narrowed := true }
def FnExactSumOfTableUptoSaid : Prop := fnExactSumOfTableUptoRow.holds Tryz.pinned (OpenSpec.upto fnExactSumOfTableSpec)

/-- 'laws.FnExactWinnerOf', WHERE WHAT IT READS IS OF BULK AT MOST 1048576: true; the input reads as it did. -/
def fnExactWinnerOfUptoRow : OpenClaim := { program := "ytkbljlbfkgoalaagreatdoor", sum := "061176ed75671b54a172f4cc2d59c4dfdd47a337bddd05e05d261e490514d72e", func := "loop.example/g00868/laws.FnExactWinnerOf", spec := "fnExactWinnerOf", unfollowed := true, recurses := true, named := ["internal/strconv.uint64pow10", "math/bits.deBruijn32tab", "math/bits.deBruijn64tab"], plainKeys := false, apart := false, laid := [("math/bits.deBruijn32tab", laid_math_bits_deBruijn32tab), ("math/bits.deBruijn64tab", laid_math_bits_deBruijn64tab), ("internal/strconv.uint64pow10", laid_internal_strconv_uint64pow10)], narrowed := true }
def FnExactWinnerOfUptoSaid : Prop := fnExactWinnerOfUptoRow.holds Tryz.pinned (OpenSpec.upto fnExactWinnerOfSpec)

/-- 'laws.FnExactUpsOf', WHERE WHAT IT READS IS OF BULK AT MOST 1048576: true; the input reads as it did. -/
def fnExactUpsOfUptoRow : OpenClaim := { program := "ytkbljlbfkgoalaagreatdoor", sum := "061176ed75671b54a172f4cc2d59c4dfdd47a337bddd05e05d261e490514d72e", func := "loop.example/g00868/laws.FnExactUpsOf", spec := "fnExactUpsOf", recurses := true, named := ["internal/strconv.uint64pow10", "math/bits.deBruijn32tab", "math/bits.deBruijn64tab"], plainKeys := false, apart := false, laid := [("math/bits.deBruijn32tab", laid_math_bits_deBruijn32tab), ("math/bits.deBruijn64tab", laid_math_bits_deBruijn64tab), ("internal/strconv.uint64pow10", laid_internal_strconv_uint64pow10)], narrowed := true }
def FnExactUpsOfUptoSaid : Prop := fnExactUpsOfUptoRow.holds Tryz.pinned (OpenSpec.upto fnExactUpsOfSpec)

end Rows
end Go.Proofs.YtkbljlbfkgoalaaGreatDoor
