/-
  NARROWER THAN 'FOR EVERY INPUT', by the rows' own cells (each row's printed sentence says how): FnExactStopLine: laid · FnExactUpsOf: laid · FnTiny: laid · FnExactCompareNumber: laid · FnTop: laid · FnExactPlusNumber: laid · FnMoved: laid · FnNumber: laid · FnStopLine: laid · FnStars: laid.
  DERIVED. THE GIVEN ROWS OF THIS SEAT. 10 by the template 'for every input the law returns true; each argument reads behind the call as it read before'; 0 by the template 'total and deterministic' (their statements: YtbbbmjiloihajaaGreatDoorTotals.lean).
  GIVEN WITH THE SEED: the statements are not yours to turn. If you find one false, say at which input.
  Laid BY PROGRAM, IN A SANDBOX (cutbox-rows.mjs): the forced cells as the released guide's own fill.sh prints them over the translation 2b1597e4bedab866… (all of the seat's roots in one cut). By AI agents, Wed Nov 11 2026. No macro, syntax, notation, axiom, sorry.
-/
import Derived.Test.YtbbbmjiloihajaaGreatDoorChecked
import GoSem.Claim
import GoSem.ClaimJoined
import GoSem.ClaimMapViews
import Derived.JoinedTies
import Derived.KernelRfl
namespace Go.Proofs.YtbbbmjiloihajaaGreatDoor
/- THE CELL 'sum', in the pinned program and in every row, IS THE sha256 OF THE DUMP (.gsa) THAT YtbbbmjiloihajaaGreatDoorProg.lean LOADS. Nothing in Lean hashes anything: it is a label: what it is worth is what the hold of that sum in a sandbox is worth. -/
noncomputable def Tryz.pinned : Pinned := { name := "ytbbbmjiloihajaagreatdoor", sum := "2b1597e4bedab866d5316a036d91c2cdf1ea093cf21d75ce4c6ed04948d4aaf2", checked := Tryz.checked }
namespace Rows
def none {H : Type} : Left H := { results := [], args := [] }

/- WHAT THE LISTED PACKAGE-LEVEL VARIABLES READ AS WHEN THE CALL BEGINS. Each datum BY PROGRAM (the guide's laid-datum.mjs) off the statement by which the dump's own 'gosem.cut.vars' lays the variable. In a bare row this is a premise. The card (YtbbbmjiloihajaaGreatDoorCards.lean) ties it to the program's text. -/
def laid_math_bits_deBruijn32tab {H : Type} : DataW H := .agg [.lit (.int .u8 0), .lit (.int .u8 1), .lit (.int .u8 28), .lit (.int .u8 2), .lit (.int .u8 29), .lit (.int .u8 14), .lit (.int .u8 24), .lit (.int .u8 3), .lit (.int .u8 30), .lit (.int .u8 22), .lit (.int .u8 20), .lit (.int .u8 15), .lit (.int .u8 25), .lit (.int .u8 17), .lit (.int .u8 4), .lit (.int .u8 8), .lit (.int .u8 31), .lit (.int .u8 27), .lit (.int .u8 13), .lit (.int .u8 23), .lit (.int .u8 21), .lit (.int .u8 19), .lit (.int .u8 16), .lit (.int .u8 7), .lit (.int .u8 26), .lit (.int .u8 12), .lit (.int .u8 18), .lit (.int .u8 6), .lit (.int .u8 11), .lit (.int .u8 5), .lit (.int .u8 10), .lit (.int .u8 9)]
def laid_math_bits_deBruijn64tab {H : Type} : DataW H := .agg [.lit (.int .u8 0), .lit (.int .u8 1), .lit (.int .u8 56), .lit (.int .u8 2), .lit (.int .u8 57), .lit (.int .u8 49), .lit (.int .u8 28), .lit (.int .u8 3), .lit (.int .u8 61), .lit (.int .u8 58), .lit (.int .u8 42), .lit (.int .u8 50), .lit (.int .u8 38), .lit (.int .u8 29), .lit (.int .u8 17), .lit (.int .u8 4), .lit (.int .u8 62), .lit (.int .u8 47), .lit (.int .u8 59), .lit (.int .u8 36), .lit (.int .u8 45), .lit (.int .u8 43), .lit (.int .u8 51), .lit (.int .u8 22), .lit (.int .u8 53), .lit (.int .u8 39), .lit (.int .u8 33), .lit (.int .u8 30), .lit (.int .u8 24), .lit (.int .u8 18), .lit (.int .u8 12), .lit (.int .u8 5), .lit (.int .u8 63), .lit (.int .u8 55), .lit (.int .u8 48), .lit (.int .u8 27), .lit (.int .u8 60), .lit (.int .u8 41), .lit (.int .u8 37), .lit (.int .u8 16), .lit (.int .u8 46), .lit (.int .u8 35), .lit (.int .u8 44), .lit (.int .u8 21), .lit (.int .u8 52), .lit (.int .u8 32), .lit (.int .u8 23), .lit (.int .u8 11), .lit (.int .u8 54), .lit (.int .u8 26), .lit (.int .u8 40), .lit (.int .u8 15), .lit (.int .u8 34), .lit (.int .u8 20), .lit (.int .u8 31), .lit (.int .u8 10), .lit (.int .u8 25), .lit (.int .u8 14), .lit (.int .u8 19), .lit (.int .u8 9), .lit (.int .u8 13), .lit (.int .u8 8), .lit (.int .u8 7), .lit (.int .u8 6)]
def laid_internal_strconv_uint64pow10 {H : Type} : DataW H := .agg [.lit (.int .u64 1), .lit (.int .u64 10), .lit (.int .u64 100), .lit (.int .u64 1000), .lit (.int .u64 10000), .lit (.int .u64 100000), .lit (.int .u64 1000000), .lit (.int .u64 10000000), .lit (.int .u64 100000000), .lit (.int .u64 1000000000), .lit (.int .u64 10000000000), .lit (.int .u64 100000000000), .lit (.int .u64 1000000000000), .lit (.int .u64 10000000000000), .lit (.int .u64 100000000000000), .lit (.int .u64 1000000000000000), .lit (.int .u64 10000000000000000), .lit (.int .u64 100000000000000000), .lit (.int .u64 1000000000000000000), .lit (.int .u64 10000000000000000000)]

/-- 'laws.FnExactStopLine': WHATEVER THE INPUT: true; the input reads as it did. -/
def fnExactStopLineSpec : ChangeSpec := { name := "fnExactStopLine", fn := fun _ => fun
  | [d1, d2] => { results := [.lit (.bool true)], args := [d1, d2] }
  | _ => none }
def fnExactStopLineRow : OpenClaim := { program := "ytbbbmjiloihajaagreatdoor", sum := "2b1597e4bedab866d5316a036d91c2cdf1ea093cf21d75ce4c6ed04948d4aaf2", func := "loop.example/g00868/laws.FnExactStopLine", spec := "fnExactStopLine", recurses := true, named := ["internal/strconv.uint64pow10", "math/bits.deBruijn32tab", "math/bits.deBruijn64tab"], plainKeys := false, apart := false, laid := [("math/bits.deBruijn32tab", laid_math_bits_deBruijn32tab), ("math/bits.deBruijn64tab", laid_math_bits_deBruijn64tab), ("internal/strconv.uint64pow10", laid_internal_strconv_uint64pow10)] }
def FnExactStopLineSaid : Prop := fnExactStopLineRow.holds Tryz.pinned (OpenSpec.ofChange fnExactStopLineSpec)

/-- ITS FALSE NEIGHBOUR: 'it returns false'. Refute it at one input. -/
def fnExactStopLineWrong : ChangeSpec := { name := "fnExactStopLine", fn := fun _ => fun
  | [d1, d2] => { results := [.lit (.bool false)], args := [d1, d2] }
  | _ => none }
def FnExactStopLineWrongFalsely : Prop := fnExactStopLineRow.holds Tryz.pinned (OpenSpec.ofChange fnExactStopLineWrong)

/-- 'laws.FnExactUpsOf': WHATEVER THE INPUT: true; the input reads as it did. -/
def fnExactUpsOfSpec : ChangeSpec := { name := "fnExactUpsOf", fn := fun _ => fun
  | [d] => { results := [.lit (.bool true)], args := [d] }
  | _ => none }
def fnExactUpsOfRow : OpenClaim := { program := "ytbbbmjiloihajaagreatdoor", sum := "2b1597e4bedab866d5316a036d91c2cdf1ea093cf21d75ce4c6ed04948d4aaf2", func := "loop.example/g00868/laws.FnExactUpsOf", spec := "fnExactUpsOf", recurses := true, named := ["internal/strconv.uint64pow10", "math/bits.deBruijn32tab", "math/bits.deBruijn64tab"], plainKeys := false, apart := false, laid := [("math/bits.deBruijn32tab", laid_math_bits_deBruijn32tab), ("math/bits.deBruijn64tab", laid_math_bits_deBruijn64tab), ("internal/strconv.uint64pow10", laid_internal_strconv_uint64pow10)] }
def FnExactUpsOfSaid : Prop := fnExactUpsOfRow.holds Tryz.pinned (OpenSpec.ofChange fnExactUpsOfSpec)

/-- ITS FALSE NEIGHBOUR: 'it returns false'. Refute it at one input. -/
def fnExactUpsOfWrong : ChangeSpec := { name := "fnExactUpsOf", fn := fun _ => fun
  | [d] => { results := [.lit (.bool false)], args := [d] }
  | _ => none }
def FnExactUpsOfWrongFalsely : Prop := fnExactUpsOfRow.holds Tryz.pinned (OpenSpec.ofChange fnExactUpsOfWrong)

/-- 'laws.FnTiny': WHATEVER THE INPUT: true; the input reads as it did. -/
def fnTinySpec : ChangeSpec := { name := "fnTiny", fn := fun _ => fun
  | [d] => { results := [.lit (.bool true)], args := [d] }
  | _ => none }
def fnTinyRow : OpenClaim := { program := "ytbbbmjiloihajaagreatdoor", sum := "2b1597e4bedab866d5316a036d91c2cdf1ea093cf21d75ce4c6ed04948d4aaf2", func := "loop.example/g00868/laws.FnTiny", spec := "fnTiny", unfollowed := true, recurses := true, named := ["internal/strconv.uint64pow10", "math/bits.deBruijn32tab", "math/bits.deBruijn64tab"], plainKeys := false, apart := false, laid := [("math/bits.deBruijn32tab", laid_math_bits_deBruijn32tab), ("math/bits.deBruijn64tab", laid_math_bits_deBruijn64tab), ("internal/strconv.uint64pow10", laid_internal_strconv_uint64pow10)] }
def FnTinySaid : Prop := fnTinyRow.holds Tryz.pinned (OpenSpec.ofChange fnTinySpec)

/-- ITS FALSE NEIGHBOUR: 'it returns false'. Refute it at one input. -/
def fnTinyWrong : ChangeSpec := { name := "fnTiny", fn := fun _ => fun
  | [d] => { results := [.lit (.bool false)], args := [d] }
  | _ => none }
def FnTinyWrongFalsely : Prop := fnTinyRow.holds Tryz.pinned (OpenSpec.ofChange fnTinyWrong)

/-- 'laws.FnExactCompareNumber': WHATEVER THE INPUT: true; the input reads as it did. -/
def fnExactCompareNumberSpec : ChangeSpec := { name := "fnExactCompareNumber", fn := fun _ => fun
  | [d1, d2] => { results := [.lit (.bool true)], args := [d1, d2] }
  | _ => none }
def fnExactCompareNumberRow : OpenClaim := { program := "ytbbbmjiloihajaagreatdoor", sum := "2b1597e4bedab866d5316a036d91c2cdf1ea093cf21d75ce4c6ed04948d4aaf2", func := "loop.example/g00868/laws.FnExactCompareNumber", spec := "fnExactCompareNumber", unfollowed := true, recurses := true, named := ["internal/strconv.uint64pow10", "math/bits.deBruijn32tab", "math/bits.deBruijn64tab"], plainKeys := false, apart := false, laid := [("math/bits.deBruijn32tab", laid_math_bits_deBruijn32tab), ("math/bits.deBruijn64tab", laid_math_bits_deBruijn64tab), ("internal/strconv.uint64pow10", laid_internal_strconv_uint64pow10)] }
def FnExactCompareNumberSaid : Prop := fnExactCompareNumberRow.holds Tryz.pinned (OpenSpec.ofChange fnExactCompareNumberSpec)

/-- ITS FALSE NEIGHBOUR: 'it returns false'. Refute it at one input. -/
def fnExactCompareNumberWrong : ChangeSpec := { name := "fnExactCompareNumber", fn := fun _ => fun
  | [d1, d2] => { results := [.lit (.bool false)], args := [d1, d2] }
  | _ => none }
def FnExactCompareNumberWrongFalsely : Prop := fnExactCompareNumberRow.holds Tryz.pinned (OpenSpec.ofChange fnExactCompareNumberWrong)

/-- 'laws.FnTop': WHATEVER THE INPUT: true; the input reads as it did. -/
def fnTopSpec : ChangeSpec := { name := "fnTop", fn := fun _ => fun
  | [d] => { results := [.lit (.bool true)], args := [d] }
  | _ => none }
def fnTopRow : OpenClaim := { program := "ytbbbmjiloihajaagreatdoor", sum := "2b1597e4bedab866d5316a036d91c2cdf1ea093cf21d75ce4c6ed04948d4aaf2", func := "loop.example/g00868/laws.FnTop", spec := "fnTop", unfollowed := true, recurses := true, named := ["internal/strconv.uint64pow10", "math/bits.deBruijn32tab", "math/bits.deBruijn64tab"], plainKeys := false, apart := false, laid := [("math/bits.deBruijn32tab", laid_math_bits_deBruijn32tab), ("math/bits.deBruijn64tab", laid_math_bits_deBruijn64tab), ("internal/strconv.uint64pow10", laid_internal_strconv_uint64pow10)] }
def FnTopSaid : Prop := fnTopRow.holds Tryz.pinned (OpenSpec.ofChange fnTopSpec)

/-- ITS FALSE NEIGHBOUR: 'it returns false'. Refute it at one input. -/
def fnTopWrong : ChangeSpec := { name := "fnTop", fn := fun _ => fun
  | [d] => { results := [.lit (.bool false)], args := [d] }
  | _ => none }
def FnTopWrongFalsely : Prop := fnTopRow.holds Tryz.pinned (OpenSpec.ofChange fnTopWrong)

/-- 'laws.FnExactPlusNumber': WHATEVER THE INPUT: true; the input reads as it did. -/
def fnExactPlusNumberSpec : ChangeSpec := { name := "fnExactPlusNumber", fn := fun _ => fun
  | [d1, d2] => { results := [.lit (.bool true)], args := [d1, d2] }
  | _ => none }
def fnExactPlusNumberRow : OpenClaim := { program := "ytbbbmjiloihajaagreatdoor", sum := "2b1597e4bedab866d5316a036d91c2cdf1ea093cf21d75ce4c6ed04948d4aaf2", func := "loop.example/g00868/laws.FnExactPlusNumber", spec := "fnExactPlusNumber", unfollowed := true, recurses := true, named := ["internal/strconv.uint64pow10", "math/bits.deBruijn32tab", "math/bits.deBruijn64tab"], plainKeys := false, apart := false, laid := [("math/bits.deBruijn32tab", laid_math_bits_deBruijn32tab), ("math/bits.deBruijn64tab", laid_math_bits_deBruijn64tab), ("internal/strconv.uint64pow10", laid_internal_strconv_uint64pow10)] }
def FnExactPlusNumberSaid : Prop := fnExactPlusNumberRow.holds Tryz.pinned (OpenSpec.ofChange fnExactPlusNumberSpec)

/-- ITS FALSE NEIGHBOUR: 'it returns false'. Refute it at one input. -/
def fnExactPlusNumberWrong : ChangeSpec := { name := "fnExactPlusNumber", fn := fun _ => fun
  | [d1, d2] => { results := [.lit (.bool false)], args := [d1, d2] }
  | _ => none }
def FnExactPlusNumberWrongFalsely : Prop := fnExactPlusNumberRow.holds Tryz.pinned (OpenSpec.ofChange fnExactPlusNumberWrong)

/-- 'laws.FnMoved': WHATEVER THE INPUT: true; the input reads as it did. -/
def fnMovedSpec : ChangeSpec := { name := "fnMoved", fn := fun _ => fun
  | [d] => { results := [.lit (.bool true)], args := [d] }
  | _ => none }
def fnMovedRow : OpenClaim := { program := "ytbbbmjiloihajaagreatdoor", sum := "2b1597e4bedab866d5316a036d91c2cdf1ea093cf21d75ce4c6ed04948d4aaf2", func := "loop.example/g00868/laws.FnMoved", spec := "fnMoved", unfollowed := true, recurses := true, named := ["internal/strconv.uint64pow10", "math/bits.deBruijn32tab", "math/bits.deBruijn64tab"], plainKeys := false, apart := false, laid := [("math/bits.deBruijn32tab", laid_math_bits_deBruijn32tab), ("math/bits.deBruijn64tab", laid_math_bits_deBruijn64tab), ("internal/strconv.uint64pow10", laid_internal_strconv_uint64pow10)] }
def FnMovedSaid : Prop := fnMovedRow.holds Tryz.pinned (OpenSpec.ofChange fnMovedSpec)

/-- ITS FALSE NEIGHBOUR: 'it returns false'. Refute it at one input. -/
def fnMovedWrong : ChangeSpec := { name := "fnMoved", fn := fun _ => fun
  | [d] => { results := [.lit (.bool false)], args := [d] }
  | _ => none }
def FnMovedWrongFalsely : Prop := fnMovedRow.holds Tryz.pinned (OpenSpec.ofChange fnMovedWrong)

/-- 'laws.FnNumber': WHATEVER THE INPUT: true; the input reads as it did. -/
def fnNumberSpec : ChangeSpec := { name := "fnNumber", fn := fun _ => fun
  | [d] => { results := [.lit (.bool true)], args := [d] }
  | _ => none }
def fnNumberRow : OpenClaim := { program := "ytbbbmjiloihajaagreatdoor", sum := "2b1597e4bedab866d5316a036d91c2cdf1ea093cf21d75ce4c6ed04948d4aaf2", func := "loop.example/g00868/laws.FnNumber", spec := "fnNumber", unfollowed := true, recurses := true, named := ["internal/strconv.uint64pow10", "math/bits.deBruijn32tab", "math/bits.deBruijn64tab"], plainKeys := false, apart := false, laid := [("math/bits.deBruijn32tab", laid_math_bits_deBruijn32tab), ("math/bits.deBruijn64tab", laid_math_bits_deBruijn64tab), ("internal/strconv.uint64pow10", laid_internal_strconv_uint64pow10)] }
def FnNumberSaid : Prop := fnNumberRow.holds Tryz.pinned (OpenSpec.ofChange fnNumberSpec)

/-- ITS FALSE NEIGHBOUR: 'it returns false'. Refute it at one input. -/
def fnNumberWrong : ChangeSpec := { name := "fnNumber", fn := fun _ => fun
  | [d] => { results := [.lit (.bool false)], args := [d] }
  | _ => none }
def FnNumberWrongFalsely : Prop := fnNumberRow.holds Tryz.pinned (OpenSpec.ofChange fnNumberWrong)

/-- 'laws.FnStopLine': WHATEVER THE INPUT: true; the input reads as it did. -/
def fnStopLineSpec : ChangeSpec := { name := "fnStopLine", fn := fun _ => fun
  | [d] => { results := [.lit (.bool true)], args := [d] }
  | _ => none }
def fnStopLineRow : OpenClaim := { program := "ytbbbmjiloihajaagreatdoor", sum := "2b1597e4bedab866d5316a036d91c2cdf1ea093cf21d75ce4c6ed04948d4aaf2", func := "loop.example/g00868/laws.FnStopLine", spec := "fnStopLine", recurses := true, named := ["internal/strconv.uint64pow10", "math/bits.deBruijn32tab", "math/bits.deBruijn64tab"], plainKeys := false, apart := false, laid := [("math/bits.deBruijn32tab", laid_math_bits_deBruijn32tab), ("math/bits.deBruijn64tab", laid_math_bits_deBruijn64tab), ("internal/strconv.uint64pow10", laid_internal_strconv_uint64pow10)] }
def FnStopLineSaid : Prop := fnStopLineRow.holds Tryz.pinned (OpenSpec.ofChange fnStopLineSpec)

/-- ITS FALSE NEIGHBOUR: 'it returns false'. Refute it at one input. -/
def fnStopLineWrong : ChangeSpec := { name := "fnStopLine", fn := fun _ => fun
  | [d] => { results := [.lit (.bool false)], args := [d] }
  | _ => none }
def FnStopLineWrongFalsely : Prop := fnStopLineRow.holds Tryz.pinned (OpenSpec.ofChange fnStopLineWrong)

/-- 'laws.FnStars': WHATEVER THE INPUT: true; the input reads as it did. -/
def fnStarsSpec : ChangeSpec := { name := "fnStars", fn := fun _ => fun
  | [d] => { results := [.lit (.bool true)], args := [d] }
  | _ => none }
def fnStarsRow : OpenClaim := { program := "ytbbbmjiloihajaagreatdoor", sum := "2b1597e4bedab866d5316a036d91c2cdf1ea093cf21d75ce4c6ed04948d4aaf2", func := "loop.example/g00868/laws.FnStars", spec := "fnStars", unfollowed := true, recurses := true, named := ["internal/strconv.uint64pow10", "math/bits.deBruijn32tab", "math/bits.deBruijn64tab"], plainKeys := false, apart := false, laid := [("math/bits.deBruijn32tab", laid_math_bits_deBruijn32tab), ("math/bits.deBruijn64tab", laid_math_bits_deBruijn64tab), ("internal/strconv.uint64pow10", laid_internal_strconv_uint64pow10)] }
def FnStarsSaid : Prop := fnStarsRow.holds Tryz.pinned (OpenSpec.ofChange fnStarsSpec)

/-- ITS FALSE NEIGHBOUR: 'it returns false'. Refute it at one input. -/
def fnStarsWrong : ChangeSpec := { name := "fnStars", fn := fun _ => fun
  | [d] => { results := [.lit (.bool false)], args := [d] }
  | _ => none }
def FnStarsWrongFalsely : Prop := fnStarsRow.holds Tryz.pinned (OpenSpec.ofChange fnStarsWrong)

/- THE SECOND FORM. 'bulk': how many values and letters a reading holds, each counted each time it is reached (what is shared counts as often as it is met; a slice's spare places count too). A statement '..UptoSaid' is the law's where the arguments, and the package variables that the reading takes, are together of bulk at most 1048576: NARROWER than '..Said'. Prove '..Said' where nothing that the law and all that it calls make is longer than what came in: it says more and counts as full. Else prove '..UptoSaid'. A law counts once. -/
mutual
def uptoBulk {H : Type} : DataW H → Nat
  | .lit (.string bytes) => bytes.length + 1
  | .lit _ => 1
  | .nil => 1
  | .ptr d => uptoBulk d + 1
  | .slice elems spare => uptoBulkAll elems + uptoBulkAll spare + 1
  | .agg parts => uptoBulkAll parts + 1
  | .iface _ d => uptoBulk d + 1
  | .map entries => uptoBulkEntries entries + 1
  | .held _ => 1
def uptoBulkAll {H : Type} : List (DataW H) → Nat
  | [] => 0
  | d :: r => uptoBulk d + uptoBulkAll r
def uptoBulkEntries {H : Type} : List (Lit × DataW H) → Nat
  | [] => 0
  | x :: r => uptoBulkEntry x + uptoBulkEntries r
def uptoBulkEntry {H : Type} : Lit × DataW H → Nat
  | (.string bytes, d) => bytes.length + uptoBulk d + 1
  | (_, d) => uptoBulk d + 1
 end
def uptoSmall : (H : Type) → List (DataW H) → Bool := fun _ ds => decide (uptoBulkAll ds ≤ 1048576)
def OpenSpec.upto (s : _root_.Go.ChangeSpec) : _root_.Go.OpenSpec := { _root_.Go.OpenSpec.ofChange s with cond := some uptoSmall }

/-- 'laws.FnExactStopLine', WHERE WHAT IT READS IS OF BULK AT MOST 1048576: true; the input reads as it did. -/
def fnExactStopLineUptoRow : OpenClaim := { program := "ytbbbmjiloihajaagreatdoor", sum := "2b1597e4bedab866d5316a036d91c2cdf1ea093cf21d75ce4c6ed04948d4aaf2", func := "loop.example/g00868/laws.FnExactStopLine", spec := "fnExactStopLine", recurses := true, named := ["internal/strconv.uint64pow10", "math/bits.deBruijn32tab", "math/bits.deBruijn64tab"], plainKeys := false, apart := false, laid := [("math/bits.deBruijn32tab", laid_math_bits_deBruijn32tab), ("math/bits.deBruijn64tab", laid_math_bits_deBruijn64tab), ("internal/strconv.uint64pow10", laid_internal_strconv_uint64pow10)], narrowed := true }
def FnExactStopLineUptoSaid : Prop := fnExactStopLineUptoRow.holds Tryz.pinned (OpenSpec.upto fnExactStopLineSpec)

/-- 'laws.FnExactUpsOf', WHERE WHAT IT READS IS OF BULK AT MOST 1048576: true; the input reads as it did. -/
def fnExactUpsOfUptoRow : OpenClaim := { program := "ytbbbmjiloihajaagreatdoor", sum := "2b1597e4bedab866d5316a036d91c2cdf1ea093cf21d75ce4c6ed04948d4aaf2", func := "loop.example/g00868/laws.FnExactUpsOf", spec := "fnExactUpsOf", recurses := true, named := ["internal/strconv.uint64pow10", "math/bits.deBruijn32tab", "math/bits.deBruijn64tab"], plainKeys := false, apart := false, laid := [("math/bits.deBruijn32tab", laid_math_bits_deBruijn32tab), ("math/bits.deBruijn64tab", laid_math_bits_deBruijn64tab), ("internal/strconv.uint64pow10", laid_internal_strconv_uint64pow10)], narrowed := true }
def FnExactUpsOfUptoSaid : Prop := fnExactUpsOfUptoRow.holds Tryz.pinned (OpenSpec.upto fnExactUpsOfSpec)

/-- 'laws.FnTiny', WHERE WHAT IT READS IS OF BULK AT MOST 1048576: true; the input reads as it did. -/
def fnTinyUptoRow : OpenClaim := { program := "ytbbbmjiloihajaagreatdoor", sum := "2b1597e4bedab866d5316a036d91c2cdf1ea093cf21d75ce4c6ed04948d4aaf2", func := "loop.example/g00868/laws.FnTiny", spec := "fnTiny", unfollowed := true, recurses := true, named := ["internal/strconv.uint64pow10", "math/bits.deBruijn32tab", "math/bits.deBruijn64tab"], plainKeys := false, apart := false, laid := [("math/bits.deBruijn32tab", laid_math_bits_deBruijn32tab), ("math/bits.deBruijn64tab", laid_math_bits_deBruijn64tab), ("internal/strconv.uint64pow10", laid_internal_strconv_uint64pow10)], narrowed := true }
def FnTinyUptoSaid : Prop := fnTinyUptoRow.holds Tryz.pinned (OpenSpec.upto fnTinySpec)

/-- 'laws.FnExactCompareNumber', WHERE WHAT IT READS IS OF BULK AT MOST 1048576: true; the input reads as it did. -/
def fnExactCompareNumberUptoRow : OpenClaim := { program := "ytbbbmjiloihajaagreatdoor", sum := "2b1597e4bedab866d5316a036d91c2cdf1ea093cf21d75ce4c6ed04948d4aaf2", func := "loop.example/g00868/laws.FnExactCompareNumber", spec := "fnExactCompareNumber", unfollowed := true, recurses := true, named := ["internal/strconv.uint64pow10", "math/bits.deBruijn32tab", "math/bits.deBruijn64tab"], plainKeys := false, apart := false, laid := [("math/bits.deBruijn32tab", laid_math_bits_deBruijn32tab), ("math/bits.deBruijn64tab", laid_math_bits_deBruijn64tab), ("internal/strconv.uint64pow10", laid_internal_strconv_uint64pow10)], narrowed := true }
def FnExactCompareNumberUptoSaid : Prop := fnExactCompareNumberUptoRow.holds Tryz.pinned (OpenSpec.upto fnExactCompareNumberSpec)

/-- 'laws.FnTop', WHERE WHAT IT READS IS OF BULK AT MOST 1048576: true; the input reads as it did. -/
def fnTopUptoRow : OpenClaim := { program := "ytbbbmjiloihajaagreatdoor", sum := "2b1597e4bedab866d5316a036d91c2cdf1ea093cf21d75ce4c6ed04948d4aaf2", func := "loop.example/g00868/laws.FnTop", spec := "fnTop", unfollowed := true, recurses := true, named := ["internal/strconv.uint64pow10", "math/bits.deBruijn32tab", "math/bits.deBruijn64tab"], plainKeys := false, apart := false, laid := [("math/bits.deBruijn32tab", laid_math_bits_deBruijn32tab), ("math/bits.deBruijn64tab", laid_math_bits_deBruijn64tab), ("internal/strconv.uint64pow10", laid_internal_strconv_uint64pow10)], narrowed := true }
def FnTopUptoSaid : Prop := fnTopUptoRow.holds Tryz.pinned (OpenSpec.upto fnTopSpec)

/-- 'laws.FnExactPlusNumber', WHERE WHAT IT READS IS OF BULK AT MOST 1048576: true; the input reads as it did. -/
def fnExactPlusNumberUptoRow : OpenClaim := { program := "ytbbbmjiloihajaagreatdoor", sum := "2b1597e4bedab866d5316a036d91c2cdf1ea093cf21d75ce4c6ed04948d4aaf2", func := "loop.example/g00868/laws.FnExactPlusNumber", spec := "fnExactPlusNumber", unfollowed := true, recurses := true, named := ["internal/strconv.uint64pow10", "math/bits.deBruijn32tab", "math/bits.deBruijn64tab"], plainKeys := false, apart := false, laid := [("math/bits.deBruijn32tab", laid_math_bits_deBruijn32tab), ("math/bits.deBruijn64tab", laid_math_bits_deBruijn64tab), ("internal/strconv.uint64pow10", laid_internal_strconv_uint64pow10)], narrowed := true }
def FnExactPlusNumberUptoSaid : Prop := fnExactPlusNumberUptoRow.holds Tryz.pinned (OpenSpec.upto fnExactPlusNumberSpec)

/-- 'laws.FnMoved', WHERE WHAT IT READS IS OF BULK AT MOST 1048576: true; the input reads as it did. -/
def fnMovedUptoRow : OpenClaim := { program := "ytbbbmjiloihajaagreatdoor", sum := "2b1597e4bedab866d5316a036d91c2cdf1ea093cf21d75ce4c6ed04948d4aaf2", func := "loop.example/g00868/laws.FnMoved", spec := "fnMoved", unfollowed := true, recurses := true, named := ["internal/strconv.uint64pow10", "math/bits.deBruijn32tab", "math/bits.deBruijn64tab"], plainKeys := false, apart := false, laid := [("math/bits.deBruijn32tab", laid_math_bits_deBruijn32tab), ("math/bits.deBruijn64tab", laid_math_bits_deBruijn64tab), ("internal/strconv.uint64pow10", laid_internal_strconv_uint64pow10)], narrowed := true }
def FnMovedUptoSaid : Prop := fnMovedUptoRow.holds Tryz.pinned (OpenSpec.upto fnMovedSpec)

/-- 'laws.FnNumber', WHERE WHAT IT READS IS OF BULK AT MOST 1048576: true; the input reads as it did. -/
def fnNumberUptoRow : OpenClaim := { program := "ytbbbmjiloihajaagreatdoor", sum := "2b1597e4bedab866d5316a036d91c2cdf1ea093cf21d75ce4c6ed04948d4aaf2", func := "loop.example/g00868/laws.FnNumber", spec := "fnNumber", unfollowed := true, recurses := true, named := ["internal/strconv.uint64pow10", "math/bits.deBruijn32tab", "math/bits.deBruijn64tab"], plainKeys := false, apart := false, laid := [("math/bits.deBruijn32tab", laid_math_bits_deBruijn32tab), ("math/bits.deBruijn64tab", laid_math_bits_deBruijn64tab), ("internal/strconv.uint64pow10", laid_internal_strconv_uint64pow10)], narrowed := true }
def FnNumberUptoSaid : Prop := fnNumberUptoRow.holds Tryz.pinned (OpenSpec.upto fnNumberSpec)

/-- 'laws.FnStopLine', WHERE WHAT IT READS IS OF BULK AT MOST 1048576: true; the input reads as it did. -/
def fnStopLineUptoRow : OpenClaim := { program := "ytbbbmjiloihajaagreatdoor", sum := "2b1597e4bedab866d5316a036d91c2cdf1ea093cf21d75ce4c6ed04948d4aaf2", func := "loop.example/g00868/laws.FnStopLine", spec := "fnStopLine", recurses := true, named := ["internal/strconv.uint64pow10", "math/bits.deBruijn32tab", "math/bits.deBruijn64tab"], plainKeys := false, apart := false, laid := [("math/bits.deBruijn32tab", laid_math_bits_deBruijn32tab), ("math/bits.deBruijn64tab", laid_math_bits_deBruijn64tab), ("internal/strconv.uint64pow10", laid_internal_strconv_uint64pow10)], narrowed := true }
def FnStopLineUptoSaid : Prop := fnStopLineUptoRow.holds Tryz.pinned (OpenSpec.upto fnStopLineSpec)

/-- 'laws.FnStars', WHERE WHAT IT READS IS OF BULK AT MOST 1048576: true; the input reads as it did. -/
def fnStarsUptoRow : OpenClaim := { program := "ytbbbmjiloihajaagreatdoor", sum := "2b1597e4bedab866d5316a036d91c2cdf1ea093cf21d75ce4c6ed04948d4aaf2", func := "loop.example/g00868/laws.FnStars", spec := "fnStars", unfollowed := true, recurses := true, named := ["internal/strconv.uint64pow10", "math/bits.deBruijn32tab", "math/bits.deBruijn64tab"], plainKeys := false, apart := false, laid := [("math/bits.deBruijn32tab", laid_math_bits_deBruijn32tab), ("math/bits.deBruijn64tab", laid_math_bits_deBruijn64tab), ("internal/strconv.uint64pow10", laid_internal_strconv_uint64pow10)], narrowed := true }
def FnStarsUptoSaid : Prop := fnStarsUptoRow.holds Tryz.pinned (OpenSpec.upto fnStarsSpec)

end Rows
end Go.Proofs.YtbbbmjiloihajaaGreatDoor
