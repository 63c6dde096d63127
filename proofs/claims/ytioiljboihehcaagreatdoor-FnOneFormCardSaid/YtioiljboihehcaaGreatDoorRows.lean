/-
  NARROWER THAN 'FOR EVERY INPUT', by the rows' own cells (each row's printed sentence says how): FnExactCanonOf: laid · FnTimes: laid · FnMinus: laid · FnGroup: laid · FnSteps: laid · FnOneForm: laid · FnTop: laid · FnExactCompareNumber: laid · FnTiny: laid · FnExactUpsOf: laid · FnExactStopLine: laid · FnStopLine: laid.
  DERIVED. THE GIVEN ROWS OF THIS SEAT. 12 by the template 'for every input the law returns true; each argument reads behind the call as it read before'; 0 by the template 'total and deterministic' (their statements: YtioiljboihehcaaGreatDoorTotals.lean).
  GIVEN WITH THE SEED: the statements are not yours to turn. If you find one false, say at which input.
  Laid BY PROGRAM, IN A SANDBOX (cutbox-rows.mjs): the forced cells as the released guide's own fill.sh prints them over the translation 028fa7fa540c9c87… (all of the seat's roots in one cut). By AI agents, Wed Nov 11 2026. No macro, syntax, notation, axiom, sorry.
-/
import Derived.Test.YtioiljboihehcaaGreatDoorChecked
import GoSem.Claim
import GoSem.ClaimJoined
import GoSem.ClaimMapViews
import Derived.JoinedTies
import Derived.KernelRfl
namespace Go.Proofs.YtioiljboihehcaaGreatDoor
/- THE CELL 'sum', in the pinned program and in every row, IS THE sha256 OF THE DUMP (.gsa) THAT YtioiljboihehcaaGreatDoorProg.lean LOADS. Nothing in Lean hashes anything: it is a label: what it is worth is what the hold of that sum in a sandbox is worth. -/
noncomputable def Tryz.pinned : Pinned := { name := "ytioiljboihehcaagreatdoor", sum := "028fa7fa540c9c87f41ffe968d703bfbb057d21fd6526ba75bdeddc7a40f6a67", checked := Tryz.checked }
namespace Rows
def none {H : Type} : Left H := { results := [], args := [] }

/- WHAT THE LISTED PACKAGE-LEVEL VARIABLES READ AS WHEN THE CALL BEGINS. Each datum BY PROGRAM (the guide's laid-datum.mjs) off the statement by which the dump's own 'gosem.cut.vars' lays the variable. In a bare row this is a premise. The card (YtioiljboihehcaaGreatDoorCards.lean) ties it to the program's text. -/
def laid_math_bits_deBruijn32tab {H : Type} : DataW H := .agg [.lit (.int .u8 0), .lit (.int .u8 1), .lit (.int .u8 28), .lit (.int .u8 2), .lit (.int .u8 29), .lit (.int .u8 14), .lit (.int .u8 24), .lit (.int .u8 3), .lit (.int .u8 30), .lit (.int .u8 22), .lit (.int .u8 20), .lit (.int .u8 15), .lit (.int .u8 25), .lit (.int .u8 17), .lit (.int .u8 4), .lit (.int .u8 8), .lit (.int .u8 31), .lit (.int .u8 27), .lit (.int .u8 13), .lit (.int .u8 23), .lit (.int .u8 21), .lit (.int .u8 19), .lit (.int .u8 16), .lit (.int .u8 7), .lit (.int .u8 26), .lit (.int .u8 12), .lit (.int .u8 18), .lit (.int .u8 6), .lit (.int .u8 11), .lit (.int .u8 5), .lit (.int .u8 10), .lit (.int .u8 9)]
def laid_math_bits_deBruijn64tab {H : Type} : DataW H := .agg [.lit (.int .u8 0), .lit (.int .u8 1), .lit (.int .u8 56), .lit (.int .u8 2), .lit (.int .u8 57), .lit (.int .u8 49), .lit (.int .u8 28), .lit (.int .u8 3), .lit (.int .u8 61), .lit (.int .u8 58), .lit (.int .u8 42), .lit (.int .u8 50), .lit (.int .u8 38), .lit (.int .u8 29), .lit (.int .u8 17), .lit (.int .u8 4), .lit (.int .u8 62), .lit (.int .u8 47), .lit (.int .u8 59), .lit (.int .u8 36), .lit (.int .u8 45), .lit (.int .u8 43), .lit (.int .u8 51), .lit (.int .u8 22), .lit (.int .u8 53), .lit (.int .u8 39), .lit (.int .u8 33), .lit (.int .u8 30), .lit (.int .u8 24), .lit (.int .u8 18), .lit (.int .u8 12), .lit (.int .u8 5), .lit (.int .u8 63), .lit (.int .u8 55), .lit (.int .u8 48), .lit (.int .u8 27), .lit (.int .u8 60), .lit (.int .u8 41), .lit (.int .u8 37), .lit (.int .u8 16), .lit (.int .u8 46), .lit (.int .u8 35), .lit (.int .u8 44), .lit (.int .u8 21), .lit (.int .u8 52), .lit (.int .u8 32), .lit (.int .u8 23), .lit (.int .u8 11), .lit (.int .u8 54), .lit (.int .u8 26), .lit (.int .u8 40), .lit (.int .u8 15), .lit (.int .u8 34), .lit (.int .u8 20), .lit (.int .u8 31), .lit (.int .u8 10), .lit (.int .u8 25), .lit (.int .u8 14), .lit (.int .u8 19), .lit (.int .u8 9), .lit (.int .u8 13), .lit (.int .u8 8), .lit (.int .u8 7), .lit (.int .u8 6)]
def laid_internal_strconv_uint64pow10 {H : Type} : DataW H := .agg [.lit (.int .u64 1), .lit (.int .u64 10), .lit (.int .u64 100), .lit (.int .u64 1000), .lit (.int .u64 10000), .lit (.int .u64 100000), .lit (.int .u64 1000000), .lit (.int .u64 10000000), .lit (.int .u64 100000000), .lit (.int .u64 1000000000), .lit (.int .u64 10000000000), .lit (.int .u64 100000000000), .lit (.int .u64 1000000000000), .lit (.int .u64 10000000000000), .lit (.int .u64 100000000000000), .lit (.int .u64 1000000000000000), .lit (.int .u64 10000000000000000), .lit (.int .u64 100000000000000000), .lit (.int .u64 1000000000000000000), .lit (.int .u64 10000000000000000000)]

/-- 'laws.FnExactCanonOf': WHATEVER THE INPUT: true; the input reads as it did. -/
def fnExactCanonOfSpec : ChangeSpec := { name := "fnExactCanonOf", fn := fun _ => fun
  | [d] => { results := [.lit (.bool true)], args := [d] }
  | _ => none }
def fnExactCanonOfRow : OpenClaim := { program := "ytioiljboihehcaagreatdoor", sum := "028fa7fa540c9c87f41ffe968d703bfbb057d21fd6526ba75bdeddc7a40f6a67", func := "loop.example/g00868/laws.FnExactCanonOf", spec := "fnExactCanonOf", unfollowed := true, recurses := true, named := ["internal/strconv.uint64pow10", "math/bits.deBruijn32tab", "math/bits.deBruijn64tab"], plainKeys := false, apart := false, laid := [("math/bits.deBruijn32tab", laid_math_bits_deBruijn32tab), ("math/bits.deBruijn64tab", laid_math_bits_deBruijn64tab), ("internal/strconv.uint64pow10", laid_internal_strconv_uint64pow10)] }
def FnExactCanonOfSaid : Prop := fnExactCanonOfRow.holds Tryz.pinned (OpenSpec.ofChange fnExactCanonOfSpec)

/-- ITS FALSE NEIGHBOUR: 'it returns false'. Refute it at one input. -/
def fnExactCanonOfWrong : ChangeSpec := { name := "fnExactCanonOf", fn := fun _ => fun
  | [d] => { results := [.lit (.bool false)], args := [d] }
  | _ => none }
def FnExactCanonOfWrongFalsely : Prop := fnExactCanonOfRow.holds Tryz.pinned (OpenSpec.ofChange fnExactCanonOfWrong)

/-- 'laws.FnTimes': WHATEVER THE INPUT: true; the input reads as it did. -/
def fnTimesSpec : ChangeSpec := { name := "fnTimes", fn := fun _ => fun
  | [d] => { results := [.lit (.bool true)], args := [d] }
  | _ => none }
def fnTimesRow : OpenClaim := { program := "ytioiljboihehcaagreatdoor", sum := "028fa7fa540c9c87f41ffe968d703bfbb057d21fd6526ba75bdeddc7a40f6a67", func := "loop.example/g00868/laws.FnTimes", spec := "fnTimes", unfollowed := true, recurses := true, named := ["internal/strconv.uint64pow10", "math/bits.deBruijn32tab", "math/bits.deBruijn64tab"], plainKeys := false, apart := false, laid := [("math/bits.deBruijn32tab", laid_math_bits_deBruijn32tab), ("math/bits.deBruijn64tab", laid_math_bits_deBruijn64tab), ("internal/strconv.uint64pow10", laid_internal_strconv_uint64pow10)] }
def FnTimesSaid : Prop := fnTimesRow.holds Tryz.pinned (OpenSpec.ofChange fnTimesSpec)

/-- ITS FALSE NEIGHBOUR: 'it returns false'. Refute it at one input. -/
def fnTimesWrong : ChangeSpec := { name := "fnTimes", fn := fun _ => fun
  | [d] => { results := [.lit (.bool false)], args := [d] }
  | _ => none }
def FnTimesWrongFalsely : Prop := fnTimesRow.holds Tryz.pinned (OpenSpec.ofChange fnTimesWrong)

/-- 'laws.FnMinus': WHATEVER THE INPUT: true; the input reads as it did. -/
def fnMinusSpec : ChangeSpec := { name := "fnMinus", fn := fun _ => fun
  | [d] => { results := [.lit (.bool true)], args := [d] }
  | _ => none }
def fnMinusRow : OpenClaim := { program := "ytioiljboihehcaagreatdoor", sum := "028fa7fa540c9c87f41ffe968d703bfbb057d21fd6526ba75bdeddc7a40f6a67", func := "loop.example/g00868/laws.FnMinus", spec := "fnMinus", unfollowed := true, recurses := true, named := ["internal/strconv.uint64pow10", "math/bits.deBruijn32tab", "math/bits.deBruijn64tab"], plainKeys := false, apart := false, laid := [("math/bits.deBruijn32tab", laid_math_bits_deBruijn32tab), ("math/bits.deBruijn64tab", laid_math_bits_deBruijn64tab), ("internal/strconv.uint64pow10", laid_internal_strconv_uint64pow10)] }
def FnMinusSaid : Prop := fnMinusRow.holds Tryz.pinned (OpenSpec.ofChange fnMinusSpec)

/-- ITS FALSE NEIGHBOUR: 'it returns false'. Refute it at one input. -/
def fnMinusWrong : ChangeSpec := { name := "fnMinus", fn := fun _ => fun
  | [d] => { results := [.lit (.bool false)], args := [d] }
  | _ => none }
def FnMinusWrongFalsely : Prop := fnMinusRow.holds Tryz.pinned (OpenSpec.ofChange fnMinusWrong)

/-- 'laws.FnGroup': WHATEVER THE INPUT: true; the input reads as it did. -/
def fnGroupSpec : ChangeSpec := { name := "fnGroup", fn := fun _ => fun
  | [d] => { results := [.lit (.bool true)], args := [d] }
  | _ => none }
def fnGroupRow : OpenClaim := { program := "ytioiljboihehcaagreatdoor", sum := "028fa7fa540c9c87f41ffe968d703bfbb057d21fd6526ba75bdeddc7a40f6a67", func := "loop.example/g00868/laws.FnGroup", spec := "fnGroup", unfollowed := true, recurses := true, named := ["internal/strconv.uint64pow10", "math/bits.deBruijn32tab", "math/bits.deBruijn64tab"], plainKeys := false, apart := false, laid := [("math/bits.deBruijn32tab", laid_math_bits_deBruijn32tab), ("math/bits.deBruijn64tab", laid_math_bits_deBruijn64tab), ("internal/strconv.uint64pow10", laid_internal_strconv_uint64pow10)] }
def FnGroupSaid : Prop := fnGroupRow.holds Tryz.pinned (OpenSpec.ofChange fnGroupSpec)

/-- ITS FALSE NEIGHBOUR: 'it returns false'. Refute it at one input. -/
def fnGroupWrong : ChangeSpec := { name := "fnGroup", fn := fun _ => fun
  | [d] => { results := [.lit (.bool false)], args := [d] }
  | _ => none }
def FnGroupWrongFalsely : Prop := fnGroupRow.holds Tryz.pinned (OpenSpec.ofChange fnGroupWrong)

/-- 'laws.FnSteps': WHATEVER THE INPUT: true; the input reads as it did. -/
def fnStepsSpec : ChangeSpec := { name := "fnSteps", fn := fun _ => fun
  | [d] => { results := [.lit (.bool true)], args := [d] }
  | _ => none }
def fnStepsRow : OpenClaim := { program := "ytioiljboihehcaagreatdoor", sum := "028fa7fa540c9c87f41ffe968d703bfbb057d21fd6526ba75bdeddc7a40f6a67", func := "loop.example/g00868/laws.FnSteps", spec := "fnSteps", unfollowed := true, recurses := true, named := ["internal/strconv.uint64pow10", "math/bits.deBruijn32tab", "math/bits.deBruijn64tab"], plainKeys := false, apart := false, laid := [("math/bits.deBruijn32tab", laid_math_bits_deBruijn32tab), ("math/bits.deBruijn64tab", laid_math_bits_deBruijn64tab), ("internal/strconv.uint64pow10", laid_internal_strconv_uint64pow10)] }
def FnStepsSaid : Prop := fnStepsRow.holds Tryz.pinned (OpenSpec.ofChange fnStepsSpec)

/-- ITS FALSE NEIGHBOUR: 'it returns false'. Refute it at one input. -/
def fnStepsWrong : ChangeSpec := { name := "fnSteps", fn := fun _ => fun
  | [d] => { results := [.lit (.bool false)], args := [d] }
  | _ => none }
def FnStepsWrongFalsely : Prop := fnStepsRow.holds Tryz.pinned (OpenSpec.ofChange fnStepsWrong)

/-- 'laws.FnOneForm': WHATEVER THE INPUT: true; the input reads as it did. -/
def fnOneFormSpec : ChangeSpec := { name := "fnOneForm", fn := fun _ => fun
  | [d] => { results := [.lit (.bool true)], args := [d] }
  | _ => none }
def fnOneFormRow : OpenClaim := { program := "ytioiljboihehcaagreatdoor", sum := "028fa7fa540c9c87f41ffe968d703bfbb057d21fd6526ba75bdeddc7a40f6a67", func := "loop.example/g00868/laws.FnOneForm", spec := "fnOneForm", unfollowed := true, recurses := true, named := ["internal/strconv.uint64pow10", "math/bits.deBruijn32tab", "math/bits.deBruijn64tab"], plainKeys := false, apart := false, laid := [("math/bits.deBruijn32tab", laid_math_bits_deBruijn32tab), ("math/bits.deBruijn64tab", laid_math_bits_deBruijn64tab), ("internal/strconv.uint64pow10", laid_internal_strconv_uint64pow10)] }
def FnOneFormSaid : Prop := fnOneFormRow.holds Tryz.pinned (OpenSpec.ofChange fnOneFormSpec)

/-- ITS FALSE NEIGHBOUR: 'it returns false'. Refute it at one input. -/
def fnOneFormWrong : ChangeSpec := { name := "fnOneForm", fn := fun _ => fun
  | [d] => { results := [.lit (.bool false)], args := [d] }
  | _ => none }
def FnOneFormWrongFalsely : Prop := fnOneFormRow.holds Tryz.pinned (OpenSpec.ofChange fnOneFormWrong)

/-- 'laws.FnTop': WHATEVER THE INPUT: true; the input reads as it did. -/
def fnTopSpec : ChangeSpec := { name := "fnTop", fn := fun _ => fun
  | [d] => { results := [.lit (.bool true)], args := [d] }
  | _ => none }
def fnTopRow : OpenClaim := { program := "ytioiljboihehcaagreatdoor", sum := "028fa7fa540c9c87f41ffe968d703bfbb057d21fd6526ba75bdeddc7a40f6a67", func := "loop.example/g00868/laws.FnTop", spec := "fnTop", unfollowed := true, recurses := true, named := ["internal/strconv.uint64pow10", "math/bits.deBruijn32tab", "math/bits.deBruijn64tab"], plainKeys := false, apart := false, laid := [("math/bits.deBruijn32tab", laid_math_bits_deBruijn32tab), ("math/bits.deBruijn64tab", laid_math_bits_deBruijn64tab), ("internal/strconv.uint64pow10", laid_internal_strconv_uint64pow10)] }
def FnTopSaid : Prop := fnTopRow.holds Tryz.pinned (OpenSpec.ofChange fnTopSpec)

/-- ITS FALSE NEIGHBOUR: 'it returns false'. Refute it at one input. -/
def fnTopWrong : ChangeSpec := { name := "fnTop", fn := fun _ => fun
  | [d] => { results := [.lit (.bool false)], args := [d] }
  | _ => none }
def FnTopWrongFalsely : Prop := fnTopRow.holds Tryz.pinned (OpenSpec.ofChange fnTopWrong)

/-- 'laws.FnExactCompareNumber': WHATEVER THE INPUT: true; the input reads as it did. -/
def fnExactCompareNumberSpec : ChangeSpec := { name := "fnExactCompareNumber", fn := fun _ => fun
  | [d1, d2] => { results := [.lit (.bool true)], args := [d1, d2] }
  | _ => none }
def fnExactCompareNumberRow : OpenClaim := { program := "ytioiljboihehcaagreatdoor", sum := "028fa7fa540c9c87f41ffe968d703bfbb057d21fd6526ba75bdeddc7a40f6a67", func := "loop.example/g00868/laws.FnExactCompareNumber", spec := "fnExactCompareNumber", unfollowed := true, recurses := true, named := ["internal/strconv.uint64pow10", "math/bits.deBruijn32tab", "math/bits.deBruijn64tab"], plainKeys := false, apart := false, laid := [("math/bits.deBruijn32tab", laid_math_bits_deBruijn32tab), ("math/bits.deBruijn64tab", laid_math_bits_deBruijn64tab), ("internal/strconv.uint64pow10", laid_internal_strconv_uint64pow10)] }
def FnExactCompareNumberSaid : Prop := fnExactCompareNumberRow.holds Tryz.pinned (OpenSpec.ofChange fnExactCompareNumberSpec)

/-- ITS FALSE NEIGHBOUR: 'it returns false'. Refute it at one input. -/
def fnExactCompareNumberWrong : ChangeSpec := { name := "fnExactCompareNumber", fn := fun _ => fun
  | [d1, d2] => { results := [.lit (.bool false)], args := [d1, d2] }
  | _ => none }
def FnExactCompareNumberWrongFalsely : Prop := fnExactCompareNumberRow.holds Tryz.pinned (OpenSpec.ofChange fnExactCompareNumberWrong)

/-- 'laws.FnTiny': WHATEVER THE INPUT: true; the input reads as it did. -/
def fnTinySpec : ChangeSpec := { name := "fnTiny", fn := fun _ => fun
  | [d] => { results := [.lit (.bool true)], args := [d] }
  | _ => none }
def fnTinyRow : OpenClaim := { program := "ytioiljboihehcaagreatdoor", sum := "028fa7fa540c9c87f41ffe968d703bfbb057d21fd6526ba75bdeddc7a40f6a67", func := "loop.example/g00868/laws.FnTiny", spec := "fnTiny", unfollowed := true, recurses := true, named := ["internal/strconv.uint64pow10", "math/bits.deBruijn32tab", "math/bits.deBruijn64tab"], plainKeys := false, apart := false, laid := [("math/bits.deBruijn32tab", laid_math_bits_deBruijn32tab), ("math/bits.deBruijn64tab", laid_math_bits_deBruijn64tab), ("internal/strconv.uint64pow10", laid_internal_strconv_uint64pow10)] }
def FnTinySaid : Prop := fnTinyRow.holds Tryz.pinned (OpenSpec.ofChange fnTinySpec)

/-- ITS FALSE NEIGHBOUR: 'it returns false'. Refute it at one input. -/
def fnTinyWrong : ChangeSpec := { name := "fnTiny", fn := fun _ => fun
  | [d] => { results := [.lit (.bool false)], args := [d] }
  | _ => none }
def FnTinyWrongFalsely : Prop := fnTinyRow.holds Tryz.pinned (OpenSpec.ofChange fnTinyWrong)

/-- 'laws.FnExactUpsOf': WHATEVER THE INPUT: true; the input reads as it did. -/
def fnExactUpsOfSpec : ChangeSpec := { name := "fnExactUpsOf", fn := fun _ => fun
  | [d] => { results := [.lit (.bool true)], args := [d] }
  | _ => none }
def fnExactUpsOfRow : OpenClaim := { program := "ytioiljboihehcaagreatdoor", sum := "028fa7fa540c9c87f41ffe968d703bfbb057d21fd6526ba75bdeddc7a40f6a67", func := "loop.example/g00868/laws.FnExactUpsOf", spec := "fnExactUpsOf", recurses := true, named := ["internal/strconv.uint64pow10", "math/bits.deBruijn32tab", "math/bits.deBruijn64tab"], plainKeys := false, apart := false, laid := [("math/bits.deBruijn32tab", laid_math_bits_deBruijn32tab), ("math/bits.deBruijn64tab", laid_math_bits_deBruijn64tab), ("internal/strconv.uint64pow10", laid_internal_strconv_uint64pow10)] }
def FnExactUpsOfSaid : Prop := fnExactUpsOfRow.holds Tryz.pinned (OpenSpec.ofChange fnExactUpsOfSpec)

/-- ITS FALSE NEIGHBOUR: 'it returns false'. Refute it at one input. -/
def fnExactUpsOfWrong : ChangeSpec := { name := "fnExactUpsOf", fn := fun _ => fun
  | [d] => { results := [.lit (.bool false)], args := [d] }
  | _ => none }
def FnExactUpsOfWrongFalsely : Prop := fnExactUpsOfRow.holds Tryz.pinned (OpenSpec.ofChange fnExactUpsOfWrong)

/-- 'laws.FnExactStopLine': WHATEVER THE INPUT: true; the input reads as it did. -/
def fnExactStopLineSpec : ChangeSpec := { name := "fnExactStopLine", fn := fun _ => fun
  | [d1, d2] => { results := [.lit (.bool true)], args := [d1, d2] }
  | _ => none }
def fnExactStopLineRow : OpenClaim := { program := "ytioiljboihehcaagreatdoor", sum := "028fa7fa540c9c87f41ffe968d703bfbb057d21fd6526ba75bdeddc7a40f6a67", func := "loop.example/g00868/laws.FnExactStopLine", spec := "fnExactStopLine", recurses := true, named := ["internal/strconv.uint64pow10", "math/bits.deBruijn32tab", "math/bits.deBruijn64tab"], plainKeys := false, apart := false, laid := [("math/bits.deBruijn32tab", laid_math_bits_deBruijn32tab), ("math/bits.deBruijn64tab", laid_math_bits_deBruijn64tab), ("internal/strconv.uint64pow10", laid_internal_strconv_uint64pow10)] }
def FnExactStopLineSaid : Prop := fnExactStopLineRow.holds Tryz.pinned (OpenSpec.ofChange fnExactStopLineSpec)

/-- ITS FALSE NEIGHBOUR: 'it returns false'. Refute it at one input. -/
def fnExactStopLineWrong : ChangeSpec := { name := "fnExactStopLine", fn := fun _ => fun
  | [d1, d2] => { results := [.lit (.bool false)], args := [d1, d2] }
  | _ => none }
def FnExactStopLineWrongFalsely : Prop := fnExactStopLineRow.holds Tryz.pinned (OpenSpec.ofChange fnExactStopLineWrong)

/-- 'laws.FnStopLine': WHATEVER THE INPUT: true; the input reads as it did. -/
def fnStopLineSpec : ChangeSpec := { name := "fnStopLine", fn := fun _ => fun
  | [d] => { results := [.lit (.bool true)], args := [d] }
  | _ => none }
def fnStopLineRow : OpenClaim := { program := "ytioiljboihehcaagreatdoor", sum := "028fa7fa540c9c87f41ffe968d703bfbb057d21fd6526ba75bdeddc7a40f6a67", func := "loop.example/g00868/laws.FnStopLine", spec := "fnStopLine", recurses := true, named := ["internal/strconv.uint64pow10", "math/bits.deBruijn32tab", "math/bits.deBruijn64tab"], plainKeys := false, apart := false, laid := [("math/bits.deBruijn32tab", laid_math_bits_deBruijn32tab), ("math/bits.deBruijn64tab", laid_math_bits_deBruijn64tab), ("internal/strconv.uint64pow10", laid_internal_strconv_uint64pow10)] }
def FnStopLineSaid : Prop := fnStopLineRow.holds Tryz.pinned (OpenSpec.ofChange fnStopLineSpec)

/-- ITS FALSE NEIGHBOUR: 'it returns false'. Refute it at one input. -/
def fnStopLineWrong : ChangeSpec := { name := "fnStopLine", fn := fun _ => fun
  | [d] => { results := [.lit (.bool false)], args := [d] }
  | _ => none }
def FnStopLineWrongFalsely : Prop := fnStopLineRow.holds Tryz.pinned (OpenSpec.ofChange fnStopLineWrong)

/- THE SECOND FORM. 'bulk': how many values and letters a reading holds, each counted each time it is reached (what is shared counts as often as it is met; a slice's spare places count too). A statement '..UptoSaid' is the law's where the arguments, and the package variables that the reading takes, are together of bulk at most 1048576: NARROWER than '..Said'. Prove '..Said' where nothing that the law and all that it calls make is longer than what came in: it says more and counts as full. Else prove '..UptoSaid'. A law counts once. -/
mutual
def uptoBulk {H : Type} : DataW H → Nat
  | .lit (.string bytes) => bytes.length + 1
  | .lit _ => 1
  | .nil => 1
  | .ptr d => uptoBulk d + 1
  | .slice elems spare => uptoBulkAll elems + uptoBulkAll spare + 1
  | .agg parts => uptoBulkAll parts + 1
  | .iface _ d => uptoBulk d + 1
  | .map entries => uptoBulkEntries entries + 1
  | .held _ => 1
def uptoBulkAll {H : Type} : List (DataW H) → Nat
  | [] => 0
  | d :: r => uptoBulk d + uptoBulkAll r
def uptoBulkEntries {H : Type} : List (Lit × DataW H) → Nat
  | [] => 0
  | x :: r => uptoBulkEntry x + uptoBulkEntries r
def uptoBulkEntry {H : Type} : Lit × DataW H → Nat
  | (.string bytes, d) => bytes.length + uptoBulk d + 1
  | (_, d) => uptoBulk d + 1
 end
def uptoSmall : (H : Type) → List (DataW H) → Bool := fun _ ds => decide (uptoBulkAll ds ≤ 1048576)
def OpenSpec.upto (s : _root_.Go.ChangeSpec) : _root_.Go.OpenSpec := { _root_.Go.OpenSpec.ofChange s with cond := some uptoSmall }

/-- 'laws.FnExactCanonOf', WHERE WHAT IT READS IS OF BULK AT MOST 1048576: true; the input reads as it did. -/
def fnExactCanonOfUptoRow : OpenClaim := { program := "ytioiljboihehcaagreatdoor", sum := "028fa7fa540c9c87f41ffe968d703bfbb057d21fd6526ba75bdeddc7a40f6a67", func := "loop.example/g00868/laws.FnExactCanonOf", spec := "fnExactCanonOf", unfollowed := true, recurses := true, named := ["internal/strconv.uint64pow10", "math/bits.deBruijn32tab", "math/bits.deBruijn64tab"], plainKeys := false, apart := false, laid := [("math/bits.deBruijn32tab", laid_math_bits_deBruijn32tab), ("math/bits.deBruijn64tab", laid_math_bits_deBruijn64tab), ("internal/strconv.uint64pow10", laid_internal_strconv_uint64pow10)], narrowed := true }
def FnExactCanonOfUptoSaid : Prop := fnExactCanonOfUptoRow.holds Tryz.pinned (OpenSpec.upto fnExactCanonOfSpec)

/-- 'laws.FnTimes', WHERE WHAT IT READS IS OF BULK AT MOST 1048576: true; the input reads as it did. -/
def fnTimesUptoRow : OpenClaim := { program := "ytioiljboihehcaagreatdoor", sum := "028fa7fa540c9c87f41ffe968d703bfbb057d21fd6526ba75bdeddc7a40f6a67", func := "loop.example/g00868/laws.FnTimes", spec := "fnTimes", unfollowed := true, recurses := true, named := ["internal/strconv.uint64pow10", "math/bits.deBruijn32tab", "math/bits.deBruijn64tab"], plainKeys := false, apart := false, laid := [("math/bits.deBruijn32tab", laid_math_bits_deBruijn32tab), ("math/bits.deBruijn64tab", laid_math_bits_deBruijn64tab), ("internal/strconv.uint64pow10", laid_internal_strconv_uint64pow10)], narrowed := true }
def FnTimesUptoSaid : Prop := fnTimesUptoRow.holds Tryz.pinned (OpenSpec.upto fnTimesSpec)

/-- 'laws.FnMinus', WHERE WHAT IT READS IS OF BULK AT MOST 1048576: true; the input reads as it did. -/
def fnMinusUptoRow : OpenClaim := { program := "ytioiljboihehcaagreatdoor", sum := "028fa7fa540c9c87f41ffe968d703bfbb057d21fd6526ba75bdeddc7a40f6a67", func := "loop.example/g00868/laws.FnMinus", spec := "fnMinus", unfollowed := true, recurses := true, named := ["internal/strconv.uint64pow10", "math/bits.deBruijn32tab", "math/bits.deBruijn64tab"], plainKeys := false, apart := false, laid := [("math/bits.deBruijn32tab", laid_math_bits_deBruijn32tab), ("math/bits.deBruijn64tab", laid_math_bits_deBruijn64tab), ("internal/strconv.uint64pow10", laid_internal_strconv_uint64pow10)], narrowed := true }
def FnMinusUptoSaid : Prop := fnMinusUptoRow.holds Tryz.pinned (OpenSpec.upto fnMinusSpec)

/-- 'laws.FnGroup', WHERE WHAT IT READS IS OF BULK AT MOST 1048576: true; the input reads as it did. -/
def fnGroupUptoRow : OpenClaim := { program := "ytioiljboihehcaagreatdoor", sum := "028fa7fa540c9c87f41ffe968d703bfbb057d21fd6526ba75bdeddc7a40f6a67", func := "loop.example/g00868/laws.FnGroup", spec := "fnGroup", unfollowed := true, recurses := true, named := ["internal/strconv.uint64pow10", "math/bits.deBruijn32tab", "math/bits.deBruijn64tab"], plainKeys := false, apart := false, laid := [("math/bits.deBruijn32tab", laid_math_bits_deBruijn32tab), ("math/bits.deBruijn64tab", laid_math_bits_deBruijn64tab), ("internal/strconv.uint64pow10", laid_internal_strconv_uint64pow10)], narrowed := true }
def FnGroupUptoSaid : Prop := fnGroupUptoRow.holds Tryz.pinned (OpenSpec.upto fnGroupSpec)

/-- 'laws.FnSteps', WHERE WHAT IT READS IS OF BULK AT MOST 1048576: true; the input reads as it did. -/
def fnStepsUptoRow : OpenClaim := { program := "ytioiljboihehcaagreatdoor", sum := "028fa7fa540c9c87f41ffe968d703bfbb057d21fd6526ba75bdeddc7a40f6a67", func := "loop.example/g00868/laws.FnSteps", spec := "fnSteps", unfollowed := true, recurses := true, named := ["internal/strconv.uint64pow10", "math/bits.deBruijn32tab", "math/bits.deBruijn64tab"], plainKeys := false, apart := false, laid := [("math/bits.deBruijn32tab", laid_math_bits_deBruijn32tab), ("math/bits.deBruijn64tab", laid_math_bits_deBruijn64tab), ("internal/strconv.uint64pow10", laid_internal_strconv_uint64pow10)], narrowed := true }
def FnStepsUptoSaid : Prop := fnStepsUptoRow.holds Tryz.pinned (OpenSpec.upto fnStepsSpec)

/-- 'laws.FnOneForm', WHERE WHAT IT READS IS OF BULK AT MOST 1048576: true; the input reads as it did. -/
def fnOneFormUptoRow : OpenClaim := { program := "ytioiljboihehcaagreatdoor", sum := "028fa7fa540c9c87f41ffe968d703bfbb057d21fd6526ba75bdeddc7a40f6a67", func := "loop.example/g00868/laws.FnOneForm", spec := "fnOneForm", unfollowed := true, recurses := true, named := ["internal/strconv.uint64pow10", "math/bits.deBruijn32tab", "math/bits.deBruijn64tab"], plainKeys := false, apart := false, laid := [("math/bits.deBruijn32tab", laid_math_bits_deBruijn32tab), ("math/bits.deBruijn64tab", laid_math_bits_deBruijn64tab), ("internal/strconv.uint64pow10", laid_internal_strconv_uint64pow10)], narrowed := true }
def FnOneFormUptoSaid : Prop := fnOneFormUptoRow.holds Tryz.pinned (OpenSpec.upto fnOneFormSpec)

/-- 'laws.FnTop', WHERE WHAT IT READS IS OF BULK AT MOST 1048576: true; the input reads as it did. -/
def fnTopUptoRow : OpenClaim := { program := "ytioiljboihehcaagreatdoor", sum := "028fa7fa540c9c87f41ffe968d703bfbb057d21fd6526ba75bdeddc7a40f6a67", func := "loop.example/g00868/laws.FnTop", spec := "fnTop", unfollowed := true, recurses := true, named := ["internal/strconv.uint64pow10", "math/bits.deBruijn32tab", "math/bits.deBruijn64tab"], plainKeys := false, apart := false, laid := [("math/bits.deBruijn32tab", laid_math_bits_deBruijn32tab), ("math/bits.deBruijn64tab", laid_math_bits_deBruijn64tab), ("internal/strconv.uint64pow10", laid_internal_strconv_uint64pow10)], narrowed := true }
def FnTopUptoSaid : Prop := fnTopUptoRow.holds Tryz.pinned (OpenSpec.upto fnTopSpec)

/-- 'laws.FnExactCompareNumber', WHERE WHAT IT READS IS OF BULK AT MOST 1048576: true; the input reads as it did. -/
def fnExactCompareNumberUptoRow : OpenClaim := { program := "ytioiljboihehcaagreatdoor", sum := "028fa7fa540c9c87f41ffe968d703bfbb057d21fd6526ba75bdeddc7a40f6a67", func := "loop.example/g00868/laws.FnExactCompareNumber", spec := "fnExactCompareNumber", unfollowed := true, recurses := true, named := ["internal/strconv.uint64pow10", "math/bits.deBruijn32tab", "math/bits.deBruijn64tab"], plainKeys := false, apart := false, laid := [("math/bits.deBruijn32tab", laid_math_bits_deBruijn32tab), ("math/bits.deBruijn64tab", laid_math_bits_deBruijn64tab), ("internal/strconv.uint64pow10", laid_internal_strconv_uint64pow10)], narrowed := true }
def FnExactCompareNumberUptoSaid : Prop := fnExactCompareNumberUptoRow.holds Tryz.pinned (OpenSpec.upto fnExactCompareNumberSpec)

/-- 'laws.FnTiny', WHERE WHAT IT READS IS OF BULK AT MOST 1048576: true; the input reads as it did. -/
def fnTinyUptoRow : OpenClaim := { program := "ytioiljboihehcaagreatdoor", sum := "028fa7fa540c9c87f41ffe968d703bfbb057d21fd6526ba75bdeddc7a40f6a67", func := "loop.example/g00868/laws.FnTiny", spec := "fnTiny", unfollowed := true, recurses := true, named := ["internal/strconv.uint64pow10", "math/bits.deBruijn32tab", "math/bits.deBruijn64tab"], plainKeys := false, apart := false, laid := [("math/bits.deBruijn32tab", laid_math_bits_deBruijn32tab), ("math/bits.deBruijn64tab", laid_math_bits_deBruijn64tab), ("internal/strconv.uint64pow10", laid_internal_strconv_uint64pow10)], narrowed := true }
def FnTinyUptoSaid : Prop := fnTinyUptoRow.holds Tryz.pinned (OpenSpec.upto fnTinySpec)

/-- 'laws.FnExactUpsOf', WHERE WHAT IT READS IS OF BULK AT MOST 1048576: true; the input reads as it did. -/
def fnExactUpsOfUptoRow : OpenClaim := { program := "ytioiljboihehcaagreatdoor", sum := "028fa7fa540c9c87f41ffe968d703bfbb057d21fd6526ba75bdeddc7a40f6a67", func := "loop.example/g00868/laws.FnExactUpsOf", spec := "fnExactUpsOf", recurses := true, named := ["internal/strconv.uint64pow10", "math/bits.deBruijn32tab", "math/bits.deBruijn64tab"], plainKeys := false, apart := false, laid := [("math/bits.deBruijn32tab", laid_math_bits_deBruijn32tab), ("math/bits.deBruijn64tab", laid_math_bits_deBruijn64tab), ("internal/strconv.uint64pow10", laid_internal_strconv_uint64pow10)], narrowed := true }
def FnExactUpsOfUptoSaid : Prop := fnExactUpsOfUptoRow.holds Tryz.pinned (OpenSpec.upto fnExactUpsOfSpec)

/-- 'laws.FnExactStopLine', WHERE WHAT IT READS IS OF BULK AT MOST 1048576: true; the input reads as it did. -/
def fnExactStopLineUptoRow : OpenClaim := { program := "ytioiljboihehcaagreatdoor", sum := "028fa7fa540c9c87f41ffe968d703bfbb057d21fd6526ba75bdeddc7a40f6a67", func := "loop.example/g00868/laws.FnExactStopLine", spec := "fnExactStopLine", recurses := true, named := ["internal/strconv.uint64pow10", "math/bits.deBruijn32tab", "math/bits.deBruijn64tab"], plainKeys := false, apart := false, laid := [("math/bits.deBruijn32tab", laid_math_bits_deBruijn32tab), ("math/bits.deBruijn64tab", laid_math_bits_deBruijn64tab), ("internal/strconv.uint64pow10", laid_internal_strconv_uint64pow10)], narrowed := true }
def FnExactStopLineUptoSaid : Prop := fnExactStopLineUptoRow.holds Tryz.pinned (OpenSpec.upto fnExactStopLineSpec)

/-- 'laws.FnStopLine', WHERE WHAT IT READS IS OF BULK AT MOST 1048576: true; the input reads as it did. -/
def fnStopLineUptoRow : OpenClaim := { program := "ytioiljboihehcaagreatdoor", sum := "028fa7fa540c9c87f41ffe968d703bfbb057d21fd6526ba75bdeddc7a40f6a67", func := "loop.example/g00868/laws.FnStopLine", spec := "fnStopLine", recurses := true, named := ["internal/strconv.uint64pow10", "math/bits.deBruijn32tab", "math/bits.deBruijn64tab"], plainKeys := false, apart := false, laid := [("math/bits.deBruijn32tab", laid_math_bits_deBruijn32tab), ("math/bits.deBruijn64tab", laid_math_bits_deBruijn64tab), ("internal/strconv.uint64pow10", laid_internal_strconv_uint64pow10)], narrowed := true }
def FnStopLineUptoSaid : Prop := fnStopLineUptoRow.holds Tryz.pinned (OpenSpec.upto fnStopLineSpec)

end Rows
end Go.Proofs.YtioiljboihehcaaGreatDoor
