/-
  NARROWER THAN 'FOR EVERY INPUT', by the rows' own cells (each row's printed sentence says how): FnStops: laid · FnConfused: laid · FnStopSums: laid · FnExactUpsOf: laid · FnUps: laid · FnSwitch: laid.
  DERIVED. THE GIVEN ROWS OF THIS SEAT. 6 by the template 'for every input the law returns true; each argument reads behind the call as it read before'; 0 by the template 'total and deterministic' (their statements: YtlapkmhemepcaaaGreatDoorTotals.lean).
  GIVEN WITH THE SEED: the statements are not yours to turn. If you find one false, say at which input.
  Laid BY PROGRAM, IN A SANDBOX (cutbox-rows.mjs): the forced cells as the released guide's own fill.sh prints them over the translation 345e1d405bee3ca4… (all of the seat's roots in one cut). By AI agents, Wed Nov 11 2026. No macro, syntax, notation, axiom, sorry.
-/
import Derived.Test.YtlapkmhemepcaaaGreatDoorChecked
import GoSem.Claim
import GoSem.ClaimJoined
import GoSem.ClaimMapViews
import Derived.JoinedTies
import Derived.KernelRfl
namespace Go.Proofs.YtlapkmhemepcaaaGreatDoor
/- THE CELL 'sum', in the pinned program and in every row, IS THE sha256 OF THE DUMP (.gsa) THAT YtlapkmhemepcaaaGreatDoorProg.lean LOADS. Nothing in Lean hashes anything: it is a label: what it is worth is what the hold of that sum in a sandbox is worth. -/
noncomputable def Tryz.pinned : Pinned := { name := "ytlapkmhemepcaaagreatdoor", sum := "345e1d405bee3ca45bb7f61b843f2198b59061682645c085234735f633e398e9", checked := Tryz.checked }
namespace Rows
def none {H : Type} : Left H := { results := [], args := [] }

/- WHAT THE LISTED PACKAGE-LEVEL VARIABLES READ AS WHEN THE CALL BEGINS. Each datum BY PROGRAM (the guide's laid-datum.mjs) off the statement by which the dump's own 'gosem.cut.vars' lays the variable. In a bare row this is a premise. The card (YtlapkmhemepcaaaGreatDoorCards.lean) ties it to the program's text. -/
def laid_math_bits_deBruijn32tab {H : Type} : DataW H := .agg [.lit (.int .u8 0), .lit (.int .u8 1), .lit (.int .u8 28), .lit (.int .u8 2), .lit (.int .u8 29), .lit (.int .u8 14), .lit (.int .u8 24), .lit (.int .u8 3), .lit (.int .u8 30), .lit (.int .u8 22), .lit (.int .u8 20), .lit (.int .u8 15), .lit (.int .u8 25), .lit (.int .u8 17), .lit (.int .u8 4), .lit (.int .u8 8), .lit (.int .u8 31), .lit (.int .u8 27), .lit (.int .u8 13), .lit (.int .u8 23), .lit (.int .u8 21), .lit (.int .u8 19), .lit (.int .u8 16), .lit (.int .u8 7), .lit (.int .u8 26), .lit (.int .u8 12), .lit (.int .u8 18), .lit (.int .u8 6), .lit (.int .u8 11), .lit (.int .u8 5), .lit (.int .u8 10), .lit (.int .u8 9)]
def laid_math_bits_deBruijn64tab {H : Type} : DataW H := .agg [.lit (.int .u8 0), .lit (.int .u8 1), .lit (.int .u8 56), .lit (.int .u8 2), .lit (.int .u8 57), .lit (.int .u8 49), .lit (.int .u8 28), .lit (.int .u8 3), .lit (.int .u8 61), .lit (.int .u8 58), .lit (.int .u8 42), .lit (.int .u8 50), .lit (.int .u8 38), .lit (.int .u8 29), .lit (.int .u8 17), .lit (.int .u8 4), .lit (.int .u8 62), .lit (.int .u8 47), .lit (.int .u8 59), .lit (.int .u8 36), .lit (.int .u8 45), .lit (.int .u8 43), .lit (.int .u8 51), .lit (.int .u8 22), .lit (.int .u8 53), .lit (.int .u8 39), .lit (.int .u8 33), .lit (.int .u8 30), .lit (.int .u8 24), .lit (.int .u8 18), .lit (.int .u8 12), .lit (.int .u8 5), .lit (.int .u8 63), .lit (.int .u8 55), .lit (.int .u8 48), .lit (.int .u8 27), .lit (.int .u8 60), .lit (.int .u8 41), .lit (.int .u8 37), .lit (.int .u8 16), .lit (.int .u8 46), .lit (.int .u8 35), .lit (.int .u8 44), .lit (.int .u8 21), .lit (.int .u8 52), .lit (.int .u8 32), .lit (.int .u8 23), .lit (.int .u8 11), .lit (.int .u8 54), .lit (.int .u8 26), .lit (.int .u8 40), .lit (.int .u8 15), .lit (.int .u8 34), .lit (.int .u8 20), .lit (.int .u8 31), .lit (.int .u8 10), .lit (.int .u8 25), .lit (.int .u8 14), .lit (.int .u8 19), .lit (.int .u8 9), .lit (.int .u8 13), .lit (.int .u8 8), .lit (.int .u8 7), .lit (.int .u8 6)]
def laid_internal_strconv_uint64pow10 {H : Type} : DataW H := .agg [.lit (.int .u64 1), .lit (.int .u64 10), .lit (.int .u64 100), .lit (.int .u64 1000), .lit (.int .u64 10000), .lit (.int .u64 100000), .lit (.int .u64 1000000), .lit (.int .u64 10000000), .lit (.int .u64 100000000), .lit (.int .u64 1000000000), .lit (.int .u64 10000000000), .lit (.int .u64 100000000000), .lit (.int .u64 1000000000000), .lit (.int .u64 10000000000000), .lit (.int .u64 100000000000000), .lit (.int .u64 1000000000000000), .lit (.int .u64 10000000000000000), .lit (.int .u64 100000000000000000), .lit (.int .u64 1000000000000000000), .lit (.int .u64 10000000000000000000)]

/-- 'laws.FnStops': WHATEVER THE INPUT: true; the input reads as it did. -/
def fnStopsSpec : ChangeSpec := { name := "fnStops", fn := fun _ => fun
  | [d] => { results := [.lit (.bool true)], args := [d] }
  | _ => none }
def fnStopsRow : OpenClaim := { program := "ytlapkmhemepcaaagreatdoor", sum := "345e1d405bee3ca45bb7f61b843f2198b59061682645c085234735f633e398e9", func := "loop.example/g00868/laws.FnStops", spec := "fnStops", unfollowed := true, recurses := true, named := ["internal/strconv.uint64pow10", "math/bits.deBruijn32tab", "math/bits.deBruijn64tab"], plainKeys := false, apart := false, laid := [("math/bits.deBruijn32tab", laid_math_bits_deBruijn32tab), ("math/bits.deBruijn64tab", laid_math_bits_deBruijn64tab), ("internal/strconv.uint64pow10", laid_internal_strconv_uint64pow10)] }
def FnStopsSaid : Prop := fnStopsRow.holds Tryz.pinned (OpenSpec.ofChange fnStopsSpec)

/-- ITS FALSE NEIGHBOUR: 'it returns false'. Refute it at one input. -/
def fnStopsWrong : ChangeSpec := { name := "fnStops", fn := fun _ => fun
  | [d] => { results := [.lit (.bool false)], args := [d] }
  | _ => none }
def FnStopsWrongFalsely : Prop := fnStopsRow.holds Tryz.pinned (OpenSpec.ofChange fnStopsWrong)

/-- 'laws.FnConfused': WHATEVER THE INPUT: true; the input reads as it did. -/
def fnConfusedSpec : ChangeSpec := { name := "fnConfused", fn := fun _ => fun
  | [d] => { results := [.lit (.bool true)], args := [d] }
  | _ => none }
def fnConfusedRow : OpenClaim := { program := "ytlapkmhemepcaaagreatdoor", sum := "345e1d405bee3ca45bb7f61b843f2198b59061682645c085234735f633e398e9", func := "loop.example/g00868/laws.FnConfused", spec := "fnConfused", unfollowed := true, recurses := true, named := ["internal/strconv.uint64pow10", "math/bits.deBruijn32tab", "math/bits.deBruijn64tab"], plainKeys := false, apart := false, laid := [("math/bits.deBruijn32tab", laid_math_bits_deBruijn32tab), ("math/bits.deBruijn64tab", laid_math_bits_deBruijn64tab), ("internal/strconv.uint64pow10", laid_internal_strconv_uint64pow10)] }
def FnConfusedSaid : Prop := fnConfusedRow.holds Tryz.pinned (OpenSpec.ofChange fnConfusedSpec)

/-- ITS FALSE NEIGHBOUR: 'it returns false'. Refute it at one input. -/
def fnConfusedWrong : ChangeSpec := { name := "fnConfused", fn := fun _ => fun
  | [d] => { results := [.lit (.bool false)], args := [d] }
  | _ => none }
def FnConfusedWrongFalsely : Prop := fnConfusedRow.holds Tryz.pinned (OpenSpec.ofChange fnConfusedWrong)

/-- 'laws.FnStopSums': WHATEVER THE INPUT: true; the input reads as it did. -/
def fnStopSumsSpec : ChangeSpec := { name := "fnStopSums", fn := fun _ => fun
  | [d] => { results := [.lit (.bool true)], args := [d] }
  | _ => none }
def fnStopSumsRow : OpenClaim := { program := "ytlapkmhemepcaaagreatdoor", sum := "345e1d405bee3ca45bb7f61b843f2198b59061682645c085234735f633e398e9", func := "loop.example/g00868/laws.FnStopSums", spec := "fnStopSums", unfollowed := true, recurses := true, named := ["internal/strconv.uint64pow10", "math/bits.deBruijn32tab", "math/bits.deBruijn64tab"], plainKeys := false, apart := false, laid := [("math/bits.deBruijn32tab", laid_math_bits_deBruijn32tab), ("math/bits.deBruijn64tab", laid_math_bits_deBruijn64tab), ("internal/strconv.uint64pow10", laid_internal_strconv_uint64pow10)] }
def FnStopSumsSaid : Prop := fnStopSumsRow.holds Tryz.pinned (OpenSpec.ofChange fnStopSumsSpec)

/-- ITS FALSE NEIGHBOUR: 'it returns false'. Refute it at one input. -/
def fnStopSumsWrong : ChangeSpec := { name := "fnStopSums", fn := fun _ => fun
  | [d] => { results := [.lit (.bool false)], args := [d] }
  | _ => none }
def FnStopSumsWrongFalsely : Prop := fnStopSumsRow.holds Tryz.pinned (OpenSpec.ofChange fnStopSumsWrong)

/-- 'laws.FnExactUpsOf': WHATEVER THE INPUT: true; the input reads as it did. -/
def fnExactUpsOfSpec : ChangeSpec := { name := "fnExactUpsOf", fn := fun _ => fun
  | [d] => { results := [.lit (.bool true)], args := [d] }
  | _ => none }
def fnExactUpsOfRow : OpenClaim := { program := "ytlapkmhemepcaaagreatdoor", sum := "345e1d405bee3ca45bb7f61b843f2198b59061682645c085234735f633e398e9", func := "loop.example/g00868/laws.FnExactUpsOf", spec := "fnExactUpsOf", recurses := true, named := ["internal/strconv.uint64pow10", "math/bits.deBruijn32tab", "math/bits.deBruijn64tab"], plainKeys := false, apart := false, laid := [("math/bits.deBruijn32tab", laid_math_bits_deBruijn32tab), ("math/bits.deBruijn64tab", laid_math_bits_deBruijn64tab), ("internal/strconv.uint64pow10", laid_internal_strconv_uint64pow10)] }
def FnExactUpsOfSaid : Prop := fnExactUpsOfRow.holds Tryz.pinned (OpenSpec.ofChange fnExactUpsOfSpec)

/-- ITS FALSE NEIGHBOUR: 'it returns false'. Refute it at one input. -/
def fnExactUpsOfWrong : ChangeSpec := { name := "fnExactUpsOf", fn := fun _ => fun
  | [d] => { results := [.lit (.bool false)], args := [d] }
  | _ => none }
def FnExactUpsOfWrongFalsely : Prop := fnExactUpsOfRow.holds Tryz.pinned (OpenSpec.ofChange fnExactUpsOfWrong)

/-- 'laws.FnUps': WHATEVER THE INPUT: true; the input reads as it did. -/
def fnUpsSpec : ChangeSpec := { name := "fnUps", fn := fun _ => fun
  | [d] => { results := [.lit (.bool true)], args := [d] }
  | _ => none }
def fnUpsRow : OpenClaim := { program := "ytlapkmhemepcaaagreatdoor", sum := "345e1d405bee3ca45bb7f61b843f2198b59061682645c085234735f633e398e9", func := "loop.example/g00868/laws.FnUps", spec := "fnUps", unfollowed := true, recurses := true, named := ["internal/strconv.uint64pow10", "math/bits.deBruijn32tab", "math/bits.deBruijn64tab"], plainKeys := false, apart := false, laid := [("math/bits.deBruijn32tab", laid_math_bits_deBruijn32tab), ("math/bits.deBruijn64tab", laid_math_bits_deBruijn64tab), ("internal/strconv.uint64pow10", laid_internal_strconv_uint64pow10)] }
def FnUpsSaid : Prop := fnUpsRow.holds Tryz.pinned (OpenSpec.ofChange fnUpsSpec)

/-- ITS FALSE NEIGHBOUR: 'it returns false'. Refute it at one input. -/
def fnUpsWrong : ChangeSpec := { name := "fnUps", fn := fun _ => fun
  | [d] => { results := [.lit (.bool false)], args := [d] }
  | _ => none }
def FnUpsWrongFalsely : Prop := fnUpsRow.holds Tryz.pinned (OpenSpec.ofChange fnUpsWrong)

/-- 'laws.FnSwitch': WHATEVER THE INPUT: true; the input reads as it did. -/
def fnSwitchSpec : ChangeSpec := { name := "fnSwitch", fn := fun _ => fun
  | [d] => { results := [.lit (.bool true)], args := [d] }
  | _ => none }
def fnSwitchRow : OpenClaim := { program := "ytlapkmhemepcaaagreatdoor", sum := "345e1d405bee3ca45bb7f61b843f2198b59061682645c085234735f633e398e9", func := "loop.example/g00868/laws.FnSwitch", spec := "fnSwitch", unfollowed := true, recurses := true, named := ["internal/strconv.uint64pow10", "math/bits.deBruijn32tab", "math/bits.deBruijn64tab"], plainKeys := false, apart := false, laid := [("math/bits.deBruijn32tab", laid_math_bits_deBruijn32tab), ("math/bits.deBruijn64tab", laid_math_bits_deBruijn64tab), ("internal/strconv.uint64pow10", laid_internal_strconv_uint64pow10)] }
def FnSwitchSaid : Prop := fnSwitchRow.holds Tryz.pinned (OpenSpec.ofChange fnSwitchSpec)

/-- ITS FALSE NEIGHBOUR: 'it returns false'. Refute it at one input. -/
def fnSwitchWrong : ChangeSpec := { name := "fnSwitch", fn := fun _ => fun
  | [d] => { results := [.lit (.bool false)], args := [d] }
  | _ => none }
def FnSwitchWrongFalsely : Prop := fnSwitchRow.holds Tryz.pinned (OpenSpec.ofChange fnSwitchWrong)

/- THE SECOND FORM. 'bulk': how many values and letters a reading holds, each counted each time it is reached (what is shared counts as often as it is met; a slice's spare places count too). A statement '..UptoSaid' is the law's where the arguments, and the package variables that the reading takes, are together of bulk at most 1048576: NARROWER than '..Said'. Prove '..Said' where nothing that the law and all that it calls make is longer than what came in: it says more and counts as full. Else prove '..UptoSaid'. A law counts once. -/
mutual
def uptoBulk {H : Type} : DataW H → Nat
  | .lit (.string bytes) => bytes.length + 1
  | .lit _ => 1
  | .nil => 1
  | .ptr d => uptoBulk d + 1
  | .slice elems spare => uptoBulkAll elems + uptoBulkAll spare + 1
  | .agg parts => uptoBulkAll parts + 1
  | .iface _ d => uptoBulk d + 1
  | .map entries => uptoBulkEntries entries + 1
  | .held _ => 1
def uptoBulkAll {H : Type} : List (DataW H) → Nat
  | [] => 0
  | d :: r => uptoBulk d + uptoBulkAll r
def uptoBulkEntries {H : Type} : List (Lit × DataW H) → Nat
  | [] => 0
  | x :: r => uptoBulkEntry x + uptoBulkEntries r
def uptoBulkEntry {H : Type} : Lit × DataW H → Nat
  | (.string bytes, d) => bytes.length + uptoBulk d + 1
  | (_, d) => uptoBulk d + 1
 end
def uptoSmall : (H : Type) → List (DataW H) → Bool := fun _ ds => decide (uptoBulkAll ds ≤ 1048576)
def OpenSpec.upto (s : _root_.Go.ChangeSpec) : _root_.Go.OpenSpec := { _root_.Go.OpenSpec.ofChange s with cond := some uptoSmall }

/-- 'laws.FnStops', WHERE WHAT IT READS IS OF BULK AT MOST 1048576: true; the input reads as it did. -/
def fnStopsUptoRow : OpenClaim := { program := "ytlapkmhemepcaaagreatdoor", sum := "345e1d405bee3ca45bb7f61b843f2198b59061682645c085234735f633e398e9", func := "loop.example/g00868/laws.FnStops", spec := "fnStops", unfollowed := true, recurses := true, named := ["internal/strconv.uint64pow10", "math/bits.deBruijn32tab", "math/bits.deBruijn64tab"], plainKeys := false, apart := false, laid := [("math/bits.deBruijn32tab", laid_math_bits_deBruijn32tab), ("math/bits.deBruijn64tab", laid_math_bits_deBruijn64tab), ("internal/strconv.uint64pow10", laid_internal_strconv_uint64pow10)], narrowed := true }
def FnStopsUptoSaid : Prop := fnStopsUptoRow.holds Tryz.pinned (OpenSpec.upto fnStopsSpec)

/-- 'laws.FnConfused', WHERE WHAT IT READS IS OF BULK AT MOST 1048576: true; the input reads as it did. -/
def fnConfusedUptoRow : OpenClaim := { program := "ytlapkmhemepcaaagreatdoor", sum := "345e1d405bee3ca45bb7f61b843f2198b59061682645c085234735f633e398e9", func := "loop.example/g00868/laws.FnConfused", spec := "fnConfused", unfollowed := true, recurses := true, named := ["internal/strconv.uint64pow10", "math/bits.deBruijn32tab", "math/bits.deBruijn64tab"], plainKeys := false, apart := false, laid := [("math/bits.deBruijn32tab", laid_math_bits_deBruijn32tab), ("math/bits.deBruijn64tab", laid_math_bits_deBruijn64tab), ("internal/strconv.uint64pow10", laid_internal_strconv_uint64pow10)], narrowed := true }
def FnConfusedUptoSaid : Prop := fnConfusedUptoRow.holds Tryz.pinned (OpenSpec.upto fnConfusedSpec)

/-- 'laws.FnStopSums', WHERE WHAT IT READS IS OF BULK AT MOST 1048576: true; the input reads as it did. -/
def fnStopSumsUptoRow : OpenClaim := { program := "ytlapkmhemepcaaagreatdoor", sum := "345e1d405bee3ca45bb7f61b843f2198b59061682645c085234735f633e398e9", func := "loop.example/g00868/laws.FnStopSums", spec := "fnStopSums", unfollowed := true, recurses := true, named := ["internal/strconv.uint64pow10", "math/bits.deBruijn32tab", "math/bits.deBruijn64tab"], plainKeys := false, apart := false, laid := [("math/bits.deBruijn32tab", laid_math_bits_deBruijn32tab), ("math/bits.deBruijn64tab", laid_math_bits_deBruijn64tab), ("internal/strconv.uint64pow10", laid_internal_strconv_uint64pow10)], narrowed := true }
def FnStopSumsUptoSaid : Prop := fnStopSumsUptoRow.holds Tryz.pinned (OpenSpec.upto fnStopSumsSpec)

/-- 'laws.FnExactUpsOf', WHERE WHAT IT READS IS OF BULK AT MOST 1048576: true; the input reads as it did. -/
def fnExactUpsOfUptoRow : OpenClaim := { program := "ytlapkmhemepcaaagreatdoor", sum := "345e1d405bee3ca45bb7f61b843f2198b59061682645c085234735f633e398e9", func := "loop.example/g00868/laws.FnExactUpsOf", spec := "fnExactUpsOf", recurses := true, named := ["internal/strconv.uint64pow10", "math/bits.deBruijn32tab", "math/bits.deBruijn64tab"], plainKeys := false, apart := false, laid := [("math/bits.deBruijn32tab", laid_math_bits_deBruijn32tab), ("math/bits.deBruijn64tab", laid_math_bits_deBruijn64tab), ("internal/strconv.uint64pow10", laid_internal_strconv_uint64pow10)], narrowed := true }
def FnExactUpsOfUptoSaid : Prop := fnExactUpsOfUptoRow.holds Tryz.pinned (OpenSpec.upto fnExactUpsOfSpec)

/-- 'laws.FnUps', WHERE WHAT IT READS IS OF BULK AT MOST 1048576: true; the input reads as it did. -/
def fnUpsUptoRow : OpenClaim := { program := "ytlapkmhemepcaaagreatdoor", sum := "345e1d405bee3ca45bb7f61b843f2198b59061682645c085234735f633e398e9", func := "loop.example/g00868/laws.FnUps", spec := "fnUps", unfollowed := true, recurses := true, named := ["internal/strconv.uint64pow10", "math/bits.deBruijn32tab", "math/bits.deBruijn64tab"], plainKeys := false, apart := false, laid := [("math/bits.deBruijn32tab", laid_math_bits_deBruijn32tab), ("math/bits.deBruijn64tab", laid_math_bits_deBruijn64tab), ("internal/strconv.uint64pow10", laid_internal_strconv_uint64pow10)], narrowed := true }
def FnUpsUptoSaid : Prop := fnUpsUptoRow.holds Tryz.pinned (OpenSpec.upto fnUpsSpec)

/-- 'laws.FnSwitch', WHERE WHAT IT READS IS OF BULK AT MOST 1048576: true; the input reads as it did. -/
def fnSwitchUptoRow : OpenClaim := { program := "ytlapkmhemepcaaagreatdoor", sum := "345e1d405bee3ca45bb7f61b843f2198b59061682645c085234735f633e398e9", func := "loop.example/g00868/laws.FnSwitch", spec := "fnSwitch", unfollowed := true, recurses := true, named := ["internal/strconv.uint64pow10", "math/bits.deBruijn32tab", "math/bits.deBruijn64tab"], plainKeys := false, apart := false, laid := [("math/bits.deBruijn32tab", laid_math_bits_deBruijn32tab), ("math/bits.deBruijn64tab", laid_math_bits_deBruijn64tab), ("internal/strconv.uint64pow10", laid_internal_strconv_uint64pow10)], narrowed := true }
def FnSwitchUptoSaid : Prop := fnSwitchUptoRow.holds Tryz.pinned (OpenSpec.upto fnSwitchSpec)

end Rows
end Go.Proofs.YtlapkmhemepcaaaGreatDoor
