/-
  NARROWER THAN 'FOR EVERY INPUT', by the rows' own cells (each row's printed sentence says how): WheelConstants: laid · WheelCases: laid · WheelFields: laid · WheelTogether: laid · WheelOrder: laid · WheelExact: laid · WheelCircuits: laid · WheelMore: laid · WheelClashes: laid · WheelMinimal: laid · WheelOne: laid.
  DERIVED. THE GIVEN ROWS OF THIS SEAT. 11 by the template 'for every input the law returns true; each argument reads behind the call as it read before'; 0 by the template 'total and deterministic' (their statements: YtgakfgedaipdmaaGreatDoorTotals.lean).
  GIVEN WITH THE SEED: the statements are not yours to turn. If you find one false, say at which input.
  Laid BY PROGRAM, IN A SANDBOX (cutbox-rows.mjs): the forced cells as the released guide's own fill.sh prints them over the translation e3dc0ef4ea8f44bb… (all of the seat's roots in one cut). By AI agents, Wed Nov 11 2026. No macro, syntax, notation, axiom, sorry.
-/
import Derived.Test.YtgakfgedaipdmaaGreatDoorChecked
import GoSem.Claim
import GoSem.ClaimJoined
import GoSem.ClaimMapViews
import Derived.JoinedTies
import Derived.KernelRfl
namespace Go.Proofs.YtgakfgedaipdmaaGreatDoor
/- THE CELL 'sum', in the pinned program and in every row, IS THE sha256 OF THE DUMP (.gsa) THAT YtgakfgedaipdmaaGreatDoorProg.lean LOADS. Nothing in Lean hashes anything: it is a label: what it is worth is what the hold of that sum in a sandbox is worth. -/
noncomputable def Tryz.pinned : Pinned := { name := "ytgakfgedaipdmaagreatdoor", sum := "e3dc0ef4ea8f44bbe92e48b33d67e24903c235aa12ce0b28d19bd8d23c51a210", checked := Tryz.checked }
namespace Rows
def none {H : Type} : Left H := { results := [], args := [] }

/- WHAT THE LISTED PACKAGE-LEVEL VARIABLES READ AS WHEN THE CALL BEGINS. Each datum BY PROGRAM (the guide's laid-datum.mjs) off the statement by which the dump's own 'gosem.cut.vars' lays the variable. In a bare row this is a premise. The card (YtgakfgedaipdmaaGreatDoorCards.lean) ties it to the program's text. -/
def laid_math_bits_deBruijn32tab {H : Type} : DataW H := .agg [.lit (.int .u8 0), .lit (.int .u8 1), .lit (.int .u8 28), .lit (.int .u8 2), .lit (.int .u8 29), .lit (.int .u8 14), .lit (.int .u8 24), .lit (.int .u8 3), .lit (.int .u8 30), .lit (.int .u8 22), .lit (.int .u8 20), .lit (.int .u8 15), .lit (.int .u8 25), .lit (.int .u8 17), .lit (.int .u8 4), .lit (.int .u8 8), .lit (.int .u8 31), .lit (.int .u8 27), .lit (.int .u8 13), .lit (.int .u8 23), .lit (.int .u8 21), .lit (.int .u8 19), .lit (.int .u8 16), .lit (.int .u8 7), .lit (.int .u8 26), .lit (.int .u8 12), .lit (.int .u8 18), .lit (.int .u8 6), .lit (.int .u8 11), .lit (.int .u8 5), .lit (.int .u8 10), .lit (.int .u8 9)]
def laid_math_bits_deBruijn64tab {H : Type} : DataW H := .agg [.lit (.int .u8 0), .lit (.int .u8 1), .lit (.int .u8 56), .lit (.int .u8 2), .lit (.int .u8 57), .lit (.int .u8 49), .lit (.int .u8 28), .lit (.int .u8 3), .lit (.int .u8 61), .lit (.int .u8 58), .lit (.int .u8 42), .lit (.int .u8 50), .lit (.int .u8 38), .lit (.int .u8 29), .lit (.int .u8 17), .lit (.int .u8 4), .lit (.int .u8 62), .lit (.int .u8 47), .lit (.int .u8 59), .lit (.int .u8 36), .lit (.int .u8 45), .lit (.int .u8 43), .lit (.int .u8 51), .lit (.int .u8 22), .lit (.int .u8 53), .lit (.int .u8 39), .lit (.int .u8 33), .lit (.int .u8 30), .lit (.int .u8 24), .lit (.int .u8 18), .lit (.int .u8 12), .lit (.int .u8 5), .lit (.int .u8 63), .lit (.int .u8 55), .lit (.int .u8 48), .lit (.int .u8 27), .lit (.int .u8 60), .lit (.int .u8 41), .lit (.int .u8 37), .lit (.int .u8 16), .lit (.int .u8 46), .lit (.int .u8 35), .lit (.int .u8 44), .lit (.int .u8 21), .lit (.int .u8 52), .lit (.int .u8 32), .lit (.int .u8 23), .lit (.int .u8 11), .lit (.int .u8 54), .lit (.int .u8 26), .lit (.int .u8 40), .lit (.int .u8 15), .lit (.int .u8 34), .lit (.int .u8 20), .lit (.int .u8 31), .lit (.int .u8 10), .lit (.int .u8 25), .lit (.int .u8 14), .lit (.int .u8 19), .lit (.int .u8 9), .lit (.int .u8 13), .lit (.int .u8 8), .lit (.int .u8 7), .lit (.int .u8 6)]
def laid_internal_strconv_uint64pow10 {H : Type} : DataW H := .agg [.lit (.int .u64 1), .lit (.int .u64 10), .lit (.int .u64 100), .lit (.int .u64 1000), .lit (.int .u64 10000), .lit (.int .u64 100000), .lit (.int .u64 1000000), .lit (.int .u64 10000000), .lit (.int .u64 100000000), .lit (.int .u64 1000000000), .lit (.int .u64 10000000000), .lit (.int .u64 100000000000), .lit (.int .u64 1000000000000), .lit (.int .u64 10000000000000), .lit (.int .u64 100000000000000), .lit (.int .u64 1000000000000000), .lit (.int .u64 10000000000000000), .lit (.int .u64 100000000000000000), .lit (.int .u64 1000000000000000000), .lit (.int .u64 10000000000000000000)]

/-- 'acreagelaw05.WheelConstants': WHATEVER THE INPUT: true; the input reads as it did. -/
def wheelConstantsSpec : ChangeSpec := { name := "wheelConstants", fn := fun _ => fun
  | [d1, d2] => { results := [.lit (.bool true)], args := [d1, d2] }
  | _ => none }
def wheelConstantsRow : OpenClaim := { program := "ytgakfgedaipdmaagreatdoor", sum := "e3dc0ef4ea8f44bbe92e48b33d67e24903c235aa12ce0b28d19bd8d23c51a210", func := "acreage/acreagelaw05.WheelConstants", spec := "wheelConstants", unfollowed := true, recurses := true, named := ["internal/strconv.uint64pow10", "math/bits.deBruijn32tab", "math/bits.deBruijn64tab"], apart := false, laid := [("math/bits.deBruijn32tab", laid_math_bits_deBruijn32tab), ("math/bits.deBruijn64tab", laid_math_bits_deBruijn64tab), ("internal/strconv.uint64pow10", laid_internal_strconv_uint64pow10)] }
def WheelConstantsSaid : Prop := wheelConstantsRow.holds Tryz.pinned (OpenSpec.ofChange wheelConstantsSpec)

/-- ITS FALSE NEIGHBOUR: 'it returns false'. Refute it at one input. -/
def wheelConstantsWrong : ChangeSpec := { name := "wheelConstants", fn := fun _ => fun
  | [d1, d2] => { results := [.lit (.bool false)], args := [d1, d2] }
  | _ => none }
def WheelConstantsWrongFalsely : Prop := wheelConstantsRow.holds Tryz.pinned (OpenSpec.ofChange wheelConstantsWrong)

/-- 'acreagelaw05.WheelCases': WHATEVER THE INPUT: true; the input reads as it did. -/
def wheelCasesSpec : ChangeSpec := { name := "wheelCases", fn := fun _ => fun
  | [d1, d2, d3] => { results := [.lit (.bool true)], args := [d1, d2, d3] }
  | _ => none }
def wheelCasesRow : OpenClaim := { program := "ytgakfgedaipdmaagreatdoor", sum := "e3dc0ef4ea8f44bbe92e48b33d67e24903c235aa12ce0b28d19bd8d23c51a210", func := "acreage/acreagelaw05.WheelCases", spec := "wheelCases", unfollowed := true, recurses := true, named := ["internal/strconv.uint64pow10", "math/bits.deBruijn32tab", "math/bits.deBruijn64tab"], apart := false, laid := [("math/bits.deBruijn32tab", laid_math_bits_deBruijn32tab), ("math/bits.deBruijn64tab", laid_math_bits_deBruijn64tab), ("internal/strconv.uint64pow10", laid_internal_strconv_uint64pow10)] }
def WheelCasesSaid : Prop := wheelCasesRow.holds Tryz.pinned (OpenSpec.ofChange wheelCasesSpec)

/-- ITS FALSE NEIGHBOUR: 'it returns false'. Refute it at one input. -/
def wheelCasesWrong : ChangeSpec := { name := "wheelCases", fn := fun _ => fun
  | [d1, d2, d3] => { results := [.lit (.bool false)], args := [d1, d2, d3] }
  | _ => none }
def WheelCasesWrongFalsely : Prop := wheelCasesRow.holds Tryz.pinned (OpenSpec.ofChange wheelCasesWrong)

/-- 'acreagelaw05.WheelFields': WHATEVER THE INPUT: true; the input reads as it did. -/
def wheelFieldsSpec : ChangeSpec := { name := "wheelFields", fn := fun _ => fun
  | [d1, d2, d3] => { results := [.lit (.bool true)], args := [d1, d2, d3] }
  | _ => none }
def wheelFieldsRow : OpenClaim := { program := "ytgakfgedaipdmaagreatdoor", sum := "e3dc0ef4ea8f44bbe92e48b33d67e24903c235aa12ce0b28d19bd8d23c51a210", func := "acreage/acreagelaw05.WheelFields", spec := "wheelFields", unfollowed := true, recurses := true, named := ["internal/strconv.uint64pow10", "math/bits.deBruijn32tab", "math/bits.deBruijn64tab"], apart := false, laid := [("math/bits.deBruijn32tab", laid_math_bits_deBruijn32tab), ("math/bits.deBruijn64tab", laid_math_bits_deBruijn64tab), ("internal/strconv.uint64pow10", laid_internal_strconv_uint64pow10)] }
def WheelFieldsSaid : Prop := wheelFieldsRow.holds Tryz.pinned (OpenSpec.ofChange wheelFieldsSpec)

/-- ITS FALSE NEIGHBOUR: 'it returns false'. Refute it at one input. -/
def wheelFieldsWrong : ChangeSpec := { name := "wheelFields", fn := fun _ => fun
  | [d1, d2, d3] => { results := [.lit (.bool false)], args := [d1, d2, d3] }
  | _ => none }
def WheelFieldsWrongFalsely : Prop := wheelFieldsRow.holds Tryz.pinned (OpenSpec.ofChange wheelFieldsWrong)

/-- 'acreagelaw05.WheelTogether': WHATEVER THE INPUT: true; the input reads as it did. -/
def wheelTogetherSpec : ChangeSpec := { name := "wheelTogether", fn := fun _ => fun
  | [d1, d2, d3] => { results := [.lit (.bool true)], args := [d1, d2, d3] }
  | _ => none }
def wheelTogetherRow : OpenClaim := { program := "ytgakfgedaipdmaagreatdoor", sum := "e3dc0ef4ea8f44bbe92e48b33d67e24903c235aa12ce0b28d19bd8d23c51a210", func := "acreage/acreagelaw05.WheelTogether", spec := "wheelTogether", unfollowed := true, recurses := true, named := ["internal/strconv.uint64pow10", "math/bits.deBruijn32tab", "math/bits.deBruijn64tab"], apart := false, laid := [("math/bits.deBruijn32tab", laid_math_bits_deBruijn32tab), ("math/bits.deBruijn64tab", laid_math_bits_deBruijn64tab), ("internal/strconv.uint64pow10", laid_internal_strconv_uint64pow10)] }
def WheelTogetherSaid : Prop := wheelTogetherRow.holds Tryz.pinned (OpenSpec.ofChange wheelTogetherSpec)

/-- ITS FALSE NEIGHBOUR: 'it returns false'. Refute it at one input. -/
def wheelTogetherWrong : ChangeSpec := { name := "wheelTogether", fn := fun _ => fun
  | [d1, d2, d3] => { results := [.lit (.bool false)], args := [d1, d2, d3] }
  | _ => none }
def WheelTogetherWrongFalsely : Prop := wheelTogetherRow.holds Tryz.pinned (OpenSpec.ofChange wheelTogetherWrong)

/-- 'acreagelaw05.WheelOrder': WHATEVER THE INPUT: true; the input reads as it did. -/
def wheelOrderSpec : ChangeSpec := { name := "wheelOrder", fn := fun _ => fun
  | [d1, d2, d3] => { results := [.lit (.bool true)], args := [d1, d2, d3] }
  | _ => none }
def wheelOrderRow : OpenClaim := { program := "ytgakfgedaipdmaagreatdoor", sum := "e3dc0ef4ea8f44bbe92e48b33d67e24903c235aa12ce0b28d19bd8d23c51a210", func := "acreage/acreagelaw05.WheelOrder", spec := "wheelOrder", unfollowed := true, recurses := true, named := ["internal/strconv.uint64pow10", "math/bits.deBruijn32tab", "math/bits.deBruijn64tab"], apart := false, laid := [("math/bits.deBruijn32tab", laid_math_bits_deBruijn32tab), ("math/bits.deBruijn64tab", laid_math_bits_deBruijn64tab), ("internal/strconv.uint64pow10", laid_internal_strconv_uint64pow10)] }
def WheelOrderSaid : Prop := wheelOrderRow.holds Tryz.pinned (OpenSpec.ofChange wheelOrderSpec)

/-- ITS FALSE NEIGHBOUR: 'it returns false'. Refute it at one input. -/
def wheelOrderWrong : ChangeSpec := { name := "wheelOrder", fn := fun _ => fun
  | [d1, d2, d3] => { results := [.lit (.bool false)], args := [d1, d2, d3] }
  | _ => none }
def WheelOrderWrongFalsely : Prop := wheelOrderRow.holds Tryz.pinned (OpenSpec.ofChange wheelOrderWrong)

/-- 'acreagelaw05.WheelExact': WHATEVER THE INPUT: true; the input reads as it did. -/
def wheelExactSpec : ChangeSpec := { name := "wheelExact", fn := fun _ => fun
  | [d1, d2, d3, d4, d5] => { results := [.lit (.bool true)], args := [d1, d2, d3, d4, d5] }
  | _ => none }
def wheelExactRow : OpenClaim := { program := "ytgakfgedaipdmaagreatdoor", sum := "e3dc0ef4ea8f44bbe92e48b33d67e24903c235aa12ce0b28d19bd8d23c51a210", func := "acreage/acreagelaw05.WheelExact", spec := "wheelExact", unfollowed := true, recurses := true, named := ["internal/strconv.uint64pow10", "math/bits.deBruijn32tab", "math/bits.deBruijn64tab"], apart := false, laid := [("math/bits.deBruijn32tab", laid_math_bits_deBruijn32tab), ("math/bits.deBruijn64tab", laid_math_bits_deBruijn64tab), ("internal/strconv.uint64pow10", laid_internal_strconv_uint64pow10)] }
def WheelExactSaid : Prop := wheelExactRow.holds Tryz.pinned (OpenSpec.ofChange wheelExactSpec)

/-- ITS FALSE NEIGHBOUR: 'it returns false'. Refute it at one input. -/
def wheelExactWrong : ChangeSpec := { name := "wheelExact", fn := fun _ => fun
  | [d1, d2, d3, d4, d5] => { results := [.lit (.bool false)], args := [d1, d2, d3, d4, d5] }
  | _ => none }
def WheelExactWrongFalsely : Prop := wheelExactRow.holds Tryz.pinned (OpenSpec.ofChange wheelExactWrong)

/-- 'acreagelaw05.WheelCircuits': WHATEVER THE INPUT: true; the input reads as it did. -/
def wheelCircuitsSpec : ChangeSpec := { name := "wheelCircuits", fn := fun _ => fun
  | [d1, d2, d3, d4, d5] => { results := [.lit (.bool true)], args := [d1, d2, d3, d4, d5] }
  | _ => none }
def wheelCircuitsRow : OpenClaim := { program := "ytgakfgedaipdmaagreatdoor", sum := "e3dc0ef4ea8f44bbe92e48b33d67e24903c235aa12ce0b28d19bd8d23c51a210", func := "acreage/acreagelaw05.WheelCircuits", spec := "wheelCircuits", unfollowed := true, recurses := true, named := ["internal/strconv.uint64pow10", "math/bits.deBruijn32tab", "math/bits.deBruijn64tab"], apart := false, laid := [("math/bits.deBruijn32tab", laid_math_bits_deBruijn32tab), ("math/bits.deBruijn64tab", laid_math_bits_deBruijn64tab), ("internal/strconv.uint64pow10", laid_internal_strconv_uint64pow10)] }
def WheelCircuitsSaid : Prop := wheelCircuitsRow.holds Tryz.pinned (OpenSpec.ofChange wheelCircuitsSpec)

/-- ITS FALSE NEIGHBOUR: 'it returns false'. Refute it at one input. -/
def wheelCircuitsWrong : ChangeSpec := { name := "wheelCircuits", fn := fun _ => fun
  | [d1, d2, d3, d4, d5] => { results := [.lit (.bool false)], args := [d1, d2, d3, d4, d5] }
  | _ => none }
def WheelCircuitsWrongFalsely : Prop := wheelCircuitsRow.holds Tryz.pinned (OpenSpec.ofChange wheelCircuitsWrong)

/-- 'acreagelaw05.WheelMore': WHATEVER THE INPUT: true; the input reads as it did. -/
def wheelMoreSpec : ChangeSpec := { name := "wheelMore", fn := fun _ => fun
  | [d1, d2, d3, d4, d5, d6] => { results := [.lit (.bool true)], args := [d1, d2, d3, d4, d5, d6] }
  | _ => none }
def wheelMoreRow : OpenClaim := { program := "ytgakfgedaipdmaagreatdoor", sum := "e3dc0ef4ea8f44bbe92e48b33d67e24903c235aa12ce0b28d19bd8d23c51a210", func := "acreage/acreagelaw05.WheelMore", spec := "wheelMore", unfollowed := true, recurses := true, named := ["internal/strconv.uint64pow10", "math/bits.deBruijn32tab", "math/bits.deBruijn64tab"], apart := false, laid := [("math/bits.deBruijn32tab", laid_math_bits_deBruijn32tab), ("math/bits.deBruijn64tab", laid_math_bits_deBruijn64tab), ("internal/strconv.uint64pow10", laid_internal_strconv_uint64pow10)] }
def WheelMoreSaid : Prop := wheelMoreRow.holds Tryz.pinned (OpenSpec.ofChange wheelMoreSpec)

/-- ITS FALSE NEIGHBOUR: 'it returns false'. Refute it at one input. -/
def wheelMoreWrong : ChangeSpec := { name := "wheelMore", fn := fun _ => fun
  | [d1, d2, d3, d4, d5, d6] => { results := [.lit (.bool false)], args := [d1, d2, d3, d4, d5, d6] }
  | _ => none }
def WheelMoreWrongFalsely : Prop := wheelMoreRow.holds Tryz.pinned (OpenSpec.ofChange wheelMoreWrong)

/-- 'acreagelaw05.WheelClashes': WHATEVER THE INPUT: true; the input reads as it did. -/
def wheelClashesSpec : ChangeSpec := { name := "wheelClashes", fn := fun _ => fun
  | [d1, d2, d3] => { results := [.lit (.bool true)], args := [d1, d2, d3] }
  | _ => none }
def wheelClashesRow : OpenClaim := { program := "ytgakfgedaipdmaagreatdoor", sum := "e3dc0ef4ea8f44bbe92e48b33d67e24903c235aa12ce0b28d19bd8d23c51a210", func := "acreage/acreagelaw05.WheelClashes", spec := "wheelClashes", unfollowed := true, recurses := true, named := ["internal/strconv.uint64pow10", "math/bits.deBruijn32tab", "math/bits.deBruijn64tab"], apart := false, laid := [("math/bits.deBruijn32tab", laid_math_bits_deBruijn32tab), ("math/bits.deBruijn64tab", laid_math_bits_deBruijn64tab), ("internal/strconv.uint64pow10", laid_internal_strconv_uint64pow10)] }
def WheelClashesSaid : Prop := wheelClashesRow.holds Tryz.pinned (OpenSpec.ofChange wheelClashesSpec)

/-- ITS FALSE NEIGHBOUR: 'it returns false'. Refute it at one input. -/
def wheelClashesWrong : ChangeSpec := { name := "wheelClashes", fn := fun _ => fun
  | [d1, d2, d3] => { results := [.lit (.bool false)], args := [d1, d2, d3] }
  | _ => none }
def WheelClashesWrongFalsely : Prop := wheelClashesRow.holds Tryz.pinned (OpenSpec.ofChange wheelClashesWrong)

/-- 'acreagelaw05.WheelMinimal': WHATEVER THE INPUT: true; the input reads as it did. -/
def wheelMinimalSpec : ChangeSpec := { name := "wheelMinimal", fn := fun _ => fun
  | [d] => { results := [.lit (.bool true)], args := [d] }
  | _ => none }
def wheelMinimalRow : OpenClaim := { program := "ytgakfgedaipdmaagreatdoor", sum := "e3dc0ef4ea8f44bbe92e48b33d67e24903c235aa12ce0b28d19bd8d23c51a210", func := "acreage/acreagelaw05.WheelMinimal", spec := "wheelMinimal", unfollowed := true, recurses := true, named := ["internal/strconv.uint64pow10", "math/bits.deBruijn32tab", "math/bits.deBruijn64tab"], apart := false, laid := [("math/bits.deBruijn32tab", laid_math_bits_deBruijn32tab), ("math/bits.deBruijn64tab", laid_math_bits_deBruijn64tab), ("internal/strconv.uint64pow10", laid_internal_strconv_uint64pow10)] }
def WheelMinimalSaid : Prop := wheelMinimalRow.holds Tryz.pinned (OpenSpec.ofChange wheelMinimalSpec)

/-- ITS FALSE NEIGHBOUR: 'it returns false'. Refute it at one input. -/
def wheelMinimalWrong : ChangeSpec := { name := "wheelMinimal", fn := fun _ => fun
  | [d] => { results := [.lit (.bool false)], args := [d] }
  | _ => none }
def WheelMinimalWrongFalsely : Prop := wheelMinimalRow.holds Tryz.pinned (OpenSpec.ofChange wheelMinimalWrong)

/-- 'acreagelaw05.WheelOne': WHATEVER THE INPUT: true; the input reads as it did. -/
def wheelOneSpec : ChangeSpec := { name := "wheelOne", fn := fun _ => fun
  | [d1, d2, d3, d4] => { results := [.lit (.bool true)], args := [d1, d2, d3, d4] }
  | _ => none }
def wheelOneRow : OpenClaim := { program := "ytgakfgedaipdmaagreatdoor", sum := "e3dc0ef4ea8f44bbe92e48b33d67e24903c235aa12ce0b28d19bd8d23c51a210", func := "acreage/acreagelaw05.WheelOne", spec := "wheelOne", unfollowed := true, recurses := true, named := ["internal/strconv.uint64pow10", "math/bits.deBruijn32tab", "math/bits.deBruijn64tab"], apart := false, laid := [("math/bits.deBruijn32tab", laid_math_bits_deBruijn32tab), ("math/bits.deBruijn64tab", laid_math_bits_deBruijn64tab), ("internal/strconv.uint64pow10", laid_internal_strconv_uint64pow10)] }
def WheelOneSaid : Prop := wheelOneRow.holds Tryz.pinned (OpenSpec.ofChange wheelOneSpec)

/-- ITS FALSE NEIGHBOUR: 'it returns false'. Refute it at one input. -/
def wheelOneWrong : ChangeSpec := { name := "wheelOne", fn := fun _ => fun
  | [d1, d2, d3, d4] => { results := [.lit (.bool false)], args := [d1, d2, d3, d4] }
  | _ => none }
def WheelOneWrongFalsely : Prop := wheelOneRow.holds Tryz.pinned (OpenSpec.ofChange wheelOneWrong)

/- THE SECOND FORM. 'bulk': how many values and letters a reading holds, each counted each time it is reached (what is shared counts as often as it is met; a slice's spare places count too). A statement '..UptoSaid' is the law's where the arguments, and the package variables that the reading takes, are together of bulk at most 1048576: NARROWER than '..Said'. Prove '..Said' where nothing that the law and all that it calls make is longer than what came in: it says more and counts as full. Else prove '..UptoSaid'. A law counts once. -/
mutual
def uptoBulk {H : Type} : DataW H → Nat
  | .lit (.string bytes) => bytes.length + 1
  | .lit _ => 1
  | .nil => 1
  | .ptr d => uptoBulk d + 1
  | .slice elems spare => uptoBulkAll elems + uptoBulkAll spare + 1
  | .agg parts => uptoBulkAll parts + 1
  | .iface _ d => uptoBulk d + 1
  | .map entries => uptoBulkEntries entries + 1
  | .held _ => 1
def uptoBulkAll {H : Type} : List (DataW H) → Nat
  | [] => 0
  | d :: r => uptoBulk d + uptoBulkAll r
def uptoBulkEntries {H : Type} : List (Lit × DataW H) → Nat
  | [] => 0
  | x :: r => uptoBulkEntry x + uptoBulkEntries r
def uptoBulkEntry {H : Type} : Lit × DataW H → Nat
  | (.string bytes, d) => bytes.length + uptoBulk d + 1
  | (_, d) => uptoBulk d + 1
 end
def uptoSmall : (H : Type) → List (DataW H) → Bool := fun _ ds => decide (uptoBulkAll ds ≤ 1048576)
def OpenSpec.upto (s : _root_.Go.ChangeSpec) : _root_.Go.OpenSpec := { _root_.Go.OpenSpec.ofChange s with cond := some uptoSmall }

/-- 'acreagelaw05.WheelConstants', WHERE WHAT IT READS IS OF BULK AT MOST 1048576: true; the input reads as it did. -/
def wheelConstantsUptoRow : OpenClaim := { program := "ytgakfgedaipdmaagreatdoor", sum := "e3dc0ef4ea8f44bbe92e48b33d67e24903c235aa12ce0b28d19bd8d23c51a210", func := "acreage/acreagelaw05.WheelConstants", spec := "wheelConstants", unfollowed := true, recurses := true, named := ["internal/strconv.uint64pow10", "math/bits.deBruijn32tab", "math/bits.deBruijn64tab"], apart := false, laid := [("math/bits.deBruijn32tab", laid_math_bits_deBruijn32tab), ("math/bits.deBruijn64tab", laid_math_bits_deBruijn64tab), ("internal/strconv.uint64pow10", laid_internal_strconv_uint64pow10)], narrowed := true }
def WheelConstantsUptoSaid : Prop := wheelConstantsUptoRow.holds Tryz.pinned (OpenSpec.upto wheelConstantsSpec)

/-- 'acreagelaw05.WheelCases', WHERE WHAT IT READS IS OF BULK AT MOST 1048576: true; the input reads as it did. -/
def wheelCasesUptoRow : OpenClaim := { program := "ytgakfgedaipdmaagreatdoor", sum := "e3dc0ef4ea8f44bbe92e48b33d67e24903c235aa12ce0b28d19bd8d23c51a210", func := "acreage/acreagelaw05.WheelCases", spec := "wheelCases", unfollowed := true, recurses := true, named := ["internal/strconv.uint64pow10", "math/bits.deBruijn32tab", "math/bits.deBruijn64tab"], apart := false, laid := [("math/bits.deBruijn32tab", laid_math_bits_deBruijn32tab), ("math/bits.deBruijn64tab", laid_math_bits_deBruijn64tab), ("internal/strconv.uint64pow10", laid_internal_strconv_uint64pow10)], narrowed := true }
def WheelCasesUptoSaid : Prop := wheelCasesUptoRow.holds Tryz.pinned (OpenSpec.upto wheelCasesSpec)

/-- 'acreagelaw05.WheelFields', WHERE WHAT IT READS IS OF BULK AT MOST 1048576: true; the input reads as it did. -/
def wheelFieldsUptoRow : OpenClaim := { program := "ytgakfgedaipdmaagreatdoor", sum := "e3dc0ef4ea8f44bbe92e48b33d67e24903c235aa12ce0b28d19bd8d23c51a210", func := "acreage/acreagelaw05.WheelFields", spec := "wheelFields", unfollowed := true, recurses := true, named := ["internal/strconv.uint64pow10", "math/bits.deBruijn32tab", "math/bits.deBruijn64tab"], apart := false, laid := [("math/bits.deBruijn32tab", laid_math_bits_deBruijn32tab), ("math/bits.deBruijn64tab", laid_math_bits_deBruijn64tab), ("internal/strconv.uint64pow10", laid_internal_strconv_uint64pow10)], narrowed := true }
def WheelFieldsUptoSaid : Prop := wheelFieldsUptoRow.holds Tryz.pinned (OpenSpec.upto wheelFieldsSpec)

/-- 'acreagelaw05.WheelTogether', WHERE WHAT IT READS IS OF BULK AT MOST 1048576: true; the input reads as it did. -/
def wheelTogetherUptoRow : OpenClaim := { program := "ytgakfgedaipdmaagreatdoor", sum := "e3dc0ef4ea8f44bbe92e48b33d67e24903c235aa12ce0b28d19bd8d23c51a210", func := "acreage/acreagelaw05.WheelTogether", spec := "wheelTogether", unfollowed := true, recurses := true, named := ["internal/strconv.uint64pow10", "math/bits.deBruijn32tab", "math/bits.deBruijn64tab"], apart := false, laid := [("math/bits.deBruijn32tab", laid_math_bits_deBruijn32tab), ("math/bits.deBruijn64tab", laid_math_bits_deBruijn64tab), ("internal/strconv.uint64pow10", laid_internal_strconv_uint64pow10)], narrowed := true }
def WheelTogetherUptoSaid : Prop := wheelTogetherUptoRow.holds Tryz.pinned (OpenSpec.upto wheelTogetherSpec)

/-- 'acreagelaw05.WheelOrder', WHERE WHAT IT READS IS OF BULK AT MOST 1048576: true; the input reads as it did. -/
def wheelOrderUptoRow : OpenClaim := { program := "ytgakfgedaipdmaagreatdoor", sum := "e3dc0ef4ea8f44bbe92e48b33d67e24903c235aa12ce0b28d19bd8d23c51a210", func := "acreage/acreagelaw05.WheelOrder", spec := "wheelOrder", unfollowed := true, recurses := true, named := ["internal/strconv.uint64pow10", "math/bits.deBruijn32tab", "math/bits.deBruijn64tab"], apart := false, laid := [("math/bits.deBruijn32tab", laid_math_bits_deBruijn32tab), ("math/bits.deBruijn64tab", laid_math_bits_deBruijn64tab), ("internal/strconv.uint64pow10", laid_internal_strconv_uint64pow10)], narrowed := true }
def WheelOrderUptoSaid : Prop := wheelOrderUptoRow.holds Tryz.pinned (OpenSpec.upto wheelOrderSpec)

/-- 'acreagelaw05.WheelExact', WHERE WHAT IT READS IS OF BULK AT MOST 1048576: true; the input reads as it did. -/
def wheelExactUptoRow : OpenClaim := { program := "ytgakfgedaipdmaagreatdoor", sum := "e3dc0ef4ea8f44bbe92e48b33d67e24903c235aa12ce0b28d19bd8d23c51a210", func := "acreage/acreagelaw05.WheelExact", spec := "wheelExact", unfollowed := true, recurses := true, named := ["internal/strconv.uint64pow10", "math/bits.deBruijn32tab", "math/bits.deBruijn64tab"], apart := false, laid := [("math/bits.deBruijn32tab", laid_math_bits_deBruijn32tab), ("math/bits.deBruijn64tab", laid_math_bits_deBruijn64tab), ("internal/strconv.uint64pow10", laid_internal_strconv_uint64pow10)], narrowed := true }
def WheelExactUptoSaid : Prop := wheelExactUptoRow.holds Tryz.pinned (OpenSpec.upto wheelExactSpec)

/-- 'acreagelaw05.WheelCircuits', WHERE WHAT IT READS IS OF BULK AT MOST 1048576: true; the input reads as it did. -/
def wheelCircuitsUptoRow : OpenClaim := { program := "ytgakfgedaipdmaagreatdoor", sum := "e3dc0ef4ea8f44bbe92e48b33d67e24903c235aa12ce0b28d19bd8d23c51a210", func := "acreage/acreagelaw05.WheelCircuits", spec := "wheelCircuits", unfollowed := true, recurses := true, named := ["internal/strconv.uint64pow10", "math/bits.deBruijn32tab", "math/bits.deBruijn64tab"], apart := false, laid := [("math/bits.deBruijn32tab", laid_math_bits_deBruijn32tab), ("math/bits.deBruijn64tab", laid_math_bits_deBruijn64tab), ("internal/strconv.uint64pow10", laid_internal_strconv_uint64pow10)], narrowed := true }
def WheelCircuitsUptoSaid : Prop := wheelCircuitsUptoRow.holds Tryz.pinned (OpenSpec.upto wheelCircuitsSpec)

/-- 'acreagelaw05.WheelMore', WHERE WHAT IT READS IS OF BULK AT MOST 1048576: true; the input reads as it did. -/
def wheelMoreUptoRow : OpenClaim := { program := "ytgakfgedaipdmaagreatdoor", sum := "e3dc0ef4ea8f44bbe92e48b33d67e24903c235aa12ce0b28d19bd8d23c51a210", func := "acreage/acreagelaw05.WheelMore", spec := "wheelMore", unfollowed := true, recurses := true, named := ["internal/strconv.uint64pow10", "math/bits.deBruijn32tab", "math/bits.deBruijn64tab"], apart := false, laid := [("math/bits.deBruijn32tab", laid_math_bits_deBruijn32tab), ("math/bits.deBruijn64tab", laid_math_bits_deBruijn64tab), ("internal/strconv.uint64pow10", laid_internal_strconv_uint64pow10)], narrowed := true }
def WheelMoreUptoSaid : Prop := wheelMoreUptoRow.holds Tryz.pinned (OpenSpec.upto wheelMoreSpec)

/-- 'acreagelaw05.WheelClashes', WHERE WHAT IT READS IS OF BULK AT MOST 1048576: true; the input reads as it did. -/
def wheelClashesUptoRow : OpenClaim := { program := "ytgakfgedaipdmaagreatdoor", sum := "e3dc0ef4ea8f44bbe92e48b33d67e24903c235aa12ce0b28d19bd8d23c51a210", func := "acreage/acreagelaw05.WheelClashes", spec := "wheelClashes", unfollowed := true, recurses := true, named := ["internal/strconv.uint64pow10", "math/bits.deBruijn32tab", "math/bits.deBruijn64tab"], apart := false, laid := [("math/bits.deBruijn32tab", laid_math_bits_deBruijn32tab), ("math/bits.deBruijn64tab", laid_math_bits_deBruijn64tab), ("internal/strconv.uint64pow10", laid_internal_strconv_uint64pow10)], narrowed := true }
def WheelClashesUptoSaid : Prop := wheelClashesUptoRow.holds Tryz.pinned (OpenSpec.upto wheelClashesSpec)

/-- 'acreagelaw05.WheelMinimal', WHERE WHAT IT READS IS OF BULK AT MOST 1048576: true; the input reads as it did. -/
def wheelMinimalUptoRow : OpenClaim := { program := "ytgakfgedaipdmaagreatdoor", sum := "e3dc0ef4ea8f44bbe92e48b33d67e24903c235aa12ce0b28d19bd8d23c51a210", func := "acreage/acreagelaw05.WheelMinimal", spec := "wheelMinimal", unfollowed := true, recurses := true, named := ["internal/strconv.uint64pow10", "math/bits.deBruijn32tab", "math/bits.deBruijn64tab"], apart := false, laid := [("math/bits.deBruijn32tab", laid_math_bits_deBruijn32tab), ("math/bits.deBruijn64tab", laid_math_bits_deBruijn64tab), ("internal/strconv.uint64pow10", laid_internal_strconv_uint64pow10)], narrowed := true }
def WheelMinimalUptoSaid : Prop := wheelMinimalUptoRow.holds Tryz.pinned (OpenSpec.upto wheelMinimalSpec)

/-- 'acreagelaw05.WheelOne', WHERE WHAT IT READS IS OF BULK AT MOST 1048576: true; the input reads as it did. -/
def wheelOneUptoRow : OpenClaim := { program := "ytgakfgedaipdmaagreatdoor", sum := "e3dc0ef4ea8f44bbe92e48b33d67e24903c235aa12ce0b28d19bd8d23c51a210", func := "acreage/acreagelaw05.WheelOne", spec := "wheelOne", unfollowed := true, recurses := true, named := ["internal/strconv.uint64pow10", "math/bits.deBruijn32tab", "math/bits.deBruijn64tab"], apart := false, laid := [("math/bits.deBruijn32tab", laid_math_bits_deBruijn32tab), ("math/bits.deBruijn64tab", laid_math_bits_deBruijn64tab), ("internal/strconv.uint64pow10", laid_internal_strconv_uint64pow10)], narrowed := true }
def WheelOneUptoSaid : Prop := wheelOneUptoRow.holds Tryz.pinned (OpenSpec.upto wheelOneSpec)

end Rows
end Go.Proofs.YtgakfgedaipdmaaGreatDoor
