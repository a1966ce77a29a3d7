/-
  NARROWER THAN 'FOR EVERY INPUT', by the rows' own cells (each row's printed sentence says how): BignatMul: laid · BignatRing: laid · BignatDivMod: laid · BignatGCD: laid · BignatCompare: laid · BignatAdd: laid · BignatShift: laid · RationalOrder: laid · RationalPermille: laid · RationalNormalForm: laid · RationalArithmetic: laid · RationalField: laid · RationalProbabilities: laid · RationalLimits: laid · BignatDecimal: laid.
  DERIVED. THE GIVEN ROWS OF THIS SEAT. 15 by the template 'for every input the law returns true; each argument reads behind the call as it read before'; 0 by the template 'total and deterministic' (their statements: YtoakfjcejamoeaaDoorTotals.lean).
  GIVEN WITH THE SEED: the statements are not yours to turn. If you find one false, say at which input.
  Laid BY PROGRAM, IN A SANDBOX (cutbox-rows.mjs): the forced cells as the released guide's own fill.sh prints them over the translation 84b6e96892dfa8e3… (all of the seat's roots in one cut). By AI agents, Wed Nov 11 2026. No macro, syntax, notation, axiom, sorry.
-/
import Derived.Test.YtoakfjcejamoeaaDoorChecked
import GoSem.Claim
import GoSem.ClaimJoined
import GoSem.ClaimMapViews
import Derived.JoinedTies
import Derived.KernelRfl
namespace Go.Proofs.YtoakfjcejamoeaaDoor
/- THE CELL 'sum', in the pinned program and in every row, IS THE sha256 OF THE DUMP (.gsa) THAT YtoakfjcejamoeaaDoorProg.lean LOADS. Nothing in Lean hashes anything: it is a label: what it is worth is what the hold of that sum in a sandbox is worth. -/
noncomputable def Tryd.pinned : Pinned := { name := "ytoakfjcejamoeaadoor", sum := "84b6e96892dfa8e3fc654dbf5fd807d1f4fd625c7f50a4d82849c108df4d886a", checked := Tryd.checked }
namespace Rows
def none {H : Type} : Left H := { results := [], args := [] }

/- WHAT THE LISTED PACKAGE-LEVEL VARIABLES READ AS WHEN THE CALL BEGINS. Each datum BY PROGRAM (the guide's laid-datum.mjs) off the statement by which the dump's own 'gosem.cut.vars' lays the variable. In a bare row this is a premise. The card (YtoakfjcejamoeaaDoorCards.lean) ties it to the program's text. -/
def laid_math_bits_deBruijn32tab {H : Type} : DataW H := .agg [.lit (.int .u8 0), .lit (.int .u8 1), .lit (.int .u8 28), .lit (.int .u8 2), .lit (.int .u8 29), .lit (.int .u8 14), .lit (.int .u8 24), .lit (.int .u8 3), .lit (.int .u8 30), .lit (.int .u8 22), .lit (.int .u8 20), .lit (.int .u8 15), .lit (.int .u8 25), .lit (.int .u8 17), .lit (.int .u8 4), .lit (.int .u8 8), .lit (.int .u8 31), .lit (.int .u8 27), .lit (.int .u8 13), .lit (.int .u8 23), .lit (.int .u8 21), .lit (.int .u8 19), .lit (.int .u8 16), .lit (.int .u8 7), .lit (.int .u8 26), .lit (.int .u8 12), .lit (.int .u8 18), .lit (.int .u8 6), .lit (.int .u8 11), .lit (.int .u8 5), .lit (.int .u8 10), .lit (.int .u8 9)]
def laid_math_bits_deBruijn64tab {H : Type} : DataW H := .agg [.lit (.int .u8 0), .lit (.int .u8 1), .lit (.int .u8 56), .lit (.int .u8 2), .lit (.int .u8 57), .lit (.int .u8 49), .lit (.int .u8 28), .lit (.int .u8 3), .lit (.int .u8 61), .lit (.int .u8 58), .lit (.int .u8 42), .lit (.int .u8 50), .lit (.int .u8 38), .lit (.int .u8 29), .lit (.int .u8 17), .lit (.int .u8 4), .lit (.int .u8 62), .lit (.int .u8 47), .lit (.int .u8 59), .lit (.int .u8 36), .lit (.int .u8 45), .lit (.int .u8 43), .lit (.int .u8 51), .lit (.int .u8 22), .lit (.int .u8 53), .lit (.int .u8 39), .lit (.int .u8 33), .lit (.int .u8 30), .lit (.int .u8 24), .lit (.int .u8 18), .lit (.int .u8 12), .lit (.int .u8 5), .lit (.int .u8 63), .lit (.int .u8 55), .lit (.int .u8 48), .lit (.int .u8 27), .lit (.int .u8 60), .lit (.int .u8 41), .lit (.int .u8 37), .lit (.int .u8 16), .lit (.int .u8 46), .lit (.int .u8 35), .lit (.int .u8 44), .lit (.int .u8 21), .lit (.int .u8 52), .lit (.int .u8 32), .lit (.int .u8 23), .lit (.int .u8 11), .lit (.int .u8 54), .lit (.int .u8 26), .lit (.int .u8 40), .lit (.int .u8 15), .lit (.int .u8 34), .lit (.int .u8 20), .lit (.int .u8 31), .lit (.int .u8 10), .lit (.int .u8 25), .lit (.int .u8 14), .lit (.int .u8 19), .lit (.int .u8 9), .lit (.int .u8 13), .lit (.int .u8 8), .lit (.int .u8 7), .lit (.int .u8 6)]
def laid_internal_strconv_uint64pow10 {H : Type} : DataW H := .agg [.lit (.int .u64 1), .lit (.int .u64 10), .lit (.int .u64 100), .lit (.int .u64 1000), .lit (.int .u64 10000), .lit (.int .u64 100000), .lit (.int .u64 1000000), .lit (.int .u64 10000000), .lit (.int .u64 100000000), .lit (.int .u64 1000000000), .lit (.int .u64 10000000000), .lit (.int .u64 100000000000), .lit (.int .u64 1000000000000), .lit (.int .u64 10000000000000), .lit (.int .u64 100000000000000), .lit (.int .u64 1000000000000000), .lit (.int .u64 10000000000000000), .lit (.int .u64 100000000000000000), .lit (.int .u64 1000000000000000000), .lit (.int .u64 10000000000000000000)]
def laid_strconv_ErrRange {H : Type} : DataW H := .iface "*errors.errorString" (.ptr (.agg [.lit (.string [118, 97, 108, 117, 101, 32, 111, 117, 116, 32, 111, 102, 32, 114, 97, 110, 103, 101])]))
def laid_strconv_ErrSyntax {H : Type} : DataW H := .iface "*errors.errorString" (.ptr (.agg [.lit (.string [105, 110, 118, 97, 108, 105, 100, 32, 115, 121, 110, 116, 97, 120])]))

/-- 'lineagelaw03.BignatMul': WHATEVER THE INPUT: true; the input reads as it did. -/
def bignatMulSpec : ChangeSpec := { name := "bignatMul", fn := fun _ => fun
  | [d1, d2] => { results := [.lit (.bool true)], args := [d1, d2] }
  | _ => none }
def bignatMulRow : OpenClaim := { program := "ytoakfjcejamoeaadoor", sum := "84b6e96892dfa8e3fc654dbf5fd807d1f4fd625c7f50a4d82849c108df4d886a", func := "lineage/lineagelaw03.BignatMul", spec := "bignatMul", inPlace := ["internal/abi.NoEscape", "internal/bytealg.MakeNoZero"], unfollowed := true, recurses := true, named := ["internal/strconv.uint64pow10", "math/bits.deBruijn32tab", "math/bits.deBruijn64tab"], apart := false, laid := [("math/bits.deBruijn32tab", laid_math_bits_deBruijn32tab), ("math/bits.deBruijn64tab", laid_math_bits_deBruijn64tab), ("internal/strconv.uint64pow10", laid_internal_strconv_uint64pow10)] }
def BignatMulSaid : Prop := bignatMulRow.holds Tryd.pinned (OpenSpec.ofChange bignatMulSpec)

/-- ITS FALSE NEIGHBOUR: 'it returns false'. Refute it at one input. -/
def bignatMulWrong : ChangeSpec := { name := "bignatMul", fn := fun _ => fun
  | [d1, d2] => { results := [.lit (.bool false)], args := [d1, d2] }
  | _ => none }
def BignatMulWrongFalsely : Prop := bignatMulRow.holds Tryd.pinned (OpenSpec.ofChange bignatMulWrong)

/-- 'lineagelaw03.BignatRing': WHATEVER THE INPUT: true; the input reads as it did. -/
def bignatRingSpec : ChangeSpec := { name := "bignatRing", fn := fun _ => fun
  | [d1, d2, d3] => { results := [.lit (.bool true)], args := [d1, d2, d3] }
  | _ => none }
def bignatRingRow : OpenClaim := { program := "ytoakfjcejamoeaadoor", sum := "84b6e96892dfa8e3fc654dbf5fd807d1f4fd625c7f50a4d82849c108df4d886a", func := "lineage/lineagelaw03.BignatRing", spec := "bignatRing", inPlace := ["internal/abi.NoEscape", "internal/bytealg.MakeNoZero"], unfollowed := true, recurses := true, named := ["internal/strconv.uint64pow10", "math/bits.deBruijn32tab", "math/bits.deBruijn64tab"], apart := false, laid := [("math/bits.deBruijn32tab", laid_math_bits_deBruijn32tab), ("math/bits.deBruijn64tab", laid_math_bits_deBruijn64tab), ("internal/strconv.uint64pow10", laid_internal_strconv_uint64pow10)] }
def BignatRingSaid : Prop := bignatRingRow.holds Tryd.pinned (OpenSpec.ofChange bignatRingSpec)

/-- ITS FALSE NEIGHBOUR: 'it returns false'. Refute it at one input. -/
def bignatRingWrong : ChangeSpec := { name := "bignatRing", fn := fun _ => fun
  | [d1, d2, d3] => { results := [.lit (.bool false)], args := [d1, d2, d3] }
  | _ => none }
def BignatRingWrongFalsely : Prop := bignatRingRow.holds Tryd.pinned (OpenSpec.ofChange bignatRingWrong)

/-- 'lineagelaw03.BignatDivMod': WHATEVER THE INPUT: true; the input reads as it did. -/
def bignatDivModSpec : ChangeSpec := { name := "bignatDivMod", fn := fun _ => fun
  | [d1, d2] => { results := [.lit (.bool true)], args := [d1, d2] }
  | _ => none }
def bignatDivModRow : OpenClaim := { program := "ytoakfjcejamoeaadoor", sum := "84b6e96892dfa8e3fc654dbf5fd807d1f4fd625c7f50a4d82849c108df4d886a", func := "lineage/lineagelaw03.BignatDivMod", spec := "bignatDivMod", inPlace := ["internal/abi.NoEscape", "internal/bytealg.MakeNoZero"], unfollowed := true, recurses := true, named := ["internal/strconv.uint64pow10", "math/bits.deBruijn32tab", "math/bits.deBruijn64tab"], apart := false, laid := [("math/bits.deBruijn32tab", laid_math_bits_deBruijn32tab), ("math/bits.deBruijn64tab", laid_math_bits_deBruijn64tab), ("internal/strconv.uint64pow10", laid_internal_strconv_uint64pow10)] }
def BignatDivModSaid : Prop := bignatDivModRow.holds Tryd.pinned (OpenSpec.ofChange bignatDivModSpec)

/-- ITS FALSE NEIGHBOUR: 'it returns false'. Refute it at one input. -/
def bignatDivModWrong : ChangeSpec := { name := "bignatDivMod", fn := fun _ => fun
  | [d1, d2] => { results := [.lit (.bool false)], args := [d1, d2] }
  | _ => none }
def BignatDivModWrongFalsely : Prop := bignatDivModRow.holds Tryd.pinned (OpenSpec.ofChange bignatDivModWrong)

/-- 'lineagelaw03.BignatGCD': WHATEVER THE INPUT: true; the input reads as it did. -/
def bignatGCDSpec : ChangeSpec := { name := "bignatGCD", fn := fun _ => fun
  | [d1, d2, d3] => { results := [.lit (.bool true)], args := [d1, d2, d3] }
  | _ => none }
def bignatGCDRow : OpenClaim := { program := "ytoakfjcejamoeaadoor", sum := "84b6e96892dfa8e3fc654dbf5fd807d1f4fd625c7f50a4d82849c108df4d886a", func := "lineage/lineagelaw03.BignatGCD", spec := "bignatGCD", inPlace := ["internal/abi.NoEscape", "internal/bytealg.MakeNoZero"], unfollowed := true, recurses := true, named := ["internal/strconv.uint64pow10", "math/bits.deBruijn32tab", "math/bits.deBruijn64tab"], apart := false, laid := [("math/bits.deBruijn32tab", laid_math_bits_deBruijn32tab), ("math/bits.deBruijn64tab", laid_math_bits_deBruijn64tab), ("internal/strconv.uint64pow10", laid_internal_strconv_uint64pow10)] }
def BignatGCDSaid : Prop := bignatGCDRow.holds Tryd.pinned (OpenSpec.ofChange bignatGCDSpec)

/-- ITS FALSE NEIGHBOUR: 'it returns false'. Refute it at one input. -/
def bignatGCDWrong : ChangeSpec := { name := "bignatGCD", fn := fun _ => fun
  | [d1, d2, d3] => { results := [.lit (.bool false)], args := [d1, d2, d3] }
  | _ => none }
def BignatGCDWrongFalsely : Prop := bignatGCDRow.holds Tryd.pinned (OpenSpec.ofChange bignatGCDWrong)

/-- 'lineagelaw03.BignatCompare': WHATEVER THE INPUT: true; the input reads as it did. -/
def bignatCompareSpec : ChangeSpec := { name := "bignatCompare", fn := fun _ => fun
  | [d1, d2, d3] => { results := [.lit (.bool true)], args := [d1, d2, d3] }
  | _ => none }
def bignatCompareRow : OpenClaim := { program := "ytoakfjcejamoeaadoor", sum := "84b6e96892dfa8e3fc654dbf5fd807d1f4fd625c7f50a4d82849c108df4d886a", func := "lineage/lineagelaw03.BignatCompare", spec := "bignatCompare", inPlace := ["internal/abi.NoEscape", "internal/bytealg.MakeNoZero"], unfollowed := true, recurses := true, named := ["internal/strconv.uint64pow10", "math/bits.deBruijn32tab", "math/bits.deBruijn64tab"], apart := false, laid := [("math/bits.deBruijn32tab", laid_math_bits_deBruijn32tab), ("math/bits.deBruijn64tab", laid_math_bits_deBruijn64tab), ("internal/strconv.uint64pow10", laid_internal_strconv_uint64pow10)] }
def BignatCompareSaid : Prop := bignatCompareRow.holds Tryd.pinned (OpenSpec.ofChange bignatCompareSpec)

/-- ITS FALSE NEIGHBOUR: 'it returns false'. Refute it at one input. -/
def bignatCompareWrong : ChangeSpec := { name := "bignatCompare", fn := fun _ => fun
  | [d1, d2, d3] => { results := [.lit (.bool false)], args := [d1, d2, d3] }
  | _ => none }
def BignatCompareWrongFalsely : Prop := bignatCompareRow.holds Tryd.pinned (OpenSpec.ofChange bignatCompareWrong)

/-- 'lineagelaw03.BignatAdd': WHATEVER THE INPUT: true; the input reads as it did. -/
def bignatAddSpec : ChangeSpec := { name := "bignatAdd", fn := fun _ => fun
  | [d1, d2] => { results := [.lit (.bool true)], args := [d1, d2] }
  | _ => none }
def bignatAddRow : OpenClaim := { program := "ytoakfjcejamoeaadoor", sum := "84b6e96892dfa8e3fc654dbf5fd807d1f4fd625c7f50a4d82849c108df4d886a", func := "lineage/lineagelaw03.BignatAdd", spec := "bignatAdd", inPlace := ["internal/abi.NoEscape", "internal/bytealg.MakeNoZero"], unfollowed := true, recurses := true, named := ["internal/strconv.uint64pow10", "math/bits.deBruijn32tab", "math/bits.deBruijn64tab"], apart := false, laid := [("math/bits.deBruijn32tab", laid_math_bits_deBruijn32tab), ("math/bits.deBruijn64tab", laid_math_bits_deBruijn64tab), ("internal/strconv.uint64pow10", laid_internal_strconv_uint64pow10)] }
def BignatAddSaid : Prop := bignatAddRow.holds Tryd.pinned (OpenSpec.ofChange bignatAddSpec)

/-- ITS FALSE NEIGHBOUR: 'it returns false'. Refute it at one input. -/
def bignatAddWrong : ChangeSpec := { name := "bignatAdd", fn := fun _ => fun
  | [d1, d2] => { results := [.lit (.bool false)], args := [d1, d2] }
  | _ => none }
def BignatAddWrongFalsely : Prop := bignatAddRow.holds Tryd.pinned (OpenSpec.ofChange bignatAddWrong)

/-- 'lineagelaw03.BignatShift': WHATEVER THE INPUT: true; the input reads as it did. -/
def bignatShiftSpec : ChangeSpec := { name := "bignatShift", fn := fun _ => fun
  | [d1, d2] => { results := [.lit (.bool true)], args := [d1, d2] }
  | _ => none }
def bignatShiftRow : OpenClaim := { program := "ytoakfjcejamoeaadoor", sum := "84b6e96892dfa8e3fc654dbf5fd807d1f4fd625c7f50a4d82849c108df4d886a", func := "lineage/lineagelaw03.BignatShift", spec := "bignatShift", inPlace := ["internal/abi.NoEscape", "internal/bytealg.MakeNoZero"], unfollowed := true, recurses := true, named := ["internal/strconv.uint64pow10", "math/bits.deBruijn32tab", "math/bits.deBruijn64tab"], apart := false, laid := [("math/bits.deBruijn32tab", laid_math_bits_deBruijn32tab), ("math/bits.deBruijn64tab", laid_math_bits_deBruijn64tab), ("internal/strconv.uint64pow10", laid_internal_strconv_uint64pow10)] }
def BignatShiftSaid : Prop := bignatShiftRow.holds Tryd.pinned (OpenSpec.ofChange bignatShiftSpec)

/-- ITS FALSE NEIGHBOUR: 'it returns false'. Refute it at one input. -/
def bignatShiftWrong : ChangeSpec := { name := "bignatShift", fn := fun _ => fun
  | [d1, d2] => { results := [.lit (.bool false)], args := [d1, d2] }
  | _ => none }
def BignatShiftWrongFalsely : Prop := bignatShiftRow.holds Tryd.pinned (OpenSpec.ofChange bignatShiftWrong)

/-- 'lineagelaw10.RationalOrder': WHATEVER THE INPUT: true; the input reads as it did. -/
def rationalOrderSpec : ChangeSpec := { name := "rationalOrder", fn := fun _ => fun
  | [d1, d2, d3] => { results := [.lit (.bool true)], args := [d1, d2, d3] }
  | _ => none }
def rationalOrderRow : OpenClaim := { program := "ytoakfjcejamoeaadoor", sum := "84b6e96892dfa8e3fc654dbf5fd807d1f4fd625c7f50a4d82849c108df4d886a", func := "lineage/lineagelaw10.RationalOrder", spec := "rationalOrder", inPlace := ["internal/abi.NoEscape", "internal/bytealg.MakeNoZero"], unfollowed := true, recurses := true, named := ["internal/strconv.uint64pow10", "math/bits.deBruijn32tab", "math/bits.deBruijn64tab"], apart := false, laid := [("math/bits.deBruijn32tab", laid_math_bits_deBruijn32tab), ("math/bits.deBruijn64tab", laid_math_bits_deBruijn64tab), ("internal/strconv.uint64pow10", laid_internal_strconv_uint64pow10)] }
def RationalOrderSaid : Prop := rationalOrderRow.holds Tryd.pinned (OpenSpec.ofChange rationalOrderSpec)

/-- ITS FALSE NEIGHBOUR: 'it returns false'. Refute it at one input. -/
def rationalOrderWrong : ChangeSpec := { name := "rationalOrder", fn := fun _ => fun
  | [d1, d2, d3] => { results := [.lit (.bool false)], args := [d1, d2, d3] }
  | _ => none }
def RationalOrderWrongFalsely : Prop := rationalOrderRow.holds Tryd.pinned (OpenSpec.ofChange rationalOrderWrong)

/-- 'lineagelaw10.RationalPermille': WHATEVER THE INPUT: true; the input reads as it did. -/
def rationalPermilleSpec : ChangeSpec := { name := "rationalPermille", fn := fun _ => fun
  | [d] => { results := [.lit (.bool true)], args := [d] }
  | _ => none }
def rationalPermilleRow : OpenClaim := { program := "ytoakfjcejamoeaadoor", sum := "84b6e96892dfa8e3fc654dbf5fd807d1f4fd625c7f50a4d82849c108df4d886a", func := "lineage/lineagelaw10.RationalPermille", spec := "rationalPermille", inPlace := ["internal/abi.NoEscape", "internal/bytealg.MakeNoZero"], unfollowed := true, recurses := true, named := ["internal/strconv.uint64pow10", "math/bits.deBruijn32tab", "math/bits.deBruijn64tab"], apart := false, laid := [("math/bits.deBruijn32tab", laid_math_bits_deBruijn32tab), ("math/bits.deBruijn64tab", laid_math_bits_deBruijn64tab), ("internal/strconv.uint64pow10", laid_internal_strconv_uint64pow10)] }
def RationalPermilleSaid : Prop := rationalPermilleRow.holds Tryd.pinned (OpenSpec.ofChange rationalPermilleSpec)

/-- ITS FALSE NEIGHBOUR: 'it returns false'. Refute it at one input. -/
def rationalPermilleWrong : ChangeSpec := { name := "rationalPermille", fn := fun _ => fun
  | [d] => { results := [.lit (.bool false)], args := [d] }
  | _ => none }
def RationalPermilleWrongFalsely : Prop := rationalPermilleRow.holds Tryd.pinned (OpenSpec.ofChange rationalPermilleWrong)

/-- 'lineagelaw10.RationalNormalForm': WHATEVER THE INPUT: true; the input reads as it did. -/
def rationalNormalFormSpec : ChangeSpec := { name := "rationalNormalForm", fn := fun _ => fun
  | [d1, d2, d3, d4, d5] => { results := [.lit (.bool true)], args := [d1, d2, d3, d4, d5] }
  | _ => none }
def rationalNormalFormRow : OpenClaim := { program := "ytoakfjcejamoeaadoor", sum := "84b6e96892dfa8e3fc654dbf5fd807d1f4fd625c7f50a4d82849c108df4d886a", func := "lineage/lineagelaw10.RationalNormalForm", spec := "rationalNormalForm", inPlace := ["internal/abi.NoEscape", "internal/bytealg.MakeNoZero"], unfollowed := true, recurses := true, named := ["internal/strconv.uint64pow10", "math/bits.deBruijn32tab", "math/bits.deBruijn64tab"], apart := false, laid := [("math/bits.deBruijn32tab", laid_math_bits_deBruijn32tab), ("math/bits.deBruijn64tab", laid_math_bits_deBruijn64tab), ("internal/strconv.uint64pow10", laid_internal_strconv_uint64pow10)] }
def RationalNormalFormSaid : Prop := rationalNormalFormRow.holds Tryd.pinned (OpenSpec.ofChange rationalNormalFormSpec)

/-- ITS FALSE NEIGHBOUR: 'it returns false'. Refute it at one input. -/
def rationalNormalFormWrong : ChangeSpec := { name := "rationalNormalForm", fn := fun _ => fun
  | [d1, d2, d3, d4, d5] => { results := [.lit (.bool false)], args := [d1, d2, d3, d4, d5] }
  | _ => none }
def RationalNormalFormWrongFalsely : Prop := rationalNormalFormRow.holds Tryd.pinned (OpenSpec.ofChange rationalNormalFormWrong)

/-- 'lineagelaw10.RationalArithmetic': WHATEVER THE INPUT: true; the input reads as it did. -/
def rationalArithmeticSpec : ChangeSpec := { name := "rationalArithmetic", fn := fun _ => fun
  | [d1, d2] => { results := [.lit (.bool true)], args := [d1, d2] }
  | _ => none }
def rationalArithmeticRow : OpenClaim := { program := "ytoakfjcejamoeaadoor", sum := "84b6e96892dfa8e3fc654dbf5fd807d1f4fd625c7f50a4d82849c108df4d886a", func := "lineage/lineagelaw10.RationalArithmetic", spec := "rationalArithmetic", inPlace := ["internal/abi.NoEscape", "internal/bytealg.MakeNoZero"], unfollowed := true, recurses := true, named := ["internal/strconv.uint64pow10", "math/bits.deBruijn32tab", "math/bits.deBruijn64tab"], apart := false, laid := [("math/bits.deBruijn32tab", laid_math_bits_deBruijn32tab), ("math/bits.deBruijn64tab", laid_math_bits_deBruijn64tab), ("internal/strconv.uint64pow10", laid_internal_strconv_uint64pow10)] }
def RationalArithmeticSaid : Prop := rationalArithmeticRow.holds Tryd.pinned (OpenSpec.ofChange rationalArithmeticSpec)

/-- ITS FALSE NEIGHBOUR: 'it returns false'. Refute it at one input. -/
def rationalArithmeticWrong : ChangeSpec := { name := "rationalArithmetic", fn := fun _ => fun
  | [d1, d2] => { results := [.lit (.bool false)], args := [d1, d2] }
  | _ => none }
def RationalArithmeticWrongFalsely : Prop := rationalArithmeticRow.holds Tryd.pinned (OpenSpec.ofChange rationalArithmeticWrong)

/-- 'lineagelaw10.RationalField': WHATEVER THE INPUT: true; the input reads as it did. -/
def rationalFieldSpec : ChangeSpec := { name := "rationalField", fn := fun _ => fun
  | [d1, d2, d3] => { results := [.lit (.bool true)], args := [d1, d2, d3] }
  | _ => none }
def rationalFieldRow : OpenClaim := { program := "ytoakfjcejamoeaadoor", sum := "84b6e96892dfa8e3fc654dbf5fd807d1f4fd625c7f50a4d82849c108df4d886a", func := "lineage/lineagelaw10.RationalField", spec := "rationalField", inPlace := ["internal/abi.NoEscape", "internal/bytealg.MakeNoZero"], unfollowed := true, recurses := true, named := ["internal/strconv.uint64pow10", "math/bits.deBruijn32tab", "math/bits.deBruijn64tab"], apart := false, laid := [("math/bits.deBruijn32tab", laid_math_bits_deBruijn32tab), ("math/bits.deBruijn64tab", laid_math_bits_deBruijn64tab), ("internal/strconv.uint64pow10", laid_internal_strconv_uint64pow10)] }
def RationalFieldSaid : Prop := rationalFieldRow.holds Tryd.pinned (OpenSpec.ofChange rationalFieldSpec)

/-- ITS FALSE NEIGHBOUR: 'it returns false'. Refute it at one input. -/
def rationalFieldWrong : ChangeSpec := { name := "rationalField", fn := fun _ => fun
  | [d1, d2, d3] => { results := [.lit (.bool false)], args := [d1, d2, d3] }
  | _ => none }
def RationalFieldWrongFalsely : Prop := rationalFieldRow.holds Tryd.pinned (OpenSpec.ofChange rationalFieldWrong)

/-- 'lineagelaw10.RationalProbabilities': WHATEVER THE INPUT: true; the input reads as it did. -/
def rationalProbabilitiesSpec : ChangeSpec := { name := "rationalProbabilities", fn := fun _ => fun
  | [d1, d2] => { results := [.lit (.bool true)], args := [d1, d2] }
  | _ => none }
def rationalProbabilitiesRow : OpenClaim := { program := "ytoakfjcejamoeaadoor", sum := "84b6e96892dfa8e3fc654dbf5fd807d1f4fd625c7f50a4d82849c108df4d886a", func := "lineage/lineagelaw10.RationalProbabilities", spec := "rationalProbabilities", inPlace := ["internal/abi.NoEscape", "internal/bytealg.MakeNoZero"], unfollowed := true, recurses := true, named := ["internal/strconv.uint64pow10", "math/bits.deBruijn32tab", "math/bits.deBruijn64tab"], apart := false, laid := [("math/bits.deBruijn32tab", laid_math_bits_deBruijn32tab), ("math/bits.deBruijn64tab", laid_math_bits_deBruijn64tab), ("internal/strconv.uint64pow10", laid_internal_strconv_uint64pow10)] }
def RationalProbabilitiesSaid : Prop := rationalProbabilitiesRow.holds Tryd.pinned (OpenSpec.ofChange rationalProbabilitiesSpec)

/-- ITS FALSE NEIGHBOUR: 'it returns false'. Refute it at one input. -/
def rationalProbabilitiesWrong : ChangeSpec := { name := "rationalProbabilities", fn := fun _ => fun
  | [d1, d2] => { results := [.lit (.bool false)], args := [d1, d2] }
  | _ => none }
def RationalProbabilitiesWrongFalsely : Prop := rationalProbabilitiesRow.holds Tryd.pinned (OpenSpec.ofChange rationalProbabilitiesWrong)

/-- 'lineagelaw10.RationalLimits': WHATEVER THE INPUT: true; the input reads as it did. -/
def rationalLimitsSpec : ChangeSpec := { name := "rationalLimits", fn := fun _ => fun
  | [d1, d2] => { results := [.lit (.bool true)], args := [d1, d2] }
  | _ => none }
def rationalLimitsRow : OpenClaim := { program := "ytoakfjcejamoeaadoor", sum := "84b6e96892dfa8e3fc654dbf5fd807d1f4fd625c7f50a4d82849c108df4d886a", func := "lineage/lineagelaw10.RationalLimits", spec := "rationalLimits", inPlace := ["internal/abi.NoEscape", "internal/bytealg.MakeNoZero"], unfollowed := true, recurses := true, named := ["internal/strconv.uint64pow10", "math/bits.deBruijn32tab", "math/bits.deBruijn64tab"], apart := false, laid := [("math/bits.deBruijn32tab", laid_math_bits_deBruijn32tab), ("math/bits.deBruijn64tab", laid_math_bits_deBruijn64tab), ("internal/strconv.uint64pow10", laid_internal_strconv_uint64pow10)] }
def RationalLimitsSaid : Prop := rationalLimitsRow.holds Tryd.pinned (OpenSpec.ofChange rationalLimitsSpec)

/-- ITS FALSE NEIGHBOUR: 'it returns false'. Refute it at one input. -/
def rationalLimitsWrong : ChangeSpec := { name := "rationalLimits", fn := fun _ => fun
  | [d1, d2] => { results := [.lit (.bool false)], args := [d1, d2] }
  | _ => none }
def RationalLimitsWrongFalsely : Prop := rationalLimitsRow.holds Tryd.pinned (OpenSpec.ofChange rationalLimitsWrong)

/-- 'lineagelaw03.BignatDecimal': WHATEVER THE INPUT: true; the input reads as it did. -/
def bignatDecimalSpec : ChangeSpec := { name := "bignatDecimal", fn := fun _ => fun
  | [d1, d2] => { results := [.lit (.bool true)], args := [d1, d2] }
  | _ => none }
def bignatDecimalRow : OpenClaim := { program := "ytoakfjcejamoeaadoor", sum := "84b6e96892dfa8e3fc654dbf5fd807d1f4fd625c7f50a4d82849c108df4d886a", func := "lineage/lineagelaw03.BignatDecimal", spec := "bignatDecimal", inPlace := ["internal/abi.NoEscape", "internal/bytealg.MakeNoZero"], unfollowed := true, recurses := true, named := ["internal/strconv.uint64pow10", "math/bits.deBruijn32tab", "math/bits.deBruijn64tab", "strconv.ErrSyntax", "strconv.ErrRange"], apart := false, laid := [("math/bits.deBruijn32tab", laid_math_bits_deBruijn32tab), ("math/bits.deBruijn64tab", laid_math_bits_deBruijn64tab), ("internal/strconv.uint64pow10", laid_internal_strconv_uint64pow10), ("strconv.ErrRange", laid_strconv_ErrRange), ("strconv.ErrSyntax", laid_strconv_ErrSyntax)] }
def BignatDecimalSaid : Prop := bignatDecimalRow.holds Tryd.pinned (OpenSpec.ofChange bignatDecimalSpec)

/-- ITS FALSE NEIGHBOUR: 'it returns false'. Refute it at one input. -/
def bignatDecimalWrong : ChangeSpec := { name := "bignatDecimal", fn := fun _ => fun
  | [d1, d2] => { results := [.lit (.bool false)], args := [d1, d2] }
  | _ => none }
def BignatDecimalWrongFalsely : Prop := bignatDecimalRow.holds Tryd.pinned (OpenSpec.ofChange bignatDecimalWrong)

/- THE SECOND FORM. 'bulk': how many values and letters a reading holds, each counted each time it is reached (what is shared counts as often as it is met; a slice's spare places count too). A statement '..UptoSaid' is the law's where the arguments, and the package variables that the reading takes, are together of bulk at most 1048576: NARROWER than '..Said'. Prove '..Said' where nothing that the law and all that it calls make is longer than what came in: it says more and counts as full. Else prove '..UptoSaid'. A law counts once. -/
mutual
def uptoBulk {H : Type} : DataW H → Nat
  | .lit (.string bytes) => bytes.length + 1
  | .lit _ => 1
  | .nil => 1
  | .ptr d => uptoBulk d + 1
  | .slice elems spare => uptoBulkAll elems + uptoBulkAll spare + 1
  | .agg parts => uptoBulkAll parts + 1
  | .iface _ d => uptoBulk d + 1
  | .map entries => uptoBulkEntries entries + 1
  | .held _ => 1
def uptoBulkAll {H : Type} : List (DataW H) → Nat
  | [] => 0
  | d :: r => uptoBulk d + uptoBulkAll r
def uptoBulkEntries {H : Type} : List (Lit × DataW H) → Nat
  | [] => 0
  | x :: r => uptoBulkEntry x + uptoBulkEntries r
def uptoBulkEntry {H : Type} : Lit × DataW H → Nat
  | (.string bytes, d) => bytes.length + uptoBulk d + 1
  | (_, d) => uptoBulk d + 1
 end
def uptoSmall : (H : Type) → List (DataW H) → Bool := fun _ ds => decide (uptoBulkAll ds ≤ 1048576)
def OpenSpec.upto (s : _root_.Go.ChangeSpec) : _root_.Go.OpenSpec := { _root_.Go.OpenSpec.ofChange s with cond := some uptoSmall }

/-- 'lineagelaw03.BignatMul', WHERE WHAT IT READS IS OF BULK AT MOST 1048576: true; the input reads as it did. -/
def bignatMulUptoRow : OpenClaim := { program := "ytoakfjcejamoeaadoor", sum := "84b6e96892dfa8e3fc654dbf5fd807d1f4fd625c7f50a4d82849c108df4d886a", func := "lineage/lineagelaw03.BignatMul", spec := "bignatMul", inPlace := ["internal/abi.NoEscape", "internal/bytealg.MakeNoZero"], unfollowed := true, recurses := true, named := ["internal/strconv.uint64pow10", "math/bits.deBruijn32tab", "math/bits.deBruijn64tab"], apart := false, laid := [("math/bits.deBruijn32tab", laid_math_bits_deBruijn32tab), ("math/bits.deBruijn64tab", laid_math_bits_deBruijn64tab), ("internal/strconv.uint64pow10", laid_internal_strconv_uint64pow10)], narrowed := true }
def BignatMulUptoSaid : Prop := bignatMulUptoRow.holds Tryd.pinned (OpenSpec.upto bignatMulSpec)

/-- 'lineagelaw03.BignatRing', WHERE WHAT IT READS IS OF BULK AT MOST 1048576: true; the input reads as it did. -/
def bignatRingUptoRow : OpenClaim := { program := "ytoakfjcejamoeaadoor", sum := "84b6e96892dfa8e3fc654dbf5fd807d1f4fd625c7f50a4d82849c108df4d886a", func := "lineage/lineagelaw03.BignatRing", spec := "bignatRing", inPlace := ["internal/abi.NoEscape", "internal/bytealg.MakeNoZero"], unfollowed := true, recurses := true, named := ["internal/strconv.uint64pow10", "math/bits.deBruijn32tab", "math/bits.deBruijn64tab"], apart := false, laid := [("math/bits.deBruijn32tab", laid_math_bits_deBruijn32tab), ("math/bits.deBruijn64tab", laid_math_bits_deBruijn64tab), ("internal/strconv.uint64pow10", laid_internal_strconv_uint64pow10)], narrowed := true }
def BignatRingUptoSaid : Prop := bignatRingUptoRow.holds Tryd.pinned (OpenSpec.upto bignatRingSpec)

/-- 'lineagelaw03.BignatDivMod', WHERE WHAT IT READS IS OF BULK AT MOST 1048576: true; the input reads as it did. -/
def bignatDivModUptoRow : OpenClaim := { program := "ytoakfjcejamoeaadoor", sum := "84b6e96892dfa8e3fc654dbf5fd807d1f4fd625c7f50a4d82849c108df4d886a", func := "lineage/lineagelaw03.BignatDivMod", spec := "bignatDivMod", inPlace := ["internal/abi.NoEscape", "internal/bytealg.MakeNoZero"], unfollowed := true, recurses := true, named := ["internal/strconv.uint64pow10", "math/bits.deBruijn32tab", "math/bits.deBruijn64tab"], apart := false, laid := [("math/bits.deBruijn32tab", laid_math_bits_deBruijn32tab), ("math/bits.deBruijn64tab", laid_math_bits_deBruijn64tab), ("internal/strconv.uint64pow10", laid_internal_strconv_uint64pow10)], narrowed := true }
def BignatDivModUptoSaid : Prop := bignatDivModUptoRow.holds Tryd.pinned (OpenSpec.upto bignatDivModSpec)

/-- 'lineagelaw03.BignatGCD', WHERE WHAT IT READS IS OF BULK AT MOST 1048576: true; the input reads as it did. -/
def bignatGCDUptoRow : OpenClaim := { program := "ytoakfjcejamoeaadoor", sum := "84b6e96892dfa8e3fc654dbf5fd807d1f4fd625c7f50a4d82849c108df4d886a", func := "lineage/lineagelaw03.BignatGCD", spec := "bignatGCD", inPlace := ["internal/abi.NoEscape", "internal/bytealg.MakeNoZero"], unfollowed := true, recurses := true, named := ["internal/strconv.uint64pow10", "math/bits.deBruijn32tab", "math/bits.deBruijn64tab"], apart := false, laid := [("math/bits.deBruijn32tab", laid_math_bits_deBruijn32tab), ("math/bits.deBruijn64tab", laid_math_bits_deBruijn64tab), ("internal/strconv.uint64pow10", laid_internal_strconv_uint64pow10)], narrowed := true }
def BignatGCDUptoSaid : Prop := bignatGCDUptoRow.holds Tryd.pinned (OpenSpec.upto bignatGCDSpec)

/-- 'lineagelaw03.BignatCompare', WHERE WHAT IT READS IS OF BULK AT MOST 1048576: true; the input reads as it did. -/
def bignatCompareUptoRow : OpenClaim := { program := "ytoakfjcejamoeaadoor", sum := "84b6e96892dfa8e3fc654dbf5fd807d1f4fd625c7f50a4d82849c108df4d886a", func := "lineage/lineagelaw03.BignatCompare", spec := "bignatCompare", inPlace := ["internal/abi.NoEscape", "internal/bytealg.MakeNoZero"], unfollowed := true, recurses := true, named := ["internal/strconv.uint64pow10", "math/bits.deBruijn32tab", "math/bits.deBruijn64tab"], apart := false, laid := [("math/bits.deBruijn32tab", laid_math_bits_deBruijn32tab), ("math/bits.deBruijn64tab", laid_math_bits_deBruijn64tab), ("internal/strconv.uint64pow10", laid_internal_strconv_uint64pow10)], narrowed := true }
def BignatCompareUptoSaid : Prop := bignatCompareUptoRow.holds Tryd.pinned (OpenSpec.upto bignatCompareSpec)

/-- 'lineagelaw03.BignatAdd', WHERE WHAT IT READS IS OF BULK AT MOST 1048576: true; the input reads as it did. -/
def bignatAddUptoRow : OpenClaim := { program := "ytoakfjcejamoeaadoor", sum := "84b6e96892dfa8e3fc654dbf5fd807d1f4fd625c7f50a4d82849c108df4d886a", func := "lineage/lineagelaw03.BignatAdd", spec := "bignatAdd", inPlace := ["internal/abi.NoEscape", "internal/bytealg.MakeNoZero"], unfollowed := true, recurses := true, named := ["internal/strconv.uint64pow10", "math/bits.deBruijn32tab", "math/bits.deBruijn64tab"], apart := false, laid := [("math/bits.deBruijn32tab", laid_math_bits_deBruijn32tab), ("math/bits.deBruijn64tab", laid_math_bits_deBruijn64tab), ("internal/strconv.uint64pow10", laid_internal_strconv_uint64pow10)], narrowed := true }
def BignatAddUptoSaid : Prop := bignatAddUptoRow.holds Tryd.pinned (OpenSpec.upto bignatAddSpec)

/-- 'lineagelaw03.BignatShift', WHERE WHAT IT READS IS OF BULK AT MOST 1048576: true; the input reads as it did. -/
def bignatShiftUptoRow : OpenClaim := { program := "ytoakfjcejamoeaadoor", sum := "84b6e96892dfa8e3fc654dbf5fd807d1f4fd625c7f50a4d82849c108df4d886a", func := "lineage/lineagelaw03.BignatShift", spec := "bignatShift", inPlace := ["internal/abi.NoEscape", "internal/bytealg.MakeNoZero"], unfollowed := true, recurses := true, named := ["internal/strconv.uint64pow10", "math/bits.deBruijn32tab", "math/bits.deBruijn64tab"], apart := false, laid := [("math/bits.deBruijn32tab", laid_math_bits_deBruijn32tab), ("math/bits.deBruijn64tab", laid_math_bits_deBruijn64tab), ("internal/strconv.uint64pow10", laid_internal_strconv_uint64pow10)], narrowed := true }
def BignatShiftUptoSaid : Prop := bignatShiftUptoRow.holds Tryd.pinned (OpenSpec.upto bignatShiftSpec)

/-- 'lineagelaw10.RationalOrder', WHERE WHAT IT READS IS OF BULK AT MOST 1048576: true; the input reads as it did. -/
def rationalOrderUptoRow : OpenClaim := { program := "ytoakfjcejamoeaadoor", sum := "84b6e96892dfa8e3fc654dbf5fd807d1f4fd625c7f50a4d82849c108df4d886a", func := "lineage/lineagelaw10.RationalOrder", spec := "rationalOrder", inPlace := ["internal/abi.NoEscape", "internal/bytealg.MakeNoZero"], unfollowed := true, recurses := true, named := ["internal/strconv.uint64pow10", "math/bits.deBruijn32tab", "math/bits.deBruijn64tab"], apart := false, laid := [("math/bits.deBruijn32tab", laid_math_bits_deBruijn32tab), ("math/bits.deBruijn64tab", laid_math_bits_deBruijn64tab), ("internal/strconv.uint64pow10", laid_internal_strconv_uint64pow10)], narrowed := true }
def RationalOrderUptoSaid : Prop := rationalOrderUptoRow.holds Tryd.pinned (OpenSpec.upto rationalOrderSpec)

/-- 'lineagelaw10.RationalPermille', WHERE WHAT IT READS IS OF BULK AT MOST 1048576: true; the input reads as it did. -/
def rationalPermilleUptoRow : OpenClaim := { program := "ytoakfjcejamoeaadoor", sum := "84b6e96892dfa8e3fc654dbf5fd807d1f4fd625c7f50a4d82849c108df4d886a", func := "lineage/lineagelaw10.RationalPermille", spec := "rationalPermille", inPlace := ["internal/abi.NoEscape", "internal/bytealg.MakeNoZero"], unfollowed := true, recurses := true, named := ["internal/strconv.uint64pow10", "math/bits.deBruijn32tab", "math/bits.deBruijn64tab"], apart := false, laid := [("math/bits.deBruijn32tab", laid_math_bits_deBruijn32tab), ("math/bits.deBruijn64tab", laid_math_bits_deBruijn64tab), ("internal/strconv.uint64pow10", laid_internal_strconv_uint64pow10)], narrowed := true }
def RationalPermilleUptoSaid : Prop := rationalPermilleUptoRow.holds Tryd.pinned (OpenSpec.upto rationalPermilleSpec)

/-- 'lineagelaw10.RationalNormalForm', WHERE WHAT IT READS IS OF BULK AT MOST 1048576: true; the input reads as it did. -/
def rationalNormalFormUptoRow : OpenClaim := { program := "ytoakfjcejamoeaadoor", sum := "84b6e96892dfa8e3fc654dbf5fd807d1f4fd625c7f50a4d82849c108df4d886a", func := "lineage/lineagelaw10.RationalNormalForm", spec := "rationalNormalForm", inPlace := ["internal/abi.NoEscape", "internal/bytealg.MakeNoZero"], unfollowed := true, recurses := true, named := ["internal/strconv.uint64pow10", "math/bits.deBruijn32tab", "math/bits.deBruijn64tab"], apart := false, laid := [("math/bits.deBruijn32tab", laid_math_bits_deBruijn32tab), ("math/bits.deBruijn64tab", laid_math_bits_deBruijn64tab), ("internal/strconv.uint64pow10", laid_internal_strconv_uint64pow10)], narrowed := true }
def RationalNormalFormUptoSaid : Prop := rationalNormalFormUptoRow.holds Tryd.pinned (OpenSpec.upto rationalNormalFormSpec)

/-- 'lineagelaw10.RationalArithmetic', WHERE WHAT IT READS IS OF BULK AT MOST 1048576: true; the input reads as it did. -/
def rationalArithmeticUptoRow : OpenClaim := { program := "ytoakfjcejamoeaadoor", sum := "84b6e96892dfa8e3fc654dbf5fd807d1f4fd625c7f50a4d82849c108df4d886a", func := "lineage/lineagelaw10.RationalArithmetic", spec := "rationalArithmetic", inPlace := ["internal/abi.NoEscape", "internal/bytealg.MakeNoZero"], unfollowed := true, recurses := true, named := ["internal/strconv.uint64pow10", "math/bits.deBruijn32tab", "math/bits.deBruijn64tab"], apart := false, laid := [("math/bits.deBruijn32tab", laid_math_bits_deBruijn32tab), ("math/bits.deBruijn64tab", laid_math_bits_deBruijn64tab), ("internal/strconv.uint64pow10", laid_internal_strconv_uint64pow10)], narrowed := true }
def RationalArithmeticUptoSaid : Prop := rationalArithmeticUptoRow.holds Tryd.pinned (OpenSpec.upto rationalArithmeticSpec)

/-- 'lineagelaw10.RationalField', WHERE WHAT IT READS IS OF BULK AT MOST 1048576: true; the input reads as it did. -/
def rationalFieldUptoRow : OpenClaim := { program := "ytoakfjcejamoeaadoor", sum := "84b6e96892dfa8e3fc654dbf5fd807d1f4fd625c7f50a4d82849c108df4d886a", func := "lineage/lineagelaw10.RationalField", spec := "rationalField", inPlace := ["internal/abi.NoEscape", "internal/bytealg.MakeNoZero"], unfollowed := true, recurses := true, named := ["internal/strconv.uint64pow10", "math/bits.deBruijn32tab", "math/bits.deBruijn64tab"], apart := false, laid := [("math/bits.deBruijn32tab", laid_math_bits_deBruijn32tab), ("math/bits.deBruijn64tab", laid_math_bits_deBruijn64tab), ("internal/strconv.uint64pow10", laid_internal_strconv_uint64pow10)], narrowed := true }
def RationalFieldUptoSaid : Prop := rationalFieldUptoRow.holds Tryd.pinned (OpenSpec.upto rationalFieldSpec)

/-- 'lineagelaw10.RationalProbabilities', WHERE WHAT IT READS IS OF BULK AT MOST 1048576: true; the input reads as it did. -/
def rationalProbabilitiesUptoRow : OpenClaim := { program := "ytoakfjcejamoeaadoor", sum := "84b6e96892dfa8e3fc654dbf5fd807d1f4fd625c7f50a4d82849c108df4d886a", func := "lineage/lineagelaw10.RationalProbabilities", spec := "rationalProbabilities", inPlace := ["internal/abi.NoEscape", "internal/bytealg.MakeNoZero"], unfollowed := true, recurses := true, named := ["internal/strconv.uint64pow10", "math/bits.deBruijn32tab", "math/bits.deBruijn64tab"], apart := false, laid := [("math/bits.deBruijn32tab", laid_math_bits_deBruijn32tab), ("math/bits.deBruijn64tab", laid_math_bits_deBruijn64tab), ("internal/strconv.uint64pow10", laid_internal_strconv_uint64pow10)], narrowed := true }
def RationalProbabilitiesUptoSaid : Prop := rationalProbabilitiesUptoRow.holds Tryd.pinned (OpenSpec.upto rationalProbabilitiesSpec)

/-- 'lineagelaw10.RationalLimits', WHERE WHAT IT READS IS OF BULK AT MOST 1048576: true; the input reads as it did. -/
def rationalLimitsUptoRow : OpenClaim := { program := "ytoakfjcejamoeaadoor", sum := "84b6e96892dfa8e3fc654dbf5fd807d1f4fd625c7f50a4d82849c108df4d886a", func := "lineage/lineagelaw10.RationalLimits", spec := "rationalLimits", inPlace := ["internal/abi.NoEscape", "internal/bytealg.MakeNoZero"], unfollowed := true, recurses := true, named := ["internal/strconv.uint64pow10", "math/bits.deBruijn32tab", "math/bits.deBruijn64tab"], apart := false, laid := [("math/bits.deBruijn32tab", laid_math_bits_deBruijn32tab), ("math/bits.deBruijn64tab", laid_math_bits_deBruijn64tab), ("internal/strconv.uint64pow10", laid_internal_strconv_uint64pow10)], narrowed := true }
def RationalLimitsUptoSaid : Prop := rationalLimitsUptoRow.holds Tryd.pinned (OpenSpec.upto rationalLimitsSpec)

/-- 'lineagelaw03.BignatDecimal', WHERE WHAT IT READS IS OF BULK AT MOST 1048576: true; the input reads as it did. -/
def bignatDecimalUptoRow : OpenClaim := { program := "ytoakfjcejamoeaadoor", sum := "84b6e96892dfa8e3fc654dbf5fd807d1f4fd625c7f50a4d82849c108df4d886a", func := "lineage/lineagelaw03.BignatDecimal", spec := "bignatDecimal", inPlace := ["internal/abi.NoEscape", "internal/bytealg.MakeNoZero"], unfollowed := true, recurses := true, named := ["internal/strconv.uint64pow10", "math/bits.deBruijn32tab", "math/bits.deBruijn64tab", "strconv.ErrSyntax", "strconv.ErrRange"], apart := false, laid := [("math/bits.deBruijn32tab", laid_math_bits_deBruijn32tab), ("math/bits.deBruijn64tab", laid_math_bits_deBruijn64tab), ("internal/strconv.uint64pow10", laid_internal_strconv_uint64pow10), ("strconv.ErrRange", laid_strconv_ErrRange), ("strconv.ErrSyntax", laid_strconv_ErrSyntax)], narrowed := true }
def BignatDecimalUptoSaid : Prop := bignatDecimalUptoRow.holds Tryd.pinned (OpenSpec.upto bignatDecimalSpec)

end Rows
end Go.Proofs.YtoakfjcejamoeaaDoor
