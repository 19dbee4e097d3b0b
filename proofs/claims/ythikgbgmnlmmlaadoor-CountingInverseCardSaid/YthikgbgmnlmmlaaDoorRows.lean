/-
  NARROWER THAN 'FOR EVERY INPUT', by the rows' own cells (each row's printed sentence says how): CountingChoices: laid · CountingRanks: laid · CountingSteps: laid · CountingProducts: laid · CountingPascal: laid · CountingParts: laid · CountingUnranks: laid · CountingInverse: laid · CountingPowers: laid.
  DERIVED. THE GIVEN ROWS OF THIS SEAT. 9 by the template 'for every input the law returns true; each argument reads behind the call as it read before'; 0 by the template 'total and deterministic' (their statements: YthikgbgmnlmmlaaDoorTotals.lean).
  GIVEN WITH THE SEED: the statements are not yours to turn. If you find one false, say at which input.
  Laid BY PROGRAM, IN A SANDBOX (cutbox-rows.mjs): the forced cells as the released guide's own fill.sh prints them over the translation 98142ff8b19b58a8… (all of the seat's roots in one cut). By AI agents, Wed Nov 11 2026. No macro, syntax, notation, axiom, sorry.
-/
import Derived.Test.YthikgbgmnlmmlaaDoorChecked
import GoSem.Claim
import GoSem.ClaimJoined
import GoSem.ClaimMapViews
import Derived.JoinedTies
import Derived.KernelRfl
namespace Go.Proofs.YthikgbgmnlmmlaaDoor
/- THE CELL 'sum', in the pinned program and in every row, IS THE sha256 OF THE DUMP (.gsa) THAT YthikgbgmnlmmlaaDoorProg.lean LOADS. Nothing in Lean hashes anything: it is a label: what it is worth is what the hold of that sum in a sandbox is worth. -/
noncomputable def Tryd.pinned : Pinned := { name := "ythikgbgmnlmmlaadoor", sum := "98142ff8b19b58a8747a66704bf3567d0db1e560eb56492b415946d13955b9c8", checked := Tryd.checked }
namespace Rows
def none {H : Type} : Left H := { results := [], args := [] }

/- WHAT THE LISTED PACKAGE-LEVEL VARIABLES READ AS WHEN THE CALL BEGINS. Each datum BY PROGRAM (the guide's laid-datum.mjs) off the statement by which the dump's own 'gosem.cut.vars' lays the variable. In a bare row this is a premise. The card (YthikgbgmnlmmlaaDoorCards.lean) ties it to the program's text. -/
def laid_math_bits_deBruijn32tab {H : Type} : DataW H := .agg [.lit (.int .u8 0), .lit (.int .u8 1), .lit (.int .u8 28), .lit (.int .u8 2), .lit (.int .u8 29), .lit (.int .u8 14), .lit (.int .u8 24), .lit (.int .u8 3), .lit (.int .u8 30), .lit (.int .u8 22), .lit (.int .u8 20), .lit (.int .u8 15), .lit (.int .u8 25), .lit (.int .u8 17), .lit (.int .u8 4), .lit (.int .u8 8), .lit (.int .u8 31), .lit (.int .u8 27), .lit (.int .u8 13), .lit (.int .u8 23), .lit (.int .u8 21), .lit (.int .u8 19), .lit (.int .u8 16), .lit (.int .u8 7), .lit (.int .u8 26), .lit (.int .u8 12), .lit (.int .u8 18), .lit (.int .u8 6), .lit (.int .u8 11), .lit (.int .u8 5), .lit (.int .u8 10), .lit (.int .u8 9)]
def laid_math_bits_deBruijn64tab {H : Type} : DataW H := .agg [.lit (.int .u8 0), .lit (.int .u8 1), .lit (.int .u8 56), .lit (.int .u8 2), .lit (.int .u8 57), .lit (.int .u8 49), .lit (.int .u8 28), .lit (.int .u8 3), .lit (.int .u8 61), .lit (.int .u8 58), .lit (.int .u8 42), .lit (.int .u8 50), .lit (.int .u8 38), .lit (.int .u8 29), .lit (.int .u8 17), .lit (.int .u8 4), .lit (.int .u8 62), .lit (.int .u8 47), .lit (.int .u8 59), .lit (.int .u8 36), .lit (.int .u8 45), .lit (.int .u8 43), .lit (.int .u8 51), .lit (.int .u8 22), .lit (.int .u8 53), .lit (.int .u8 39), .lit (.int .u8 33), .lit (.int .u8 30), .lit (.int .u8 24), .lit (.int .u8 18), .lit (.int .u8 12), .lit (.int .u8 5), .lit (.int .u8 63), .lit (.int .u8 55), .lit (.int .u8 48), .lit (.int .u8 27), .lit (.int .u8 60), .lit (.int .u8 41), .lit (.int .u8 37), .lit (.int .u8 16), .lit (.int .u8 46), .lit (.int .u8 35), .lit (.int .u8 44), .lit (.int .u8 21), .lit (.int .u8 52), .lit (.int .u8 32), .lit (.int .u8 23), .lit (.int .u8 11), .lit (.int .u8 54), .lit (.int .u8 26), .lit (.int .u8 40), .lit (.int .u8 15), .lit (.int .u8 34), .lit (.int .u8 20), .lit (.int .u8 31), .lit (.int .u8 10), .lit (.int .u8 25), .lit (.int .u8 14), .lit (.int .u8 19), .lit (.int .u8 9), .lit (.int .u8 13), .lit (.int .u8 8), .lit (.int .u8 7), .lit (.int .u8 6)]
def laid_internal_strconv_uint64pow10 {H : Type} : DataW H := .agg [.lit (.int .u64 1), .lit (.int .u64 10), .lit (.int .u64 100), .lit (.int .u64 1000), .lit (.int .u64 10000), .lit (.int .u64 100000), .lit (.int .u64 1000000), .lit (.int .u64 10000000), .lit (.int .u64 100000000), .lit (.int .u64 1000000000), .lit (.int .u64 10000000000), .lit (.int .u64 100000000000), .lit (.int .u64 1000000000000), .lit (.int .u64 10000000000000), .lit (.int .u64 100000000000000), .lit (.int .u64 1000000000000000), .lit (.int .u64 10000000000000000), .lit (.int .u64 100000000000000000), .lit (.int .u64 1000000000000000000), .lit (.int .u64 10000000000000000000)]

/-- 'coinagelaw03.CountingChoices': WHATEVER THE INPUT: true; the input reads as it did. -/
def countingChoicesSpec : ChangeSpec := { name := "countingChoices", fn := fun _ => fun
  | [d1, d2] => { results := [.lit (.bool true)], args := [d1, d2] }
  | _ => none }
def countingChoicesRow : OpenClaim := { program := "ythikgbgmnlmmlaadoor", sum := "98142ff8b19b58a8747a66704bf3567d0db1e560eb56492b415946d13955b9c8", func := "coinage/coinagelaw03.CountingChoices", spec := "countingChoices", inPlace := ["internal/abi.NoEscape", "internal/bytealg.MakeNoZero"], named := ["internal/strconv.uint64pow10", "math/bits.deBruijn32tab", "math/bits.deBruijn64tab"], apart := false, laid := [("math/bits.deBruijn32tab", laid_math_bits_deBruijn32tab), ("math/bits.deBruijn64tab", laid_math_bits_deBruijn64tab), ("internal/strconv.uint64pow10", laid_internal_strconv_uint64pow10)] }
def CountingChoicesSaid : Prop := countingChoicesRow.holds Tryd.pinned (OpenSpec.ofChange countingChoicesSpec)

/-- ITS FALSE NEIGHBOUR: 'it returns false'. Refute it at one input. -/
def countingChoicesWrong : ChangeSpec := { name := "countingChoices", fn := fun _ => fun
  | [d1, d2] => { results := [.lit (.bool false)], args := [d1, d2] }
  | _ => none }
def CountingChoicesWrongFalsely : Prop := countingChoicesRow.holds Tryd.pinned (OpenSpec.ofChange countingChoicesWrong)

/-- 'coinagelaw03.CountingRanks': WHATEVER THE INPUT: true; the input reads as it did. -/
def countingRanksSpec : ChangeSpec := { name := "countingRanks", fn := fun _ => fun
  | [d1, d2] => { results := [.lit (.bool true)], args := [d1, d2] }
  | _ => none }
def countingRanksRow : OpenClaim := { program := "ythikgbgmnlmmlaadoor", sum := "98142ff8b19b58a8747a66704bf3567d0db1e560eb56492b415946d13955b9c8", func := "coinage/coinagelaw03.CountingRanks", spec := "countingRanks", inPlace := ["internal/abi.NoEscape", "internal/bytealg.MakeNoZero"], named := ["internal/strconv.uint64pow10", "math/bits.deBruijn32tab", "math/bits.deBruijn64tab"], apart := false, laid := [("math/bits.deBruijn32tab", laid_math_bits_deBruijn32tab), ("math/bits.deBruijn64tab", laid_math_bits_deBruijn64tab), ("internal/strconv.uint64pow10", laid_internal_strconv_uint64pow10)] }
def CountingRanksSaid : Prop := countingRanksRow.holds Tryd.pinned (OpenSpec.ofChange countingRanksSpec)

/-- ITS FALSE NEIGHBOUR: 'it returns false'. Refute it at one input. -/
def countingRanksWrong : ChangeSpec := { name := "countingRanks", fn := fun _ => fun
  | [d1, d2] => { results := [.lit (.bool false)], args := [d1, d2] }
  | _ => none }
def CountingRanksWrongFalsely : Prop := countingRanksRow.holds Tryd.pinned (OpenSpec.ofChange countingRanksWrong)

/-- 'coinagelaw03.CountingSteps': WHATEVER THE INPUT: true; the input reads as it did. -/
def countingStepsSpec : ChangeSpec := { name := "countingSteps", fn := fun _ => fun
  | [d1, d2] => { results := [.lit (.bool true)], args := [d1, d2] }
  | _ => none }
def countingStepsRow : OpenClaim := { program := "ythikgbgmnlmmlaadoor", sum := "98142ff8b19b58a8747a66704bf3567d0db1e560eb56492b415946d13955b9c8", func := "coinage/coinagelaw03.CountingSteps", spec := "countingSteps", inPlace := ["internal/abi.NoEscape", "internal/bytealg.MakeNoZero"], named := ["internal/strconv.uint64pow10", "math/bits.deBruijn32tab", "math/bits.deBruijn64tab"], apart := false, laid := [("math/bits.deBruijn32tab", laid_math_bits_deBruijn32tab), ("math/bits.deBruijn64tab", laid_math_bits_deBruijn64tab), ("internal/strconv.uint64pow10", laid_internal_strconv_uint64pow10)] }
def CountingStepsSaid : Prop := countingStepsRow.holds Tryd.pinned (OpenSpec.ofChange countingStepsSpec)

/-- ITS FALSE NEIGHBOUR: 'it returns false'. Refute it at one input. -/
def countingStepsWrong : ChangeSpec := { name := "countingSteps", fn := fun _ => fun
  | [d1, d2] => { results := [.lit (.bool false)], args := [d1, d2] }
  | _ => none }
def CountingStepsWrongFalsely : Prop := countingStepsRow.holds Tryd.pinned (OpenSpec.ofChange countingStepsWrong)

/-- 'coinagelaw03.CountingProducts': WHATEVER THE INPUT: true; the input reads as it did. -/
def countingProductsSpec : ChangeSpec := { name := "countingProducts", fn := fun _ => fun
  | [d1, d2] => { results := [.lit (.bool true)], args := [d1, d2] }
  | _ => none }
def countingProductsRow : OpenClaim := { program := "ythikgbgmnlmmlaadoor", sum := "98142ff8b19b58a8747a66704bf3567d0db1e560eb56492b415946d13955b9c8", func := "coinage/coinagelaw03.CountingProducts", spec := "countingProducts", inPlace := ["internal/abi.NoEscape", "internal/bytealg.MakeNoZero"], named := ["internal/strconv.uint64pow10", "math/bits.deBruijn32tab", "math/bits.deBruijn64tab"], apart := false, laid := [("math/bits.deBruijn32tab", laid_math_bits_deBruijn32tab), ("math/bits.deBruijn64tab", laid_math_bits_deBruijn64tab), ("internal/strconv.uint64pow10", laid_internal_strconv_uint64pow10)] }
def CountingProductsSaid : Prop := countingProductsRow.holds Tryd.pinned (OpenSpec.ofChange countingProductsSpec)

/-- ITS FALSE NEIGHBOUR: 'it returns false'. Refute it at one input. -/
def countingProductsWrong : ChangeSpec := { name := "countingProducts", fn := fun _ => fun
  | [d1, d2] => { results := [.lit (.bool false)], args := [d1, d2] }
  | _ => none }
def CountingProductsWrongFalsely : Prop := countingProductsRow.holds Tryd.pinned (OpenSpec.ofChange countingProductsWrong)

/-- 'coinagelaw03.CountingPascal': WHATEVER THE INPUT: true; the input reads as it did. -/
def countingPascalSpec : ChangeSpec := { name := "countingPascal", fn := fun _ => fun
  | [d1, d2] => { results := [.lit (.bool true)], args := [d1, d2] }
  | _ => none }
def countingPascalRow : OpenClaim := { program := "ythikgbgmnlmmlaadoor", sum := "98142ff8b19b58a8747a66704bf3567d0db1e560eb56492b415946d13955b9c8", func := "coinage/coinagelaw03.CountingPascal", spec := "countingPascal", inPlace := ["internal/abi.NoEscape", "internal/bytealg.MakeNoZero"], named := ["internal/strconv.uint64pow10", "math/bits.deBruijn32tab", "math/bits.deBruijn64tab"], apart := false, laid := [("math/bits.deBruijn32tab", laid_math_bits_deBruijn32tab), ("math/bits.deBruijn64tab", laid_math_bits_deBruijn64tab), ("internal/strconv.uint64pow10", laid_internal_strconv_uint64pow10)] }
def CountingPascalSaid : Prop := countingPascalRow.holds Tryd.pinned (OpenSpec.ofChange countingPascalSpec)

/-- ITS FALSE NEIGHBOUR: 'it returns false'. Refute it at one input. -/
def countingPascalWrong : ChangeSpec := { name := "countingPascal", fn := fun _ => fun
  | [d1, d2] => { results := [.lit (.bool false)], args := [d1, d2] }
  | _ => none }
def CountingPascalWrongFalsely : Prop := countingPascalRow.holds Tryd.pinned (OpenSpec.ofChange countingPascalWrong)

/-- 'coinagelaw03.CountingParts': WHATEVER THE INPUT: true; the input reads as it did. -/
def countingPartsSpec : ChangeSpec := { name := "countingParts", fn := fun _ => fun
  | [d1, d2] => { results := [.lit (.bool true)], args := [d1, d2] }
  | _ => none }
def countingPartsRow : OpenClaim := { program := "ythikgbgmnlmmlaadoor", sum := "98142ff8b19b58a8747a66704bf3567d0db1e560eb56492b415946d13955b9c8", func := "coinage/coinagelaw03.CountingParts", spec := "countingParts", inPlace := ["internal/abi.NoEscape", "internal/bytealg.MakeNoZero"], named := ["internal/strconv.uint64pow10", "math/bits.deBruijn32tab", "math/bits.deBruijn64tab"], apart := false, laid := [("math/bits.deBruijn32tab", laid_math_bits_deBruijn32tab), ("math/bits.deBruijn64tab", laid_math_bits_deBruijn64tab), ("internal/strconv.uint64pow10", laid_internal_strconv_uint64pow10)] }
def CountingPartsSaid : Prop := countingPartsRow.holds Tryd.pinned (OpenSpec.ofChange countingPartsSpec)

/-- ITS FALSE NEIGHBOUR: 'it returns false'. Refute it at one input. -/
def countingPartsWrong : ChangeSpec := { name := "countingParts", fn := fun _ => fun
  | [d1, d2] => { results := [.lit (.bool false)], args := [d1, d2] }
  | _ => none }
def CountingPartsWrongFalsely : Prop := countingPartsRow.holds Tryd.pinned (OpenSpec.ofChange countingPartsWrong)

/-- 'coinagelaw03.CountingUnranks': WHATEVER THE INPUT: true; the input reads as it did. -/
def countingUnranksSpec : ChangeSpec := { name := "countingUnranks", fn := fun _ => fun
  | [d1, d2, d3] => { results := [.lit (.bool true)], args := [d1, d2, d3] }
  | _ => none }
def countingUnranksRow : OpenClaim := { program := "ythikgbgmnlmmlaadoor", sum := "98142ff8b19b58a8747a66704bf3567d0db1e560eb56492b415946d13955b9c8", func := "coinage/coinagelaw03.CountingUnranks", spec := "countingUnranks", inPlace := ["internal/abi.NoEscape", "internal/bytealg.MakeNoZero"], named := ["internal/strconv.uint64pow10", "math/bits.deBruijn32tab", "math/bits.deBruijn64tab"], apart := false, laid := [("math/bits.deBruijn32tab", laid_math_bits_deBruijn32tab), ("math/bits.deBruijn64tab", laid_math_bits_deBruijn64tab), ("internal/strconv.uint64pow10", laid_internal_strconv_uint64pow10)] }
def CountingUnranksSaid : Prop := countingUnranksRow.holds Tryd.pinned (OpenSpec.ofChange countingUnranksSpec)

/-- ITS FALSE NEIGHBOUR: 'it returns false'. Refute it at one input. -/
def countingUnranksWrong : ChangeSpec := { name := "countingUnranks", fn := fun _ => fun
  | [d1, d2, d3] => { results := [.lit (.bool false)], args := [d1, d2, d3] }
  | _ => none }
def CountingUnranksWrongFalsely : Prop := countingUnranksRow.holds Tryd.pinned (OpenSpec.ofChange countingUnranksWrong)

/-- 'coinagelaw03.CountingInverse': WHATEVER THE INPUT: true; the input reads as it did. -/
def countingInverseSpec : ChangeSpec := { name := "countingInverse", fn := fun _ => fun
  | [d1, d2] => { results := [.lit (.bool true)], args := [d1, d2] }
  | _ => none }
def countingInverseRow : OpenClaim := { program := "ythikgbgmnlmmlaadoor", sum := "98142ff8b19b58a8747a66704bf3567d0db1e560eb56492b415946d13955b9c8", func := "coinage/coinagelaw03.CountingInverse", spec := "countingInverse", inPlace := ["internal/abi.NoEscape", "internal/bytealg.MakeNoZero"], named := ["internal/strconv.uint64pow10", "math/bits.deBruijn32tab", "math/bits.deBruijn64tab"], apart := false, laid := [("math/bits.deBruijn32tab", laid_math_bits_deBruijn32tab), ("math/bits.deBruijn64tab", laid_math_bits_deBruijn64tab), ("internal/strconv.uint64pow10", laid_internal_strconv_uint64pow10)] }
def CountingInverseSaid : Prop := countingInverseRow.holds Tryd.pinned (OpenSpec.ofChange countingInverseSpec)

/-- ITS FALSE NEIGHBOUR: 'it returns false'. Refute it at one input. -/
def countingInverseWrong : ChangeSpec := { name := "countingInverse", fn := fun _ => fun
  | [d1, d2] => { results := [.lit (.bool false)], args := [d1, d2] }
  | _ => none }
def CountingInverseWrongFalsely : Prop := countingInverseRow.holds Tryd.pinned (OpenSpec.ofChange countingInverseWrong)

/-- 'coinagelaw03.CountingPowers': WHATEVER THE INPUT: true; the input reads as it did. -/
def countingPowersSpec : ChangeSpec := { name := "countingPowers", fn := fun _ => fun
  | [d1, d2] => { results := [.lit (.bool true)], args := [d1, d2] }
  | _ => none }
def countingPowersRow : OpenClaim := { program := "ythikgbgmnlmmlaadoor", sum := "98142ff8b19b58a8747a66704bf3567d0db1e560eb56492b415946d13955b9c8", func := "coinage/coinagelaw03.CountingPowers", spec := "countingPowers", inPlace := ["internal/abi.NoEscape", "internal/bytealg.MakeNoZero"], named := ["internal/strconv.uint64pow10", "math/bits.deBruijn32tab", "math/bits.deBruijn64tab"], apart := false, laid := [("math/bits.deBruijn32tab", laid_math_bits_deBruijn32tab), ("math/bits.deBruijn64tab", laid_math_bits_deBruijn64tab), ("internal/strconv.uint64pow10", laid_internal_strconv_uint64pow10)] }
def CountingPowersSaid : Prop := countingPowersRow.holds Tryd.pinned (OpenSpec.ofChange countingPowersSpec)

/-- ITS FALSE NEIGHBOUR: 'it returns false'. Refute it at one input. -/
def countingPowersWrong : ChangeSpec := { name := "countingPowers", fn := fun _ => fun
  | [d1, d2] => { results := [.lit (.bool false)], args := [d1, d2] }
  | _ => none }
def CountingPowersWrongFalsely : Prop := countingPowersRow.holds Tryd.pinned (OpenSpec.ofChange countingPowersWrong)

/- THE SECOND FORM. 'bulk': how many values and letters a reading holds, each counted each time it is reached (what is shared counts as often as it is met; a slice's spare places count too). A statement '..UptoSaid' is the law's where the arguments, and the package variables that the reading takes, are together of bulk at most 1048576: NARROWER than '..Said'. Prove '..Said' where nothing that the law and all that it calls make is longer than what came in: it says more and counts as full. Else prove '..UptoSaid'. A law counts once. -/
mutual
def uptoBulk {H : Type} : DataW H → Nat
  | .lit (.string bytes) => bytes.length + 1
  | .lit _ => 1
  | .nil => 1
  | .ptr d => uptoBulk d + 1
  | .slice elems spare => uptoBulkAll elems + uptoBulkAll spare + 1
  | .agg parts => uptoBulkAll parts + 1
  | .iface _ d => uptoBulk d + 1
  | .map entries => uptoBulkEntries entries + 1
  | .held _ => 1
def uptoBulkAll {H : Type} : List (DataW H) → Nat
  | [] => 0
  | d :: r => uptoBulk d + uptoBulkAll r
def uptoBulkEntries {H : Type} : List (Lit × DataW H) → Nat
  | [] => 0
  | x :: r => uptoBulkEntry x + uptoBulkEntries r
def uptoBulkEntry {H : Type} : Lit × DataW H → Nat
  | (.string bytes, d) => bytes.length + uptoBulk d + 1
  | (_, d) => uptoBulk d + 1
 end
def uptoSmall : (H : Type) → List (DataW H) → Bool := fun _ ds => decide (uptoBulkAll ds ≤ 1048576)
def OpenSpec.upto (s : _root_.Go.ChangeSpec) : _root_.Go.OpenSpec := { _root_.Go.OpenSpec.ofChange s with cond := some uptoSmall }

/-- 'coinagelaw03.CountingChoices', WHERE WHAT IT READS IS OF BULK AT MOST 1048576: true; the input reads as it did. -/
def countingChoicesUptoRow : OpenClaim := { program := "ythikgbgmnlmmlaadoor", sum := "98142ff8b19b58a8747a66704bf3567d0db1e560eb56492b415946d13955b9c8", func := "coinage/coinagelaw03.CountingChoices", spec := "countingChoices", inPlace := ["internal/abi.NoEscape", "internal/bytealg.MakeNoZero"], named := ["internal/strconv.uint64pow10", "math/bits.deBruijn32tab", "math/bits.deBruijn64tab"], apart := false, laid := [("math/bits.deBruijn32tab", laid_math_bits_deBruijn32tab), ("math/bits.deBruijn64tab", laid_math_bits_deBruijn64tab), ("internal/strconv.uint64pow10", laid_internal_strconv_uint64pow10)], narrowed := true }
def CountingChoicesUptoSaid : Prop := countingChoicesUptoRow.holds Tryd.pinned (OpenSpec.upto countingChoicesSpec)

/-- 'coinagelaw03.CountingRanks', WHERE WHAT IT READS IS OF BULK AT MOST 1048576: true; the input reads as it did. -/
def countingRanksUptoRow : OpenClaim := { program := "ythikgbgmnlmmlaadoor", sum := "98142ff8b19b58a8747a66704bf3567d0db1e560eb56492b415946d13955b9c8", func := "coinage/coinagelaw03.CountingRanks", spec := "countingRanks", inPlace := ["internal/abi.NoEscape", "internal/bytealg.MakeNoZero"], named := ["internal/strconv.uint64pow10", "math/bits.deBruijn32tab", "math/bits.deBruijn64tab"], apart := false, laid := [("math/bits.deBruijn32tab", laid_math_bits_deBruijn32tab), ("math/bits.deBruijn64tab", laid_math_bits_deBruijn64tab), ("internal/strconv.uint64pow10", laid_internal_strconv_uint64pow10)], narrowed := true }
def CountingRanksUptoSaid : Prop := countingRanksUptoRow.holds Tryd.pinned (OpenSpec.upto countingRanksSpec)

/-- 'coinagelaw03.CountingSteps', WHERE WHAT IT READS IS OF BULK AT MOST 1048576: true; the input reads as it did. -/
def countingStepsUptoRow : OpenClaim := { program := "ythikgbgmnlmmlaadoor", sum := "98142ff8b19b58a8747a66704bf3567d0db1e560eb56492b415946d13955b9c8", func := "coinage/coinagelaw03.CountingSteps", spec := "countingSteps", inPlace := ["internal/abi.NoEscape", "internal/bytealg.MakeNoZero"], named := ["internal/strconv.uint64pow10", "math/bits.deBruijn32tab", "math/bits.deBruijn64tab"], apart := false, laid := [("math/bits.deBruijn32tab", laid_math_bits_deBruijn32tab), ("math/bits.deBruijn64tab", laid_math_bits_deBruijn64tab), ("internal/strconv.uint64pow10", laid_internal_strconv_uint64pow10)], narrowed := true }
def CountingStepsUptoSaid : Prop := countingStepsUptoRow.holds Tryd.pinned (OpenSpec.upto countingStepsSpec)

/-- 'coinagelaw03.CountingProducts', WHERE WHAT IT READS IS OF BULK AT MOST 1048576: true; the input reads as it did. -/
def countingProductsUptoRow : OpenClaim := { program := "ythikgbgmnlmmlaadoor", sum := "98142ff8b19b58a8747a66704bf3567d0db1e560eb56492b415946d13955b9c8", func := "coinage/coinagelaw03.CountingProducts", spec := "countingProducts", inPlace := ["internal/abi.NoEscape", "internal/bytealg.MakeNoZero"], named := ["internal/strconv.uint64pow10", "math/bits.deBruijn32tab", "math/bits.deBruijn64tab"], apart := false, laid := [("math/bits.deBruijn32tab", laid_math_bits_deBruijn32tab), ("math/bits.deBruijn64tab", laid_math_bits_deBruijn64tab), ("internal/strconv.uint64pow10", laid_internal_strconv_uint64pow10)], narrowed := true }
def CountingProductsUptoSaid : Prop := countingProductsUptoRow.holds Tryd.pinned (OpenSpec.upto countingProductsSpec)

/-- 'coinagelaw03.CountingPascal', WHERE WHAT IT READS IS OF BULK AT MOST 1048576: true; the input reads as it did. -/
def countingPascalUptoRow : OpenClaim := { program := "ythikgbgmnlmmlaadoor", sum := "98142ff8b19b58a8747a66704bf3567d0db1e560eb56492b415946d13955b9c8", func := "coinage/coinagelaw03.CountingPascal", spec := "countingPascal", inPlace := ["internal/abi.NoEscape", "internal/bytealg.MakeNoZero"], named := ["internal/strconv.uint64pow10", "math/bits.deBruijn32tab", "math/bits.deBruijn64tab"], apart := false, laid := [("math/bits.deBruijn32tab", laid_math_bits_deBruijn32tab), ("math/bits.deBruijn64tab", laid_math_bits_deBruijn64tab), ("internal/strconv.uint64pow10", laid_internal_strconv_uint64pow10)], narrowed := true }
def CountingPascalUptoSaid : Prop := countingPascalUptoRow.holds Tryd.pinned (OpenSpec.upto countingPascalSpec)

/-- 'coinagelaw03.CountingParts', WHERE WHAT IT READS IS OF BULK AT MOST 1048576: true; the input reads as it did. -/
def countingPartsUptoRow : OpenClaim := { program := "ythikgbgmnlmmlaadoor", sum := "98142ff8b19b58a8747a66704bf3567d0db1e560eb56492b415946d13955b9c8", func := "coinage/coinagelaw03.CountingParts", spec := "countingParts", inPlace := ["internal/abi.NoEscape", "internal/bytealg.MakeNoZero"], named := ["internal/strconv.uint64pow10", "math/bits.deBruijn32tab", "math/bits.deBruijn64tab"], apart := false, laid := [("math/bits.deBruijn32tab", laid_math_bits_deBruijn32tab), ("math/bits.deBruijn64tab", laid_math_bits_deBruijn64tab), ("internal/strconv.uint64pow10", laid_internal_strconv_uint64pow10)], narrowed := true }
def CountingPartsUptoSaid : Prop := countingPartsUptoRow.holds Tryd.pinned (OpenSpec.upto countingPartsSpec)

/-- 'coinagelaw03.CountingUnranks', WHERE WHAT IT READS IS OF BULK AT MOST 1048576: true; the input reads as it did. -/
def countingUnranksUptoRow : OpenClaim := { program := "ythikgbgmnlmmlaadoor", sum := "98142ff8b19b58a8747a66704bf3567d0db1e560eb56492b415946d13955b9c8", func := "coinage/coinagelaw03.CountingUnranks", spec := "countingUnranks", inPlace := ["internal/abi.NoEscape", "internal/bytealg.MakeNoZero"], named := ["internal/strconv.uint64pow10", "math/bits.deBruijn32tab", "math/bits.deBruijn64tab"], apart := false, laid := [("math/bits.deBruijn32tab", laid_math_bits_deBruijn32tab), ("math/bits.deBruijn64tab", laid_math_bits_deBruijn64tab), ("internal/strconv.uint64pow10", laid_internal_strconv_uint64pow10)], narrowed := true }
def CountingUnranksUptoSaid : Prop := countingUnranksUptoRow.holds Tryd.pinned (OpenSpec.upto countingUnranksSpec)

/-- 'coinagelaw03.CountingInverse', WHERE WHAT IT READS IS OF BULK AT MOST 1048576: true; the input reads as it did. -/
def countingInverseUptoRow : OpenClaim := { program := "ythikgbgmnlmmlaadoor", sum := "98142ff8b19b58a8747a66704bf3567d0db1e560eb56492b415946d13955b9c8", func := "coinage/coinagelaw03.CountingInverse", spec := "countingInverse", inPlace := ["internal/abi.NoEscape", "internal/bytealg.MakeNoZero"], named := ["internal/strconv.uint64pow10", "math/bits.deBruijn32tab", "math/bits.deBruijn64tab"], apart := false, laid := [("math/bits.deBruijn32tab", laid_math_bits_deBruijn32tab), ("math/bits.deBruijn64tab", laid_math_bits_deBruijn64tab), ("internal/strconv.uint64pow10", laid_internal_strconv_uint64pow10)], narrowed := true }
def CountingInverseUptoSaid : Prop := countingInverseUptoRow.holds Tryd.pinned (OpenSpec.upto countingInverseSpec)

/-- 'coinagelaw03.CountingPowers', WHERE WHAT IT READS IS OF BULK AT MOST 1048576: true; the input reads as it did. -/
def countingPowersUptoRow : OpenClaim := { program := "ythikgbgmnlmmlaadoor", sum := "98142ff8b19b58a8747a66704bf3567d0db1e560eb56492b415946d13955b9c8", func := "coinage/coinagelaw03.CountingPowers", spec := "countingPowers", inPlace := ["internal/abi.NoEscape", "internal/bytealg.MakeNoZero"], named := ["internal/strconv.uint64pow10", "math/bits.deBruijn32tab", "math/bits.deBruijn64tab"], apart := false, laid := [("math/bits.deBruijn32tab", laid_math_bits_deBruijn32tab), ("math/bits.deBruijn64tab", laid_math_bits_deBruijn64tab), ("internal/strconv.uint64pow10", laid_internal_strconv_uint64pow10)], narrowed := true }
def CountingPowersUptoSaid : Prop := countingPowersUptoRow.holds Tryd.pinned (OpenSpec.upto countingPowersSpec)

end Rows
end Go.Proofs.YthikgbgmnlmmlaaDoor
