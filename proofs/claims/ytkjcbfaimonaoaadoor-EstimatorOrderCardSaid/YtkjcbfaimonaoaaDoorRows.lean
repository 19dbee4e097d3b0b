/-
  NARROWER THAN 'FOR EVERY INPUT', by the rows' own cells (each row's printed sentence says how): EstimatorCounts: laid · EstimatorShares: laid · EstimatorDoubled: laid · EstimatorSums: laid · EstimatorBounds: laid · EstimatorOrder: laid · EstimatorLists: laid · EstimatorSpecimens: laid · EstimatorLeast: laid.
  DERIVED. THE GIVEN ROWS OF THIS SEAT. 9 by the template 'for every input the law returns true; each argument reads behind the call as it read before'; 0 by the template 'total and deterministic' (their statements: YtkjcbfaimonaoaaDoorTotals.lean).
  GIVEN WITH THE SEED: the statements are not yours to turn. If you find one false, say at which input.
  Laid BY PROGRAM, IN A SANDBOX (cutbox-rows.mjs): the forced cells as the released guide's own fill.sh prints them over the translation d0bfb798f470ff1c… (all of the seat's roots in one cut). By AI agents, Wed Nov 11 2026. No macro, syntax, notation, axiom, sorry.
-/
import Derived.Test.YtkjcbfaimonaoaaDoorChecked
import GoSem.Claim
import GoSem.ClaimJoined
import GoSem.ClaimMapViews
import Derived.JoinedTies
import Derived.KernelRfl
namespace Go.Proofs.YtkjcbfaimonaoaaDoor
/- THE CELL 'sum', in the pinned program and in every row, IS THE sha256 OF THE DUMP (.gsa) THAT YtkjcbfaimonaoaaDoorProg.lean LOADS. Nothing in Lean hashes anything: it is a label: what it is worth is what the hold of that sum in a sandbox is worth. -/
noncomputable def Tryd.pinned : Pinned := { name := "ytkjcbfaimonaoaadoor", sum := "d0bfb798f470ff1c39ad8da30d9a73353f5238ffc469573a04b027116236ca74", checked := Tryd.checked }
namespace Rows
def none {H : Type} : Left H := { results := [], args := [] }

/- WHAT THE LISTED PACKAGE-LEVEL VARIABLES READ AS WHEN THE CALL BEGINS. Each datum BY PROGRAM (the guide's laid-datum.mjs) off the statement by which the dump's own 'gosem.cut.vars' lays the variable. In a bare row this is a premise. The card (YtkjcbfaimonaoaaDoorCards.lean) ties it to the program's text. -/
def laid_math_bits_deBruijn32tab {H : Type} : DataW H := .agg [.lit (.int .u8 0), .lit (.int .u8 1), .lit (.int .u8 28), .lit (.int .u8 2), .lit (.int .u8 29), .lit (.int .u8 14), .lit (.int .u8 24), .lit (.int .u8 3), .lit (.int .u8 30), .lit (.int .u8 22), .lit (.int .u8 20), .lit (.int .u8 15), .lit (.int .u8 25), .lit (.int .u8 17), .lit (.int .u8 4), .lit (.int .u8 8), .lit (.int .u8 31), .lit (.int .u8 27), .lit (.int .u8 13), .lit (.int .u8 23), .lit (.int .u8 21), .lit (.int .u8 19), .lit (.int .u8 16), .lit (.int .u8 7), .lit (.int .u8 26), .lit (.int .u8 12), .lit (.int .u8 18), .lit (.int .u8 6), .lit (.int .u8 11), .lit (.int .u8 5), .lit (.int .u8 10), .lit (.int .u8 9)]
def laid_math_bits_deBruijn64tab {H : Type} : DataW H := .agg [.lit (.int .u8 0), .lit (.int .u8 1), .lit (.int .u8 56), .lit (.int .u8 2), .lit (.int .u8 57), .lit (.int .u8 49), .lit (.int .u8 28), .lit (.int .u8 3), .lit (.int .u8 61), .lit (.int .u8 58), .lit (.int .u8 42), .lit (.int .u8 50), .lit (.int .u8 38), .lit (.int .u8 29), .lit (.int .u8 17), .lit (.int .u8 4), .lit (.int .u8 62), .lit (.int .u8 47), .lit (.int .u8 59), .lit (.int .u8 36), .lit (.int .u8 45), .lit (.int .u8 43), .lit (.int .u8 51), .lit (.int .u8 22), .lit (.int .u8 53), .lit (.int .u8 39), .lit (.int .u8 33), .lit (.int .u8 30), .lit (.int .u8 24), .lit (.int .u8 18), .lit (.int .u8 12), .lit (.int .u8 5), .lit (.int .u8 63), .lit (.int .u8 55), .lit (.int .u8 48), .lit (.int .u8 27), .lit (.int .u8 60), .lit (.int .u8 41), .lit (.int .u8 37), .lit (.int .u8 16), .lit (.int .u8 46), .lit (.int .u8 35), .lit (.int .u8 44), .lit (.int .u8 21), .lit (.int .u8 52), .lit (.int .u8 32), .lit (.int .u8 23), .lit (.int .u8 11), .lit (.int .u8 54), .lit (.int .u8 26), .lit (.int .u8 40), .lit (.int .u8 15), .lit (.int .u8 34), .lit (.int .u8 20), .lit (.int .u8 31), .lit (.int .u8 10), .lit (.int .u8 25), .lit (.int .u8 14), .lit (.int .u8 19), .lit (.int .u8 9), .lit (.int .u8 13), .lit (.int .u8 8), .lit (.int .u8 7), .lit (.int .u8 6)]
def laid_internal_strconv_uint64pow10 {H : Type} : DataW H := .agg [.lit (.int .u64 1), .lit (.int .u64 10), .lit (.int .u64 100), .lit (.int .u64 1000), .lit (.int .u64 10000), .lit (.int .u64 100000), .lit (.int .u64 1000000), .lit (.int .u64 10000000), .lit (.int .u64 100000000), .lit (.int .u64 1000000000), .lit (.int .u64 10000000000), .lit (.int .u64 100000000000), .lit (.int .u64 1000000000000), .lit (.int .u64 10000000000000), .lit (.int .u64 100000000000000), .lit (.int .u64 1000000000000000), .lit (.int .u64 10000000000000000), .lit (.int .u64 100000000000000000), .lit (.int .u64 1000000000000000000), .lit (.int .u64 10000000000000000000)]

/-- 'coinagelaw42.EstimatorCounts': WHATEVER THE INPUT: true; the input reads as it did. -/
def estimatorCountsSpec : ChangeSpec := { name := "estimatorCounts", fn := fun _ => fun
  | [d] => { results := [.lit (.bool true)], args := [d] }
  | _ => none }
def estimatorCountsRow : OpenClaim := { program := "ytkjcbfaimonaoaadoor", sum := "d0bfb798f470ff1c39ad8da30d9a73353f5238ffc469573a04b027116236ca74", func := "coinage/coinagelaw42.EstimatorCounts", spec := "estimatorCounts", inPlace := ["internal/abi.NoEscape", "internal/bytealg.MakeNoZero"], named := ["internal/strconv.uint64pow10", "math/bits.deBruijn32tab", "math/bits.deBruijn64tab"], apart := false, laid := [("math/bits.deBruijn32tab", laid_math_bits_deBruijn32tab), ("math/bits.deBruijn64tab", laid_math_bits_deBruijn64tab), ("internal/strconv.uint64pow10", laid_internal_strconv_uint64pow10)] }
def EstimatorCountsSaid : Prop := estimatorCountsRow.holds Tryd.pinned (OpenSpec.ofChange estimatorCountsSpec)

/-- ITS FALSE NEIGHBOUR: 'it returns false'. Refute it at one input. -/
def estimatorCountsWrong : ChangeSpec := { name := "estimatorCounts", fn := fun _ => fun
  | [d] => { results := [.lit (.bool false)], args := [d] }
  | _ => none }
def EstimatorCountsWrongFalsely : Prop := estimatorCountsRow.holds Tryd.pinned (OpenSpec.ofChange estimatorCountsWrong)

/-- 'coinagelaw42.EstimatorShares': WHATEVER THE INPUT: true; the input reads as it did. -/
def estimatorSharesSpec : ChangeSpec := { name := "estimatorShares", fn := fun _ => fun
  | [d] => { results := [.lit (.bool true)], args := [d] }
  | _ => none }
def estimatorSharesRow : OpenClaim := { program := "ytkjcbfaimonaoaadoor", sum := "d0bfb798f470ff1c39ad8da30d9a73353f5238ffc469573a04b027116236ca74", func := "coinage/coinagelaw42.EstimatorShares", spec := "estimatorShares", inPlace := ["internal/abi.NoEscape", "internal/bytealg.MakeNoZero"], named := ["internal/strconv.uint64pow10", "math/bits.deBruijn32tab", "math/bits.deBruijn64tab"], apart := false, laid := [("math/bits.deBruijn32tab", laid_math_bits_deBruijn32tab), ("math/bits.deBruijn64tab", laid_math_bits_deBruijn64tab), ("internal/strconv.uint64pow10", laid_internal_strconv_uint64pow10)] }
def EstimatorSharesSaid : Prop := estimatorSharesRow.holds Tryd.pinned (OpenSpec.ofChange estimatorSharesSpec)

/-- ITS FALSE NEIGHBOUR: 'it returns false'. Refute it at one input. -/
def estimatorSharesWrong : ChangeSpec := { name := "estimatorShares", fn := fun _ => fun
  | [d] => { results := [.lit (.bool false)], args := [d] }
  | _ => none }
def EstimatorSharesWrongFalsely : Prop := estimatorSharesRow.holds Tryd.pinned (OpenSpec.ofChange estimatorSharesWrong)

/-- 'coinagelaw42.EstimatorDoubled': WHATEVER THE INPUT: true; the input reads as it did. -/
def estimatorDoubledSpec : ChangeSpec := { name := "estimatorDoubled", fn := fun _ => fun
  | [d] => { results := [.lit (.bool true)], args := [d] }
  | _ => none }
def estimatorDoubledRow : OpenClaim := { program := "ytkjcbfaimonaoaadoor", sum := "d0bfb798f470ff1c39ad8da30d9a73353f5238ffc469573a04b027116236ca74", func := "coinage/coinagelaw42.EstimatorDoubled", spec := "estimatorDoubled", inPlace := ["internal/abi.NoEscape", "internal/bytealg.MakeNoZero"], named := ["internal/strconv.uint64pow10", "math/bits.deBruijn32tab", "math/bits.deBruijn64tab"], apart := false, laid := [("math/bits.deBruijn32tab", laid_math_bits_deBruijn32tab), ("math/bits.deBruijn64tab", laid_math_bits_deBruijn64tab), ("internal/strconv.uint64pow10", laid_internal_strconv_uint64pow10)] }
def EstimatorDoubledSaid : Prop := estimatorDoubledRow.holds Tryd.pinned (OpenSpec.ofChange estimatorDoubledSpec)

/-- ITS FALSE NEIGHBOUR: 'it returns false'. Refute it at one input. -/
def estimatorDoubledWrong : ChangeSpec := { name := "estimatorDoubled", fn := fun _ => fun
  | [d] => { results := [.lit (.bool false)], args := [d] }
  | _ => none }
def EstimatorDoubledWrongFalsely : Prop := estimatorDoubledRow.holds Tryd.pinned (OpenSpec.ofChange estimatorDoubledWrong)

/-- 'coinagelaw42.EstimatorSums': WHATEVER THE INPUT: true; the input reads as it did. -/
def estimatorSumsSpec : ChangeSpec := { name := "estimatorSums", fn := fun _ => fun
  | [d] => { results := [.lit (.bool true)], args := [d] }
  | _ => none }
def estimatorSumsRow : OpenClaim := { program := "ytkjcbfaimonaoaadoor", sum := "d0bfb798f470ff1c39ad8da30d9a73353f5238ffc469573a04b027116236ca74", func := "coinage/coinagelaw42.EstimatorSums", spec := "estimatorSums", inPlace := ["internal/abi.NoEscape", "internal/bytealg.MakeNoZero"], named := ["internal/strconv.uint64pow10", "math/bits.deBruijn32tab", "math/bits.deBruijn64tab"], apart := false, laid := [("math/bits.deBruijn32tab", laid_math_bits_deBruijn32tab), ("math/bits.deBruijn64tab", laid_math_bits_deBruijn64tab), ("internal/strconv.uint64pow10", laid_internal_strconv_uint64pow10)] }
def EstimatorSumsSaid : Prop := estimatorSumsRow.holds Tryd.pinned (OpenSpec.ofChange estimatorSumsSpec)

/-- ITS FALSE NEIGHBOUR: 'it returns false'. Refute it at one input. -/
def estimatorSumsWrong : ChangeSpec := { name := "estimatorSums", fn := fun _ => fun
  | [d] => { results := [.lit (.bool false)], args := [d] }
  | _ => none }
def EstimatorSumsWrongFalsely : Prop := estimatorSumsRow.holds Tryd.pinned (OpenSpec.ofChange estimatorSumsWrong)

/-- 'coinagelaw42.EstimatorBounds': WHATEVER THE INPUT: true; the input reads as it did. -/
def estimatorBoundsSpec : ChangeSpec := { name := "estimatorBounds", fn := fun _ => fun
  | [d] => { results := [.lit (.bool true)], args := [d] }
  | _ => none }
def estimatorBoundsRow : OpenClaim := { program := "ytkjcbfaimonaoaadoor", sum := "d0bfb798f470ff1c39ad8da30d9a73353f5238ffc469573a04b027116236ca74", func := "coinage/coinagelaw42.EstimatorBounds", spec := "estimatorBounds", inPlace := ["internal/abi.NoEscape", "internal/bytealg.MakeNoZero"], named := ["internal/strconv.uint64pow10", "math/bits.deBruijn32tab", "math/bits.deBruijn64tab"], apart := false, laid := [("math/bits.deBruijn32tab", laid_math_bits_deBruijn32tab), ("math/bits.deBruijn64tab", laid_math_bits_deBruijn64tab), ("internal/strconv.uint64pow10", laid_internal_strconv_uint64pow10)] }
def EstimatorBoundsSaid : Prop := estimatorBoundsRow.holds Tryd.pinned (OpenSpec.ofChange estimatorBoundsSpec)

/-- ITS FALSE NEIGHBOUR: 'it returns false'. Refute it at one input. -/
def estimatorBoundsWrong : ChangeSpec := { name := "estimatorBounds", fn := fun _ => fun
  | [d] => { results := [.lit (.bool false)], args := [d] }
  | _ => none }
def EstimatorBoundsWrongFalsely : Prop := estimatorBoundsRow.holds Tryd.pinned (OpenSpec.ofChange estimatorBoundsWrong)

/-- 'coinagelaw42.EstimatorOrder': WHATEVER THE INPUT: true; the input reads as it did. -/
def estimatorOrderSpec : ChangeSpec := { name := "estimatorOrder", fn := fun _ => fun
  | [d1, d2] => { results := [.lit (.bool true)], args := [d1, d2] }
  | _ => none }
def estimatorOrderRow : OpenClaim := { program := "ytkjcbfaimonaoaadoor", sum := "d0bfb798f470ff1c39ad8da30d9a73353f5238ffc469573a04b027116236ca74", func := "coinage/coinagelaw42.EstimatorOrder", spec := "estimatorOrder", inPlace := ["internal/abi.NoEscape", "internal/bytealg.MakeNoZero"], named := ["internal/strconv.uint64pow10", "math/bits.deBruijn32tab", "math/bits.deBruijn64tab"], apart := false, laid := [("math/bits.deBruijn32tab", laid_math_bits_deBruijn32tab), ("math/bits.deBruijn64tab", laid_math_bits_deBruijn64tab), ("internal/strconv.uint64pow10", laid_internal_strconv_uint64pow10)] }
def EstimatorOrderSaid : Prop := estimatorOrderRow.holds Tryd.pinned (OpenSpec.ofChange estimatorOrderSpec)

/-- ITS FALSE NEIGHBOUR: 'it returns false'. Refute it at one input. -/
def estimatorOrderWrong : ChangeSpec := { name := "estimatorOrder", fn := fun _ => fun
  | [d1, d2] => { results := [.lit (.bool false)], args := [d1, d2] }
  | _ => none }
def EstimatorOrderWrongFalsely : Prop := estimatorOrderRow.holds Tryd.pinned (OpenSpec.ofChange estimatorOrderWrong)

/-- 'coinagelaw42.EstimatorLists': WHATEVER THE INPUT: true; the input reads as it did. -/
def estimatorListsSpec : ChangeSpec := { name := "estimatorLists", fn := fun _ => fun
  | [d1, d2] => { results := [.lit (.bool true)], args := [d1, d2] }
  | _ => none }
def estimatorListsRow : OpenClaim := { program := "ytkjcbfaimonaoaadoor", sum := "d0bfb798f470ff1c39ad8da30d9a73353f5238ffc469573a04b027116236ca74", func := "coinage/coinagelaw42.EstimatorLists", spec := "estimatorLists", inPlace := ["internal/abi.NoEscape", "internal/bytealg.MakeNoZero"], unfollowed := true, recurses := true, named := ["internal/strconv.uint64pow10", "math/bits.deBruijn32tab", "math/bits.deBruijn64tab"], apart := false, laid := [("math/bits.deBruijn32tab", laid_math_bits_deBruijn32tab), ("math/bits.deBruijn64tab", laid_math_bits_deBruijn64tab), ("internal/strconv.uint64pow10", laid_internal_strconv_uint64pow10)] }
def EstimatorListsSaid : Prop := estimatorListsRow.holds Tryd.pinned (OpenSpec.ofChange estimatorListsSpec)

/-- ITS FALSE NEIGHBOUR: 'it returns false'. Refute it at one input. -/
def estimatorListsWrong : ChangeSpec := { name := "estimatorLists", fn := fun _ => fun
  | [d1, d2] => { results := [.lit (.bool false)], args := [d1, d2] }
  | _ => none }
def EstimatorListsWrongFalsely : Prop := estimatorListsRow.holds Tryd.pinned (OpenSpec.ofChange estimatorListsWrong)

/-- 'coinagelaw42.EstimatorSpecimens': WHATEVER THE INPUT: true; the input reads as it did. -/
def estimatorSpecimensSpec : ChangeSpec := { name := "estimatorSpecimens", fn := fun _ => fun
  | [d1, d2] => { results := [.lit (.bool true)], args := [d1, d2] }
  | _ => none }
def estimatorSpecimensRow : OpenClaim := { program := "ytkjcbfaimonaoaadoor", sum := "d0bfb798f470ff1c39ad8da30d9a73353f5238ffc469573a04b027116236ca74", func := "coinage/coinagelaw42.EstimatorSpecimens", spec := "estimatorSpecimens", inPlace := ["internal/abi.NoEscape", "internal/bytealg.MakeNoZero"], unfollowed := true, recurses := true, named := ["internal/strconv.uint64pow10", "math/bits.deBruijn32tab", "math/bits.deBruijn64tab"], apart := false, laid := [("math/bits.deBruijn32tab", laid_math_bits_deBruijn32tab), ("math/bits.deBruijn64tab", laid_math_bits_deBruijn64tab), ("internal/strconv.uint64pow10", laid_internal_strconv_uint64pow10)] }
def EstimatorSpecimensSaid : Prop := estimatorSpecimensRow.holds Tryd.pinned (OpenSpec.ofChange estimatorSpecimensSpec)

/-- ITS FALSE NEIGHBOUR: 'it returns false'. Refute it at one input. -/
def estimatorSpecimensWrong : ChangeSpec := { name := "estimatorSpecimens", fn := fun _ => fun
  | [d1, d2] => { results := [.lit (.bool false)], args := [d1, d2] }
  | _ => none }
def EstimatorSpecimensWrongFalsely : Prop := estimatorSpecimensRow.holds Tryd.pinned (OpenSpec.ofChange estimatorSpecimensWrong)

/-- 'coinagelaw42.EstimatorLeast': WHATEVER THE INPUT: true; the input reads as it did. -/
def estimatorLeastSpec : ChangeSpec := { name := "estimatorLeast", fn := fun _ => fun
  | [d] => { results := [.lit (.bool true)], args := [d] }
  | _ => none }
def estimatorLeastRow : OpenClaim := { program := "ytkjcbfaimonaoaadoor", sum := "d0bfb798f470ff1c39ad8da30d9a73353f5238ffc469573a04b027116236ca74", func := "coinage/coinagelaw42.EstimatorLeast", spec := "estimatorLeast", inPlace := ["internal/abi.NoEscape", "internal/bytealg.MakeNoZero"], named := ["internal/strconv.uint64pow10", "math/bits.deBruijn32tab", "math/bits.deBruijn64tab"], apart := false, laid := [("math/bits.deBruijn32tab", laid_math_bits_deBruijn32tab), ("math/bits.deBruijn64tab", laid_math_bits_deBruijn64tab), ("internal/strconv.uint64pow10", laid_internal_strconv_uint64pow10)] }
def EstimatorLeastSaid : Prop := estimatorLeastRow.holds Tryd.pinned (OpenSpec.ofChange estimatorLeastSpec)

/-- ITS FALSE NEIGHBOUR: 'it returns false'. Refute it at one input. -/
def estimatorLeastWrong : ChangeSpec := { name := "estimatorLeast", fn := fun _ => fun
  | [d] => { results := [.lit (.bool false)], args := [d] }
  | _ => none }
def EstimatorLeastWrongFalsely : Prop := estimatorLeastRow.holds Tryd.pinned (OpenSpec.ofChange estimatorLeastWrong)

/- THE SECOND FORM. 'bulk': how many values and letters a reading holds, each counted each time it is reached (what is shared counts as often as it is met; a slice's spare places count too). A statement '..UptoSaid' is the law's where the arguments, and the package variables that the reading takes, are together of bulk at most 1048576: NARROWER than '..Said'. Prove '..Said' where nothing that the law and all that it calls make is longer than what came in: it says more and counts as full. Else prove '..UptoSaid'. A law counts once. -/
mutual
def uptoBulk {H : Type} : DataW H → Nat
  | .lit (.string bytes) => bytes.length + 1
  | .lit _ => 1
  | .nil => 1
  | .ptr d => uptoBulk d + 1
  | .slice elems spare => uptoBulkAll elems + uptoBulkAll spare + 1
  | .agg parts => uptoBulkAll parts + 1
  | .iface _ d => uptoBulk d + 1
  | .map entries => uptoBulkEntries entries + 1
  | .held _ => 1
def uptoBulkAll {H : Type} : List (DataW H) → Nat
  | [] => 0
  | d :: r => uptoBulk d + uptoBulkAll r
def uptoBulkEntries {H : Type} : List (Lit × DataW H) → Nat
  | [] => 0
  | x :: r => uptoBulkEntry x + uptoBulkEntries r
def uptoBulkEntry {H : Type} : Lit × DataW H → Nat
  | (.string bytes, d) => bytes.length + uptoBulk d + 1
  | (_, d) => uptoBulk d + 1
 end
def uptoSmall : (H : Type) → List (DataW H) → Bool := fun _ ds => decide (uptoBulkAll ds ≤ 1048576)
def OpenSpec.upto (s : _root_.Go.ChangeSpec) : _root_.Go.OpenSpec := { _root_.Go.OpenSpec.ofChange s with cond := some uptoSmall }

/-- 'coinagelaw42.EstimatorCounts', WHERE WHAT IT READS IS OF BULK AT MOST 1048576: true; the input reads as it did. -/
def estimatorCountsUptoRow : OpenClaim := { program := "ytkjcbfaimonaoaadoor", sum := "d0bfb798f470ff1c39ad8da30d9a73353f5238ffc469573a04b027116236ca74", func := "coinage/coinagelaw42.EstimatorCounts", spec := "estimatorCounts", inPlace := ["internal/abi.NoEscape", "internal/bytealg.MakeNoZero"], named := ["internal/strconv.uint64pow10", "math/bits.deBruijn32tab", "math/bits.deBruijn64tab"], apart := false, laid := [("math/bits.deBruijn32tab", laid_math_bits_deBruijn32tab), ("math/bits.deBruijn64tab", laid_math_bits_deBruijn64tab), ("internal/strconv.uint64pow10", laid_internal_strconv_uint64pow10)], narrowed := true }
def EstimatorCountsUptoSaid : Prop := estimatorCountsUptoRow.holds Tryd.pinned (OpenSpec.upto estimatorCountsSpec)

/-- 'coinagelaw42.EstimatorShares', WHERE WHAT IT READS IS OF BULK AT MOST 1048576: true; the input reads as it did. -/
def estimatorSharesUptoRow : OpenClaim := { program := "ytkjcbfaimonaoaadoor", sum := "d0bfb798f470ff1c39ad8da30d9a73353f5238ffc469573a04b027116236ca74", func := "coinage/coinagelaw42.EstimatorShares", spec := "estimatorShares", inPlace := ["internal/abi.NoEscape", "internal/bytealg.MakeNoZero"], named := ["internal/strconv.uint64pow10", "math/bits.deBruijn32tab", "math/bits.deBruijn64tab"], apart := false, laid := [("math/bits.deBruijn32tab", laid_math_bits_deBruijn32tab), ("math/bits.deBruijn64tab", laid_math_bits_deBruijn64tab), ("internal/strconv.uint64pow10", laid_internal_strconv_uint64pow10)], narrowed := true }
def EstimatorSharesUptoSaid : Prop := estimatorSharesUptoRow.holds Tryd.pinned (OpenSpec.upto estimatorSharesSpec)

/-- 'coinagelaw42.EstimatorDoubled', WHERE WHAT IT READS IS OF BULK AT MOST 1048576: true; the input reads as it did. -/
def estimatorDoubledUptoRow : OpenClaim := { program := "ytkjcbfaimonaoaadoor", sum := "d0bfb798f470ff1c39ad8da30d9a73353f5238ffc469573a04b027116236ca74", func := "coinage/coinagelaw42.EstimatorDoubled", spec := "estimatorDoubled", inPlace := ["internal/abi.NoEscape", "internal/bytealg.MakeNoZero"], named := ["internal/strconv.uint64pow10", "math/bits.deBruijn32tab", "math/bits.deBruijn64tab"], apart := false, laid := [("math/bits.deBruijn32tab", laid_math_bits_deBruijn32tab), ("math/bits.deBruijn64tab", laid_math_bits_deBruijn64tab), ("internal/strconv.uint64pow10", laid_internal_strconv_uint64pow10)], narrowed := true }
def EstimatorDoubledUptoSaid : Prop := estimatorDoubledUptoRow.holds Tryd.pinned (OpenSpec.upto estimatorDoubledSpec)

/-- 'coinagelaw42.EstimatorSums', WHERE WHAT IT READS IS OF BULK AT MOST 1048576: true; the input reads as it did. -/
def estimatorSumsUptoRow : OpenClaim := { program := "ytkjcbfaimonaoaadoor", sum := "d0bfb798f470ff1c39ad8da30d9a73353f5238ffc469573a04b027116236ca74", func := "coinage/coinagelaw42.EstimatorSums", spec := "estimatorSums", inPlace := ["internal/abi.NoEscape", "internal/bytealg.MakeNoZero"], named := ["internal/strconv.uint64pow10", "math/bits.deBruijn32tab", "math/bits.deBruijn64tab"], apart := false, laid := [("math/bits.deBruijn32tab", laid_math_bits_deBruijn32tab), ("math/bits.deBruijn64tab", laid_math_bits_deBruijn64tab), ("internal/strconv.uint64pow10", laid_internal_strconv_uint64pow10)], narrowed := true }
def EstimatorSumsUptoSaid : Prop := estimatorSumsUptoRow.holds Tryd.pinned (OpenSpec.upto estimatorSumsSpec)

/-- 'coinagelaw42.EstimatorBounds', WHERE WHAT IT READS IS OF BULK AT MOST 1048576: true; the input reads as it did. -/
def estimatorBoundsUptoRow : OpenClaim := { program := "ytkjcbfaimonaoaadoor", sum := "d0bfb798f470ff1c39ad8da30d9a73353f5238ffc469573a04b027116236ca74", func := "coinage/coinagelaw42.EstimatorBounds", spec := "estimatorBounds", inPlace := ["internal/abi.NoEscape", "internal/bytealg.MakeNoZero"], named := ["internal/strconv.uint64pow10", "math/bits.deBruijn32tab", "math/bits.deBruijn64tab"], apart := false, laid := [("math/bits.deBruijn32tab", laid_math_bits_deBruijn32tab), ("math/bits.deBruijn64tab", laid_math_bits_deBruijn64tab), ("internal/strconv.uint64pow10", laid_internal_strconv_uint64pow10)], narrowed := true }
def EstimatorBoundsUptoSaid : Prop := estimatorBoundsUptoRow.holds Tryd.pinned (OpenSpec.upto estimatorBoundsSpec)

/-- 'coinagelaw42.EstimatorOrder', WHERE WHAT IT READS IS OF BULK AT MOST 1048576: true; the input reads as it did. -/
def estimatorOrderUptoRow : OpenClaim := { program := "ytkjcbfaimonaoaadoor", sum := "d0bfb798f470ff1c39ad8da30d9a73353f5238ffc469573a04b027116236ca74", func := "coinage/coinagelaw42.EstimatorOrder", spec := "estimatorOrder", inPlace := ["internal/abi.NoEscape", "internal/bytealg.MakeNoZero"], named := ["internal/strconv.uint64pow10", "math/bits.deBruijn32tab", "math/bits.deBruijn64tab"], apart := false, laid := [("math/bits.deBruijn32tab", laid_math_bits_deBruijn32tab), ("math/bits.deBruijn64tab", laid_math_bits_deBruijn64tab), ("internal/strconv.uint64pow10", laid_internal_strconv_uint64pow10)], narrowed := true }
def EstimatorOrderUptoSaid : Prop := estimatorOrderUptoRow.holds Tryd.pinned (OpenSpec.upto estimatorOrderSpec)

/-- 'coinagelaw42.EstimatorLists', WHERE WHAT IT READS IS OF BULK AT MOST 1048576: true; the input reads as it did. -/
def estimatorListsUptoRow : OpenClaim := { program := "ytkjcbfaimonaoaadoor", sum := "d0bfb798f470ff1c39ad8da30d9a73353f5238ffc469573a04b027116236ca74", func := "coinage/coinagelaw42.EstimatorLists", spec := "estimatorLists", inPlace := ["internal/abi.NoEscape", "internal/bytealg.MakeNoZero"], unfollowed := true, recurses := true, named := ["internal/strconv.uint64pow10", "math/bits.deBruijn32tab", "math/bits.deBruijn64tab"], apart := false, laid := [("math/bits.deBruijn32tab", laid_math_bits_deBruijn32tab), ("math/bits.deBruijn64tab", laid_math_bits_deBruijn64tab), ("internal/strconv.uint64pow10", laid_internal_strconv_uint64pow10)], narrowed := true }
def EstimatorListsUptoSaid : Prop := estimatorListsUptoRow.holds Tryd.pinned (OpenSpec.upto estimatorListsSpec)

/-- 'coinagelaw42.EstimatorSpecimens', WHERE WHAT IT READS IS OF BULK AT MOST 1048576: true; the input reads as it did. -/
def estimatorSpecimensUptoRow : OpenClaim := { program := "ytkjcbfaimonaoaadoor", sum := "d0bfb798f470ff1c39ad8da30d9a73353f5238ffc469573a04b027116236ca74", func := "coinage/coinagelaw42.EstimatorSpecimens", spec := "estimatorSpecimens", inPlace := ["internal/abi.NoEscape", "internal/bytealg.MakeNoZero"], unfollowed := true, recurses := true, named := ["internal/strconv.uint64pow10", "math/bits.deBruijn32tab", "math/bits.deBruijn64tab"], apart := false, laid := [("math/bits.deBruijn32tab", laid_math_bits_deBruijn32tab), ("math/bits.deBruijn64tab", laid_math_bits_deBruijn64tab), ("internal/strconv.uint64pow10", laid_internal_strconv_uint64pow10)], narrowed := true }
def EstimatorSpecimensUptoSaid : Prop := estimatorSpecimensUptoRow.holds Tryd.pinned (OpenSpec.upto estimatorSpecimensSpec)

/-- 'coinagelaw42.EstimatorLeast', WHERE WHAT IT READS IS OF BULK AT MOST 1048576: true; the input reads as it did. -/
def estimatorLeastUptoRow : OpenClaim := { program := "ytkjcbfaimonaoaadoor", sum := "d0bfb798f470ff1c39ad8da30d9a73353f5238ffc469573a04b027116236ca74", func := "coinage/coinagelaw42.EstimatorLeast", spec := "estimatorLeast", inPlace := ["internal/abi.NoEscape", "internal/bytealg.MakeNoZero"], named := ["internal/strconv.uint64pow10", "math/bits.deBruijn32tab", "math/bits.deBruijn64tab"], apart := false, laid := [("math/bits.deBruijn32tab", laid_math_bits_deBruijn32tab), ("math/bits.deBruijn64tab", laid_math_bits_deBruijn64tab), ("internal/strconv.uint64pow10", laid_internal_strconv_uint64pow10)], narrowed := true }
def EstimatorLeastUptoSaid : Prop := estimatorLeastUptoRow.holds Tryd.pinned (OpenSpec.upto estimatorLeastSpec)

end Rows
end Go.Proofs.YtkjcbfaimonaoaaDoor
