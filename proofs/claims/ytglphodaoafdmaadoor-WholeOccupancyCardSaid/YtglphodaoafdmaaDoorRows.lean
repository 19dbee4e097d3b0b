/-
  NARROWER THAN 'FOR EVERY INPUT', by the rows' own cells (each row's printed sentence says how): WholeOccupancy: laid · OccupancyChances: laid · OccupancySteps: laid · OccupancyCounts: laid · OccupancySingles: laid · OccupancyTails: laid · OccupancySums: laid · OccupancyEqual: laid · OccupancySplits: laid.
  DERIVED. THE GIVEN ROWS OF THIS SEAT. 9 by the template 'for every input the law returns true; each argument reads behind the call as it read before'; 0 by the template 'total and deterministic' (their statements: YtglphodaoafdmaaDoorTotals.lean).
  GIVEN WITH THE SEED: the statements are not yours to turn. If you find one false, say at which input.
  Laid BY PROGRAM, IN A SANDBOX (cutbox-rows.mjs): the forced cells as the released guide's own fill.sh prints them over the translation b82c68f229d31aa4… (all of the seat's roots in one cut). By AI agents, Wed Nov 11 2026. No macro, syntax, notation, axiom, sorry.
-/
import Derived.Test.YtglphodaoafdmaaDoorChecked
import GoSem.Claim
import GoSem.ClaimJoined
import GoSem.ClaimMapViews
import Derived.JoinedTies
import Derived.KernelRfl
namespace Go.Proofs.YtglphodaoafdmaaDoor
/- THE CELL 'sum', in the pinned program and in every row, IS THE sha256 OF THE DUMP (.gsa) THAT YtglphodaoafdmaaDoorProg.lean LOADS. Nothing in Lean hashes anything: it is a label: what it is worth is what the hold of that sum in a sandbox is worth. -/
noncomputable def Tryd.pinned : Pinned := { name := "ytglphodaoafdmaadoor", sum := "b82c68f229d31aa432fe8f51f06afde0374f7eaa81827bb93f9927baf25cd4fc", checked := Tryd.checked }
namespace Rows
def none {H : Type} : Left H := { results := [], args := [] }

/- WHAT THE LISTED PACKAGE-LEVEL VARIABLES READ AS WHEN THE CALL BEGINS. Each datum BY PROGRAM (the guide's laid-datum.mjs) off the statement by which the dump's own 'gosem.cut.vars' lays the variable. In a bare row this is a premise. The card (YtglphodaoafdmaaDoorCards.lean) ties it to the program's text. -/
def laid_math_bits_deBruijn32tab {H : Type} : DataW H := .agg [.lit (.int .u8 0), .lit (.int .u8 1), .lit (.int .u8 28), .lit (.int .u8 2), .lit (.int .u8 29), .lit (.int .u8 14), .lit (.int .u8 24), .lit (.int .u8 3), .lit (.int .u8 30), .lit (.int .u8 22), .lit (.int .u8 20), .lit (.int .u8 15), .lit (.int .u8 25), .lit (.int .u8 17), .lit (.int .u8 4), .lit (.int .u8 8), .lit (.int .u8 31), .lit (.int .u8 27), .lit (.int .u8 13), .lit (.int .u8 23), .lit (.int .u8 21), .lit (.int .u8 19), .lit (.int .u8 16), .lit (.int .u8 7), .lit (.int .u8 26), .lit (.int .u8 12), .lit (.int .u8 18), .lit (.int .u8 6), .lit (.int .u8 11), .lit (.int .u8 5), .lit (.int .u8 10), .lit (.int .u8 9)]
def laid_math_bits_deBruijn64tab {H : Type} : DataW H := .agg [.lit (.int .u8 0), .lit (.int .u8 1), .lit (.int .u8 56), .lit (.int .u8 2), .lit (.int .u8 57), .lit (.int .u8 49), .lit (.int .u8 28), .lit (.int .u8 3), .lit (.int .u8 61), .lit (.int .u8 58), .lit (.int .u8 42), .lit (.int .u8 50), .lit (.int .u8 38), .lit (.int .u8 29), .lit (.int .u8 17), .lit (.int .u8 4), .lit (.int .u8 62), .lit (.int .u8 47), .lit (.int .u8 59), .lit (.int .u8 36), .lit (.int .u8 45), .lit (.int .u8 43), .lit (.int .u8 51), .lit (.int .u8 22), .lit (.int .u8 53), .lit (.int .u8 39), .lit (.int .u8 33), .lit (.int .u8 30), .lit (.int .u8 24), .lit (.int .u8 18), .lit (.int .u8 12), .lit (.int .u8 5), .lit (.int .u8 63), .lit (.int .u8 55), .lit (.int .u8 48), .lit (.int .u8 27), .lit (.int .u8 60), .lit (.int .u8 41), .lit (.int .u8 37), .lit (.int .u8 16), .lit (.int .u8 46), .lit (.int .u8 35), .lit (.int .u8 44), .lit (.int .u8 21), .lit (.int .u8 52), .lit (.int .u8 32), .lit (.int .u8 23), .lit (.int .u8 11), .lit (.int .u8 54), .lit (.int .u8 26), .lit (.int .u8 40), .lit (.int .u8 15), .lit (.int .u8 34), .lit (.int .u8 20), .lit (.int .u8 31), .lit (.int .u8 10), .lit (.int .u8 25), .lit (.int .u8 14), .lit (.int .u8 19), .lit (.int .u8 9), .lit (.int .u8 13), .lit (.int .u8 8), .lit (.int .u8 7), .lit (.int .u8 6)]
def laid_internal_strconv_uint64pow10 {H : Type} : DataW H := .agg [.lit (.int .u64 1), .lit (.int .u64 10), .lit (.int .u64 100), .lit (.int .u64 1000), .lit (.int .u64 10000), .lit (.int .u64 100000), .lit (.int .u64 1000000), .lit (.int .u64 10000000), .lit (.int .u64 100000000), .lit (.int .u64 1000000000), .lit (.int .u64 10000000000), .lit (.int .u64 100000000000), .lit (.int .u64 1000000000000), .lit (.int .u64 10000000000000), .lit (.int .u64 100000000000000), .lit (.int .u64 1000000000000000), .lit (.int .u64 10000000000000000), .lit (.int .u64 100000000000000000), .lit (.int .u64 1000000000000000000), .lit (.int .u64 10000000000000000000)]

/-- 'coinagetop.WholeOccupancy': WHATEVER THE INPUT: true; the input reads as it did. -/
def wholeOccupancySpec : ChangeSpec := { name := "wholeOccupancy", fn := fun _ => fun
  | [d1, d2, d3] => { results := [.lit (.bool true)], args := [d1, d2, d3] }
  | _ => none }
def wholeOccupancyRow : OpenClaim := { program := "ytglphodaoafdmaadoor", sum := "b82c68f229d31aa432fe8f51f06afde0374f7eaa81827bb93f9927baf25cd4fc", func := "coinage/coinagetop.WholeOccupancy", spec := "wholeOccupancy", inPlace := ["internal/abi.NoEscape", "internal/bytealg.MakeNoZero"], named := ["internal/strconv.uint64pow10", "math/bits.deBruijn32tab", "math/bits.deBruijn64tab"], apart := false, laid := [("math/bits.deBruijn32tab", laid_math_bits_deBruijn32tab), ("math/bits.deBruijn64tab", laid_math_bits_deBruijn64tab), ("internal/strconv.uint64pow10", laid_internal_strconv_uint64pow10)] }
def WholeOccupancySaid : Prop := wholeOccupancyRow.holds Tryd.pinned (OpenSpec.ofChange wholeOccupancySpec)

/-- ITS FALSE NEIGHBOUR: 'it returns false'. Refute it at one input. -/
def wholeOccupancyWrong : ChangeSpec := { name := "wholeOccupancy", fn := fun _ => fun
  | [d1, d2, d3] => { results := [.lit (.bool false)], args := [d1, d2, d3] }
  | _ => none }
def WholeOccupancyWrongFalsely : Prop := wholeOccupancyRow.holds Tryd.pinned (OpenSpec.ofChange wholeOccupancyWrong)

/-- 'coinagelaw41.OccupancyChances': WHATEVER THE INPUT: true; the input reads as it did. -/
def occupancyChancesSpec : ChangeSpec := { name := "occupancyChances", fn := fun _ => fun
  | [d1, d2, d3] => { results := [.lit (.bool true)], args := [d1, d2, d3] }
  | _ => none }
def occupancyChancesRow : OpenClaim := { program := "ytglphodaoafdmaadoor", sum := "b82c68f229d31aa432fe8f51f06afde0374f7eaa81827bb93f9927baf25cd4fc", func := "coinage/coinagelaw41.OccupancyChances", spec := "occupancyChances", inPlace := ["internal/abi.NoEscape", "internal/bytealg.MakeNoZero"], named := ["internal/strconv.uint64pow10", "math/bits.deBruijn32tab", "math/bits.deBruijn64tab"], apart := false, laid := [("math/bits.deBruijn32tab", laid_math_bits_deBruijn32tab), ("math/bits.deBruijn64tab", laid_math_bits_deBruijn64tab), ("internal/strconv.uint64pow10", laid_internal_strconv_uint64pow10)] }
def OccupancyChancesSaid : Prop := occupancyChancesRow.holds Tryd.pinned (OpenSpec.ofChange occupancyChancesSpec)

/-- ITS FALSE NEIGHBOUR: 'it returns false'. Refute it at one input. -/
def occupancyChancesWrong : ChangeSpec := { name := "occupancyChances", fn := fun _ => fun
  | [d1, d2, d3] => { results := [.lit (.bool false)], args := [d1, d2, d3] }
  | _ => none }
def OccupancyChancesWrongFalsely : Prop := occupancyChancesRow.holds Tryd.pinned (OpenSpec.ofChange occupancyChancesWrong)

/-- 'coinagelaw41.OccupancySteps': WHATEVER THE INPUT: true; the input reads as it did. -/
def occupancyStepsSpec : ChangeSpec := { name := "occupancySteps", fn := fun _ => fun
  | [d1, d2, d3] => { results := [.lit (.bool true)], args := [d1, d2, d3] }
  | _ => none }
def occupancyStepsRow : OpenClaim := { program := "ytglphodaoafdmaadoor", sum := "b82c68f229d31aa432fe8f51f06afde0374f7eaa81827bb93f9927baf25cd4fc", func := "coinage/coinagelaw41.OccupancySteps", spec := "occupancySteps", inPlace := ["internal/abi.NoEscape", "internal/bytealg.MakeNoZero"], named := ["internal/strconv.uint64pow10", "math/bits.deBruijn32tab", "math/bits.deBruijn64tab"], apart := false, laid := [("math/bits.deBruijn32tab", laid_math_bits_deBruijn32tab), ("math/bits.deBruijn64tab", laid_math_bits_deBruijn64tab), ("internal/strconv.uint64pow10", laid_internal_strconv_uint64pow10)] }
def OccupancyStepsSaid : Prop := occupancyStepsRow.holds Tryd.pinned (OpenSpec.ofChange occupancyStepsSpec)

/-- ITS FALSE NEIGHBOUR: 'it returns false'. Refute it at one input. -/
def occupancyStepsWrong : ChangeSpec := { name := "occupancySteps", fn := fun _ => fun
  | [d1, d2, d3] => { results := [.lit (.bool false)], args := [d1, d2, d3] }
  | _ => none }
def OccupancyStepsWrongFalsely : Prop := occupancyStepsRow.holds Tryd.pinned (OpenSpec.ofChange occupancyStepsWrong)

/-- 'coinagelaw41.OccupancyCounts': WHATEVER THE INPUT: true; the input reads as it did. -/
def occupancyCountsSpec : ChangeSpec := { name := "occupancyCounts", fn := fun _ => fun
  | [d1, d2, d3] => { results := [.lit (.bool true)], args := [d1, d2, d3] }
  | _ => none }
def occupancyCountsRow : OpenClaim := { program := "ytglphodaoafdmaadoor", sum := "b82c68f229d31aa432fe8f51f06afde0374f7eaa81827bb93f9927baf25cd4fc", func := "coinage/coinagelaw41.OccupancyCounts", spec := "occupancyCounts", inPlace := ["internal/abi.NoEscape", "internal/bytealg.MakeNoZero"], named := ["internal/strconv.uint64pow10", "math/bits.deBruijn32tab", "math/bits.deBruijn64tab"], apart := false, laid := [("math/bits.deBruijn32tab", laid_math_bits_deBruijn32tab), ("math/bits.deBruijn64tab", laid_math_bits_deBruijn64tab), ("internal/strconv.uint64pow10", laid_internal_strconv_uint64pow10)] }
def OccupancyCountsSaid : Prop := occupancyCountsRow.holds Tryd.pinned (OpenSpec.ofChange occupancyCountsSpec)

/-- ITS FALSE NEIGHBOUR: 'it returns false'. Refute it at one input. -/
def occupancyCountsWrong : ChangeSpec := { name := "occupancyCounts", fn := fun _ => fun
  | [d1, d2, d3] => { results := [.lit (.bool false)], args := [d1, d2, d3] }
  | _ => none }
def OccupancyCountsWrongFalsely : Prop := occupancyCountsRow.holds Tryd.pinned (OpenSpec.ofChange occupancyCountsWrong)

/-- 'coinagelaw41.OccupancySingles': WHATEVER THE INPUT: true; the input reads as it did. -/
def occupancySinglesSpec : ChangeSpec := { name := "occupancySingles", fn := fun _ => fun
  | [d1, d2] => { results := [.lit (.bool true)], args := [d1, d2] }
  | _ => none }
def occupancySinglesRow : OpenClaim := { program := "ytglphodaoafdmaadoor", sum := "b82c68f229d31aa432fe8f51f06afde0374f7eaa81827bb93f9927baf25cd4fc", func := "coinage/coinagelaw41.OccupancySingles", spec := "occupancySingles", inPlace := ["internal/abi.NoEscape", "internal/bytealg.MakeNoZero"], named := ["internal/strconv.uint64pow10", "math/bits.deBruijn32tab", "math/bits.deBruijn64tab"], apart := false, laid := [("math/bits.deBruijn32tab", laid_math_bits_deBruijn32tab), ("math/bits.deBruijn64tab", laid_math_bits_deBruijn64tab), ("internal/strconv.uint64pow10", laid_internal_strconv_uint64pow10)] }
def OccupancySinglesSaid : Prop := occupancySinglesRow.holds Tryd.pinned (OpenSpec.ofChange occupancySinglesSpec)

/-- ITS FALSE NEIGHBOUR: 'it returns false'. Refute it at one input. -/
def occupancySinglesWrong : ChangeSpec := { name := "occupancySingles", fn := fun _ => fun
  | [d1, d2] => { results := [.lit (.bool false)], args := [d1, d2] }
  | _ => none }
def OccupancySinglesWrongFalsely : Prop := occupancySinglesRow.holds Tryd.pinned (OpenSpec.ofChange occupancySinglesWrong)

/-- 'coinagelaw41.OccupancyTails': WHATEVER THE INPUT: true; the input reads as it did. -/
def occupancyTailsSpec : ChangeSpec := { name := "occupancyTails", fn := fun _ => fun
  | [d1, d2, d3] => { results := [.lit (.bool true)], args := [d1, d2, d3] }
  | _ => none }
def occupancyTailsRow : OpenClaim := { program := "ytglphodaoafdmaadoor", sum := "b82c68f229d31aa432fe8f51f06afde0374f7eaa81827bb93f9927baf25cd4fc", func := "coinage/coinagelaw41.OccupancyTails", spec := "occupancyTails", inPlace := ["internal/abi.NoEscape", "internal/bytealg.MakeNoZero"], named := ["internal/strconv.uint64pow10", "math/bits.deBruijn32tab", "math/bits.deBruijn64tab"], apart := false, laid := [("math/bits.deBruijn32tab", laid_math_bits_deBruijn32tab), ("math/bits.deBruijn64tab", laid_math_bits_deBruijn64tab), ("internal/strconv.uint64pow10", laid_internal_strconv_uint64pow10)] }
def OccupancyTailsSaid : Prop := occupancyTailsRow.holds Tryd.pinned (OpenSpec.ofChange occupancyTailsSpec)

/-- ITS FALSE NEIGHBOUR: 'it returns false'. Refute it at one input. -/
def occupancyTailsWrong : ChangeSpec := { name := "occupancyTails", fn := fun _ => fun
  | [d1, d2, d3] => { results := [.lit (.bool false)], args := [d1, d2, d3] }
  | _ => none }
def OccupancyTailsWrongFalsely : Prop := occupancyTailsRow.holds Tryd.pinned (OpenSpec.ofChange occupancyTailsWrong)

/-- 'coinagelaw41.OccupancySums': WHATEVER THE INPUT: true; the input reads as it did. -/
def occupancySumsSpec : ChangeSpec := { name := "occupancySums", fn := fun _ => fun
  | [d1, d2] => { results := [.lit (.bool true)], args := [d1, d2] }
  | _ => none }
def occupancySumsRow : OpenClaim := { program := "ytglphodaoafdmaadoor", sum := "b82c68f229d31aa432fe8f51f06afde0374f7eaa81827bb93f9927baf25cd4fc", func := "coinage/coinagelaw41.OccupancySums", spec := "occupancySums", inPlace := ["internal/abi.NoEscape", "internal/bytealg.MakeNoZero"], named := ["internal/strconv.uint64pow10", "math/bits.deBruijn32tab", "math/bits.deBruijn64tab"], apart := false, laid := [("math/bits.deBruijn32tab", laid_math_bits_deBruijn32tab), ("math/bits.deBruijn64tab", laid_math_bits_deBruijn64tab), ("internal/strconv.uint64pow10", laid_internal_strconv_uint64pow10)] }
def OccupancySumsSaid : Prop := occupancySumsRow.holds Tryd.pinned (OpenSpec.ofChange occupancySumsSpec)

/-- ITS FALSE NEIGHBOUR: 'it returns false'. Refute it at one input. -/
def occupancySumsWrong : ChangeSpec := { name := "occupancySums", fn := fun _ => fun
  | [d1, d2] => { results := [.lit (.bool false)], args := [d1, d2] }
  | _ => none }
def OccupancySumsWrongFalsely : Prop := occupancySumsRow.holds Tryd.pinned (OpenSpec.ofChange occupancySumsWrong)

/-- 'coinagelaw41.OccupancyEqual': WHATEVER THE INPUT: true; the input reads as it did. -/
def occupancyEqualSpec : ChangeSpec := { name := "occupancyEqual", fn := fun _ => fun
  | [d1, d2] => { results := [.lit (.bool true)], args := [d1, d2] }
  | _ => none }
def occupancyEqualRow : OpenClaim := { program := "ytglphodaoafdmaadoor", sum := "b82c68f229d31aa432fe8f51f06afde0374f7eaa81827bb93f9927baf25cd4fc", func := "coinage/coinagelaw41.OccupancyEqual", spec := "occupancyEqual", inPlace := ["internal/abi.NoEscape", "internal/bytealg.MakeNoZero"], unfollowed := true, recurses := true, named := ["internal/strconv.uint64pow10", "math/bits.deBruijn32tab", "math/bits.deBruijn64tab"], apart := false, laid := [("math/bits.deBruijn32tab", laid_math_bits_deBruijn32tab), ("math/bits.deBruijn64tab", laid_math_bits_deBruijn64tab), ("internal/strconv.uint64pow10", laid_internal_strconv_uint64pow10)] }
def OccupancyEqualSaid : Prop := occupancyEqualRow.holds Tryd.pinned (OpenSpec.ofChange occupancyEqualSpec)

/-- ITS FALSE NEIGHBOUR: 'it returns false'. Refute it at one input. -/
def occupancyEqualWrong : ChangeSpec := { name := "occupancyEqual", fn := fun _ => fun
  | [d1, d2] => { results := [.lit (.bool false)], args := [d1, d2] }
  | _ => none }
def OccupancyEqualWrongFalsely : Prop := occupancyEqualRow.holds Tryd.pinned (OpenSpec.ofChange occupancyEqualWrong)

/-- 'coinagelaw41.OccupancySplits': WHATEVER THE INPUT: true; the input reads as it did. -/
def occupancySplitsSpec : ChangeSpec := { name := "occupancySplits", fn := fun _ => fun
  | [d1, d2, d3] => { results := [.lit (.bool true)], args := [d1, d2, d3] }
  | _ => none }
def occupancySplitsRow : OpenClaim := { program := "ytglphodaoafdmaadoor", sum := "b82c68f229d31aa432fe8f51f06afde0374f7eaa81827bb93f9927baf25cd4fc", func := "coinage/coinagelaw41.OccupancySplits", spec := "occupancySplits", inPlace := ["internal/abi.NoEscape", "internal/bytealg.MakeNoZero"], named := ["internal/strconv.uint64pow10", "math/bits.deBruijn32tab", "math/bits.deBruijn64tab"], apart := false, laid := [("math/bits.deBruijn32tab", laid_math_bits_deBruijn32tab), ("math/bits.deBruijn64tab", laid_math_bits_deBruijn64tab), ("internal/strconv.uint64pow10", laid_internal_strconv_uint64pow10)] }
def OccupancySplitsSaid : Prop := occupancySplitsRow.holds Tryd.pinned (OpenSpec.ofChange occupancySplitsSpec)

/-- ITS FALSE NEIGHBOUR: 'it returns false'. Refute it at one input. -/
def occupancySplitsWrong : ChangeSpec := { name := "occupancySplits", fn := fun _ => fun
  | [d1, d2, d3] => { results := [.lit (.bool false)], args := [d1, d2, d3] }
  | _ => none }
def OccupancySplitsWrongFalsely : Prop := occupancySplitsRow.holds Tryd.pinned (OpenSpec.ofChange occupancySplitsWrong)

/- THE SECOND FORM. 'bulk': how many values and letters a reading holds, each counted each time it is reached (what is shared counts as often as it is met; a slice's spare places count too). A statement '..UptoSaid' is the law's where the arguments, and the package variables that the reading takes, are together of bulk at most 1048576: NARROWER than '..Said'. Prove '..Said' where nothing that the law and all that it calls make is longer than what came in: it says more and counts as full. Else prove '..UptoSaid'. A law counts once. -/
mutual
def uptoBulk {H : Type} : DataW H → Nat
  | .lit (.string bytes) => bytes.length + 1
  | .lit _ => 1
  | .nil => 1
  | .ptr d => uptoBulk d + 1
  | .slice elems spare => uptoBulkAll elems + uptoBulkAll spare + 1
  | .agg parts => uptoBulkAll parts + 1
  | .iface _ d => uptoBulk d + 1
  | .map entries => uptoBulkEntries entries + 1
  | .held _ => 1
def uptoBulkAll {H : Type} : List (DataW H) → Nat
  | [] => 0
  | d :: r => uptoBulk d + uptoBulkAll r
def uptoBulkEntries {H : Type} : List (Lit × DataW H) → Nat
  | [] => 0
  | x :: r => uptoBulkEntry x + uptoBulkEntries r
def uptoBulkEntry {H : Type} : Lit × DataW H → Nat
  | (.string bytes, d) => bytes.length + uptoBulk d + 1
  | (_, d) => uptoBulk d + 1
 end
def uptoSmall : (H : Type) → List (DataW H) → Bool := fun _ ds => decide (uptoBulkAll ds ≤ 1048576)
def OpenSpec.upto (s : _root_.Go.ChangeSpec) : _root_.Go.OpenSpec := { _root_.Go.OpenSpec.ofChange s with cond := some uptoSmall }

/-- 'coinagetop.WholeOccupancy', WHERE WHAT IT READS IS OF BULK AT MOST 1048576: true; the input reads as it did. -/
def wholeOccupancyUptoRow : OpenClaim := { program := "ytglphodaoafdmaadoor", sum := "b82c68f229d31aa432fe8f51f06afde0374f7eaa81827bb93f9927baf25cd4fc", func := "coinage/coinagetop.WholeOccupancy", spec := "wholeOccupancy", inPlace := ["internal/abi.NoEscape", "internal/bytealg.MakeNoZero"], named := ["internal/strconv.uint64pow10", "math/bits.deBruijn32tab", "math/bits.deBruijn64tab"], apart := false, laid := [("math/bits.deBruijn32tab", laid_math_bits_deBruijn32tab), ("math/bits.deBruijn64tab", laid_math_bits_deBruijn64tab), ("internal/strconv.uint64pow10", laid_internal_strconv_uint64pow10)], narrowed := true }
def WholeOccupancyUptoSaid : Prop := wholeOccupancyUptoRow.holds Tryd.pinned (OpenSpec.upto wholeOccupancySpec)

/-- 'coinagelaw41.OccupancyChances', WHERE WHAT IT READS IS OF BULK AT MOST 1048576: true; the input reads as it did. -/
def occupancyChancesUptoRow : OpenClaim := { program := "ytglphodaoafdmaadoor", sum := "b82c68f229d31aa432fe8f51f06afde0374f7eaa81827bb93f9927baf25cd4fc", func := "coinage/coinagelaw41.OccupancyChances", spec := "occupancyChances", inPlace := ["internal/abi.NoEscape", "internal/bytealg.MakeNoZero"], named := ["internal/strconv.uint64pow10", "math/bits.deBruijn32tab", "math/bits.deBruijn64tab"], apart := false, laid := [("math/bits.deBruijn32tab", laid_math_bits_deBruijn32tab), ("math/bits.deBruijn64tab", laid_math_bits_deBruijn64tab), ("internal/strconv.uint64pow10", laid_internal_strconv_uint64pow10)], narrowed := true }
def OccupancyChancesUptoSaid : Prop := occupancyChancesUptoRow.holds Tryd.pinned (OpenSpec.upto occupancyChancesSpec)

/-- 'coinagelaw41.OccupancySteps', WHERE WHAT IT READS IS OF BULK AT MOST 1048576: true; the input reads as it did. -/
def occupancyStepsUptoRow : OpenClaim := { program := "ytglphodaoafdmaadoor", sum := "b82c68f229d31aa432fe8f51f06afde0374f7eaa81827bb93f9927baf25cd4fc", func := "coinage/coinagelaw41.OccupancySteps", spec := "occupancySteps", inPlace := ["internal/abi.NoEscape", "internal/bytealg.MakeNoZero"], named := ["internal/strconv.uint64pow10", "math/bits.deBruijn32tab", "math/bits.deBruijn64tab"], apart := false, laid := [("math/bits.deBruijn32tab", laid_math_bits_deBruijn32tab), ("math/bits.deBruijn64tab", laid_math_bits_deBruijn64tab), ("internal/strconv.uint64pow10", laid_internal_strconv_uint64pow10)], narrowed := true }
def OccupancyStepsUptoSaid : Prop := occupancyStepsUptoRow.holds Tryd.pinned (OpenSpec.upto occupancyStepsSpec)

/-- 'coinagelaw41.OccupancyCounts', WHERE WHAT IT READS IS OF BULK AT MOST 1048576: true; the input reads as it did. -/
def occupancyCountsUptoRow : OpenClaim := { program := "ytglphodaoafdmaadoor", sum := "b82c68f229d31aa432fe8f51f06afde0374f7eaa81827bb93f9927baf25cd4fc", func := "coinage/coinagelaw41.OccupancyCounts", spec := "occupancyCounts", inPlace := ["internal/abi.NoEscape", "internal/bytealg.MakeNoZero"], named := ["internal/strconv.uint64pow10", "math/bits.deBruijn32tab", "math/bits.deBruijn64tab"], apart := false, laid := [("math/bits.deBruijn32tab", laid_math_bits_deBruijn32tab), ("math/bits.deBruijn64tab", laid_math_bits_deBruijn64tab), ("internal/strconv.uint64pow10", laid_internal_strconv_uint64pow10)], narrowed := true }
def OccupancyCountsUptoSaid : Prop := occupancyCountsUptoRow.holds Tryd.pinned (OpenSpec.upto occupancyCountsSpec)

/-- 'coinagelaw41.OccupancySingles', WHERE WHAT IT READS IS OF BULK AT MOST 1048576: true; the input reads as it did. -/
def occupancySinglesUptoRow : OpenClaim := { program := "ytglphodaoafdmaadoor", sum := "b82c68f229d31aa432fe8f51f06afde0374f7eaa81827bb93f9927baf25cd4fc", func := "coinage/coinagelaw41.OccupancySingles", spec := "occupancySingles", inPlace := ["internal/abi.NoEscape", "internal/bytealg.MakeNoZero"], named := ["internal/strconv.uint64pow10", "math/bits.deBruijn32tab", "math/bits.deBruijn64tab"], apart := false, laid := [("math/bits.deBruijn32tab", laid_math_bits_deBruijn32tab), ("math/bits.deBruijn64tab", laid_math_bits_deBruijn64tab), ("internal/strconv.uint64pow10", laid_internal_strconv_uint64pow10)], narrowed := true }
def OccupancySinglesUptoSaid : Prop := occupancySinglesUptoRow.holds Tryd.pinned (OpenSpec.upto occupancySinglesSpec)

/-- 'coinagelaw41.OccupancyTails', WHERE WHAT IT READS IS OF BULK AT MOST 1048576: true; the input reads as it did. -/
def occupancyTailsUptoRow : OpenClaim := { program := "ytglphodaoafdmaadoor", sum := "b82c68f229d31aa432fe8f51f06afde0374f7eaa81827bb93f9927baf25cd4fc", func := "coinage/coinagelaw41.OccupancyTails", spec := "occupancyTails", inPlace := ["internal/abi.NoEscape", "internal/bytealg.MakeNoZero"], named := ["internal/strconv.uint64pow10", "math/bits.deBruijn32tab", "math/bits.deBruijn64tab"], apart := false, laid := [("math/bits.deBruijn32tab", laid_math_bits_deBruijn32tab), ("math/bits.deBruijn64tab", laid_math_bits_deBruijn64tab), ("internal/strconv.uint64pow10", laid_internal_strconv_uint64pow10)], narrowed := true }
def OccupancyTailsUptoSaid : Prop := occupancyTailsUptoRow.holds Tryd.pinned (OpenSpec.upto occupancyTailsSpec)

/-- 'coinagelaw41.OccupancySums', WHERE WHAT IT READS IS OF BULK AT MOST 1048576: true; the input reads as it did. -/
def occupancySumsUptoRow : OpenClaim := { program := "ytglphodaoafdmaadoor", sum := "b82c68f229d31aa432fe8f51f06afde0374f7eaa81827bb93f9927baf25cd4fc", func := "coinage/coinagelaw41.OccupancySums", spec := "occupancySums", inPlace := ["internal/abi.NoEscape", "internal/bytealg.MakeNoZero"], named := ["internal/strconv.uint64pow10", "math/bits.deBruijn32tab", "math/bits.deBruijn64tab"], apart := false, laid := [("math/bits.deBruijn32tab", laid_math_bits_deBruijn32tab), ("math/bits.deBruijn64tab", laid_math_bits_deBruijn64tab), ("internal/strconv.uint64pow10", laid_internal_strconv_uint64pow10)], narrowed := true }
def OccupancySumsUptoSaid : Prop := occupancySumsUptoRow.holds Tryd.pinned (OpenSpec.upto occupancySumsSpec)

/-- 'coinagelaw41.OccupancyEqual', WHERE WHAT IT READS IS OF BULK AT MOST 1048576: true; the input reads as it did. -/
def occupancyEqualUptoRow : OpenClaim := { program := "ytglphodaoafdmaadoor", sum := "b82c68f229d31aa432fe8f51f06afde0374f7eaa81827bb93f9927baf25cd4fc", func := "coinage/coinagelaw41.OccupancyEqual", spec := "occupancyEqual", inPlace := ["internal/abi.NoEscape", "internal/bytealg.MakeNoZero"], unfollowed := true, recurses := true, named := ["internal/strconv.uint64pow10", "math/bits.deBruijn32tab", "math/bits.deBruijn64tab"], apart := false, laid := [("math/bits.deBruijn32tab", laid_math_bits_deBruijn32tab), ("math/bits.deBruijn64tab", laid_math_bits_deBruijn64tab), ("internal/strconv.uint64pow10", laid_internal_strconv_uint64pow10)], narrowed := true }
def OccupancyEqualUptoSaid : Prop := occupancyEqualUptoRow.holds Tryd.pinned (OpenSpec.upto occupancyEqualSpec)

/-- 'coinagelaw41.OccupancySplits', WHERE WHAT IT READS IS OF BULK AT MOST 1048576: true; the input reads as it did. -/
def occupancySplitsUptoRow : OpenClaim := { program := "ytglphodaoafdmaadoor", sum := "b82c68f229d31aa432fe8f51f06afde0374f7eaa81827bb93f9927baf25cd4fc", func := "coinage/coinagelaw41.OccupancySplits", spec := "occupancySplits", inPlace := ["internal/abi.NoEscape", "internal/bytealg.MakeNoZero"], named := ["internal/strconv.uint64pow10", "math/bits.deBruijn32tab", "math/bits.deBruijn64tab"], apart := false, laid := [("math/bits.deBruijn32tab", laid_math_bits_deBruijn32tab), ("math/bits.deBruijn64tab", laid_math_bits_deBruijn64tab), ("internal/strconv.uint64pow10", laid_internal_strconv_uint64pow10)], narrowed := true }
def OccupancySplitsUptoSaid : Prop := occupancySplitsUptoRow.holds Tryd.pinned (OpenSpec.upto occupancySplitsSpec)

end Rows
end Go.Proofs.YtglphodaoafdmaaDoor
