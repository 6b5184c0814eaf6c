/-
  NARROWER THAN 'FOR EVERY INPUT', by the rows' own cells (each row's printed sentence says how): NumValues: laid · NumArithmetic: laid · NumPowers: laid · NumTexts: laid · NumRing: laid · NumDivision: laid · NumBezout: laid · NumBack: laid · NumStays: laid.
  DERIVED. THE GIVEN ROWS OF THIS SEAT. 9 by the template 'for every input the law returns true; each argument reads behind the call as it read before'; 0 by the template 'total and deterministic' (their statements: YtebkelnibecmjaaDoorTotals.lean).
  GIVEN WITH THE SEED: the statements are not yours to turn. If you find one false, say at which input.
  Laid BY PROGRAM, IN A SANDBOX (cutbox-rows.mjs): the forced cells as the released guide's own fill.sh prints them over the translation 5113104420d8f8cf… (all of the seat's roots in one cut). By AI agents, Wed Nov 11 2026. No macro, syntax, notation, axiom, sorry.
-/
import Derived.Test.YtebkelnibecmjaaDoorChecked
import GoSem.Claim
import GoSem.ClaimJoined
import GoSem.ClaimMapViews
import Derived.JoinedTies
import Derived.KernelRfl
namespace Go.Proofs.YtebkelnibecmjaaDoor
/- THE CELL 'sum', in the pinned program and in every row, IS THE sha256 OF THE DUMP (.gsa) THAT YtebkelnibecmjaaDoorProg.lean LOADS. Nothing in Lean hashes anything: it is a label: what it is worth is what the hold of that sum in a sandbox is worth. -/
noncomputable def Tryd.pinned : Pinned := { name := "ytebkelnibecmjaadoor", sum := "5113104420d8f8cfc4f5dc83ea263997a124430bfe9f658b5e8acc4eab1839c5", checked := Tryd.checked }
namespace Rows
def none {H : Type} : Left H := { results := [], args := [] }

/- WHAT THE LISTED PACKAGE-LEVEL VARIABLES READ AS WHEN THE CALL BEGINS. Each datum BY PROGRAM (the guide's laid-datum.mjs) off the statement by which the dump's own 'gosem.cut.vars' lays the variable. In a bare row this is a premise. The card (YtebkelnibecmjaaDoorCards.lean) ties it to the program's text. -/
def laid_math_bits_deBruijn32tab {H : Type} : DataW H := .agg [.lit (.int .u8 0), .lit (.int .u8 1), .lit (.int .u8 28), .lit (.int .u8 2), .lit (.int .u8 29), .lit (.int .u8 14), .lit (.int .u8 24), .lit (.int .u8 3), .lit (.int .u8 30), .lit (.int .u8 22), .lit (.int .u8 20), .lit (.int .u8 15), .lit (.int .u8 25), .lit (.int .u8 17), .lit (.int .u8 4), .lit (.int .u8 8), .lit (.int .u8 31), .lit (.int .u8 27), .lit (.int .u8 13), .lit (.int .u8 23), .lit (.int .u8 21), .lit (.int .u8 19), .lit (.int .u8 16), .lit (.int .u8 7), .lit (.int .u8 26), .lit (.int .u8 12), .lit (.int .u8 18), .lit (.int .u8 6), .lit (.int .u8 11), .lit (.int .u8 5), .lit (.int .u8 10), .lit (.int .u8 9)]
def laid_math_bits_deBruijn64tab {H : Type} : DataW H := .agg [.lit (.int .u8 0), .lit (.int .u8 1), .lit (.int .u8 56), .lit (.int .u8 2), .lit (.int .u8 57), .lit (.int .u8 49), .lit (.int .u8 28), .lit (.int .u8 3), .lit (.int .u8 61), .lit (.int .u8 58), .lit (.int .u8 42), .lit (.int .u8 50), .lit (.int .u8 38), .lit (.int .u8 29), .lit (.int .u8 17), .lit (.int .u8 4), .lit (.int .u8 62), .lit (.int .u8 47), .lit (.int .u8 59), .lit (.int .u8 36), .lit (.int .u8 45), .lit (.int .u8 43), .lit (.int .u8 51), .lit (.int .u8 22), .lit (.int .u8 53), .lit (.int .u8 39), .lit (.int .u8 33), .lit (.int .u8 30), .lit (.int .u8 24), .lit (.int .u8 18), .lit (.int .u8 12), .lit (.int .u8 5), .lit (.int .u8 63), .lit (.int .u8 55), .lit (.int .u8 48), .lit (.int .u8 27), .lit (.int .u8 60), .lit (.int .u8 41), .lit (.int .u8 37), .lit (.int .u8 16), .lit (.int .u8 46), .lit (.int .u8 35), .lit (.int .u8 44), .lit (.int .u8 21), .lit (.int .u8 52), .lit (.int .u8 32), .lit (.int .u8 23), .lit (.int .u8 11), .lit (.int .u8 54), .lit (.int .u8 26), .lit (.int .u8 40), .lit (.int .u8 15), .lit (.int .u8 34), .lit (.int .u8 20), .lit (.int .u8 31), .lit (.int .u8 10), .lit (.int .u8 25), .lit (.int .u8 14), .lit (.int .u8 19), .lit (.int .u8 9), .lit (.int .u8 13), .lit (.int .u8 8), .lit (.int .u8 7), .lit (.int .u8 6)]
def laid_internal_strconv_uint64pow10 {H : Type} : DataW H := .agg [.lit (.int .u64 1), .lit (.int .u64 10), .lit (.int .u64 100), .lit (.int .u64 1000), .lit (.int .u64 10000), .lit (.int .u64 100000), .lit (.int .u64 1000000), .lit (.int .u64 10000000), .lit (.int .u64 100000000), .lit (.int .u64 1000000000), .lit (.int .u64 10000000000), .lit (.int .u64 100000000000), .lit (.int .u64 1000000000000), .lit (.int .u64 10000000000000), .lit (.int .u64 100000000000000), .lit (.int .u64 1000000000000000), .lit (.int .u64 10000000000000000), .lit (.int .u64 100000000000000000), .lit (.int .u64 1000000000000000000), .lit (.int .u64 10000000000000000000)]

/-- 'quadratrixlaw01.NumValues': WHATEVER THE INPUT: true; the input reads as it did. -/
def numValuesSpec : ChangeSpec := { name := "numValues", fn := fun _ => fun
  | [d1, d2, d3] => { results := [.lit (.bool true)], args := [d1, d2, d3] }
  | _ => none }
def numValuesRow : OpenClaim := { program := "ytebkelnibecmjaadoor", sum := "5113104420d8f8cfc4f5dc83ea263997a124430bfe9f658b5e8acc4eab1839c5", func := "quadratrix/quadratrixlaw01.NumValues", spec := "numValues", inPlace := ["math/bits.Sub64"], unfollowed := true, recurses := true, named := ["internal/strconv.uint64pow10", "math/bits.deBruijn32tab", "math/bits.deBruijn64tab"], apart := false, laid := [("math/bits.deBruijn32tab", laid_math_bits_deBruijn32tab), ("math/bits.deBruijn64tab", laid_math_bits_deBruijn64tab), ("internal/strconv.uint64pow10", laid_internal_strconv_uint64pow10)] }
def NumValuesSaid : Prop := numValuesRow.holds Tryd.pinned (OpenSpec.ofChange numValuesSpec)

/-- ITS FALSE NEIGHBOUR: 'it returns false'. Refute it at one input. -/
def numValuesWrong : ChangeSpec := { name := "numValues", fn := fun _ => fun
  | [d1, d2, d3] => { results := [.lit (.bool false)], args := [d1, d2, d3] }
  | _ => none }
def NumValuesWrongFalsely : Prop := numValuesRow.holds Tryd.pinned (OpenSpec.ofChange numValuesWrong)

/-- 'quadratrixlaw01.NumArithmetic': WHATEVER THE INPUT: true; the input reads as it did. -/
def numArithmeticSpec : ChangeSpec := { name := "numArithmetic", fn := fun _ => fun
  | [d1, d2] => { results := [.lit (.bool true)], args := [d1, d2] }
  | _ => none }
def numArithmeticRow : OpenClaim := { program := "ytebkelnibecmjaadoor", sum := "5113104420d8f8cfc4f5dc83ea263997a124430bfe9f658b5e8acc4eab1839c5", func := "quadratrix/quadratrixlaw01.NumArithmetic", spec := "numArithmetic", inPlace := ["math/bits.Sub64"], unfollowed := true, recurses := true, named := ["internal/strconv.uint64pow10", "math/bits.deBruijn32tab", "math/bits.deBruijn64tab"], apart := false, laid := [("math/bits.deBruijn32tab", laid_math_bits_deBruijn32tab), ("math/bits.deBruijn64tab", laid_math_bits_deBruijn64tab), ("internal/strconv.uint64pow10", laid_internal_strconv_uint64pow10)] }
def NumArithmeticSaid : Prop := numArithmeticRow.holds Tryd.pinned (OpenSpec.ofChange numArithmeticSpec)

/-- ITS FALSE NEIGHBOUR: 'it returns false'. Refute it at one input. -/
def numArithmeticWrong : ChangeSpec := { name := "numArithmetic", fn := fun _ => fun
  | [d1, d2] => { results := [.lit (.bool false)], args := [d1, d2] }
  | _ => none }
def NumArithmeticWrongFalsely : Prop := numArithmeticRow.holds Tryd.pinned (OpenSpec.ofChange numArithmeticWrong)

/-- 'quadratrixlaw01.NumPowers': WHATEVER THE INPUT: true; the input reads as it did. -/
def numPowersSpec : ChangeSpec := { name := "numPowers", fn := fun _ => fun
  | [d1, d2] => { results := [.lit (.bool true)], args := [d1, d2] }
  | _ => none }
def numPowersRow : OpenClaim := { program := "ytebkelnibecmjaadoor", sum := "5113104420d8f8cfc4f5dc83ea263997a124430bfe9f658b5e8acc4eab1839c5", func := "quadratrix/quadratrixlaw01.NumPowers", spec := "numPowers", inPlace := ["math/bits.Sub64"], unfollowed := true, recurses := true, named := ["internal/strconv.uint64pow10", "math/bits.deBruijn32tab", "math/bits.deBruijn64tab"], apart := false, laid := [("math/bits.deBruijn32tab", laid_math_bits_deBruijn32tab), ("math/bits.deBruijn64tab", laid_math_bits_deBruijn64tab), ("internal/strconv.uint64pow10", laid_internal_strconv_uint64pow10)] }
def NumPowersSaid : Prop := numPowersRow.holds Tryd.pinned (OpenSpec.ofChange numPowersSpec)

/-- ITS FALSE NEIGHBOUR: 'it returns false'. Refute it at one input. -/
def numPowersWrong : ChangeSpec := { name := "numPowers", fn := fun _ => fun
  | [d1, d2] => { results := [.lit (.bool false)], args := [d1, d2] }
  | _ => none }
def NumPowersWrongFalsely : Prop := numPowersRow.holds Tryd.pinned (OpenSpec.ofChange numPowersWrong)

/-- 'quadratrixlaw01.NumTexts': WHATEVER THE INPUT: true; the input reads as it did. -/
def numTextsSpec : ChangeSpec := { name := "numTexts", fn := fun _ => fun
  | [d1, d2] => { results := [.lit (.bool true)], args := [d1, d2] }
  | _ => none }
def numTextsRow : OpenClaim := { program := "ytebkelnibecmjaadoor", sum := "5113104420d8f8cfc4f5dc83ea263997a124430bfe9f658b5e8acc4eab1839c5", func := "quadratrix/quadratrixlaw01.NumTexts", spec := "numTexts", inPlace := ["math/bits.Sub64"], unfollowed := true, recurses := true, named := ["internal/strconv.uint64pow10", "math/bits.deBruijn32tab", "math/bits.deBruijn64tab"], apart := false, laid := [("math/bits.deBruijn32tab", laid_math_bits_deBruijn32tab), ("math/bits.deBruijn64tab", laid_math_bits_deBruijn64tab), ("internal/strconv.uint64pow10", laid_internal_strconv_uint64pow10)] }
def NumTextsSaid : Prop := numTextsRow.holds Tryd.pinned (OpenSpec.ofChange numTextsSpec)

/-- ITS FALSE NEIGHBOUR: 'it returns false'. Refute it at one input. -/
def numTextsWrong : ChangeSpec := { name := "numTexts", fn := fun _ => fun
  | [d1, d2] => { results := [.lit (.bool false)], args := [d1, d2] }
  | _ => none }
def NumTextsWrongFalsely : Prop := numTextsRow.holds Tryd.pinned (OpenSpec.ofChange numTextsWrong)

/-- 'quadratrixlaw01.NumRing': WHATEVER THE INPUT: true; the input reads as it did. -/
def numRingSpec : ChangeSpec := { name := "numRing", fn := fun _ => fun
  | [d1, d2, d3] => { results := [.lit (.bool true)], args := [d1, d2, d3] }
  | _ => none }
def numRingRow : OpenClaim := { program := "ytebkelnibecmjaadoor", sum := "5113104420d8f8cfc4f5dc83ea263997a124430bfe9f658b5e8acc4eab1839c5", func := "quadratrix/quadratrixlaw01.NumRing", spec := "numRing", inPlace := ["math/bits.Sub64"], unfollowed := true, recurses := true, named := ["internal/strconv.uint64pow10", "math/bits.deBruijn32tab", "math/bits.deBruijn64tab"], apart := false, laid := [("math/bits.deBruijn32tab", laid_math_bits_deBruijn32tab), ("math/bits.deBruijn64tab", laid_math_bits_deBruijn64tab), ("internal/strconv.uint64pow10", laid_internal_strconv_uint64pow10)] }
def NumRingSaid : Prop := numRingRow.holds Tryd.pinned (OpenSpec.ofChange numRingSpec)

/-- ITS FALSE NEIGHBOUR: 'it returns false'. Refute it at one input. -/
def numRingWrong : ChangeSpec := { name := "numRing", fn := fun _ => fun
  | [d1, d2, d3] => { results := [.lit (.bool false)], args := [d1, d2, d3] }
  | _ => none }
def NumRingWrongFalsely : Prop := numRingRow.holds Tryd.pinned (OpenSpec.ofChange numRingWrong)

/-- 'quadratrixlaw01.NumDivision': WHATEVER THE INPUT: true; the input reads as it did. -/
def numDivisionSpec : ChangeSpec := { name := "numDivision", fn := fun _ => fun
  | [d1, d2, d3] => { results := [.lit (.bool true)], args := [d1, d2, d3] }
  | _ => none }
def numDivisionRow : OpenClaim := { program := "ytebkelnibecmjaadoor", sum := "5113104420d8f8cfc4f5dc83ea263997a124430bfe9f658b5e8acc4eab1839c5", func := "quadratrix/quadratrixlaw01.NumDivision", spec := "numDivision", inPlace := ["math/bits.Sub64"], unfollowed := true, recurses := true, named := ["internal/strconv.uint64pow10", "math/bits.deBruijn32tab", "math/bits.deBruijn64tab"], apart := false, laid := [("math/bits.deBruijn32tab", laid_math_bits_deBruijn32tab), ("math/bits.deBruijn64tab", laid_math_bits_deBruijn64tab), ("internal/strconv.uint64pow10", laid_internal_strconv_uint64pow10)] }
def NumDivisionSaid : Prop := numDivisionRow.holds Tryd.pinned (OpenSpec.ofChange numDivisionSpec)

/-- ITS FALSE NEIGHBOUR: 'it returns false'. Refute it at one input. -/
def numDivisionWrong : ChangeSpec := { name := "numDivision", fn := fun _ => fun
  | [d1, d2, d3] => { results := [.lit (.bool false)], args := [d1, d2, d3] }
  | _ => none }
def NumDivisionWrongFalsely : Prop := numDivisionRow.holds Tryd.pinned (OpenSpec.ofChange numDivisionWrong)

/-- 'quadratrixlaw01.NumBezout': WHATEVER THE INPUT: true; the input reads as it did. -/
def numBezoutSpec : ChangeSpec := { name := "numBezout", fn := fun _ => fun
  | [d1, d2, d3] => { results := [.lit (.bool true)], args := [d1, d2, d3] }
  | _ => none }
def numBezoutRow : OpenClaim := { program := "ytebkelnibecmjaadoor", sum := "5113104420d8f8cfc4f5dc83ea263997a124430bfe9f658b5e8acc4eab1839c5", func := "quadratrix/quadratrixlaw01.NumBezout", spec := "numBezout", inPlace := ["math/bits.Sub64"], unfollowed := true, recurses := true, named := ["internal/strconv.uint64pow10", "math/bits.deBruijn32tab", "math/bits.deBruijn64tab"], apart := false, laid := [("math/bits.deBruijn32tab", laid_math_bits_deBruijn32tab), ("math/bits.deBruijn64tab", laid_math_bits_deBruijn64tab), ("internal/strconv.uint64pow10", laid_internal_strconv_uint64pow10)] }
def NumBezoutSaid : Prop := numBezoutRow.holds Tryd.pinned (OpenSpec.ofChange numBezoutSpec)

/-- ITS FALSE NEIGHBOUR: 'it returns false'. Refute it at one input. -/
def numBezoutWrong : ChangeSpec := { name := "numBezout", fn := fun _ => fun
  | [d1, d2, d3] => { results := [.lit (.bool false)], args := [d1, d2, d3] }
  | _ => none }
def NumBezoutWrongFalsely : Prop := numBezoutRow.holds Tryd.pinned (OpenSpec.ofChange numBezoutWrong)

/-- 'quadratrixlaw01.NumBack': WHATEVER THE INPUT: true; the input reads as it did. -/
def numBackSpec : ChangeSpec := { name := "numBack", fn := fun _ => fun
  | [d1, d2, d3, d4, d5] => { results := [.lit (.bool true)], args := [d1, d2, d3, d4, d5] }
  | _ => none }
def numBackRow : OpenClaim := { program := "ytebkelnibecmjaadoor", sum := "5113104420d8f8cfc4f5dc83ea263997a124430bfe9f658b5e8acc4eab1839c5", func := "quadratrix/quadratrixlaw01.NumBack", spec := "numBack", inPlace := ["math/bits.Sub64"], unfollowed := true, recurses := true, named := ["internal/strconv.uint64pow10", "math/bits.deBruijn32tab", "math/bits.deBruijn64tab"], apart := false, laid := [("math/bits.deBruijn32tab", laid_math_bits_deBruijn32tab), ("math/bits.deBruijn64tab", laid_math_bits_deBruijn64tab), ("internal/strconv.uint64pow10", laid_internal_strconv_uint64pow10)] }
def NumBackSaid : Prop := numBackRow.holds Tryd.pinned (OpenSpec.ofChange numBackSpec)

/-- ITS FALSE NEIGHBOUR: 'it returns false'. Refute it at one input. -/
def numBackWrong : ChangeSpec := { name := "numBack", fn := fun _ => fun
  | [d1, d2, d3, d4, d5] => { results := [.lit (.bool false)], args := [d1, d2, d3, d4, d5] }
  | _ => none }
def NumBackWrongFalsely : Prop := numBackRow.holds Tryd.pinned (OpenSpec.ofChange numBackWrong)

/-- 'quadratrixlaw01.NumStays': WHATEVER THE INPUT: true; the input reads as it did. -/
def numStaysSpec : ChangeSpec := { name := "numStays", fn := fun _ => fun
  | [d1, d2, d3] => { results := [.lit (.bool true)], args := [d1, d2, d3] }
  | _ => none }
def numStaysRow : OpenClaim := { program := "ytebkelnibecmjaadoor", sum := "5113104420d8f8cfc4f5dc83ea263997a124430bfe9f658b5e8acc4eab1839c5", func := "quadratrix/quadratrixlaw01.NumStays", spec := "numStays", inPlace := ["math/bits.Sub64"], unfollowed := true, recurses := true, named := ["internal/strconv.uint64pow10", "math/bits.deBruijn32tab", "math/bits.deBruijn64tab"], apart := false, laid := [("math/bits.deBruijn32tab", laid_math_bits_deBruijn32tab), ("math/bits.deBruijn64tab", laid_math_bits_deBruijn64tab), ("internal/strconv.uint64pow10", laid_internal_strconv_uint64pow10)] }
def NumStaysSaid : Prop := numStaysRow.holds Tryd.pinned (OpenSpec.ofChange numStaysSpec)

/-- ITS FALSE NEIGHBOUR: 'it returns false'. Refute it at one input. -/
def numStaysWrong : ChangeSpec := { name := "numStays", fn := fun _ => fun
  | [d1, d2, d3] => { results := [.lit (.bool false)], args := [d1, d2, d3] }
  | _ => none }
def NumStaysWrongFalsely : Prop := numStaysRow.holds Tryd.pinned (OpenSpec.ofChange numStaysWrong)

/- THE SECOND FORM. 'bulk': how many values and letters a reading holds, each counted each time it is reached (what is shared counts as often as it is met; a slice's spare places count too). A statement '..UptoSaid' is the law's where the arguments, and the package variables that the reading takes, are together of bulk at most 1048576: NARROWER than '..Said'. Prove '..Said' where nothing that the law and all that it calls make is longer than what came in: it says more and counts as full. Else prove '..UptoSaid'. A law counts once. -/
mutual
def uptoBulk {H : Type} : DataW H → Nat
  | .lit (.string bytes) => bytes.length + 1
  | .lit _ => 1
  | .nil => 1
  | .ptr d => uptoBulk d + 1
  | .slice elems spare => uptoBulkAll elems + uptoBulkAll spare + 1
  | .agg parts => uptoBulkAll parts + 1
  | .iface _ d => uptoBulk d + 1
  | .map entries => uptoBulkEntries entries + 1
  | .held _ => 1
def uptoBulkAll {H : Type} : List (DataW H) → Nat
  | [] => 0
  | d :: r => uptoBulk d + uptoBulkAll r
def uptoBulkEntries {H : Type} : List (Lit × DataW H) → Nat
  | [] => 0
  | x :: r => uptoBulkEntry x + uptoBulkEntries r
def uptoBulkEntry {H : Type} : Lit × DataW H → Nat
  | (.string bytes, d) => bytes.length + uptoBulk d + 1
  | (_, d) => uptoBulk d + 1
 end
def uptoSmall : (H : Type) → List (DataW H) → Bool := fun _ ds => decide (uptoBulkAll ds ≤ 1048576)
def OpenSpec.upto (s : _root_.Go.ChangeSpec) : _root_.Go.OpenSpec := { _root_.Go.OpenSpec.ofChange s with cond := some uptoSmall }

/-- 'quadratrixlaw01.NumValues', WHERE WHAT IT READS IS OF BULK AT MOST 1048576: true; the input reads as it did. -/
def numValuesUptoRow : OpenClaim := { program := "ytebkelnibecmjaadoor", sum := "5113104420d8f8cfc4f5dc83ea263997a124430bfe9f658b5e8acc4eab1839c5", func := "quadratrix/quadratrixlaw01.NumValues", spec := "numValues", inPlace := ["math/bits.Sub64"], unfollowed := true, recurses := true, named := ["internal/strconv.uint64pow10", "math/bits.deBruijn32tab", "math/bits.deBruijn64tab"], apart := false, laid := [("math/bits.deBruijn32tab", laid_math_bits_deBruijn32tab), ("math/bits.deBruijn64tab", laid_math_bits_deBruijn64tab), ("internal/strconv.uint64pow10", laid_internal_strconv_uint64pow10)], narrowed := true }
def NumValuesUptoSaid : Prop := numValuesUptoRow.holds Tryd.pinned (OpenSpec.upto numValuesSpec)

/-- 'quadratrixlaw01.NumArithmetic', WHERE WHAT IT READS IS OF BULK AT MOST 1048576: true; the input reads as it did. -/
def numArithmeticUptoRow : OpenClaim := { program := "ytebkelnibecmjaadoor", sum := "5113104420d8f8cfc4f5dc83ea263997a124430bfe9f658b5e8acc4eab1839c5", func := "quadratrix/quadratrixlaw01.NumArithmetic", spec := "numArithmetic", inPlace := ["math/bits.Sub64"], unfollowed := true, recurses := true, named := ["internal/strconv.uint64pow10", "math/bits.deBruijn32tab", "math/bits.deBruijn64tab"], apart := false, laid := [("math/bits.deBruijn32tab", laid_math_bits_deBruijn32tab), ("math/bits.deBruijn64tab", laid_math_bits_deBruijn64tab), ("internal/strconv.uint64pow10", laid_internal_strconv_uint64pow10)], narrowed := true }
def NumArithmeticUptoSaid : Prop := numArithmeticUptoRow.holds Tryd.pinned (OpenSpec.upto numArithmeticSpec)

/-- 'quadratrixlaw01.NumPowers', WHERE WHAT IT READS IS OF BULK AT MOST 1048576: true; the input reads as it did. -/
def numPowersUptoRow : OpenClaim := { program := "ytebkelnibecmjaadoor", sum := "5113104420d8f8cfc4f5dc83ea263997a124430bfe9f658b5e8acc4eab1839c5", func := "quadratrix/quadratrixlaw01.NumPowers", spec := "numPowers", inPlace := ["math/bits.Sub64"], unfollowed := true, recurses := true, named := ["internal/strconv.uint64pow10", "math/bits.deBruijn32tab", "math/bits.deBruijn64tab"], apart := false, laid := [("math/bits.deBruijn32tab", laid_math_bits_deBruijn32tab), ("math/bits.deBruijn64tab", laid_math_bits_deBruijn64tab), ("internal/strconv.uint64pow10", laid_internal_strconv_uint64pow10)], narrowed := true }
def NumPowersUptoSaid : Prop := numPowersUptoRow.holds Tryd.pinned (OpenSpec.upto numPowersSpec)

/-- 'quadratrixlaw01.NumTexts', WHERE WHAT IT READS IS OF BULK AT MOST 1048576: true; the input reads as it did. -/
def numTextsUptoRow : OpenClaim := { program := "ytebkelnibecmjaadoor", sum := "5113104420d8f8cfc4f5dc83ea263997a124430bfe9f658b5e8acc4eab1839c5", func := "quadratrix/quadratrixlaw01.NumTexts", spec := "numTexts", inPlace := ["math/bits.Sub64"], unfollowed := true, recurses := true, named := ["internal/strconv.uint64pow10", "math/bits.deBruijn32tab", "math/bits.deBruijn64tab"], apart := false, laid := [("math/bits.deBruijn32tab", laid_math_bits_deBruijn32tab), ("math/bits.deBruijn64tab", laid_math_bits_deBruijn64tab), ("internal/strconv.uint64pow10", laid_internal_strconv_uint64pow10)], narrowed := true }
def NumTextsUptoSaid : Prop := numTextsUptoRow.holds Tryd.pinned (OpenSpec.upto numTextsSpec)

/-- 'quadratrixlaw01.NumRing', WHERE WHAT IT READS IS OF BULK AT MOST 1048576: true; the input reads as it did. -/
def numRingUptoRow : OpenClaim := { program := "ytebkelnibecmjaadoor", sum := "5113104420d8f8cfc4f5dc83ea263997a124430bfe9f658b5e8acc4eab1839c5", func := "quadratrix/quadratrixlaw01.NumRing", spec := "numRing", inPlace := ["math/bits.Sub64"], unfollowed := true, recurses := true, named := ["internal/strconv.uint64pow10", "math/bits.deBruijn32tab", "math/bits.deBruijn64tab"], apart := false, laid := [("math/bits.deBruijn32tab", laid_math_bits_deBruijn32tab), ("math/bits.deBruijn64tab", laid_math_bits_deBruijn64tab), ("internal/strconv.uint64pow10", laid_internal_strconv_uint64pow10)], narrowed := true }
def NumRingUptoSaid : Prop := numRingUptoRow.holds Tryd.pinned (OpenSpec.upto numRingSpec)

/-- 'quadratrixlaw01.NumDivision', WHERE WHAT IT READS IS OF BULK AT MOST 1048576: true; the input reads as it did. -/
def numDivisionUptoRow : OpenClaim := { program := "ytebkelnibecmjaadoor", sum := "5113104420d8f8cfc4f5dc83ea263997a124430bfe9f658b5e8acc4eab1839c5", func := "quadratrix/quadratrixlaw01.NumDivision", spec := "numDivision", inPlace := ["math/bits.Sub64"], unfollowed := true, recurses := true, named := ["internal/strconv.uint64pow10", "math/bits.deBruijn32tab", "math/bits.deBruijn64tab"], apart := false, laid := [("math/bits.deBruijn32tab", laid_math_bits_deBruijn32tab), ("math/bits.deBruijn64tab", laid_math_bits_deBruijn64tab), ("internal/strconv.uint64pow10", laid_internal_strconv_uint64pow10)], narrowed := true }
def NumDivisionUptoSaid : Prop := numDivisionUptoRow.holds Tryd.pinned (OpenSpec.upto numDivisionSpec)

/-- 'quadratrixlaw01.NumBezout', WHERE WHAT IT READS IS OF BULK AT MOST 1048576: true; the input reads as it did. -/
def numBezoutUptoRow : OpenClaim := { program := "ytebkelnibecmjaadoor", sum := "5113104420d8f8cfc4f5dc83ea263997a124430bfe9f658b5e8acc4eab1839c5", func := "quadratrix/quadratrixlaw01.NumBezout", spec := "numBezout", inPlace := ["math/bits.Sub64"], unfollowed := true, recurses := true, named := ["internal/strconv.uint64pow10", "math/bits.deBruijn32tab", "math/bits.deBruijn64tab"], apart := false, laid := [("math/bits.deBruijn32tab", laid_math_bits_deBruijn32tab), ("math/bits.deBruijn64tab", laid_math_bits_deBruijn64tab), ("internal/strconv.uint64pow10", laid_internal_strconv_uint64pow10)], narrowed := true }
def NumBezoutUptoSaid : Prop := numBezoutUptoRow.holds Tryd.pinned (OpenSpec.upto numBezoutSpec)

/-- 'quadratrixlaw01.NumBack', WHERE WHAT IT READS IS OF BULK AT MOST 1048576: true; the input reads as it did. -/
def numBackUptoRow : OpenClaim := { program := "ytebkelnibecmjaadoor", sum := "5113104420d8f8cfc4f5dc83ea263997a124430bfe9f658b5e8acc4eab1839c5", func := "quadratrix/quadratrixlaw01.NumBack", spec := "numBack", inPlace := ["math/bits.Sub64"], unfollowed := true, recurses := true, named := ["internal/strconv.uint64pow10", "math/bits.deBruijn32tab", "math/bits.deBruijn64tab"], apart := false, laid := [("math/bits.deBruijn32tab", laid_math_bits_deBruijn32tab), ("math/bits.deBruijn64tab", laid_math_bits_deBruijn64tab), ("internal/strconv.uint64pow10", laid_internal_strconv_uint64pow10)], narrowed := true }
def NumBackUptoSaid : Prop := numBackUptoRow.holds Tryd.pinned (OpenSpec.upto numBackSpec)

/-- 'quadratrixlaw01.NumStays', WHERE WHAT IT READS IS OF BULK AT MOST 1048576: true; the input reads as it did. -/
def numStaysUptoRow : OpenClaim := { program := "ytebkelnibecmjaadoor", sum := "5113104420d8f8cfc4f5dc83ea263997a124430bfe9f658b5e8acc4eab1839c5", func := "quadratrix/quadratrixlaw01.NumStays", spec := "numStays", inPlace := ["math/bits.Sub64"], unfollowed := true, recurses := true, named := ["internal/strconv.uint64pow10", "math/bits.deBruijn32tab", "math/bits.deBruijn64tab"], apart := false, laid := [("math/bits.deBruijn32tab", laid_math_bits_deBruijn32tab), ("math/bits.deBruijn64tab", laid_math_bits_deBruijn64tab), ("internal/strconv.uint64pow10", laid_internal_strconv_uint64pow10)], narrowed := true }
def NumStaysUptoSaid : Prop := numStaysUptoRow.holds Tryd.pinned (OpenSpec.upto numStaysSpec)

end Rows
end Go.Proofs.YtebkelnibecmjaaDoor
