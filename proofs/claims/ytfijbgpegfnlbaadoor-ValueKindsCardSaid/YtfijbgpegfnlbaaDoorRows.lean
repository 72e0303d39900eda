/-
  NARROWER THAN 'FOR EVERY INPUT', by the rows' own cells (each row's printed sentence says how): ValueRefuses: laid · ValueAll: laid · ValueKinds: laid · ArithOrders: laid · ArithTexts: laid · ArithAll: laid · ArithNumbers: laid · ArithSame: laid · ArithKinds: laid.
  DERIVED. THE GIVEN ROWS OF THIS SEAT. 9 by the template 'for every input the law returns true; each argument reads behind the call as it read before'; 0 by the template 'total and deterministic' (their statements: YtfijbgpegfnlbaaDoorTotals.lean).
  GIVEN WITH THE SEED: the statements are not yours to turn. If you find one false, say at which input.
  Laid BY PROGRAM, IN A SANDBOX (cutbox-rows.mjs): the forced cells as the released guide's own fill.sh prints them over the translation 85107a2d51748228… (all of the seat's roots in one cut). By AI agents, Wed Nov 11 2026. No macro, syntax, notation, axiom, sorry.
-/
import Derived.Test.YtfijbgpegfnlbaaDoorChecked
import GoSem.Claim
import GoSem.ClaimJoined
import GoSem.ClaimMapViews
import Derived.JoinedTies
import Derived.KernelRfl
namespace Go.Proofs.YtfijbgpegfnlbaaDoor
/- THE CELL 'sum', in the pinned program and in every row, IS THE sha256 OF THE DUMP (.gsa) THAT YtfijbgpegfnlbaaDoorProg.lean LOADS. Nothing in Lean hashes anything: it is a label: what it is worth is what the hold of that sum in a sandbox is worth. -/
noncomputable def Tryd.pinned : Pinned := { name := "ytfijbgpegfnlbaadoor", sum := "85107a2d51748228d8aa4bcefb6d122508ad87b6023ccae0bf7c1fbf250a2a24", checked := Tryd.checked }
namespace Rows
def none {H : Type} : Left H := { results := [], args := [] }

/- WHAT THE LISTED PACKAGE-LEVEL VARIABLES READ AS WHEN THE CALL BEGINS. Each datum BY PROGRAM (the guide's laid-datum.mjs) off the statement by which the dump's own 'gosem.cut.vars' lays the variable. In a bare row this is a premise. The card (YtfijbgpegfnlbaaDoorCards.lean) ties it to the program's text. -/
def laid_math_bits_deBruijn32tab {H : Type} : DataW H := .agg [.lit (.int .u8 0), .lit (.int .u8 1), .lit (.int .u8 28), .lit (.int .u8 2), .lit (.int .u8 29), .lit (.int .u8 14), .lit (.int .u8 24), .lit (.int .u8 3), .lit (.int .u8 30), .lit (.int .u8 22), .lit (.int .u8 20), .lit (.int .u8 15), .lit (.int .u8 25), .lit (.int .u8 17), .lit (.int .u8 4), .lit (.int .u8 8), .lit (.int .u8 31), .lit (.int .u8 27), .lit (.int .u8 13), .lit (.int .u8 23), .lit (.int .u8 21), .lit (.int .u8 19), .lit (.int .u8 16), .lit (.int .u8 7), .lit (.int .u8 26), .lit (.int .u8 12), .lit (.int .u8 18), .lit (.int .u8 6), .lit (.int .u8 11), .lit (.int .u8 5), .lit (.int .u8 10), .lit (.int .u8 9)]
def laid_math_bits_deBruijn64tab {H : Type} : DataW H := .agg [.lit (.int .u8 0), .lit (.int .u8 1), .lit (.int .u8 56), .lit (.int .u8 2), .lit (.int .u8 57), .lit (.int .u8 49), .lit (.int .u8 28), .lit (.int .u8 3), .lit (.int .u8 61), .lit (.int .u8 58), .lit (.int .u8 42), .lit (.int .u8 50), .lit (.int .u8 38), .lit (.int .u8 29), .lit (.int .u8 17), .lit (.int .u8 4), .lit (.int .u8 62), .lit (.int .u8 47), .lit (.int .u8 59), .lit (.int .u8 36), .lit (.int .u8 45), .lit (.int .u8 43), .lit (.int .u8 51), .lit (.int .u8 22), .lit (.int .u8 53), .lit (.int .u8 39), .lit (.int .u8 33), .lit (.int .u8 30), .lit (.int .u8 24), .lit (.int .u8 18), .lit (.int .u8 12), .lit (.int .u8 5), .lit (.int .u8 63), .lit (.int .u8 55), .lit (.int .u8 48), .lit (.int .u8 27), .lit (.int .u8 60), .lit (.int .u8 41), .lit (.int .u8 37), .lit (.int .u8 16), .lit (.int .u8 46), .lit (.int .u8 35), .lit (.int .u8 44), .lit (.int .u8 21), .lit (.int .u8 52), .lit (.int .u8 32), .lit (.int .u8 23), .lit (.int .u8 11), .lit (.int .u8 54), .lit (.int .u8 26), .lit (.int .u8 40), .lit (.int .u8 15), .lit (.int .u8 34), .lit (.int .u8 20), .lit (.int .u8 31), .lit (.int .u8 10), .lit (.int .u8 25), .lit (.int .u8 14), .lit (.int .u8 19), .lit (.int .u8 9), .lit (.int .u8 13), .lit (.int .u8 8), .lit (.int .u8 7), .lit (.int .u8 6)]
def laid_internal_strconv_uint64pow10 {H : Type} : DataW H := .agg [.lit (.int .u64 1), .lit (.int .u64 10), .lit (.int .u64 100), .lit (.int .u64 1000), .lit (.int .u64 10000), .lit (.int .u64 100000), .lit (.int .u64 1000000), .lit (.int .u64 10000000), .lit (.int .u64 100000000), .lit (.int .u64 1000000000), .lit (.int .u64 10000000000), .lit (.int .u64 100000000000), .lit (.int .u64 1000000000000), .lit (.int .u64 10000000000000), .lit (.int .u64 100000000000000), .lit (.int .u64 1000000000000000), .lit (.int .u64 10000000000000000), .lit (.int .u64 100000000000000000), .lit (.int .u64 1000000000000000000), .lit (.int .u64 10000000000000000000)]

/-- 'boomeranglaw13.ValueRefuses': WHATEVER THE INPUT: true; the input reads as it did. -/
def valueRefusesSpec : ChangeSpec := { name := "valueRefuses", fn := fun _ => fun
  | [d1, d2] => { results := [.lit (.bool true)], args := [d1, d2] }
  | _ => none }
def valueRefusesRow : OpenClaim := { program := "ytfijbgpegfnlbaadoor", sum := "85107a2d51748228d8aa4bcefb6d122508ad87b6023ccae0bf7c1fbf250a2a24", func := "boomerang/boomeranglaw13.ValueRefuses", spec := "valueRefuses", named := ["internal/strconv.uint64pow10", "math/bits.deBruijn32tab", "math/bits.deBruijn64tab"], apart := false, laid := [("math/bits.deBruijn32tab", laid_math_bits_deBruijn32tab), ("math/bits.deBruijn64tab", laid_math_bits_deBruijn64tab), ("internal/strconv.uint64pow10", laid_internal_strconv_uint64pow10)] }
def ValueRefusesSaid : Prop := valueRefusesRow.holds Tryd.pinned (OpenSpec.ofChange valueRefusesSpec)

/-- ITS FALSE NEIGHBOUR: 'it returns false'. Refute it at one input. -/
def valueRefusesWrong : ChangeSpec := { name := "valueRefuses", fn := fun _ => fun
  | [d1, d2] => { results := [.lit (.bool false)], args := [d1, d2] }
  | _ => none }
def ValueRefusesWrongFalsely : Prop := valueRefusesRow.holds Tryd.pinned (OpenSpec.ofChange valueRefusesWrong)

/-- 'boomeranglaw13.ValueAll': WHATEVER THE INPUT: true; the input reads as it did. -/
def valueAllSpec : ChangeSpec := { name := "valueAll", fn := fun _ => fun
  | [d1, d2, d3] => { results := [.lit (.bool true)], args := [d1, d2, d3] }
  | _ => none }
def valueAllRow : OpenClaim := { program := "ytfijbgpegfnlbaadoor", sum := "85107a2d51748228d8aa4bcefb6d122508ad87b6023ccae0bf7c1fbf250a2a24", func := "boomerang/boomeranglaw13.ValueAll", spec := "valueAll", recurses := true, named := ["internal/strconv.uint64pow10", "math/bits.deBruijn32tab", "math/bits.deBruijn64tab"], apart := false, laid := [("math/bits.deBruijn32tab", laid_math_bits_deBruijn32tab), ("math/bits.deBruijn64tab", laid_math_bits_deBruijn64tab), ("internal/strconv.uint64pow10", laid_internal_strconv_uint64pow10)] }
def ValueAllSaid : Prop := valueAllRow.holds Tryd.pinned (OpenSpec.ofChange valueAllSpec)

/-- ITS FALSE NEIGHBOUR: 'it returns false'. Refute it at one input. -/
def valueAllWrong : ChangeSpec := { name := "valueAll", fn := fun _ => fun
  | [d1, d2, d3] => { results := [.lit (.bool false)], args := [d1, d2, d3] }
  | _ => none }
def ValueAllWrongFalsely : Prop := valueAllRow.holds Tryd.pinned (OpenSpec.ofChange valueAllWrong)

/-- 'boomeranglaw13.ValueKinds': WHATEVER THE INPUT: true; the input reads as it did. -/
def valueKindsSpec : ChangeSpec := { name := "valueKinds", fn := fun _ => fun
  | [d1, d2] => { results := [.lit (.bool true)], args := [d1, d2] }
  | _ => none }
def valueKindsRow : OpenClaim := { program := "ytfijbgpegfnlbaadoor", sum := "85107a2d51748228d8aa4bcefb6d122508ad87b6023ccae0bf7c1fbf250a2a24", func := "boomerang/boomeranglaw13.ValueKinds", spec := "valueKinds", recurses := true, named := ["internal/strconv.uint64pow10", "math/bits.deBruijn32tab", "math/bits.deBruijn64tab"], apart := false, laid := [("math/bits.deBruijn32tab", laid_math_bits_deBruijn32tab), ("math/bits.deBruijn64tab", laid_math_bits_deBruijn64tab), ("internal/strconv.uint64pow10", laid_internal_strconv_uint64pow10)] }
def ValueKindsSaid : Prop := valueKindsRow.holds Tryd.pinned (OpenSpec.ofChange valueKindsSpec)

/-- ITS FALSE NEIGHBOUR: 'it returns false'. Refute it at one input. -/
def valueKindsWrong : ChangeSpec := { name := "valueKinds", fn := fun _ => fun
  | [d1, d2] => { results := [.lit (.bool false)], args := [d1, d2] }
  | _ => none }
def ValueKindsWrongFalsely : Prop := valueKindsRow.holds Tryd.pinned (OpenSpec.ofChange valueKindsWrong)

/-- 'boomeranglaw14.ArithOrders': WHATEVER THE INPUT: true; the input reads as it did. -/
def arithOrdersSpec : ChangeSpec := { name := "arithOrders", fn := fun _ => fun
  | [d1, d2, d3, d4, d5] => { results := [.lit (.bool true)], args := [d1, d2, d3, d4, d5] }
  | _ => none }
def arithOrdersRow : OpenClaim := { program := "ytfijbgpegfnlbaadoor", sum := "85107a2d51748228d8aa4bcefb6d122508ad87b6023ccae0bf7c1fbf250a2a24", func := "boomerang/boomeranglaw14.ArithOrders", spec := "arithOrders", named := ["internal/strconv.uint64pow10", "math/bits.deBruijn32tab", "math/bits.deBruijn64tab"], apart := false, laid := [("math/bits.deBruijn32tab", laid_math_bits_deBruijn32tab), ("math/bits.deBruijn64tab", laid_math_bits_deBruijn64tab), ("internal/strconv.uint64pow10", laid_internal_strconv_uint64pow10)] }
def ArithOrdersSaid : Prop := arithOrdersRow.holds Tryd.pinned (OpenSpec.ofChange arithOrdersSpec)

/-- ITS FALSE NEIGHBOUR: 'it returns false'. Refute it at one input. -/
def arithOrdersWrong : ChangeSpec := { name := "arithOrders", fn := fun _ => fun
  | [d1, d2, d3, d4, d5] => { results := [.lit (.bool false)], args := [d1, d2, d3, d4, d5] }
  | _ => none }
def ArithOrdersWrongFalsely : Prop := arithOrdersRow.holds Tryd.pinned (OpenSpec.ofChange arithOrdersWrong)

/-- 'boomeranglaw14.ArithTexts': WHATEVER THE INPUT: true; the input reads as it did. -/
def arithTextsSpec : ChangeSpec := { name := "arithTexts", fn := fun _ => fun
  | [d1, d2, d3] => { results := [.lit (.bool true)], args := [d1, d2, d3] }
  | _ => none }
def arithTextsRow : OpenClaim := { program := "ytfijbgpegfnlbaadoor", sum := "85107a2d51748228d8aa4bcefb6d122508ad87b6023ccae0bf7c1fbf250a2a24", func := "boomerang/boomeranglaw14.ArithTexts", spec := "arithTexts", named := ["internal/strconv.uint64pow10", "math/bits.deBruijn32tab", "math/bits.deBruijn64tab"], apart := false, laid := [("math/bits.deBruijn32tab", laid_math_bits_deBruijn32tab), ("math/bits.deBruijn64tab", laid_math_bits_deBruijn64tab), ("internal/strconv.uint64pow10", laid_internal_strconv_uint64pow10)] }
def ArithTextsSaid : Prop := arithTextsRow.holds Tryd.pinned (OpenSpec.ofChange arithTextsSpec)

/-- ITS FALSE NEIGHBOUR: 'it returns false'. Refute it at one input. -/
def arithTextsWrong : ChangeSpec := { name := "arithTexts", fn := fun _ => fun
  | [d1, d2, d3] => { results := [.lit (.bool false)], args := [d1, d2, d3] }
  | _ => none }
def ArithTextsWrongFalsely : Prop := arithTextsRow.holds Tryd.pinned (OpenSpec.ofChange arithTextsWrong)

/-- 'boomeranglaw14.ArithAll': WHATEVER THE INPUT: true; the input reads as it did. -/
def arithAllSpec : ChangeSpec := { name := "arithAll", fn := fun _ => fun
  | [d1, d2, d3] => { results := [.lit (.bool true)], args := [d1, d2, d3] }
  | _ => none }
def arithAllRow : OpenClaim := { program := "ytfijbgpegfnlbaadoor", sum := "85107a2d51748228d8aa4bcefb6d122508ad87b6023ccae0bf7c1fbf250a2a24", func := "boomerang/boomeranglaw14.ArithAll", spec := "arithAll", recurses := true, named := ["internal/strconv.uint64pow10", "math/bits.deBruijn32tab", "math/bits.deBruijn64tab"], apart := false, laid := [("math/bits.deBruijn32tab", laid_math_bits_deBruijn32tab), ("math/bits.deBruijn64tab", laid_math_bits_deBruijn64tab), ("internal/strconv.uint64pow10", laid_internal_strconv_uint64pow10)] }
def ArithAllSaid : Prop := arithAllRow.holds Tryd.pinned (OpenSpec.ofChange arithAllSpec)

/-- ITS FALSE NEIGHBOUR: 'it returns false'. Refute it at one input. -/
def arithAllWrong : ChangeSpec := { name := "arithAll", fn := fun _ => fun
  | [d1, d2, d3] => { results := [.lit (.bool false)], args := [d1, d2, d3] }
  | _ => none }
def ArithAllWrongFalsely : Prop := arithAllRow.holds Tryd.pinned (OpenSpec.ofChange arithAllWrong)

/-- 'boomeranglaw14.ArithNumbers': WHATEVER THE INPUT: true; the input reads as it did. -/
def arithNumbersSpec : ChangeSpec := { name := "arithNumbers", fn := fun _ => fun
  | [d1, d2] => { results := [.lit (.bool true)], args := [d1, d2] }
  | _ => none }
def arithNumbersRow : OpenClaim := { program := "ytfijbgpegfnlbaadoor", sum := "85107a2d51748228d8aa4bcefb6d122508ad87b6023ccae0bf7c1fbf250a2a24", func := "boomerang/boomeranglaw14.ArithNumbers", spec := "arithNumbers", named := ["internal/strconv.uint64pow10", "math/bits.deBruijn32tab", "math/bits.deBruijn64tab"], apart := false, laid := [("math/bits.deBruijn32tab", laid_math_bits_deBruijn32tab), ("math/bits.deBruijn64tab", laid_math_bits_deBruijn64tab), ("internal/strconv.uint64pow10", laid_internal_strconv_uint64pow10)] }
def ArithNumbersSaid : Prop := arithNumbersRow.holds Tryd.pinned (OpenSpec.ofChange arithNumbersSpec)

/-- ITS FALSE NEIGHBOUR: 'it returns false'. Refute it at one input. -/
def arithNumbersWrong : ChangeSpec := { name := "arithNumbers", fn := fun _ => fun
  | [d1, d2] => { results := [.lit (.bool false)], args := [d1, d2] }
  | _ => none }
def ArithNumbersWrongFalsely : Prop := arithNumbersRow.holds Tryd.pinned (OpenSpec.ofChange arithNumbersWrong)

/-- 'boomeranglaw14.ArithSame': WHATEVER THE INPUT: true; the input reads as it did. -/
def arithSameSpec : ChangeSpec := { name := "arithSame", fn := fun _ => fun
  | [d1, d2] => { results := [.lit (.bool true)], args := [d1, d2] }
  | _ => none }
def arithSameRow : OpenClaim := { program := "ytfijbgpegfnlbaadoor", sum := "85107a2d51748228d8aa4bcefb6d122508ad87b6023ccae0bf7c1fbf250a2a24", func := "boomerang/boomeranglaw14.ArithSame", spec := "arithSame", named := ["internal/strconv.uint64pow10", "math/bits.deBruijn32tab", "math/bits.deBruijn64tab"], apart := false, laid := [("math/bits.deBruijn32tab", laid_math_bits_deBruijn32tab), ("math/bits.deBruijn64tab", laid_math_bits_deBruijn64tab), ("internal/strconv.uint64pow10", laid_internal_strconv_uint64pow10)] }
def ArithSameSaid : Prop := arithSameRow.holds Tryd.pinned (OpenSpec.ofChange arithSameSpec)

/-- ITS FALSE NEIGHBOUR: 'it returns false'. Refute it at one input. -/
def arithSameWrong : ChangeSpec := { name := "arithSame", fn := fun _ => fun
  | [d1, d2] => { results := [.lit (.bool false)], args := [d1, d2] }
  | _ => none }
def ArithSameWrongFalsely : Prop := arithSameRow.holds Tryd.pinned (OpenSpec.ofChange arithSameWrong)

/-- 'boomeranglaw14.ArithKinds': WHATEVER THE INPUT: true; the input reads as it did. -/
def arithKindsSpec : ChangeSpec := { name := "arithKinds", fn := fun _ => fun
  | [d1, d2, d3, d4] => { results := [.lit (.bool true)], args := [d1, d2, d3, d4] }
  | _ => none }
def arithKindsRow : OpenClaim := { program := "ytfijbgpegfnlbaadoor", sum := "85107a2d51748228d8aa4bcefb6d122508ad87b6023ccae0bf7c1fbf250a2a24", func := "boomerang/boomeranglaw14.ArithKinds", spec := "arithKinds", named := ["internal/strconv.uint64pow10", "math/bits.deBruijn32tab", "math/bits.deBruijn64tab"], apart := false, laid := [("math/bits.deBruijn32tab", laid_math_bits_deBruijn32tab), ("math/bits.deBruijn64tab", laid_math_bits_deBruijn64tab), ("internal/strconv.uint64pow10", laid_internal_strconv_uint64pow10)] }
def ArithKindsSaid : Prop := arithKindsRow.holds Tryd.pinned (OpenSpec.ofChange arithKindsSpec)

/-- ITS FALSE NEIGHBOUR: 'it returns false'. Refute it at one input. -/
def arithKindsWrong : ChangeSpec := { name := "arithKinds", fn := fun _ => fun
  | [d1, d2, d3, d4] => { results := [.lit (.bool false)], args := [d1, d2, d3, d4] }
  | _ => none }
def ArithKindsWrongFalsely : Prop := arithKindsRow.holds Tryd.pinned (OpenSpec.ofChange arithKindsWrong)

/- THE SECOND FORM. 'bulk': how many values and letters a reading holds, each counted each time it is reached (what is shared counts as often as it is met; a slice's spare places count too). A statement '..UptoSaid' is the law's where the arguments, and the package variables that the reading takes, are together of bulk at most 1048576: NARROWER than '..Said'. Prove '..Said' where nothing that the law and all that it calls make is longer than what came in: it says more and counts as full. Else prove '..UptoSaid'. A law counts once. -/
mutual
def uptoBulk {H : Type} : DataW H → Nat
  | .lit (.string bytes) => bytes.length + 1
  | .lit _ => 1
  | .nil => 1
  | .ptr d => uptoBulk d + 1
  | .slice elems spare => uptoBulkAll elems + uptoBulkAll spare + 1
  | .agg parts => uptoBulkAll parts + 1
  | .iface _ d => uptoBulk d + 1
  | .map entries => uptoBulkEntries entries + 1
  | .held _ => 1
def uptoBulkAll {H : Type} : List (DataW H) → Nat
  | [] => 0
  | d :: r => uptoBulk d + uptoBulkAll r
def uptoBulkEntries {H : Type} : List (Lit × DataW H) → Nat
  | [] => 0
  | x :: r => uptoBulkEntry x + uptoBulkEntries r
def uptoBulkEntry {H : Type} : Lit × DataW H → Nat
  | (.string bytes, d) => bytes.length + uptoBulk d + 1
  | (_, d) => uptoBulk d + 1
 end
def uptoSmall : (H : Type) → List (DataW H) → Bool := fun _ ds => decide (uptoBulkAll ds ≤ 1048576)
def OpenSpec.upto (s : _root_.Go.ChangeSpec) : _root_.Go.OpenSpec := { _root_.Go.OpenSpec.ofChange s with cond := some uptoSmall }

/-- 'boomeranglaw13.ValueRefuses', WHERE WHAT IT READS IS OF BULK AT MOST 1048576: true; the input reads as it did. -/
def valueRefusesUptoRow : OpenClaim := { program := "ytfijbgpegfnlbaadoor", sum := "85107a2d51748228d8aa4bcefb6d122508ad87b6023ccae0bf7c1fbf250a2a24", func := "boomerang/boomeranglaw13.ValueRefuses", spec := "valueRefuses", named := ["internal/strconv.uint64pow10", "math/bits.deBruijn32tab", "math/bits.deBruijn64tab"], apart := false, laid := [("math/bits.deBruijn32tab", laid_math_bits_deBruijn32tab), ("math/bits.deBruijn64tab", laid_math_bits_deBruijn64tab), ("internal/strconv.uint64pow10", laid_internal_strconv_uint64pow10)], narrowed := true }
def ValueRefusesUptoSaid : Prop := valueRefusesUptoRow.holds Tryd.pinned (OpenSpec.upto valueRefusesSpec)

/-- 'boomeranglaw13.ValueAll', WHERE WHAT IT READS IS OF BULK AT MOST 1048576: true; the input reads as it did. -/
def valueAllUptoRow : OpenClaim := { program := "ytfijbgpegfnlbaadoor", sum := "85107a2d51748228d8aa4bcefb6d122508ad87b6023ccae0bf7c1fbf250a2a24", func := "boomerang/boomeranglaw13.ValueAll", spec := "valueAll", recurses := true, named := ["internal/strconv.uint64pow10", "math/bits.deBruijn32tab", "math/bits.deBruijn64tab"], apart := false, laid := [("math/bits.deBruijn32tab", laid_math_bits_deBruijn32tab), ("math/bits.deBruijn64tab", laid_math_bits_deBruijn64tab), ("internal/strconv.uint64pow10", laid_internal_strconv_uint64pow10)], narrowed := true }
def ValueAllUptoSaid : Prop := valueAllUptoRow.holds Tryd.pinned (OpenSpec.upto valueAllSpec)

/-- 'boomeranglaw13.ValueKinds', WHERE WHAT IT READS IS OF BULK AT MOST 1048576: true; the input reads as it did. -/
def valueKindsUptoRow : OpenClaim := { program := "ytfijbgpegfnlbaadoor", sum := "85107a2d51748228d8aa4bcefb6d122508ad87b6023ccae0bf7c1fbf250a2a24", func := "boomerang/boomeranglaw13.ValueKinds", spec := "valueKinds", recurses := true, named := ["internal/strconv.uint64pow10", "math/bits.deBruijn32tab", "math/bits.deBruijn64tab"], apart := false, laid := [("math/bits.deBruijn32tab", laid_math_bits_deBruijn32tab), ("math/bits.deBruijn64tab", laid_math_bits_deBruijn64tab), ("internal/strconv.uint64pow10", laid_internal_strconv_uint64pow10)], narrowed := true }
def ValueKindsUptoSaid : Prop := valueKindsUptoRow.holds Tryd.pinned (OpenSpec.upto valueKindsSpec)

/-- 'boomeranglaw14.ArithOrders', WHERE WHAT IT READS IS OF BULK AT MOST 1048576: true; the input reads as it did. -/
def arithOrdersUptoRow : OpenClaim := { program := "ytfijbgpegfnlbaadoor", sum := "85107a2d51748228d8aa4bcefb6d122508ad87b6023ccae0bf7c1fbf250a2a24", func := "boomerang/boomeranglaw14.ArithOrders", spec := "arithOrders", named := ["internal/strconv.uint64pow10", "math/bits.deBruijn32tab", "math/bits.deBruijn64tab"], apart := false, laid := [("math/bits.deBruijn32tab", laid_math_bits_deBruijn32tab), ("math/bits.deBruijn64tab", laid_math_bits_deBruijn64tab), ("internal/strconv.uint64pow10", laid_internal_strconv_uint64pow10)], narrowed := true }
def ArithOrdersUptoSaid : Prop := arithOrdersUptoRow.holds Tryd.pinned (OpenSpec.upto arithOrdersSpec)

/-- 'boomeranglaw14.ArithTexts', WHERE WHAT IT READS IS OF BULK AT MOST 1048576: true; the input reads as it did. -/
def arithTextsUptoRow : OpenClaim := { program := "ytfijbgpegfnlbaadoor", sum := "85107a2d51748228d8aa4bcefb6d122508ad87b6023ccae0bf7c1fbf250a2a24", func := "boomerang/boomeranglaw14.ArithTexts", spec := "arithTexts", named := ["internal/strconv.uint64pow10", "math/bits.deBruijn32tab", "math/bits.deBruijn64tab"], apart := false, laid := [("math/bits.deBruijn32tab", laid_math_bits_deBruijn32tab), ("math/bits.deBruijn64tab", laid_math_bits_deBruijn64tab), ("internal/strconv.uint64pow10", laid_internal_strconv_uint64pow10)], narrowed := true }
def ArithTextsUptoSaid : Prop := arithTextsUptoRow.holds Tryd.pinned (OpenSpec.upto arithTextsSpec)

/-- 'boomeranglaw14.ArithAll', WHERE WHAT IT READS IS OF BULK AT MOST 1048576: true; the input reads as it did. -/
def arithAllUptoRow : OpenClaim := { program := "ytfijbgpegfnlbaadoor", sum := "85107a2d51748228d8aa4bcefb6d122508ad87b6023ccae0bf7c1fbf250a2a24", func := "boomerang/boomeranglaw14.ArithAll", spec := "arithAll", recurses := true, named := ["internal/strconv.uint64pow10", "math/bits.deBruijn32tab", "math/bits.deBruijn64tab"], apart := false, laid := [("math/bits.deBruijn32tab", laid_math_bits_deBruijn32tab), ("math/bits.deBruijn64tab", laid_math_bits_deBruijn64tab), ("internal/strconv.uint64pow10", laid_internal_strconv_uint64pow10)], narrowed := true }
def ArithAllUptoSaid : Prop := arithAllUptoRow.holds Tryd.pinned (OpenSpec.upto arithAllSpec)

/-- 'boomeranglaw14.ArithNumbers', WHERE WHAT IT READS IS OF BULK AT MOST 1048576: true; the input reads as it did. -/
def arithNumbersUptoRow : OpenClaim := { program := "ytfijbgpegfnlbaadoor", sum := "85107a2d51748228d8aa4bcefb6d122508ad87b6023ccae0bf7c1fbf250a2a24", func := "boomerang/boomeranglaw14.ArithNumbers", spec := "arithNumbers", named := ["internal/strconv.uint64pow10", "math/bits.deBruijn32tab", "math/bits.deBruijn64tab"], apart := false, laid := [("math/bits.deBruijn32tab", laid_math_bits_deBruijn32tab), ("math/bits.deBruijn64tab", laid_math_bits_deBruijn64tab), ("internal/strconv.uint64pow10", laid_internal_strconv_uint64pow10)], narrowed := true }
def ArithNumbersUptoSaid : Prop := arithNumbersUptoRow.holds Tryd.pinned (OpenSpec.upto arithNumbersSpec)

/-- 'boomeranglaw14.ArithSame', WHERE WHAT IT READS IS OF BULK AT MOST 1048576: true; the input reads as it did. -/
def arithSameUptoRow : OpenClaim := { program := "ytfijbgpegfnlbaadoor", sum := "85107a2d51748228d8aa4bcefb6d122508ad87b6023ccae0bf7c1fbf250a2a24", func := "boomerang/boomeranglaw14.ArithSame", spec := "arithSame", named := ["internal/strconv.uint64pow10", "math/bits.deBruijn32tab", "math/bits.deBruijn64tab"], apart := false, laid := [("math/bits.deBruijn32tab", laid_math_bits_deBruijn32tab), ("math/bits.deBruijn64tab", laid_math_bits_deBruijn64tab), ("internal/strconv.uint64pow10", laid_internal_strconv_uint64pow10)], narrowed := true }
def ArithSameUptoSaid : Prop := arithSameUptoRow.holds Tryd.pinned (OpenSpec.upto arithSameSpec)

/-- 'boomeranglaw14.ArithKinds', WHERE WHAT IT READS IS OF BULK AT MOST 1048576: true; the input reads as it did. -/
def arithKindsUptoRow : OpenClaim := { program := "ytfijbgpegfnlbaadoor", sum := "85107a2d51748228d8aa4bcefb6d122508ad87b6023ccae0bf7c1fbf250a2a24", func := "boomerang/boomeranglaw14.ArithKinds", spec := "arithKinds", named := ["internal/strconv.uint64pow10", "math/bits.deBruijn32tab", "math/bits.deBruijn64tab"], apart := false, laid := [("math/bits.deBruijn32tab", laid_math_bits_deBruijn32tab), ("math/bits.deBruijn64tab", laid_math_bits_deBruijn64tab), ("internal/strconv.uint64pow10", laid_internal_strconv_uint64pow10)], narrowed := true }
def ArithKindsUptoSaid : Prop := arithKindsUptoRow.holds Tryd.pinned (OpenSpec.upto arithKindsSpec)

end Rows
end Go.Proofs.YtfijbgpegfnlbaaDoor
