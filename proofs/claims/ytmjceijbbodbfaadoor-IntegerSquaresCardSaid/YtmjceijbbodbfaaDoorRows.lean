/-
  NARROWER THAN 'FOR EVERY INPUT', by the rows' own cells (each row's printed sentence says how): IntegerLimits: laid · IntegerValid: laid · IntegerDivision: laid · IntegerArithmetic: laid · IntegerSmall: laid · IntegerSquares: laid · IntegerEuclid: laid · IntegerRing: laid · IntegerRoots: laid · IntegerTexts: laid.
  DERIVED. THE GIVEN ROWS OF THIS SEAT. 10 by the template 'for every input the law returns true; each argument reads behind the call as it read before'; 0 by the template 'total and deterministic' (their statements: YtmjceijbbodbfaaDoorTotals.lean).
  GIVEN WITH THE SEED: the statements are not yours to turn. If you find one false, say at which input.
  Laid BY PROGRAM, IN A SANDBOX (cutbox-rows.mjs): the forced cells as the released guide's own fill.sh prints them over the translation ddf55e54b3879d4c… (all of the seat's roots in one cut). By AI agents, Wed Nov 11 2026. No macro, syntax, notation, axiom, sorry.
-/
import Derived.Test.YtmjceijbbodbfaaDoorChecked
import GoSem.Claim
import GoSem.ClaimJoined
import GoSem.ClaimMapViews
import Derived.JoinedTies
import Derived.KernelRfl
namespace Go.Proofs.YtmjceijbbodbfaaDoor
/- THE CELL 'sum', in the pinned program and in every row, IS THE sha256 OF THE DUMP (.gsa) THAT YtmjceijbbodbfaaDoorProg.lean LOADS. Nothing in Lean hashes anything: it is a label: what it is worth is what the hold of that sum in a sandbox is worth. -/
noncomputable def Tryd.pinned : Pinned := { name := "ytmjceijbbodbfaadoor", sum := "ddf55e54b3879d4c6ee0b436cf03925be207b7882703d197d1869a3bb6e43379", checked := Tryd.checked }
namespace Rows
def none {H : Type} : Left H := { results := [], args := [] }

/- WHAT THE LISTED PACKAGE-LEVEL VARIABLES READ AS WHEN THE CALL BEGINS. Each datum BY PROGRAM (the guide's laid-datum.mjs) off the statement by which the dump's own 'gosem.cut.vars' lays the variable. In a bare row this is a premise. The card (YtmjceijbbodbfaaDoorCards.lean) ties it to the program's text. -/
def laid_math_bits_deBruijn32tab {H : Type} : DataW H := .agg [.lit (.int .u8 0), .lit (.int .u8 1), .lit (.int .u8 28), .lit (.int .u8 2), .lit (.int .u8 29), .lit (.int .u8 14), .lit (.int .u8 24), .lit (.int .u8 3), .lit (.int .u8 30), .lit (.int .u8 22), .lit (.int .u8 20), .lit (.int .u8 15), .lit (.int .u8 25), .lit (.int .u8 17), .lit (.int .u8 4), .lit (.int .u8 8), .lit (.int .u8 31), .lit (.int .u8 27), .lit (.int .u8 13), .lit (.int .u8 23), .lit (.int .u8 21), .lit (.int .u8 19), .lit (.int .u8 16), .lit (.int .u8 7), .lit (.int .u8 26), .lit (.int .u8 12), .lit (.int .u8 18), .lit (.int .u8 6), .lit (.int .u8 11), .lit (.int .u8 5), .lit (.int .u8 10), .lit (.int .u8 9)]
def laid_math_bits_deBruijn64tab {H : Type} : DataW H := .agg [.lit (.int .u8 0), .lit (.int .u8 1), .lit (.int .u8 56), .lit (.int .u8 2), .lit (.int .u8 57), .lit (.int .u8 49), .lit (.int .u8 28), .lit (.int .u8 3), .lit (.int .u8 61), .lit (.int .u8 58), .lit (.int .u8 42), .lit (.int .u8 50), .lit (.int .u8 38), .lit (.int .u8 29), .lit (.int .u8 17), .lit (.int .u8 4), .lit (.int .u8 62), .lit (.int .u8 47), .lit (.int .u8 59), .lit (.int .u8 36), .lit (.int .u8 45), .lit (.int .u8 43), .lit (.int .u8 51), .lit (.int .u8 22), .lit (.int .u8 53), .lit (.int .u8 39), .lit (.int .u8 33), .lit (.int .u8 30), .lit (.int .u8 24), .lit (.int .u8 18), .lit (.int .u8 12), .lit (.int .u8 5), .lit (.int .u8 63), .lit (.int .u8 55), .lit (.int .u8 48), .lit (.int .u8 27), .lit (.int .u8 60), .lit (.int .u8 41), .lit (.int .u8 37), .lit (.int .u8 16), .lit (.int .u8 46), .lit (.int .u8 35), .lit (.int .u8 44), .lit (.int .u8 21), .lit (.int .u8 52), .lit (.int .u8 32), .lit (.int .u8 23), .lit (.int .u8 11), .lit (.int .u8 54), .lit (.int .u8 26), .lit (.int .u8 40), .lit (.int .u8 15), .lit (.int .u8 34), .lit (.int .u8 20), .lit (.int .u8 31), .lit (.int .u8 10), .lit (.int .u8 25), .lit (.int .u8 14), .lit (.int .u8 19), .lit (.int .u8 9), .lit (.int .u8 13), .lit (.int .u8 8), .lit (.int .u8 7), .lit (.int .u8 6)]
def laid_internal_strconv_uint64pow10 {H : Type} : DataW H := .agg [.lit (.int .u64 1), .lit (.int .u64 10), .lit (.int .u64 100), .lit (.int .u64 1000), .lit (.int .u64 10000), .lit (.int .u64 100000), .lit (.int .u64 1000000), .lit (.int .u64 10000000), .lit (.int .u64 100000000), .lit (.int .u64 1000000000), .lit (.int .u64 10000000000), .lit (.int .u64 100000000000), .lit (.int .u64 1000000000000), .lit (.int .u64 10000000000000), .lit (.int .u64 100000000000000), .lit (.int .u64 1000000000000000), .lit (.int .u64 10000000000000000), .lit (.int .u64 100000000000000000), .lit (.int .u64 1000000000000000000), .lit (.int .u64 10000000000000000000)]
def laid_strconv_ErrRange {H : Type} : DataW H := .iface "*errors.errorString" (.ptr (.agg [.lit (.string [118, 97, 108, 117, 101, 32, 111, 117, 116, 32, 111, 102, 32, 114, 97, 110, 103, 101])]))
def laid_strconv_ErrSyntax {H : Type} : DataW H := .iface "*errors.errorString" (.ptr (.agg [.lit (.string [105, 110, 118, 97, 108, 105, 100, 32, 115, 121, 110, 116, 97, 120])]))

/-- 'substationlaw01.IntegerLimits': WHATEVER THE INPUT: true; the input reads as it did. -/
def integerLimitsSpec : ChangeSpec := { name := "integerLimits", fn := fun _ => fun
  | [d1, d2, d3] => { results := [.lit (.bool true)], args := [d1, d2, d3] }
  | _ => none }
def integerLimitsRow : OpenClaim := { program := "ytmjceijbbodbfaadoor", sum := "ddf55e54b3879d4c6ee0b436cf03925be207b7882703d197d1869a3bb6e43379", func := "substation/substationlaw01.IntegerLimits", spec := "integerLimits", inPlace := ["internal/abi.NoEscape", "internal/bytealg.MakeNoZero"], unfollowed := true, recurses := true, named := ["math/bits.overflowError", "internal/strconv.uint64pow10", "math/bits.deBruijn32tab", "math/bits.deBruijn64tab"], apart := false, laid := [("math/bits.deBruijn32tab", laid_math_bits_deBruijn32tab), ("math/bits.deBruijn64tab", laid_math_bits_deBruijn64tab), ("internal/strconv.uint64pow10", laid_internal_strconv_uint64pow10)] }
def IntegerLimitsSaid : Prop := integerLimitsRow.holds Tryd.pinned (OpenSpec.ofChange integerLimitsSpec)

/-- ITS FALSE NEIGHBOUR: 'it returns false'. Refute it at one input. -/
def integerLimitsWrong : ChangeSpec := { name := "integerLimits", fn := fun _ => fun
  | [d1, d2, d3] => { results := [.lit (.bool false)], args := [d1, d2, d3] }
  | _ => none }
def IntegerLimitsWrongFalsely : Prop := integerLimitsRow.holds Tryd.pinned (OpenSpec.ofChange integerLimitsWrong)

/-- 'substationlaw01.IntegerValid': WHATEVER THE INPUT: true; the input reads as it did. -/
def integerValidSpec : ChangeSpec := { name := "integerValid", fn := fun _ => fun
  | [d1, d2] => { results := [.lit (.bool true)], args := [d1, d2] }
  | _ => none }
def integerValidRow : OpenClaim := { program := "ytmjceijbbodbfaadoor", sum := "ddf55e54b3879d4c6ee0b436cf03925be207b7882703d197d1869a3bb6e43379", func := "substation/substationlaw01.IntegerValid", spec := "integerValid", inPlace := ["internal/abi.NoEscape", "internal/bytealg.MakeNoZero"], unfollowed := true, recurses := true, named := ["math/bits.overflowError", "internal/strconv.uint64pow10", "math/bits.deBruijn32tab", "math/bits.deBruijn64tab"], apart := false, laid := [("math/bits.deBruijn32tab", laid_math_bits_deBruijn32tab), ("math/bits.deBruijn64tab", laid_math_bits_deBruijn64tab), ("internal/strconv.uint64pow10", laid_internal_strconv_uint64pow10)] }
def IntegerValidSaid : Prop := integerValidRow.holds Tryd.pinned (OpenSpec.ofChange integerValidSpec)

/-- ITS FALSE NEIGHBOUR: 'it returns false'. Refute it at one input. -/
def integerValidWrong : ChangeSpec := { name := "integerValid", fn := fun _ => fun
  | [d1, d2] => { results := [.lit (.bool false)], args := [d1, d2] }
  | _ => none }
def IntegerValidWrongFalsely : Prop := integerValidRow.holds Tryd.pinned (OpenSpec.ofChange integerValidWrong)

/-- 'substationlaw01.IntegerDivision': WHATEVER THE INPUT: true; the input reads as it did. -/
def integerDivisionSpec : ChangeSpec := { name := "integerDivision", fn := fun _ => fun
  | [d1, d2] => { results := [.lit (.bool true)], args := [d1, d2] }
  | _ => none }
def integerDivisionRow : OpenClaim := { program := "ytmjceijbbodbfaadoor", sum := "ddf55e54b3879d4c6ee0b436cf03925be207b7882703d197d1869a3bb6e43379", func := "substation/substationlaw01.IntegerDivision", spec := "integerDivision", inPlace := ["internal/abi.NoEscape", "internal/bytealg.MakeNoZero"], unfollowed := true, recurses := true, named := ["math/bits.overflowError", "internal/strconv.uint64pow10", "math/bits.deBruijn32tab", "math/bits.deBruijn64tab"], apart := false, laid := [("math/bits.deBruijn32tab", laid_math_bits_deBruijn32tab), ("math/bits.deBruijn64tab", laid_math_bits_deBruijn64tab), ("internal/strconv.uint64pow10", laid_internal_strconv_uint64pow10)] }
def IntegerDivisionSaid : Prop := integerDivisionRow.holds Tryd.pinned (OpenSpec.ofChange integerDivisionSpec)

/-- ITS FALSE NEIGHBOUR: 'it returns false'. Refute it at one input. -/
def integerDivisionWrong : ChangeSpec := { name := "integerDivision", fn := fun _ => fun
  | [d1, d2] => { results := [.lit (.bool false)], args := [d1, d2] }
  | _ => none }
def IntegerDivisionWrongFalsely : Prop := integerDivisionRow.holds Tryd.pinned (OpenSpec.ofChange integerDivisionWrong)

/-- 'substationlaw01.IntegerArithmetic': WHATEVER THE INPUT: true; the input reads as it did. -/
def integerArithmeticSpec : ChangeSpec := { name := "integerArithmetic", fn := fun _ => fun
  | [d1, d2] => { results := [.lit (.bool true)], args := [d1, d2] }
  | _ => none }
def integerArithmeticRow : OpenClaim := { program := "ytmjceijbbodbfaadoor", sum := "ddf55e54b3879d4c6ee0b436cf03925be207b7882703d197d1869a3bb6e43379", func := "substation/substationlaw01.IntegerArithmetic", spec := "integerArithmetic", inPlace := ["internal/abi.NoEscape", "internal/bytealg.MakeNoZero"], unfollowed := true, recurses := true, named := ["math/bits.overflowError", "internal/strconv.uint64pow10", "math/bits.deBruijn32tab", "math/bits.deBruijn64tab"], apart := false, laid := [("math/bits.deBruijn32tab", laid_math_bits_deBruijn32tab), ("math/bits.deBruijn64tab", laid_math_bits_deBruijn64tab), ("internal/strconv.uint64pow10", laid_internal_strconv_uint64pow10)] }
def IntegerArithmeticSaid : Prop := integerArithmeticRow.holds Tryd.pinned (OpenSpec.ofChange integerArithmeticSpec)

/-- ITS FALSE NEIGHBOUR: 'it returns false'. Refute it at one input. -/
def integerArithmeticWrong : ChangeSpec := { name := "integerArithmetic", fn := fun _ => fun
  | [d1, d2] => { results := [.lit (.bool false)], args := [d1, d2] }
  | _ => none }
def IntegerArithmeticWrongFalsely : Prop := integerArithmeticRow.holds Tryd.pinned (OpenSpec.ofChange integerArithmeticWrong)

/-- 'substationlaw01.IntegerSmall': WHATEVER THE INPUT: true; the input reads as it did. -/
def integerSmallSpec : ChangeSpec := { name := "integerSmall", fn := fun _ => fun
  | [d1, d2] => { results := [.lit (.bool true)], args := [d1, d2] }
  | _ => none }
def integerSmallRow : OpenClaim := { program := "ytmjceijbbodbfaadoor", sum := "ddf55e54b3879d4c6ee0b436cf03925be207b7882703d197d1869a3bb6e43379", func := "substation/substationlaw01.IntegerSmall", spec := "integerSmall", inPlace := ["internal/abi.NoEscape", "internal/bytealg.MakeNoZero"], unfollowed := true, recurses := true, named := ["math/bits.overflowError", "internal/strconv.uint64pow10", "math/bits.deBruijn32tab", "math/bits.deBruijn64tab"], apart := false, laid := [("math/bits.deBruijn32tab", laid_math_bits_deBruijn32tab), ("math/bits.deBruijn64tab", laid_math_bits_deBruijn64tab), ("internal/strconv.uint64pow10", laid_internal_strconv_uint64pow10)] }
def IntegerSmallSaid : Prop := integerSmallRow.holds Tryd.pinned (OpenSpec.ofChange integerSmallSpec)

/-- ITS FALSE NEIGHBOUR: 'it returns false'. Refute it at one input. -/
def integerSmallWrong : ChangeSpec := { name := "integerSmall", fn := fun _ => fun
  | [d1, d2] => { results := [.lit (.bool false)], args := [d1, d2] }
  | _ => none }
def IntegerSmallWrongFalsely : Prop := integerSmallRow.holds Tryd.pinned (OpenSpec.ofChange integerSmallWrong)

/-- 'substationlaw01.IntegerSquares': WHATEVER THE INPUT: true; the input reads as it did. -/
def integerSquaresSpec : ChangeSpec := { name := "integerSquares", fn := fun _ => fun
  | [d1, d2] => { results := [.lit (.bool true)], args := [d1, d2] }
  | _ => none }
def integerSquaresRow : OpenClaim := { program := "ytmjceijbbodbfaadoor", sum := "ddf55e54b3879d4c6ee0b436cf03925be207b7882703d197d1869a3bb6e43379", func := "substation/substationlaw01.IntegerSquares", spec := "integerSquares", inPlace := ["internal/abi.NoEscape", "internal/bytealg.MakeNoZero"], unfollowed := true, recurses := true, named := ["math/bits.overflowError", "internal/strconv.uint64pow10", "math/bits.deBruijn32tab", "math/bits.deBruijn64tab"], apart := false, laid := [("math/bits.deBruijn32tab", laid_math_bits_deBruijn32tab), ("math/bits.deBruijn64tab", laid_math_bits_deBruijn64tab), ("internal/strconv.uint64pow10", laid_internal_strconv_uint64pow10)] }
def IntegerSquaresSaid : Prop := integerSquaresRow.holds Tryd.pinned (OpenSpec.ofChange integerSquaresSpec)

/-- ITS FALSE NEIGHBOUR: 'it returns false'. Refute it at one input. -/
def integerSquaresWrong : ChangeSpec := { name := "integerSquares", fn := fun _ => fun
  | [d1, d2] => { results := [.lit (.bool false)], args := [d1, d2] }
  | _ => none }
def IntegerSquaresWrongFalsely : Prop := integerSquaresRow.holds Tryd.pinned (OpenSpec.ofChange integerSquaresWrong)

/-- 'substationlaw01.IntegerEuclid': WHATEVER THE INPUT: true; the input reads as it did. -/
def integerEuclidSpec : ChangeSpec := { name := "integerEuclid", fn := fun _ => fun
  | [d1, d2] => { results := [.lit (.bool true)], args := [d1, d2] }
  | _ => none }
def integerEuclidRow : OpenClaim := { program := "ytmjceijbbodbfaadoor", sum := "ddf55e54b3879d4c6ee0b436cf03925be207b7882703d197d1869a3bb6e43379", func := "substation/substationlaw01.IntegerEuclid", spec := "integerEuclid", inPlace := ["internal/abi.NoEscape", "internal/bytealg.MakeNoZero"], unfollowed := true, recurses := true, named := ["math/bits.overflowError", "internal/strconv.uint64pow10", "math/bits.deBruijn32tab", "math/bits.deBruijn64tab"], apart := false, laid := [("math/bits.deBruijn32tab", laid_math_bits_deBruijn32tab), ("math/bits.deBruijn64tab", laid_math_bits_deBruijn64tab), ("internal/strconv.uint64pow10", laid_internal_strconv_uint64pow10)] }
def IntegerEuclidSaid : Prop := integerEuclidRow.holds Tryd.pinned (OpenSpec.ofChange integerEuclidSpec)

/-- ITS FALSE NEIGHBOUR: 'it returns false'. Refute it at one input. -/
def integerEuclidWrong : ChangeSpec := { name := "integerEuclid", fn := fun _ => fun
  | [d1, d2] => { results := [.lit (.bool false)], args := [d1, d2] }
  | _ => none }
def IntegerEuclidWrongFalsely : Prop := integerEuclidRow.holds Tryd.pinned (OpenSpec.ofChange integerEuclidWrong)

/-- 'substationlaw01.IntegerRing': WHATEVER THE INPUT: true; the input reads as it did. -/
def integerRingSpec : ChangeSpec := { name := "integerRing", fn := fun _ => fun
  | [d1, d2, d3] => { results := [.lit (.bool true)], args := [d1, d2, d3] }
  | _ => none }
def integerRingRow : OpenClaim := { program := "ytmjceijbbodbfaadoor", sum := "ddf55e54b3879d4c6ee0b436cf03925be207b7882703d197d1869a3bb6e43379", func := "substation/substationlaw01.IntegerRing", spec := "integerRing", inPlace := ["internal/abi.NoEscape", "internal/bytealg.MakeNoZero"], unfollowed := true, recurses := true, named := ["math/bits.overflowError", "internal/strconv.uint64pow10", "math/bits.deBruijn32tab", "math/bits.deBruijn64tab"], apart := false, laid := [("math/bits.deBruijn32tab", laid_math_bits_deBruijn32tab), ("math/bits.deBruijn64tab", laid_math_bits_deBruijn64tab), ("internal/strconv.uint64pow10", laid_internal_strconv_uint64pow10)] }
def IntegerRingSaid : Prop := integerRingRow.holds Tryd.pinned (OpenSpec.ofChange integerRingSpec)

/-- ITS FALSE NEIGHBOUR: 'it returns false'. Refute it at one input. -/
def integerRingWrong : ChangeSpec := { name := "integerRing", fn := fun _ => fun
  | [d1, d2, d3] => { results := [.lit (.bool false)], args := [d1, d2, d3] }
  | _ => none }
def IntegerRingWrongFalsely : Prop := integerRingRow.holds Tryd.pinned (OpenSpec.ofChange integerRingWrong)

/-- 'substationlaw01.IntegerRoots': WHATEVER THE INPUT: true; the input reads as it did. -/
def integerRootsSpec : ChangeSpec := { name := "integerRoots", fn := fun _ => fun
  | [d] => { results := [.lit (.bool true)], args := [d] }
  | _ => none }
def integerRootsRow : OpenClaim := { program := "ytmjceijbbodbfaadoor", sum := "ddf55e54b3879d4c6ee0b436cf03925be207b7882703d197d1869a3bb6e43379", func := "substation/substationlaw01.IntegerRoots", spec := "integerRoots", inPlace := ["internal/abi.NoEscape", "internal/bytealg.MakeNoZero"], unfollowed := true, recurses := true, named := ["math/bits.overflowError", "internal/strconv.uint64pow10", "math/bits.deBruijn32tab", "math/bits.deBruijn64tab"], apart := false, laid := [("math/bits.deBruijn32tab", laid_math_bits_deBruijn32tab), ("math/bits.deBruijn64tab", laid_math_bits_deBruijn64tab), ("internal/strconv.uint64pow10", laid_internal_strconv_uint64pow10)] }
def IntegerRootsSaid : Prop := integerRootsRow.holds Tryd.pinned (OpenSpec.ofChange integerRootsSpec)

/-- ITS FALSE NEIGHBOUR: 'it returns false'. Refute it at one input. -/
def integerRootsWrong : ChangeSpec := { name := "integerRoots", fn := fun _ => fun
  | [d] => { results := [.lit (.bool false)], args := [d] }
  | _ => none }
def IntegerRootsWrongFalsely : Prop := integerRootsRow.holds Tryd.pinned (OpenSpec.ofChange integerRootsWrong)

/-- 'substationlaw01.IntegerTexts': WHATEVER THE INPUT: true; the input reads as it did. -/
def integerTextsSpec : ChangeSpec := { name := "integerTexts", fn := fun _ => fun
  | [d1, d2] => { results := [.lit (.bool true)], args := [d1, d2] }
  | _ => none }
def integerTextsRow : OpenClaim := { program := "ytmjceijbbodbfaadoor", sum := "ddf55e54b3879d4c6ee0b436cf03925be207b7882703d197d1869a3bb6e43379", func := "substation/substationlaw01.IntegerTexts", spec := "integerTexts", inPlace := ["internal/abi.NoEscape", "internal/bytealg.MakeNoZero"], unfollowed := true, recurses := true, named := ["math/bits.overflowError", "internal/strconv.uint64pow10", "math/bits.deBruijn32tab", "math/bits.deBruijn64tab", "strconv.ErrSyntax", "strconv.ErrRange"], apart := false, laid := [("math/bits.deBruijn32tab", laid_math_bits_deBruijn32tab), ("math/bits.deBruijn64tab", laid_math_bits_deBruijn64tab), ("internal/strconv.uint64pow10", laid_internal_strconv_uint64pow10), ("strconv.ErrRange", laid_strconv_ErrRange), ("strconv.ErrSyntax", laid_strconv_ErrSyntax)] }
def IntegerTextsSaid : Prop := integerTextsRow.holds Tryd.pinned (OpenSpec.ofChange integerTextsSpec)

/-- ITS FALSE NEIGHBOUR: 'it returns false'. Refute it at one input. -/
def integerTextsWrong : ChangeSpec := { name := "integerTexts", fn := fun _ => fun
  | [d1, d2] => { results := [.lit (.bool false)], args := [d1, d2] }
  | _ => none }
def IntegerTextsWrongFalsely : Prop := integerTextsRow.holds Tryd.pinned (OpenSpec.ofChange integerTextsWrong)

/- THE SECOND FORM. 'bulk': how many values and letters a reading holds, each counted each time it is reached (what is shared counts as often as it is met; a slice's spare places count too). A statement '..UptoSaid' is the law's where the arguments, and the package variables that the reading takes, are together of bulk at most 1048576: NARROWER than '..Said'. Prove '..Said' where nothing that the law and all that it calls make is longer than what came in: it says more and counts as full. Else prove '..UptoSaid'. A law counts once. -/
mutual
def uptoBulk {H : Type} : DataW H → Nat
  | .lit (.string bytes) => bytes.length + 1
  | .lit _ => 1
  | .nil => 1
  | .ptr d => uptoBulk d + 1
  | .slice elems spare => uptoBulkAll elems + uptoBulkAll spare + 1
  | .agg parts => uptoBulkAll parts + 1
  | .iface _ d => uptoBulk d + 1
  | .map entries => uptoBulkEntries entries + 1
  | .held _ => 1
def uptoBulkAll {H : Type} : List (DataW H) → Nat
  | [] => 0
  | d :: r => uptoBulk d + uptoBulkAll r
def uptoBulkEntries {H : Type} : List (Lit × DataW H) → Nat
  | [] => 0
  | x :: r => uptoBulkEntry x + uptoBulkEntries r
def uptoBulkEntry {H : Type} : Lit × DataW H → Nat
  | (.string bytes, d) => bytes.length + uptoBulk d + 1
  | (_, d) => uptoBulk d + 1
 end
def uptoSmall : (H : Type) → List (DataW H) → Bool := fun _ ds => decide (uptoBulkAll ds ≤ 1048576)
def OpenSpec.upto (s : _root_.Go.ChangeSpec) : _root_.Go.OpenSpec := { _root_.Go.OpenSpec.ofChange s with cond := some uptoSmall }

/-- 'substationlaw01.IntegerLimits', WHERE WHAT IT READS IS OF BULK AT MOST 1048576: true; the input reads as it did. -/
def integerLimitsUptoRow : OpenClaim := { program := "ytmjceijbbodbfaadoor", sum := "ddf55e54b3879d4c6ee0b436cf03925be207b7882703d197d1869a3bb6e43379", func := "substation/substationlaw01.IntegerLimits", spec := "integerLimits", inPlace := ["internal/abi.NoEscape", "internal/bytealg.MakeNoZero"], unfollowed := true, recurses := true, named := ["math/bits.overflowError", "internal/strconv.uint64pow10", "math/bits.deBruijn32tab", "math/bits.deBruijn64tab"], apart := false, laid := [("math/bits.deBruijn32tab", laid_math_bits_deBruijn32tab), ("math/bits.deBruijn64tab", laid_math_bits_deBruijn64tab), ("internal/strconv.uint64pow10", laid_internal_strconv_uint64pow10)], narrowed := true }
def IntegerLimitsUptoSaid : Prop := integerLimitsUptoRow.holds Tryd.pinned (OpenSpec.upto integerLimitsSpec)

/-- 'substationlaw01.IntegerValid', WHERE WHAT IT READS IS OF BULK AT MOST 1048576: true; the input reads as it did. -/
def integerValidUptoRow : OpenClaim := { program := "ytmjceijbbodbfaadoor", sum := "ddf55e54b3879d4c6ee0b436cf03925be207b7882703d197d1869a3bb6e43379", func := "substation/substationlaw01.IntegerValid", spec := "integerValid", inPlace := ["internal/abi.NoEscape", "internal/bytealg.MakeNoZero"], unfollowed := true, recurses := true, named := ["math/bits.overflowError", "internal/strconv.uint64pow10", "math/bits.deBruijn32tab", "math/bits.deBruijn64tab"], apart := false, laid := [("math/bits.deBruijn32tab", laid_math_bits_deBruijn32tab), ("math/bits.deBruijn64tab", laid_math_bits_deBruijn64tab), ("internal/strconv.uint64pow10", laid_internal_strconv_uint64pow10)], narrowed := true }
def IntegerValidUptoSaid : Prop := integerValidUptoRow.holds Tryd.pinned (OpenSpec.upto integerValidSpec)

/-- 'substationlaw01.IntegerDivision', WHERE WHAT IT READS IS OF BULK AT MOST 1048576: true; the input reads as it did. -/
def integerDivisionUptoRow : OpenClaim := { program := "ytmjceijbbodbfaadoor", sum := "ddf55e54b3879d4c6ee0b436cf03925be207b7882703d197d1869a3bb6e43379", func := "substation/substationlaw01.IntegerDivision", spec := "integerDivision", inPlace := ["internal/abi.NoEscape", "internal/bytealg.MakeNoZero"], unfollowed := true, recurses := true, named := ["math/bits.overflowError", "internal/strconv.uint64pow10", "math/bits.deBruijn32tab", "math/bits.deBruijn64tab"], apart := false, laid := [("math/bits.deBruijn32tab", laid_math_bits_deBruijn32tab), ("math/bits.deBruijn64tab", laid_math_bits_deBruijn64tab), ("internal/strconv.uint64pow10", laid_internal_strconv_uint64pow10)], narrowed := true }
def IntegerDivisionUptoSaid : Prop := integerDivisionUptoRow.holds Tryd.pinned (OpenSpec.upto integerDivisionSpec)

/-- 'substationlaw01.IntegerArithmetic', WHERE WHAT IT READS IS OF BULK AT MOST 1048576: true; the input reads as it did. -/
def integerArithmeticUptoRow : OpenClaim := { program := "ytmjceijbbodbfaadoor", sum := "ddf55e54b3879d4c6ee0b436cf03925be207b7882703d197d1869a3bb6e43379", func := "substation/substationlaw01.IntegerArithmetic", spec := "integerArithmetic", inPlace := ["internal/abi.NoEscape", "internal/bytealg.MakeNoZero"], unfollowed := true, recurses := true, named := ["math/bits.overflowError", "internal/strconv.uint64pow10", "math/bits.deBruijn32tab", "math/bits.deBruijn64tab"], apart := false, laid := [("math/bits.deBruijn32tab", laid_math_bits_deBruijn32tab), ("math/bits.deBruijn64tab", laid_math_bits_deBruijn64tab), ("internal/strconv.uint64pow10", laid_internal_strconv_uint64pow10)], narrowed := true }
def IntegerArithmeticUptoSaid : Prop := integerArithmeticUptoRow.holds Tryd.pinned (OpenSpec.upto integerArithmeticSpec)

/-- 'substationlaw01.IntegerSmall', WHERE WHAT IT READS IS OF BULK AT MOST 1048576: true; the input reads as it did. -/
def integerSmallUptoRow : OpenClaim := { program := "ytmjceijbbodbfaadoor", sum := "ddf55e54b3879d4c6ee0b436cf03925be207b7882703d197d1869a3bb6e43379", func := "substation/substationlaw01.IntegerSmall", spec := "integerSmall", inPlace := ["internal/abi.NoEscape", "internal/bytealg.MakeNoZero"], unfollowed := true, recurses := true, named := ["math/bits.overflowError", "internal/strconv.uint64pow10", "math/bits.deBruijn32tab", "math/bits.deBruijn64tab"], apart := false, laid := [("math/bits.deBruijn32tab", laid_math_bits_deBruijn32tab), ("math/bits.deBruijn64tab", laid_math_bits_deBruijn64tab), ("internal/strconv.uint64pow10", laid_internal_strconv_uint64pow10)], narrowed := true }
def IntegerSmallUptoSaid : Prop := integerSmallUptoRow.holds Tryd.pinned (OpenSpec.upto integerSmallSpec)

/-- 'substationlaw01.IntegerSquares', WHERE WHAT IT READS IS OF BULK AT MOST 1048576: true; the input reads as it did. -/
def integerSquaresUptoRow : OpenClaim := { program := "ytmjceijbbodbfaadoor", sum := "ddf55e54b3879d4c6ee0b436cf03925be207b7882703d197d1869a3bb6e43379", func := "substation/substationlaw01.IntegerSquares", spec := "integerSquares", inPlace := ["internal/abi.NoEscape", "internal/bytealg.MakeNoZero"], unfollowed := true, recurses := true, named := ["math/bits.overflowError", "internal/strconv.uint64pow10", "math/bits.deBruijn32tab", "math/bits.deBruijn64tab"], apart := false, laid := [("math/bits.deBruijn32tab", laid_math_bits_deBruijn32tab), ("math/bits.deBruijn64tab", laid_math_bits_deBruijn64tab), ("internal/strconv.uint64pow10", laid_internal_strconv_uint64pow10)], narrowed := true }
def IntegerSquaresUptoSaid : Prop := integerSquaresUptoRow.holds Tryd.pinned (OpenSpec.upto integerSquaresSpec)

/-- 'substationlaw01.IntegerEuclid', WHERE WHAT IT READS IS OF BULK AT MOST 1048576: true; the input reads as it did. -/
def integerEuclidUptoRow : OpenClaim := { program := "ytmjceijbbodbfaadoor", sum := "ddf55e54b3879d4c6ee0b436cf03925be207b7882703d197d1869a3bb6e43379", func := "substation/substationlaw01.IntegerEuclid", spec := "integerEuclid", inPlace := ["internal/abi.NoEscape", "internal/bytealg.MakeNoZero"], unfollowed := true, recurses := true, named := ["math/bits.overflowError", "internal/strconv.uint64pow10", "math/bits.deBruijn32tab", "math/bits.deBruijn64tab"], apart := false, laid := [("math/bits.deBruijn32tab", laid_math_bits_deBruijn32tab), ("math/bits.deBruijn64tab", laid_math_bits_deBruijn64tab), ("internal/strconv.uint64pow10", laid_internal_strconv_uint64pow10)], narrowed := true }
def IntegerEuclidUptoSaid : Prop := integerEuclidUptoRow.holds Tryd.pinned (OpenSpec.upto integerEuclidSpec)

/-- 'substationlaw01.IntegerRing', WHERE WHAT IT READS IS OF BULK AT MOST 1048576: true; the input reads as it did. -/
def integerRingUptoRow : OpenClaim := { program := "ytmjceijbbodbfaadoor", sum := "ddf55e54b3879d4c6ee0b436cf03925be207b7882703d197d1869a3bb6e43379", func := "substation/substationlaw01.IntegerRing", spec := "integerRing", inPlace := ["internal/abi.NoEscape", "internal/bytealg.MakeNoZero"], unfollowed := true, recurses := true, named := ["math/bits.overflowError", "internal/strconv.uint64pow10", "math/bits.deBruijn32tab", "math/bits.deBruijn64tab"], apart := false, laid := [("math/bits.deBruijn32tab", laid_math_bits_deBruijn32tab), ("math/bits.deBruijn64tab", laid_math_bits_deBruijn64tab), ("internal/strconv.uint64pow10", laid_internal_strconv_uint64pow10)], narrowed := true }
def IntegerRingUptoSaid : Prop := integerRingUptoRow.holds Tryd.pinned (OpenSpec.upto integerRingSpec)

/-- 'substationlaw01.IntegerRoots', WHERE WHAT IT READS IS OF BULK AT MOST 1048576: true; the input reads as it did. -/
def integerRootsUptoRow : OpenClaim := { program := "ytmjceijbbodbfaadoor", sum := "ddf55e54b3879d4c6ee0b436cf03925be207b7882703d197d1869a3bb6e43379", func := "substation/substationlaw01.IntegerRoots", spec := "integerRoots", inPlace := ["internal/abi.NoEscape", "internal/bytealg.MakeNoZero"], unfollowed := true, recurses := true, named := ["math/bits.overflowError", "internal/strconv.uint64pow10", "math/bits.deBruijn32tab", "math/bits.deBruijn64tab"], apart := false, laid := [("math/bits.deBruijn32tab", laid_math_bits_deBruijn32tab), ("math/bits.deBruijn64tab", laid_math_bits_deBruijn64tab), ("internal/strconv.uint64pow10", laid_internal_strconv_uint64pow10)], narrowed := true }
def IntegerRootsUptoSaid : Prop := integerRootsUptoRow.holds Tryd.pinned (OpenSpec.upto integerRootsSpec)

/-- 'substationlaw01.IntegerTexts', WHERE WHAT IT READS IS OF BULK AT MOST 1048576: true; the input reads as it did. -/
def integerTextsUptoRow : OpenClaim := { program := "ytmjceijbbodbfaadoor", sum := "ddf55e54b3879d4c6ee0b436cf03925be207b7882703d197d1869a3bb6e43379", func := "substation/substationlaw01.IntegerTexts", spec := "integerTexts", inPlace := ["internal/abi.NoEscape", "internal/bytealg.MakeNoZero"], unfollowed := true, recurses := true, named := ["math/bits.overflowError", "internal/strconv.uint64pow10", "math/bits.deBruijn32tab", "math/bits.deBruijn64tab", "strconv.ErrSyntax", "strconv.ErrRange"], apart := false, laid := [("math/bits.deBruijn32tab", laid_math_bits_deBruijn32tab), ("math/bits.deBruijn64tab", laid_math_bits_deBruijn64tab), ("internal/strconv.uint64pow10", laid_internal_strconv_uint64pow10), ("strconv.ErrRange", laid_strconv_ErrRange), ("strconv.ErrSyntax", laid_strconv_ErrSyntax)], narrowed := true }
def IntegerTextsUptoSaid : Prop := integerTextsUptoRow.holds Tryd.pinned (OpenSpec.upto integerTextsSpec)

end Rows
end Go.Proofs.YtmjceijbbodbfaaDoor
