/-
  NARROWER THAN 'FOR EVERY INPUT', by the rows' own cells (each row's printed sentence says how): PrimeIs: laid · PrimeProducts: laid · PrimeFermat: laid · PrimeNext: laid · PrimeFactors: laid · PrimeUnique: laid · PrimeDraws: laid · PrimeHolds: laid · PrimeShown: laid · PrimeProves: laid.
  DERIVED. THE GIVEN ROWS OF THIS SEAT. 10 by the template 'for every input the law returns true; each argument reads behind the call as it read before'; 0 by the template 'total and deterministic' (their statements: YtpphfeinmmmckaaDoorTotals.lean).
  GIVEN WITH THE SEED: the statements are not yours to turn. If you find one false, say at which input.
  Laid BY PROGRAM, IN A SANDBOX (cutbox-rows.mjs): the forced cells as the released guide's own fill.sh prints them over the translation 50208c0821729677… (all of the seat's roots in one cut). By AI agents, Wed Nov 11 2026. No macro, syntax, notation, axiom, sorry.
-/
import Derived.Test.YtpphfeinmmmckaaDoorChecked
import GoSem.Claim
import GoSem.ClaimJoined
import GoSem.ClaimMapViews
import Derived.JoinedTies
import Derived.KernelRfl
namespace Go.Proofs.YtpphfeinmmmckaaDoor
/- THE CELL 'sum', in the pinned program and in every row, IS THE sha256 OF THE DUMP (.gsa) THAT YtpphfeinmmmckaaDoorProg.lean LOADS. Nothing in Lean hashes anything: it is a label: what it is worth is what the hold of that sum in a sandbox is worth. -/
noncomputable def Tryd.pinned : Pinned := { name := "ytpphfeinmmmckaadoor", sum := "50208c0821729677ccfc8234f5f266239583edf92cb398dc6f2771e1c102d485", checked := Tryd.checked }
namespace Rows
def none {H : Type} : Left H := { results := [], args := [] }

/- WHAT THE LISTED PACKAGE-LEVEL VARIABLES READ AS WHEN THE CALL BEGINS. Each datum BY PROGRAM (the guide's laid-datum.mjs) off the statement by which the dump's own 'gosem.cut.vars' lays the variable. In a bare row this is a premise. The card (YtpphfeinmmmckaaDoorCards.lean) ties it to the program's text. -/
def laid_math_bits_deBruijn64tab {H : Type} : DataW H := .agg [.lit (.int .u8 0), .lit (.int .u8 1), .lit (.int .u8 56), .lit (.int .u8 2), .lit (.int .u8 57), .lit (.int .u8 49), .lit (.int .u8 28), .lit (.int .u8 3), .lit (.int .u8 61), .lit (.int .u8 58), .lit (.int .u8 42), .lit (.int .u8 50), .lit (.int .u8 38), .lit (.int .u8 29), .lit (.int .u8 17), .lit (.int .u8 4), .lit (.int .u8 62), .lit (.int .u8 47), .lit (.int .u8 59), .lit (.int .u8 36), .lit (.int .u8 45), .lit (.int .u8 43), .lit (.int .u8 51), .lit (.int .u8 22), .lit (.int .u8 53), .lit (.int .u8 39), .lit (.int .u8 33), .lit (.int .u8 30), .lit (.int .u8 24), .lit (.int .u8 18), .lit (.int .u8 12), .lit (.int .u8 5), .lit (.int .u8 63), .lit (.int .u8 55), .lit (.int .u8 48), .lit (.int .u8 27), .lit (.int .u8 60), .lit (.int .u8 41), .lit (.int .u8 37), .lit (.int .u8 16), .lit (.int .u8 46), .lit (.int .u8 35), .lit (.int .u8 44), .lit (.int .u8 21), .lit (.int .u8 52), .lit (.int .u8 32), .lit (.int .u8 23), .lit (.int .u8 11), .lit (.int .u8 54), .lit (.int .u8 26), .lit (.int .u8 40), .lit (.int .u8 15), .lit (.int .u8 34), .lit (.int .u8 20), .lit (.int .u8 31), .lit (.int .u8 10), .lit (.int .u8 25), .lit (.int .u8 14), .lit (.int .u8 19), .lit (.int .u8 9), .lit (.int .u8 13), .lit (.int .u8 8), .lit (.int .u8 7), .lit (.int .u8 6)]

/-- 'algebristlaw05.PrimeIs': WHATEVER THE INPUT: true; the input reads as it did. -/
def primeIsSpec : ChangeSpec := { name := "primeIs", fn := fun _ => fun
  | [d] => { results := [.lit (.bool true)], args := [d] }
  | _ => none }
def primeIsRow : OpenClaim := { program := "ytpphfeinmmmckaadoor", sum := "50208c0821729677ccfc8234f5f266239583edf92cb398dc6f2771e1c102d485", func := "algebrist/algebristlaw05.PrimeIs", spec := "primeIs", named := ["math/bits.deBruijn64tab", "math/bits.divideError", "math/bits.overflowError"], apart := false, laid := [("math/bits.deBruijn64tab", laid_math_bits_deBruijn64tab)] }
def PrimeIsSaid : Prop := primeIsRow.holds Tryd.pinned (OpenSpec.ofChange primeIsSpec)

/-- ITS FALSE NEIGHBOUR: 'it returns false'. Refute it at one input. -/
def primeIsWrong : ChangeSpec := { name := "primeIs", fn := fun _ => fun
  | [d] => { results := [.lit (.bool false)], args := [d] }
  | _ => none }
def PrimeIsWrongFalsely : Prop := primeIsRow.holds Tryd.pinned (OpenSpec.ofChange primeIsWrong)

/-- 'algebristlaw05.PrimeProducts': WHATEVER THE INPUT: true; the input reads as it did. -/
def primeProductsSpec : ChangeSpec := { name := "primeProducts", fn := fun _ => fun
  | [d1, d2] => { results := [.lit (.bool true)], args := [d1, d2] }
  | _ => none }
def primeProductsRow : OpenClaim := { program := "ytpphfeinmmmckaadoor", sum := "50208c0821729677ccfc8234f5f266239583edf92cb398dc6f2771e1c102d485", func := "algebrist/algebristlaw05.PrimeProducts", spec := "primeProducts", named := ["math/bits.deBruijn64tab", "math/bits.divideError", "math/bits.overflowError"], apart := false, laid := [("math/bits.deBruijn64tab", laid_math_bits_deBruijn64tab)] }
def PrimeProductsSaid : Prop := primeProductsRow.holds Tryd.pinned (OpenSpec.ofChange primeProductsSpec)

/-- ITS FALSE NEIGHBOUR: 'it returns false'. Refute it at one input. -/
def primeProductsWrong : ChangeSpec := { name := "primeProducts", fn := fun _ => fun
  | [d1, d2] => { results := [.lit (.bool false)], args := [d1, d2] }
  | _ => none }
def PrimeProductsWrongFalsely : Prop := primeProductsRow.holds Tryd.pinned (OpenSpec.ofChange primeProductsWrong)

/-- 'algebristlaw05.PrimeFermat': WHATEVER THE INPUT: true; the input reads as it did. -/
def primeFermatSpec : ChangeSpec := { name := "primeFermat", fn := fun _ => fun
  | [d1, d2] => { results := [.lit (.bool true)], args := [d1, d2] }
  | _ => none }
def primeFermatRow : OpenClaim := { program := "ytpphfeinmmmckaadoor", sum := "50208c0821729677ccfc8234f5f266239583edf92cb398dc6f2771e1c102d485", func := "algebrist/algebristlaw05.PrimeFermat", spec := "primeFermat", named := ["math/bits.deBruijn64tab", "math/bits.divideError", "math/bits.overflowError"], apart := false, laid := [("math/bits.deBruijn64tab", laid_math_bits_deBruijn64tab)] }
def PrimeFermatSaid : Prop := primeFermatRow.holds Tryd.pinned (OpenSpec.ofChange primeFermatSpec)

/-- ITS FALSE NEIGHBOUR: 'it returns false'. Refute it at one input. -/
def primeFermatWrong : ChangeSpec := { name := "primeFermat", fn := fun _ => fun
  | [d1, d2] => { results := [.lit (.bool false)], args := [d1, d2] }
  | _ => none }
def PrimeFermatWrongFalsely : Prop := primeFermatRow.holds Tryd.pinned (OpenSpec.ofChange primeFermatWrong)

/-- 'algebristlaw05.PrimeNext': WHATEVER THE INPUT: true; the input reads as it did. -/
def primeNextSpec : ChangeSpec := { name := "primeNext", fn := fun _ => fun
  | [d1, d2] => { results := [.lit (.bool true)], args := [d1, d2] }
  | _ => none }
def primeNextRow : OpenClaim := { program := "ytpphfeinmmmckaadoor", sum := "50208c0821729677ccfc8234f5f266239583edf92cb398dc6f2771e1c102d485", func := "algebrist/algebristlaw05.PrimeNext", spec := "primeNext", named := ["math/bits.deBruijn64tab", "math/bits.divideError", "math/bits.overflowError"], apart := false, laid := [("math/bits.deBruijn64tab", laid_math_bits_deBruijn64tab)] }
def PrimeNextSaid : Prop := primeNextRow.holds Tryd.pinned (OpenSpec.ofChange primeNextSpec)

/-- ITS FALSE NEIGHBOUR: 'it returns false'. Refute it at one input. -/
def primeNextWrong : ChangeSpec := { name := "primeNext", fn := fun _ => fun
  | [d1, d2] => { results := [.lit (.bool false)], args := [d1, d2] }
  | _ => none }
def PrimeNextWrongFalsely : Prop := primeNextRow.holds Tryd.pinned (OpenSpec.ofChange primeNextWrong)

/-- 'algebristlaw05.PrimeFactors': WHATEVER THE INPUT: true; the input reads as it did. -/
def primeFactorsSpec : ChangeSpec := { name := "primeFactors", fn := fun _ => fun
  | [d] => { results := [.lit (.bool true)], args := [d] }
  | _ => none }
def primeFactorsRow : OpenClaim := { program := "ytpphfeinmmmckaadoor", sum := "50208c0821729677ccfc8234f5f266239583edf92cb398dc6f2771e1c102d485", func := "algebrist/algebristlaw05.PrimeFactors", spec := "primeFactors", named := ["math/bits.deBruijn64tab", "math/bits.divideError", "math/bits.overflowError"], apart := false, laid := [("math/bits.deBruijn64tab", laid_math_bits_deBruijn64tab)] }
def PrimeFactorsSaid : Prop := primeFactorsRow.holds Tryd.pinned (OpenSpec.ofChange primeFactorsSpec)

/-- ITS FALSE NEIGHBOUR: 'it returns false'. Refute it at one input. -/
def primeFactorsWrong : ChangeSpec := { name := "primeFactors", fn := fun _ => fun
  | [d] => { results := [.lit (.bool false)], args := [d] }
  | _ => none }
def PrimeFactorsWrongFalsely : Prop := primeFactorsRow.holds Tryd.pinned (OpenSpec.ofChange primeFactorsWrong)

/-- 'algebristlaw05.PrimeUnique': WHATEVER THE INPUT: true; the input reads as it did. -/
def primeUniqueSpec : ChangeSpec := { name := "primeUnique", fn := fun _ => fun
  | [d1, d2] => { results := [.lit (.bool true)], args := [d1, d2] }
  | _ => none }
def primeUniqueRow : OpenClaim := { program := "ytpphfeinmmmckaadoor", sum := "50208c0821729677ccfc8234f5f266239583edf92cb398dc6f2771e1c102d485", func := "algebrist/algebristlaw05.PrimeUnique", spec := "primeUnique", named := ["math/bits.deBruijn64tab", "math/bits.divideError", "math/bits.overflowError"], apart := false, laid := [("math/bits.deBruijn64tab", laid_math_bits_deBruijn64tab)] }
def PrimeUniqueSaid : Prop := primeUniqueRow.holds Tryd.pinned (OpenSpec.ofChange primeUniqueSpec)

/-- ITS FALSE NEIGHBOUR: 'it returns false'. Refute it at one input. -/
def primeUniqueWrong : ChangeSpec := { name := "primeUnique", fn := fun _ => fun
  | [d1, d2] => { results := [.lit (.bool false)], args := [d1, d2] }
  | _ => none }
def PrimeUniqueWrongFalsely : Prop := primeUniqueRow.holds Tryd.pinned (OpenSpec.ofChange primeUniqueWrong)

/-- 'algebristlaw05.PrimeDraws': WHATEVER THE INPUT: true; the input reads as it did. -/
def primeDrawsSpec : ChangeSpec := { name := "primeDraws", fn := fun _ => fun
  | [d1, d2] => { results := [.lit (.bool true)], args := [d1, d2] }
  | _ => none }
def primeDrawsRow : OpenClaim := { program := "ytpphfeinmmmckaadoor", sum := "50208c0821729677ccfc8234f5f266239583edf92cb398dc6f2771e1c102d485", func := "algebrist/algebristlaw05.PrimeDraws", spec := "primeDraws", named := ["math/bits.deBruijn64tab", "math/bits.divideError", "math/bits.overflowError"], apart := false, laid := [("math/bits.deBruijn64tab", laid_math_bits_deBruijn64tab)] }
def PrimeDrawsSaid : Prop := primeDrawsRow.holds Tryd.pinned (OpenSpec.ofChange primeDrawsSpec)

/-- ITS FALSE NEIGHBOUR: 'it returns false'. Refute it at one input. -/
def primeDrawsWrong : ChangeSpec := { name := "primeDraws", fn := fun _ => fun
  | [d1, d2] => { results := [.lit (.bool false)], args := [d1, d2] }
  | _ => none }
def PrimeDrawsWrongFalsely : Prop := primeDrawsRow.holds Tryd.pinned (OpenSpec.ofChange primeDrawsWrong)

/-- 'algebristlaw05.PrimeHolds': WHATEVER THE INPUT: true; the input reads as it did. -/
def primeHoldsSpec : ChangeSpec := { name := "primeHolds", fn := fun _ => fun
  | [d1, d2] => { results := [.lit (.bool true)], args := [d1, d2] }
  | _ => none }
def primeHoldsRow : OpenClaim := { program := "ytpphfeinmmmckaadoor", sum := "50208c0821729677ccfc8234f5f266239583edf92cb398dc6f2771e1c102d485", func := "algebrist/algebristlaw05.PrimeHolds", spec := "primeHolds", unfollowed := true, recurses := true, named := ["math/bits.deBruijn64tab", "math/bits.divideError", "math/bits.overflowError"], apart := false, laid := [("math/bits.deBruijn64tab", laid_math_bits_deBruijn64tab)] }
def PrimeHoldsSaid : Prop := primeHoldsRow.holds Tryd.pinned (OpenSpec.ofChange primeHoldsSpec)

/-- ITS FALSE NEIGHBOUR: 'it returns false'. Refute it at one input. -/
def primeHoldsWrong : ChangeSpec := { name := "primeHolds", fn := fun _ => fun
  | [d1, d2] => { results := [.lit (.bool false)], args := [d1, d2] }
  | _ => none }
def PrimeHoldsWrongFalsely : Prop := primeHoldsRow.holds Tryd.pinned (OpenSpec.ofChange primeHoldsWrong)

/-- 'algebristlaw05.PrimeShown': WHATEVER THE INPUT: true; the input reads as it did. -/
def primeShownSpec : ChangeSpec := { name := "primeShown", fn := fun _ => fun
  | [d1, d2] => { results := [.lit (.bool true)], args := [d1, d2] }
  | _ => none }
def primeShownRow : OpenClaim := { program := "ytpphfeinmmmckaadoor", sum := "50208c0821729677ccfc8234f5f266239583edf92cb398dc6f2771e1c102d485", func := "algebrist/algebristlaw05.PrimeShown", spec := "primeShown", unfollowed := true, recurses := true, named := ["math/bits.deBruijn64tab", "math/bits.divideError", "math/bits.overflowError"], apart := false, laid := [("math/bits.deBruijn64tab", laid_math_bits_deBruijn64tab)] }
def PrimeShownSaid : Prop := primeShownRow.holds Tryd.pinned (OpenSpec.ofChange primeShownSpec)

/-- ITS FALSE NEIGHBOUR: 'it returns false'. Refute it at one input. -/
def primeShownWrong : ChangeSpec := { name := "primeShown", fn := fun _ => fun
  | [d1, d2] => { results := [.lit (.bool false)], args := [d1, d2] }
  | _ => none }
def PrimeShownWrongFalsely : Prop := primeShownRow.holds Tryd.pinned (OpenSpec.ofChange primeShownWrong)

/-- 'algebristlaw05.PrimeProves': WHATEVER THE INPUT: true; the input reads as it did. -/
def primeProvesSpec : ChangeSpec := { name := "primeProves", fn := fun _ => fun
  | [d] => { results := [.lit (.bool true)], args := [d] }
  | _ => none }
def primeProvesRow : OpenClaim := { program := "ytpphfeinmmmckaadoor", sum := "50208c0821729677ccfc8234f5f266239583edf92cb398dc6f2771e1c102d485", func := "algebrist/algebristlaw05.PrimeProves", spec := "primeProves", unfollowed := true, recurses := true, named := ["math/bits.deBruijn64tab", "math/bits.divideError", "math/bits.overflowError"], apart := false, laid := [("math/bits.deBruijn64tab", laid_math_bits_deBruijn64tab)] }
def PrimeProvesSaid : Prop := primeProvesRow.holds Tryd.pinned (OpenSpec.ofChange primeProvesSpec)

/-- ITS FALSE NEIGHBOUR: 'it returns false'. Refute it at one input. -/
def primeProvesWrong : ChangeSpec := { name := "primeProves", fn := fun _ => fun
  | [d] => { results := [.lit (.bool false)], args := [d] }
  | _ => none }
def PrimeProvesWrongFalsely : Prop := primeProvesRow.holds Tryd.pinned (OpenSpec.ofChange primeProvesWrong)

/- THE SECOND FORM. 'bulk': how many values and letters a reading holds, each counted each time it is reached (what is shared counts as often as it is met; a slice's spare places count too). A statement '..UptoSaid' is the law's where the arguments, and the package variables that the reading takes, are together of bulk at most 1048576: NARROWER than '..Said'. Prove '..Said' where nothing that the law and all that it calls make is longer than what came in: it says more and counts as full. Else prove '..UptoSaid'. A law counts once. -/
mutual
def uptoBulk {H : Type} : DataW H → Nat
  | .lit (.string bytes) => bytes.length + 1
  | .lit _ => 1
  | .nil => 1
  | .ptr d => uptoBulk d + 1
  | .slice elems spare => uptoBulkAll elems + uptoBulkAll spare + 1
  | .agg parts => uptoBulkAll parts + 1
  | .iface _ d => uptoBulk d + 1
  | .map entries => uptoBulkEntries entries + 1
  | .held _ => 1
def uptoBulkAll {H : Type} : List (DataW H) → Nat
  | [] => 0
  | d :: r => uptoBulk d + uptoBulkAll r
def uptoBulkEntries {H : Type} : List (Lit × DataW H) → Nat
  | [] => 0
  | x :: r => uptoBulkEntry x + uptoBulkEntries r
def uptoBulkEntry {H : Type} : Lit × DataW H → Nat
  | (.string bytes, d) => bytes.length + uptoBulk d + 1
  | (_, d) => uptoBulk d + 1
 end
def uptoSmall : (H : Type) → List (DataW H) → Bool := fun _ ds => decide (uptoBulkAll ds ≤ 1048576)
def OpenSpec.upto (s : _root_.Go.ChangeSpec) : _root_.Go.OpenSpec := { _root_.Go.OpenSpec.ofChange s with cond := some uptoSmall }

/-- 'algebristlaw05.PrimeIs', WHERE WHAT IT READS IS OF BULK AT MOST 1048576: true; the input reads as it did. -/
def primeIsUptoRow : OpenClaim := { program := "ytpphfeinmmmckaadoor", sum := "50208c0821729677ccfc8234f5f266239583edf92cb398dc6f2771e1c102d485", func := "algebrist/algebristlaw05.PrimeIs", spec := "primeIs", named := ["math/bits.deBruijn64tab", "math/bits.divideError", "math/bits.overflowError"], apart := false, laid := [("math/bits.deBruijn64tab", laid_math_bits_deBruijn64tab)], narrowed := true }
def PrimeIsUptoSaid : Prop := primeIsUptoRow.holds Tryd.pinned (OpenSpec.upto primeIsSpec)

/-- 'algebristlaw05.PrimeProducts', WHERE WHAT IT READS IS OF BULK AT MOST 1048576: true; the input reads as it did. -/
def primeProductsUptoRow : OpenClaim := { program := "ytpphfeinmmmckaadoor", sum := "50208c0821729677ccfc8234f5f266239583edf92cb398dc6f2771e1c102d485", func := "algebrist/algebristlaw05.PrimeProducts", spec := "primeProducts", named := ["math/bits.deBruijn64tab", "math/bits.divideError", "math/bits.overflowError"], apart := false, laid := [("math/bits.deBruijn64tab", laid_math_bits_deBruijn64tab)], narrowed := true }
def PrimeProductsUptoSaid : Prop := primeProductsUptoRow.holds Tryd.pinned (OpenSpec.upto primeProductsSpec)

/-- 'algebristlaw05.PrimeFermat', WHERE WHAT IT READS IS OF BULK AT MOST 1048576: true; the input reads as it did. -/
def primeFermatUptoRow : OpenClaim := { program := "ytpphfeinmmmckaadoor", sum := "50208c0821729677ccfc8234f5f266239583edf92cb398dc6f2771e1c102d485", func := "algebrist/algebristlaw05.PrimeFermat", spec := "primeFermat", named := ["math/bits.deBruijn64tab", "math/bits.divideError", "math/bits.overflowError"], apart := false, laid := [("math/bits.deBruijn64tab", laid_math_bits_deBruijn64tab)], narrowed := true }
def PrimeFermatUptoSaid : Prop := primeFermatUptoRow.holds Tryd.pinned (OpenSpec.upto primeFermatSpec)

/-- 'algebristlaw05.PrimeNext', WHERE WHAT IT READS IS OF BULK AT MOST 1048576: true; the input reads as it did. -/
def primeNextUptoRow : OpenClaim := { program := "ytpphfeinmmmckaadoor", sum := "50208c0821729677ccfc8234f5f266239583edf92cb398dc6f2771e1c102d485", func := "algebrist/algebristlaw05.PrimeNext", spec := "primeNext", named := ["math/bits.deBruijn64tab", "math/bits.divideError", "math/bits.overflowError"], apart := false, laid := [("math/bits.deBruijn64tab", laid_math_bits_deBruijn64tab)], narrowed := true }
def PrimeNextUptoSaid : Prop := primeNextUptoRow.holds Tryd.pinned (OpenSpec.upto primeNextSpec)

/-- 'algebristlaw05.PrimeFactors', WHERE WHAT IT READS IS OF BULK AT MOST 1048576: true; the input reads as it did. -/
def primeFactorsUptoRow : OpenClaim := { program := "ytpphfeinmmmckaadoor", sum := "50208c0821729677ccfc8234f5f266239583edf92cb398dc6f2771e1c102d485", func := "algebrist/algebristlaw05.PrimeFactors", spec := "primeFactors", named := ["math/bits.deBruijn64tab", "math/bits.divideError", "math/bits.overflowError"], apart := false, laid := [("math/bits.deBruijn64tab", laid_math_bits_deBruijn64tab)], narrowed := true }
def PrimeFactorsUptoSaid : Prop := primeFactorsUptoRow.holds Tryd.pinned (OpenSpec.upto primeFactorsSpec)

/-- 'algebristlaw05.PrimeUnique', WHERE WHAT IT READS IS OF BULK AT MOST 1048576: true; the input reads as it did. -/
def primeUniqueUptoRow : OpenClaim := { program := "ytpphfeinmmmckaadoor", sum := "50208c0821729677ccfc8234f5f266239583edf92cb398dc6f2771e1c102d485", func := "algebrist/algebristlaw05.PrimeUnique", spec := "primeUnique", named := ["math/bits.deBruijn64tab", "math/bits.divideError", "math/bits.overflowError"], apart := false, laid := [("math/bits.deBruijn64tab", laid_math_bits_deBruijn64tab)], narrowed := true }
def PrimeUniqueUptoSaid : Prop := primeUniqueUptoRow.holds Tryd.pinned (OpenSpec.upto primeUniqueSpec)

/-- 'algebristlaw05.PrimeDraws', WHERE WHAT IT READS IS OF BULK AT MOST 1048576: true; the input reads as it did. -/
def primeDrawsUptoRow : OpenClaim := { program := "ytpphfeinmmmckaadoor", sum := "50208c0821729677ccfc8234f5f266239583edf92cb398dc6f2771e1c102d485", func := "algebrist/algebristlaw05.PrimeDraws", spec := "primeDraws", named := ["math/bits.deBruijn64tab", "math/bits.divideError", "math/bits.overflowError"], apart := false, laid := [("math/bits.deBruijn64tab", laid_math_bits_deBruijn64tab)], narrowed := true }
def PrimeDrawsUptoSaid : Prop := primeDrawsUptoRow.holds Tryd.pinned (OpenSpec.upto primeDrawsSpec)

/-- 'algebristlaw05.PrimeHolds', WHERE WHAT IT READS IS OF BULK AT MOST 1048576: true; the input reads as it did. -/
def primeHoldsUptoRow : OpenClaim := { program := "ytpphfeinmmmckaadoor", sum := "50208c0821729677ccfc8234f5f266239583edf92cb398dc6f2771e1c102d485", func := "algebrist/algebristlaw05.PrimeHolds", spec := "primeHolds", unfollowed := true, recurses := true, named := ["math/bits.deBruijn64tab", "math/bits.divideError", "math/bits.overflowError"], apart := false, laid := [("math/bits.deBruijn64tab", laid_math_bits_deBruijn64tab)], narrowed := true }
def PrimeHoldsUptoSaid : Prop := primeHoldsUptoRow.holds Tryd.pinned (OpenSpec.upto primeHoldsSpec)

/-- 'algebristlaw05.PrimeShown', WHERE WHAT IT READS IS OF BULK AT MOST 1048576: true; the input reads as it did. -/
def primeShownUptoRow : OpenClaim := { program := "ytpphfeinmmmckaadoor", sum := "50208c0821729677ccfc8234f5f266239583edf92cb398dc6f2771e1c102d485", func := "algebrist/algebristlaw05.PrimeShown", spec := "primeShown", unfollowed := true, recurses := true, named := ["math/bits.deBruijn64tab", "math/bits.divideError", "math/bits.overflowError"], apart := false, laid := [("math/bits.deBruijn64tab", laid_math_bits_deBruijn64tab)], narrowed := true }
def PrimeShownUptoSaid : Prop := primeShownUptoRow.holds Tryd.pinned (OpenSpec.upto primeShownSpec)

/-- 'algebristlaw05.PrimeProves', WHERE WHAT IT READS IS OF BULK AT MOST 1048576: true; the input reads as it did. -/
def primeProvesUptoRow : OpenClaim := { program := "ytpphfeinmmmckaadoor", sum := "50208c0821729677ccfc8234f5f266239583edf92cb398dc6f2771e1c102d485", func := "algebrist/algebristlaw05.PrimeProves", spec := "primeProves", unfollowed := true, recurses := true, named := ["math/bits.deBruijn64tab", "math/bits.divideError", "math/bits.overflowError"], apart := false, laid := [("math/bits.deBruijn64tab", laid_math_bits_deBruijn64tab)], narrowed := true }
def PrimeProvesUptoSaid : Prop := primeProvesUptoRow.holds Tryd.pinned (OpenSpec.upto primeProvesSpec)

end Rows
end Go.Proofs.YtpphfeinmmmckaaDoor
