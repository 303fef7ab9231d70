/-
  NARROWER THAN 'FOR EVERY INPUT', by the rows' own cells (each row's printed sentence says how): OrderingDegrees: laid · OrderingFills: laid · OrderingReaches: laid · OrderingPaths: laid · OrderingAgain: laid · OrderingTrees: laid · OrderingLater: laid · OrderingValid: laid · OrderingPerfect: laid.
  DERIVED. THE GIVEN ROWS OF THIS SEAT. 9 by the template 'for every input the law returns true; each argument reads behind the call as it read before'; 0 by the template 'total and deterministic' (their statements: YtgmiencjoghnnaaDoorTotals.lean).
  GIVEN WITH THE SEED: the statements are not yours to turn. If you find one false, say at which input.
  Laid BY PROGRAM, IN A SANDBOX (cutbox-rows.mjs): the forced cells as the released guide's own fill.sh prints them over the translation f1ecc85ec75306e7… (all of the seat's roots in one cut). By AI agents, Wed Nov 11 2026. No macro, syntax, notation, axiom, sorry.
-/
import Derived.Test.YtgmiencjoghnnaaDoorChecked
import GoSem.Claim
import GoSem.ClaimJoined
import GoSem.ClaimMapViews
import Derived.JoinedTies
import Derived.KernelRfl
namespace Go.Proofs.YtgmiencjoghnnaaDoor
/- THE CELL 'sum', in the pinned program and in every row, IS THE sha256 OF THE DUMP (.gsa) THAT YtgmiencjoghnnaaDoorProg.lean LOADS. Nothing in Lean hashes anything: it is a label: what it is worth is what the hold of that sum in a sandbox is worth. -/
noncomputable def Tryd.pinned : Pinned := { name := "ytgmiencjoghnnaadoor", sum := "f1ecc85ec75306e7d612db2eacfc7460af0021ecf184a8f9c16832e618bfc54b", checked := Tryd.checked }
namespace Rows
def none {H : Type} : Left H := { results := [], args := [] }

/- WHAT THE LISTED PACKAGE-LEVEL VARIABLES READ AS WHEN THE CALL BEGINS. Each datum BY PROGRAM (the guide's laid-datum.mjs) off the statement by which the dump's own 'gosem.cut.vars' lays the variable. In a bare row this is a premise. The card (YtgmiencjoghnnaaDoorCards.lean) ties it to the program's text. -/
def laid_math_bits_deBruijn64tab {H : Type} : DataW H := .agg [.lit (.int .u8 0), .lit (.int .u8 1), .lit (.int .u8 56), .lit (.int .u8 2), .lit (.int .u8 57), .lit (.int .u8 49), .lit (.int .u8 28), .lit (.int .u8 3), .lit (.int .u8 61), .lit (.int .u8 58), .lit (.int .u8 42), .lit (.int .u8 50), .lit (.int .u8 38), .lit (.int .u8 29), .lit (.int .u8 17), .lit (.int .u8 4), .lit (.int .u8 62), .lit (.int .u8 47), .lit (.int .u8 59), .lit (.int .u8 36), .lit (.int .u8 45), .lit (.int .u8 43), .lit (.int .u8 51), .lit (.int .u8 22), .lit (.int .u8 53), .lit (.int .u8 39), .lit (.int .u8 33), .lit (.int .u8 30), .lit (.int .u8 24), .lit (.int .u8 18), .lit (.int .u8 12), .lit (.int .u8 5), .lit (.int .u8 63), .lit (.int .u8 55), .lit (.int .u8 48), .lit (.int .u8 27), .lit (.int .u8 60), .lit (.int .u8 41), .lit (.int .u8 37), .lit (.int .u8 16), .lit (.int .u8 46), .lit (.int .u8 35), .lit (.int .u8 44), .lit (.int .u8 21), .lit (.int .u8 52), .lit (.int .u8 32), .lit (.int .u8 23), .lit (.int .u8 11), .lit (.int .u8 54), .lit (.int .u8 26), .lit (.int .u8 40), .lit (.int .u8 15), .lit (.int .u8 34), .lit (.int .u8 20), .lit (.int .u8 31), .lit (.int .u8 10), .lit (.int .u8 25), .lit (.int .u8 14), .lit (.int .u8 19), .lit (.int .u8 9), .lit (.int .u8 13), .lit (.int .u8 8), .lit (.int .u8 7), .lit (.int .u8 6)]

/-- 'wayfinderlaw26.OrderingDegrees': WHATEVER THE INPUT: true; the input reads as it did. -/
def orderingDegreesSpec : ChangeSpec := { name := "orderingDegrees", fn := fun _ => fun
  | [d] => { results := [.lit (.bool true)], args := [d] }
  | _ => none }
def orderingDegreesRow : OpenClaim := { program := "ytgmiencjoghnnaadoor", sum := "f1ecc85ec75306e7d612db2eacfc7460af0021ecf184a8f9c16832e618bfc54b", func := "wayfinder/wayfinderlaw26.OrderingDegrees", spec := "orderingDegrees", named := ["math/bits.deBruijn64tab"], apart := false, laid := [("math/bits.deBruijn64tab", laid_math_bits_deBruijn64tab)] }
def OrderingDegreesSaid : Prop := orderingDegreesRow.holds Tryd.pinned (OpenSpec.ofChange orderingDegreesSpec)

/-- ITS FALSE NEIGHBOUR: 'it returns false'. Refute it at one input. -/
def orderingDegreesWrong : ChangeSpec := { name := "orderingDegrees", fn := fun _ => fun
  | [d] => { results := [.lit (.bool false)], args := [d] }
  | _ => none }
def OrderingDegreesWrongFalsely : Prop := orderingDegreesRow.holds Tryd.pinned (OpenSpec.ofChange orderingDegreesWrong)

/-- 'wayfinderlaw26.OrderingFills': WHATEVER THE INPUT: true; the input reads as it did. -/
def orderingFillsSpec : ChangeSpec := { name := "orderingFills", fn := fun _ => fun
  | [d1, d2] => { results := [.lit (.bool true)], args := [d1, d2] }
  | _ => none }
def orderingFillsRow : OpenClaim := { program := "ytgmiencjoghnnaadoor", sum := "f1ecc85ec75306e7d612db2eacfc7460af0021ecf184a8f9c16832e618bfc54b", func := "wayfinder/wayfinderlaw26.OrderingFills", spec := "orderingFills", named := ["math/bits.deBruijn64tab"], apart := false, laid := [("math/bits.deBruijn64tab", laid_math_bits_deBruijn64tab)] }
def OrderingFillsSaid : Prop := orderingFillsRow.holds Tryd.pinned (OpenSpec.ofChange orderingFillsSpec)

/-- ITS FALSE NEIGHBOUR: 'it returns false'. Refute it at one input. -/
def orderingFillsWrong : ChangeSpec := { name := "orderingFills", fn := fun _ => fun
  | [d1, d2] => { results := [.lit (.bool false)], args := [d1, d2] }
  | _ => none }
def OrderingFillsWrongFalsely : Prop := orderingFillsRow.holds Tryd.pinned (OpenSpec.ofChange orderingFillsWrong)

/-- 'wayfinderlaw26.OrderingReaches': WHATEVER THE INPUT: true; the input reads as it did. -/
def orderingReachesSpec : ChangeSpec := { name := "orderingReaches", fn := fun _ => fun
  | [d1, d2, d3] => { results := [.lit (.bool true)], args := [d1, d2, d3] }
  | _ => none }
def orderingReachesRow : OpenClaim := { program := "ytgmiencjoghnnaadoor", sum := "f1ecc85ec75306e7d612db2eacfc7460af0021ecf184a8f9c16832e618bfc54b", func := "wayfinder/wayfinderlaw26.OrderingReaches", spec := "orderingReaches", named := ["math/bits.deBruijn64tab"], apart := false, laid := [("math/bits.deBruijn64tab", laid_math_bits_deBruijn64tab)] }
def OrderingReachesSaid : Prop := orderingReachesRow.holds Tryd.pinned (OpenSpec.ofChange orderingReachesSpec)

/-- ITS FALSE NEIGHBOUR: 'it returns false'. Refute it at one input. -/
def orderingReachesWrong : ChangeSpec := { name := "orderingReaches", fn := fun _ => fun
  | [d1, d2, d3] => { results := [.lit (.bool false)], args := [d1, d2, d3] }
  | _ => none }
def OrderingReachesWrongFalsely : Prop := orderingReachesRow.holds Tryd.pinned (OpenSpec.ofChange orderingReachesWrong)

/-- 'wayfinderlaw26.OrderingPaths': WHATEVER THE INPUT: true; the input reads as it did. -/
def orderingPathsSpec : ChangeSpec := { name := "orderingPaths", fn := fun _ => fun
  | [d1, d2] => { results := [.lit (.bool true)], args := [d1, d2] }
  | _ => none }
def orderingPathsRow : OpenClaim := { program := "ytgmiencjoghnnaadoor", sum := "f1ecc85ec75306e7d612db2eacfc7460af0021ecf184a8f9c16832e618bfc54b", func := "wayfinder/wayfinderlaw26.OrderingPaths", spec := "orderingPaths", named := ["math/bits.deBruijn64tab"], apart := false, laid := [("math/bits.deBruijn64tab", laid_math_bits_deBruijn64tab)] }
def OrderingPathsSaid : Prop := orderingPathsRow.holds Tryd.pinned (OpenSpec.ofChange orderingPathsSpec)

/-- ITS FALSE NEIGHBOUR: 'it returns false'. Refute it at one input. -/
def orderingPathsWrong : ChangeSpec := { name := "orderingPaths", fn := fun _ => fun
  | [d1, d2] => { results := [.lit (.bool false)], args := [d1, d2] }
  | _ => none }
def OrderingPathsWrongFalsely : Prop := orderingPathsRow.holds Tryd.pinned (OpenSpec.ofChange orderingPathsWrong)

/-- 'wayfinderlaw26.OrderingAgain': WHATEVER THE INPUT: true; the input reads as it did. -/
def orderingAgainSpec : ChangeSpec := { name := "orderingAgain", fn := fun _ => fun
  | [d1, d2] => { results := [.lit (.bool true)], args := [d1, d2] }
  | _ => none }
def orderingAgainRow : OpenClaim := { program := "ytgmiencjoghnnaadoor", sum := "f1ecc85ec75306e7d612db2eacfc7460af0021ecf184a8f9c16832e618bfc54b", func := "wayfinder/wayfinderlaw26.OrderingAgain", spec := "orderingAgain", named := ["math/bits.deBruijn64tab"], apart := false, laid := [("math/bits.deBruijn64tab", laid_math_bits_deBruijn64tab)] }
def OrderingAgainSaid : Prop := orderingAgainRow.holds Tryd.pinned (OpenSpec.ofChange orderingAgainSpec)

/-- ITS FALSE NEIGHBOUR: 'it returns false'. Refute it at one input. -/
def orderingAgainWrong : ChangeSpec := { name := "orderingAgain", fn := fun _ => fun
  | [d1, d2] => { results := [.lit (.bool false)], args := [d1, d2] }
  | _ => none }
def OrderingAgainWrongFalsely : Prop := orderingAgainRow.holds Tryd.pinned (OpenSpec.ofChange orderingAgainWrong)

/-- 'wayfinderlaw26.OrderingTrees': WHATEVER THE INPUT: true; the input reads as it did. -/
def orderingTreesSpec : ChangeSpec := { name := "orderingTrees", fn := fun _ => fun
  | [d1, d2] => { results := [.lit (.bool true)], args := [d1, d2] }
  | _ => none }
def orderingTreesRow : OpenClaim := { program := "ytgmiencjoghnnaadoor", sum := "f1ecc85ec75306e7d612db2eacfc7460af0021ecf184a8f9c16832e618bfc54b", func := "wayfinder/wayfinderlaw26.OrderingTrees", spec := "orderingTrees", named := ["math/bits.deBruijn64tab"], apart := false, laid := [("math/bits.deBruijn64tab", laid_math_bits_deBruijn64tab)] }
def OrderingTreesSaid : Prop := orderingTreesRow.holds Tryd.pinned (OpenSpec.ofChange orderingTreesSpec)

/-- ITS FALSE NEIGHBOUR: 'it returns false'. Refute it at one input. -/
def orderingTreesWrong : ChangeSpec := { name := "orderingTrees", fn := fun _ => fun
  | [d1, d2] => { results := [.lit (.bool false)], args := [d1, d2] }
  | _ => none }
def OrderingTreesWrongFalsely : Prop := orderingTreesRow.holds Tryd.pinned (OpenSpec.ofChange orderingTreesWrong)

/-- 'wayfinderlaw26.OrderingLater': WHATEVER THE INPUT: true; the input reads as it did. -/
def orderingLaterSpec : ChangeSpec := { name := "orderingLater", fn := fun _ => fun
  | [d1, d2] => { results := [.lit (.bool true)], args := [d1, d2] }
  | _ => none }
def orderingLaterRow : OpenClaim := { program := "ytgmiencjoghnnaadoor", sum := "f1ecc85ec75306e7d612db2eacfc7460af0021ecf184a8f9c16832e618bfc54b", func := "wayfinder/wayfinderlaw26.OrderingLater", spec := "orderingLater", named := ["math/bits.deBruijn64tab"], apart := false, laid := [("math/bits.deBruijn64tab", laid_math_bits_deBruijn64tab)] }
def OrderingLaterSaid : Prop := orderingLaterRow.holds Tryd.pinned (OpenSpec.ofChange orderingLaterSpec)

/-- ITS FALSE NEIGHBOUR: 'it returns false'. Refute it at one input. -/
def orderingLaterWrong : ChangeSpec := { name := "orderingLater", fn := fun _ => fun
  | [d1, d2] => { results := [.lit (.bool false)], args := [d1, d2] }
  | _ => none }
def OrderingLaterWrongFalsely : Prop := orderingLaterRow.holds Tryd.pinned (OpenSpec.ofChange orderingLaterWrong)

/-- 'wayfinderlaw26.OrderingValid': WHATEVER THE INPUT: true; the input reads as it did. -/
def orderingValidSpec : ChangeSpec := { name := "orderingValid", fn := fun _ => fun
  | [d] => { results := [.lit (.bool true)], args := [d] }
  | _ => none }
def orderingValidRow : OpenClaim := { program := "ytgmiencjoghnnaadoor", sum := "f1ecc85ec75306e7d612db2eacfc7460af0021ecf184a8f9c16832e618bfc54b", func := "wayfinder/wayfinderlaw26.OrderingValid", spec := "orderingValid", named := ["math/bits.deBruijn64tab"], apart := false, laid := [("math/bits.deBruijn64tab", laid_math_bits_deBruijn64tab)] }
def OrderingValidSaid : Prop := orderingValidRow.holds Tryd.pinned (OpenSpec.ofChange orderingValidSpec)

/-- ITS FALSE NEIGHBOUR: 'it returns false'. Refute it at one input. -/
def orderingValidWrong : ChangeSpec := { name := "orderingValid", fn := fun _ => fun
  | [d] => { results := [.lit (.bool false)], args := [d] }
  | _ => none }
def OrderingValidWrongFalsely : Prop := orderingValidRow.holds Tryd.pinned (OpenSpec.ofChange orderingValidWrong)

/-- 'wayfinderlaw26.OrderingPerfect': WHATEVER THE INPUT: true; the input reads as it did. -/
def orderingPerfectSpec : ChangeSpec := { name := "orderingPerfect", fn := fun _ => fun
  | [d1, d2] => { results := [.lit (.bool true)], args := [d1, d2] }
  | _ => none }
def orderingPerfectRow : OpenClaim := { program := "ytgmiencjoghnnaadoor", sum := "f1ecc85ec75306e7d612db2eacfc7460af0021ecf184a8f9c16832e618bfc54b", func := "wayfinder/wayfinderlaw26.OrderingPerfect", spec := "orderingPerfect", named := ["math/bits.deBruijn64tab"], apart := false, laid := [("math/bits.deBruijn64tab", laid_math_bits_deBruijn64tab)] }
def OrderingPerfectSaid : Prop := orderingPerfectRow.holds Tryd.pinned (OpenSpec.ofChange orderingPerfectSpec)

/-- ITS FALSE NEIGHBOUR: 'it returns false'. Refute it at one input. -/
def orderingPerfectWrong : ChangeSpec := { name := "orderingPerfect", fn := fun _ => fun
  | [d1, d2] => { results := [.lit (.bool false)], args := [d1, d2] }
  | _ => none }
def OrderingPerfectWrongFalsely : Prop := orderingPerfectRow.holds Tryd.pinned (OpenSpec.ofChange orderingPerfectWrong)

/- THE SECOND FORM. 'bulk': how many values and letters a reading holds, each counted each time it is reached (what is shared counts as often as it is met; a slice's spare places count too). A statement '..UptoSaid' is the law's where the arguments, and the package variables that the reading takes, are together of bulk at most 1048576: NARROWER than '..Said'. Prove '..Said' where nothing that the law and all that it calls make is longer than what came in: it says more and counts as full. Else prove '..UptoSaid'. A law counts once. -/
mutual
def uptoBulk {H : Type} : DataW H → Nat
  | .lit (.string bytes) => bytes.length + 1
  | .lit _ => 1
  | .nil => 1
  | .ptr d => uptoBulk d + 1
  | .slice elems spare => uptoBulkAll elems + uptoBulkAll spare + 1
  | .agg parts => uptoBulkAll parts + 1
  | .iface _ d => uptoBulk d + 1
  | .map entries => uptoBulkEntries entries + 1
  | .held _ => 1
def uptoBulkAll {H : Type} : List (DataW H) → Nat
  | [] => 0
  | d :: r => uptoBulk d + uptoBulkAll r
def uptoBulkEntries {H : Type} : List (Lit × DataW H) → Nat
  | [] => 0
  | x :: r => uptoBulkEntry x + uptoBulkEntries r
def uptoBulkEntry {H : Type} : Lit × DataW H → Nat
  | (.string bytes, d) => bytes.length + uptoBulk d + 1
  | (_, d) => uptoBulk d + 1
 end
def uptoSmall : (H : Type) → List (DataW H) → Bool := fun _ ds => decide (uptoBulkAll ds ≤ 1048576)
def OpenSpec.upto (s : _root_.Go.ChangeSpec) : _root_.Go.OpenSpec := { _root_.Go.OpenSpec.ofChange s with cond := some uptoSmall }

/-- 'wayfinderlaw26.OrderingDegrees', WHERE WHAT IT READS IS OF BULK AT MOST 1048576: true; the input reads as it did. -/
def orderingDegreesUptoRow : OpenClaim := { program := "ytgmiencjoghnnaadoor", sum := "f1ecc85ec75306e7d612db2eacfc7460af0021ecf184a8f9c16832e618bfc54b", func := "wayfinder/wayfinderlaw26.OrderingDegrees", spec := "orderingDegrees", named := ["math/bits.deBruijn64tab"], apart := false, laid := [("math/bits.deBruijn64tab", laid_math_bits_deBruijn64tab)], narrowed := true }
def OrderingDegreesUptoSaid : Prop := orderingDegreesUptoRow.holds Tryd.pinned (OpenSpec.upto orderingDegreesSpec)

/-- 'wayfinderlaw26.OrderingFills', WHERE WHAT IT READS IS OF BULK AT MOST 1048576: true; the input reads as it did. -/
def orderingFillsUptoRow : OpenClaim := { program := "ytgmiencjoghnnaadoor", sum := "f1ecc85ec75306e7d612db2eacfc7460af0021ecf184a8f9c16832e618bfc54b", func := "wayfinder/wayfinderlaw26.OrderingFills", spec := "orderingFills", named := ["math/bits.deBruijn64tab"], apart := false, laid := [("math/bits.deBruijn64tab", laid_math_bits_deBruijn64tab)], narrowed := true }
def OrderingFillsUptoSaid : Prop := orderingFillsUptoRow.holds Tryd.pinned (OpenSpec.upto orderingFillsSpec)

/-- 'wayfinderlaw26.OrderingReaches', WHERE WHAT IT READS IS OF BULK AT MOST 1048576: true; the input reads as it did. -/
def orderingReachesUptoRow : OpenClaim := { program := "ytgmiencjoghnnaadoor", sum := "f1ecc85ec75306e7d612db2eacfc7460af0021ecf184a8f9c16832e618bfc54b", func := "wayfinder/wayfinderlaw26.OrderingReaches", spec := "orderingReaches", named := ["math/bits.deBruijn64tab"], apart := false, laid := [("math/bits.deBruijn64tab", laid_math_bits_deBruijn64tab)], narrowed := true }
def OrderingReachesUptoSaid : Prop := orderingReachesUptoRow.holds Tryd.pinned (OpenSpec.upto orderingReachesSpec)

/-- 'wayfinderlaw26.OrderingPaths', WHERE WHAT IT READS IS OF BULK AT MOST 1048576: true; the input reads as it did. -/
def orderingPathsUptoRow : OpenClaim := { program := "ytgmiencjoghnnaadoor", sum := "f1ecc85ec75306e7d612db2eacfc7460af0021ecf184a8f9c16832e618bfc54b", func := "wayfinder/wayfinderlaw26.OrderingPaths", spec := "orderingPaths", named := ["math/bits.deBruijn64tab"], apart := false, laid := [("math/bits.deBruijn64tab", laid_math_bits_deBruijn64tab)], narrowed := true }
def OrderingPathsUptoSaid : Prop := orderingPathsUptoRow.holds Tryd.pinned (OpenSpec.upto orderingPathsSpec)

/-- 'wayfinderlaw26.OrderingAgain', WHERE WHAT IT READS IS OF BULK AT MOST 1048576: true; the input reads as it did. -/
def orderingAgainUptoRow : OpenClaim := { program := "ytgmiencjoghnnaadoor", sum := "f1ecc85ec75306e7d612db2eacfc7460af0021ecf184a8f9c16832e618bfc54b", func := "wayfinder/wayfinderlaw26.OrderingAgain", spec := "orderingAgain", named := ["math/bits.deBruijn64tab"], apart := false, laid := [("math/bits.deBruijn64tab", laid_math_bits_deBruijn64tab)], narrowed := true }
def OrderingAgainUptoSaid : Prop := orderingAgainUptoRow.holds Tryd.pinned (OpenSpec.upto orderingAgainSpec)

/-- 'wayfinderlaw26.OrderingTrees', WHERE WHAT IT READS IS OF BULK AT MOST 1048576: true; the input reads as it did. -/
def orderingTreesUptoRow : OpenClaim := { program := "ytgmiencjoghnnaadoor", sum := "f1ecc85ec75306e7d612db2eacfc7460af0021ecf184a8f9c16832e618bfc54b", func := "wayfinder/wayfinderlaw26.OrderingTrees", spec := "orderingTrees", named := ["math/bits.deBruijn64tab"], apart := false, laid := [("math/bits.deBruijn64tab", laid_math_bits_deBruijn64tab)], narrowed := true }
def OrderingTreesUptoSaid : Prop := orderingTreesUptoRow.holds Tryd.pinned (OpenSpec.upto orderingTreesSpec)

/-- 'wayfinderlaw26.OrderingLater', WHERE WHAT IT READS IS OF BULK AT MOST 1048576: true; the input reads as it did. -/
def orderingLaterUptoRow : OpenClaim := { program := "ytgmiencjoghnnaadoor", sum := "f1ecc85ec75306e7d612db2eacfc7460af0021ecf184a8f9c16832e618bfc54b", func := "wayfinder/wayfinderlaw26.OrderingLater", spec := "orderingLater", named := ["math/bits.deBruijn64tab"], apart := false, laid := [("math/bits.deBruijn64tab", laid_math_bits_deBruijn64tab)], narrowed := true }
def OrderingLaterUptoSaid : Prop := orderingLaterUptoRow.holds Tryd.pinned (OpenSpec.upto orderingLaterSpec)

/-- 'wayfinderlaw26.OrderingValid', WHERE WHAT IT READS IS OF BULK AT MOST 1048576: true; the input reads as it did. -/
def orderingValidUptoRow : OpenClaim := { program := "ytgmiencjoghnnaadoor", sum := "f1ecc85ec75306e7d612db2eacfc7460af0021ecf184a8f9c16832e618bfc54b", func := "wayfinder/wayfinderlaw26.OrderingValid", spec := "orderingValid", named := ["math/bits.deBruijn64tab"], apart := false, laid := [("math/bits.deBruijn64tab", laid_math_bits_deBruijn64tab)], narrowed := true }
def OrderingValidUptoSaid : Prop := orderingValidUptoRow.holds Tryd.pinned (OpenSpec.upto orderingValidSpec)

/-- 'wayfinderlaw26.OrderingPerfect', WHERE WHAT IT READS IS OF BULK AT MOST 1048576: true; the input reads as it did. -/
def orderingPerfectUptoRow : OpenClaim := { program := "ytgmiencjoghnnaadoor", sum := "f1ecc85ec75306e7d612db2eacfc7460af0021ecf184a8f9c16832e618bfc54b", func := "wayfinder/wayfinderlaw26.OrderingPerfect", spec := "orderingPerfect", named := ["math/bits.deBruijn64tab"], apart := false, laid := [("math/bits.deBruijn64tab", laid_math_bits_deBruijn64tab)], narrowed := true }
def OrderingPerfectUptoSaid : Prop := orderingPerfectUptoRow.holds Tryd.pinned (OpenSpec.upto orderingPerfectSpec)

end Rows
end Go.Proofs.YtgmiencjoghnnaaDoor
