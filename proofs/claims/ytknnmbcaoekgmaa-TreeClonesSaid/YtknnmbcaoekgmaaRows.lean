/-
  NARROWER THAN 'FOR EVERY INPUT', by the rows' own cells (each row's printed sentence says how): TreeValid: loops · TreeTicks: loops · TreeMorgan: loops · TreeHalts: loops · TreeClones: loops.
  DERIVED. THE GIVEN ROWS OF THIS SEAT. 6 by the template 'for every input the law returns true; each argument reads behind the call as it read before'; 0 by the template 'total and deterministic' (their statements: YtknnmbcaoekgmaaTotals.lean).
  GIVEN WITH THE SEED: the statements are not yours to turn. If you find one false, say at which input.
  Laid BY PROGRAM, IN A SANDBOX (cutbox-rows.mjs): the forced cells as the released guide's own fill.sh prints them over the translation 2db7f5aa60947f08… (all of the seat's roots in one cut). By AI agents, Wed Nov 11 2026. No macro, syntax, notation, axiom, sorry.
-/
import Derived.Test.YtknnmbcaoekgmaaChecked
import GoSem.Claim
import GoSem.ClaimJoined
import GoSem.ClaimMapViews
import Derived.JoinedTies
import Derived.KernelRfl
namespace Go.Proofs.Ytknnmbcaoekgmaa
/- THE CELL 'sum', in the pinned program and in every row, IS THE sha256 OF THE DUMP (.gsa) THAT YtknnmbcaoekgmaaProg.lean LOADS. Nothing in Lean hashes anything: it is a label: what it is worth is what the hold of that sum in a sandbox is worth. -/
noncomputable def Try.pinned : Pinned := { name := "ytknnmbcaoekgmaa", sum := "2db7f5aa60947f08bf8c65e78cf4c6085a99c979fe79013033458c7ba1dc5894", checked := Try.checked }
namespace Rows
def none {H : Type} : Left H := { results := [], args := [] }

/-- 'wayfinderlaw41.TreeValid': WHATEVER THE INPUT: true; the input reads as it did. -/
def treeValidSpec : ChangeSpec := { name := "treeValid", fn := fun _ => fun
  | [d] => { results := [.lit (.bool true)], args := [d] }
  | _ => none }
def treeValidRow : OpenClaim := { program := "ytknnmbcaoekgmaa", sum := "2db7f5aa60947f08bf8c65e78cf4c6085a99c979fe79013033458c7ba1dc5894", func := "wayfinder/wayfinderlaw41.TreeValid", spec := "treeValid", recurses := true, loops := true, apart := false }
def TreeValidSaid : Prop := treeValidRow.holds Try.pinned (OpenSpec.ofChange treeValidSpec)

/-- ITS FALSE NEIGHBOUR: 'it returns false'. Refute it at one input. -/
def treeValidWrong : ChangeSpec := { name := "treeValid", fn := fun _ => fun
  | [d] => { results := [.lit (.bool false)], args := [d] }
  | _ => none }
def TreeValidWrongFalsely : Prop := treeValidRow.holds Try.pinned (OpenSpec.ofChange treeValidWrong)

/-- 'wayfinderlaw41.TreeTicks': WHATEVER THE INPUT: true; the input reads as it did. -/
def treeTicksSpec : ChangeSpec := { name := "treeTicks", fn := fun _ => fun
  | [d1, d2] => { results := [.lit (.bool true)], args := [d1, d2] }
  | _ => none }
def treeTicksRow : OpenClaim := { program := "ytknnmbcaoekgmaa", sum := "2db7f5aa60947f08bf8c65e78cf4c6085a99c979fe79013033458c7ba1dc5894", func := "wayfinder/wayfinderlaw41.TreeTicks", spec := "treeTicks", recurses := true, loops := true, apart := false }
def TreeTicksSaid : Prop := treeTicksRow.holds Try.pinned (OpenSpec.ofChange treeTicksSpec)

/-- ITS FALSE NEIGHBOUR: 'it returns false'. Refute it at one input. -/
def treeTicksWrong : ChangeSpec := { name := "treeTicks", fn := fun _ => fun
  | [d1, d2] => { results := [.lit (.bool false)], args := [d1, d2] }
  | _ => none }
def TreeTicksWrongFalsely : Prop := treeTicksRow.holds Try.pinned (OpenSpec.ofChange treeTicksWrong)

/-- 'wayfinderlaw41.TreeMorgan': WHATEVER THE INPUT: true; the input reads as it did. -/
def treeMorganSpec : ChangeSpec := { name := "treeMorgan", fn := fun _ => fun
  | [d1, d2, d3] => { results := [.lit (.bool true)], args := [d1, d2, d3] }
  | _ => none }
def treeMorganRow : OpenClaim := { program := "ytknnmbcaoekgmaa", sum := "2db7f5aa60947f08bf8c65e78cf4c6085a99c979fe79013033458c7ba1dc5894", func := "wayfinder/wayfinderlaw41.TreeMorgan", spec := "treeMorgan", recurses := true, loops := true, apart := false }
def TreeMorganSaid : Prop := treeMorganRow.holds Try.pinned (OpenSpec.ofChange treeMorganSpec)

/-- ITS FALSE NEIGHBOUR: 'it returns false'. Refute it at one input. -/
def treeMorganWrong : ChangeSpec := { name := "treeMorgan", fn := fun _ => fun
  | [d1, d2, d3] => { results := [.lit (.bool false)], args := [d1, d2, d3] }
  | _ => none }
def TreeMorganWrongFalsely : Prop := treeMorganRow.holds Try.pinned (OpenSpec.ofChange treeMorganWrong)

/-- 'wayfinderlaw41.TreeHalts': WHATEVER THE INPUT: true; the input reads as it did. -/
def treeHaltsSpec : ChangeSpec := { name := "treeHalts", fn := fun _ => fun
  | [d1, d2] => { results := [.lit (.bool true)], args := [d1, d2] }
  | _ => none }
def treeHaltsRow : OpenClaim := { program := "ytknnmbcaoekgmaa", sum := "2db7f5aa60947f08bf8c65e78cf4c6085a99c979fe79013033458c7ba1dc5894", func := "wayfinder/wayfinderlaw41.TreeHalts", spec := "treeHalts", recurses := true, loops := true, apart := false }
def TreeHaltsSaid : Prop := treeHaltsRow.holds Try.pinned (OpenSpec.ofChange treeHaltsSpec)

/-- ITS FALSE NEIGHBOUR: 'it returns false'. Refute it at one input. -/
def treeHaltsWrong : ChangeSpec := { name := "treeHalts", fn := fun _ => fun
  | [d1, d2] => { results := [.lit (.bool false)], args := [d1, d2] }
  | _ => none }
def TreeHaltsWrongFalsely : Prop := treeHaltsRow.holds Try.pinned (OpenSpec.ofChange treeHaltsWrong)

/-- 'wayfinderlaw41.TreeCounts': WHATEVER THE INPUT: true; the input reads as it did. -/
def treeCountsSpec : ChangeSpec := { name := "treeCounts", fn := fun _ => fun
  | [d1, d2, d3] => { results := [.lit (.bool true)], args := [d1, d2, d3] }
  | _ => none }
def treeCountsRow : OpenClaim := { program := "ytknnmbcaoekgmaa", sum := "2db7f5aa60947f08bf8c65e78cf4c6085a99c979fe79013033458c7ba1dc5894", func := "wayfinder/wayfinderlaw41.TreeCounts", spec := "treeCounts", recurses := true, apart := false }
def TreeCountsSaid : Prop := treeCountsRow.holds Try.pinned (OpenSpec.ofChange treeCountsSpec)

/-- ITS FALSE NEIGHBOUR: 'it returns false'. Refute it at one input. -/
def treeCountsWrong : ChangeSpec := { name := "treeCounts", fn := fun _ => fun
  | [d1, d2, d3] => { results := [.lit (.bool false)], args := [d1, d2, d3] }
  | _ => none }
def TreeCountsWrongFalsely : Prop := treeCountsRow.holds Try.pinned (OpenSpec.ofChange treeCountsWrong)

/-- 'wayfinderlaw41.TreeClones': WHATEVER THE INPUT: true; the input reads as it did. -/
def treeClonesSpec : ChangeSpec := { name := "treeClones", fn := fun _ => fun
  | [d1, d2, d3] => { results := [.lit (.bool true)], args := [d1, d2, d3] }
  | _ => none }
def treeClonesRow : OpenClaim := { program := "ytknnmbcaoekgmaa", sum := "2db7f5aa60947f08bf8c65e78cf4c6085a99c979fe79013033458c7ba1dc5894", func := "wayfinder/wayfinderlaw41.TreeClones", spec := "treeClones", recurses := true, loops := true, apart := false }
def TreeClonesSaid : Prop := treeClonesRow.holds Try.pinned (OpenSpec.ofChange treeClonesSpec)

/-- ITS FALSE NEIGHBOUR: 'it returns false'. Refute it at one input. -/
def treeClonesWrong : ChangeSpec := { name := "treeClones", fn := fun _ => fun
  | [d1, d2, d3] => { results := [.lit (.bool false)], args := [d1, d2, d3] }
  | _ => none }
def TreeClonesWrongFalsely : Prop := treeClonesRow.holds Try.pinned (OpenSpec.ofChange treeClonesWrong)

/- THE SECOND FORM. 'bulk': how many values and letters a reading holds, each counted each time it is reached (what is shared counts as often as it is met; a slice's spare places count too). A statement '..UptoSaid' is the law's where the arguments, and the package variables that the reading takes, are together of bulk at most 1048576: NARROWER than '..Said'. Prove '..Said' where nothing that the law and all that it calls make is longer than what came in: it says more and counts as full. Else prove '..UptoSaid'. A law counts once. -/
mutual
def uptoBulk {H : Type} : DataW H → Nat
  | .lit (.string bytes) => bytes.length + 1
  | .lit _ => 1
  | .nil => 1
  | .ptr d => uptoBulk d + 1
  | .slice elems spare => uptoBulkAll elems + uptoBulkAll spare + 1
  | .agg parts => uptoBulkAll parts + 1
  | .iface _ d => uptoBulk d + 1
  | .map entries => uptoBulkEntries entries + 1
  | .held _ => 1
def uptoBulkAll {H : Type} : List (DataW H) → Nat
  | [] => 0
  | d :: r => uptoBulk d + uptoBulkAll r
def uptoBulkEntries {H : Type} : List (Lit × DataW H) → Nat
  | [] => 0
  | x :: r => uptoBulkEntry x + uptoBulkEntries r
def uptoBulkEntry {H : Type} : Lit × DataW H → Nat
  | (.string bytes, d) => bytes.length + uptoBulk d + 1
  | (_, d) => uptoBulk d + 1
 end
def uptoSmall : (H : Type) → List (DataW H) → Bool := fun _ ds => decide (uptoBulkAll ds ≤ 1048576)
def OpenSpec.upto (s : _root_.Go.ChangeSpec) : _root_.Go.OpenSpec := { _root_.Go.OpenSpec.ofChange s with cond := some uptoSmall }

/-- 'wayfinderlaw41.TreeValid', WHERE WHAT IT READS IS OF BULK AT MOST 1048576: true; the input reads as it did. -/
def treeValidUptoRow : OpenClaim := { program := "ytknnmbcaoekgmaa", sum := "2db7f5aa60947f08bf8c65e78cf4c6085a99c979fe79013033458c7ba1dc5894", func := "wayfinder/wayfinderlaw41.TreeValid", spec := "treeValid", recurses := true, loops := true, apart := false, narrowed := true }
def TreeValidUptoSaid : Prop := treeValidUptoRow.holds Try.pinned (OpenSpec.upto treeValidSpec)

/-- 'wayfinderlaw41.TreeTicks', WHERE WHAT IT READS IS OF BULK AT MOST 1048576: true; the input reads as it did. -/
def treeTicksUptoRow : OpenClaim := { program := "ytknnmbcaoekgmaa", sum := "2db7f5aa60947f08bf8c65e78cf4c6085a99c979fe79013033458c7ba1dc5894", func := "wayfinder/wayfinderlaw41.TreeTicks", spec := "treeTicks", recurses := true, loops := true, apart := false, narrowed := true }
def TreeTicksUptoSaid : Prop := treeTicksUptoRow.holds Try.pinned (OpenSpec.upto treeTicksSpec)

/-- 'wayfinderlaw41.TreeMorgan', WHERE WHAT IT READS IS OF BULK AT MOST 1048576: true; the input reads as it did. -/
def treeMorganUptoRow : OpenClaim := { program := "ytknnmbcaoekgmaa", sum := "2db7f5aa60947f08bf8c65e78cf4c6085a99c979fe79013033458c7ba1dc5894", func := "wayfinder/wayfinderlaw41.TreeMorgan", spec := "treeMorgan", recurses := true, loops := true, apart := false, narrowed := true }
def TreeMorganUptoSaid : Prop := treeMorganUptoRow.holds Try.pinned (OpenSpec.upto treeMorganSpec)

/-- 'wayfinderlaw41.TreeHalts', WHERE WHAT IT READS IS OF BULK AT MOST 1048576: true; the input reads as it did. -/
def treeHaltsUptoRow : OpenClaim := { program := "ytknnmbcaoekgmaa", sum := "2db7f5aa60947f08bf8c65e78cf4c6085a99c979fe79013033458c7ba1dc5894", func := "wayfinder/wayfinderlaw41.TreeHalts", spec := "treeHalts", recurses := true, loops := true, apart := false, narrowed := true }
def TreeHaltsUptoSaid : Prop := treeHaltsUptoRow.holds Try.pinned (OpenSpec.upto treeHaltsSpec)

/-- 'wayfinderlaw41.TreeCounts', WHERE WHAT IT READS IS OF BULK AT MOST 1048576: true; the input reads as it did. -/
def treeCountsUptoRow : OpenClaim := { program := "ytknnmbcaoekgmaa", sum := "2db7f5aa60947f08bf8c65e78cf4c6085a99c979fe79013033458c7ba1dc5894", func := "wayfinder/wayfinderlaw41.TreeCounts", spec := "treeCounts", recurses := true, apart := false, narrowed := true }
def TreeCountsUptoSaid : Prop := treeCountsUptoRow.holds Try.pinned (OpenSpec.upto treeCountsSpec)

/-- 'wayfinderlaw41.TreeClones', WHERE WHAT IT READS IS OF BULK AT MOST 1048576: true; the input reads as it did. -/
def treeClonesUptoRow : OpenClaim := { program := "ytknnmbcaoekgmaa", sum := "2db7f5aa60947f08bf8c65e78cf4c6085a99c979fe79013033458c7ba1dc5894", func := "wayfinder/wayfinderlaw41.TreeClones", spec := "treeClones", recurses := true, loops := true, apart := false, narrowed := true }
def TreeClonesUptoSaid : Prop := treeClonesUptoRow.holds Try.pinned (OpenSpec.upto treeClonesSpec)

end Rows
end Go.Proofs.Ytknnmbcaoekgmaa
