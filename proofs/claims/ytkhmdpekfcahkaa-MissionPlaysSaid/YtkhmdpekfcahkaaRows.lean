/-
  No cell of these rows narrows 'for every input' (looked for: loops, veiled, ifaces, maps, wideKeys, modest, calm, conditions, laid).
  DERIVED. THE GIVEN ROWS OF THIS SEAT. 5 by the template 'for every input the law returns true; each argument reads behind the call as it read before'; 0 by the template 'total and deterministic' (their statements: YtkhmdpekfcahkaaTotals.lean).
  GIVEN WITH THE SEED: the statements are not yours to turn. If you find one false, say at which input.
  Laid BY PROGRAM, IN A SANDBOX (cutbox-rows.mjs): the forced cells as the released guide's own fill.sh prints them over the translation 39638dfa36769dbe… (all of the seat's roots in one cut). By AI agents, Wed Nov 11 2026. No macro, syntax, notation, axiom, sorry.
-/
import Derived.Test.YtkhmdpekfcahkaaChecked
import GoSem.Claim
import GoSem.ClaimJoined
import GoSem.ClaimMapViews
import Derived.JoinedTies
import Derived.KernelRfl
namespace Go.Proofs.Ytkhmdpekfcahkaa
/- THE CELL 'sum', in the pinned program and in every row, IS THE sha256 OF THE DUMP (.gsa) THAT YtkhmdpekfcahkaaProg.lean LOADS. Nothing in Lean hashes anything: it is a label: what it is worth is what the hold of that sum in a sandbox is worth. -/
noncomputable def Try.pinned : Pinned := { name := "ytkhmdpekfcahkaa", sum := "39638dfa36769dbe3f4989f838786568ff6ac5f2aca3d0a7c81276c9158a82ff", checked := Try.checked }
namespace Rows
def none {H : Type} : Left H := { results := [], args := [] }

/-- 'wayfinderlaw42.MissionTicks': WHATEVER THE INPUT: true; the input reads as it did. -/
def missionTicksSpec : ChangeSpec := { name := "missionTicks", fn := fun _ => fun
  | [d1, d2, d3] => { results := [.lit (.bool true)], args := [d1, d2, d3] }
  | _ => none }
def missionTicksRow : OpenClaim := { program := "ytkhmdpekfcahkaa", sum := "39638dfa36769dbe3f4989f838786568ff6ac5f2aca3d0a7c81276c9158a82ff", func := "wayfinder/wayfinderlaw42.MissionTicks", spec := "missionTicks", recurses := true, apart := false }
def MissionTicksSaid : Prop := missionTicksRow.holds Try.pinned (OpenSpec.ofChange missionTicksSpec)

/-- ITS FALSE NEIGHBOUR: 'it returns false'. Refute it at one input. -/
def missionTicksWrong : ChangeSpec := { name := "missionTicks", fn := fun _ => fun
  | [d1, d2, d3] => { results := [.lit (.bool false)], args := [d1, d2, d3] }
  | _ => none }
def MissionTicksWrongFalsely : Prop := missionTicksRow.holds Try.pinned (OpenSpec.ofChange missionTicksWrong)

/-- 'wayfinderlaw42.MissionOrder': WHATEVER THE INPUT: true; the input reads as it did. -/
def missionOrderSpec : ChangeSpec := { name := "missionOrder", fn := fun _ => fun
  | [d1, d2] => { results := [.lit (.bool true)], args := [d1, d2] }
  | _ => none }
def missionOrderRow : OpenClaim := { program := "ytkhmdpekfcahkaa", sum := "39638dfa36769dbe3f4989f838786568ff6ac5f2aca3d0a7c81276c9158a82ff", func := "wayfinder/wayfinderlaw42.MissionOrder", spec := "missionOrder", recurses := true, apart := false }
def MissionOrderSaid : Prop := missionOrderRow.holds Try.pinned (OpenSpec.ofChange missionOrderSpec)

/-- ITS FALSE NEIGHBOUR: 'it returns false'. Refute it at one input. -/
def missionOrderWrong : ChangeSpec := { name := "missionOrder", fn := fun _ => fun
  | [d1, d2] => { results := [.lit (.bool false)], args := [d1, d2] }
  | _ => none }
def MissionOrderWrongFalsely : Prop := missionOrderRow.holds Try.pinned (OpenSpec.ofChange missionOrderWrong)

/-- 'wayfinderlaw42.MissionTries': WHATEVER THE INPUT: true; the input reads as it did. -/
def missionTriesSpec : ChangeSpec := { name := "missionTries", fn := fun _ => fun
  | [d1, d2] => { results := [.lit (.bool true)], args := [d1, d2] }
  | _ => none }
def missionTriesRow : OpenClaim := { program := "ytkhmdpekfcahkaa", sum := "39638dfa36769dbe3f4989f838786568ff6ac5f2aca3d0a7c81276c9158a82ff", func := "wayfinder/wayfinderlaw42.MissionTries", spec := "missionTries", recurses := true, apart := false }
def MissionTriesSaid : Prop := missionTriesRow.holds Try.pinned (OpenSpec.ofChange missionTriesSpec)

/-- ITS FALSE NEIGHBOUR: 'it returns false'. Refute it at one input. -/
def missionTriesWrong : ChangeSpec := { name := "missionTries", fn := fun _ => fun
  | [d1, d2] => { results := [.lit (.bool false)], args := [d1, d2] }
  | _ => none }
def MissionTriesWrongFalsely : Prop := missionTriesRow.holds Try.pinned (OpenSpec.ofChange missionTriesWrong)

/-- 'wayfinderlaw42.MissionEnds': WHATEVER THE INPUT: true; the input reads as it did. -/
def missionEndsSpec : ChangeSpec := { name := "missionEnds", fn := fun _ => fun
  | [d1, d2] => { results := [.lit (.bool true)], args := [d1, d2] }
  | _ => none }
def missionEndsRow : OpenClaim := { program := "ytkhmdpekfcahkaa", sum := "39638dfa36769dbe3f4989f838786568ff6ac5f2aca3d0a7c81276c9158a82ff", func := "wayfinder/wayfinderlaw42.MissionEnds", spec := "missionEnds", recurses := true, apart := false }
def MissionEndsSaid : Prop := missionEndsRow.holds Try.pinned (OpenSpec.ofChange missionEndsSpec)

/-- ITS FALSE NEIGHBOUR: 'it returns false'. Refute it at one input. -/
def missionEndsWrong : ChangeSpec := { name := "missionEnds", fn := fun _ => fun
  | [d1, d2] => { results := [.lit (.bool false)], args := [d1, d2] }
  | _ => none }
def MissionEndsWrongFalsely : Prop := missionEndsRow.holds Try.pinned (OpenSpec.ofChange missionEndsWrong)

/-- 'wayfinderlaw42.MissionPlays': WHATEVER THE INPUT: true; the input reads as it did. -/
def missionPlaysSpec : ChangeSpec := { name := "missionPlays", fn := fun _ => fun
  | [d1, d2] => { results := [.lit (.bool true)], args := [d1, d2] }
  | _ => none }
def missionPlaysRow : OpenClaim := { program := "ytkhmdpekfcahkaa", sum := "39638dfa36769dbe3f4989f838786568ff6ac5f2aca3d0a7c81276c9158a82ff", func := "wayfinder/wayfinderlaw42.MissionPlays", spec := "missionPlays", recurses := true, apart := false }
def MissionPlaysSaid : Prop := missionPlaysRow.holds Try.pinned (OpenSpec.ofChange missionPlaysSpec)

/-- ITS FALSE NEIGHBOUR: 'it returns false'. Refute it at one input. -/
def missionPlaysWrong : ChangeSpec := { name := "missionPlays", fn := fun _ => fun
  | [d1, d2] => { results := [.lit (.bool false)], args := [d1, d2] }
  | _ => none }
def MissionPlaysWrongFalsely : Prop := missionPlaysRow.holds Try.pinned (OpenSpec.ofChange missionPlaysWrong)

/- THE SECOND FORM. 'bulk': how many values and letters a reading holds, each counted each time it is reached (what is shared counts as often as it is met; a slice's spare places count too). A statement '..UptoSaid' is the law's where the arguments, and the package variables that the reading takes, are together of bulk at most 1048576: NARROWER than '..Said'. Prove '..Said' where nothing that the law and all that it calls make is longer than what came in: it says more and counts as full. Else prove '..UptoSaid'. A law counts once. -/
mutual
def uptoBulk {H : Type} : DataW H → Nat
  | .lit (.string bytes) => bytes.length + 1
  | .lit _ => 1
  | .nil => 1
  | .ptr d => uptoBulk d + 1
  | .slice elems spare => uptoBulkAll elems + uptoBulkAll spare + 1
  | .agg parts => uptoBulkAll parts + 1
  | .iface _ d => uptoBulk d + 1
  | .map entries => uptoBulkEntries entries + 1
  | .held _ => 1
def uptoBulkAll {H : Type} : List (DataW H) → Nat
  | [] => 0
  | d :: r => uptoBulk d + uptoBulkAll r
def uptoBulkEntries {H : Type} : List (Lit × DataW H) → Nat
  | [] => 0
  | x :: r => uptoBulkEntry x + uptoBulkEntries r
def uptoBulkEntry {H : Type} : Lit × DataW H → Nat
  | (.string bytes, d) => bytes.length + uptoBulk d + 1
  | (_, d) => uptoBulk d + 1
 end
def uptoSmall : (H : Type) → List (DataW H) → Bool := fun _ ds => decide (uptoBulkAll ds ≤ 1048576)
def OpenSpec.upto (s : _root_.Go.ChangeSpec) : _root_.Go.OpenSpec := { _root_.Go.OpenSpec.ofChange s with cond := some uptoSmall }

/-- 'wayfinderlaw42.MissionTicks', WHERE WHAT IT READS IS OF BULK AT MOST 1048576: true; the input reads as it did. -/
def missionTicksUptoRow : OpenClaim := { program := "ytkhmdpekfcahkaa", sum := "39638dfa36769dbe3f4989f838786568ff6ac5f2aca3d0a7c81276c9158a82ff", func := "wayfinder/wayfinderlaw42.MissionTicks", spec := "missionTicks", recurses := true, apart := false, narrowed := true }
def MissionTicksUptoSaid : Prop := missionTicksUptoRow.holds Try.pinned (OpenSpec.upto missionTicksSpec)

/-- 'wayfinderlaw42.MissionOrder', WHERE WHAT IT READS IS OF BULK AT MOST 1048576: true; the input reads as it did. -/
def missionOrderUptoRow : OpenClaim := { program := "ytkhmdpekfcahkaa", sum := "39638dfa36769dbe3f4989f838786568ff6ac5f2aca3d0a7c81276c9158a82ff", func := "wayfinder/wayfinderlaw42.MissionOrder", spec := "missionOrder", recurses := true, apart := false, narrowed := true }
def MissionOrderUptoSaid : Prop := missionOrderUptoRow.holds Try.pinned (OpenSpec.upto missionOrderSpec)

/-- 'wayfinderlaw42.MissionTries', WHERE WHAT IT READS IS OF BULK AT MOST 1048576: true; the input reads as it did. -/
def missionTriesUptoRow : OpenClaim := { program := "ytkhmdpekfcahkaa", sum := "39638dfa36769dbe3f4989f838786568ff6ac5f2aca3d0a7c81276c9158a82ff", func := "wayfinder/wayfinderlaw42.MissionTries", spec := "missionTries", recurses := true, apart := false, narrowed := true }
def MissionTriesUptoSaid : Prop := missionTriesUptoRow.holds Try.pinned (OpenSpec.upto missionTriesSpec)

/-- 'wayfinderlaw42.MissionEnds', WHERE WHAT IT READS IS OF BULK AT MOST 1048576: true; the input reads as it did. -/
def missionEndsUptoRow : OpenClaim := { program := "ytkhmdpekfcahkaa", sum := "39638dfa36769dbe3f4989f838786568ff6ac5f2aca3d0a7c81276c9158a82ff", func := "wayfinder/wayfinderlaw42.MissionEnds", spec := "missionEnds", recurses := true, apart := false, narrowed := true }
def MissionEndsUptoSaid : Prop := missionEndsUptoRow.holds Try.pinned (OpenSpec.upto missionEndsSpec)

/-- 'wayfinderlaw42.MissionPlays', WHERE WHAT IT READS IS OF BULK AT MOST 1048576: true; the input reads as it did. -/
def missionPlaysUptoRow : OpenClaim := { program := "ytkhmdpekfcahkaa", sum := "39638dfa36769dbe3f4989f838786568ff6ac5f2aca3d0a7c81276c9158a82ff", func := "wayfinder/wayfinderlaw42.MissionPlays", spec := "missionPlays", recurses := true, apart := false, narrowed := true }
def MissionPlaysUptoSaid : Prop := missionPlaysUptoRow.holds Try.pinned (OpenSpec.upto missionPlaysSpec)

end Rows
end Go.Proofs.Ytkhmdpekfcahkaa
