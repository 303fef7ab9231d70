/-
  NARROWER THAN 'FOR EVERY INPUT', by the rows' own cells (each row's printed sentence says how): CliqueMax: laid · CliqueRemoves: laid · CliqueColors: laid · CliqueDifferent: laid · CliqueCounts: laid · CliqueIndependent: laid · CliqueIs: laid · CliqueComplements: laid · CliqueGreatest: laid.
  DERIVED. THE GIVEN ROWS OF THIS SEAT. 9 by the template 'for every input the law returns true; each argument reads behind the call as it read before'; 0 by the template 'total and deterministic' (their statements: YtminclnaelbolaaDoorTotals.lean).
  GIVEN WITH THE SEED: the statements are not yours to turn. If you find one false, say at which input.
  Laid BY PROGRAM, IN A SANDBOX (cutbox-rows.mjs): the forced cells as the released guide's own fill.sh prints them over the translation 9ee9bd74b790c7d9… (all of the seat's roots in one cut). By AI agents, Wed Nov 11 2026. No macro, syntax, notation, axiom, sorry.
-/
import Derived.Test.YtminclnaelbolaaDoorChecked
import GoSem.Claim
import GoSem.ClaimJoined
import GoSem.ClaimMapViews
import Derived.JoinedTies
import Derived.KernelRfl
namespace Go.Proofs.YtminclnaelbolaaDoor
/- THE CELL 'sum', in the pinned program and in every row, IS THE sha256 OF THE DUMP (.gsa) THAT YtminclnaelbolaaDoorProg.lean LOADS. Nothing in Lean hashes anything: it is a label: what it is worth is what the hold of that sum in a sandbox is worth. -/
noncomputable def Tryd.pinned : Pinned := { name := "ytminclnaelbolaadoor", sum := "9ee9bd74b790c7d932447e6d4571cd8d8c2a35725fd2bed0924e52deea77b67e", checked := Tryd.checked }
namespace Rows
def none {H : Type} : Left H := { results := [], args := [] }

/- WHAT THE LISTED PACKAGE-LEVEL VARIABLES READ AS WHEN THE CALL BEGINS. Each datum BY PROGRAM (the guide's laid-datum.mjs) off the statement by which the dump's own 'gosem.cut.vars' lays the variable. In a bare row this is a premise. The card (YtminclnaelbolaaDoorCards.lean) ties it to the program's text. -/
def laid_math_bits_deBruijn32tab {H : Type} : DataW H := .agg [.lit (.int .u8 0), .lit (.int .u8 1), .lit (.int .u8 28), .lit (.int .u8 2), .lit (.int .u8 29), .lit (.int .u8 14), .lit (.int .u8 24), .lit (.int .u8 3), .lit (.int .u8 30), .lit (.int .u8 22), .lit (.int .u8 20), .lit (.int .u8 15), .lit (.int .u8 25), .lit (.int .u8 17), .lit (.int .u8 4), .lit (.int .u8 8), .lit (.int .u8 31), .lit (.int .u8 27), .lit (.int .u8 13), .lit (.int .u8 23), .lit (.int .u8 21), .lit (.int .u8 19), .lit (.int .u8 16), .lit (.int .u8 7), .lit (.int .u8 26), .lit (.int .u8 12), .lit (.int .u8 18), .lit (.int .u8 6), .lit (.int .u8 11), .lit (.int .u8 5), .lit (.int .u8 10), .lit (.int .u8 9)]

/-- 'wayfinderlaw29.CliqueMax': WHATEVER THE INPUT: true; the input reads as it did. -/
def cliqueMaxSpec : ChangeSpec := { name := "cliqueMax", fn := fun _ => fun
  | [d] => { results := [.lit (.bool true)], args := [d] }
  | _ => none }
def cliqueMaxRow : OpenClaim := { program := "ytminclnaelbolaadoor", sum := "9ee9bd74b790c7d932447e6d4571cd8d8c2a35725fd2bed0924e52deea77b67e", func := "wayfinder/wayfinderlaw29.CliqueMax", spec := "cliqueMax", recurses := true, named := ["math/bits.deBruijn32tab"], apart := false, laid := [("math/bits.deBruijn32tab", laid_math_bits_deBruijn32tab)] }
def CliqueMaxSaid : Prop := cliqueMaxRow.holds Tryd.pinned (OpenSpec.ofChange cliqueMaxSpec)

/-- ITS FALSE NEIGHBOUR: 'it returns false'. Refute it at one input. -/
def cliqueMaxWrong : ChangeSpec := { name := "cliqueMax", fn := fun _ => fun
  | [d] => { results := [.lit (.bool false)], args := [d] }
  | _ => none }
def CliqueMaxWrongFalsely : Prop := cliqueMaxRow.holds Tryd.pinned (OpenSpec.ofChange cliqueMaxWrong)

/-- 'wayfinderlaw29.CliqueRemoves': WHATEVER THE INPUT: true; the input reads as it did. -/
def cliqueRemovesSpec : ChangeSpec := { name := "cliqueRemoves", fn := fun _ => fun
  | [d1, d2] => { results := [.lit (.bool true)], args := [d1, d2] }
  | _ => none }
def cliqueRemovesRow : OpenClaim := { program := "ytminclnaelbolaadoor", sum := "9ee9bd74b790c7d932447e6d4571cd8d8c2a35725fd2bed0924e52deea77b67e", func := "wayfinder/wayfinderlaw29.CliqueRemoves", spec := "cliqueRemoves", recurses := true, named := ["math/bits.deBruijn32tab"], apart := false, laid := [("math/bits.deBruijn32tab", laid_math_bits_deBruijn32tab)] }
def CliqueRemovesSaid : Prop := cliqueRemovesRow.holds Tryd.pinned (OpenSpec.ofChange cliqueRemovesSpec)

/-- ITS FALSE NEIGHBOUR: 'it returns false'. Refute it at one input. -/
def cliqueRemovesWrong : ChangeSpec := { name := "cliqueRemoves", fn := fun _ => fun
  | [d1, d2] => { results := [.lit (.bool false)], args := [d1, d2] }
  | _ => none }
def CliqueRemovesWrongFalsely : Prop := cliqueRemovesRow.holds Tryd.pinned (OpenSpec.ofChange cliqueRemovesWrong)

/-- 'wayfinderlaw29.CliqueColors': WHATEVER THE INPUT: true; the input reads as it did. -/
def cliqueColorsSpec : ChangeSpec := { name := "cliqueColors", fn := fun _ => fun
  | [d] => { results := [.lit (.bool true)], args := [d] }
  | _ => none }
def cliqueColorsRow : OpenClaim := { program := "ytminclnaelbolaadoor", sum := "9ee9bd74b790c7d932447e6d4571cd8d8c2a35725fd2bed0924e52deea77b67e", func := "wayfinder/wayfinderlaw29.CliqueColors", spec := "cliqueColors", recurses := true, named := ["math/bits.deBruijn32tab"], apart := false, laid := [("math/bits.deBruijn32tab", laid_math_bits_deBruijn32tab)] }
def CliqueColorsSaid : Prop := cliqueColorsRow.holds Tryd.pinned (OpenSpec.ofChange cliqueColorsSpec)

/-- ITS FALSE NEIGHBOUR: 'it returns false'. Refute it at one input. -/
def cliqueColorsWrong : ChangeSpec := { name := "cliqueColors", fn := fun _ => fun
  | [d] => { results := [.lit (.bool false)], args := [d] }
  | _ => none }
def CliqueColorsWrongFalsely : Prop := cliqueColorsRow.holds Tryd.pinned (OpenSpec.ofChange cliqueColorsWrong)

/-- 'wayfinderlaw29.CliqueDifferent': WHATEVER THE INPUT: true; the input reads as it did. -/
def cliqueDifferentSpec : ChangeSpec := { name := "cliqueDifferent", fn := fun _ => fun
  | [d] => { results := [.lit (.bool true)], args := [d] }
  | _ => none }
def cliqueDifferentRow : OpenClaim := { program := "ytminclnaelbolaadoor", sum := "9ee9bd74b790c7d932447e6d4571cd8d8c2a35725fd2bed0924e52deea77b67e", func := "wayfinder/wayfinderlaw29.CliqueDifferent", spec := "cliqueDifferent", recurses := true, named := ["math/bits.deBruijn32tab"], apart := false, laid := [("math/bits.deBruijn32tab", laid_math_bits_deBruijn32tab)] }
def CliqueDifferentSaid : Prop := cliqueDifferentRow.holds Tryd.pinned (OpenSpec.ofChange cliqueDifferentSpec)

/-- ITS FALSE NEIGHBOUR: 'it returns false'. Refute it at one input. -/
def cliqueDifferentWrong : ChangeSpec := { name := "cliqueDifferent", fn := fun _ => fun
  | [d] => { results := [.lit (.bool false)], args := [d] }
  | _ => none }
def CliqueDifferentWrongFalsely : Prop := cliqueDifferentRow.holds Tryd.pinned (OpenSpec.ofChange cliqueDifferentWrong)

/-- 'wayfinderlaw29.CliqueCounts': WHATEVER THE INPUT: true; the input reads as it did. -/
def cliqueCountsSpec : ChangeSpec := { name := "cliqueCounts", fn := fun _ => fun
  | [d1, d2] => { results := [.lit (.bool true)], args := [d1, d2] }
  | _ => none }
def cliqueCountsRow : OpenClaim := { program := "ytminclnaelbolaadoor", sum := "9ee9bd74b790c7d932447e6d4571cd8d8c2a35725fd2bed0924e52deea77b67e", func := "wayfinder/wayfinderlaw29.CliqueCounts", spec := "cliqueCounts", recurses := true, named := ["math/bits.deBruijn32tab"], apart := false, laid := [("math/bits.deBruijn32tab", laid_math_bits_deBruijn32tab)] }
def CliqueCountsSaid : Prop := cliqueCountsRow.holds Tryd.pinned (OpenSpec.ofChange cliqueCountsSpec)

/-- ITS FALSE NEIGHBOUR: 'it returns false'. Refute it at one input. -/
def cliqueCountsWrong : ChangeSpec := { name := "cliqueCounts", fn := fun _ => fun
  | [d1, d2] => { results := [.lit (.bool false)], args := [d1, d2] }
  | _ => none }
def CliqueCountsWrongFalsely : Prop := cliqueCountsRow.holds Tryd.pinned (OpenSpec.ofChange cliqueCountsWrong)

/-- 'wayfinderlaw29.CliqueIndependent': WHATEVER THE INPUT: true; the input reads as it did. -/
def cliqueIndependentSpec : ChangeSpec := { name := "cliqueIndependent", fn := fun _ => fun
  | [d] => { results := [.lit (.bool true)], args := [d] }
  | _ => none }
def cliqueIndependentRow : OpenClaim := { program := "ytminclnaelbolaadoor", sum := "9ee9bd74b790c7d932447e6d4571cd8d8c2a35725fd2bed0924e52deea77b67e", func := "wayfinder/wayfinderlaw29.CliqueIndependent", spec := "cliqueIndependent", recurses := true, named := ["math/bits.deBruijn32tab"], apart := false, laid := [("math/bits.deBruijn32tab", laid_math_bits_deBruijn32tab)] }
def CliqueIndependentSaid : Prop := cliqueIndependentRow.holds Tryd.pinned (OpenSpec.ofChange cliqueIndependentSpec)

/-- ITS FALSE NEIGHBOUR: 'it returns false'. Refute it at one input. -/
def cliqueIndependentWrong : ChangeSpec := { name := "cliqueIndependent", fn := fun _ => fun
  | [d] => { results := [.lit (.bool false)], args := [d] }
  | _ => none }
def CliqueIndependentWrongFalsely : Prop := cliqueIndependentRow.holds Tryd.pinned (OpenSpec.ofChange cliqueIndependentWrong)

/-- 'wayfinderlaw29.CliqueIs': WHATEVER THE INPUT: true; the input reads as it did. -/
def cliqueIsSpec : ChangeSpec := { name := "cliqueIs", fn := fun _ => fun
  | [d1, d2] => { results := [.lit (.bool true)], args := [d1, d2] }
  | _ => none }
def cliqueIsRow : OpenClaim := { program := "ytminclnaelbolaadoor", sum := "9ee9bd74b790c7d932447e6d4571cd8d8c2a35725fd2bed0924e52deea77b67e", func := "wayfinder/wayfinderlaw29.CliqueIs", spec := "cliqueIs", recurses := true, named := ["math/bits.deBruijn32tab"], apart := false, laid := [("math/bits.deBruijn32tab", laid_math_bits_deBruijn32tab)] }
def CliqueIsSaid : Prop := cliqueIsRow.holds Tryd.pinned (OpenSpec.ofChange cliqueIsSpec)

/-- ITS FALSE NEIGHBOUR: 'it returns false'. Refute it at one input. -/
def cliqueIsWrong : ChangeSpec := { name := "cliqueIs", fn := fun _ => fun
  | [d1, d2] => { results := [.lit (.bool false)], args := [d1, d2] }
  | _ => none }
def CliqueIsWrongFalsely : Prop := cliqueIsRow.holds Tryd.pinned (OpenSpec.ofChange cliqueIsWrong)

/-- 'wayfinderlaw29.CliqueComplements': WHATEVER THE INPUT: true; the input reads as it did. -/
def cliqueComplementsSpec : ChangeSpec := { name := "cliqueComplements", fn := fun _ => fun
  | [d] => { results := [.lit (.bool true)], args := [d] }
  | _ => none }
def cliqueComplementsRow : OpenClaim := { program := "ytminclnaelbolaadoor", sum := "9ee9bd74b790c7d932447e6d4571cd8d8c2a35725fd2bed0924e52deea77b67e", func := "wayfinder/wayfinderlaw29.CliqueComplements", spec := "cliqueComplements", recurses := true, named := ["math/bits.deBruijn32tab"], apart := false, laid := [("math/bits.deBruijn32tab", laid_math_bits_deBruijn32tab)] }
def CliqueComplementsSaid : Prop := cliqueComplementsRow.holds Tryd.pinned (OpenSpec.ofChange cliqueComplementsSpec)

/-- ITS FALSE NEIGHBOUR: 'it returns false'. Refute it at one input. -/
def cliqueComplementsWrong : ChangeSpec := { name := "cliqueComplements", fn := fun _ => fun
  | [d] => { results := [.lit (.bool false)], args := [d] }
  | _ => none }
def CliqueComplementsWrongFalsely : Prop := cliqueComplementsRow.holds Tryd.pinned (OpenSpec.ofChange cliqueComplementsWrong)

/-- 'wayfinderlaw29.CliqueGreatest': WHATEVER THE INPUT: true; the input reads as it did. -/
def cliqueGreatestSpec : ChangeSpec := { name := "cliqueGreatest", fn := fun _ => fun
  | [d1, d2] => { results := [.lit (.bool true)], args := [d1, d2] }
  | _ => none }
def cliqueGreatestRow : OpenClaim := { program := "ytminclnaelbolaadoor", sum := "9ee9bd74b790c7d932447e6d4571cd8d8c2a35725fd2bed0924e52deea77b67e", func := "wayfinder/wayfinderlaw29.CliqueGreatest", spec := "cliqueGreatest", recurses := true, named := ["math/bits.deBruijn32tab"], apart := false, laid := [("math/bits.deBruijn32tab", laid_math_bits_deBruijn32tab)] }
def CliqueGreatestSaid : Prop := cliqueGreatestRow.holds Tryd.pinned (OpenSpec.ofChange cliqueGreatestSpec)

/-- ITS FALSE NEIGHBOUR: 'it returns false'. Refute it at one input. -/
def cliqueGreatestWrong : ChangeSpec := { name := "cliqueGreatest", fn := fun _ => fun
  | [d1, d2] => { results := [.lit (.bool false)], args := [d1, d2] }
  | _ => none }
def CliqueGreatestWrongFalsely : Prop := cliqueGreatestRow.holds Tryd.pinned (OpenSpec.ofChange cliqueGreatestWrong)

/- THE SECOND FORM. 'bulk': how many values and letters a reading holds, each counted each time it is reached (what is shared counts as often as it is met; a slice's spare places count too). A statement '..UptoSaid' is the law's where the arguments, and the package variables that the reading takes, are together of bulk at most 1048576: NARROWER than '..Said'. Prove '..Said' where nothing that the law and all that it calls make is longer than what came in: it says more and counts as full. Else prove '..UptoSaid'. A law counts once. -/
mutual
def uptoBulk {H : Type} : DataW H → Nat
  | .lit (.string bytes) => bytes.length + 1
  | .lit _ => 1
  | .nil => 1
  | .ptr d => uptoBulk d + 1
  | .slice elems spare => uptoBulkAll elems + uptoBulkAll spare + 1
  | .agg parts => uptoBulkAll parts + 1
  | .iface _ d => uptoBulk d + 1
  | .map entries => uptoBulkEntries entries + 1
  | .held _ => 1
def uptoBulkAll {H : Type} : List (DataW H) → Nat
  | [] => 0
  | d :: r => uptoBulk d + uptoBulkAll r
def uptoBulkEntries {H : Type} : List (Lit × DataW H) → Nat
  | [] => 0
  | x :: r => uptoBulkEntry x + uptoBulkEntries r
def uptoBulkEntry {H : Type} : Lit × DataW H → Nat
  | (.string bytes, d) => bytes.length + uptoBulk d + 1
  | (_, d) => uptoBulk d + 1
 end
def uptoSmall : (H : Type) → List (DataW H) → Bool := fun _ ds => decide (uptoBulkAll ds ≤ 1048576)
def OpenSpec.upto (s : _root_.Go.ChangeSpec) : _root_.Go.OpenSpec := { _root_.Go.OpenSpec.ofChange s with cond := some uptoSmall }

/-- 'wayfinderlaw29.CliqueMax', WHERE WHAT IT READS IS OF BULK AT MOST 1048576: true; the input reads as it did. -/
def cliqueMaxUptoRow : OpenClaim := { program := "ytminclnaelbolaadoor", sum := "9ee9bd74b790c7d932447e6d4571cd8d8c2a35725fd2bed0924e52deea77b67e", func := "wayfinder/wayfinderlaw29.CliqueMax", spec := "cliqueMax", recurses := true, named := ["math/bits.deBruijn32tab"], apart := false, laid := [("math/bits.deBruijn32tab", laid_math_bits_deBruijn32tab)], narrowed := true }
def CliqueMaxUptoSaid : Prop := cliqueMaxUptoRow.holds Tryd.pinned (OpenSpec.upto cliqueMaxSpec)

/-- 'wayfinderlaw29.CliqueRemoves', WHERE WHAT IT READS IS OF BULK AT MOST 1048576: true; the input reads as it did. -/
def cliqueRemovesUptoRow : OpenClaim := { program := "ytminclnaelbolaadoor", sum := "9ee9bd74b790c7d932447e6d4571cd8d8c2a35725fd2bed0924e52deea77b67e", func := "wayfinder/wayfinderlaw29.CliqueRemoves", spec := "cliqueRemoves", recurses := true, named := ["math/bits.deBruijn32tab"], apart := false, laid := [("math/bits.deBruijn32tab", laid_math_bits_deBruijn32tab)], narrowed := true }
def CliqueRemovesUptoSaid : Prop := cliqueRemovesUptoRow.holds Tryd.pinned (OpenSpec.upto cliqueRemovesSpec)

/-- 'wayfinderlaw29.CliqueColors', WHERE WHAT IT READS IS OF BULK AT MOST 1048576: true; the input reads as it did. -/
def cliqueColorsUptoRow : OpenClaim := { program := "ytminclnaelbolaadoor", sum := "9ee9bd74b790c7d932447e6d4571cd8d8c2a35725fd2bed0924e52deea77b67e", func := "wayfinder/wayfinderlaw29.CliqueColors", spec := "cliqueColors", recurses := true, named := ["math/bits.deBruijn32tab"], apart := false, laid := [("math/bits.deBruijn32tab", laid_math_bits_deBruijn32tab)], narrowed := true }
def CliqueColorsUptoSaid : Prop := cliqueColorsUptoRow.holds Tryd.pinned (OpenSpec.upto cliqueColorsSpec)

/-- 'wayfinderlaw29.CliqueDifferent', WHERE WHAT IT READS IS OF BULK AT MOST 1048576: true; the input reads as it did. -/
def cliqueDifferentUptoRow : OpenClaim := { program := "ytminclnaelbolaadoor", sum := "9ee9bd74b790c7d932447e6d4571cd8d8c2a35725fd2bed0924e52deea77b67e", func := "wayfinder/wayfinderlaw29.CliqueDifferent", spec := "cliqueDifferent", recurses := true, named := ["math/bits.deBruijn32tab"], apart := false, laid := [("math/bits.deBruijn32tab", laid_math_bits_deBruijn32tab)], narrowed := true }
def CliqueDifferentUptoSaid : Prop := cliqueDifferentUptoRow.holds Tryd.pinned (OpenSpec.upto cliqueDifferentSpec)

/-- 'wayfinderlaw29.CliqueCounts', WHERE WHAT IT READS IS OF BULK AT MOST 1048576: true; the input reads as it did. -/
def cliqueCountsUptoRow : OpenClaim := { program := "ytminclnaelbolaadoor", sum := "9ee9bd74b790c7d932447e6d4571cd8d8c2a35725fd2bed0924e52deea77b67e", func := "wayfinder/wayfinderlaw29.CliqueCounts", spec := "cliqueCounts", recurses := true, named := ["math/bits.deBruijn32tab"], apart := false, laid := [("math/bits.deBruijn32tab", laid_math_bits_deBruijn32tab)], narrowed := true }
def CliqueCountsUptoSaid : Prop := cliqueCountsUptoRow.holds Tryd.pinned (OpenSpec.upto cliqueCountsSpec)

/-- 'wayfinderlaw29.CliqueIndependent', WHERE WHAT IT READS IS OF BULK AT MOST 1048576: true; the input reads as it did. -/
def cliqueIndependentUptoRow : OpenClaim := { program := "ytminclnaelbolaadoor", sum := "9ee9bd74b790c7d932447e6d4571cd8d8c2a35725fd2bed0924e52deea77b67e", func := "wayfinder/wayfinderlaw29.CliqueIndependent", spec := "cliqueIndependent", recurses := true, named := ["math/bits.deBruijn32tab"], apart := false, laid := [("math/bits.deBruijn32tab", laid_math_bits_deBruijn32tab)], narrowed := true }
def CliqueIndependentUptoSaid : Prop := cliqueIndependentUptoRow.holds Tryd.pinned (OpenSpec.upto cliqueIndependentSpec)

/-- 'wayfinderlaw29.CliqueIs', WHERE WHAT IT READS IS OF BULK AT MOST 1048576: true; the input reads as it did. -/
def cliqueIsUptoRow : OpenClaim := { program := "ytminclnaelbolaadoor", sum := "9ee9bd74b790c7d932447e6d4571cd8d8c2a35725fd2bed0924e52deea77b67e", func := "wayfinder/wayfinderlaw29.CliqueIs", spec := "cliqueIs", recurses := true, named := ["math/bits.deBruijn32tab"], apart := false, laid := [("math/bits.deBruijn32tab", laid_math_bits_deBruijn32tab)], narrowed := true }
def CliqueIsUptoSaid : Prop := cliqueIsUptoRow.holds Tryd.pinned (OpenSpec.upto cliqueIsSpec)

/-- 'wayfinderlaw29.CliqueComplements', WHERE WHAT IT READS IS OF BULK AT MOST 1048576: true; the input reads as it did. -/
def cliqueComplementsUptoRow : OpenClaim := { program := "ytminclnaelbolaadoor", sum := "9ee9bd74b790c7d932447e6d4571cd8d8c2a35725fd2bed0924e52deea77b67e", func := "wayfinder/wayfinderlaw29.CliqueComplements", spec := "cliqueComplements", recurses := true, named := ["math/bits.deBruijn32tab"], apart := false, laid := [("math/bits.deBruijn32tab", laid_math_bits_deBruijn32tab)], narrowed := true }
def CliqueComplementsUptoSaid : Prop := cliqueComplementsUptoRow.holds Tryd.pinned (OpenSpec.upto cliqueComplementsSpec)

/-- 'wayfinderlaw29.CliqueGreatest', WHERE WHAT IT READS IS OF BULK AT MOST 1048576: true; the input reads as it did. -/
def cliqueGreatestUptoRow : OpenClaim := { program := "ytminclnaelbolaadoor", sum := "9ee9bd74b790c7d932447e6d4571cd8d8c2a35725fd2bed0924e52deea77b67e", func := "wayfinder/wayfinderlaw29.CliqueGreatest", spec := "cliqueGreatest", recurses := true, named := ["math/bits.deBruijn32tab"], apart := false, laid := [("math/bits.deBruijn32tab", laid_math_bits_deBruijn32tab)], narrowed := true }
def CliqueGreatestUptoSaid : Prop := cliqueGreatestUptoRow.holds Tryd.pinned (OpenSpec.upto cliqueGreatestSpec)

end Rows
end Go.Proofs.YtminclnaelbolaaDoor
