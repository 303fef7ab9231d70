/-
  DERIVED. GIVEN WITH THE SEED: THE CARDS: each row of YtknnmbcaoekgmaaDoorRows.lean that lists a variable, with what it lists TIED to the program's text (the seventh form; the later family's looks); each row that meets fmt, with fmt's text TOLD by the authors' own Lean function (tested against real Go, not proved from fmt's source: count such statements apart). THE CARD IS WHAT COUNTS. Prove the row's statement (the work); the ties are given (YtknnmbcaoekgmaaDoorTie.lean); close each card by the builder's one call (the guide's Derived/Test/ToyasCard.lean, 'card_holds'). Laid BY PROGRAM, IN A SANDBOX (cutbox-door.mjs). By AI agents, Wed Nov 11 2026. No macro, syntax, notation, axiom, sorry.
-/
import Derived.Test.YtknnmbcaoekgmaaDoorRows
import GoSem.ClaimSeven
namespace Go.Proofs.YtknnmbcaoekgmaaDoor
namespace Rows

/-- THE TIED CARD OF 'wayfinderlaw41.TreeTexts'. -/
def treeTextsCard : Claim7 := { stood := { row := treeTextsRow, standIns := [], harness := (true, "79c09f1effa83266e77b6fb433606edc2bc3288a1645d003ae57788908d00ed0"), looks := true }, kinds := [], alts := [], laidByText := true, laidKinds := [.data, .data, .data, .sentinel, .sentinel], laidTests := true, laidLooks := .later }
def TreeTextsCardSaid : Prop := Claim7.holds Tryd.pinned (.plain (OpenSpec.ofChange treeTextsSpec)) treeTextsCard

/-- THE TIED CARD OF 'wayfinderlaw41.TreeParses'. -/
def treeParsesCard : Claim7 := { stood := { row := treeParsesRow, standIns := [], harness := (true, "79c09f1effa83266e77b6fb433606edc2bc3288a1645d003ae57788908d00ed0"), looks := true }, kinds := [], alts := [], laidByText := true, laidKinds := [.data, .data, .data, .sentinel, .sentinel], laidTests := true, laidLooks := .later }
def TreeParsesCardSaid : Prop := Claim7.holds Tryd.pinned (.plain (OpenSpec.ofChange treeParsesSpec)) treeParsesCard

/-- THE SECOND FORM's CARD OF 'wayfinderlaw41.TreeTexts'. -/
def treeTextsUptoCard : Claim7 := { stood := { row := treeTextsUptoRow, standIns := [], harness := (true, "79c09f1effa83266e77b6fb433606edc2bc3288a1645d003ae57788908d00ed0"), looks := true }, kinds := [], alts := [], laidByText := true, laidKinds := [.data, .data, .data, .sentinel, .sentinel], laidTests := true, laidLooks := .later }
def TreeTextsUptoCardSaid : Prop := Claim7.holds Tryd.pinned (.plain (OpenSpec.upto treeTextsSpec)) treeTextsUptoCard

/-- THE SECOND FORM's CARD OF 'wayfinderlaw41.TreeParses'. -/
def treeParsesUptoCard : Claim7 := { stood := { row := treeParsesUptoRow, standIns := [], harness := (true, "79c09f1effa83266e77b6fb433606edc2bc3288a1645d003ae57788908d00ed0"), looks := true }, kinds := [], alts := [], laidByText := true, laidKinds := [.data, .data, .data, .sentinel, .sentinel], laidTests := true, laidLooks := .later }
def TreeParsesUptoCardSaid : Prop := Claim7.holds Tryd.pinned (.plain (OpenSpec.upto treeParsesSpec)) treeParsesUptoCard
end Rows
end Go.Proofs.YtknnmbcaoekgmaaDoor
