/-
  DERIVED. GIVEN WITH THE SEED: THE CARDS: each row of YtcdboppghnchpaaDoorRows.lean that lists a variable, with what it lists TIED to the program's text (the seventh form; the later family's looks); each row that meets fmt, with fmt's text TOLD by the authors' own Lean function (tested against real Go, not proved from fmt's source: count such statements apart). THE CARD IS WHAT COUNTS. Prove the row's statement (the work); the ties are given (YtcdboppghnchpaaDoorTie.lean); close each card by the builder's one call (the guide's Derived/Test/ToyasCard.lean, 'card_holds'). Laid BY PROGRAM, IN A SANDBOX (cutbox-door.mjs). By AI agents, Wed Nov 11 2026. No macro, syntax, notation, axiom, sorry.
-/
import Derived.Test.YtcdboppghnchpaaDoorRows
import GoSem.ClaimSeven
namespace Go.Proofs.YtcdboppghnchpaaDoor
namespace Rows

/-- THE TIED CARD OF 'wayfindertop.WholeBeams'. -/
def wholeBeamsCard : Claim7 := { stood := { row := wholeBeamsRow, standIns := [], harness := (true, "30d75b63194804a3ed54c354729d7d2679bbdc26f2f77cec9d9d1efe675bcc4f"), looks := true }, kinds := [], alts := [], laidByText := true, laidKinds := [.data, .data, .data], laidTests := true, laidLooks := .later }
def WholeBeamsCardSaid : Prop := Claim7.holds Tryd.pinned (.plain (OpenSpec.ofChange wholeBeamsSpec)) wholeBeamsCard

/-- THE TIED CARD OF 'wayfindertop.WholeMission'. -/
def wholeMissionCard : Claim7 := { stood := { row := wholeMissionRow, standIns := [], harness := (true, "30d75b63194804a3ed54c354729d7d2679bbdc26f2f77cec9d9d1efe675bcc4f"), looks := true }, kinds := [], alts := [], laidByText := true, laidKinds := [.data, .data, .data, .sentinel, .sentinel], laidTests := true, laidLooks := .later }
def WholeMissionCardSaid : Prop := Claim7.holds Tryd.pinned (.plain (OpenSpec.ofChange wholeMissionSpec)) wholeMissionCard

/-- THE SECOND FORM's CARD OF 'wayfindertop.WholeBeams'. -/
def wholeBeamsUptoCard : Claim7 := { stood := { row := wholeBeamsUptoRow, standIns := [], harness := (true, "30d75b63194804a3ed54c354729d7d2679bbdc26f2f77cec9d9d1efe675bcc4f"), looks := true }, kinds := [], alts := [], laidByText := true, laidKinds := [.data, .data, .data], laidTests := true, laidLooks := .later }
def WholeBeamsUptoCardSaid : Prop := Claim7.holds Tryd.pinned (.plain (OpenSpec.upto wholeBeamsSpec)) wholeBeamsUptoCard

/-- THE SECOND FORM's CARD OF 'wayfindertop.WholeMission'. -/
def wholeMissionUptoCard : Claim7 := { stood := { row := wholeMissionUptoRow, standIns := [], harness := (true, "30d75b63194804a3ed54c354729d7d2679bbdc26f2f77cec9d9d1efe675bcc4f"), looks := true }, kinds := [], alts := [], laidByText := true, laidKinds := [.data, .data, .data, .sentinel, .sentinel], laidTests := true, laidLooks := .later }
def WholeMissionUptoCardSaid : Prop := Claim7.holds Tryd.pinned (.plain (OpenSpec.upto wholeMissionSpec)) wholeMissionUptoCard
end Rows
end Go.Proofs.YtcdboppghnchpaaDoor
