/-
  DERIVED. GIVEN WITH THE SEED: THE CARDS: each row of YtkhmdpekfcahkaaDoorRows.lean that lists a variable, with what it lists TIED to the program's text (the seventh form; the later family's looks); each row that meets fmt, with fmt's text TOLD by the authors' own Lean function (tested against real Go, not proved from fmt's source: count such statements apart). THE CARD IS WHAT COUNTS. Prove the row's statement (the work); the ties are given (YtkhmdpekfcahkaaDoorTie.lean); close each card by the builder's one call (the guide's Derived/Test/ToyasCard.lean, 'card_holds'). Laid BY PROGRAM, IN A SANDBOX (cutbox-door.mjs). By AI agents, Wed Nov 11 2026. No macro, syntax, notation, axiom, sorry.
-/
import Derived.Test.YtkhmdpekfcahkaaDoorRows
import GoSem.ClaimSeven
namespace Go.Proofs.YtkhmdpekfcahkaaDoor
namespace Rows

/-- THE TIED CARD OF 'wayfinderlaw42.MissionBuilds'. -/
def missionBuildsCard : Claim7 := { stood := { row := missionBuildsRow, standIns := [], harness := (true, "84e807c31e77fb148e61e8ef28bbaefd8e2a834dd1d6fdf8327295f5b59aefdd"), looks := false }, kinds := [], alts := [], laidByText := true, laidKinds := [.data, .data, .data], laidTests := true, laidLooks := .later }
def MissionBuildsCardSaid : Prop := Claim7.holds Tryd.pinned (.plain (OpenSpec.ofChange missionBuildsSpec)) missionBuildsCard

/-- THE SECOND FORM's CARD OF 'wayfinderlaw42.MissionBuilds'. -/
def missionBuildsUptoCard : Claim7 := { stood := { row := missionBuildsUptoRow, standIns := [], harness := (true, "84e807c31e77fb148e61e8ef28bbaefd8e2a834dd1d6fdf8327295f5b59aefdd"), looks := false }, kinds := [], alts := [], laidByText := true, laidKinds := [.data, .data, .data], laidTests := true, laidLooks := .later }
def MissionBuildsUptoCardSaid : Prop := Claim7.holds Tryd.pinned (.plain (OpenSpec.upto missionBuildsSpec)) missionBuildsUptoCard
end Rows
end Go.Proofs.YtkhmdpekfcahkaaDoor
