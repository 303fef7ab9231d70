/-
  DERIVED. GIVEN WITH THE SEED: THE CARDS: each row of YtminclnaelbolaaDoorRows.lean that lists a variable, with what it lists TIED to the program's text (the seventh form; the later family's looks); each row that meets fmt, with fmt's text TOLD by the authors' own Lean function (tested against real Go, not proved from fmt's source: count such statements apart). THE CARD IS WHAT COUNTS. Prove the row's statement (the work); the ties are given (YtminclnaelbolaaDoorTie.lean); close each card by the builder's one call (the guide's Derived/Test/ToyasCard.lean, 'card_holds'). Laid BY PROGRAM, IN A SANDBOX (cutbox-door.mjs). By AI agents, Wed Nov 11 2026. No macro, syntax, notation, axiom, sorry.
-/
import Derived.Test.YtminclnaelbolaaDoorRows
import GoSem.ClaimSeven
namespace Go.Proofs.YtminclnaelbolaaDoor
namespace Rows

/-- THE TIED CARD OF 'wayfinderlaw29.CliqueMax'. -/
def cliqueMaxCard : Claim7 := { stood := { row := cliqueMaxRow, standIns := [], harness := (true, "04b7ce8a323bbb433646df02181948a3b6f18cb0e9f16d9c0ddd98d2a7844c2a"), looks := false }, kinds := [], alts := [], laidByText := true, laidKinds := [.data], laidTests := true, laidLooks := .later }
def CliqueMaxCardSaid : Prop := Claim7.holds Tryd.pinned (.plain (OpenSpec.ofChange cliqueMaxSpec)) cliqueMaxCard

/-- THE TIED CARD OF 'wayfinderlaw29.CliqueRemoves'. -/
def cliqueRemovesCard : Claim7 := { stood := { row := cliqueRemovesRow, standIns := [], harness := (true, "04b7ce8a323bbb433646df02181948a3b6f18cb0e9f16d9c0ddd98d2a7844c2a"), looks := false }, kinds := [], alts := [], laidByText := true, laidKinds := [.data], laidTests := true, laidLooks := .later }
def CliqueRemovesCardSaid : Prop := Claim7.holds Tryd.pinned (.plain (OpenSpec.ofChange cliqueRemovesSpec)) cliqueRemovesCard

/-- THE TIED CARD OF 'wayfinderlaw29.CliqueColors'. -/
def cliqueColorsCard : Claim7 := { stood := { row := cliqueColorsRow, standIns := [], harness := (true, "04b7ce8a323bbb433646df02181948a3b6f18cb0e9f16d9c0ddd98d2a7844c2a"), looks := false }, kinds := [], alts := [], laidByText := true, laidKinds := [.data], laidTests := true, laidLooks := .later }
def CliqueColorsCardSaid : Prop := Claim7.holds Tryd.pinned (.plain (OpenSpec.ofChange cliqueColorsSpec)) cliqueColorsCard

/-- THE TIED CARD OF 'wayfinderlaw29.CliqueDifferent'. -/
def cliqueDifferentCard : Claim7 := { stood := { row := cliqueDifferentRow, standIns := [], harness := (true, "04b7ce8a323bbb433646df02181948a3b6f18cb0e9f16d9c0ddd98d2a7844c2a"), looks := false }, kinds := [], alts := [], laidByText := true, laidKinds := [.data], laidTests := true, laidLooks := .later }
def CliqueDifferentCardSaid : Prop := Claim7.holds Tryd.pinned (.plain (OpenSpec.ofChange cliqueDifferentSpec)) cliqueDifferentCard

/-- THE TIED CARD OF 'wayfinderlaw29.CliqueCounts'. -/
def cliqueCountsCard : Claim7 := { stood := { row := cliqueCountsRow, standIns := [], harness := (true, "04b7ce8a323bbb433646df02181948a3b6f18cb0e9f16d9c0ddd98d2a7844c2a"), looks := false }, kinds := [], alts := [], laidByText := true, laidKinds := [.data], laidTests := true, laidLooks := .later }
def CliqueCountsCardSaid : Prop := Claim7.holds Tryd.pinned (.plain (OpenSpec.ofChange cliqueCountsSpec)) cliqueCountsCard

/-- THE TIED CARD OF 'wayfinderlaw29.CliqueIndependent'. -/
def cliqueIndependentCard : Claim7 := { stood := { row := cliqueIndependentRow, standIns := [], harness := (true, "04b7ce8a323bbb433646df02181948a3b6f18cb0e9f16d9c0ddd98d2a7844c2a"), looks := false }, kinds := [], alts := [], laidByText := true, laidKinds := [.data], laidTests := true, laidLooks := .later }
def CliqueIndependentCardSaid : Prop := Claim7.holds Tryd.pinned (.plain (OpenSpec.ofChange cliqueIndependentSpec)) cliqueIndependentCard

/-- THE TIED CARD OF 'wayfinderlaw29.CliqueIs'. -/
def cliqueIsCard : Claim7 := { stood := { row := cliqueIsRow, standIns := [], harness := (true, "04b7ce8a323bbb433646df02181948a3b6f18cb0e9f16d9c0ddd98d2a7844c2a"), looks := false }, kinds := [], alts := [], laidByText := true, laidKinds := [.data], laidTests := true, laidLooks := .later }
def CliqueIsCardSaid : Prop := Claim7.holds Tryd.pinned (.plain (OpenSpec.ofChange cliqueIsSpec)) cliqueIsCard

/-- THE TIED CARD OF 'wayfinderlaw29.CliqueComplements'. -/
def cliqueComplementsCard : Claim7 := { stood := { row := cliqueComplementsRow, standIns := [], harness := (true, "04b7ce8a323bbb433646df02181948a3b6f18cb0e9f16d9c0ddd98d2a7844c2a"), looks := false }, kinds := [], alts := [], laidByText := true, laidKinds := [.data], laidTests := true, laidLooks := .later }
def CliqueComplementsCardSaid : Prop := Claim7.holds Tryd.pinned (.plain (OpenSpec.ofChange cliqueComplementsSpec)) cliqueComplementsCard

/-- THE TIED CARD OF 'wayfinderlaw29.CliqueGreatest'. -/
def cliqueGreatestCard : Claim7 := { stood := { row := cliqueGreatestRow, standIns := [], harness := (true, "04b7ce8a323bbb433646df02181948a3b6f18cb0e9f16d9c0ddd98d2a7844c2a"), looks := false }, kinds := [], alts := [], laidByText := true, laidKinds := [.data], laidTests := true, laidLooks := .later }
def CliqueGreatestCardSaid : Prop := Claim7.holds Tryd.pinned (.plain (OpenSpec.ofChange cliqueGreatestSpec)) cliqueGreatestCard

/-- THE SECOND FORM's CARD OF 'wayfinderlaw29.CliqueMax'. -/
def cliqueMaxUptoCard : Claim7 := { stood := { row := cliqueMaxUptoRow, standIns := [], harness := (true, "04b7ce8a323bbb433646df02181948a3b6f18cb0e9f16d9c0ddd98d2a7844c2a"), looks := false }, kinds := [], alts := [], laidByText := true, laidKinds := [.data], laidTests := true, laidLooks := .later }
def CliqueMaxUptoCardSaid : Prop := Claim7.holds Tryd.pinned (.plain (OpenSpec.upto cliqueMaxSpec)) cliqueMaxUptoCard

/-- THE SECOND FORM's CARD OF 'wayfinderlaw29.CliqueRemoves'. -/
def cliqueRemovesUptoCard : Claim7 := { stood := { row := cliqueRemovesUptoRow, standIns := [], harness := (true, "04b7ce8a323bbb433646df02181948a3b6f18cb0e9f16d9c0ddd98d2a7844c2a"), looks := false }, kinds := [], alts := [], laidByText := true, laidKinds := [.data], laidTests := true, laidLooks := .later }
def CliqueRemovesUptoCardSaid : Prop := Claim7.holds Tryd.pinned (.plain (OpenSpec.upto cliqueRemovesSpec)) cliqueRemovesUptoCard

/-- THE SECOND FORM's CARD OF 'wayfinderlaw29.CliqueColors'. -/
def cliqueColorsUptoCard : Claim7 := { stood := { row := cliqueColorsUptoRow, standIns := [], harness := (true, "04b7ce8a323bbb433646df02181948a3b6f18cb0e9f16d9c0ddd98d2a7844c2a"), looks := false }, kinds := [], alts := [], laidByText := true, laidKinds := [.data], laidTests := true, laidLooks := .later }
def CliqueColorsUptoCardSaid : Prop := Claim7.holds Tryd.pinned (.plain (OpenSpec.upto cliqueColorsSpec)) cliqueColorsUptoCard

/-- THE SECOND FORM's CARD OF 'wayfinderlaw29.CliqueDifferent'. -/
def cliqueDifferentUptoCard : Claim7 := { stood := { row := cliqueDifferentUptoRow, standIns := [], harness := (true, "04b7ce8a323bbb433646df02181948a3b6f18cb0e9f16d9c0ddd98d2a7844c2a"), looks := false }, kinds := [], alts := [], laidByText := true, laidKinds := [.data], laidTests := true, laidLooks := .later }
def CliqueDifferentUptoCardSaid : Prop := Claim7.holds Tryd.pinned (.plain (OpenSpec.upto cliqueDifferentSpec)) cliqueDifferentUptoCard

/-- THE SECOND FORM's CARD OF 'wayfinderlaw29.CliqueCounts'. -/
def cliqueCountsUptoCard : Claim7 := { stood := { row := cliqueCountsUptoRow, standIns := [], harness := (true, "04b7ce8a323bbb433646df02181948a3b6f18cb0e9f16d9c0ddd98d2a7844c2a"), looks := false }, kinds := [], alts := [], laidByText := true, laidKinds := [.data], laidTests := true, laidLooks := .later }
def CliqueCountsUptoCardSaid : Prop := Claim7.holds Tryd.pinned (.plain (OpenSpec.upto cliqueCountsSpec)) cliqueCountsUptoCard

/-- THE SECOND FORM's CARD OF 'wayfinderlaw29.CliqueIndependent'. -/
def cliqueIndependentUptoCard : Claim7 := { stood := { row := cliqueIndependentUptoRow, standIns := [], harness := (true, "04b7ce8a323bbb433646df02181948a3b6f18cb0e9f16d9c0ddd98d2a7844c2a"), looks := false }, kinds := [], alts := [], laidByText := true, laidKinds := [.data], laidTests := true, laidLooks := .later }
def CliqueIndependentUptoCardSaid : Prop := Claim7.holds Tryd.pinned (.plain (OpenSpec.upto cliqueIndependentSpec)) cliqueIndependentUptoCard

/-- THE SECOND FORM's CARD OF 'wayfinderlaw29.CliqueIs'. -/
def cliqueIsUptoCard : Claim7 := { stood := { row := cliqueIsUptoRow, standIns := [], harness := (true, "04b7ce8a323bbb433646df02181948a3b6f18cb0e9f16d9c0ddd98d2a7844c2a"), looks := false }, kinds := [], alts := [], laidByText := true, laidKinds := [.data], laidTests := true, laidLooks := .later }
def CliqueIsUptoCardSaid : Prop := Claim7.holds Tryd.pinned (.plain (OpenSpec.upto cliqueIsSpec)) cliqueIsUptoCard

/-- THE SECOND FORM's CARD OF 'wayfinderlaw29.CliqueComplements'. -/
def cliqueComplementsUptoCard : Claim7 := { stood := { row := cliqueComplementsUptoRow, standIns := [], harness := (true, "04b7ce8a323bbb433646df02181948a3b6f18cb0e9f16d9c0ddd98d2a7844c2a"), looks := false }, kinds := [], alts := [], laidByText := true, laidKinds := [.data], laidTests := true, laidLooks := .later }
def CliqueComplementsUptoCardSaid : Prop := Claim7.holds Tryd.pinned (.plain (OpenSpec.upto cliqueComplementsSpec)) cliqueComplementsUptoCard

/-- THE SECOND FORM's CARD OF 'wayfinderlaw29.CliqueGreatest'. -/
def cliqueGreatestUptoCard : Claim7 := { stood := { row := cliqueGreatestUptoRow, standIns := [], harness := (true, "04b7ce8a323bbb433646df02181948a3b6f18cb0e9f16d9c0ddd98d2a7844c2a"), looks := false }, kinds := [], alts := [], laidByText := true, laidKinds := [.data], laidTests := true, laidLooks := .later }
def CliqueGreatestUptoCardSaid : Prop := Claim7.holds Tryd.pinned (.plain (OpenSpec.upto cliqueGreatestSpec)) cliqueGreatestUptoCard
end Rows
end Go.Proofs.YtminclnaelbolaaDoor
