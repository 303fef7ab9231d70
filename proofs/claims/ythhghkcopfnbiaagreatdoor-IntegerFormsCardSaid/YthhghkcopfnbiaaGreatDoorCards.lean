/-
  DERIVED. GIVEN WITH THE SEED: THE CARDS: each row of YthhghkcopfnbiaaGreatDoorRows.lean that lists a variable, with what it lists TIED to the program's text (the seventh form; the later family's looks); each row that meets fmt, with fmt's text TOLD by the authors' own Lean function (tested against real Go, not proved from fmt's source: count such statements apart). THE CARD IS WHAT COUNTS. Prove the row's statement (the work); the ties are given (YthhghkcopfnbiaaGreatDoorTie.lean); close each card by the builder's one call (the guide's Derived/Test/ToyasCard.lean, 'card_holds'). Laid BY PROGRAM, IN A SANDBOX (cutbox-door.mjs). By AI agents, Wed Nov 11 2026. No macro, syntax, notation, axiom, sorry.
-/
import Derived.Test.YthhghkcopfnbiaaGreatDoorRows
import GoSem.ClaimSeven
namespace Go.Proofs.YthhghkcopfnbiaaGreatDoor
namespace Rows

/-- THE TIED CARD OF 'wayfinderlaw01.IntegerLarges'. -/
def integerLargesCard : Claim7 := { stood := { row := integerLargesRow, standIns := [], harness := (true, "ea403acb6c49ff42ee18d50b906a01a9665a57633cea4ffc9688ff0153adcc1d"), looks := true }, kinds := [], alts := [], laidByText := true, laidKinds := [.data, .data, .data, .data, .sentinel, .sentinel, .pinned], laidTests := true, laidLooks := .later }
def IntegerLargesCardSaid : Prop := Claim7.holds Tryz.pinned (.plain (OpenSpec.ofChange integerLargesSpec)) integerLargesCard

/-- THE TIED CARD OF 'wayfinderlaw01.IntegerGcds'. -/
def integerGcdsCard : Claim7 := { stood := { row := integerGcdsRow, standIns := [], harness := (true, "ea403acb6c49ff42ee18d50b906a01a9665a57633cea4ffc9688ff0153adcc1d"), looks := true }, kinds := [], alts := [], laidByText := true, laidKinds := [.data, .data, .data, .data, .sentinel, .sentinel, .pinned], laidTests := true, laidLooks := .later }
def IntegerGcdsCardSaid : Prop := Claim7.holds Tryz.pinned (.plain (OpenSpec.ofChange integerGcdsSpec)) integerGcdsCard

/-- THE TIED CARD OF 'wayfinderlaw01.IntegerTexts'. -/
def integerTextsCard : Claim7 := { stood := { row := integerTextsRow, standIns := [], harness := (true, "ea403acb6c49ff42ee18d50b906a01a9665a57633cea4ffc9688ff0153adcc1d"), looks := true }, kinds := [], alts := [], laidByText := true, laidKinds := [.data, .data, .data, .data, .sentinel, .sentinel, .pinned], laidTests := true, laidLooks := .later }
def IntegerTextsCardSaid : Prop := Claim7.holds Tryz.pinned (.plain (OpenSpec.ofChange integerTextsSpec)) integerTextsCard

/-- THE TIED CARD OF 'wayfinderlaw01.IntegerParses'. -/
def integerParsesCard : Claim7 := { stood := { row := integerParsesRow, standIns := [], harness := (true, "ea403acb6c49ff42ee18d50b906a01a9665a57633cea4ffc9688ff0153adcc1d"), looks := true }, kinds := [], alts := [], laidByText := true, laidKinds := [.data, .data, .data, .data, .sentinel, .sentinel, .pinned], laidTests := true, laidLooks := .later }
def IntegerParsesCardSaid : Prop := Claim7.holds Tryz.pinned (.plain (OpenSpec.ofChange integerParsesSpec)) integerParsesCard

/-- THE TIED CARD OF 'wayfinderlaw01.IntegerDivides'. -/
def integerDividesCard : Claim7 := { stood := { row := integerDividesRow, standIns := [], harness := (true, "ea403acb6c49ff42ee18d50b906a01a9665a57633cea4ffc9688ff0153adcc1d"), looks := true }, kinds := [], alts := [], laidByText := true, laidKinds := [.data, .data, .data, .data, .sentinel, .sentinel, .pinned], laidTests := true, laidLooks := .later }
def IntegerDividesCardSaid : Prop := Claim7.holds Tryz.pinned (.plain (OpenSpec.ofChange integerDividesSpec)) integerDividesCard

/-- THE TIED CARD OF 'wayfinderlaw01.IntegerRoots'. -/
def integerRootsCard : Claim7 := { stood := { row := integerRootsRow, standIns := [], harness := (true, "ea403acb6c49ff42ee18d50b906a01a9665a57633cea4ffc9688ff0153adcc1d"), looks := true }, kinds := [], alts := [], laidByText := true, laidKinds := [.data, .data, .data, .data, .sentinel, .sentinel, .pinned], laidTests := true, laidLooks := .later }
def IntegerRootsCardSaid : Prop := Claim7.holds Tryz.pinned (.plain (OpenSpec.ofChange integerRootsSpec)) integerRootsCard

/-- THE TIED CARD OF 'wayfinderlaw01.IntegerSmalls'. -/
def integerSmallsCard : Claim7 := { stood := { row := integerSmallsRow, standIns := [], harness := (true, "ea403acb6c49ff42ee18d50b906a01a9665a57633cea4ffc9688ff0153adcc1d"), looks := true }, kinds := [], alts := [], laidByText := true, laidKinds := [.data, .data, .data, .data, .sentinel, .sentinel, .pinned], laidTests := true, laidLooks := .later }
def IntegerSmallsCardSaid : Prop := Claim7.holds Tryz.pinned (.plain (OpenSpec.ofChange integerSmallsSpec)) integerSmallsCard

/-- THE TIED CARD OF 'wayfinderlaw01.IntegerForms'. -/
def integerFormsCard : Claim7 := { stood := { row := integerFormsRow, standIns := [], harness := (true, "ea403acb6c49ff42ee18d50b906a01a9665a57633cea4ffc9688ff0153adcc1d"), looks := true }, kinds := [], alts := [], laidByText := true, laidKinds := [.data, .data, .data, .data, .sentinel, .sentinel, .pinned], laidTests := true, laidLooks := .later }
def IntegerFormsCardSaid : Prop := Claim7.holds Tryz.pinned (.plain (OpenSpec.ofChange integerFormsSpec)) integerFormsCard

/-- THE TIED CARD OF 'wayfinderlaw01.IntegerRing'. -/
def integerRingCard : Claim7 := { stood := { row := integerRingRow, standIns := [], harness := (true, "ea403acb6c49ff42ee18d50b906a01a9665a57633cea4ffc9688ff0153adcc1d"), looks := true }, kinds := [], alts := [], laidByText := true, laidKinds := [.data, .data, .data, .data, .sentinel, .sentinel, .pinned], laidTests := true, laidLooks := .later }
def IntegerRingCardSaid : Prop := Claim7.holds Tryz.pinned (.plain (OpenSpec.ofChange integerRingSpec)) integerRingCard

/-- THE TIED CARD OF 'wayfinderlaw01.IntegerMatchesReference'. -/
def integerMatchesReferenceCard : Claim7 := { stood := { row := integerMatchesReferenceRow, standIns := [], harness := (true, "ea403acb6c49ff42ee18d50b906a01a9665a57633cea4ffc9688ff0153adcc1d"), looks := true }, kinds := [], alts := [], laidByText := true, laidKinds := [.data, .data, .data, .data, .sentinel, .sentinel, .pinned], laidTests := true, laidLooks := .later }
def IntegerMatchesReferenceCardSaid : Prop := Claim7.holds Tryz.pinned (.plain (OpenSpec.ofChange integerMatchesReferenceSpec)) integerMatchesReferenceCard

/-- THE SECOND FORM's CARD OF 'wayfinderlaw01.IntegerLarges'. -/
def integerLargesUptoCard : Claim7 := { stood := { row := integerLargesUptoRow, standIns := [], harness := (true, "ea403acb6c49ff42ee18d50b906a01a9665a57633cea4ffc9688ff0153adcc1d"), looks := true }, kinds := [], alts := [], laidByText := true, laidKinds := [.data, .data, .data, .data, .sentinel, .sentinel, .pinned], laidTests := true, laidLooks := .later }
def IntegerLargesUptoCardSaid : Prop := Claim7.holds Tryz.pinned (.plain (OpenSpec.upto integerLargesSpec)) integerLargesUptoCard

/-- THE SECOND FORM's CARD OF 'wayfinderlaw01.IntegerGcds'. -/
def integerGcdsUptoCard : Claim7 := { stood := { row := integerGcdsUptoRow, standIns := [], harness := (true, "ea403acb6c49ff42ee18d50b906a01a9665a57633cea4ffc9688ff0153adcc1d"), looks := true }, kinds := [], alts := [], laidByText := true, laidKinds := [.data, .data, .data, .data, .sentinel, .sentinel, .pinned], laidTests := true, laidLooks := .later }
def IntegerGcdsUptoCardSaid : Prop := Claim7.holds Tryz.pinned (.plain (OpenSpec.upto integerGcdsSpec)) integerGcdsUptoCard

/-- THE SECOND FORM's CARD OF 'wayfinderlaw01.IntegerTexts'. -/
def integerTextsUptoCard : Claim7 := { stood := { row := integerTextsUptoRow, standIns := [], harness := (true, "ea403acb6c49ff42ee18d50b906a01a9665a57633cea4ffc9688ff0153adcc1d"), looks := true }, kinds := [], alts := [], laidByText := true, laidKinds := [.data, .data, .data, .data, .sentinel, .sentinel, .pinned], laidTests := true, laidLooks := .later }
def IntegerTextsUptoCardSaid : Prop := Claim7.holds Tryz.pinned (.plain (OpenSpec.upto integerTextsSpec)) integerTextsUptoCard

/-- THE SECOND FORM's CARD OF 'wayfinderlaw01.IntegerParses'. -/
def integerParsesUptoCard : Claim7 := { stood := { row := integerParsesUptoRow, standIns := [], harness := (true, "ea403acb6c49ff42ee18d50b906a01a9665a57633cea4ffc9688ff0153adcc1d"), looks := true }, kinds := [], alts := [], laidByText := true, laidKinds := [.data, .data, .data, .data, .sentinel, .sentinel, .pinned], laidTests := true, laidLooks := .later }
def IntegerParsesUptoCardSaid : Prop := Claim7.holds Tryz.pinned (.plain (OpenSpec.upto integerParsesSpec)) integerParsesUptoCard

/-- THE SECOND FORM's CARD OF 'wayfinderlaw01.IntegerDivides'. -/
def integerDividesUptoCard : Claim7 := { stood := { row := integerDividesUptoRow, standIns := [], harness := (true, "ea403acb6c49ff42ee18d50b906a01a9665a57633cea4ffc9688ff0153adcc1d"), looks := true }, kinds := [], alts := [], laidByText := true, laidKinds := [.data, .data, .data, .data, .sentinel, .sentinel, .pinned], laidTests := true, laidLooks := .later }
def IntegerDividesUptoCardSaid : Prop := Claim7.holds Tryz.pinned (.plain (OpenSpec.upto integerDividesSpec)) integerDividesUptoCard

/-- THE SECOND FORM's CARD OF 'wayfinderlaw01.IntegerRoots'. -/
def integerRootsUptoCard : Claim7 := { stood := { row := integerRootsUptoRow, standIns := [], harness := (true, "ea403acb6c49ff42ee18d50b906a01a9665a57633cea4ffc9688ff0153adcc1d"), looks := true }, kinds := [], alts := [], laidByText := true, laidKinds := [.data, .data, .data, .data, .sentinel, .sentinel, .pinned], laidTests := true, laidLooks := .later }
def IntegerRootsUptoCardSaid : Prop := Claim7.holds Tryz.pinned (.plain (OpenSpec.upto integerRootsSpec)) integerRootsUptoCard

/-- THE SECOND FORM's CARD OF 'wayfinderlaw01.IntegerSmalls'. -/
def integerSmallsUptoCard : Claim7 := { stood := { row := integerSmallsUptoRow, standIns := [], harness := (true, "ea403acb6c49ff42ee18d50b906a01a9665a57633cea4ffc9688ff0153adcc1d"), looks := true }, kinds := [], alts := [], laidByText := true, laidKinds := [.data, .data, .data, .data, .sentinel, .sentinel, .pinned], laidTests := true, laidLooks := .later }
def IntegerSmallsUptoCardSaid : Prop := Claim7.holds Tryz.pinned (.plain (OpenSpec.upto integerSmallsSpec)) integerSmallsUptoCard

/-- THE SECOND FORM's CARD OF 'wayfinderlaw01.IntegerForms'. -/
def integerFormsUptoCard : Claim7 := { stood := { row := integerFormsUptoRow, standIns := [], harness := (true, "ea403acb6c49ff42ee18d50b906a01a9665a57633cea4ffc9688ff0153adcc1d"), looks := true }, kinds := [], alts := [], laidByText := true, laidKinds := [.data, .data, .data, .data, .sentinel, .sentinel, .pinned], laidTests := true, laidLooks := .later }
def IntegerFormsUptoCardSaid : Prop := Claim7.holds Tryz.pinned (.plain (OpenSpec.upto integerFormsSpec)) integerFormsUptoCard

/-- THE SECOND FORM's CARD OF 'wayfinderlaw01.IntegerRing'. -/
def integerRingUptoCard : Claim7 := { stood := { row := integerRingUptoRow, standIns := [], harness := (true, "ea403acb6c49ff42ee18d50b906a01a9665a57633cea4ffc9688ff0153adcc1d"), looks := true }, kinds := [], alts := [], laidByText := true, laidKinds := [.data, .data, .data, .data, .sentinel, .sentinel, .pinned], laidTests := true, laidLooks := .later }
def IntegerRingUptoCardSaid : Prop := Claim7.holds Tryz.pinned (.plain (OpenSpec.upto integerRingSpec)) integerRingUptoCard

/-- THE SECOND FORM's CARD OF 'wayfinderlaw01.IntegerMatchesReference'. -/
def integerMatchesReferenceUptoCard : Claim7 := { stood := { row := integerMatchesReferenceUptoRow, standIns := [], harness := (true, "ea403acb6c49ff42ee18d50b906a01a9665a57633cea4ffc9688ff0153adcc1d"), looks := true }, kinds := [], alts := [], laidByText := true, laidKinds := [.data, .data, .data, .data, .sentinel, .sentinel, .pinned], laidTests := true, laidLooks := .later }
def IntegerMatchesReferenceUptoCardSaid : Prop := Claim7.holds Tryz.pinned (.plain (OpenSpec.upto integerMatchesReferenceSpec)) integerMatchesReferenceUptoCard
end Rows
end Go.Proofs.YthhghkcopfnbiaaGreatDoor
