/-
  DERIVED. GIVEN WITH THE SEED: THE CARDS: each row of YtepadjfmcbjkmaaGreatDoorRows.lean that lists a variable, with what it lists TIED to the program's text (the seventh form; the later family's looks); each row that meets fmt, with fmt's text TOLD by the authors' own Lean function (tested against real Go, not proved from fmt's source: count such statements apart). THE CARD IS WHAT COUNTS. Prove the row's statement (the work); the ties are given (YtepadjfmcbjkmaaGreatDoorTie.lean); close each card by the builder's one call (the guide's Derived/Test/ToyasCard.lean, 'card_holds'). Laid BY PROGRAM, IN A SANDBOX (cutbox-door.mjs). By AI agents, Wed Nov 11 2026. No macro, syntax, notation, axiom, sorry.
-/
import Derived.Test.YtepadjfmcbjkmaaGreatDoorRows
import GoSem.ClaimSeven
namespace Go.Proofs.YtepadjfmcbjkmaaGreatDoor
namespace Rows

/-- THE TIED CARD OF 'wayfinderlaw02.RationalQuotients'. -/
def rationalQuotientsCard : Claim7 := { stood := { row := rationalQuotientsRow, standIns := [], harness := (true, "41198c526c825040f0c70bbf11e70aa17ec847f1a4b54301ba02b6a2e59bf62f"), looks := true }, kinds := [], alts := [], laidByText := true, laidKinds := [.data, .data, .data], laidTests := true, laidLooks := .later }
def RationalQuotientsCardSaid : Prop := Claim7.holds Tryz.pinned (.plain (OpenSpec.ofChange rationalQuotientsSpec)) rationalQuotientsCard

/-- THE TIED CARD OF 'wayfinderlaw02.RationalIntervals'. -/
def rationalIntervalsCard : Claim7 := { stood := { row := rationalIntervalsRow, standIns := [], harness := (true, "41198c526c825040f0c70bbf11e70aa17ec847f1a4b54301ba02b6a2e59bf62f"), looks := true }, kinds := [], alts := [], laidByText := true, laidKinds := [.data, .data, .data], laidTests := true, laidLooks := .later }
def RationalIntervalsCardSaid : Prop := Claim7.holds Tryz.pinned (.plain (OpenSpec.ofChange rationalIntervalsSpec)) rationalIntervalsCard

/-- THE TIED CARD OF 'wayfinderlaw02.RationalSimplest'. -/
def rationalSimplestCard : Claim7 := { stood := { row := rationalSimplestRow, standIns := [], harness := (true, "41198c526c825040f0c70bbf11e70aa17ec847f1a4b54301ba02b6a2e59bf62f"), looks := true }, kinds := [], alts := [], laidByText := true, laidKinds := [.data, .data, .data], laidTests := true, laidLooks := .later }
def RationalSimplestCardSaid : Prop := Claim7.holds Tryz.pinned (.plain (OpenSpec.ofChange rationalSimplestSpec)) rationalSimplestCard

/-- THE TIED CARD OF 'wayfinderlaw02.RationalParses'. -/
def rationalParsesCard : Claim7 := { stood := { row := rationalParsesRow, standIns := [], harness := (true, "41198c526c825040f0c70bbf11e70aa17ec847f1a4b54301ba02b6a2e59bf62f"), looks := true }, kinds := [], alts := [], laidByText := true, laidKinds := [.data, .data, .data, .data, .sentinel, .sentinel, .pinned], laidTests := true, laidLooks := .later }
def RationalParsesCardSaid : Prop := Claim7.holds Tryz.pinned (.plain (OpenSpec.ofChange rationalParsesSpec)) rationalParsesCard

/-- THE TIED CARD OF 'wayfinderlaw02.RationalTexts'. -/
def rationalTextsCard : Claim7 := { stood := { row := rationalTextsRow, standIns := [], harness := (true, "41198c526c825040f0c70bbf11e70aa17ec847f1a4b54301ba02b6a2e59bf62f"), looks := true }, kinds := [], alts := [], laidByText := true, laidKinds := [.data, .data, .data, .data, .sentinel, .sentinel, .pinned], laidTests := true, laidLooks := .later }
def RationalTextsCardSaid : Prop := Claim7.holds Tryz.pinned (.plain (OpenSpec.ofChange rationalTextsSpec)) rationalTextsCard

/-- THE SECOND FORM's CARD OF 'wayfinderlaw02.RationalQuotients'. -/
def rationalQuotientsUptoCard : Claim7 := { stood := { row := rationalQuotientsUptoRow, standIns := [], harness := (true, "41198c526c825040f0c70bbf11e70aa17ec847f1a4b54301ba02b6a2e59bf62f"), looks := true }, kinds := [], alts := [], laidByText := true, laidKinds := [.data, .data, .data], laidTests := true, laidLooks := .later }
def RationalQuotientsUptoCardSaid : Prop := Claim7.holds Tryz.pinned (.plain (OpenSpec.upto rationalQuotientsSpec)) rationalQuotientsUptoCard

/-- THE SECOND FORM's CARD OF 'wayfinderlaw02.RationalIntervals'. -/
def rationalIntervalsUptoCard : Claim7 := { stood := { row := rationalIntervalsUptoRow, standIns := [], harness := (true, "41198c526c825040f0c70bbf11e70aa17ec847f1a4b54301ba02b6a2e59bf62f"), looks := true }, kinds := [], alts := [], laidByText := true, laidKinds := [.data, .data, .data], laidTests := true, laidLooks := .later }
def RationalIntervalsUptoCardSaid : Prop := Claim7.holds Tryz.pinned (.plain (OpenSpec.upto rationalIntervalsSpec)) rationalIntervalsUptoCard

/-- THE SECOND FORM's CARD OF 'wayfinderlaw02.RationalSimplest'. -/
def rationalSimplestUptoCard : Claim7 := { stood := { row := rationalSimplestUptoRow, standIns := [], harness := (true, "41198c526c825040f0c70bbf11e70aa17ec847f1a4b54301ba02b6a2e59bf62f"), looks := true }, kinds := [], alts := [], laidByText := true, laidKinds := [.data, .data, .data], laidTests := true, laidLooks := .later }
def RationalSimplestUptoCardSaid : Prop := Claim7.holds Tryz.pinned (.plain (OpenSpec.upto rationalSimplestSpec)) rationalSimplestUptoCard

/-- THE SECOND FORM's CARD OF 'wayfinderlaw02.RationalParses'. -/
def rationalParsesUptoCard : Claim7 := { stood := { row := rationalParsesUptoRow, standIns := [], harness := (true, "41198c526c825040f0c70bbf11e70aa17ec847f1a4b54301ba02b6a2e59bf62f"), looks := true }, kinds := [], alts := [], laidByText := true, laidKinds := [.data, .data, .data, .data, .sentinel, .sentinel, .pinned], laidTests := true, laidLooks := .later }
def RationalParsesUptoCardSaid : Prop := Claim7.holds Tryz.pinned (.plain (OpenSpec.upto rationalParsesSpec)) rationalParsesUptoCard

/-- THE SECOND FORM's CARD OF 'wayfinderlaw02.RationalTexts'. -/
def rationalTextsUptoCard : Claim7 := { stood := { row := rationalTextsUptoRow, standIns := [], harness := (true, "41198c526c825040f0c70bbf11e70aa17ec847f1a4b54301ba02b6a2e59bf62f"), looks := true }, kinds := [], alts := [], laidByText := true, laidKinds := [.data, .data, .data, .data, .sentinel, .sentinel, .pinned], laidTests := true, laidLooks := .later }
def RationalTextsUptoCardSaid : Prop := Claim7.holds Tryz.pinned (.plain (OpenSpec.upto rationalTextsSpec)) rationalTextsUptoCard
end Rows
end Go.Proofs.YtepadjfmcbjkmaaGreatDoor
