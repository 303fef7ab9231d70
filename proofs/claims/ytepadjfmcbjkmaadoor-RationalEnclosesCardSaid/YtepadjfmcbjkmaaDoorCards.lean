/-
  DERIVED. GIVEN WITH THE SEED: THE CARDS: each row of YtepadjfmcbjkmaaDoorRows.lean that lists a variable, with what it lists TIED to the program's text (the seventh form; the later family's looks); each row that meets fmt, with fmt's text TOLD by the authors' own Lean function (tested against real Go, not proved from fmt's source: count such statements apart). THE CARD IS WHAT COUNTS. Prove the row's statement (the work); the ties are given (YtepadjfmcbjkmaaDoorTie.lean); close each card by the builder's one call (the guide's Derived/Test/ToyasCard.lean, 'card_holds'). Laid BY PROGRAM, IN A SANDBOX (cutbox-door.mjs). By AI agents, Wed Nov 11 2026. No macro, syntax, notation, axiom, sorry.
-/
import Derived.Test.YtepadjfmcbjkmaaDoorRows
import GoSem.ClaimSeven
namespace Go.Proofs.YtepadjfmcbjkmaaDoor
namespace Rows

/-- THE TIED CARD OF 'wayfinderlaw02.RationalNorms'. -/
def rationalNormsCard : Claim7 := { stood := { row := rationalNormsRow, standIns := [], harness := (true, "fdd08f6916b81537011fdad83fb49b4423bd4e8d1ace6facc481225008a9de09"), looks := false }, kinds := [], alts := [], laidByText := true, laidKinds := [.data, .data, .data], laidTests := true, laidLooks := .later }
def RationalNormsCardSaid : Prop := Claim7.holds Tryd.pinned (.plain (OpenSpec.ofChange rationalNormsSpec)) rationalNormsCard

/-- THE TIED CARD OF 'wayfinderlaw02.RationalSums'. -/
def rationalSumsCard : Claim7 := { stood := { row := rationalSumsRow, standIns := [], harness := (true, "fdd08f6916b81537011fdad83fb49b4423bd4e8d1ace6facc481225008a9de09"), looks := false }, kinds := [], alts := [], laidByText := true, laidKinds := [.data, .data, .data], laidTests := true, laidLooks := .later }
def RationalSumsCardSaid : Prop := Claim7.holds Tryd.pinned (.plain (OpenSpec.ofChange rationalSumsSpec)) rationalSumsCard

/-- THE TIED CARD OF 'wayfinderlaw02.RationalField'. -/
def rationalFieldCard : Claim7 := { stood := { row := rationalFieldRow, standIns := [], harness := (true, "fdd08f6916b81537011fdad83fb49b4423bd4e8d1ace6facc481225008a9de09"), looks := false }, kinds := [], alts := [], laidByText := true, laidKinds := [.data, .data, .data], laidTests := true, laidLooks := .later }
def RationalFieldCardSaid : Prop := Claim7.holds Tryd.pinned (.plain (OpenSpec.ofChange rationalFieldSpec)) rationalFieldCard

/-- THE TIED CARD OF 'wayfinderlaw02.RationalOrder'. -/
def rationalOrderCard : Claim7 := { stood := { row := rationalOrderRow, standIns := [], harness := (true, "fdd08f6916b81537011fdad83fb49b4423bd4e8d1ace6facc481225008a9de09"), looks := false }, kinds := [], alts := [], laidByText := true, laidKinds := [.data, .data, .data], laidTests := true, laidLooks := .later }
def RationalOrderCardSaid : Prop := Claim7.holds Tryd.pinned (.plain (OpenSpec.ofChange rationalOrderSpec)) rationalOrderCard

/-- THE TIED CARD OF 'wayfinderlaw02.RationalEncloses'. -/
def rationalEnclosesCard : Claim7 := { stood := { row := rationalEnclosesRow, standIns := [], harness := (true, "fdd08f6916b81537011fdad83fb49b4423bd4e8d1ace6facc481225008a9de09"), looks := false }, kinds := [], alts := [], laidByText := true, laidKinds := [.data, .data, .data], laidTests := true, laidLooks := .later }
def RationalEnclosesCardSaid : Prop := Claim7.holds Tryd.pinned (.plain (OpenSpec.ofChange rationalEnclosesSpec)) rationalEnclosesCard

/-- THE SECOND FORM's CARD OF 'wayfinderlaw02.RationalNorms'. -/
def rationalNormsUptoCard : Claim7 := { stood := { row := rationalNormsUptoRow, standIns := [], harness := (true, "fdd08f6916b81537011fdad83fb49b4423bd4e8d1ace6facc481225008a9de09"), looks := false }, kinds := [], alts := [], laidByText := true, laidKinds := [.data, .data, .data], laidTests := true, laidLooks := .later }
def RationalNormsUptoCardSaid : Prop := Claim7.holds Tryd.pinned (.plain (OpenSpec.upto rationalNormsSpec)) rationalNormsUptoCard

/-- THE SECOND FORM's CARD OF 'wayfinderlaw02.RationalSums'. -/
def rationalSumsUptoCard : Claim7 := { stood := { row := rationalSumsUptoRow, standIns := [], harness := (true, "fdd08f6916b81537011fdad83fb49b4423bd4e8d1ace6facc481225008a9de09"), looks := false }, kinds := [], alts := [], laidByText := true, laidKinds := [.data, .data, .data], laidTests := true, laidLooks := .later }
def RationalSumsUptoCardSaid : Prop := Claim7.holds Tryd.pinned (.plain (OpenSpec.upto rationalSumsSpec)) rationalSumsUptoCard

/-- THE SECOND FORM's CARD OF 'wayfinderlaw02.RationalField'. -/
def rationalFieldUptoCard : Claim7 := { stood := { row := rationalFieldUptoRow, standIns := [], harness := (true, "fdd08f6916b81537011fdad83fb49b4423bd4e8d1ace6facc481225008a9de09"), looks := false }, kinds := [], alts := [], laidByText := true, laidKinds := [.data, .data, .data], laidTests := true, laidLooks := .later }
def RationalFieldUptoCardSaid : Prop := Claim7.holds Tryd.pinned (.plain (OpenSpec.upto rationalFieldSpec)) rationalFieldUptoCard

/-- THE SECOND FORM's CARD OF 'wayfinderlaw02.RationalOrder'. -/
def rationalOrderUptoCard : Claim7 := { stood := { row := rationalOrderUptoRow, standIns := [], harness := (true, "fdd08f6916b81537011fdad83fb49b4423bd4e8d1ace6facc481225008a9de09"), looks := false }, kinds := [], alts := [], laidByText := true, laidKinds := [.data, .data, .data], laidTests := true, laidLooks := .later }
def RationalOrderUptoCardSaid : Prop := Claim7.holds Tryd.pinned (.plain (OpenSpec.upto rationalOrderSpec)) rationalOrderUptoCard

/-- THE SECOND FORM's CARD OF 'wayfinderlaw02.RationalEncloses'. -/
def rationalEnclosesUptoCard : Claim7 := { stood := { row := rationalEnclosesUptoRow, standIns := [], harness := (true, "fdd08f6916b81537011fdad83fb49b4423bd4e8d1ace6facc481225008a9de09"), looks := false }, kinds := [], alts := [], laidByText := true, laidKinds := [.data, .data, .data], laidTests := true, laidLooks := .later }
def RationalEnclosesUptoCardSaid : Prop := Claim7.holds Tryd.pinned (.plain (OpenSpec.upto rationalEnclosesSpec)) rationalEnclosesUptoCard
end Rows
end Go.Proofs.YtepadjfmcbjkmaaDoor
