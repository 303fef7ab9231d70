/-
  DERIVED. GIVEN WITH THE SEED: THE CARDS: each row of YtgmiencjoghnnaaDoorRows.lean that lists a variable, with what it lists TIED to the program's text (the seventh form; the later family's looks); each row that meets fmt, with fmt's text TOLD by the authors' own Lean function (tested against real Go, not proved from fmt's source: count such statements apart). THE CARD IS WHAT COUNTS. Prove the row's statement (the work); the ties are given (YtgmiencjoghnnaaDoorTie.lean); close each card by the builder's one call (the guide's Derived/Test/ToyasCard.lean, 'card_holds'). Laid BY PROGRAM, IN A SANDBOX (cutbox-door.mjs). By AI agents, Wed Nov 11 2026. No macro, syntax, notation, axiom, sorry.
-/
import Derived.Test.YtgmiencjoghnnaaDoorRows
import GoSem.ClaimSeven
namespace Go.Proofs.YtgmiencjoghnnaaDoor
namespace Rows

/-- THE TIED CARD OF 'wayfinderlaw26.OrderingDegrees'. -/
def orderingDegreesCard : Claim7 := { stood := { row := orderingDegreesRow, standIns := [], harness := (true, "1433a04ba2ceb8f50db0c3212851e3ecc2e0ca415c42d5a45ce9e0a52d80021a"), looks := false }, kinds := [], alts := [], laidByText := true, laidKinds := [.data], laidTests := true, laidLooks := .later }
def OrderingDegreesCardSaid : Prop := Claim7.holds Tryd.pinned (.plain (OpenSpec.ofChange orderingDegreesSpec)) orderingDegreesCard

/-- THE TIED CARD OF 'wayfinderlaw26.OrderingFills'. -/
def orderingFillsCard : Claim7 := { stood := { row := orderingFillsRow, standIns := [], harness := (true, "1433a04ba2ceb8f50db0c3212851e3ecc2e0ca415c42d5a45ce9e0a52d80021a"), looks := false }, kinds := [], alts := [], laidByText := true, laidKinds := [.data], laidTests := true, laidLooks := .later }
def OrderingFillsCardSaid : Prop := Claim7.holds Tryd.pinned (.plain (OpenSpec.ofChange orderingFillsSpec)) orderingFillsCard

/-- THE TIED CARD OF 'wayfinderlaw26.OrderingReaches'. -/
def orderingReachesCard : Claim7 := { stood := { row := orderingReachesRow, standIns := [], harness := (true, "1433a04ba2ceb8f50db0c3212851e3ecc2e0ca415c42d5a45ce9e0a52d80021a"), looks := false }, kinds := [], alts := [], laidByText := true, laidKinds := [.data], laidTests := true, laidLooks := .later }
def OrderingReachesCardSaid : Prop := Claim7.holds Tryd.pinned (.plain (OpenSpec.ofChange orderingReachesSpec)) orderingReachesCard

/-- THE TIED CARD OF 'wayfinderlaw26.OrderingPaths'. -/
def orderingPathsCard : Claim7 := { stood := { row := orderingPathsRow, standIns := [], harness := (true, "1433a04ba2ceb8f50db0c3212851e3ecc2e0ca415c42d5a45ce9e0a52d80021a"), looks := false }, kinds := [], alts := [], laidByText := true, laidKinds := [.data], laidTests := true, laidLooks := .later }
def OrderingPathsCardSaid : Prop := Claim7.holds Tryd.pinned (.plain (OpenSpec.ofChange orderingPathsSpec)) orderingPathsCard

/-- THE TIED CARD OF 'wayfinderlaw26.OrderingAgain'. -/
def orderingAgainCard : Claim7 := { stood := { row := orderingAgainRow, standIns := [], harness := (true, "1433a04ba2ceb8f50db0c3212851e3ecc2e0ca415c42d5a45ce9e0a52d80021a"), looks := false }, kinds := [], alts := [], laidByText := true, laidKinds := [.data], laidTests := true, laidLooks := .later }
def OrderingAgainCardSaid : Prop := Claim7.holds Tryd.pinned (.plain (OpenSpec.ofChange orderingAgainSpec)) orderingAgainCard

/-- THE TIED CARD OF 'wayfinderlaw26.OrderingTrees'. -/
def orderingTreesCard : Claim7 := { stood := { row := orderingTreesRow, standIns := [], harness := (true, "1433a04ba2ceb8f50db0c3212851e3ecc2e0ca415c42d5a45ce9e0a52d80021a"), looks := false }, kinds := [], alts := [], laidByText := true, laidKinds := [.data], laidTests := true, laidLooks := .later }
def OrderingTreesCardSaid : Prop := Claim7.holds Tryd.pinned (.plain (OpenSpec.ofChange orderingTreesSpec)) orderingTreesCard

/-- THE TIED CARD OF 'wayfinderlaw26.OrderingLater'. -/
def orderingLaterCard : Claim7 := { stood := { row := orderingLaterRow, standIns := [], harness := (true, "1433a04ba2ceb8f50db0c3212851e3ecc2e0ca415c42d5a45ce9e0a52d80021a"), looks := false }, kinds := [], alts := [], laidByText := true, laidKinds := [.data], laidTests := true, laidLooks := .later }
def OrderingLaterCardSaid : Prop := Claim7.holds Tryd.pinned (.plain (OpenSpec.ofChange orderingLaterSpec)) orderingLaterCard

/-- THE TIED CARD OF 'wayfinderlaw26.OrderingValid'. -/
def orderingValidCard : Claim7 := { stood := { row := orderingValidRow, standIns := [], harness := (true, "1433a04ba2ceb8f50db0c3212851e3ecc2e0ca415c42d5a45ce9e0a52d80021a"), looks := false }, kinds := [], alts := [], laidByText := true, laidKinds := [.data], laidTests := true, laidLooks := .later }
def OrderingValidCardSaid : Prop := Claim7.holds Tryd.pinned (.plain (OpenSpec.ofChange orderingValidSpec)) orderingValidCard

/-- THE TIED CARD OF 'wayfinderlaw26.OrderingPerfect'. -/
def orderingPerfectCard : Claim7 := { stood := { row := orderingPerfectRow, standIns := [], harness := (true, "1433a04ba2ceb8f50db0c3212851e3ecc2e0ca415c42d5a45ce9e0a52d80021a"), looks := false }, kinds := [], alts := [], laidByText := true, laidKinds := [.data], laidTests := true, laidLooks := .later }
def OrderingPerfectCardSaid : Prop := Claim7.holds Tryd.pinned (.plain (OpenSpec.ofChange orderingPerfectSpec)) orderingPerfectCard

/-- THE SECOND FORM's CARD OF 'wayfinderlaw26.OrderingDegrees'. -/
def orderingDegreesUptoCard : Claim7 := { stood := { row := orderingDegreesUptoRow, standIns := [], harness := (true, "1433a04ba2ceb8f50db0c3212851e3ecc2e0ca415c42d5a45ce9e0a52d80021a"), looks := false }, kinds := [], alts := [], laidByText := true, laidKinds := [.data], laidTests := true, laidLooks := .later }
def OrderingDegreesUptoCardSaid : Prop := Claim7.holds Tryd.pinned (.plain (OpenSpec.upto orderingDegreesSpec)) orderingDegreesUptoCard

/-- THE SECOND FORM's CARD OF 'wayfinderlaw26.OrderingFills'. -/
def orderingFillsUptoCard : Claim7 := { stood := { row := orderingFillsUptoRow, standIns := [], harness := (true, "1433a04ba2ceb8f50db0c3212851e3ecc2e0ca415c42d5a45ce9e0a52d80021a"), looks := false }, kinds := [], alts := [], laidByText := true, laidKinds := [.data], laidTests := true, laidLooks := .later }
def OrderingFillsUptoCardSaid : Prop := Claim7.holds Tryd.pinned (.plain (OpenSpec.upto orderingFillsSpec)) orderingFillsUptoCard

/-- THE SECOND FORM's CARD OF 'wayfinderlaw26.OrderingReaches'. -/
def orderingReachesUptoCard : Claim7 := { stood := { row := orderingReachesUptoRow, standIns := [], harness := (true, "1433a04ba2ceb8f50db0c3212851e3ecc2e0ca415c42d5a45ce9e0a52d80021a"), looks := false }, kinds := [], alts := [], laidByText := true, laidKinds := [.data], laidTests := true, laidLooks := .later }
def OrderingReachesUptoCardSaid : Prop := Claim7.holds Tryd.pinned (.plain (OpenSpec.upto orderingReachesSpec)) orderingReachesUptoCard

/-- THE SECOND FORM's CARD OF 'wayfinderlaw26.OrderingPaths'. -/
def orderingPathsUptoCard : Claim7 := { stood := { row := orderingPathsUptoRow, standIns := [], harness := (true, "1433a04ba2ceb8f50db0c3212851e3ecc2e0ca415c42d5a45ce9e0a52d80021a"), looks := false }, kinds := [], alts := [], laidByText := true, laidKinds := [.data], laidTests := true, laidLooks := .later }
def OrderingPathsUptoCardSaid : Prop := Claim7.holds Tryd.pinned (.plain (OpenSpec.upto orderingPathsSpec)) orderingPathsUptoCard

/-- THE SECOND FORM's CARD OF 'wayfinderlaw26.OrderingAgain'. -/
def orderingAgainUptoCard : Claim7 := { stood := { row := orderingAgainUptoRow, standIns := [], harness := (true, "1433a04ba2ceb8f50db0c3212851e3ecc2e0ca415c42d5a45ce9e0a52d80021a"), looks := false }, kinds := [], alts := [], laidByText := true, laidKinds := [.data], laidTests := true, laidLooks := .later }
def OrderingAgainUptoCardSaid : Prop := Claim7.holds Tryd.pinned (.plain (OpenSpec.upto orderingAgainSpec)) orderingAgainUptoCard

/-- THE SECOND FORM's CARD OF 'wayfinderlaw26.OrderingTrees'. -/
def orderingTreesUptoCard : Claim7 := { stood := { row := orderingTreesUptoRow, standIns := [], harness := (true, "1433a04ba2ceb8f50db0c3212851e3ecc2e0ca415c42d5a45ce9e0a52d80021a"), looks := false }, kinds := [], alts := [], laidByText := true, laidKinds := [.data], laidTests := true, laidLooks := .later }
def OrderingTreesUptoCardSaid : Prop := Claim7.holds Tryd.pinned (.plain (OpenSpec.upto orderingTreesSpec)) orderingTreesUptoCard

/-- THE SECOND FORM's CARD OF 'wayfinderlaw26.OrderingLater'. -/
def orderingLaterUptoCard : Claim7 := { stood := { row := orderingLaterUptoRow, standIns := [], harness := (true, "1433a04ba2ceb8f50db0c3212851e3ecc2e0ca415c42d5a45ce9e0a52d80021a"), looks := false }, kinds := [], alts := [], laidByText := true, laidKinds := [.data], laidTests := true, laidLooks := .later }
def OrderingLaterUptoCardSaid : Prop := Claim7.holds Tryd.pinned (.plain (OpenSpec.upto orderingLaterSpec)) orderingLaterUptoCard

/-- THE SECOND FORM's CARD OF 'wayfinderlaw26.OrderingValid'. -/
def orderingValidUptoCard : Claim7 := { stood := { row := orderingValidUptoRow, standIns := [], harness := (true, "1433a04ba2ceb8f50db0c3212851e3ecc2e0ca415c42d5a45ce9e0a52d80021a"), looks := false }, kinds := [], alts := [], laidByText := true, laidKinds := [.data], laidTests := true, laidLooks := .later }
def OrderingValidUptoCardSaid : Prop := Claim7.holds Tryd.pinned (.plain (OpenSpec.upto orderingValidSpec)) orderingValidUptoCard

/-- THE SECOND FORM's CARD OF 'wayfinderlaw26.OrderingPerfect'. -/
def orderingPerfectUptoCard : Claim7 := { stood := { row := orderingPerfectUptoRow, standIns := [], harness := (true, "1433a04ba2ceb8f50db0c3212851e3ecc2e0ca415c42d5a45ce9e0a52d80021a"), looks := false }, kinds := [], alts := [], laidByText := true, laidKinds := [.data], laidTests := true, laidLooks := .later }
def OrderingPerfectUptoCardSaid : Prop := Claim7.holds Tryd.pinned (.plain (OpenSpec.upto orderingPerfectSpec)) orderingPerfectUptoCard
end Rows
end Go.Proofs.YtgmiencjoghnnaaDoor
