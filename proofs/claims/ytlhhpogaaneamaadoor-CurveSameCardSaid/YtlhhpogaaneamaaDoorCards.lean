/-
  DERIVED. GIVEN WITH THE SEED: THE CARDS: each row of YtlhhpogaaneamaaDoorRows.lean that lists a variable, with what it lists TIED to the program's text (the seventh form; the later family's looks); each row that meets fmt, with fmt's text TOLD by the authors' own Lean function (tested against real Go, not proved from fmt's source: count such statements apart). THE CARD IS WHAT COUNTS. Prove the row's statement (the work); the ties are given (YtlhhpogaaneamaaDoorTie.lean); close each card by the builder's one call (the guide's Derived/Test/ToyasCard.lean, 'card_holds'). Laid BY PROGRAM, IN A SANDBOX (cutbox-door.mjs). By AI agents, Wed Nov 11 2026. No macro, syntax, notation, axiom, sorry.
-/
import Derived.Test.YtlhhpogaaneamaaDoorRows
import GoSem.ClaimSeven
namespace Go.Proofs.YtlhhpogaaneamaaDoor
namespace Rows

/-- THE TIED CARD OF 'waterhourlaw01.CurvePlaces'. -/
def curvePlacesCard : Claim7 := { stood := { row := curvePlacesRow, standIns := [], harness := (true, "76fa1c69d7f5c33adb8b59679630511c53b9fa1b41b5e595b97b4acdba6f7c62"), looks := false }, kinds := [], alts := [], laidByText := true, laidKinds := [.data, .data, .data], laidTests := true, laidLooks := .later }
def CurvePlacesCardSaid : Prop := Claim7.holds Tryd.pinned (.plain (OpenSpec.ofChange curvePlacesSpec)) curvePlacesCard

/-- THE TIED CARD OF 'waterhourlaw01.CurveHeights'. -/
def curveHeightsCard : Claim7 := { stood := { row := curveHeightsRow, standIns := [], harness := (true, "76fa1c69d7f5c33adb8b59679630511c53b9fa1b41b5e595b97b4acdba6f7c62"), looks := false }, kinds := [], alts := [], laidByText := true, laidKinds := [.data, .data, .data], laidTests := true, laidLooks := .later }
def CurveHeightsCardSaid : Prop := Claim7.holds Tryd.pinned (.plain (OpenSpec.ofChange curveHeightsSpec)) curveHeightsCard

/-- THE TIED CARD OF 'waterhourlaw01.CurveCompares'. -/
def curveComparesCard : Claim7 := { stood := { row := curveComparesRow, standIns := [], harness := (true, "76fa1c69d7f5c33adb8b59679630511c53b9fa1b41b5e595b97b4acdba6f7c62"), looks := false }, kinds := [], alts := [], laidByText := true, laidKinds := [.data, .data, .data], laidTests := true, laidLooks := .later }
def CurveComparesCardSaid : Prop := Claim7.holds Tryd.pinned (.plain (OpenSpec.ofChange curveComparesSpec)) curveComparesCard

/-- THE TIED CARD OF 'waterhourlaw01.CurveGalois'. -/
def curveGaloisCard : Claim7 := { stood := { row := curveGaloisRow, standIns := [], harness := (true, "76fa1c69d7f5c33adb8b59679630511c53b9fa1b41b5e595b97b4acdba6f7c62"), looks := false }, kinds := [], alts := [], laidByText := true, laidKinds := [.data, .data, .data], laidTests := true, laidLooks := .later }
def CurveGaloisCardSaid : Prop := Claim7.holds Tryd.pinned (.plain (OpenSpec.ofChange curveGaloisSpec)) curveGaloisCard

/-- THE TIED CARD OF 'waterhourlaw01.CurveSame'. -/
def curveSameCard : Claim7 := { stood := { row := curveSameRow, standIns := [], harness := (true, "76fa1c69d7f5c33adb8b59679630511c53b9fa1b41b5e595b97b4acdba6f7c62"), looks := false }, kinds := [], alts := [], laidByText := true, laidKinds := [.data, .data, .data], laidTests := true, laidLooks := .later }
def CurveSameCardSaid : Prop := Claim7.holds Tryd.pinned (.plain (OpenSpec.ofChange curveSameSpec)) curveSameCard

/-- THE TIED CARD OF 'waterhourlaw01.CurveTurned'. -/
def curveTurnedCard : Claim7 := { stood := { row := curveTurnedRow, standIns := [], harness := (true, "76fa1c69d7f5c33adb8b59679630511c53b9fa1b41b5e595b97b4acdba6f7c62"), looks := false }, kinds := [], alts := [], laidByText := true, laidKinds := [.data, .data, .data], laidTests := true, laidLooks := .later }
def CurveTurnedCardSaid : Prop := Claim7.holds Tryd.pinned (.plain (OpenSpec.ofChange curveTurnedSpec)) curveTurnedCard

/-- THE TIED CARD OF 'waterhourlaw01.CurveRises'. -/
def curveRisesCard : Claim7 := { stood := { row := curveRisesRow, standIns := [], harness := (true, "76fa1c69d7f5c33adb8b59679630511c53b9fa1b41b5e595b97b4acdba6f7c62"), looks := false }, kinds := [], alts := [], laidByText := true, laidKinds := [.data, .data, .data], laidTests := true, laidLooks := .later }
def CurveRisesCardSaid : Prop := Claim7.holds Tryd.pinned (.plain (OpenSpec.ofChange curveRisesSpec)) curveRisesCard

/-- THE TIED CARD OF 'waterhourlaw01.CurveJoins'. -/
def curveJoinsCard : Claim7 := { stood := { row := curveJoinsRow, standIns := [], harness := (true, "76fa1c69d7f5c33adb8b59679630511c53b9fa1b41b5e595b97b4acdba6f7c62"), looks := false }, kinds := [], alts := [], laidByText := true, laidKinds := [.data, .data, .data], laidTests := true, laidLooks := .later }
def CurveJoinsCardSaid : Prop := Claim7.holds Tryd.pinned (.plain (OpenSpec.ofChange curveJoinsSpec)) curveJoinsCard

/-- THE TIED CARD OF 'waterhourlaw01.CurveBent'. -/
def curveBentCard : Claim7 := { stood := { row := curveBentRow, standIns := [], harness := (true, "76fa1c69d7f5c33adb8b59679630511c53b9fa1b41b5e595b97b4acdba6f7c62"), looks := false }, kinds := [], alts := [], laidByText := true, laidKinds := [.data, .data, .data], laidTests := true, laidLooks := .later }
def CurveBentCardSaid : Prop := Claim7.holds Tryd.pinned (.plain (OpenSpec.ofChange curveBentSpec)) curveBentCard

/-- THE TIED CARD OF 'waterhourlaw01.CurveBelow'. -/
def curveBelowCard : Claim7 := { stood := { row := curveBelowRow, standIns := [], harness := (true, "76fa1c69d7f5c33adb8b59679630511c53b9fa1b41b5e595b97b4acdba6f7c62"), looks := false }, kinds := [], alts := [], laidByText := true, laidKinds := [.data, .data, .data], laidTests := true, laidLooks := .later }
def CurveBelowCardSaid : Prop := Claim7.holds Tryd.pinned (.plain (OpenSpec.ofChange curveBelowSpec)) curveBelowCard

/-- THE TIED CARD OF 'waterhourlaw01.CurveThrough'. -/
def curveThroughCard : Claim7 := { stood := { row := curveThroughRow, standIns := [], harness := (true, "76fa1c69d7f5c33adb8b59679630511c53b9fa1b41b5e595b97b4acdba6f7c62"), looks := false }, kinds := [], alts := [], laidByText := true, laidKinds := [.data, .data, .data], laidTests := true, laidLooks := .later }
def CurveThroughCardSaid : Prop := Claim7.holds Tryd.pinned (.plain (OpenSpec.ofChange curveThroughSpec)) curveThroughCard

/-- THE TIED CARD OF 'waterhourlaw01.CurveMeets'. -/
def curveMeetsCard : Claim7 := { stood := { row := curveMeetsRow, standIns := [], harness := (true, "76fa1c69d7f5c33adb8b59679630511c53b9fa1b41b5e595b97b4acdba6f7c62"), looks := false }, kinds := [], alts := [], laidByText := true, laidKinds := [.data, .data, .data], laidTests := true, laidLooks := .later }
def CurveMeetsCardSaid : Prop := Claim7.holds Tryd.pinned (.plain (OpenSpec.ofChange curveMeetsSpec)) curveMeetsCard

/-- THE TIED CARD OF 'waterhourlaw01.CurveEarlier'. -/
def curveEarlierCard : Claim7 := { stood := { row := curveEarlierRow, standIns := [], harness := (true, "76fa1c69d7f5c33adb8b59679630511c53b9fa1b41b5e595b97b4acdba6f7c62"), looks := false }, kinds := [], alts := [], laidByText := true, laidKinds := [.data, .data, .data], laidTests := true, laidLooks := .later }
def CurveEarlierCardSaid : Prop := Claim7.holds Tryd.pinned (.plain (OpenSpec.ofChange curveEarlierSpec)) curveEarlierCard

/-- THE TIED CARD OF 'waterhourlaw01.CurveRates'. -/
def curveRatesCard : Claim7 := { stood := { row := curveRatesRow, standIns := [], harness := (true, "76fa1c69d7f5c33adb8b59679630511c53b9fa1b41b5e595b97b4acdba6f7c62"), looks := false }, kinds := [], alts := [], laidByText := true, laidKinds := [.data, .data, .data], laidTests := true, laidLooks := .later }
def CurveRatesCardSaid : Prop := Claim7.holds Tryd.pinned (.plain (OpenSpec.ofChange curveRatesSpec)) curveRatesCard

/-- THE TIED CARD OF 'waterhourlaw01.CurveOthers'. -/
def curveOthersCard : Claim7 := { stood := { row := curveOthersRow, standIns := [], harness := (true, "76fa1c69d7f5c33adb8b59679630511c53b9fa1b41b5e595b97b4acdba6f7c62"), looks := false }, kinds := [], alts := [], laidByText := true, laidKinds := [.data, .data, .data], laidTests := true, laidLooks := .later }
def CurveOthersCardSaid : Prop := Claim7.holds Tryd.pinned (.plain (OpenSpec.ofChange curveOthersSpec)) curveOthersCard

/-- THE SECOND FORM's CARD OF 'waterhourlaw01.CurvePlaces'. -/
def curvePlacesUptoCard : Claim7 := { stood := { row := curvePlacesUptoRow, standIns := [], harness := (true, "76fa1c69d7f5c33adb8b59679630511c53b9fa1b41b5e595b97b4acdba6f7c62"), looks := false }, kinds := [], alts := [], laidByText := true, laidKinds := [.data, .data, .data], laidTests := true, laidLooks := .later }
def CurvePlacesUptoCardSaid : Prop := Claim7.holds Tryd.pinned (.plain (OpenSpec.upto curvePlacesSpec)) curvePlacesUptoCard

/-- THE SECOND FORM's CARD OF 'waterhourlaw01.CurveHeights'. -/
def curveHeightsUptoCard : Claim7 := { stood := { row := curveHeightsUptoRow, standIns := [], harness := (true, "76fa1c69d7f5c33adb8b59679630511c53b9fa1b41b5e595b97b4acdba6f7c62"), looks := false }, kinds := [], alts := [], laidByText := true, laidKinds := [.data, .data, .data], laidTests := true, laidLooks := .later }
def CurveHeightsUptoCardSaid : Prop := Claim7.holds Tryd.pinned (.plain (OpenSpec.upto curveHeightsSpec)) curveHeightsUptoCard

/-- THE SECOND FORM's CARD OF 'waterhourlaw01.CurveCompares'. -/
def curveComparesUptoCard : Claim7 := { stood := { row := curveComparesUptoRow, standIns := [], harness := (true, "76fa1c69d7f5c33adb8b59679630511c53b9fa1b41b5e595b97b4acdba6f7c62"), looks := false }, kinds := [], alts := [], laidByText := true, laidKinds := [.data, .data, .data], laidTests := true, laidLooks := .later }
def CurveComparesUptoCardSaid : Prop := Claim7.holds Tryd.pinned (.plain (OpenSpec.upto curveComparesSpec)) curveComparesUptoCard

/-- THE SECOND FORM's CARD OF 'waterhourlaw01.CurveGalois'. -/
def curveGaloisUptoCard : Claim7 := { stood := { row := curveGaloisUptoRow, standIns := [], harness := (true, "76fa1c69d7f5c33adb8b59679630511c53b9fa1b41b5e595b97b4acdba6f7c62"), looks := false }, kinds := [], alts := [], laidByText := true, laidKinds := [.data, .data, .data], laidTests := true, laidLooks := .later }
def CurveGaloisUptoCardSaid : Prop := Claim7.holds Tryd.pinned (.plain (OpenSpec.upto curveGaloisSpec)) curveGaloisUptoCard

/-- THE SECOND FORM's CARD OF 'waterhourlaw01.CurveSame'. -/
def curveSameUptoCard : Claim7 := { stood := { row := curveSameUptoRow, standIns := [], harness := (true, "76fa1c69d7f5c33adb8b59679630511c53b9fa1b41b5e595b97b4acdba6f7c62"), looks := false }, kinds := [], alts := [], laidByText := true, laidKinds := [.data, .data, .data], laidTests := true, laidLooks := .later }
def CurveSameUptoCardSaid : Prop := Claim7.holds Tryd.pinned (.plain (OpenSpec.upto curveSameSpec)) curveSameUptoCard

/-- THE SECOND FORM's CARD OF 'waterhourlaw01.CurveTurned'. -/
def curveTurnedUptoCard : Claim7 := { stood := { row := curveTurnedUptoRow, standIns := [], harness := (true, "76fa1c69d7f5c33adb8b59679630511c53b9fa1b41b5e595b97b4acdba6f7c62"), looks := false }, kinds := [], alts := [], laidByText := true, laidKinds := [.data, .data, .data], laidTests := true, laidLooks := .later }
def CurveTurnedUptoCardSaid : Prop := Claim7.holds Tryd.pinned (.plain (OpenSpec.upto curveTurnedSpec)) curveTurnedUptoCard

/-- THE SECOND FORM's CARD OF 'waterhourlaw01.CurveRises'. -/
def curveRisesUptoCard : Claim7 := { stood := { row := curveRisesUptoRow, standIns := [], harness := (true, "76fa1c69d7f5c33adb8b59679630511c53b9fa1b41b5e595b97b4acdba6f7c62"), looks := false }, kinds := [], alts := [], laidByText := true, laidKinds := [.data, .data, .data], laidTests := true, laidLooks := .later }
def CurveRisesUptoCardSaid : Prop := Claim7.holds Tryd.pinned (.plain (OpenSpec.upto curveRisesSpec)) curveRisesUptoCard

/-- THE SECOND FORM's CARD OF 'waterhourlaw01.CurveJoins'. -/
def curveJoinsUptoCard : Claim7 := { stood := { row := curveJoinsUptoRow, standIns := [], harness := (true, "76fa1c69d7f5c33adb8b59679630511c53b9fa1b41b5e595b97b4acdba6f7c62"), looks := false }, kinds := [], alts := [], laidByText := true, laidKinds := [.data, .data, .data], laidTests := true, laidLooks := .later }
def CurveJoinsUptoCardSaid : Prop := Claim7.holds Tryd.pinned (.plain (OpenSpec.upto curveJoinsSpec)) curveJoinsUptoCard

/-- THE SECOND FORM's CARD OF 'waterhourlaw01.CurveBent'. -/
def curveBentUptoCard : Claim7 := { stood := { row := curveBentUptoRow, standIns := [], harness := (true, "76fa1c69d7f5c33adb8b59679630511c53b9fa1b41b5e595b97b4acdba6f7c62"), looks := false }, kinds := [], alts := [], laidByText := true, laidKinds := [.data, .data, .data], laidTests := true, laidLooks := .later }
def CurveBentUptoCardSaid : Prop := Claim7.holds Tryd.pinned (.plain (OpenSpec.upto curveBentSpec)) curveBentUptoCard

/-- THE SECOND FORM's CARD OF 'waterhourlaw01.CurveBelow'. -/
def curveBelowUptoCard : Claim7 := { stood := { row := curveBelowUptoRow, standIns := [], harness := (true, "76fa1c69d7f5c33adb8b59679630511c53b9fa1b41b5e595b97b4acdba6f7c62"), looks := false }, kinds := [], alts := [], laidByText := true, laidKinds := [.data, .data, .data], laidTests := true, laidLooks := .later }
def CurveBelowUptoCardSaid : Prop := Claim7.holds Tryd.pinned (.plain (OpenSpec.upto curveBelowSpec)) curveBelowUptoCard

/-- THE SECOND FORM's CARD OF 'waterhourlaw01.CurveThrough'. -/
def curveThroughUptoCard : Claim7 := { stood := { row := curveThroughUptoRow, standIns := [], harness := (true, "76fa1c69d7f5c33adb8b59679630511c53b9fa1b41b5e595b97b4acdba6f7c62"), looks := false }, kinds := [], alts := [], laidByText := true, laidKinds := [.data, .data, .data], laidTests := true, laidLooks := .later }
def CurveThroughUptoCardSaid : Prop := Claim7.holds Tryd.pinned (.plain (OpenSpec.upto curveThroughSpec)) curveThroughUptoCard

/-- THE SECOND FORM's CARD OF 'waterhourlaw01.CurveMeets'. -/
def curveMeetsUptoCard : Claim7 := { stood := { row := curveMeetsUptoRow, standIns := [], harness := (true, "76fa1c69d7f5c33adb8b59679630511c53b9fa1b41b5e595b97b4acdba6f7c62"), looks := false }, kinds := [], alts := [], laidByText := true, laidKinds := [.data, .data, .data], laidTests := true, laidLooks := .later }
def CurveMeetsUptoCardSaid : Prop := Claim7.holds Tryd.pinned (.plain (OpenSpec.upto curveMeetsSpec)) curveMeetsUptoCard

/-- THE SECOND FORM's CARD OF 'waterhourlaw01.CurveEarlier'. -/
def curveEarlierUptoCard : Claim7 := { stood := { row := curveEarlierUptoRow, standIns := [], harness := (true, "76fa1c69d7f5c33adb8b59679630511c53b9fa1b41b5e595b97b4acdba6f7c62"), looks := false }, kinds := [], alts := [], laidByText := true, laidKinds := [.data, .data, .data], laidTests := true, laidLooks := .later }
def CurveEarlierUptoCardSaid : Prop := Claim7.holds Tryd.pinned (.plain (OpenSpec.upto curveEarlierSpec)) curveEarlierUptoCard

/-- THE SECOND FORM's CARD OF 'waterhourlaw01.CurveRates'. -/
def curveRatesUptoCard : Claim7 := { stood := { row := curveRatesUptoRow, standIns := [], harness := (true, "76fa1c69d7f5c33adb8b59679630511c53b9fa1b41b5e595b97b4acdba6f7c62"), looks := false }, kinds := [], alts := [], laidByText := true, laidKinds := [.data, .data, .data], laidTests := true, laidLooks := .later }
def CurveRatesUptoCardSaid : Prop := Claim7.holds Tryd.pinned (.plain (OpenSpec.upto curveRatesSpec)) curveRatesUptoCard

/-- THE SECOND FORM's CARD OF 'waterhourlaw01.CurveOthers'. -/
def curveOthersUptoCard : Claim7 := { stood := { row := curveOthersUptoRow, standIns := [], harness := (true, "76fa1c69d7f5c33adb8b59679630511c53b9fa1b41b5e595b97b4acdba6f7c62"), looks := false }, kinds := [], alts := [], laidByText := true, laidKinds := [.data, .data, .data], laidTests := true, laidLooks := .later }
def CurveOthersUptoCardSaid : Prop := Claim7.holds Tryd.pinned (.plain (OpenSpec.upto curveOthersSpec)) curveOthersUptoCard
end Rows
end Go.Proofs.YtlhhpogaaneamaaDoor
