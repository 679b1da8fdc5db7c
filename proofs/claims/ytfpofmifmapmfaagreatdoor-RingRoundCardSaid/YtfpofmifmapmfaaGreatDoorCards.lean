/-
  DERIVED. GIVEN WITH THE SEED: THE CARDS: each row of YtfpofmifmapmfaaGreatDoorRows.lean that lists a variable, with what it lists TIED to the program's text (the seventh form; the later family's looks); each row that meets fmt, with fmt's text TOLD by the authors' own Lean function (tested against real Go, not proved from fmt's source: count such statements apart). THE CARD IS WHAT COUNTS. Prove the row's statement (the work); the ties are given (YtfpofmifmapmfaaGreatDoorTie.lean); close each card by the builder's one call (the guide's Derived/Test/ToyasCard.lean, 'card_holds'). Laid BY PROGRAM, IN A SANDBOX (cutbox-door.mjs). By AI agents, Wed Nov 11 2026. No macro, syntax, notation, axiom, sorry.
-/
import Derived.Test.YtfpofmifmapmfaaGreatDoorRows
import GoSem.ClaimSeven
namespace Go.Proofs.YtfpofmifmapmfaaGreatDoor
namespace Rows

/-- THE TIED CARD OF 'plumblaw24.RingAreas'. -/
def ringAreasCard : Claim7 := { stood := { row := ringAreasRow, standIns := [], harness := (true, "f777712a3cb00256777b380c3964cedb2e32d925b7296fdfab4ba2994e78b29d"), looks := true }, kinds := [], alts := [], laidByText := true, laidKinds := [.data], laidTests := true, laidLooks := .later }
def RingAreasCardSaid : Prop := Claim7.holds Tryz.pinned (.plain (OpenSpec.ofChange ringAreasSpec)) ringAreasCard

/-- THE TIED CARD OF 'plumblaw24.RingSides'. -/
def ringSidesCard : Claim7 := { stood := { row := ringSidesRow, standIns := [], harness := (true, "f777712a3cb00256777b380c3964cedb2e32d925b7296fdfab4ba2994e78b29d"), looks := true }, kinds := [], alts := [], laidByText := true, laidKinds := [.data], laidTests := true, laidLooks := .later }
def RingSidesCardSaid : Prop := Claim7.holds Tryz.pinned (.plain (OpenSpec.ofChange ringSidesSpec)) ringSidesCard

/-- THE TIED CARD OF 'plumblaw24.RingBoxes'. -/
def ringBoxesCard : Claim7 := { stood := { row := ringBoxesRow, standIns := [], harness := (true, "f777712a3cb00256777b380c3964cedb2e32d925b7296fdfab4ba2994e78b29d"), looks := true }, kinds := [], alts := [], laidByText := true, laidKinds := [.data], laidTests := true, laidLooks := .later }
def RingBoxesCardSaid : Prop := Claim7.holds Tryz.pinned (.plain (OpenSpec.ofChange ringBoxesSpec)) ringBoxesCard

/-- THE TIED CARD OF 'plumblaw24.RingMoved'. -/
def ringMovedCard : Claim7 := { stood := { row := ringMovedRow, standIns := [], harness := (true, "f777712a3cb00256777b380c3964cedb2e32d925b7296fdfab4ba2994e78b29d"), looks := true }, kinds := [], alts := [], laidByText := true, laidKinds := [.data], laidTests := true, laidLooks := .later }
def RingMovedCardSaid : Prop := Claim7.holds Tryz.pinned (.plain (OpenSpec.ofChange ringMovedSpec)) ringMovedCard

/-- THE TIED CARD OF 'plumblaw24.RingParts'. -/
def ringPartsCard : Claim7 := { stood := { row := ringPartsRow, standIns := [], harness := (true, "f777712a3cb00256777b380c3964cedb2e32d925b7296fdfab4ba2994e78b29d"), looks := true }, kinds := [], alts := [], laidByText := true, laidKinds := [.data], laidTests := true, laidLooks := .later }
def RingPartsCardSaid : Prop := Claim7.holds Tryz.pinned (.plain (OpenSpec.ofChange ringPartsSpec)) ringPartsCard

/-- THE TIED CARD OF 'plumblaw24.RingCorners'. -/
def ringCornersCard : Claim7 := { stood := { row := ringCornersRow, standIns := [], harness := (true, "f777712a3cb00256777b380c3964cedb2e32d925b7296fdfab4ba2994e78b29d"), looks := true }, kinds := [], alts := [], laidByText := true, laidKinds := [.data], laidTests := true, laidLooks := .later }
def RingCornersCardSaid : Prop := Claim7.holds Tryz.pinned (.plain (OpenSpec.ofChange ringCornersSpec)) ringCornersCard

/-- THE TIED CARD OF 'plumblaw24.RingStarts'. -/
def ringStartsCard : Claim7 := { stood := { row := ringStartsRow, standIns := [], harness := (true, "f777712a3cb00256777b380c3964cedb2e32d925b7296fdfab4ba2994e78b29d"), looks := true }, kinds := [], alts := [], laidByText := true, laidKinds := [.data], laidTests := true, laidLooks := .later }
def RingStartsCardSaid : Prop := Claim7.holds Tryz.pinned (.plain (OpenSpec.ofChange ringStartsSpec)) ringStartsCard

/-- THE TIED CARD OF 'plumblaw24.RingRound'. -/
def ringRoundCard : Claim7 := { stood := { row := ringRoundRow, standIns := [], harness := (true, "f777712a3cb00256777b380c3964cedb2e32d925b7296fdfab4ba2994e78b29d"), looks := true }, kinds := [], alts := [], laidByText := true, laidKinds := [.data], laidTests := true, laidLooks := .later }
def RingRoundCardSaid : Prop := Claim7.holds Tryz.pinned (.plain (OpenSpec.ofChange ringRoundSpec)) ringRoundCard

/-- THE TIED CARD OF 'plumblaw24.RingBegins'. -/
def ringBeginsCard : Claim7 := { stood := { row := ringBeginsRow, standIns := [], harness := (true, "f777712a3cb00256777b380c3964cedb2e32d925b7296fdfab4ba2994e78b29d"), looks := true }, kinds := [], alts := [], laidByText := true, laidKinds := [.data], laidTests := true, laidLooks := .later }
def RingBeginsCardSaid : Prop := Claim7.holds Tryz.pinned (.plain (OpenSpec.ofChange ringBeginsSpec)) ringBeginsCard

/-- THE TIED CARD OF 'plumblaw24.RingFresh'. -/
def ringFreshCard : Claim7 := { stood := { row := ringFreshRow, standIns := [], harness := (true, "f777712a3cb00256777b380c3964cedb2e32d925b7296fdfab4ba2994e78b29d"), looks := true }, kinds := [], alts := [], laidByText := true, laidKinds := [.data], laidTests := true, laidLooks := .later }
def RingFreshCardSaid : Prop := Claim7.holds Tryz.pinned (.plain (OpenSpec.ofChange ringFreshSpec)) ringFreshCard

/-- THE TIED CARD OF 'plumblaw26.AffineOrder'. -/
def affineOrderCard : Claim7 := { stood := { row := affineOrderRow, standIns := [], harness := (true, "f777712a3cb00256777b380c3964cedb2e32d925b7296fdfab4ba2994e78b29d"), looks := true }, kinds := [], alts := [], laidByText := true, laidKinds := [.data], laidTests := true, laidLooks := .later }
def AffineOrderCardSaid : Prop := Claim7.holds Tryz.pinned (.plain (OpenSpec.ofChange affineOrderSpec)) affineOrderCard

/-- THE TIED CARD OF 'plumblaw26.AffineTwice'. -/
def affineTwiceCard : Claim7 := { stood := { row := affineTwiceRow, standIns := [], harness := (true, "f777712a3cb00256777b380c3964cedb2e32d925b7296fdfab4ba2994e78b29d"), looks := true }, kinds := [], alts := [], laidByText := true, laidKinds := [.data], laidTests := true, laidLooks := .later }
def AffineTwiceCardSaid : Prop := Claim7.holds Tryz.pinned (.plain (OpenSpec.ofChange affineTwiceSpec)) affineTwiceCard

/-- THE SECOND FORM's CARD OF 'plumblaw24.RingAreas'. -/
def ringAreasUptoCard : Claim7 := { stood := { row := ringAreasUptoRow, standIns := [], harness := (true, "f777712a3cb00256777b380c3964cedb2e32d925b7296fdfab4ba2994e78b29d"), looks := true }, kinds := [], alts := [], laidByText := true, laidKinds := [.data], laidTests := true, laidLooks := .later }
def RingAreasUptoCardSaid : Prop := Claim7.holds Tryz.pinned (.plain (OpenSpec.upto ringAreasSpec)) ringAreasUptoCard

/-- THE SECOND FORM's CARD OF 'plumblaw24.RingSides'. -/
def ringSidesUptoCard : Claim7 := { stood := { row := ringSidesUptoRow, standIns := [], harness := (true, "f777712a3cb00256777b380c3964cedb2e32d925b7296fdfab4ba2994e78b29d"), looks := true }, kinds := [], alts := [], laidByText := true, laidKinds := [.data], laidTests := true, laidLooks := .later }
def RingSidesUptoCardSaid : Prop := Claim7.holds Tryz.pinned (.plain (OpenSpec.upto ringSidesSpec)) ringSidesUptoCard

/-- THE SECOND FORM's CARD OF 'plumblaw24.RingBoxes'. -/
def ringBoxesUptoCard : Claim7 := { stood := { row := ringBoxesUptoRow, standIns := [], harness := (true, "f777712a3cb00256777b380c3964cedb2e32d925b7296fdfab4ba2994e78b29d"), looks := true }, kinds := [], alts := [], laidByText := true, laidKinds := [.data], laidTests := true, laidLooks := .later }
def RingBoxesUptoCardSaid : Prop := Claim7.holds Tryz.pinned (.plain (OpenSpec.upto ringBoxesSpec)) ringBoxesUptoCard

/-- THE SECOND FORM's CARD OF 'plumblaw24.RingMoved'. -/
def ringMovedUptoCard : Claim7 := { stood := { row := ringMovedUptoRow, standIns := [], harness := (true, "f777712a3cb00256777b380c3964cedb2e32d925b7296fdfab4ba2994e78b29d"), looks := true }, kinds := [], alts := [], laidByText := true, laidKinds := [.data], laidTests := true, laidLooks := .later }
def RingMovedUptoCardSaid : Prop := Claim7.holds Tryz.pinned (.plain (OpenSpec.upto ringMovedSpec)) ringMovedUptoCard

/-- THE SECOND FORM's CARD OF 'plumblaw24.RingParts'. -/
def ringPartsUptoCard : Claim7 := { stood := { row := ringPartsUptoRow, standIns := [], harness := (true, "f777712a3cb00256777b380c3964cedb2e32d925b7296fdfab4ba2994e78b29d"), looks := true }, kinds := [], alts := [], laidByText := true, laidKinds := [.data], laidTests := true, laidLooks := .later }
def RingPartsUptoCardSaid : Prop := Claim7.holds Tryz.pinned (.plain (OpenSpec.upto ringPartsSpec)) ringPartsUptoCard

/-- THE SECOND FORM's CARD OF 'plumblaw24.RingCorners'. -/
def ringCornersUptoCard : Claim7 := { stood := { row := ringCornersUptoRow, standIns := [], harness := (true, "f777712a3cb00256777b380c3964cedb2e32d925b7296fdfab4ba2994e78b29d"), looks := true }, kinds := [], alts := [], laidByText := true, laidKinds := [.data], laidTests := true, laidLooks := .later }
def RingCornersUptoCardSaid : Prop := Claim7.holds Tryz.pinned (.plain (OpenSpec.upto ringCornersSpec)) ringCornersUptoCard

/-- THE SECOND FORM's CARD OF 'plumblaw24.RingStarts'. -/
def ringStartsUptoCard : Claim7 := { stood := { row := ringStartsUptoRow, standIns := [], harness := (true, "f777712a3cb00256777b380c3964cedb2e32d925b7296fdfab4ba2994e78b29d"), looks := true }, kinds := [], alts := [], laidByText := true, laidKinds := [.data], laidTests := true, laidLooks := .later }
def RingStartsUptoCardSaid : Prop := Claim7.holds Tryz.pinned (.plain (OpenSpec.upto ringStartsSpec)) ringStartsUptoCard

/-- THE SECOND FORM's CARD OF 'plumblaw24.RingRound'. -/
def ringRoundUptoCard : Claim7 := { stood := { row := ringRoundUptoRow, standIns := [], harness := (true, "f777712a3cb00256777b380c3964cedb2e32d925b7296fdfab4ba2994e78b29d"), looks := true }, kinds := [], alts := [], laidByText := true, laidKinds := [.data], laidTests := true, laidLooks := .later }
def RingRoundUptoCardSaid : Prop := Claim7.holds Tryz.pinned (.plain (OpenSpec.upto ringRoundSpec)) ringRoundUptoCard

/-- THE SECOND FORM's CARD OF 'plumblaw24.RingBegins'. -/
def ringBeginsUptoCard : Claim7 := { stood := { row := ringBeginsUptoRow, standIns := [], harness := (true, "f777712a3cb00256777b380c3964cedb2e32d925b7296fdfab4ba2994e78b29d"), looks := true }, kinds := [], alts := [], laidByText := true, laidKinds := [.data], laidTests := true, laidLooks := .later }
def RingBeginsUptoCardSaid : Prop := Claim7.holds Tryz.pinned (.plain (OpenSpec.upto ringBeginsSpec)) ringBeginsUptoCard

/-- THE SECOND FORM's CARD OF 'plumblaw24.RingFresh'. -/
def ringFreshUptoCard : Claim7 := { stood := { row := ringFreshUptoRow, standIns := [], harness := (true, "f777712a3cb00256777b380c3964cedb2e32d925b7296fdfab4ba2994e78b29d"), looks := true }, kinds := [], alts := [], laidByText := true, laidKinds := [.data], laidTests := true, laidLooks := .later }
def RingFreshUptoCardSaid : Prop := Claim7.holds Tryz.pinned (.plain (OpenSpec.upto ringFreshSpec)) ringFreshUptoCard

/-- THE SECOND FORM's CARD OF 'plumblaw26.AffineOrder'. -/
def affineOrderUptoCard : Claim7 := { stood := { row := affineOrderUptoRow, standIns := [], harness := (true, "f777712a3cb00256777b380c3964cedb2e32d925b7296fdfab4ba2994e78b29d"), looks := true }, kinds := [], alts := [], laidByText := true, laidKinds := [.data], laidTests := true, laidLooks := .later }
def AffineOrderUptoCardSaid : Prop := Claim7.holds Tryz.pinned (.plain (OpenSpec.upto affineOrderSpec)) affineOrderUptoCard

/-- THE SECOND FORM's CARD OF 'plumblaw26.AffineTwice'. -/
def affineTwiceUptoCard : Claim7 := { stood := { row := affineTwiceUptoRow, standIns := [], harness := (true, "f777712a3cb00256777b380c3964cedb2e32d925b7296fdfab4ba2994e78b29d"), looks := true }, kinds := [], alts := [], laidByText := true, laidKinds := [.data], laidTests := true, laidLooks := .later }
def AffineTwiceUptoCardSaid : Prop := Claim7.holds Tryz.pinned (.plain (OpenSpec.upto affineTwiceSpec)) affineTwiceUptoCard
end Rows
end Go.Proofs.YtfpofmifmapmfaaGreatDoor
