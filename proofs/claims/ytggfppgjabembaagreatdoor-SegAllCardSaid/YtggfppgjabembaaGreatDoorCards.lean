/-
  DERIVED. GIVEN WITH THE SEED: THE CARDS: each row of YtggfppgjabembaaGreatDoorRows.lean that lists a variable, with what it lists TIED to the program's text (the seventh form; the later family's looks); each row that meets fmt, with fmt's text TOLD by the authors' own Lean function (tested against real Go, not proved from fmt's source: count such statements apart). THE CARD IS WHAT COUNTS. Prove the row's statement (the work); the ties are given (YtggfppgjabembaaGreatDoorTie.lean); close each card by the builder's one call (the guide's Derived/Test/ToyasCard.lean, 'card_holds'). Laid BY PROGRAM, IN A SANDBOX (cutbox-door.mjs). By AI agents, Wed Nov 11 2026. No macro, syntax, notation, axiom, sorry.
-/
import Derived.Test.YtggfppgjabembaaGreatDoorRows
import GoSem.ClaimSeven
namespace Go.Proofs.YtggfppgjabembaaGreatDoor
namespace Rows

/-- THE TIED CARD OF 'plumblaw23.SegPred'. -/
def segPredCard : Claim7 := { stood := { row := segPredRow, standIns := [], harness := (true, "80a292a554acde2cdd04e5bef36b3977b4b8f6b315eb70e2ed427cc397b18b81"), looks := true }, kinds := [], alts := [], laidByText := true, laidKinds := [.data], laidTests := true, laidLooks := .later }
def SegPredCardSaid : Prop := Claim7.holds Tryz.pinned (.plain (OpenSpec.ofChange segPredSpec)) segPredCard

/-- THE TIED CARD OF 'plumblaw23.SegCross'. -/
def segCrossCard : Claim7 := { stood := { row := segCrossRow, standIns := [], harness := (true, "80a292a554acde2cdd04e5bef36b3977b4b8f6b315eb70e2ed427cc397b18b81"), looks := true }, kinds := [], alts := [], laidByText := true, laidKinds := [.data], laidTests := true, laidLooks := .later }
def SegCrossCardSaid : Prop := Claim7.holds Tryz.pinned (.plain (OpenSpec.ofChange segCrossSpec)) segCrossCard

/-- THE TIED CARD OF 'plumblaw23.SegSides'. -/
def segSidesCard : Claim7 := { stood := { row := segSidesRow, standIns := [], harness := (true, "80a292a554acde2cdd04e5bef36b3977b4b8f6b315eb70e2ed427cc397b18b81"), looks := true }, kinds := [], alts := [], laidByText := true, laidKinds := [.data], laidTests := true, laidLooks := .later }
def SegSidesCardSaid : Prop := Claim7.holds Tryz.pinned (.plain (OpenSpec.ofChange segSidesSpec)) segSidesCard

/-- THE TIED CARD OF 'plumblaw23.SegFoot'. -/
def segFootCard : Claim7 := { stood := { row := segFootRow, standIns := [], harness := (true, "80a292a554acde2cdd04e5bef36b3977b4b8f6b315eb70e2ed427cc397b18b81"), looks := true }, kinds := [], alts := [], laidByText := true, laidKinds := [.data], laidTests := true, laidLooks := .later }
def SegFootCardSaid : Prop := Claim7.holds Tryz.pinned (.plain (OpenSpec.ofChange segFootSpec)) segFootCard

/-- THE TIED CARD OF 'plumblaw23.SegAll'. -/
def segAllCard : Claim7 := { stood := { row := segAllRow, standIns := [], harness := (true, "80a292a554acde2cdd04e5bef36b3977b4b8f6b315eb70e2ed427cc397b18b81"), looks := true }, kinds := [], alts := [], laidByText := true, laidKinds := [.data], laidTests := true, laidLooks := .later }
def SegAllCardSaid : Prop := Claim7.holds Tryz.pinned (.plain (OpenSpec.ofChange segAllSpec)) segAllCard

/-- THE TIED CARD OF 'plumblaw23.SegRefuses'. -/
def segRefusesCard : Claim7 := { stood := { row := segRefusesRow, standIns := [], harness := (true, "80a292a554acde2cdd04e5bef36b3977b4b8f6b315eb70e2ed427cc397b18b81"), looks := true }, kinds := [], alts := [], laidByText := true, laidKinds := [.data], laidTests := true, laidLooks := .later }
def SegRefusesCardSaid : Prop := Claim7.holds Tryz.pinned (.plain (OpenSpec.ofChange segRefusesSpec)) segRefusesCard

/-- THE SECOND FORM's CARD OF 'plumblaw23.SegPred'. -/
def segPredUptoCard : Claim7 := { stood := { row := segPredUptoRow, standIns := [], harness := (true, "80a292a554acde2cdd04e5bef36b3977b4b8f6b315eb70e2ed427cc397b18b81"), looks := true }, kinds := [], alts := [], laidByText := true, laidKinds := [.data], laidTests := true, laidLooks := .later }
def SegPredUptoCardSaid : Prop := Claim7.holds Tryz.pinned (.plain (OpenSpec.upto segPredSpec)) segPredUptoCard

/-- THE SECOND FORM's CARD OF 'plumblaw23.SegCross'. -/
def segCrossUptoCard : Claim7 := { stood := { row := segCrossUptoRow, standIns := [], harness := (true, "80a292a554acde2cdd04e5bef36b3977b4b8f6b315eb70e2ed427cc397b18b81"), looks := true }, kinds := [], alts := [], laidByText := true, laidKinds := [.data], laidTests := true, laidLooks := .later }
def SegCrossUptoCardSaid : Prop := Claim7.holds Tryz.pinned (.plain (OpenSpec.upto segCrossSpec)) segCrossUptoCard

/-- THE SECOND FORM's CARD OF 'plumblaw23.SegSides'. -/
def segSidesUptoCard : Claim7 := { stood := { row := segSidesUptoRow, standIns := [], harness := (true, "80a292a554acde2cdd04e5bef36b3977b4b8f6b315eb70e2ed427cc397b18b81"), looks := true }, kinds := [], alts := [], laidByText := true, laidKinds := [.data], laidTests := true, laidLooks := .later }
def SegSidesUptoCardSaid : Prop := Claim7.holds Tryz.pinned (.plain (OpenSpec.upto segSidesSpec)) segSidesUptoCard

/-- THE SECOND FORM's CARD OF 'plumblaw23.SegFoot'. -/
def segFootUptoCard : Claim7 := { stood := { row := segFootUptoRow, standIns := [], harness := (true, "80a292a554acde2cdd04e5bef36b3977b4b8f6b315eb70e2ed427cc397b18b81"), looks := true }, kinds := [], alts := [], laidByText := true, laidKinds := [.data], laidTests := true, laidLooks := .later }
def SegFootUptoCardSaid : Prop := Claim7.holds Tryz.pinned (.plain (OpenSpec.upto segFootSpec)) segFootUptoCard

/-- THE SECOND FORM's CARD OF 'plumblaw23.SegAll'. -/
def segAllUptoCard : Claim7 := { stood := { row := segAllUptoRow, standIns := [], harness := (true, "80a292a554acde2cdd04e5bef36b3977b4b8f6b315eb70e2ed427cc397b18b81"), looks := true }, kinds := [], alts := [], laidByText := true, laidKinds := [.data], laidTests := true, laidLooks := .later }
def SegAllUptoCardSaid : Prop := Claim7.holds Tryz.pinned (.plain (OpenSpec.upto segAllSpec)) segAllUptoCard

/-- THE SECOND FORM's CARD OF 'plumblaw23.SegRefuses'. -/
def segRefusesUptoCard : Claim7 := { stood := { row := segRefusesUptoRow, standIns := [], harness := (true, "80a292a554acde2cdd04e5bef36b3977b4b8f6b315eb70e2ed427cc397b18b81"), looks := true }, kinds := [], alts := [], laidByText := true, laidKinds := [.data], laidTests := true, laidLooks := .later }
def SegRefusesUptoCardSaid : Prop := Claim7.holds Tryz.pinned (.plain (OpenSpec.upto segRefusesSpec)) segRefusesUptoCard
end Rows
end Go.Proofs.YtggfppgjabembaaGreatDoor
