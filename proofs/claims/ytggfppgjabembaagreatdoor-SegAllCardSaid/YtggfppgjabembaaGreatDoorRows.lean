/-
  NARROWER THAN 'FOR EVERY INPUT', by the rows' own cells (each row's printed sentence says how): SegPred: laid · SegCross: laid · SegSides: laid · SegFoot: laid · SegAll: laid · SegRefuses: laid.
  DERIVED. THE GIVEN ROWS OF THIS SEAT. 6 by the template 'for every input the law returns true; each argument reads behind the call as it read before'; 0 by the template 'total and deterministic' (their statements: YtggfppgjabembaaGreatDoorTotals.lean).
  GIVEN WITH THE SEED: the statements are not yours to turn. If you find one false, say at which input.
  Laid BY PROGRAM, IN A SANDBOX (cutbox-rows.mjs): the forced cells as the released guide's own fill.sh prints them over the translation 4c5f9ed5526126a2… (all of the seat's roots in one cut). By AI agents, Wed Nov 11 2026. No macro, syntax, notation, axiom, sorry.
-/
import Derived.Test.YtggfppgjabembaaGreatDoorChecked
import GoSem.Claim
import GoSem.ClaimJoined
import GoSem.ClaimMapViews
import Derived.JoinedTies
import Derived.KernelRfl
namespace Go.Proofs.YtggfppgjabembaaGreatDoor
/- THE CELL 'sum', in the pinned program and in every row, IS THE sha256 OF THE DUMP (.gsa) THAT YtggfppgjabembaaGreatDoorProg.lean LOADS. Nothing in Lean hashes anything: it is a label: what it is worth is what the hold of that sum in a sandbox is worth. -/
noncomputable def Tryz.pinned : Pinned := { name := "ytggfppgjabembaagreatdoor", sum := "4c5f9ed5526126a21e2567e269513435187a698cbe3bdd7fc5575b77ba50377b", checked := Tryz.checked }
namespace Rows
def none {H : Type} : Left H := { results := [], args := [] }

/- WHAT THE LISTED PACKAGE-LEVEL VARIABLES READ AS WHEN THE CALL BEGINS. Each datum BY PROGRAM (the guide's laid-datum.mjs) off the statement by which the dump's own 'gosem.cut.vars' lays the variable. In a bare row this is a premise. The card (YtggfppgjabembaaGreatDoorCards.lean) ties it to the program's text. -/
def laid_plumb_near_stays {H : Type} : DataW H := .agg [.agg [.lit (.bool false), .lit (.bool false)], .agg [.lit (.bool true), .lit (.bool true)], .agg [.lit (.bool false), .lit (.bool false)], .agg [.lit (.bool false), .lit (.bool true)], .agg [.lit (.bool true), .lit (.bool false)]]

/-- 'plumblaw23.SegPred': WHATEVER THE INPUT: true; the input reads as it did. -/
def segPredSpec : ChangeSpec := { name := "segPred", fn := fun _ => fun
  | [d] => { results := [.lit (.bool true)], args := [d] }
  | _ => none }
def segPredRow : OpenClaim := { program := "ytggfppgjabembaagreatdoor", sum := "4c5f9ed5526126a21e2567e269513435187a698cbe3bdd7fc5575b77ba50377b", func := "plumb/plumblaw23.SegPred", spec := "segPred", unfollowed := true, recurses := true, named := ["plumb/near.stays"], apart := false, laid := [("plumb/near.stays", laid_plumb_near_stays)] }
def SegPredSaid : Prop := segPredRow.holds Tryz.pinned (OpenSpec.ofChange segPredSpec)

/-- ITS FALSE NEIGHBOUR: 'it returns false'. Refute it at one input. -/
def segPredWrong : ChangeSpec := { name := "segPred", fn := fun _ => fun
  | [d] => { results := [.lit (.bool false)], args := [d] }
  | _ => none }
def SegPredWrongFalsely : Prop := segPredRow.holds Tryz.pinned (OpenSpec.ofChange segPredWrong)

/-- 'plumblaw23.SegCross': WHATEVER THE INPUT: true; the input reads as it did. -/
def segCrossSpec : ChangeSpec := { name := "segCross", fn := fun _ => fun
  | [d] => { results := [.lit (.bool true)], args := [d] }
  | _ => none }
def segCrossRow : OpenClaim := { program := "ytggfppgjabembaagreatdoor", sum := "4c5f9ed5526126a21e2567e269513435187a698cbe3bdd7fc5575b77ba50377b", func := "plumb/plumblaw23.SegCross", spec := "segCross", unfollowed := true, recurses := true, named := ["plumb/near.stays"], apart := false, laid := [("plumb/near.stays", laid_plumb_near_stays)] }
def SegCrossSaid : Prop := segCrossRow.holds Tryz.pinned (OpenSpec.ofChange segCrossSpec)

/-- ITS FALSE NEIGHBOUR: 'it returns false'. Refute it at one input. -/
def segCrossWrong : ChangeSpec := { name := "segCross", fn := fun _ => fun
  | [d] => { results := [.lit (.bool false)], args := [d] }
  | _ => none }
def SegCrossWrongFalsely : Prop := segCrossRow.holds Tryz.pinned (OpenSpec.ofChange segCrossWrong)

/-- 'plumblaw23.SegSides': WHATEVER THE INPUT: true; the input reads as it did. -/
def segSidesSpec : ChangeSpec := { name := "segSides", fn := fun _ => fun
  | [d] => { results := [.lit (.bool true)], args := [d] }
  | _ => none }
def segSidesRow : OpenClaim := { program := "ytggfppgjabembaagreatdoor", sum := "4c5f9ed5526126a21e2567e269513435187a698cbe3bdd7fc5575b77ba50377b", func := "plumb/plumblaw23.SegSides", spec := "segSides", unfollowed := true, recurses := true, named := ["plumb/near.stays"], apart := false, laid := [("plumb/near.stays", laid_plumb_near_stays)] }
def SegSidesSaid : Prop := segSidesRow.holds Tryz.pinned (OpenSpec.ofChange segSidesSpec)

/-- ITS FALSE NEIGHBOUR: 'it returns false'. Refute it at one input. -/
def segSidesWrong : ChangeSpec := { name := "segSides", fn := fun _ => fun
  | [d] => { results := [.lit (.bool false)], args := [d] }
  | _ => none }
def SegSidesWrongFalsely : Prop := segSidesRow.holds Tryz.pinned (OpenSpec.ofChange segSidesWrong)

/-- 'plumblaw23.SegFoot': WHATEVER THE INPUT: true; the input reads as it did. -/
def segFootSpec : ChangeSpec := { name := "segFoot", fn := fun _ => fun
  | [d] => { results := [.lit (.bool true)], args := [d] }
  | _ => none }
def segFootRow : OpenClaim := { program := "ytggfppgjabembaagreatdoor", sum := "4c5f9ed5526126a21e2567e269513435187a698cbe3bdd7fc5575b77ba50377b", func := "plumb/plumblaw23.SegFoot", spec := "segFoot", unfollowed := true, recurses := true, named := ["plumb/near.stays"], apart := false, laid := [("plumb/near.stays", laid_plumb_near_stays)] }
def SegFootSaid : Prop := segFootRow.holds Tryz.pinned (OpenSpec.ofChange segFootSpec)

/-- ITS FALSE NEIGHBOUR: 'it returns false'. Refute it at one input. -/
def segFootWrong : ChangeSpec := { name := "segFoot", fn := fun _ => fun
  | [d] => { results := [.lit (.bool false)], args := [d] }
  | _ => none }
def SegFootWrongFalsely : Prop := segFootRow.holds Tryz.pinned (OpenSpec.ofChange segFootWrong)

/-- 'plumblaw23.SegAll': WHATEVER THE INPUT: true; the input reads as it did. -/
def segAllSpec : ChangeSpec := { name := "segAll", fn := fun _ => fun
  | [d] => { results := [.lit (.bool true)], args := [d] }
  | _ => none }
def segAllRow : OpenClaim := { program := "ytggfppgjabembaagreatdoor", sum := "4c5f9ed5526126a21e2567e269513435187a698cbe3bdd7fc5575b77ba50377b", func := "plumb/plumblaw23.SegAll", spec := "segAll", unfollowed := true, recurses := true, named := ["plumb/near.stays"], apart := false, laid := [("plumb/near.stays", laid_plumb_near_stays)] }
def SegAllSaid : Prop := segAllRow.holds Tryz.pinned (OpenSpec.ofChange segAllSpec)

/-- ITS FALSE NEIGHBOUR: 'it returns false'. Refute it at one input. -/
def segAllWrong : ChangeSpec := { name := "segAll", fn := fun _ => fun
  | [d] => { results := [.lit (.bool false)], args := [d] }
  | _ => none }
def SegAllWrongFalsely : Prop := segAllRow.holds Tryz.pinned (OpenSpec.ofChange segAllWrong)

/-- 'plumblaw23.SegRefuses': WHATEVER THE INPUT: true; the input reads as it did. -/
def segRefusesSpec : ChangeSpec := { name := "segRefuses", fn := fun _ => fun
  | [d1, d2] => { results := [.lit (.bool true)], args := [d1, d2] }
  | _ => none }
def segRefusesRow : OpenClaim := { program := "ytggfppgjabembaagreatdoor", sum := "4c5f9ed5526126a21e2567e269513435187a698cbe3bdd7fc5575b77ba50377b", func := "plumb/plumblaw23.SegRefuses", spec := "segRefuses", unfollowed := true, recurses := true, named := ["plumb/near.stays"], apart := false, laid := [("plumb/near.stays", laid_plumb_near_stays)] }
def SegRefusesSaid : Prop := segRefusesRow.holds Tryz.pinned (OpenSpec.ofChange segRefusesSpec)

/-- ITS FALSE NEIGHBOUR: 'it returns false'. Refute it at one input. -/
def segRefusesWrong : ChangeSpec := { name := "segRefuses", fn := fun _ => fun
  | [d1, d2] => { results := [.lit (.bool false)], args := [d1, d2] }
  | _ => none }
def SegRefusesWrongFalsely : Prop := segRefusesRow.holds Tryz.pinned (OpenSpec.ofChange segRefusesWrong)

/- THE SECOND FORM. 'bulk': how many values and letters a reading holds, each counted each time it is reached (what is shared counts as often as it is met; a slice's spare places count too). A statement '..UptoSaid' is the law's where the arguments, and the package variables that the reading takes, are together of bulk at most 1048576: NARROWER than '..Said'. Prove '..Said' where nothing that the law and all that it calls make is longer than what came in: it says more and counts as full. Else prove '..UptoSaid'. A law counts once. -/
mutual
def uptoBulk {H : Type} : DataW H → Nat
  | .lit (.string bytes) => bytes.length + 1
  | .lit _ => 1
  | .nil => 1
  | .ptr d => uptoBulk d + 1
  | .slice elems spare => uptoBulkAll elems + uptoBulkAll spare + 1
  | .agg parts => uptoBulkAll parts + 1
  | .iface _ d => uptoBulk d + 1
  | .map entries => uptoBulkEntries entries + 1
  | .held _ => 1
def uptoBulkAll {H : Type} : List (DataW H) → Nat
  | [] => 0
  | d :: r => uptoBulk d + uptoBulkAll r
def uptoBulkEntries {H : Type} : List (Lit × DataW H) → Nat
  | [] => 0
  | x :: r => uptoBulkEntry x + uptoBulkEntries r
def uptoBulkEntry {H : Type} : Lit × DataW H → Nat
  | (.string bytes, d) => bytes.length + uptoBulk d + 1
  | (_, d) => uptoBulk d + 1
 end
def uptoSmall : (H : Type) → List (DataW H) → Bool := fun _ ds => decide (uptoBulkAll ds ≤ 1048576)
def OpenSpec.upto (s : _root_.Go.ChangeSpec) : _root_.Go.OpenSpec := { _root_.Go.OpenSpec.ofChange s with cond := some uptoSmall }

/-- 'plumblaw23.SegPred', WHERE WHAT IT READS IS OF BULK AT MOST 1048576: true; the input reads as it did. -/
def segPredUptoRow : OpenClaim := { program := "ytggfppgjabembaagreatdoor", sum := "4c5f9ed5526126a21e2567e269513435187a698cbe3bdd7fc5575b77ba50377b", func := "plumb/plumblaw23.SegPred", spec := "segPred", unfollowed := true, recurses := true, named := ["plumb/near.stays"], apart := false, laid := [("plumb/near.stays", laid_plumb_near_stays)], narrowed := true }
def SegPredUptoSaid : Prop := segPredUptoRow.holds Tryz.pinned (OpenSpec.upto segPredSpec)

/-- 'plumblaw23.SegCross', WHERE WHAT IT READS IS OF BULK AT MOST 1048576: true; the input reads as it did. -/
def segCrossUptoRow : OpenClaim := { program := "ytggfppgjabembaagreatdoor", sum := "4c5f9ed5526126a21e2567e269513435187a698cbe3bdd7fc5575b77ba50377b", func := "plumb/plumblaw23.SegCross", spec := "segCross", unfollowed := true, recurses := true, named := ["plumb/near.stays"], apart := false, laid := [("plumb/near.stays", laid_plumb_near_stays)], narrowed := true }
def SegCrossUptoSaid : Prop := segCrossUptoRow.holds Tryz.pinned (OpenSpec.upto segCrossSpec)

/-- 'plumblaw23.SegSides', WHERE WHAT IT READS IS OF BULK AT MOST 1048576: true; the input reads as it did. -/
def segSidesUptoRow : OpenClaim := { program := "ytggfppgjabembaagreatdoor", sum := "4c5f9ed5526126a21e2567e269513435187a698cbe3bdd7fc5575b77ba50377b", func := "plumb/plumblaw23.SegSides", spec := "segSides", unfollowed := true, recurses := true, named := ["plumb/near.stays"], apart := false, laid := [("plumb/near.stays", laid_plumb_near_stays)], narrowed := true }
def SegSidesUptoSaid : Prop := segSidesUptoRow.holds Tryz.pinned (OpenSpec.upto segSidesSpec)

/-- 'plumblaw23.SegFoot', WHERE WHAT IT READS IS OF BULK AT MOST 1048576: true; the input reads as it did. -/
def segFootUptoRow : OpenClaim := { program := "ytggfppgjabembaagreatdoor", sum := "4c5f9ed5526126a21e2567e269513435187a698cbe3bdd7fc5575b77ba50377b", func := "plumb/plumblaw23.SegFoot", spec := "segFoot", unfollowed := true, recurses := true, named := ["plumb/near.stays"], apart := false, laid := [("plumb/near.stays", laid_plumb_near_stays)], narrowed := true }
def SegFootUptoSaid : Prop := segFootUptoRow.holds Tryz.pinned (OpenSpec.upto segFootSpec)

/-- 'plumblaw23.SegAll', WHERE WHAT IT READS IS OF BULK AT MOST 1048576: true; the input reads as it did. -/
def segAllUptoRow : OpenClaim := { program := "ytggfppgjabembaagreatdoor", sum := "4c5f9ed5526126a21e2567e269513435187a698cbe3bdd7fc5575b77ba50377b", func := "plumb/plumblaw23.SegAll", spec := "segAll", unfollowed := true, recurses := true, named := ["plumb/near.stays"], apart := false, laid := [("plumb/near.stays", laid_plumb_near_stays)], narrowed := true }
def SegAllUptoSaid : Prop := segAllUptoRow.holds Tryz.pinned (OpenSpec.upto segAllSpec)

/-- 'plumblaw23.SegRefuses', WHERE WHAT IT READS IS OF BULK AT MOST 1048576: true; the input reads as it did. -/
def segRefusesUptoRow : OpenClaim := { program := "ytggfppgjabembaagreatdoor", sum := "4c5f9ed5526126a21e2567e269513435187a698cbe3bdd7fc5575b77ba50377b", func := "plumb/plumblaw23.SegRefuses", spec := "segRefuses", unfollowed := true, recurses := true, named := ["plumb/near.stays"], apart := false, laid := [("plumb/near.stays", laid_plumb_near_stays)], narrowed := true }
def SegRefusesUptoSaid : Prop := segRefusesUptoRow.holds Tryz.pinned (OpenSpec.upto segRefusesSpec)

end Rows
end Go.Proofs.YtggfppgjabembaaGreatDoor
