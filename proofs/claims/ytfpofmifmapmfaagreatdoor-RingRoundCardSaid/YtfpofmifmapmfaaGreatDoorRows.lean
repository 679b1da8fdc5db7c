/-
  NARROWER THAN 'FOR EVERY INPUT', by the rows' own cells (each row's printed sentence says how): RingAreas: laid · RingSides: laid · RingBoxes: laid · RingMoved: laid · RingParts: laid · RingCorners: laid · RingStarts: laid · RingRound: laid · RingBegins: laid · RingFresh: laid · AffineOrder: loops, laid · AffineTwice: laid.
  DERIVED. THE GIVEN ROWS OF THIS SEAT. 12 by the template 'for every input the law returns true; each argument reads behind the call as it read before'; 0 by the template 'total and deterministic' (their statements: YtfpofmifmapmfaaGreatDoorTotals.lean).
  GIVEN WITH THE SEED: the statements are not yours to turn. If you find one false, say at which input.
  Laid BY PROGRAM, IN A SANDBOX (cutbox-rows.mjs): the forced cells as the released guide's own fill.sh prints them over the translation 6d5532e6f50585d7… (all of the seat's roots in one cut). By AI agents, Wed Nov 11 2026. No macro, syntax, notation, axiom, sorry.
-/
import Derived.Test.YtfpofmifmapmfaaGreatDoorChecked
import GoSem.Claim
import GoSem.ClaimJoined
import GoSem.ClaimMapViews
import Derived.JoinedTies
import Derived.KernelRfl
namespace Go.Proofs.YtfpofmifmapmfaaGreatDoor
/- THE CELL 'sum', in the pinned program and in every row, IS THE sha256 OF THE DUMP (.gsa) THAT YtfpofmifmapmfaaGreatDoorProg.lean LOADS. Nothing in Lean hashes anything: it is a label: what it is worth is what the hold of that sum in a sandbox is worth. -/
noncomputable def Tryz.pinned : Pinned := { name := "ytfpofmifmapmfaagreatdoor", sum := "6d5532e6f50585d784a3035ba9d5f82f256256426b34dfe094345585b1e6ec36", checked := Tryz.checked }
namespace Rows
def none {H : Type} : Left H := { results := [], args := [] }

/- WHAT THE LISTED PACKAGE-LEVEL VARIABLES READ AS WHEN THE CALL BEGINS. Each datum BY PROGRAM (the guide's laid-datum.mjs) off the statement by which the dump's own 'gosem.cut.vars' lays the variable. In a bare row this is a premise. The card (YtfpofmifmapmfaaGreatDoorCards.lean) ties it to the program's text. -/
def laid_plumb_near_stays {H : Type} : DataW H := .agg [.agg [.lit (.bool false), .lit (.bool false)], .agg [.lit (.bool true), .lit (.bool true)], .agg [.lit (.bool false), .lit (.bool false)], .agg [.lit (.bool false), .lit (.bool true)], .agg [.lit (.bool true), .lit (.bool false)]]

/-- 'plumblaw24.RingAreas': WHATEVER THE INPUT: true; the input reads as it did. -/
def ringAreasSpec : ChangeSpec := { name := "ringAreas", fn := fun _ => fun
  | [d] => { results := [.lit (.bool true)], args := [d] }
  | _ => none }
def ringAreasRow : OpenClaim := { program := "ytfpofmifmapmfaagreatdoor", sum := "6d5532e6f50585d784a3035ba9d5f82f256256426b34dfe094345585b1e6ec36", func := "plumb/plumblaw24.RingAreas", spec := "ringAreas", unfollowed := true, recurses := true, named := ["plumb/near.stays"], apart := false, laid := [("plumb/near.stays", laid_plumb_near_stays)] }
def RingAreasSaid : Prop := ringAreasRow.holds Tryz.pinned (OpenSpec.ofChange ringAreasSpec)

/-- ITS FALSE NEIGHBOUR: 'it returns false'. Refute it at one input. -/
def ringAreasWrong : ChangeSpec := { name := "ringAreas", fn := fun _ => fun
  | [d] => { results := [.lit (.bool false)], args := [d] }
  | _ => none }
def RingAreasWrongFalsely : Prop := ringAreasRow.holds Tryz.pinned (OpenSpec.ofChange ringAreasWrong)

/-- 'plumblaw24.RingSides': WHATEVER THE INPUT: true; the input reads as it did. -/
def ringSidesSpec : ChangeSpec := { name := "ringSides", fn := fun _ => fun
  | [d1, d2] => { results := [.lit (.bool true)], args := [d1, d2] }
  | _ => none }
def ringSidesRow : OpenClaim := { program := "ytfpofmifmapmfaagreatdoor", sum := "6d5532e6f50585d784a3035ba9d5f82f256256426b34dfe094345585b1e6ec36", func := "plumb/plumblaw24.RingSides", spec := "ringSides", unfollowed := true, recurses := true, named := ["plumb/near.stays"], apart := false, laid := [("plumb/near.stays", laid_plumb_near_stays)] }
def RingSidesSaid : Prop := ringSidesRow.holds Tryz.pinned (OpenSpec.ofChange ringSidesSpec)

/-- ITS FALSE NEIGHBOUR: 'it returns false'. Refute it at one input. -/
def ringSidesWrong : ChangeSpec := { name := "ringSides", fn := fun _ => fun
  | [d1, d2] => { results := [.lit (.bool false)], args := [d1, d2] }
  | _ => none }
def RingSidesWrongFalsely : Prop := ringSidesRow.holds Tryz.pinned (OpenSpec.ofChange ringSidesWrong)

/-- 'plumblaw24.RingBoxes': WHATEVER THE INPUT: true; the input reads as it did. -/
def ringBoxesSpec : ChangeSpec := { name := "ringBoxes", fn := fun _ => fun
  | [d] => { results := [.lit (.bool true)], args := [d] }
  | _ => none }
def ringBoxesRow : OpenClaim := { program := "ytfpofmifmapmfaagreatdoor", sum := "6d5532e6f50585d784a3035ba9d5f82f256256426b34dfe094345585b1e6ec36", func := "plumb/plumblaw24.RingBoxes", spec := "ringBoxes", unfollowed := true, recurses := true, named := ["plumb/near.stays"], apart := false, laid := [("plumb/near.stays", laid_plumb_near_stays)] }
def RingBoxesSaid : Prop := ringBoxesRow.holds Tryz.pinned (OpenSpec.ofChange ringBoxesSpec)

/-- ITS FALSE NEIGHBOUR: 'it returns false'. Refute it at one input. -/
def ringBoxesWrong : ChangeSpec := { name := "ringBoxes", fn := fun _ => fun
  | [d] => { results := [.lit (.bool false)], args := [d] }
  | _ => none }
def RingBoxesWrongFalsely : Prop := ringBoxesRow.holds Tryz.pinned (OpenSpec.ofChange ringBoxesWrong)

/-- 'plumblaw24.RingMoved': WHATEVER THE INPUT: true; the input reads as it did. -/
def ringMovedSpec : ChangeSpec := { name := "ringMoved", fn := fun _ => fun
  | [d1, d2, d3] => { results := [.lit (.bool true)], args := [d1, d2, d3] }
  | _ => none }
def ringMovedRow : OpenClaim := { program := "ytfpofmifmapmfaagreatdoor", sum := "6d5532e6f50585d784a3035ba9d5f82f256256426b34dfe094345585b1e6ec36", func := "plumb/plumblaw24.RingMoved", spec := "ringMoved", unfollowed := true, recurses := true, named := ["plumb/near.stays"], apart := false, laid := [("plumb/near.stays", laid_plumb_near_stays)] }
def RingMovedSaid : Prop := ringMovedRow.holds Tryz.pinned (OpenSpec.ofChange ringMovedSpec)

/-- ITS FALSE NEIGHBOUR: 'it returns false'. Refute it at one input. -/
def ringMovedWrong : ChangeSpec := { name := "ringMoved", fn := fun _ => fun
  | [d1, d2, d3] => { results := [.lit (.bool false)], args := [d1, d2, d3] }
  | _ => none }
def RingMovedWrongFalsely : Prop := ringMovedRow.holds Tryz.pinned (OpenSpec.ofChange ringMovedWrong)

/-- 'plumblaw24.RingParts': WHATEVER THE INPUT: true; the input reads as it did. -/
def ringPartsSpec : ChangeSpec := { name := "ringParts", fn := fun _ => fun
  | [d1, d2, d3] => { results := [.lit (.bool true)], args := [d1, d2, d3] }
  | _ => none }
def ringPartsRow : OpenClaim := { program := "ytfpofmifmapmfaagreatdoor", sum := "6d5532e6f50585d784a3035ba9d5f82f256256426b34dfe094345585b1e6ec36", func := "plumb/plumblaw24.RingParts", spec := "ringParts", unfollowed := true, recurses := true, named := ["plumb/near.stays"], apart := false, laid := [("plumb/near.stays", laid_plumb_near_stays)] }
def RingPartsSaid : Prop := ringPartsRow.holds Tryz.pinned (OpenSpec.ofChange ringPartsSpec)

/-- ITS FALSE NEIGHBOUR: 'it returns false'. Refute it at one input. -/
def ringPartsWrong : ChangeSpec := { name := "ringParts", fn := fun _ => fun
  | [d1, d2, d3] => { results := [.lit (.bool false)], args := [d1, d2, d3] }
  | _ => none }
def RingPartsWrongFalsely : Prop := ringPartsRow.holds Tryz.pinned (OpenSpec.ofChange ringPartsWrong)

/-- 'plumblaw24.RingCorners': WHATEVER THE INPUT: true; the input reads as it did. -/
def ringCornersSpec : ChangeSpec := { name := "ringCorners", fn := fun _ => fun
  | [d1, d2, d3, d4] => { results := [.lit (.bool true)], args := [d1, d2, d3, d4] }
  | _ => none }
def ringCornersRow : OpenClaim := { program := "ytfpofmifmapmfaagreatdoor", sum := "6d5532e6f50585d784a3035ba9d5f82f256256426b34dfe094345585b1e6ec36", func := "plumb/plumblaw24.RingCorners", spec := "ringCorners", unfollowed := true, recurses := true, named := ["plumb/near.stays"], apart := false, laid := [("plumb/near.stays", laid_plumb_near_stays)] }
def RingCornersSaid : Prop := ringCornersRow.holds Tryz.pinned (OpenSpec.ofChange ringCornersSpec)

/-- ITS FALSE NEIGHBOUR: 'it returns false'. Refute it at one input. -/
def ringCornersWrong : ChangeSpec := { name := "ringCorners", fn := fun _ => fun
  | [d1, d2, d3, d4] => { results := [.lit (.bool false)], args := [d1, d2, d3, d4] }
  | _ => none }
def RingCornersWrongFalsely : Prop := ringCornersRow.holds Tryz.pinned (OpenSpec.ofChange ringCornersWrong)

/-- 'plumblaw24.RingStarts': WHATEVER THE INPUT: true; the input reads as it did. -/
def ringStartsSpec : ChangeSpec := { name := "ringStarts", fn := fun _ => fun
  | [d1, d2] => { results := [.lit (.bool true)], args := [d1, d2] }
  | _ => none }
def ringStartsRow : OpenClaim := { program := "ytfpofmifmapmfaagreatdoor", sum := "6d5532e6f50585d784a3035ba9d5f82f256256426b34dfe094345585b1e6ec36", func := "plumb/plumblaw24.RingStarts", spec := "ringStarts", unfollowed := true, recurses := true, named := ["plumb/near.stays"], apart := false, laid := [("plumb/near.stays", laid_plumb_near_stays)] }
def RingStartsSaid : Prop := ringStartsRow.holds Tryz.pinned (OpenSpec.ofChange ringStartsSpec)

/-- ITS FALSE NEIGHBOUR: 'it returns false'. Refute it at one input. -/
def ringStartsWrong : ChangeSpec := { name := "ringStarts", fn := fun _ => fun
  | [d1, d2] => { results := [.lit (.bool false)], args := [d1, d2] }
  | _ => none }
def RingStartsWrongFalsely : Prop := ringStartsRow.holds Tryz.pinned (OpenSpec.ofChange ringStartsWrong)

/-- 'plumblaw24.RingRound': WHATEVER THE INPUT: true; the input reads as it did. -/
def ringRoundSpec : ChangeSpec := { name := "ringRound", fn := fun _ => fun
  | [d1, d2, d3] => { results := [.lit (.bool true)], args := [d1, d2, d3] }
  | _ => none }
def ringRoundRow : OpenClaim := { program := "ytfpofmifmapmfaagreatdoor", sum := "6d5532e6f50585d784a3035ba9d5f82f256256426b34dfe094345585b1e6ec36", func := "plumb/plumblaw24.RingRound", spec := "ringRound", unfollowed := true, recurses := true, named := ["plumb/near.stays"], apart := false, laid := [("plumb/near.stays", laid_plumb_near_stays)] }
def RingRoundSaid : Prop := ringRoundRow.holds Tryz.pinned (OpenSpec.ofChange ringRoundSpec)

/-- ITS FALSE NEIGHBOUR: 'it returns false'. Refute it at one input. -/
def ringRoundWrong : ChangeSpec := { name := "ringRound", fn := fun _ => fun
  | [d1, d2, d3] => { results := [.lit (.bool false)], args := [d1, d2, d3] }
  | _ => none }
def RingRoundWrongFalsely : Prop := ringRoundRow.holds Tryz.pinned (OpenSpec.ofChange ringRoundWrong)

/-- 'plumblaw24.RingBegins': WHATEVER THE INPUT: true; the input reads as it did. -/
def ringBeginsSpec : ChangeSpec := { name := "ringBegins", fn := fun _ => fun
  | [d1, d2] => { results := [.lit (.bool true)], args := [d1, d2] }
  | _ => none }
def ringBeginsRow : OpenClaim := { program := "ytfpofmifmapmfaagreatdoor", sum := "6d5532e6f50585d784a3035ba9d5f82f256256426b34dfe094345585b1e6ec36", func := "plumb/plumblaw24.RingBegins", spec := "ringBegins", unfollowed := true, recurses := true, named := ["plumb/near.stays"], apart := false, laid := [("plumb/near.stays", laid_plumb_near_stays)] }
def RingBeginsSaid : Prop := ringBeginsRow.holds Tryz.pinned (OpenSpec.ofChange ringBeginsSpec)

/-- ITS FALSE NEIGHBOUR: 'it returns false'. Refute it at one input. -/
def ringBeginsWrong : ChangeSpec := { name := "ringBegins", fn := fun _ => fun
  | [d1, d2] => { results := [.lit (.bool false)], args := [d1, d2] }
  | _ => none }
def RingBeginsWrongFalsely : Prop := ringBeginsRow.holds Tryz.pinned (OpenSpec.ofChange ringBeginsWrong)

/-- 'plumblaw24.RingFresh': WHATEVER THE INPUT: true; the input reads as it did. -/
def ringFreshSpec : ChangeSpec := { name := "ringFresh", fn := fun _ => fun
  | [d1, d2] => { results := [.lit (.bool true)], args := [d1, d2] }
  | _ => none }
def ringFreshRow : OpenClaim := { program := "ytfpofmifmapmfaagreatdoor", sum := "6d5532e6f50585d784a3035ba9d5f82f256256426b34dfe094345585b1e6ec36", func := "plumb/plumblaw24.RingFresh", spec := "ringFresh", unfollowed := true, recurses := true, named := ["plumb/near.stays"], apart := false, laid := [("plumb/near.stays", laid_plumb_near_stays)] }
def RingFreshSaid : Prop := ringFreshRow.holds Tryz.pinned (OpenSpec.ofChange ringFreshSpec)

/-- ITS FALSE NEIGHBOUR: 'it returns false'. Refute it at one input. -/
def ringFreshWrong : ChangeSpec := { name := "ringFresh", fn := fun _ => fun
  | [d1, d2] => { results := [.lit (.bool false)], args := [d1, d2] }
  | _ => none }
def RingFreshWrongFalsely : Prop := ringFreshRow.holds Tryz.pinned (OpenSpec.ofChange ringFreshWrong)

/-- 'plumblaw26.AffineOrder': WHATEVER THE INPUT: true; the input reads as it did. -/
def affineOrderSpec : ChangeSpec := { name := "affineOrder", fn := fun _ => fun
  | [d1, d2, d3] => { results := [.lit (.bool true)], args := [d1, d2, d3] }
  | _ => none }
def affineOrderRow : OpenClaim := { program := "ytfpofmifmapmfaagreatdoor", sum := "6d5532e6f50585d784a3035ba9d5f82f256256426b34dfe094345585b1e6ec36", func := "plumb/plumblaw26.AffineOrder", spec := "affineOrder", unfollowed := true, recurses := true, named := ["plumb/near.stays"], loops := true, apart := false, laid := [("plumb/near.stays", laid_plumb_near_stays)] }
def AffineOrderSaid : Prop := affineOrderRow.holds Tryz.pinned (OpenSpec.ofChange affineOrderSpec)

/-- ITS FALSE NEIGHBOUR: 'it returns false'. Refute it at one input. -/
def affineOrderWrong : ChangeSpec := { name := "affineOrder", fn := fun _ => fun
  | [d1, d2, d3] => { results := [.lit (.bool false)], args := [d1, d2, d3] }
  | _ => none }
def AffineOrderWrongFalsely : Prop := affineOrderRow.holds Tryz.pinned (OpenSpec.ofChange affineOrderWrong)

/-- 'plumblaw26.AffineTwice': WHATEVER THE INPUT: true; the input reads as it did. -/
def affineTwiceSpec : ChangeSpec := { name := "affineTwice", fn := fun _ => fun
  | [d1, d2, d3] => { results := [.lit (.bool true)], args := [d1, d2, d3] }
  | _ => none }
def affineTwiceRow : OpenClaim := { program := "ytfpofmifmapmfaagreatdoor", sum := "6d5532e6f50585d784a3035ba9d5f82f256256426b34dfe094345585b1e6ec36", func := "plumb/plumblaw26.AffineTwice", spec := "affineTwice", unfollowed := true, recurses := true, named := ["plumb/near.stays"], apart := false, laid := [("plumb/near.stays", laid_plumb_near_stays)] }
def AffineTwiceSaid : Prop := affineTwiceRow.holds Tryz.pinned (OpenSpec.ofChange affineTwiceSpec)

/-- ITS FALSE NEIGHBOUR: 'it returns false'. Refute it at one input. -/
def affineTwiceWrong : ChangeSpec := { name := "affineTwice", fn := fun _ => fun
  | [d1, d2, d3] => { results := [.lit (.bool false)], args := [d1, d2, d3] }
  | _ => none }
def AffineTwiceWrongFalsely : Prop := affineTwiceRow.holds Tryz.pinned (OpenSpec.ofChange affineTwiceWrong)

/- THE SECOND FORM. 'bulk': how many values and letters a reading holds, each counted each time it is reached (what is shared counts as often as it is met; a slice's spare places count too). A statement '..UptoSaid' is the law's where the arguments, and the package variables that the reading takes, are together of bulk at most 1048576: NARROWER than '..Said'. Prove '..Said' where nothing that the law and all that it calls make is longer than what came in: it says more and counts as full. Else prove '..UptoSaid'. A law counts once. -/
mutual
def uptoBulk {H : Type} : DataW H → Nat
  | .lit (.string bytes) => bytes.length + 1
  | .lit _ => 1
  | .nil => 1
  | .ptr d => uptoBulk d + 1
  | .slice elems spare => uptoBulkAll elems + uptoBulkAll spare + 1
  | .agg parts => uptoBulkAll parts + 1
  | .iface _ d => uptoBulk d + 1
  | .map entries => uptoBulkEntries entries + 1
  | .held _ => 1
def uptoBulkAll {H : Type} : List (DataW H) → Nat
  | [] => 0
  | d :: r => uptoBulk d + uptoBulkAll r
def uptoBulkEntries {H : Type} : List (Lit × DataW H) → Nat
  | [] => 0
  | x :: r => uptoBulkEntry x + uptoBulkEntries r
def uptoBulkEntry {H : Type} : Lit × DataW H → Nat
  | (.string bytes, d) => bytes.length + uptoBulk d + 1
  | (_, d) => uptoBulk d + 1
 end
def uptoSmall : (H : Type) → List (DataW H) → Bool := fun _ ds => decide (uptoBulkAll ds ≤ 1048576)
def OpenSpec.upto (s : _root_.Go.ChangeSpec) : _root_.Go.OpenSpec := { _root_.Go.OpenSpec.ofChange s with cond := some uptoSmall }

/-- 'plumblaw24.RingAreas', WHERE WHAT IT READS IS OF BULK AT MOST 1048576: true; the input reads as it did. -/
def ringAreasUptoRow : OpenClaim := { program := "ytfpofmifmapmfaagreatdoor", sum := "6d5532e6f50585d784a3035ba9d5f82f256256426b34dfe094345585b1e6ec36", func := "plumb/plumblaw24.RingAreas", spec := "ringAreas", unfollowed := true, recurses := true, named := ["plumb/near.stays"], apart := false, laid := [("plumb/near.stays", laid_plumb_near_stays)], narrowed := true }
def RingAreasUptoSaid : Prop := ringAreasUptoRow.holds Tryz.pinned (OpenSpec.upto ringAreasSpec)

/-- 'plumblaw24.RingSides', WHERE WHAT IT READS IS OF BULK AT MOST 1048576: true; the input reads as it did. -/
def ringSidesUptoRow : OpenClaim := { program := "ytfpofmifmapmfaagreatdoor", sum := "6d5532e6f50585d784a3035ba9d5f82f256256426b34dfe094345585b1e6ec36", func := "plumb/plumblaw24.RingSides", spec := "ringSides", unfollowed := true, recurses := true, named := ["plumb/near.stays"], apart := false, laid := [("plumb/near.stays", laid_plumb_near_stays)], narrowed := true }
def RingSidesUptoSaid : Prop := ringSidesUptoRow.holds Tryz.pinned (OpenSpec.upto ringSidesSpec)

/-- 'plumblaw24.RingBoxes', WHERE WHAT IT READS IS OF BULK AT MOST 1048576: true; the input reads as it did. -/
def ringBoxesUptoRow : OpenClaim := { program := "ytfpofmifmapmfaagreatdoor", sum := "6d5532e6f50585d784a3035ba9d5f82f256256426b34dfe094345585b1e6ec36", func := "plumb/plumblaw24.RingBoxes", spec := "ringBoxes", unfollowed := true, recurses := true, named := ["plumb/near.stays"], apart := false, laid := [("plumb/near.stays", laid_plumb_near_stays)], narrowed := true }
def RingBoxesUptoSaid : Prop := ringBoxesUptoRow.holds Tryz.pinned (OpenSpec.upto ringBoxesSpec)

/-- 'plumblaw24.RingMoved', WHERE WHAT IT READS IS OF BULK AT MOST 1048576: true; the input reads as it did. -/
def ringMovedUptoRow : OpenClaim := { program := "ytfpofmifmapmfaagreatdoor", sum := "6d5532e6f50585d784a3035ba9d5f82f256256426b34dfe094345585b1e6ec36", func := "plumb/plumblaw24.RingMoved", spec := "ringMoved", unfollowed := true, recurses := true, named := ["plumb/near.stays"], apart := false, laid := [("plumb/near.stays", laid_plumb_near_stays)], narrowed := true }
def RingMovedUptoSaid : Prop := ringMovedUptoRow.holds Tryz.pinned (OpenSpec.upto ringMovedSpec)

/-- 'plumblaw24.RingParts', WHERE WHAT IT READS IS OF BULK AT MOST 1048576: true; the input reads as it did. -/
def ringPartsUptoRow : OpenClaim := { program := "ytfpofmifmapmfaagreatdoor", sum := "6d5532e6f50585d784a3035ba9d5f82f256256426b34dfe094345585b1e6ec36", func := "plumb/plumblaw24.RingParts", spec := "ringParts", unfollowed := true, recurses := true, named := ["plumb/near.stays"], apart := false, laid := [("plumb/near.stays", laid_plumb_near_stays)], narrowed := true }
def RingPartsUptoSaid : Prop := ringPartsUptoRow.holds Tryz.pinned (OpenSpec.upto ringPartsSpec)

/-- 'plumblaw24.RingCorners', WHERE WHAT IT READS IS OF BULK AT MOST 1048576: true; the input reads as it did. -/
def ringCornersUptoRow : OpenClaim := { program := "ytfpofmifmapmfaagreatdoor", sum := "6d5532e6f50585d784a3035ba9d5f82f256256426b34dfe094345585b1e6ec36", func := "plumb/plumblaw24.RingCorners", spec := "ringCorners", unfollowed := true, recurses := true, named := ["plumb/near.stays"], apart := false, laid := [("plumb/near.stays", laid_plumb_near_stays)], narrowed := true }
def RingCornersUptoSaid : Prop := ringCornersUptoRow.holds Tryz.pinned (OpenSpec.upto ringCornersSpec)

/-- 'plumblaw24.RingStarts', WHERE WHAT IT READS IS OF BULK AT MOST 1048576: true; the input reads as it did. -/
def ringStartsUptoRow : OpenClaim := { program := "ytfpofmifmapmfaagreatdoor", sum := "6d5532e6f50585d784a3035ba9d5f82f256256426b34dfe094345585b1e6ec36", func := "plumb/plumblaw24.RingStarts", spec := "ringStarts", unfollowed := true, recurses := true, named := ["plumb/near.stays"], apart := false, laid := [("plumb/near.stays", laid_plumb_near_stays)], narrowed := true }
def RingStartsUptoSaid : Prop := ringStartsUptoRow.holds Tryz.pinned (OpenSpec.upto ringStartsSpec)

/-- 'plumblaw24.RingRound', WHERE WHAT IT READS IS OF BULK AT MOST 1048576: true; the input reads as it did. -/
def ringRoundUptoRow : OpenClaim := { program := "ytfpofmifmapmfaagreatdoor", sum := "6d5532e6f50585d784a3035ba9d5f82f256256426b34dfe094345585b1e6ec36", func := "plumb/plumblaw24.RingRound", spec := "ringRound", unfollowed := true, recurses := true, named := ["plumb/near.stays"], apart := false, laid := [("plumb/near.stays", laid_plumb_near_stays)], narrowed := true }
def RingRoundUptoSaid : Prop := ringRoundUptoRow.holds Tryz.pinned (OpenSpec.upto ringRoundSpec)

/-- 'plumblaw24.RingBegins', WHERE WHAT IT READS IS OF BULK AT MOST 1048576: true; the input reads as it did. -/
def ringBeginsUptoRow : OpenClaim := { program := "ytfpofmifmapmfaagreatdoor", sum := "6d5532e6f50585d784a3035ba9d5f82f256256426b34dfe094345585b1e6ec36", func := "plumb/plumblaw24.RingBegins", spec := "ringBegins", unfollowed := true, recurses := true, named := ["plumb/near.stays"], apart := false, laid := [("plumb/near.stays", laid_plumb_near_stays)], narrowed := true }
def RingBeginsUptoSaid : Prop := ringBeginsUptoRow.holds Tryz.pinned (OpenSpec.upto ringBeginsSpec)

/-- 'plumblaw24.RingFresh', WHERE WHAT IT READS IS OF BULK AT MOST 1048576: true; the input reads as it did. -/
def ringFreshUptoRow : OpenClaim := { program := "ytfpofmifmapmfaagreatdoor", sum := "6d5532e6f50585d784a3035ba9d5f82f256256426b34dfe094345585b1e6ec36", func := "plumb/plumblaw24.RingFresh", spec := "ringFresh", unfollowed := true, recurses := true, named := ["plumb/near.stays"], apart := false, laid := [("plumb/near.stays", laid_plumb_near_stays)], narrowed := true }
def RingFreshUptoSaid : Prop := ringFreshUptoRow.holds Tryz.pinned (OpenSpec.upto ringFreshSpec)

/-- 'plumblaw26.AffineOrder', WHERE WHAT IT READS IS OF BULK AT MOST 1048576: true; the input reads as it did. -/
def affineOrderUptoRow : OpenClaim := { program := "ytfpofmifmapmfaagreatdoor", sum := "6d5532e6f50585d784a3035ba9d5f82f256256426b34dfe094345585b1e6ec36", func := "plumb/plumblaw26.AffineOrder", spec := "affineOrder", unfollowed := true, recurses := true, named := ["plumb/near.stays"], loops := true, apart := false, laid := [("plumb/near.stays", laid_plumb_near_stays)], narrowed := true }
def AffineOrderUptoSaid : Prop := affineOrderUptoRow.holds Tryz.pinned (OpenSpec.upto affineOrderSpec)

/-- 'plumblaw26.AffineTwice', WHERE WHAT IT READS IS OF BULK AT MOST 1048576: true; the input reads as it did. -/
def affineTwiceUptoRow : OpenClaim := { program := "ytfpofmifmapmfaagreatdoor", sum := "6d5532e6f50585d784a3035ba9d5f82f256256426b34dfe094345585b1e6ec36", func := "plumb/plumblaw26.AffineTwice", spec := "affineTwice", unfollowed := true, recurses := true, named := ["plumb/near.stays"], apart := false, laid := [("plumb/near.stays", laid_plumb_near_stays)], narrowed := true }
def AffineTwiceUptoSaid : Prop := affineTwiceUptoRow.holds Tryz.pinned (OpenSpec.upto affineTwiceSpec)

end Rows
end Go.Proofs.YtfpofmifmapmfaaGreatDoor
