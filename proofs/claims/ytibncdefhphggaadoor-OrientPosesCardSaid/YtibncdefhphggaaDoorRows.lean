/-
  NARROWER THAN 'FOR EVERY INPUT', by the rows' own cells (each row's printed sentence says how): OrientBoxes: laid · OrientBeds: laid · OrientGroup: laid · OrientKeeps: laid · OrientTurns: laid · OrientPlaces: laid · OrientUndoes: laid · OrientPoses: laid.
  DERIVED. THE GIVEN ROWS OF THIS SEAT. 8 by the template 'for every input the law returns true; each argument reads behind the call as it read before'; 0 by the template 'total and deterministic' (their statements: YtibncdefhphggaaDoorTotals.lean).
  GIVEN WITH THE SEED: the statements are not yours to turn. If you find one false, say at which input.
  Laid BY PROGRAM, IN A SANDBOX (cutbox-rows.mjs): the forced cells as the released guide's own fill.sh prints them over the translation 36207a9f1b9de544… (all of the seat's roots in one cut). By AI agents, Wed Nov 11 2026. No macro, syntax, notation, axiom, sorry.
-/
import Derived.Test.YtibncdefhphggaaDoorChecked
import GoSem.Claim
import GoSem.ClaimJoined
import GoSem.ClaimMapViews
import Derived.JoinedTies
import Derived.KernelRfl
namespace Go.Proofs.YtibncdefhphggaaDoor
/- THE CELL 'sum', in the pinned program and in every row, IS THE sha256 OF THE DUMP (.gsa) THAT YtibncdefhphggaaDoorProg.lean LOADS. Nothing in Lean hashes anything: it is a label: what it is worth is what the hold of that sum in a sandbox is worth. -/
noncomputable def Tryd.pinned : Pinned := { name := "ytibncdefhphggaadoor", sum := "36207a9f1b9de5447f9557ea98feb69c8b1f24929e4a7cd255673ec653bd947c", checked := Tryd.checked }
namespace Rows
def none {H : Type} : Left H := { results := [], args := [] }

/- WHAT THE LISTED PACKAGE-LEVEL VARIABLES READ AS WHEN THE CALL BEGINS. Each datum BY PROGRAM (the guide's laid-datum.mjs) off the statement by which the dump's own 'gosem.cut.vars' lays the variable. In a bare row this is a premise. The card (YtibncdefhphggaaDoorCards.lean) ties it to the program's text. -/
def laid_gangsaw_orient_units {H : Type} : DataW H := .agg [.agg [.lit (.int .i64 1), .lit (.int .i64 0), .lit (.int .i64 0)], .agg [.lit (.int .i64 (-1)), .lit (.int .i64 0), .lit (.int .i64 0)], .agg [.lit (.int .i64 0), .lit (.int .i64 1), .lit (.int .i64 0)], .agg [.lit (.int .i64 0), .lit (.int .i64 (-1)), .lit (.int .i64 0)], .agg [.lit (.int .i64 0), .lit (.int .i64 0), .lit (.int .i64 1)], .agg [.lit (.int .i64 0), .lit (.int .i64 0), .lit (.int .i64 (-1))]]

/-- 'gangsawlaw28.OrientBoxes': WHATEVER THE INPUT: true; the input reads as it did. -/
def orientBoxesSpec : ChangeSpec := { name := "orientBoxes", fn := fun _ => fun
  | [d1, d2, d3, d4] => { results := [.lit (.bool true)], args := [d1, d2, d3, d4] }
  | _ => none }
def orientBoxesRow : OpenClaim := { program := "ytibncdefhphggaadoor", sum := "36207a9f1b9de5447f9557ea98feb69c8b1f24929e4a7cd255673ec653bd947c", func := "gangsaw/gangsawlaw28.OrientBoxes", spec := "orientBoxes", unfollowed := true, recurses := true, named := ["gangsaw/orient.units"], apart := false, laid := [("gangsaw/orient.units", laid_gangsaw_orient_units)] }
def OrientBoxesSaid : Prop := orientBoxesRow.holds Tryd.pinned (OpenSpec.ofChange orientBoxesSpec)

/-- ITS FALSE NEIGHBOUR: 'it returns false'. Refute it at one input. -/
def orientBoxesWrong : ChangeSpec := { name := "orientBoxes", fn := fun _ => fun
  | [d1, d2, d3, d4] => { results := [.lit (.bool false)], args := [d1, d2, d3, d4] }
  | _ => none }
def OrientBoxesWrongFalsely : Prop := orientBoxesRow.holds Tryd.pinned (OpenSpec.ofChange orientBoxesWrong)

/-- 'gangsawlaw28.OrientBeds': WHATEVER THE INPUT: true; the input reads as it did. -/
def orientBedsSpec : ChangeSpec := { name := "orientBeds", fn := fun _ => fun
  | [d1, d2, d3, d4] => { results := [.lit (.bool true)], args := [d1, d2, d3, d4] }
  | _ => none }
def orientBedsRow : OpenClaim := { program := "ytibncdefhphggaadoor", sum := "36207a9f1b9de5447f9557ea98feb69c8b1f24929e4a7cd255673ec653bd947c", func := "gangsaw/gangsawlaw28.OrientBeds", spec := "orientBeds", unfollowed := true, recurses := true, named := ["gangsaw/orient.units"], apart := false, laid := [("gangsaw/orient.units", laid_gangsaw_orient_units)] }
def OrientBedsSaid : Prop := orientBedsRow.holds Tryd.pinned (OpenSpec.ofChange orientBedsSpec)

/-- ITS FALSE NEIGHBOUR: 'it returns false'. Refute it at one input. -/
def orientBedsWrong : ChangeSpec := { name := "orientBeds", fn := fun _ => fun
  | [d1, d2, d3, d4] => { results := [.lit (.bool false)], args := [d1, d2, d3, d4] }
  | _ => none }
def OrientBedsWrongFalsely : Prop := orientBedsRow.holds Tryd.pinned (OpenSpec.ofChange orientBedsWrong)

/-- 'gangsawlaw28.OrientGroup': WHATEVER THE INPUT: true; the input reads as it did. -/
def orientGroupSpec : ChangeSpec := { name := "orientGroup", fn := fun _ => fun
  | [d1, d2, d3, d4] => { results := [.lit (.bool true)], args := [d1, d2, d3, d4] }
  | _ => none }
def orientGroupRow : OpenClaim := { program := "ytibncdefhphggaadoor", sum := "36207a9f1b9de5447f9557ea98feb69c8b1f24929e4a7cd255673ec653bd947c", func := "gangsaw/gangsawlaw28.OrientGroup", spec := "orientGroup", unfollowed := true, recurses := true, named := ["gangsaw/orient.units"], apart := false, laid := [("gangsaw/orient.units", laid_gangsaw_orient_units)] }
def OrientGroupSaid : Prop := orientGroupRow.holds Tryd.pinned (OpenSpec.ofChange orientGroupSpec)

/-- ITS FALSE NEIGHBOUR: 'it returns false'. Refute it at one input. -/
def orientGroupWrong : ChangeSpec := { name := "orientGroup", fn := fun _ => fun
  | [d1, d2, d3, d4] => { results := [.lit (.bool false)], args := [d1, d2, d3, d4] }
  | _ => none }
def OrientGroupWrongFalsely : Prop := orientGroupRow.holds Tryd.pinned (OpenSpec.ofChange orientGroupWrong)

/-- 'gangsawlaw28.OrientKeeps': WHATEVER THE INPUT: true; the input reads as it did. -/
def orientKeepsSpec : ChangeSpec := { name := "orientKeeps", fn := fun _ => fun
  | [d1, d2, d3, d4] => { results := [.lit (.bool true)], args := [d1, d2, d3, d4] }
  | _ => none }
def orientKeepsRow : OpenClaim := { program := "ytibncdefhphggaadoor", sum := "36207a9f1b9de5447f9557ea98feb69c8b1f24929e4a7cd255673ec653bd947c", func := "gangsaw/gangsawlaw28.OrientKeeps", spec := "orientKeeps", unfollowed := true, recurses := true, named := ["gangsaw/orient.units"], apart := false, laid := [("gangsaw/orient.units", laid_gangsaw_orient_units)] }
def OrientKeepsSaid : Prop := orientKeepsRow.holds Tryd.pinned (OpenSpec.ofChange orientKeepsSpec)

/-- ITS FALSE NEIGHBOUR: 'it returns false'. Refute it at one input. -/
def orientKeepsWrong : ChangeSpec := { name := "orientKeeps", fn := fun _ => fun
  | [d1, d2, d3, d4] => { results := [.lit (.bool false)], args := [d1, d2, d3, d4] }
  | _ => none }
def OrientKeepsWrongFalsely : Prop := orientKeepsRow.holds Tryd.pinned (OpenSpec.ofChange orientKeepsWrong)

/-- 'gangsawlaw28.OrientTurns': WHATEVER THE INPUT: true; the input reads as it did. -/
def orientTurnsSpec : ChangeSpec := { name := "orientTurns", fn := fun _ => fun
  | [d1, d2, d3, d4] => { results := [.lit (.bool true)], args := [d1, d2, d3, d4] }
  | _ => none }
def orientTurnsRow : OpenClaim := { program := "ytibncdefhphggaadoor", sum := "36207a9f1b9de5447f9557ea98feb69c8b1f24929e4a7cd255673ec653bd947c", func := "gangsaw/gangsawlaw28.OrientTurns", spec := "orientTurns", unfollowed := true, recurses := true, named := ["gangsaw/orient.units"], apart := false, laid := [("gangsaw/orient.units", laid_gangsaw_orient_units)] }
def OrientTurnsSaid : Prop := orientTurnsRow.holds Tryd.pinned (OpenSpec.ofChange orientTurnsSpec)

/-- ITS FALSE NEIGHBOUR: 'it returns false'. Refute it at one input. -/
def orientTurnsWrong : ChangeSpec := { name := "orientTurns", fn := fun _ => fun
  | [d1, d2, d3, d4] => { results := [.lit (.bool false)], args := [d1, d2, d3, d4] }
  | _ => none }
def OrientTurnsWrongFalsely : Prop := orientTurnsRow.holds Tryd.pinned (OpenSpec.ofChange orientTurnsWrong)

/-- 'gangsawlaw28.OrientPlaces': WHATEVER THE INPUT: true; the input reads as it did. -/
def orientPlacesSpec : ChangeSpec := { name := "orientPlaces", fn := fun _ => fun
  | [d1, d2, d3] => { results := [.lit (.bool true)], args := [d1, d2, d3] }
  | _ => none }
def orientPlacesRow : OpenClaim := { program := "ytibncdefhphggaadoor", sum := "36207a9f1b9de5447f9557ea98feb69c8b1f24929e4a7cd255673ec653bd947c", func := "gangsaw/gangsawlaw28.OrientPlaces", spec := "orientPlaces", unfollowed := true, recurses := true, named := ["gangsaw/orient.units"], apart := false, laid := [("gangsaw/orient.units", laid_gangsaw_orient_units)] }
def OrientPlacesSaid : Prop := orientPlacesRow.holds Tryd.pinned (OpenSpec.ofChange orientPlacesSpec)

/-- ITS FALSE NEIGHBOUR: 'it returns false'. Refute it at one input. -/
def orientPlacesWrong : ChangeSpec := { name := "orientPlaces", fn := fun _ => fun
  | [d1, d2, d3] => { results := [.lit (.bool false)], args := [d1, d2, d3] }
  | _ => none }
def OrientPlacesWrongFalsely : Prop := orientPlacesRow.holds Tryd.pinned (OpenSpec.ofChange orientPlacesWrong)

/-- 'gangsawlaw28.OrientUndoes': WHATEVER THE INPUT: true; the input reads as it did. -/
def orientUndoesSpec : ChangeSpec := { name := "orientUndoes", fn := fun _ => fun
  | [d1, d2, d3] => { results := [.lit (.bool true)], args := [d1, d2, d3] }
  | _ => none }
def orientUndoesRow : OpenClaim := { program := "ytibncdefhphggaadoor", sum := "36207a9f1b9de5447f9557ea98feb69c8b1f24929e4a7cd255673ec653bd947c", func := "gangsaw/gangsawlaw28.OrientUndoes", spec := "orientUndoes", unfollowed := true, recurses := true, named := ["gangsaw/orient.units"], apart := false, laid := [("gangsaw/orient.units", laid_gangsaw_orient_units)] }
def OrientUndoesSaid : Prop := orientUndoesRow.holds Tryd.pinned (OpenSpec.ofChange orientUndoesSpec)

/-- ITS FALSE NEIGHBOUR: 'it returns false'. Refute it at one input. -/
def orientUndoesWrong : ChangeSpec := { name := "orientUndoes", fn := fun _ => fun
  | [d1, d2, d3] => { results := [.lit (.bool false)], args := [d1, d2, d3] }
  | _ => none }
def OrientUndoesWrongFalsely : Prop := orientUndoesRow.holds Tryd.pinned (OpenSpec.ofChange orientUndoesWrong)

/-- 'gangsawlaw28.OrientPoses': WHATEVER THE INPUT: true; the input reads as it did. -/
def orientPosesSpec : ChangeSpec := { name := "orientPoses", fn := fun _ => fun
  | [d1, d2, d3] => { results := [.lit (.bool true)], args := [d1, d2, d3] }
  | _ => none }
def orientPosesRow : OpenClaim := { program := "ytibncdefhphggaadoor", sum := "36207a9f1b9de5447f9557ea98feb69c8b1f24929e4a7cd255673ec653bd947c", func := "gangsaw/gangsawlaw28.OrientPoses", spec := "orientPoses", unfollowed := true, recurses := true, named := ["gangsaw/orient.units"], apart := false, laid := [("gangsaw/orient.units", laid_gangsaw_orient_units)] }
def OrientPosesSaid : Prop := orientPosesRow.holds Tryd.pinned (OpenSpec.ofChange orientPosesSpec)

/-- ITS FALSE NEIGHBOUR: 'it returns false'. Refute it at one input. -/
def orientPosesWrong : ChangeSpec := { name := "orientPoses", fn := fun _ => fun
  | [d1, d2, d3] => { results := [.lit (.bool false)], args := [d1, d2, d3] }
  | _ => none }
def OrientPosesWrongFalsely : Prop := orientPosesRow.holds Tryd.pinned (OpenSpec.ofChange orientPosesWrong)

/- THE SECOND FORM. 'bulk': how many values and letters a reading holds, each counted each time it is reached (what is shared counts as often as it is met; a slice's spare places count too). A statement '..UptoSaid' is the law's where the arguments, and the package variables that the reading takes, are together of bulk at most 1048576: NARROWER than '..Said'. Prove '..Said' where nothing that the law and all that it calls make is longer than what came in: it says more and counts as full. Else prove '..UptoSaid'. A law counts once. -/
mutual
def uptoBulk {H : Type} : DataW H → Nat
  | .lit (.string bytes) => bytes.length + 1
  | .lit _ => 1
  | .nil => 1
  | .ptr d => uptoBulk d + 1
  | .slice elems spare => uptoBulkAll elems + uptoBulkAll spare + 1
  | .agg parts => uptoBulkAll parts + 1
  | .iface _ d => uptoBulk d + 1
  | .map entries => uptoBulkEntries entries + 1
  | .held _ => 1
def uptoBulkAll {H : Type} : List (DataW H) → Nat
  | [] => 0
  | d :: r => uptoBulk d + uptoBulkAll r
def uptoBulkEntries {H : Type} : List (Lit × DataW H) → Nat
  | [] => 0
  | x :: r => uptoBulkEntry x + uptoBulkEntries r
def uptoBulkEntry {H : Type} : Lit × DataW H → Nat
  | (.string bytes, d) => bytes.length + uptoBulk d + 1
  | (_, d) => uptoBulk d + 1
 end
def uptoSmall : (H : Type) → List (DataW H) → Bool := fun _ ds => decide (uptoBulkAll ds ≤ 1048576)
def OpenSpec.upto (s : _root_.Go.ChangeSpec) : _root_.Go.OpenSpec := { _root_.Go.OpenSpec.ofChange s with cond := some uptoSmall }

/-- 'gangsawlaw28.OrientBoxes', WHERE WHAT IT READS IS OF BULK AT MOST 1048576: true; the input reads as it did. -/
def orientBoxesUptoRow : OpenClaim := { program := "ytibncdefhphggaadoor", sum := "36207a9f1b9de5447f9557ea98feb69c8b1f24929e4a7cd255673ec653bd947c", func := "gangsaw/gangsawlaw28.OrientBoxes", spec := "orientBoxes", unfollowed := true, recurses := true, named := ["gangsaw/orient.units"], apart := false, laid := [("gangsaw/orient.units", laid_gangsaw_orient_units)], narrowed := true }
def OrientBoxesUptoSaid : Prop := orientBoxesUptoRow.holds Tryd.pinned (OpenSpec.upto orientBoxesSpec)

/-- 'gangsawlaw28.OrientBeds', WHERE WHAT IT READS IS OF BULK AT MOST 1048576: true; the input reads as it did. -/
def orientBedsUptoRow : OpenClaim := { program := "ytibncdefhphggaadoor", sum := "36207a9f1b9de5447f9557ea98feb69c8b1f24929e4a7cd255673ec653bd947c", func := "gangsaw/gangsawlaw28.OrientBeds", spec := "orientBeds", unfollowed := true, recurses := true, named := ["gangsaw/orient.units"], apart := false, laid := [("gangsaw/orient.units", laid_gangsaw_orient_units)], narrowed := true }
def OrientBedsUptoSaid : Prop := orientBedsUptoRow.holds Tryd.pinned (OpenSpec.upto orientBedsSpec)

/-- 'gangsawlaw28.OrientGroup', WHERE WHAT IT READS IS OF BULK AT MOST 1048576: true; the input reads as it did. -/
def orientGroupUptoRow : OpenClaim := { program := "ytibncdefhphggaadoor", sum := "36207a9f1b9de5447f9557ea98feb69c8b1f24929e4a7cd255673ec653bd947c", func := "gangsaw/gangsawlaw28.OrientGroup", spec := "orientGroup", unfollowed := true, recurses := true, named := ["gangsaw/orient.units"], apart := false, laid := [("gangsaw/orient.units", laid_gangsaw_orient_units)], narrowed := true }
def OrientGroupUptoSaid : Prop := orientGroupUptoRow.holds Tryd.pinned (OpenSpec.upto orientGroupSpec)

/-- 'gangsawlaw28.OrientKeeps', WHERE WHAT IT READS IS OF BULK AT MOST 1048576: true; the input reads as it did. -/
def orientKeepsUptoRow : OpenClaim := { program := "ytibncdefhphggaadoor", sum := "36207a9f1b9de5447f9557ea98feb69c8b1f24929e4a7cd255673ec653bd947c", func := "gangsaw/gangsawlaw28.OrientKeeps", spec := "orientKeeps", unfollowed := true, recurses := true, named := ["gangsaw/orient.units"], apart := false, laid := [("gangsaw/orient.units", laid_gangsaw_orient_units)], narrowed := true }
def OrientKeepsUptoSaid : Prop := orientKeepsUptoRow.holds Tryd.pinned (OpenSpec.upto orientKeepsSpec)

/-- 'gangsawlaw28.OrientTurns', WHERE WHAT IT READS IS OF BULK AT MOST 1048576: true; the input reads as it did. -/
def orientTurnsUptoRow : OpenClaim := { program := "ytibncdefhphggaadoor", sum := "36207a9f1b9de5447f9557ea98feb69c8b1f24929e4a7cd255673ec653bd947c", func := "gangsaw/gangsawlaw28.OrientTurns", spec := "orientTurns", unfollowed := true, recurses := true, named := ["gangsaw/orient.units"], apart := false, laid := [("gangsaw/orient.units", laid_gangsaw_orient_units)], narrowed := true }
def OrientTurnsUptoSaid : Prop := orientTurnsUptoRow.holds Tryd.pinned (OpenSpec.upto orientTurnsSpec)

/-- 'gangsawlaw28.OrientPlaces', WHERE WHAT IT READS IS OF BULK AT MOST 1048576: true; the input reads as it did. -/
def orientPlacesUptoRow : OpenClaim := { program := "ytibncdefhphggaadoor", sum := "36207a9f1b9de5447f9557ea98feb69c8b1f24929e4a7cd255673ec653bd947c", func := "gangsaw/gangsawlaw28.OrientPlaces", spec := "orientPlaces", unfollowed := true, recurses := true, named := ["gangsaw/orient.units"], apart := false, laid := [("gangsaw/orient.units", laid_gangsaw_orient_units)], narrowed := true }
def OrientPlacesUptoSaid : Prop := orientPlacesUptoRow.holds Tryd.pinned (OpenSpec.upto orientPlacesSpec)

/-- 'gangsawlaw28.OrientUndoes', WHERE WHAT IT READS IS OF BULK AT MOST 1048576: true; the input reads as it did. -/
def orientUndoesUptoRow : OpenClaim := { program := "ytibncdefhphggaadoor", sum := "36207a9f1b9de5447f9557ea98feb69c8b1f24929e4a7cd255673ec653bd947c", func := "gangsaw/gangsawlaw28.OrientUndoes", spec := "orientUndoes", unfollowed := true, recurses := true, named := ["gangsaw/orient.units"], apart := false, laid := [("gangsaw/orient.units", laid_gangsaw_orient_units)], narrowed := true }
def OrientUndoesUptoSaid : Prop := orientUndoesUptoRow.holds Tryd.pinned (OpenSpec.upto orientUndoesSpec)

/-- 'gangsawlaw28.OrientPoses', WHERE WHAT IT READS IS OF BULK AT MOST 1048576: true; the input reads as it did. -/
def orientPosesUptoRow : OpenClaim := { program := "ytibncdefhphggaadoor", sum := "36207a9f1b9de5447f9557ea98feb69c8b1f24929e4a7cd255673ec653bd947c", func := "gangsaw/gangsawlaw28.OrientPoses", spec := "orientPoses", unfollowed := true, recurses := true, named := ["gangsaw/orient.units"], apart := false, laid := [("gangsaw/orient.units", laid_gangsaw_orient_units)], narrowed := true }
def OrientPosesUptoSaid : Prop := orientPosesUptoRow.holds Tryd.pinned (OpenSpec.upto orientPosesSpec)

end Rows
end Go.Proofs.YtibncdefhphggaaDoor
