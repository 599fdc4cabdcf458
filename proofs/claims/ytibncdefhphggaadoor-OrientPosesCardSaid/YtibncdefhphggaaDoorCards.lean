/-
  DERIVED. GIVEN WITH THE SEED: THE CARDS: each row of YtibncdefhphggaaDoorRows.lean that lists a variable, with what it lists TIED to the program's text (the seventh form; the later family's looks); each row that meets fmt, with fmt's text TOLD by the authors' own Lean function (tested against real Go, not proved from fmt's source: count such statements apart). THE CARD IS WHAT COUNTS. Prove the row's statement (the work); the ties are given (YtibncdefhphggaaDoorTie.lean); close each card by the builder's one call (the guide's Derived/Test/ToyasCard.lean, 'card_holds'). Laid BY PROGRAM, IN A SANDBOX (cutbox-door.mjs). By AI agents, Wed Nov 11 2026. No macro, syntax, notation, axiom, sorry.
-/
import Derived.Test.YtibncdefhphggaaDoorRows
import GoSem.ClaimSeven
namespace Go.Proofs.YtibncdefhphggaaDoor
namespace Rows

/-- THE TIED CARD OF 'gangsawlaw28.OrientBoxes'. -/
def orientBoxesCard : Claim7 := { stood := { row := orientBoxesRow, standIns := [], harness := (true, "b45ebaff8e64017981d2538e62ac95c1ce686c7825d48336f20f0c3682e3a9c0"), looks := false }, kinds := [], alts := [], laidByText := true, laidKinds := [.data], laidTests := true, laidLooks := .later }
def OrientBoxesCardSaid : Prop := Claim7.holds Tryd.pinned (.plain (OpenSpec.ofChange orientBoxesSpec)) orientBoxesCard

/-- THE TIED CARD OF 'gangsawlaw28.OrientBeds'. -/
def orientBedsCard : Claim7 := { stood := { row := orientBedsRow, standIns := [], harness := (true, "b45ebaff8e64017981d2538e62ac95c1ce686c7825d48336f20f0c3682e3a9c0"), looks := false }, kinds := [], alts := [], laidByText := true, laidKinds := [.data], laidTests := true, laidLooks := .later }
def OrientBedsCardSaid : Prop := Claim7.holds Tryd.pinned (.plain (OpenSpec.ofChange orientBedsSpec)) orientBedsCard

/-- THE TIED CARD OF 'gangsawlaw28.OrientGroup'. -/
def orientGroupCard : Claim7 := { stood := { row := orientGroupRow, standIns := [], harness := (true, "b45ebaff8e64017981d2538e62ac95c1ce686c7825d48336f20f0c3682e3a9c0"), looks := false }, kinds := [], alts := [], laidByText := true, laidKinds := [.data], laidTests := true, laidLooks := .later }
def OrientGroupCardSaid : Prop := Claim7.holds Tryd.pinned (.plain (OpenSpec.ofChange orientGroupSpec)) orientGroupCard

/-- THE TIED CARD OF 'gangsawlaw28.OrientKeeps'. -/
def orientKeepsCard : Claim7 := { stood := { row := orientKeepsRow, standIns := [], harness := (true, "b45ebaff8e64017981d2538e62ac95c1ce686c7825d48336f20f0c3682e3a9c0"), looks := false }, kinds := [], alts := [], laidByText := true, laidKinds := [.data], laidTests := true, laidLooks := .later }
def OrientKeepsCardSaid : Prop := Claim7.holds Tryd.pinned (.plain (OpenSpec.ofChange orientKeepsSpec)) orientKeepsCard

/-- THE TIED CARD OF 'gangsawlaw28.OrientTurns'. -/
def orientTurnsCard : Claim7 := { stood := { row := orientTurnsRow, standIns := [], harness := (true, "b45ebaff8e64017981d2538e62ac95c1ce686c7825d48336f20f0c3682e3a9c0"), looks := false }, kinds := [], alts := [], laidByText := true, laidKinds := [.data], laidTests := true, laidLooks := .later }
def OrientTurnsCardSaid : Prop := Claim7.holds Tryd.pinned (.plain (OpenSpec.ofChange orientTurnsSpec)) orientTurnsCard

/-- THE TIED CARD OF 'gangsawlaw28.OrientPlaces'. -/
def orientPlacesCard : Claim7 := { stood := { row := orientPlacesRow, standIns := [], harness := (true, "b45ebaff8e64017981d2538e62ac95c1ce686c7825d48336f20f0c3682e3a9c0"), looks := false }, kinds := [], alts := [], laidByText := true, laidKinds := [.data], laidTests := true, laidLooks := .later }
def OrientPlacesCardSaid : Prop := Claim7.holds Tryd.pinned (.plain (OpenSpec.ofChange orientPlacesSpec)) orientPlacesCard

/-- THE TIED CARD OF 'gangsawlaw28.OrientUndoes'. -/
def orientUndoesCard : Claim7 := { stood := { row := orientUndoesRow, standIns := [], harness := (true, "b45ebaff8e64017981d2538e62ac95c1ce686c7825d48336f20f0c3682e3a9c0"), looks := false }, kinds := [], alts := [], laidByText := true, laidKinds := [.data], laidTests := true, laidLooks := .later }
def OrientUndoesCardSaid : Prop := Claim7.holds Tryd.pinned (.plain (OpenSpec.ofChange orientUndoesSpec)) orientUndoesCard

/-- THE TIED CARD OF 'gangsawlaw28.OrientPoses'. -/
def orientPosesCard : Claim7 := { stood := { row := orientPosesRow, standIns := [], harness := (true, "b45ebaff8e64017981d2538e62ac95c1ce686c7825d48336f20f0c3682e3a9c0"), looks := false }, kinds := [], alts := [], laidByText := true, laidKinds := [.data], laidTests := true, laidLooks := .later }
def OrientPosesCardSaid : Prop := Claim7.holds Tryd.pinned (.plain (OpenSpec.ofChange orientPosesSpec)) orientPosesCard

/-- THE SECOND FORM's CARD OF 'gangsawlaw28.OrientBoxes'. -/
def orientBoxesUptoCard : Claim7 := { stood := { row := orientBoxesUptoRow, standIns := [], harness := (true, "b45ebaff8e64017981d2538e62ac95c1ce686c7825d48336f20f0c3682e3a9c0"), looks := false }, kinds := [], alts := [], laidByText := true, laidKinds := [.data], laidTests := true, laidLooks := .later }
def OrientBoxesUptoCardSaid : Prop := Claim7.holds Tryd.pinned (.plain (OpenSpec.upto orientBoxesSpec)) orientBoxesUptoCard

/-- THE SECOND FORM's CARD OF 'gangsawlaw28.OrientBeds'. -/
def orientBedsUptoCard : Claim7 := { stood := { row := orientBedsUptoRow, standIns := [], harness := (true, "b45ebaff8e64017981d2538e62ac95c1ce686c7825d48336f20f0c3682e3a9c0"), looks := false }, kinds := [], alts := [], laidByText := true, laidKinds := [.data], laidTests := true, laidLooks := .later }
def OrientBedsUptoCardSaid : Prop := Claim7.holds Tryd.pinned (.plain (OpenSpec.upto orientBedsSpec)) orientBedsUptoCard

/-- THE SECOND FORM's CARD OF 'gangsawlaw28.OrientGroup'. -/
def orientGroupUptoCard : Claim7 := { stood := { row := orientGroupUptoRow, standIns := [], harness := (true, "b45ebaff8e64017981d2538e62ac95c1ce686c7825d48336f20f0c3682e3a9c0"), looks := false }, kinds := [], alts := [], laidByText := true, laidKinds := [.data], laidTests := true, laidLooks := .later }
def OrientGroupUptoCardSaid : Prop := Claim7.holds Tryd.pinned (.plain (OpenSpec.upto orientGroupSpec)) orientGroupUptoCard

/-- THE SECOND FORM's CARD OF 'gangsawlaw28.OrientKeeps'. -/
def orientKeepsUptoCard : Claim7 := { stood := { row := orientKeepsUptoRow, standIns := [], harness := (true, "b45ebaff8e64017981d2538e62ac95c1ce686c7825d48336f20f0c3682e3a9c0"), looks := false }, kinds := [], alts := [], laidByText := true, laidKinds := [.data], laidTests := true, laidLooks := .later }
def OrientKeepsUptoCardSaid : Prop := Claim7.holds Tryd.pinned (.plain (OpenSpec.upto orientKeepsSpec)) orientKeepsUptoCard

/-- THE SECOND FORM's CARD OF 'gangsawlaw28.OrientTurns'. -/
def orientTurnsUptoCard : Claim7 := { stood := { row := orientTurnsUptoRow, standIns := [], harness := (true, "b45ebaff8e64017981d2538e62ac95c1ce686c7825d48336f20f0c3682e3a9c0"), looks := false }, kinds := [], alts := [], laidByText := true, laidKinds := [.data], laidTests := true, laidLooks := .later }
def OrientTurnsUptoCardSaid : Prop := Claim7.holds Tryd.pinned (.plain (OpenSpec.upto orientTurnsSpec)) orientTurnsUptoCard

/-- THE SECOND FORM's CARD OF 'gangsawlaw28.OrientPlaces'. -/
def orientPlacesUptoCard : Claim7 := { stood := { row := orientPlacesUptoRow, standIns := [], harness := (true, "b45ebaff8e64017981d2538e62ac95c1ce686c7825d48336f20f0c3682e3a9c0"), looks := false }, kinds := [], alts := [], laidByText := true, laidKinds := [.data], laidTests := true, laidLooks := .later }
def OrientPlacesUptoCardSaid : Prop := Claim7.holds Tryd.pinned (.plain (OpenSpec.upto orientPlacesSpec)) orientPlacesUptoCard

/-- THE SECOND FORM's CARD OF 'gangsawlaw28.OrientUndoes'. -/
def orientUndoesUptoCard : Claim7 := { stood := { row := orientUndoesUptoRow, standIns := [], harness := (true, "b45ebaff8e64017981d2538e62ac95c1ce686c7825d48336f20f0c3682e3a9c0"), looks := false }, kinds := [], alts := [], laidByText := true, laidKinds := [.data], laidTests := true, laidLooks := .later }
def OrientUndoesUptoCardSaid : Prop := Claim7.holds Tryd.pinned (.plain (OpenSpec.upto orientUndoesSpec)) orientUndoesUptoCard

/-- THE SECOND FORM's CARD OF 'gangsawlaw28.OrientPoses'. -/
def orientPosesUptoCard : Claim7 := { stood := { row := orientPosesUptoRow, standIns := [], harness := (true, "b45ebaff8e64017981d2538e62ac95c1ce686c7825d48336f20f0c3682e3a9c0"), looks := false }, kinds := [], alts := [], laidByText := true, laidKinds := [.data], laidTests := true, laidLooks := .later }
def OrientPosesUptoCardSaid : Prop := Claim7.holds Tryd.pinned (.plain (OpenSpec.upto orientPosesSpec)) orientPosesUptoCard
end Rows
end Go.Proofs.YtibncdefhphggaaDoor
