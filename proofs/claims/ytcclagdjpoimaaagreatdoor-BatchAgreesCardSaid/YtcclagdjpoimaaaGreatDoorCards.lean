/-
  DERIVED. GIVEN WITH THE SEED: THE CARDS: each row of YtcclagdjpoimaaaGreatDoorRows.lean that lists a variable, with what it lists TIED to the program's text (the seventh form; the later family's looks); each row that meets fmt, with fmt's text TOLD by the authors' own Lean function (tested against real Go, not proved from fmt's source: count such statements apart). THE CARD IS WHAT COUNTS. Prove the row's statement (the work); the ties are given (YtcclagdjpoimaaaGreatDoorTie.lean); close each card by the builder's one call (the guide's Derived/Test/ToyasCard.lean, 'card_holds'). Laid BY PROGRAM, IN A SANDBOX (cutbox-door.mjs). By AI agents, Wed Nov 11 2026. No macro, syntax, notation, axiom, sorry.
-/
import Derived.Test.YtcclagdjpoimaaaGreatDoorRows
import GoSem.ClaimSeven
namespace Go.Proofs.YtcclagdjpoimaaaGreatDoor
namespace Rows

/-- THE TIED CARD OF 'sparsetreelaw12.BatchBuilds'. -/
def batchBuildsCard : Claim7 := { stood := { row := batchBuildsRow, standIns := [], harness := (true, "94fa388005d74961b225534e87049c559adb9e85a2e177fe1cd60f08436c588e"), looks := true }, kinds := [], alts := [], laidByText := true, laidKinds := [.data], laidTests := true, laidLooks := .later }
def BatchBuildsCardSaid : Prop := Claim7.holds Tryz.pinned (.plain (OpenSpec.ofChange batchBuildsSpec)) batchBuildsCard

/-- THE TIED CARD OF 'sparsetreelaw12.BatchApplies'. -/
def batchAppliesCard : Claim7 := { stood := { row := batchAppliesRow, standIns := [], harness := (true, "94fa388005d74961b225534e87049c559adb9e85a2e177fe1cd60f08436c588e"), looks := true }, kinds := [], alts := [], laidByText := true, laidKinds := [.data], laidTests := true, laidLooks := .later }
def BatchAppliesCardSaid : Prop := Claim7.holds Tryz.pinned (.plain (OpenSpec.ofChange batchAppliesSpec)) batchAppliesCard

/-- THE TIED CARD OF 'sparsetreelaw12.BatchLeads'. -/
def batchLeadsCard : Claim7 := { stood := { row := batchLeadsRow, standIns := [], harness := (true, "94fa388005d74961b225534e87049c559adb9e85a2e177fe1cd60f08436c588e"), looks := true }, kinds := [], alts := [], laidByText := true, laidKinds := [.data], laidTests := true, laidLooks := .later }
def BatchLeadsCardSaid : Prop := Claim7.holds Tryz.pinned (.plain (OpenSpec.ofChange batchLeadsSpec)) batchLeadsCard

/-- THE TIED CARD OF 'sparsetreelaw12.BatchUndoes'. -/
def batchUndoesCard : Claim7 := { stood := { row := batchUndoesRow, standIns := [], harness := (true, "94fa388005d74961b225534e87049c559adb9e85a2e177fe1cd60f08436c588e"), looks := true }, kinds := [], alts := [], laidByText := true, laidKinds := [.data], laidTests := true, laidLooks := .later }
def BatchUndoesCardSaid : Prop := Claim7.holds Tryz.pinned (.plain (OpenSpec.ofChange batchUndoesSpec)) batchUndoesCard

/-- THE TIED CARD OF 'sparsetreelaw12.BatchAgrees'. -/
def batchAgreesCard : Claim7 := { stood := { row := batchAgreesRow, standIns := [], harness := (true, "94fa388005d74961b225534e87049c559adb9e85a2e177fe1cd60f08436c588e"), looks := true }, kinds := [], alts := [], laidByText := true, laidKinds := [.data], laidTests := true, laidLooks := .later }
def BatchAgreesCardSaid : Prop := Claim7.holds Tryz.pinned (.plain (OpenSpec.ofChange batchAgreesSpec)) batchAgreesCard

/-- THE SECOND FORM's CARD OF 'sparsetreelaw12.BatchBuilds'. -/
def batchBuildsUptoCard : Claim7 := { stood := { row := batchBuildsUptoRow, standIns := [], harness := (true, "94fa388005d74961b225534e87049c559adb9e85a2e177fe1cd60f08436c588e"), looks := true }, kinds := [], alts := [], laidByText := true, laidKinds := [.data], laidTests := true, laidLooks := .later }
def BatchBuildsUptoCardSaid : Prop := Claim7.holds Tryz.pinned (.plain (OpenSpec.upto batchBuildsSpec)) batchBuildsUptoCard

/-- THE SECOND FORM's CARD OF 'sparsetreelaw12.BatchApplies'. -/
def batchAppliesUptoCard : Claim7 := { stood := { row := batchAppliesUptoRow, standIns := [], harness := (true, "94fa388005d74961b225534e87049c559adb9e85a2e177fe1cd60f08436c588e"), looks := true }, kinds := [], alts := [], laidByText := true, laidKinds := [.data], laidTests := true, laidLooks := .later }
def BatchAppliesUptoCardSaid : Prop := Claim7.holds Tryz.pinned (.plain (OpenSpec.upto batchAppliesSpec)) batchAppliesUptoCard

/-- THE SECOND FORM's CARD OF 'sparsetreelaw12.BatchLeads'. -/
def batchLeadsUptoCard : Claim7 := { stood := { row := batchLeadsUptoRow, standIns := [], harness := (true, "94fa388005d74961b225534e87049c559adb9e85a2e177fe1cd60f08436c588e"), looks := true }, kinds := [], alts := [], laidByText := true, laidKinds := [.data], laidTests := true, laidLooks := .later }
def BatchLeadsUptoCardSaid : Prop := Claim7.holds Tryz.pinned (.plain (OpenSpec.upto batchLeadsSpec)) batchLeadsUptoCard

/-- THE SECOND FORM's CARD OF 'sparsetreelaw12.BatchUndoes'. -/
def batchUndoesUptoCard : Claim7 := { stood := { row := batchUndoesUptoRow, standIns := [], harness := (true, "94fa388005d74961b225534e87049c559adb9e85a2e177fe1cd60f08436c588e"), looks := true }, kinds := [], alts := [], laidByText := true, laidKinds := [.data], laidTests := true, laidLooks := .later }
def BatchUndoesUptoCardSaid : Prop := Claim7.holds Tryz.pinned (.plain (OpenSpec.upto batchUndoesSpec)) batchUndoesUptoCard

/-- THE SECOND FORM's CARD OF 'sparsetreelaw12.BatchAgrees'. -/
def batchAgreesUptoCard : Claim7 := { stood := { row := batchAgreesUptoRow, standIns := [], harness := (true, "94fa388005d74961b225534e87049c559adb9e85a2e177fe1cd60f08436c588e"), looks := true }, kinds := [], alts := [], laidByText := true, laidKinds := [.data], laidTests := true, laidLooks := .later }
def BatchAgreesUptoCardSaid : Prop := Claim7.holds Tryz.pinned (.plain (OpenSpec.upto batchAgreesSpec)) batchAgreesUptoCard
end Rows
end Go.Proofs.YtcclagdjpoimaaaGreatDoor
