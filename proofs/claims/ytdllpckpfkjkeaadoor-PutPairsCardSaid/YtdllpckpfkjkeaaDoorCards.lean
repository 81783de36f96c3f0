/-
  DERIVED. GIVEN WITH THE SEED: THE CARDS: each row of YtdllpckpfkjkeaaDoorRows.lean that lists a variable, with what it lists TIED to the program's text (the seventh form; the later family's looks); each row that meets fmt, with fmt's text TOLD by the authors' own Lean function (tested against real Go, not proved from fmt's source: count such statements apart). THE CARD IS WHAT COUNTS. Prove the row's statement (the work); the ties are given (YtdllpckpfkjkeaaDoorTie.lean); close each card by the builder's one call (the guide's Derived/Test/ToyasCard.lean, 'card_holds'). Laid BY PROGRAM, IN A SANDBOX (cutbox-door.mjs). By AI agents, Wed Nov 11 2026. No macro, syntax, notation, axiom, sorry.
-/
import Derived.Test.YtdllpckpfkjkeaaDoorRows
import GoSem.ClaimSeven
namespace Go.Proofs.YtdllpckpfkjkeaaDoor
namespace Rows

/-- THE TIED CARD OF 'sparsetreelaw09.PutCommutes'. -/
def putCommutesCard : Claim7 := { stood := { row := putCommutesRow, standIns := [], harness := (true, "ed12140ceb8f6bd037b7a18b210a7f619d4b7cd6987206398ed44456b6e0c00f"), looks := true }, kinds := [], alts := [], laidByText := true, laidKinds := [.data], laidTests := true, laidLooks := .later }
def PutCommutesCardSaid : Prop := Claim7.holds Tryd.pinned (.plain (OpenSpec.ofChange putCommutesSpec)) putCommutesCard

/-- THE TIED CARD OF 'sparsetreelaw09.PutPairs'. -/
def putPairsCard : Claim7 := { stood := { row := putPairsRow, standIns := [], harness := (true, "ed12140ceb8f6bd037b7a18b210a7f619d4b7cd6987206398ed44456b6e0c00f"), looks := true }, kinds := [], alts := [], laidByText := true, laidKinds := [.data], laidTests := true, laidLooks := .later }
def PutPairsCardSaid : Prop := Claim7.holds Tryd.pinned (.plain (OpenSpec.ofChange putPairsSpec)) putPairsCard

/-- THE TIED CARD OF 'sparsetreelaw09.PutPuts'. -/
def putPutsCard : Claim7 := { stood := { row := putPutsRow, standIns := [], harness := (true, "ed12140ceb8f6bd037b7a18b210a7f619d4b7cd6987206398ed44456b6e0c00f"), looks := true }, kinds := [], alts := [], laidByText := true, laidKinds := [.data], laidTests := true, laidLooks := .later }
def PutPutsCardSaid : Prop := Claim7.holds Tryd.pinned (.plain (OpenSpec.ofChange putPutsSpec)) putPutsCard

/-- THE TIED CARD OF 'sparsetreelaw09.PutShares'. -/
def putSharesCard : Claim7 := { stood := { row := putSharesRow, standIns := [], harness := (true, "ed12140ceb8f6bd037b7a18b210a7f619d4b7cd6987206398ed44456b6e0c00f"), looks := true }, kinds := [], alts := [], laidByText := true, laidKinds := [.data], laidTests := true, laidLooks := .later }
def PutSharesCardSaid : Prop := Claim7.holds Tryd.pinned (.plain (OpenSpec.ofChange putSharesSpec)) putSharesCard

/-- THE TIED CARD OF 'sparsetreelaw09.PutAll'. -/
def putAllCard : Claim7 := { stood := { row := putAllRow, standIns := [], harness := (true, "ed12140ceb8f6bd037b7a18b210a7f619d4b7cd6987206398ed44456b6e0c00f"), looks := true }, kinds := [], alts := [], laidByText := true, laidKinds := [.data], laidTests := true, laidLooks := .later }
def PutAllCardSaid : Prop := Claim7.holds Tryd.pinned (.plain (OpenSpec.ofChange putAllSpec)) putAllCard

/-- THE TIED CARD OF 'sparsetreelaw09.PutAt'. -/
def putAtCard : Claim7 := { stood := { row := putAtRow, standIns := [], harness := (true, "ed12140ceb8f6bd037b7a18b210a7f619d4b7cd6987206398ed44456b6e0c00f"), looks := true }, kinds := [], alts := [], laidByText := true, laidKinds := [.data], laidTests := true, laidLooks := .later }
def PutAtCardSaid : Prop := Claim7.holds Tryd.pinned (.plain (OpenSpec.ofChange putAtSpec)) putAtCard

/-- THE TIED CARD OF 'sparsetreelaw10.RemoveInverts'. -/
def removeInvertsCard : Claim7 := { stood := { row := removeInvertsRow, standIns := [], harness := (true, "ed12140ceb8f6bd037b7a18b210a7f619d4b7cd6987206398ed44456b6e0c00f"), looks := true }, kinds := [], alts := [], laidByText := true, laidKinds := [.data], laidTests := true, laidLooks := .later }
def RemoveInvertsCardSaid : Prop := Claim7.holds Tryd.pinned (.plain (OpenSpec.ofChange removeInvertsSpec)) removeInvertsCard

/-- THE TIED CARD OF 'sparsetreelaw10.RemoveKeeps'. -/
def removeKeepsCard : Claim7 := { stood := { row := removeKeepsRow, standIns := [], harness := (true, "ed12140ceb8f6bd037b7a18b210a7f619d4b7cd6987206398ed44456b6e0c00f"), looks := true }, kinds := [], alts := [], laidByText := true, laidKinds := [.data], laidTests := true, laidLooks := .later }
def RemoveKeepsCardSaid : Prop := Claim7.holds Tryd.pinned (.plain (OpenSpec.ofChange removeKeepsSpec)) removeKeepsCard

/-- THE TIED CARD OF 'sparsetreelaw10.RemoveAt'. -/
def removeAtCard : Claim7 := { stood := { row := removeAtRow, standIns := [], harness := (true, "ed12140ceb8f6bd037b7a18b210a7f619d4b7cd6987206398ed44456b6e0c00f"), looks := true }, kinds := [], alts := [], laidByText := true, laidKinds := [.data], laidTests := true, laidLooks := .later }
def RemoveAtCardSaid : Prop := Claim7.holds Tryd.pinned (.plain (OpenSpec.ofChange removeAtSpec)) removeAtCard

/-- THE TIED CARD OF 'sparsetreelaw10.RemoveRemoves'. -/
def removeRemovesCard : Claim7 := { stood := { row := removeRemovesRow, standIns := [], harness := (true, "ed12140ceb8f6bd037b7a18b210a7f619d4b7cd6987206398ed44456b6e0c00f"), looks := true }, kinds := [], alts := [], laidByText := true, laidKinds := [.data], laidTests := true, laidLooks := .later }
def RemoveRemovesCardSaid : Prop := Claim7.holds Tryd.pinned (.plain (OpenSpec.ofChange removeRemovesSpec)) removeRemovesCard

/-- THE TIED CARD OF 'sparsetreelaw10.RemoveAll'. -/
def removeAllCard : Claim7 := { stood := { row := removeAllRow, standIns := [], harness := (true, "ed12140ceb8f6bd037b7a18b210a7f619d4b7cd6987206398ed44456b6e0c00f"), looks := true }, kinds := [], alts := [], laidByText := true, laidKinds := [.data], laidTests := true, laidLooks := .later }
def RemoveAllCardSaid : Prop := Claim7.holds Tryd.pinned (.plain (OpenSpec.ofChange removeAllSpec)) removeAllCard

/-- THE TIED CARD OF 'sparsetreelaw10.RemovePrunes'. -/
def removePrunesCard : Claim7 := { stood := { row := removePrunesRow, standIns := [], harness := (true, "ed12140ceb8f6bd037b7a18b210a7f619d4b7cd6987206398ed44456b6e0c00f"), looks := true }, kinds := [], alts := [], laidByText := true, laidKinds := [.data], laidTests := true, laidLooks := .later }
def RemovePrunesCardSaid : Prop := Claim7.holds Tryd.pinned (.plain (OpenSpec.ofChange removePrunesSpec)) removePrunesCard

/-- THE SECOND FORM's CARD OF 'sparsetreelaw09.PutCommutes'. -/
def putCommutesUptoCard : Claim7 := { stood := { row := putCommutesUptoRow, standIns := [], harness := (true, "ed12140ceb8f6bd037b7a18b210a7f619d4b7cd6987206398ed44456b6e0c00f"), looks := true }, kinds := [], alts := [], laidByText := true, laidKinds := [.data], laidTests := true, laidLooks := .later }
def PutCommutesUptoCardSaid : Prop := Claim7.holds Tryd.pinned (.plain (OpenSpec.upto putCommutesSpec)) putCommutesUptoCard

/-- THE SECOND FORM's CARD OF 'sparsetreelaw09.PutPairs'. -/
def putPairsUptoCard : Claim7 := { stood := { row := putPairsUptoRow, standIns := [], harness := (true, "ed12140ceb8f6bd037b7a18b210a7f619d4b7cd6987206398ed44456b6e0c00f"), looks := true }, kinds := [], alts := [], laidByText := true, laidKinds := [.data], laidTests := true, laidLooks := .later }
def PutPairsUptoCardSaid : Prop := Claim7.holds Tryd.pinned (.plain (OpenSpec.upto putPairsSpec)) putPairsUptoCard

/-- THE SECOND FORM's CARD OF 'sparsetreelaw09.PutPuts'. -/
def putPutsUptoCard : Claim7 := { stood := { row := putPutsUptoRow, standIns := [], harness := (true, "ed12140ceb8f6bd037b7a18b210a7f619d4b7cd6987206398ed44456b6e0c00f"), looks := true }, kinds := [], alts := [], laidByText := true, laidKinds := [.data], laidTests := true, laidLooks := .later }
def PutPutsUptoCardSaid : Prop := Claim7.holds Tryd.pinned (.plain (OpenSpec.upto putPutsSpec)) putPutsUptoCard

/-- THE SECOND FORM's CARD OF 'sparsetreelaw09.PutShares'. -/
def putSharesUptoCard : Claim7 := { stood := { row := putSharesUptoRow, standIns := [], harness := (true, "ed12140ceb8f6bd037b7a18b210a7f619d4b7cd6987206398ed44456b6e0c00f"), looks := true }, kinds := [], alts := [], laidByText := true, laidKinds := [.data], laidTests := true, laidLooks := .later }
def PutSharesUptoCardSaid : Prop := Claim7.holds Tryd.pinned (.plain (OpenSpec.upto putSharesSpec)) putSharesUptoCard

/-- THE SECOND FORM's CARD OF 'sparsetreelaw09.PutAll'. -/
def putAllUptoCard : Claim7 := { stood := { row := putAllUptoRow, standIns := [], harness := (true, "ed12140ceb8f6bd037b7a18b210a7f619d4b7cd6987206398ed44456b6e0c00f"), looks := true }, kinds := [], alts := [], laidByText := true, laidKinds := [.data], laidTests := true, laidLooks := .later }
def PutAllUptoCardSaid : Prop := Claim7.holds Tryd.pinned (.plain (OpenSpec.upto putAllSpec)) putAllUptoCard

/-- THE SECOND FORM's CARD OF 'sparsetreelaw09.PutAt'. -/
def putAtUptoCard : Claim7 := { stood := { row := putAtUptoRow, standIns := [], harness := (true, "ed12140ceb8f6bd037b7a18b210a7f619d4b7cd6987206398ed44456b6e0c00f"), looks := true }, kinds := [], alts := [], laidByText := true, laidKinds := [.data], laidTests := true, laidLooks := .later }
def PutAtUptoCardSaid : Prop := Claim7.holds Tryd.pinned (.plain (OpenSpec.upto putAtSpec)) putAtUptoCard

/-- THE SECOND FORM's CARD OF 'sparsetreelaw10.RemoveInverts'. -/
def removeInvertsUptoCard : Claim7 := { stood := { row := removeInvertsUptoRow, standIns := [], harness := (true, "ed12140ceb8f6bd037b7a18b210a7f619d4b7cd6987206398ed44456b6e0c00f"), looks := true }, kinds := [], alts := [], laidByText := true, laidKinds := [.data], laidTests := true, laidLooks := .later }
def RemoveInvertsUptoCardSaid : Prop := Claim7.holds Tryd.pinned (.plain (OpenSpec.upto removeInvertsSpec)) removeInvertsUptoCard

/-- THE SECOND FORM's CARD OF 'sparsetreelaw10.RemoveKeeps'. -/
def removeKeepsUptoCard : Claim7 := { stood := { row := removeKeepsUptoRow, standIns := [], harness := (true, "ed12140ceb8f6bd037b7a18b210a7f619d4b7cd6987206398ed44456b6e0c00f"), looks := true }, kinds := [], alts := [], laidByText := true, laidKinds := [.data], laidTests := true, laidLooks := .later }
def RemoveKeepsUptoCardSaid : Prop := Claim7.holds Tryd.pinned (.plain (OpenSpec.upto removeKeepsSpec)) removeKeepsUptoCard

/-- THE SECOND FORM's CARD OF 'sparsetreelaw10.RemoveAt'. -/
def removeAtUptoCard : Claim7 := { stood := { row := removeAtUptoRow, standIns := [], harness := (true, "ed12140ceb8f6bd037b7a18b210a7f619d4b7cd6987206398ed44456b6e0c00f"), looks := true }, kinds := [], alts := [], laidByText := true, laidKinds := [.data], laidTests := true, laidLooks := .later }
def RemoveAtUptoCardSaid : Prop := Claim7.holds Tryd.pinned (.plain (OpenSpec.upto removeAtSpec)) removeAtUptoCard

/-- THE SECOND FORM's CARD OF 'sparsetreelaw10.RemoveRemoves'. -/
def removeRemovesUptoCard : Claim7 := { stood := { row := removeRemovesUptoRow, standIns := [], harness := (true, "ed12140ceb8f6bd037b7a18b210a7f619d4b7cd6987206398ed44456b6e0c00f"), looks := true }, kinds := [], alts := [], laidByText := true, laidKinds := [.data], laidTests := true, laidLooks := .later }
def RemoveRemovesUptoCardSaid : Prop := Claim7.holds Tryd.pinned (.plain (OpenSpec.upto removeRemovesSpec)) removeRemovesUptoCard

/-- THE SECOND FORM's CARD OF 'sparsetreelaw10.RemoveAll'. -/
def removeAllUptoCard : Claim7 := { stood := { row := removeAllUptoRow, standIns := [], harness := (true, "ed12140ceb8f6bd037b7a18b210a7f619d4b7cd6987206398ed44456b6e0c00f"), looks := true }, kinds := [], alts := [], laidByText := true, laidKinds := [.data], laidTests := true, laidLooks := .later }
def RemoveAllUptoCardSaid : Prop := Claim7.holds Tryd.pinned (.plain (OpenSpec.upto removeAllSpec)) removeAllUptoCard

/-- THE SECOND FORM's CARD OF 'sparsetreelaw10.RemovePrunes'. -/
def removePrunesUptoCard : Claim7 := { stood := { row := removePrunesUptoRow, standIns := [], harness := (true, "ed12140ceb8f6bd037b7a18b210a7f619d4b7cd6987206398ed44456b6e0c00f"), looks := true }, kinds := [], alts := [], laidByText := true, laidKinds := [.data], laidTests := true, laidLooks := .later }
def RemovePrunesUptoCardSaid : Prop := Claim7.holds Tryd.pinned (.plain (OpenSpec.upto removePrunesSpec)) removePrunesUptoCard
end Rows
end Go.Proofs.YtdllpckpfkjkeaaDoor
