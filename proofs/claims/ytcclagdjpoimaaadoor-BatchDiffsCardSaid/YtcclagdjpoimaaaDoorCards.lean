/-
  DERIVED. GIVEN WITH THE SEED: THE CARDS: each row of YtcclagdjpoimaaaDoorRows.lean that lists a variable, with what it lists TIED to the program's text (the seventh form; the later family's looks); each row that meets fmt, with fmt's text TOLD by the authors' own Lean function (tested against real Go, not proved from fmt's source: count such statements apart). THE CARD IS WHAT COUNTS. Prove the row's statement (the work); the ties are given (YtcclagdjpoimaaaDoorTie.lean); close each card by the builder's one call (the guide's Derived/Test/ToyasCard.lean, 'card_holds'). Laid BY PROGRAM, IN A SANDBOX (cutbox-door.mjs). By AI agents, Wed Nov 11 2026. No macro, syntax, notation, axiom, sorry.
-/
import Derived.Test.YtcclagdjpoimaaaDoorRows
import GoSem.ClaimSeven
namespace Go.Proofs.YtcclagdjpoimaaaDoor
namespace Rows

/-- THE TIED CARD OF 'sparsetreelaw12.BatchDiffs'. -/
def batchDiffsCard : Claim7 := { stood := { row := batchDiffsRow, standIns := [], harness := (true, "d5de45ee5310f763694901b72002aec3523f7ecda2fd719bed45aa60711e0cb0"), looks := true }, kinds := [], alts := [], laidByText := true, laidKinds := [.data], laidTests := true, laidLooks := .later }
def BatchDiffsCardSaid : Prop := Claim7.holds Tryd.pinned (.plain (OpenSpec.ofChange batchDiffsSpec)) batchDiffsCard

/-- THE SECOND FORM's CARD OF 'sparsetreelaw12.BatchDiffs'. -/
def batchDiffsUptoCard : Claim7 := { stood := { row := batchDiffsUptoRow, standIns := [], harness := (true, "d5de45ee5310f763694901b72002aec3523f7ecda2fd719bed45aa60711e0cb0"), looks := true }, kinds := [], alts := [], laidByText := true, laidKinds := [.data], laidTests := true, laidLooks := .later }
def BatchDiffsUptoCardSaid : Prop := Claim7.holds Tryd.pinned (.plain (OpenSpec.upto batchDiffsSpec)) batchDiffsUptoCard
end Rows
end Go.Proofs.YtcclagdjpoimaaaDoor
