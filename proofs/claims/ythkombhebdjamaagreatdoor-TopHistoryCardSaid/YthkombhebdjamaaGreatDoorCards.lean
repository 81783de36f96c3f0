/-
  DERIVED. GIVEN WITH THE SEED: THE CARDS: each row of YthkombhebdjamaaGreatDoorRows.lean that lists a variable, with what it lists TIED to the program's text (the seventh form; the later family's looks); each row that meets fmt, with fmt's text TOLD by the authors' own Lean function (tested against real Go, not proved from fmt's source: count such statements apart). THE CARD IS WHAT COUNTS. Prove the row's statement (the work); the ties are given (YthkombhebdjamaaGreatDoorTie.lean); close each card by the builder's one call (the guide's Derived/Test/ToyasCard.lean, 'card_holds'). Laid BY PROGRAM, IN A SANDBOX (cutbox-door.mjs). By AI agents, Wed Nov 11 2026. No macro, syntax, notation, axiom, sorry.
-/
import Derived.Test.YthkombhebdjamaaGreatDoorRows
import GoSem.ClaimSeven
namespace Go.Proofs.YthkombhebdjamaaGreatDoor
namespace Rows

/-- THE TIED CARD OF 'sparsetreetop.TopComplete'. -/
def topCompleteCard : Claim7 := { stood := { row := topCompleteRow, standIns := [], harness := (true, "40e2fceaf9b8ea083805adf3f5d8c1d4e8e3e6194204d307168aa9fd24199c95"), looks := true }, kinds := [], alts := [], laidByText := true, laidKinds := [.handle, .data], laidTests := true, laidLooks := .later }
def TopCompleteCardSaid : Prop := Claim7.holds Tryz.pinned (.plain (OpenSpec.ofChange topCompleteSpec)) topCompleteCard

/-- THE TIED CARD OF 'sparsetreetop.TopStale'. -/
def topStaleCard : Claim7 := { stood := { row := topStaleRow, standIns := [], harness := (true, "40e2fceaf9b8ea083805adf3f5d8c1d4e8e3e6194204d307168aa9fd24199c95"), looks := true }, kinds := [], alts := [], laidByText := true, laidKinds := [.handle, .data], laidTests := true, laidLooks := .later }
def TopStaleCardSaid : Prop := Claim7.holds Tryz.pinned (.plain (OpenSpec.ofChange topStaleSpec)) topStaleCard

/-- THE TIED CARD OF 'sparsetreetop.TopErrors'. -/
def topErrorsCard : Claim7 := { stood := { row := topErrorsRow, standIns := [], harness := (true, "40e2fceaf9b8ea083805adf3f5d8c1d4e8e3e6194204d307168aa9fd24199c95"), looks := true }, kinds := [], alts := [], laidByText := true, laidKinds := [.handle, .data], laidTests := true, laidLooks := .later }
def TopErrorsCardSaid : Prop := Claim7.holds Tryz.pinned (.plain (OpenSpec.ofChange topErrorsSpec)) topErrorsCard

/-- THE TIED CARD OF 'sparsetreetop.TopHistory'. -/
def topHistoryCard : Claim7 := { stood := { row := topHistoryRow, standIns := [], harness := (true, "40e2fceaf9b8ea083805adf3f5d8c1d4e8e3e6194204d307168aa9fd24199c95"), looks := true }, kinds := [], alts := [], laidByText := true, laidKinds := [.handle, .data], laidTests := true, laidLooks := .later }
def TopHistoryCardSaid : Prop := Claim7.holds Tryz.pinned (.plain (OpenSpec.ofChange topHistorySpec)) topHistoryCard

/-- THE SECOND FORM's CARD OF 'sparsetreetop.TopComplete'. -/
def topCompleteUptoCard : Claim7 := { stood := { row := topCompleteUptoRow, standIns := [], harness := (true, "40e2fceaf9b8ea083805adf3f5d8c1d4e8e3e6194204d307168aa9fd24199c95"), looks := true }, kinds := [], alts := [], laidByText := true, laidKinds := [.handle, .data], laidTests := true, laidLooks := .later }
def TopCompleteUptoCardSaid : Prop := Claim7.holds Tryz.pinned (.plain (OpenSpec.upto topCompleteSpec)) topCompleteUptoCard

/-- THE SECOND FORM's CARD OF 'sparsetreetop.TopStale'. -/
def topStaleUptoCard : Claim7 := { stood := { row := topStaleUptoRow, standIns := [], harness := (true, "40e2fceaf9b8ea083805adf3f5d8c1d4e8e3e6194204d307168aa9fd24199c95"), looks := true }, kinds := [], alts := [], laidByText := true, laidKinds := [.handle, .data], laidTests := true, laidLooks := .later }
def TopStaleUptoCardSaid : Prop := Claim7.holds Tryz.pinned (.plain (OpenSpec.upto topStaleSpec)) topStaleUptoCard

/-- THE SECOND FORM's CARD OF 'sparsetreetop.TopErrors'. -/
def topErrorsUptoCard : Claim7 := { stood := { row := topErrorsUptoRow, standIns := [], harness := (true, "40e2fceaf9b8ea083805adf3f5d8c1d4e8e3e6194204d307168aa9fd24199c95"), looks := true }, kinds := [], alts := [], laidByText := true, laidKinds := [.handle, .data], laidTests := true, laidLooks := .later }
def TopErrorsUptoCardSaid : Prop := Claim7.holds Tryz.pinned (.plain (OpenSpec.upto topErrorsSpec)) topErrorsUptoCard

/-- THE SECOND FORM's CARD OF 'sparsetreetop.TopHistory'. -/
def topHistoryUptoCard : Claim7 := { stood := { row := topHistoryUptoRow, standIns := [], harness := (true, "40e2fceaf9b8ea083805adf3f5d8c1d4e8e3e6194204d307168aa9fd24199c95"), looks := true }, kinds := [], alts := [], laidByText := true, laidKinds := [.handle, .data], laidTests := true, laidLooks := .later }
def TopHistoryUptoCardSaid : Prop := Claim7.holds Tryz.pinned (.plain (OpenSpec.upto topHistorySpec)) topHistoryUptoCard
end Rows
end Go.Proofs.YthkombhebdjamaaGreatDoor
