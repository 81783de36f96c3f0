/-
  DERIVED. GIVEN WITH THE SEED: THE CARDS: each row of YthdcihakjomagaaDoorRows.lean that lists a variable, with what it lists TIED to the program's text (the seventh form; the later family's looks); each row that meets fmt, with fmt's text TOLD by the authors' own Lean function (tested against real Go, not proved from fmt's source: count such statements apart). THE CARD IS WHAT COUNTS. Prove the row's statement (the work); the ties are given (YthdcihakjomagaaDoorTie.lean); close each card by the builder's one call (the guide's Derived/Test/ToyasCard.lean, 'card_holds'). Laid BY PROGRAM, IN A SANDBOX (cutbox-door.mjs). By AI agents, Wed Nov 11 2026. No macro, syntax, notation, axiom, sorry.
-/
import Derived.Test.YthdcihakjomagaaDoorRows
import GoSem.ClaimSeven
namespace Go.Proofs.YthdcihakjomagaaDoor
namespace Rows

/-- THE TIED CARD OF 'sparsetreelaw11.WalkLists'. -/
def walkListsCard : Claim7 := { stood := { row := walkListsRow, standIns := [], harness := (true, "ab15c2484292e85209be64b01f7862d873b82ecbe6af0c4cfe148f30f2421f92"), looks := true }, kinds := [], alts := [], laidByText := true, laidKinds := [.data], laidTests := true, laidLooks := .later }
def WalkListsCardSaid : Prop := Claim7.holds Tryd.pinned (.plain (OpenSpec.ofChange walkListsSpec)) walkListsCard

/-- THE TIED CARD OF 'sparsetreelaw11.WalkStops'. -/
def walkStopsCard : Claim7 := { stood := { row := walkStopsRow, standIns := [], harness := (true, "ab15c2484292e85209be64b01f7862d873b82ecbe6af0c4cfe148f30f2421f92"), looks := true }, kinds := [], alts := [], laidByText := true, laidKinds := [.data], laidTests := true, laidLooks := .later }
def WalkStopsCardSaid : Prop := Claim7.holds Tryd.pinned (.plain (OpenSpec.ofChange walkStopsSpec)) walkStopsCard

/-- THE TIED CARD OF 'sparsetreelaw11.WalkFrom'. -/
def walkFromCard : Claim7 := { stood := { row := walkFromRow, standIns := [], harness := (true, "ab15c2484292e85209be64b01f7862d873b82ecbe6af0c4cfe148f30f2421f92"), looks := true }, kinds := [], alts := [], laidByText := true, laidKinds := [.data], laidTests := true, laidLooks := .later }
def WalkFromCardSaid : Prop := Claim7.holds Tryd.pinned (.plain (OpenSpec.ofChange walkFromSpec)) walkFromCard

/-- THE TIED CARD OF 'sparsetreelaw11.WalkRanks'. -/
def walkRanksCard : Claim7 := { stood := { row := walkRanksRow, standIns := [], harness := (true, "ab15c2484292e85209be64b01f7862d873b82ecbe6af0c4cfe148f30f2421f92"), looks := true }, kinds := [], alts := [], laidByText := true, laidKinds := [.data], laidTests := true, laidLooks := .later }
def WalkRanksCardSaid : Prop := Claim7.holds Tryd.pinned (.plain (OpenSpec.ofChange walkRanksSpec)) walkRanksCard

/-- THE TIED CARD OF 'sparsetreelaw11.WalkNth'. -/
def walkNthCard : Claim7 := { stood := { row := walkNthRow, standIns := [], harness := (true, "ab15c2484292e85209be64b01f7862d873b82ecbe6af0c4cfe148f30f2421f92"), looks := true }, kinds := [], alts := [], laidByText := true, laidKinds := [.data], laidTests := true, laidLooks := .later }
def WalkNthCardSaid : Prop := Claim7.holds Tryd.pinned (.plain (OpenSpec.ofChange walkNthSpec)) walkNthCard

/-- THE TIED CARD OF 'sparsetreelaw10.RemovePrunes'. -/
def removePrunesCard : Claim7 := { stood := { row := removePrunesRow, standIns := [], harness := (true, "ab15c2484292e85209be64b01f7862d873b82ecbe6af0c4cfe148f30f2421f92"), looks := true }, kinds := [], alts := [], laidByText := true, laidKinds := [.data], laidTests := true, laidLooks := .later }
def RemovePrunesCardSaid : Prop := Claim7.holds Tryd.pinned (.plain (OpenSpec.ofChange removePrunesSpec)) removePrunesCard

/-- THE TIED CARD OF 'sparsetreelaw11.WalkDepths'. -/
def walkDepthsCard : Claim7 := { stood := { row := walkDepthsRow, standIns := [], harness := (true, "ab15c2484292e85209be64b01f7862d873b82ecbe6af0c4cfe148f30f2421f92"), looks := true }, kinds := [], alts := [], laidByText := true, laidKinds := [.data], laidTests := true, laidLooks := .later }
def WalkDepthsCardSaid : Prop := Claim7.holds Tryd.pinned (.plain (OpenSpec.ofChange walkDepthsSpec)) walkDepthsCard

/-- THE SECOND FORM's CARD OF 'sparsetreelaw11.WalkLists'. -/
def walkListsUptoCard : Claim7 := { stood := { row := walkListsUptoRow, standIns := [], harness := (true, "ab15c2484292e85209be64b01f7862d873b82ecbe6af0c4cfe148f30f2421f92"), looks := true }, kinds := [], alts := [], laidByText := true, laidKinds := [.data], laidTests := true, laidLooks := .later }
def WalkListsUptoCardSaid : Prop := Claim7.holds Tryd.pinned (.plain (OpenSpec.upto walkListsSpec)) walkListsUptoCard

/-- THE SECOND FORM's CARD OF 'sparsetreelaw11.WalkStops'. -/
def walkStopsUptoCard : Claim7 := { stood := { row := walkStopsUptoRow, standIns := [], harness := (true, "ab15c2484292e85209be64b01f7862d873b82ecbe6af0c4cfe148f30f2421f92"), looks := true }, kinds := [], alts := [], laidByText := true, laidKinds := [.data], laidTests := true, laidLooks := .later }
def WalkStopsUptoCardSaid : Prop := Claim7.holds Tryd.pinned (.plain (OpenSpec.upto walkStopsSpec)) walkStopsUptoCard

/-- THE SECOND FORM's CARD OF 'sparsetreelaw11.WalkFrom'. -/
def walkFromUptoCard : Claim7 := { stood := { row := walkFromUptoRow, standIns := [], harness := (true, "ab15c2484292e85209be64b01f7862d873b82ecbe6af0c4cfe148f30f2421f92"), looks := true }, kinds := [], alts := [], laidByText := true, laidKinds := [.data], laidTests := true, laidLooks := .later }
def WalkFromUptoCardSaid : Prop := Claim7.holds Tryd.pinned (.plain (OpenSpec.upto walkFromSpec)) walkFromUptoCard

/-- THE SECOND FORM's CARD OF 'sparsetreelaw11.WalkRanks'. -/
def walkRanksUptoCard : Claim7 := { stood := { row := walkRanksUptoRow, standIns := [], harness := (true, "ab15c2484292e85209be64b01f7862d873b82ecbe6af0c4cfe148f30f2421f92"), looks := true }, kinds := [], alts := [], laidByText := true, laidKinds := [.data], laidTests := true, laidLooks := .later }
def WalkRanksUptoCardSaid : Prop := Claim7.holds Tryd.pinned (.plain (OpenSpec.upto walkRanksSpec)) walkRanksUptoCard

/-- THE SECOND FORM's CARD OF 'sparsetreelaw11.WalkNth'. -/
def walkNthUptoCard : Claim7 := { stood := { row := walkNthUptoRow, standIns := [], harness := (true, "ab15c2484292e85209be64b01f7862d873b82ecbe6af0c4cfe148f30f2421f92"), looks := true }, kinds := [], alts := [], laidByText := true, laidKinds := [.data], laidTests := true, laidLooks := .later }
def WalkNthUptoCardSaid : Prop := Claim7.holds Tryd.pinned (.plain (OpenSpec.upto walkNthSpec)) walkNthUptoCard

/-- THE SECOND FORM's CARD OF 'sparsetreelaw10.RemovePrunes'. -/
def removePrunesUptoCard : Claim7 := { stood := { row := removePrunesUptoRow, standIns := [], harness := (true, "ab15c2484292e85209be64b01f7862d873b82ecbe6af0c4cfe148f30f2421f92"), looks := true }, kinds := [], alts := [], laidByText := true, laidKinds := [.data], laidTests := true, laidLooks := .later }
def RemovePrunesUptoCardSaid : Prop := Claim7.holds Tryd.pinned (.plain (OpenSpec.upto removePrunesSpec)) removePrunesUptoCard

/-- THE SECOND FORM's CARD OF 'sparsetreelaw11.WalkDepths'. -/
def walkDepthsUptoCard : Claim7 := { stood := { row := walkDepthsUptoRow, standIns := [], harness := (true, "ab15c2484292e85209be64b01f7862d873b82ecbe6af0c4cfe148f30f2421f92"), looks := true }, kinds := [], alts := [], laidByText := true, laidKinds := [.data], laidTests := true, laidLooks := .later }
def WalkDepthsUptoCardSaid : Prop := Claim7.holds Tryd.pinned (.plain (OpenSpec.upto walkDepthsSpec)) walkDepthsUptoCard
end Rows
end Go.Proofs.YthdcihakjomagaaDoor
