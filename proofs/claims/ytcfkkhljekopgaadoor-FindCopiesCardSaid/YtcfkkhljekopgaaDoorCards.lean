/-
  DERIVED. GIVEN WITH THE SEED: THE CARDS: each row of YtcfkkhljekopgaaDoorRows.lean that lists a variable, with what it lists TIED to the program's text (the seventh form; the later family's looks); each row that meets fmt, with fmt's text TOLD by the authors' own Lean function (tested against real Go, not proved from fmt's source: count such statements apart). THE CARD IS WHAT COUNTS. Prove the row's statement (the work); the ties are given (YtcfkkhljekopgaaDoorTie.lean); close each card by the builder's one call (the guide's Derived/Test/ToyasCard.lean, 'card_holds'). Laid BY PROGRAM, IN A SANDBOX (cutbox-door.mjs). By AI agents, Wed Nov 11 2026. No macro, syntax, notation, axiom, sorry.
-/
import Derived.Test.YtcfkkhljekopgaaDoorRows
import GoSem.ClaimSeven
namespace Go.Proofs.YtcfkkhljekopgaaDoor
namespace Rows

/-- THE TIED CARD OF 'sparsetreelaw05.DigestForks'. -/
def digestForksCard : Claim7 := { stood := { row := digestForksRow, standIns := [], harness := (true, "34fc71c5bdd00707c7133990365f698983799f9e58484d18aa7f03b9568e2f76"), looks := true }, kinds := [], alts := [], laidByText := true, laidKinds := [.data], laidTests := true, laidLooks := .later }
def DigestForksCardSaid : Prop := Claim7.holds Tryd.pinned (.plain (OpenSpec.ofChange digestForksSpec)) digestForksCard

/-- THE TIED CARD OF 'sparsetreelaw05.DigestNil'. -/
def digestNilCard : Claim7 := { stood := { row := digestNilRow, standIns := [], harness := (true, "34fc71c5bdd00707c7133990365f698983799f9e58484d18aa7f03b9568e2f76"), looks := true }, kinds := [], alts := [], laidByText := true, laidKinds := [.data], laidTests := true, laidLooks := .later }
def DigestNilCardSaid : Prop := Claim7.holds Tryd.pinned (.plain (OpenSpec.ofChange digestNilSpec)) digestNilCard

/-- THE TIED CARD OF 'sparsetreelaw06.PreimageLeafOf'. -/
def preimageLeafOfCard : Claim7 := { stood := { row := preimageLeafOfRow, standIns := [], harness := (true, "34fc71c5bdd00707c7133990365f698983799f9e58484d18aa7f03b9568e2f76"), looks := true }, kinds := [], alts := [], laidByText := true, laidKinds := [.data], laidTests := true, laidLooks := .later }
def PreimageLeafOfCardSaid : Prop := Claim7.holds Tryd.pinned (.plain (OpenSpec.ofChange preimageLeafOfSpec)) preimageLeafOfCard

/-- THE TIED CARD OF 'sparsetreelaw07.NodeDigests'. -/
def nodeDigestsCard : Claim7 := { stood := { row := nodeDigestsRow, standIns := [], harness := (true, "34fc71c5bdd00707c7133990365f698983799f9e58484d18aa7f03b9568e2f76"), looks := true }, kinds := [], alts := [], laidByText := true, laidKinds := [.data], laidTests := true, laidLooks := .later }
def NodeDigestsCardSaid : Prop := Claim7.holds Tryd.pinned (.plain (OpenSpec.ofChange nodeDigestsSpec)) nodeDigestsCard

/-- THE TIED CARD OF 'sparsetreelaw07.NodeKeeps'. -/
def nodeKeepsCard : Claim7 := { stood := { row := nodeKeepsRow, standIns := [], harness := (true, "34fc71c5bdd00707c7133990365f698983799f9e58484d18aa7f03b9568e2f76"), looks := true }, kinds := [], alts := [], laidByText := true, laidKinds := [.data], laidTests := true, laidLooks := .later }
def NodeKeepsCardSaid : Prop := Claim7.holds Tryd.pinned (.plain (OpenSpec.ofChange nodeKeepsSpec)) nodeKeepsCard

/-- THE TIED CARD OF 'sparsetreelaw07.NodeLeaves'. -/
def nodeLeavesCard : Claim7 := { stood := { row := nodeLeavesRow, standIns := [], harness := (true, "34fc71c5bdd00707c7133990365f698983799f9e58484d18aa7f03b9568e2f76"), looks := true }, kinds := [], alts := [], laidByText := true, laidKinds := [.data], laidTests := true, laidLooks := .later }
def NodeLeavesCardSaid : Prop := Claim7.holds Tryd.pinned (.plain (OpenSpec.ofChange nodeLeavesSpec)) nodeLeavesCard

/-- THE TIED CARD OF 'sparsetreelaw07.NodeNil'. -/
def nodeNilCard : Claim7 := { stood := { row := nodeNilRow, standIns := [], harness := (true, "34fc71c5bdd00707c7133990365f698983799f9e58484d18aa7f03b9568e2f76"), looks := true }, kinds := [], alts := [], laidByText := true, laidKinds := [.data], laidTests := true, laidLooks := .later }
def NodeNilCardSaid : Prop := Claim7.holds Tryd.pinned (.plain (OpenSpec.ofChange nodeNilSpec)) nodeNilCard

/-- THE TIED CARD OF 'sparsetreelaw07.NodeCaches'. -/
def nodeCachesCard : Claim7 := { stood := { row := nodeCachesRow, standIns := [], harness := (true, "34fc71c5bdd00707c7133990365f698983799f9e58484d18aa7f03b9568e2f76"), looks := true }, kinds := [], alts := [], laidByText := true, laidKinds := [.data], laidTests := true, laidLooks := .later }
def NodeCachesCardSaid : Prop := Claim7.holds Tryd.pinned (.plain (OpenSpec.ofChange nodeCachesSpec)) nodeCachesCard

/-- THE TIED CARD OF 'sparsetreelaw08.FindLocates'. -/
def findLocatesCard : Claim7 := { stood := { row := findLocatesRow, standIns := [], harness := (true, "34fc71c5bdd00707c7133990365f698983799f9e58484d18aa7f03b9568e2f76"), looks := true }, kinds := [], alts := [], laidByText := true, laidKinds := [.data], laidTests := true, laidLooks := .later }
def FindLocatesCardSaid : Prop := Claim7.holds Tryd.pinned (.plain (OpenSpec.ofChange findLocatesSpec)) findLocatesCard

/-- THE TIED CARD OF 'sparsetreelaw08.FindGets'. -/
def findGetsCard : Claim7 := { stood := { row := findGetsRow, standIns := [], harness := (true, "34fc71c5bdd00707c7133990365f698983799f9e58484d18aa7f03b9568e2f76"), looks := true }, kinds := [], alts := [], laidByText := true, laidKinds := [.data], laidTests := true, laidLooks := .later }
def FindGetsCardSaid : Prop := Claim7.holds Tryd.pinned (.plain (OpenSpec.ofChange findGetsSpec)) findGetsCard

/-- THE TIED CARD OF 'sparsetreelaw08.FindSiblings'. -/
def findSiblingsCard : Claim7 := { stood := { row := findSiblingsRow, standIns := [], harness := (true, "34fc71c5bdd00707c7133990365f698983799f9e58484d18aa7f03b9568e2f76"), looks := true }, kinds := [], alts := [], laidByText := true, laidKinds := [.data], laidTests := true, laidLooks := .later }
def FindSiblingsCardSaid : Prop := Claim7.holds Tryd.pinned (.plain (OpenSpec.ofChange findSiblingsSpec)) findSiblingsCard

/-- THE TIED CARD OF 'sparsetreelaw08.FindWays'. -/
def findWaysCard : Claim7 := { stood := { row := findWaysRow, standIns := [], harness := (true, "34fc71c5bdd00707c7133990365f698983799f9e58484d18aa7f03b9568e2f76"), looks := true }, kinds := [], alts := [], laidByText := true, laidKinds := [.data], laidTests := true, laidLooks := .later }
def FindWaysCardSaid : Prop := Claim7.holds Tryd.pinned (.plain (OpenSpec.ofChange findWaysSpec)) findWaysCard

/-- THE TIED CARD OF 'sparsetreelaw08.FindUnder'. -/
def findUnderCard : Claim7 := { stood := { row := findUnderRow, standIns := [], harness := (true, "34fc71c5bdd00707c7133990365f698983799f9e58484d18aa7f03b9568e2f76"), looks := true }, kinds := [], alts := [], laidByText := true, laidKinds := [.data], laidTests := true, laidLooks := .later }
def FindUnderCardSaid : Prop := Claim7.holds Tryd.pinned (.plain (OpenSpec.ofChange findUnderSpec)) findUnderCard

/-- THE TIED CARD OF 'sparsetreelaw08.FindCopies'. -/
def findCopiesCard : Claim7 := { stood := { row := findCopiesRow, standIns := [], harness := (true, "34fc71c5bdd00707c7133990365f698983799f9e58484d18aa7f03b9568e2f76"), looks := true }, kinds := [], alts := [], laidByText := true, laidKinds := [.data], laidTests := true, laidLooks := .later }
def FindCopiesCardSaid : Prop := Claim7.holds Tryd.pinned (.plain (OpenSpec.ofChange findCopiesSpec)) findCopiesCard

/-- THE SECOND FORM's CARD OF 'sparsetreelaw05.DigestForks'. -/
def digestForksUptoCard : Claim7 := { stood := { row := digestForksUptoRow, standIns := [], harness := (true, "34fc71c5bdd00707c7133990365f698983799f9e58484d18aa7f03b9568e2f76"), looks := true }, kinds := [], alts := [], laidByText := true, laidKinds := [.data], laidTests := true, laidLooks := .later }
def DigestForksUptoCardSaid : Prop := Claim7.holds Tryd.pinned (.plain (OpenSpec.upto digestForksSpec)) digestForksUptoCard

/-- THE SECOND FORM's CARD OF 'sparsetreelaw05.DigestNil'. -/
def digestNilUptoCard : Claim7 := { stood := { row := digestNilUptoRow, standIns := [], harness := (true, "34fc71c5bdd00707c7133990365f698983799f9e58484d18aa7f03b9568e2f76"), looks := true }, kinds := [], alts := [], laidByText := true, laidKinds := [.data], laidTests := true, laidLooks := .later }
def DigestNilUptoCardSaid : Prop := Claim7.holds Tryd.pinned (.plain (OpenSpec.upto digestNilSpec)) digestNilUptoCard

/-- THE SECOND FORM's CARD OF 'sparsetreelaw06.PreimageLeafOf'. -/
def preimageLeafOfUptoCard : Claim7 := { stood := { row := preimageLeafOfUptoRow, standIns := [], harness := (true, "34fc71c5bdd00707c7133990365f698983799f9e58484d18aa7f03b9568e2f76"), looks := true }, kinds := [], alts := [], laidByText := true, laidKinds := [.data], laidTests := true, laidLooks := .later }
def PreimageLeafOfUptoCardSaid : Prop := Claim7.holds Tryd.pinned (.plain (OpenSpec.upto preimageLeafOfSpec)) preimageLeafOfUptoCard

/-- THE SECOND FORM's CARD OF 'sparsetreelaw07.NodeDigests'. -/
def nodeDigestsUptoCard : Claim7 := { stood := { row := nodeDigestsUptoRow, standIns := [], harness := (true, "34fc71c5bdd00707c7133990365f698983799f9e58484d18aa7f03b9568e2f76"), looks := true }, kinds := [], alts := [], laidByText := true, laidKinds := [.data], laidTests := true, laidLooks := .later }
def NodeDigestsUptoCardSaid : Prop := Claim7.holds Tryd.pinned (.plain (OpenSpec.upto nodeDigestsSpec)) nodeDigestsUptoCard

/-- THE SECOND FORM's CARD OF 'sparsetreelaw07.NodeKeeps'. -/
def nodeKeepsUptoCard : Claim7 := { stood := { row := nodeKeepsUptoRow, standIns := [], harness := (true, "34fc71c5bdd00707c7133990365f698983799f9e58484d18aa7f03b9568e2f76"), looks := true }, kinds := [], alts := [], laidByText := true, laidKinds := [.data], laidTests := true, laidLooks := .later }
def NodeKeepsUptoCardSaid : Prop := Claim7.holds Tryd.pinned (.plain (OpenSpec.upto nodeKeepsSpec)) nodeKeepsUptoCard

/-- THE SECOND FORM's CARD OF 'sparsetreelaw07.NodeLeaves'. -/
def nodeLeavesUptoCard : Claim7 := { stood := { row := nodeLeavesUptoRow, standIns := [], harness := (true, "34fc71c5bdd00707c7133990365f698983799f9e58484d18aa7f03b9568e2f76"), looks := true }, kinds := [], alts := [], laidByText := true, laidKinds := [.data], laidTests := true, laidLooks := .later }
def NodeLeavesUptoCardSaid : Prop := Claim7.holds Tryd.pinned (.plain (OpenSpec.upto nodeLeavesSpec)) nodeLeavesUptoCard

/-- THE SECOND FORM's CARD OF 'sparsetreelaw07.NodeNil'. -/
def nodeNilUptoCard : Claim7 := { stood := { row := nodeNilUptoRow, standIns := [], harness := (true, "34fc71c5bdd00707c7133990365f698983799f9e58484d18aa7f03b9568e2f76"), looks := true }, kinds := [], alts := [], laidByText := true, laidKinds := [.data], laidTests := true, laidLooks := .later }
def NodeNilUptoCardSaid : Prop := Claim7.holds Tryd.pinned (.plain (OpenSpec.upto nodeNilSpec)) nodeNilUptoCard

/-- THE SECOND FORM's CARD OF 'sparsetreelaw07.NodeCaches'. -/
def nodeCachesUptoCard : Claim7 := { stood := { row := nodeCachesUptoRow, standIns := [], harness := (true, "34fc71c5bdd00707c7133990365f698983799f9e58484d18aa7f03b9568e2f76"), looks := true }, kinds := [], alts := [], laidByText := true, laidKinds := [.data], laidTests := true, laidLooks := .later }
def NodeCachesUptoCardSaid : Prop := Claim7.holds Tryd.pinned (.plain (OpenSpec.upto nodeCachesSpec)) nodeCachesUptoCard

/-- THE SECOND FORM's CARD OF 'sparsetreelaw08.FindLocates'. -/
def findLocatesUptoCard : Claim7 := { stood := { row := findLocatesUptoRow, standIns := [], harness := (true, "34fc71c5bdd00707c7133990365f698983799f9e58484d18aa7f03b9568e2f76"), looks := true }, kinds := [], alts := [], laidByText := true, laidKinds := [.data], laidTests := true, laidLooks := .later }
def FindLocatesUptoCardSaid : Prop := Claim7.holds Tryd.pinned (.plain (OpenSpec.upto findLocatesSpec)) findLocatesUptoCard

/-- THE SECOND FORM's CARD OF 'sparsetreelaw08.FindGets'. -/
def findGetsUptoCard : Claim7 := { stood := { row := findGetsUptoRow, standIns := [], harness := (true, "34fc71c5bdd00707c7133990365f698983799f9e58484d18aa7f03b9568e2f76"), looks := true }, kinds := [], alts := [], laidByText := true, laidKinds := [.data], laidTests := true, laidLooks := .later }
def FindGetsUptoCardSaid : Prop := Claim7.holds Tryd.pinned (.plain (OpenSpec.upto findGetsSpec)) findGetsUptoCard

/-- THE SECOND FORM's CARD OF 'sparsetreelaw08.FindSiblings'. -/
def findSiblingsUptoCard : Claim7 := { stood := { row := findSiblingsUptoRow, standIns := [], harness := (true, "34fc71c5bdd00707c7133990365f698983799f9e58484d18aa7f03b9568e2f76"), looks := true }, kinds := [], alts := [], laidByText := true, laidKinds := [.data], laidTests := true, laidLooks := .later }
def FindSiblingsUptoCardSaid : Prop := Claim7.holds Tryd.pinned (.plain (OpenSpec.upto findSiblingsSpec)) findSiblingsUptoCard

/-- THE SECOND FORM's CARD OF 'sparsetreelaw08.FindWays'. -/
def findWaysUptoCard : Claim7 := { stood := { row := findWaysUptoRow, standIns := [], harness := (true, "34fc71c5bdd00707c7133990365f698983799f9e58484d18aa7f03b9568e2f76"), looks := true }, kinds := [], alts := [], laidByText := true, laidKinds := [.data], laidTests := true, laidLooks := .later }
def FindWaysUptoCardSaid : Prop := Claim7.holds Tryd.pinned (.plain (OpenSpec.upto findWaysSpec)) findWaysUptoCard

/-- THE SECOND FORM's CARD OF 'sparsetreelaw08.FindUnder'. -/
def findUnderUptoCard : Claim7 := { stood := { row := findUnderUptoRow, standIns := [], harness := (true, "34fc71c5bdd00707c7133990365f698983799f9e58484d18aa7f03b9568e2f76"), looks := true }, kinds := [], alts := [], laidByText := true, laidKinds := [.data], laidTests := true, laidLooks := .later }
def FindUnderUptoCardSaid : Prop := Claim7.holds Tryd.pinned (.plain (OpenSpec.upto findUnderSpec)) findUnderUptoCard

/-- THE SECOND FORM's CARD OF 'sparsetreelaw08.FindCopies'. -/
def findCopiesUptoCard : Claim7 := { stood := { row := findCopiesUptoRow, standIns := [], harness := (true, "34fc71c5bdd00707c7133990365f698983799f9e58484d18aa7f03b9568e2f76"), looks := true }, kinds := [], alts := [], laidByText := true, laidKinds := [.data], laidTests := true, laidLooks := .later }
def FindCopiesUptoCardSaid : Prop := Claim7.holds Tryd.pinned (.plain (OpenSpec.upto findCopiesSpec)) findCopiesUptoCard
end Rows
end Go.Proofs.YtcfkkhljekopgaaDoor
