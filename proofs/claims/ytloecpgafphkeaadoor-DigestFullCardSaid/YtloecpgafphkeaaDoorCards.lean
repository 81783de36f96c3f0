/-
  DERIVED. GIVEN WITH THE SEED: THE CARDS: each row of YtloecpgafphkeaaDoorRows.lean that lists a variable, with what it lists TIED to the program's text (the seventh form; the later family's looks); each row that meets fmt, with fmt's text TOLD by the authors' own Lean function (tested against real Go, not proved from fmt's source: count such statements apart). THE CARD IS WHAT COUNTS. Prove the row's statement (the work); the ties are given (YtloecpgafphkeaaDoorTie.lean); close each card by the builder's one call (the guide's Derived/Test/ToyasCard.lean, 'card_holds'). Laid BY PROGRAM, IN A SANDBOX (cutbox-door.mjs). By AI agents, Wed Nov 11 2026. No macro, syntax, notation, axiom, sorry.
-/
import Derived.Test.YtloecpgafphkeaaDoorRows
import GoSem.ClaimSeven
namespace Go.Proofs.YtloecpgafphkeaaDoor
namespace Rows

/-- THE TIED CARD OF 'sparsetreelaw04.ShaPads'. -/
def shaPadsCard : Claim7 := { stood := { row := shaPadsRow, standIns := [], harness := (true, "2a44cb886a38236b09f988e33cfb2511c3dfaa3866df4fcaf007d49f22c8a5a6"), looks := false }, kinds := [], alts := [], laidByText := true, laidKinds := [.data], laidTests := true, laidLooks := .later }
def ShaPadsCardSaid : Prop := Claim7.holds Tryd.pinned (.plain (OpenSpec.ofChange shaPadsSpec)) shaPadsCard

/-- THE TIED CARD OF 'sparsetreelaw04.ShaBlocks'. -/
def shaBlocksCard : Claim7 := { stood := { row := shaBlocksRow, standIns := [], harness := (true, "2a44cb886a38236b09f988e33cfb2511c3dfaa3866df4fcaf007d49f22c8a5a6"), looks := false }, kinds := [], alts := [], laidByText := true, laidKinds := [.data], laidTests := true, laidLooks := .later }
def ShaBlocksCardSaid : Prop := Claim7.holds Tryd.pinned (.plain (OpenSpec.ofChange shaBlocksSpec)) shaBlocksCard

/-- THE TIED CARD OF 'sparsetreelaw04.ShaJoins'. -/
def shaJoinsCard : Claim7 := { stood := { row := shaJoinsRow, standIns := [], harness := (true, "2a44cb886a38236b09f988e33cfb2511c3dfaa3866df4fcaf007d49f22c8a5a6"), looks := false }, kinds := [], alts := [], laidByText := true, laidKinds := [.data], laidTests := true, laidLooks := .later }
def ShaJoinsCardSaid : Prop := Claim7.holds Tryd.pinned (.plain (OpenSpec.ofChange shaJoinsSpec)) shaJoinsCard

/-- THE TIED CARD OF 'sparsetreelaw04.ShaEmpty'. -/
def shaEmptyCard : Claim7 := { stood := { row := shaEmptyRow, standIns := [], harness := (true, "2a44cb886a38236b09f988e33cfb2511c3dfaa3866df4fcaf007d49f22c8a5a6"), looks := false }, kinds := [], alts := [], laidByText := true, laidKinds := [.data], laidTests := true, laidLooks := .later }
def ShaEmptyCardSaid : Prop := Claim7.holds Tryd.pinned (.plain (OpenSpec.ofChange shaEmptySpec)) shaEmptyCard

/-- THE TIED CARD OF 'sparsetreelaw05.DigestStarts'. -/
def digestStartsCard : Claim7 := { stood := { row := digestStartsRow, standIns := [], harness := (true, "2a44cb886a38236b09f988e33cfb2511c3dfaa3866df4fcaf007d49f22c8a5a6"), looks := false }, kinds := [], alts := [], laidByText := true, laidKinds := [.data], laidTests := true, laidLooks := .later }
def DigestStartsCardSaid : Prop := Claim7.holds Tryd.pinned (.plain (OpenSpec.ofChange digestStartsSpec)) digestStartsCard

/-- THE TIED CARD OF 'sparsetreelaw05.DigestCuts'. -/
def digestCutsCard : Claim7 := { stood := { row := digestCutsRow, standIns := [], harness := (true, "2a44cb886a38236b09f988e33cfb2511c3dfaa3866df4fcaf007d49f22c8a5a6"), looks := false }, kinds := [], alts := [], laidByText := true, laidKinds := [.data], laidTests := true, laidLooks := .later }
def DigestCutsCardSaid : Prop := Claim7.holds Tryd.pinned (.plain (OpenSpec.ofChange digestCutsSpec)) digestCutsCard

/-- THE TIED CARD OF 'sparsetreelaw05.DigestSums'. -/
def digestSumsCard : Claim7 := { stood := { row := digestSumsRow, standIns := [], harness := (true, "2a44cb886a38236b09f988e33cfb2511c3dfaa3866df4fcaf007d49f22c8a5a6"), looks := false }, kinds := [], alts := [], laidByText := true, laidKinds := [.data], laidTests := true, laidLooks := .later }
def DigestSumsCardSaid : Prop := Claim7.holds Tryd.pinned (.plain (OpenSpec.ofChange digestSumsSpec)) digestSumsCard

/-- THE TIED CARD OF 'sparsetreelaw05.DigestFull'. -/
def digestFullCard : Claim7 := { stood := { row := digestFullRow, standIns := [], harness := (true, "2a44cb886a38236b09f988e33cfb2511c3dfaa3866df4fcaf007d49f22c8a5a6"), looks := false }, kinds := [], alts := [], laidByText := true, laidKinds := [.data], laidTests := true, laidLooks := .later }
def DigestFullCardSaid : Prop := Claim7.holds Tryd.pinned (.plain (OpenSpec.ofChange digestFullSpec)) digestFullCard

/-- THE TIED CARD OF 'sparsetreelaw04.ShaMatchesReference'. -/
def shaMatchesReferenceCard : Claim7 := { stood := { row := shaMatchesReferenceRow, standIns := [], harness := (true, "2a44cb886a38236b09f988e33cfb2511c3dfaa3866df4fcaf007d49f22c8a5a6"), looks := false }, kinds := [], alts := [], laidByText := true, laidKinds := [.data], laidTests := true, laidLooks := .later }
def ShaMatchesReferenceCardSaid : Prop := Claim7.holds Tryd.pinned (.plain (OpenSpec.ofChange shaMatchesReferenceSpec)) shaMatchesReferenceCard

/-- THE TIED CARD OF 'sparsetreelaw04.ShaOwns'. -/
def shaOwnsCard : Claim7 := { stood := { row := shaOwnsRow, standIns := [], harness := (true, "2a44cb886a38236b09f988e33cfb2511c3dfaa3866df4fcaf007d49f22c8a5a6"), looks := false }, kinds := [], alts := [], laidByText := true, laidKinds := [.data], laidTests := true, laidLooks := .later }
def ShaOwnsCardSaid : Prop := Claim7.holds Tryd.pinned (.plain (OpenSpec.ofChange shaOwnsSpec)) shaOwnsCard

/-- THE SECOND FORM's CARD OF 'sparsetreelaw04.ShaPads'. -/
def shaPadsUptoCard : Claim7 := { stood := { row := shaPadsUptoRow, standIns := [], harness := (true, "2a44cb886a38236b09f988e33cfb2511c3dfaa3866df4fcaf007d49f22c8a5a6"), looks := false }, kinds := [], alts := [], laidByText := true, laidKinds := [.data], laidTests := true, laidLooks := .later }
def ShaPadsUptoCardSaid : Prop := Claim7.holds Tryd.pinned (.plain (OpenSpec.upto shaPadsSpec)) shaPadsUptoCard

/-- THE SECOND FORM's CARD OF 'sparsetreelaw04.ShaBlocks'. -/
def shaBlocksUptoCard : Claim7 := { stood := { row := shaBlocksUptoRow, standIns := [], harness := (true, "2a44cb886a38236b09f988e33cfb2511c3dfaa3866df4fcaf007d49f22c8a5a6"), looks := false }, kinds := [], alts := [], laidByText := true, laidKinds := [.data], laidTests := true, laidLooks := .later }
def ShaBlocksUptoCardSaid : Prop := Claim7.holds Tryd.pinned (.plain (OpenSpec.upto shaBlocksSpec)) shaBlocksUptoCard

/-- THE SECOND FORM's CARD OF 'sparsetreelaw04.ShaJoins'. -/
def shaJoinsUptoCard : Claim7 := { stood := { row := shaJoinsUptoRow, standIns := [], harness := (true, "2a44cb886a38236b09f988e33cfb2511c3dfaa3866df4fcaf007d49f22c8a5a6"), looks := false }, kinds := [], alts := [], laidByText := true, laidKinds := [.data], laidTests := true, laidLooks := .later }
def ShaJoinsUptoCardSaid : Prop := Claim7.holds Tryd.pinned (.plain (OpenSpec.upto shaJoinsSpec)) shaJoinsUptoCard

/-- THE SECOND FORM's CARD OF 'sparsetreelaw04.ShaEmpty'. -/
def shaEmptyUptoCard : Claim7 := { stood := { row := shaEmptyUptoRow, standIns := [], harness := (true, "2a44cb886a38236b09f988e33cfb2511c3dfaa3866df4fcaf007d49f22c8a5a6"), looks := false }, kinds := [], alts := [], laidByText := true, laidKinds := [.data], laidTests := true, laidLooks := .later }
def ShaEmptyUptoCardSaid : Prop := Claim7.holds Tryd.pinned (.plain (OpenSpec.upto shaEmptySpec)) shaEmptyUptoCard

/-- THE SECOND FORM's CARD OF 'sparsetreelaw05.DigestStarts'. -/
def digestStartsUptoCard : Claim7 := { stood := { row := digestStartsUptoRow, standIns := [], harness := (true, "2a44cb886a38236b09f988e33cfb2511c3dfaa3866df4fcaf007d49f22c8a5a6"), looks := false }, kinds := [], alts := [], laidByText := true, laidKinds := [.data], laidTests := true, laidLooks := .later }
def DigestStartsUptoCardSaid : Prop := Claim7.holds Tryd.pinned (.plain (OpenSpec.upto digestStartsSpec)) digestStartsUptoCard

/-- THE SECOND FORM's CARD OF 'sparsetreelaw05.DigestCuts'. -/
def digestCutsUptoCard : Claim7 := { stood := { row := digestCutsUptoRow, standIns := [], harness := (true, "2a44cb886a38236b09f988e33cfb2511c3dfaa3866df4fcaf007d49f22c8a5a6"), looks := false }, kinds := [], alts := [], laidByText := true, laidKinds := [.data], laidTests := true, laidLooks := .later }
def DigestCutsUptoCardSaid : Prop := Claim7.holds Tryd.pinned (.plain (OpenSpec.upto digestCutsSpec)) digestCutsUptoCard

/-- THE SECOND FORM's CARD OF 'sparsetreelaw05.DigestSums'. -/
def digestSumsUptoCard : Claim7 := { stood := { row := digestSumsUptoRow, standIns := [], harness := (true, "2a44cb886a38236b09f988e33cfb2511c3dfaa3866df4fcaf007d49f22c8a5a6"), looks := false }, kinds := [], alts := [], laidByText := true, laidKinds := [.data], laidTests := true, laidLooks := .later }
def DigestSumsUptoCardSaid : Prop := Claim7.holds Tryd.pinned (.plain (OpenSpec.upto digestSumsSpec)) digestSumsUptoCard

/-- THE SECOND FORM's CARD OF 'sparsetreelaw05.DigestFull'. -/
def digestFullUptoCard : Claim7 := { stood := { row := digestFullUptoRow, standIns := [], harness := (true, "2a44cb886a38236b09f988e33cfb2511c3dfaa3866df4fcaf007d49f22c8a5a6"), looks := false }, kinds := [], alts := [], laidByText := true, laidKinds := [.data], laidTests := true, laidLooks := .later }
def DigestFullUptoCardSaid : Prop := Claim7.holds Tryd.pinned (.plain (OpenSpec.upto digestFullSpec)) digestFullUptoCard

/-- THE SECOND FORM's CARD OF 'sparsetreelaw04.ShaMatchesReference'. -/
def shaMatchesReferenceUptoCard : Claim7 := { stood := { row := shaMatchesReferenceUptoRow, standIns := [], harness := (true, "2a44cb886a38236b09f988e33cfb2511c3dfaa3866df4fcaf007d49f22c8a5a6"), looks := false }, kinds := [], alts := [], laidByText := true, laidKinds := [.data], laidTests := true, laidLooks := .later }
def ShaMatchesReferenceUptoCardSaid : Prop := Claim7.holds Tryd.pinned (.plain (OpenSpec.upto shaMatchesReferenceSpec)) shaMatchesReferenceUptoCard

/-- THE SECOND FORM's CARD OF 'sparsetreelaw04.ShaOwns'. -/
def shaOwnsUptoCard : Claim7 := { stood := { row := shaOwnsUptoRow, standIns := [], harness := (true, "2a44cb886a38236b09f988e33cfb2511c3dfaa3866df4fcaf007d49f22c8a5a6"), looks := false }, kinds := [], alts := [], laidByText := true, laidKinds := [.data], laidTests := true, laidLooks := .later }
def ShaOwnsUptoCardSaid : Prop := Claim7.holds Tryd.pinned (.plain (OpenSpec.upto shaOwnsSpec)) shaOwnsUptoCard
end Rows
end Go.Proofs.YtloecpgafphkeaaDoor
