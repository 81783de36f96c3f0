/-
  NARROWER THAN 'FOR EVERY INPUT', by the rows' own cells (each row's printed sentence says how): ShaPads: laid · ShaBlocks: laid · ShaJoins: laid · ShaEmpty: laid · DigestStarts: laid · DigestCuts: laid · DigestSums: laid · DigestFull: laid · ShaMatchesReference: laid · ShaOwns: laid.
  DERIVED. THE GIVEN ROWS OF THIS SEAT. 10 by the template 'for every input the law returns true; each argument reads behind the call as it read before'; 0 by the template 'total and deterministic' (their statements: YtloecpgafphkeaaDoorTotals.lean).
  GIVEN WITH THE SEED: the statements are not yours to turn. If you find one false, say at which input.
  Laid BY PROGRAM, IN A SANDBOX (cutbox-rows.mjs): the forced cells as the released guide's own fill.sh prints them over the translation ddcd51604f529bfe… (all of the seat's roots in one cut). By AI agents, Wed Nov 11 2026. No macro, syntax, notation, axiom, sorry.
-/
import Derived.Test.YtloecpgafphkeaaDoorChecked
import GoSem.Claim
import GoSem.ClaimJoined
import GoSem.ClaimMapViews
import Derived.JoinedTies
import Derived.KernelRfl
namespace Go.Proofs.YtloecpgafphkeaaDoor
/- THE CELL 'sum', in the pinned program and in every row, IS THE sha256 OF THE DUMP (.gsa) THAT YtloecpgafphkeaaDoorProg.lean LOADS. Nothing in Lean hashes anything: it is a label: what it is worth is what the hold of that sum in a sandbox is worth. -/
noncomputable def Tryd.pinned : Pinned := { name := "ytloecpgafphkeaadoor", sum := "ddcd51604f529bfe3bed48cc24a40d58e56088086885ff9a290ec587a7305ec6", checked := Tryd.checked }
namespace Rows
def none {H : Type} : Left H := { results := [], args := [] }

/- WHAT THE LISTED PACKAGE-LEVEL VARIABLES READ AS WHEN THE CALL BEGINS. Each datum BY PROGRAM (the guide's laid-datum.mjs) off the statement by which the dump's own 'gosem.cut.vars' lays the variable. In a bare row this is a premise. The card (YtloecpgafphkeaaDoorCards.lean) ties it to the program's text. -/
def laid_sparsetree_sha_rounds {H : Type} : DataW H := .agg [.lit (.int .u32 1116352408), .lit (.int .u32 1899447441), .lit (.int .u32 3049323471), .lit (.int .u32 3921009573), .lit (.int .u32 961987163), .lit (.int .u32 1508970993), .lit (.int .u32 2453635748), .lit (.int .u32 2870763221), .lit (.int .u32 3624381080), .lit (.int .u32 310598401), .lit (.int .u32 607225278), .lit (.int .u32 1426881987), .lit (.int .u32 1925078388), .lit (.int .u32 2162078206), .lit (.int .u32 2614888103), .lit (.int .u32 3248222580), .lit (.int .u32 3835390401), .lit (.int .u32 4022224774), .lit (.int .u32 264347078), .lit (.int .u32 604807628), .lit (.int .u32 770255983), .lit (.int .u32 1249150122), .lit (.int .u32 1555081692), .lit (.int .u32 1996064986), .lit (.int .u32 2554220882), .lit (.int .u32 2821834349), .lit (.int .u32 2952996808), .lit (.int .u32 3210313671), .lit (.int .u32 3336571891), .lit (.int .u32 3584528711), .lit (.int .u32 113926993), .lit (.int .u32 338241895), .lit (.int .u32 666307205), .lit (.int .u32 773529912), .lit (.int .u32 1294757372), .lit (.int .u32 1396182291), .lit (.int .u32 1695183700), .lit (.int .u32 1986661051), .lit (.int .u32 2177026350), .lit (.int .u32 2456956037), .lit (.int .u32 2730485921), .lit (.int .u32 2820302411), .lit (.int .u32 3259730800), .lit (.int .u32 3345764771), .lit (.int .u32 3516065817), .lit (.int .u32 3600352804), .lit (.int .u32 4094571909), .lit (.int .u32 275423344), .lit (.int .u32 430227734), .lit (.int .u32 506948616), .lit (.int .u32 659060556), .lit (.int .u32 883997877), .lit (.int .u32 958139571), .lit (.int .u32 1322822218), .lit (.int .u32 1537002063), .lit (.int .u32 1747873779), .lit (.int .u32 1955562222), .lit (.int .u32 2024104815), .lit (.int .u32 2227730452), .lit (.int .u32 2361852424), .lit (.int .u32 2428436474), .lit (.int .u32 2756734187), .lit (.int .u32 3204031479), .lit (.int .u32 3329325298)]

/-- 'sparsetreelaw04.ShaPads': WHATEVER THE INPUT: true; the input reads as it did. -/
def shaPadsSpec : ChangeSpec := { name := "shaPads", fn := fun _ => fun
  | [d] => { results := [.lit (.bool true)], args := [d] }
  | _ => none }
def shaPadsRow : OpenClaim := { program := "ytloecpgafphkeaadoor", sum := "ddcd51604f529bfe3bed48cc24a40d58e56088086885ff9a290ec587a7305ec6", func := "sparsetree/sparsetreelaw04.ShaPads", spec := "shaPads", unfollowed := true, recurses := true, named := ["sparsetree/sha.rounds"], apart := false, laid := [("sparsetree/sha.rounds", laid_sparsetree_sha_rounds)] }
def ShaPadsSaid : Prop := shaPadsRow.holds Tryd.pinned (OpenSpec.ofChange shaPadsSpec)

/-- ITS FALSE NEIGHBOUR: 'it returns false'. Refute it at one input. -/
def shaPadsWrong : ChangeSpec := { name := "shaPads", fn := fun _ => fun
  | [d] => { results := [.lit (.bool false)], args := [d] }
  | _ => none }
def ShaPadsWrongFalsely : Prop := shaPadsRow.holds Tryd.pinned (OpenSpec.ofChange shaPadsWrong)

/-- 'sparsetreelaw04.ShaBlocks': WHATEVER THE INPUT: true; the input reads as it did. -/
def shaBlocksSpec : ChangeSpec := { name := "shaBlocks", fn := fun _ => fun
  | [d] => { results := [.lit (.bool true)], args := [d] }
  | _ => none }
def shaBlocksRow : OpenClaim := { program := "ytloecpgafphkeaadoor", sum := "ddcd51604f529bfe3bed48cc24a40d58e56088086885ff9a290ec587a7305ec6", func := "sparsetree/sparsetreelaw04.ShaBlocks", spec := "shaBlocks", unfollowed := true, recurses := true, named := ["sparsetree/sha.rounds"], apart := false, laid := [("sparsetree/sha.rounds", laid_sparsetree_sha_rounds)] }
def ShaBlocksSaid : Prop := shaBlocksRow.holds Tryd.pinned (OpenSpec.ofChange shaBlocksSpec)

/-- ITS FALSE NEIGHBOUR: 'it returns false'. Refute it at one input. -/
def shaBlocksWrong : ChangeSpec := { name := "shaBlocks", fn := fun _ => fun
  | [d] => { results := [.lit (.bool false)], args := [d] }
  | _ => none }
def ShaBlocksWrongFalsely : Prop := shaBlocksRow.holds Tryd.pinned (OpenSpec.ofChange shaBlocksWrong)

/-- 'sparsetreelaw04.ShaJoins': WHATEVER THE INPUT: true; the input reads as it did. -/
def shaJoinsSpec : ChangeSpec := { name := "shaJoins", fn := fun _ => fun
  | [d1, d2, d3] => { results := [.lit (.bool true)], args := [d1, d2, d3] }
  | _ => none }
def shaJoinsRow : OpenClaim := { program := "ytloecpgafphkeaadoor", sum := "ddcd51604f529bfe3bed48cc24a40d58e56088086885ff9a290ec587a7305ec6", func := "sparsetree/sparsetreelaw04.ShaJoins", spec := "shaJoins", unfollowed := true, recurses := true, named := ["sparsetree/sha.rounds"], apart := false, laid := [("sparsetree/sha.rounds", laid_sparsetree_sha_rounds)] }
def ShaJoinsSaid : Prop := shaJoinsRow.holds Tryd.pinned (OpenSpec.ofChange shaJoinsSpec)

/-- ITS FALSE NEIGHBOUR: 'it returns false'. Refute it at one input. -/
def shaJoinsWrong : ChangeSpec := { name := "shaJoins", fn := fun _ => fun
  | [d1, d2, d3] => { results := [.lit (.bool false)], args := [d1, d2, d3] }
  | _ => none }
def ShaJoinsWrongFalsely : Prop := shaJoinsRow.holds Tryd.pinned (OpenSpec.ofChange shaJoinsWrong)

/-- 'sparsetreelaw04.ShaEmpty': WHATEVER THE INPUT: true; the input reads as it did. -/
def shaEmptySpec : ChangeSpec := { name := "shaEmpty", fn := fun _ => fun
  | [d] => { results := [.lit (.bool true)], args := [d] }
  | _ => none }
def shaEmptyRow : OpenClaim := { program := "ytloecpgafphkeaadoor", sum := "ddcd51604f529bfe3bed48cc24a40d58e56088086885ff9a290ec587a7305ec6", func := "sparsetree/sparsetreelaw04.ShaEmpty", spec := "shaEmpty", unfollowed := true, recurses := true, named := ["sparsetree/sha.rounds"], apart := false, laid := [("sparsetree/sha.rounds", laid_sparsetree_sha_rounds)] }
def ShaEmptySaid : Prop := shaEmptyRow.holds Tryd.pinned (OpenSpec.ofChange shaEmptySpec)

/-- ITS FALSE NEIGHBOUR: 'it returns false'. Refute it at one input. -/
def shaEmptyWrong : ChangeSpec := { name := "shaEmpty", fn := fun _ => fun
  | [d] => { results := [.lit (.bool false)], args := [d] }
  | _ => none }
def ShaEmptyWrongFalsely : Prop := shaEmptyRow.holds Tryd.pinned (OpenSpec.ofChange shaEmptyWrong)

/-- 'sparsetreelaw05.DigestStarts': WHATEVER THE INPUT: true; the input reads as it did. -/
def digestStartsSpec : ChangeSpec := { name := "digestStarts", fn := fun _ => fun
  | [d] => { results := [.lit (.bool true)], args := [d] }
  | _ => none }
def digestStartsRow : OpenClaim := { program := "ytloecpgafphkeaadoor", sum := "ddcd51604f529bfe3bed48cc24a40d58e56088086885ff9a290ec587a7305ec6", func := "sparsetree/sparsetreelaw05.DigestStarts", spec := "digestStarts", unfollowed := true, recurses := true, named := ["sparsetree/sha.rounds"], apart := false, laid := [("sparsetree/sha.rounds", laid_sparsetree_sha_rounds)] }
def DigestStartsSaid : Prop := digestStartsRow.holds Tryd.pinned (OpenSpec.ofChange digestStartsSpec)

/-- ITS FALSE NEIGHBOUR: 'it returns false'. Refute it at one input. -/
def digestStartsWrong : ChangeSpec := { name := "digestStarts", fn := fun _ => fun
  | [d] => { results := [.lit (.bool false)], args := [d] }
  | _ => none }
def DigestStartsWrongFalsely : Prop := digestStartsRow.holds Tryd.pinned (OpenSpec.ofChange digestStartsWrong)

/-- 'sparsetreelaw05.DigestCuts': WHATEVER THE INPUT: true; the input reads as it did. -/
def digestCutsSpec : ChangeSpec := { name := "digestCuts", fn := fun _ => fun
  | [d1, d2, d3] => { results := [.lit (.bool true)], args := [d1, d2, d3] }
  | _ => none }
def digestCutsRow : OpenClaim := { program := "ytloecpgafphkeaadoor", sum := "ddcd51604f529bfe3bed48cc24a40d58e56088086885ff9a290ec587a7305ec6", func := "sparsetree/sparsetreelaw05.DigestCuts", spec := "digestCuts", unfollowed := true, recurses := true, named := ["sparsetree/sha.rounds"], apart := false, laid := [("sparsetree/sha.rounds", laid_sparsetree_sha_rounds)] }
def DigestCutsSaid : Prop := digestCutsRow.holds Tryd.pinned (OpenSpec.ofChange digestCutsSpec)

/-- ITS FALSE NEIGHBOUR: 'it returns false'. Refute it at one input. -/
def digestCutsWrong : ChangeSpec := { name := "digestCuts", fn := fun _ => fun
  | [d1, d2, d3] => { results := [.lit (.bool false)], args := [d1, d2, d3] }
  | _ => none }
def DigestCutsWrongFalsely : Prop := digestCutsRow.holds Tryd.pinned (OpenSpec.ofChange digestCutsWrong)

/-- 'sparsetreelaw05.DigestSums': WHATEVER THE INPUT: true; the input reads as it did. -/
def digestSumsSpec : ChangeSpec := { name := "digestSums", fn := fun _ => fun
  | [d1, d2] => { results := [.lit (.bool true)], args := [d1, d2] }
  | _ => none }
def digestSumsRow : OpenClaim := { program := "ytloecpgafphkeaadoor", sum := "ddcd51604f529bfe3bed48cc24a40d58e56088086885ff9a290ec587a7305ec6", func := "sparsetree/sparsetreelaw05.DigestSums", spec := "digestSums", unfollowed := true, recurses := true, named := ["sparsetree/sha.rounds"], apart := false, laid := [("sparsetree/sha.rounds", laid_sparsetree_sha_rounds)] }
def DigestSumsSaid : Prop := digestSumsRow.holds Tryd.pinned (OpenSpec.ofChange digestSumsSpec)

/-- ITS FALSE NEIGHBOUR: 'it returns false'. Refute it at one input. -/
def digestSumsWrong : ChangeSpec := { name := "digestSums", fn := fun _ => fun
  | [d1, d2] => { results := [.lit (.bool false)], args := [d1, d2] }
  | _ => none }
def DigestSumsWrongFalsely : Prop := digestSumsRow.holds Tryd.pinned (OpenSpec.ofChange digestSumsWrong)

/-- 'sparsetreelaw05.DigestFull': WHATEVER THE INPUT: true; the input reads as it did. -/
def digestFullSpec : ChangeSpec := { name := "digestFull", fn := fun _ => fun
  | [d] => { results := [.lit (.bool true)], args := [d] }
  | _ => none }
def digestFullRow : OpenClaim := { program := "ytloecpgafphkeaadoor", sum := "ddcd51604f529bfe3bed48cc24a40d58e56088086885ff9a290ec587a7305ec6", func := "sparsetree/sparsetreelaw05.DigestFull", spec := "digestFull", unfollowed := true, recurses := true, named := ["sparsetree/sha.rounds"], apart := false, laid := [("sparsetree/sha.rounds", laid_sparsetree_sha_rounds)] }
def DigestFullSaid : Prop := digestFullRow.holds Tryd.pinned (OpenSpec.ofChange digestFullSpec)

/-- ITS FALSE NEIGHBOUR: 'it returns false'. Refute it at one input. -/
def digestFullWrong : ChangeSpec := { name := "digestFull", fn := fun _ => fun
  | [d] => { results := [.lit (.bool false)], args := [d] }
  | _ => none }
def DigestFullWrongFalsely : Prop := digestFullRow.holds Tryd.pinned (OpenSpec.ofChange digestFullWrong)

/-- 'sparsetreelaw04.ShaMatchesReference': WHATEVER THE INPUT: true; the input reads as it did. -/
def shaMatchesReferenceSpec : ChangeSpec := { name := "shaMatchesReference", fn := fun _ => fun
  | [d] => { results := [.lit (.bool true)], args := [d] }
  | _ => none }
def shaMatchesReferenceRow : OpenClaim := { program := "ytloecpgafphkeaadoor", sum := "ddcd51604f529bfe3bed48cc24a40d58e56088086885ff9a290ec587a7305ec6", func := "sparsetree/sparsetreelaw04.ShaMatchesReference", spec := "shaMatchesReference", unfollowed := true, recurses := true, named := ["sparsetree/sha.rounds"], apart := false, laid := [("sparsetree/sha.rounds", laid_sparsetree_sha_rounds)] }
def ShaMatchesReferenceSaid : Prop := shaMatchesReferenceRow.holds Tryd.pinned (OpenSpec.ofChange shaMatchesReferenceSpec)

/-- ITS FALSE NEIGHBOUR: 'it returns false'. Refute it at one input. -/
def shaMatchesReferenceWrong : ChangeSpec := { name := "shaMatchesReference", fn := fun _ => fun
  | [d] => { results := [.lit (.bool false)], args := [d] }
  | _ => none }
def ShaMatchesReferenceWrongFalsely : Prop := shaMatchesReferenceRow.holds Tryd.pinned (OpenSpec.ofChange shaMatchesReferenceWrong)

/-- 'sparsetreelaw04.ShaOwns': WHATEVER THE INPUT: true; the input reads as it did. -/
def shaOwnsSpec : ChangeSpec := { name := "shaOwns", fn := fun _ => fun
  | [d1, d2] => { results := [.lit (.bool true)], args := [d1, d2] }
  | _ => none }
def shaOwnsRow : OpenClaim := { program := "ytloecpgafphkeaadoor", sum := "ddcd51604f529bfe3bed48cc24a40d58e56088086885ff9a290ec587a7305ec6", func := "sparsetree/sparsetreelaw04.ShaOwns", spec := "shaOwns", unfollowed := true, recurses := true, named := ["sparsetree/sha.rounds"], apart := false, laid := [("sparsetree/sha.rounds", laid_sparsetree_sha_rounds)] }
def ShaOwnsSaid : Prop := shaOwnsRow.holds Tryd.pinned (OpenSpec.ofChange shaOwnsSpec)

/-- ITS FALSE NEIGHBOUR: 'it returns false'. Refute it at one input. -/
def shaOwnsWrong : ChangeSpec := { name := "shaOwns", fn := fun _ => fun
  | [d1, d2] => { results := [.lit (.bool false)], args := [d1, d2] }
  | _ => none }
def ShaOwnsWrongFalsely : Prop := shaOwnsRow.holds Tryd.pinned (OpenSpec.ofChange shaOwnsWrong)

/- THE SECOND FORM. 'bulk': how many values and letters a reading holds, each counted each time it is reached (what is shared counts as often as it is met; a slice's spare places count too). A statement '..UptoSaid' is the law's where the arguments, and the package variables that the reading takes, are together of bulk at most 1048576: NARROWER than '..Said'. Prove '..Said' where nothing that the law and all that it calls make is longer than what came in: it says more and counts as full. Else prove '..UptoSaid'. A law counts once. -/
mutual
def uptoBulk {H : Type} : DataW H → Nat
  | .lit (.string bytes) => bytes.length + 1
  | .lit _ => 1
  | .nil => 1
  | .ptr d => uptoBulk d + 1
  | .slice elems spare => uptoBulkAll elems + uptoBulkAll spare + 1
  | .agg parts => uptoBulkAll parts + 1
  | .iface _ d => uptoBulk d + 1
  | .map entries => uptoBulkEntries entries + 1
  | .held _ => 1
def uptoBulkAll {H : Type} : List (DataW H) → Nat
  | [] => 0
  | d :: r => uptoBulk d + uptoBulkAll r
def uptoBulkEntries {H : Type} : List (Lit × DataW H) → Nat
  | [] => 0
  | x :: r => uptoBulkEntry x + uptoBulkEntries r
def uptoBulkEntry {H : Type} : Lit × DataW H → Nat
  | (.string bytes, d) => bytes.length + uptoBulk d + 1
  | (_, d) => uptoBulk d + 1
 end
def uptoSmall : (H : Type) → List (DataW H) → Bool := fun _ ds => decide (uptoBulkAll ds ≤ 1048576)
def OpenSpec.upto (s : _root_.Go.ChangeSpec) : _root_.Go.OpenSpec := { _root_.Go.OpenSpec.ofChange s with cond := some uptoSmall }

/-- 'sparsetreelaw04.ShaPads', WHERE WHAT IT READS IS OF BULK AT MOST 1048576: true; the input reads as it did. -/
def shaPadsUptoRow : OpenClaim := { program := "ytloecpgafphkeaadoor", sum := "ddcd51604f529bfe3bed48cc24a40d58e56088086885ff9a290ec587a7305ec6", func := "sparsetree/sparsetreelaw04.ShaPads", spec := "shaPads", unfollowed := true, recurses := true, named := ["sparsetree/sha.rounds"], apart := false, laid := [("sparsetree/sha.rounds", laid_sparsetree_sha_rounds)], narrowed := true }
def ShaPadsUptoSaid : Prop := shaPadsUptoRow.holds Tryd.pinned (OpenSpec.upto shaPadsSpec)

/-- 'sparsetreelaw04.ShaBlocks', WHERE WHAT IT READS IS OF BULK AT MOST 1048576: true; the input reads as it did. -/
def shaBlocksUptoRow : OpenClaim := { program := "ytloecpgafphkeaadoor", sum := "ddcd51604f529bfe3bed48cc24a40d58e56088086885ff9a290ec587a7305ec6", func := "sparsetree/sparsetreelaw04.ShaBlocks", spec := "shaBlocks", unfollowed := true, recurses := true, named := ["sparsetree/sha.rounds"], apart := false, laid := [("sparsetree/sha.rounds", laid_sparsetree_sha_rounds)], narrowed := true }
def ShaBlocksUptoSaid : Prop := shaBlocksUptoRow.holds Tryd.pinned (OpenSpec.upto shaBlocksSpec)

/-- 'sparsetreelaw04.ShaJoins', WHERE WHAT IT READS IS OF BULK AT MOST 1048576: true; the input reads as it did. -/
def shaJoinsUptoRow : OpenClaim := { program := "ytloecpgafphkeaadoor", sum := "ddcd51604f529bfe3bed48cc24a40d58e56088086885ff9a290ec587a7305ec6", func := "sparsetree/sparsetreelaw04.ShaJoins", spec := "shaJoins", unfollowed := true, recurses := true, named := ["sparsetree/sha.rounds"], apart := false, laid := [("sparsetree/sha.rounds", laid_sparsetree_sha_rounds)], narrowed := true }
def ShaJoinsUptoSaid : Prop := shaJoinsUptoRow.holds Tryd.pinned (OpenSpec.upto shaJoinsSpec)

/-- 'sparsetreelaw04.ShaEmpty', WHERE WHAT IT READS IS OF BULK AT MOST 1048576: true; the input reads as it did. -/
def shaEmptyUptoRow : OpenClaim := { program := "ytloecpgafphkeaadoor", sum := "ddcd51604f529bfe3bed48cc24a40d58e56088086885ff9a290ec587a7305ec6", func := "sparsetree/sparsetreelaw04.ShaEmpty", spec := "shaEmpty", unfollowed := true, recurses := true, named := ["sparsetree/sha.rounds"], apart := false, laid := [("sparsetree/sha.rounds", laid_sparsetree_sha_rounds)], narrowed := true }
def ShaEmptyUptoSaid : Prop := shaEmptyUptoRow.holds Tryd.pinned (OpenSpec.upto shaEmptySpec)

/-- 'sparsetreelaw05.DigestStarts', WHERE WHAT IT READS IS OF BULK AT MOST 1048576: true; the input reads as it did. -/
def digestStartsUptoRow : OpenClaim := { program := "ytloecpgafphkeaadoor", sum := "ddcd51604f529bfe3bed48cc24a40d58e56088086885ff9a290ec587a7305ec6", func := "sparsetree/sparsetreelaw05.DigestStarts", spec := "digestStarts", unfollowed := true, recurses := true, named := ["sparsetree/sha.rounds"], apart := false, laid := [("sparsetree/sha.rounds", laid_sparsetree_sha_rounds)], narrowed := true }
def DigestStartsUptoSaid : Prop := digestStartsUptoRow.holds Tryd.pinned (OpenSpec.upto digestStartsSpec)

/-- 'sparsetreelaw05.DigestCuts', WHERE WHAT IT READS IS OF BULK AT MOST 1048576: true; the input reads as it did. -/
def digestCutsUptoRow : OpenClaim := { program := "ytloecpgafphkeaadoor", sum := "ddcd51604f529bfe3bed48cc24a40d58e56088086885ff9a290ec587a7305ec6", func := "sparsetree/sparsetreelaw05.DigestCuts", spec := "digestCuts", unfollowed := true, recurses := true, named := ["sparsetree/sha.rounds"], apart := false, laid := [("sparsetree/sha.rounds", laid_sparsetree_sha_rounds)], narrowed := true }
def DigestCutsUptoSaid : Prop := digestCutsUptoRow.holds Tryd.pinned (OpenSpec.upto digestCutsSpec)

/-- 'sparsetreelaw05.DigestSums', WHERE WHAT IT READS IS OF BULK AT MOST 1048576: true; the input reads as it did. -/
def digestSumsUptoRow : OpenClaim := { program := "ytloecpgafphkeaadoor", sum := "ddcd51604f529bfe3bed48cc24a40d58e56088086885ff9a290ec587a7305ec6", func := "sparsetree/sparsetreelaw05.DigestSums", spec := "digestSums", unfollowed := true, recurses := true, named := ["sparsetree/sha.rounds"], apart := false, laid := [("sparsetree/sha.rounds", laid_sparsetree_sha_rounds)], narrowed := true }
def DigestSumsUptoSaid : Prop := digestSumsUptoRow.holds Tryd.pinned (OpenSpec.upto digestSumsSpec)

/-- 'sparsetreelaw05.DigestFull', WHERE WHAT IT READS IS OF BULK AT MOST 1048576: true; the input reads as it did. -/
def digestFullUptoRow : OpenClaim := { program := "ytloecpgafphkeaadoor", sum := "ddcd51604f529bfe3bed48cc24a40d58e56088086885ff9a290ec587a7305ec6", func := "sparsetree/sparsetreelaw05.DigestFull", spec := "digestFull", unfollowed := true, recurses := true, named := ["sparsetree/sha.rounds"], apart := false, laid := [("sparsetree/sha.rounds", laid_sparsetree_sha_rounds)], narrowed := true }
def DigestFullUptoSaid : Prop := digestFullUptoRow.holds Tryd.pinned (OpenSpec.upto digestFullSpec)

/-- 'sparsetreelaw04.ShaMatchesReference', WHERE WHAT IT READS IS OF BULK AT MOST 1048576: true; the input reads as it did. -/
def shaMatchesReferenceUptoRow : OpenClaim := { program := "ytloecpgafphkeaadoor", sum := "ddcd51604f529bfe3bed48cc24a40d58e56088086885ff9a290ec587a7305ec6", func := "sparsetree/sparsetreelaw04.ShaMatchesReference", spec := "shaMatchesReference", unfollowed := true, recurses := true, named := ["sparsetree/sha.rounds"], apart := false, laid := [("sparsetree/sha.rounds", laid_sparsetree_sha_rounds)], narrowed := true }
def ShaMatchesReferenceUptoSaid : Prop := shaMatchesReferenceUptoRow.holds Tryd.pinned (OpenSpec.upto shaMatchesReferenceSpec)

/-- 'sparsetreelaw04.ShaOwns', WHERE WHAT IT READS IS OF BULK AT MOST 1048576: true; the input reads as it did. -/
def shaOwnsUptoRow : OpenClaim := { program := "ytloecpgafphkeaadoor", sum := "ddcd51604f529bfe3bed48cc24a40d58e56088086885ff9a290ec587a7305ec6", func := "sparsetree/sparsetreelaw04.ShaOwns", spec := "shaOwns", unfollowed := true, recurses := true, named := ["sparsetree/sha.rounds"], apart := false, laid := [("sparsetree/sha.rounds", laid_sparsetree_sha_rounds)], narrowed := true }
def ShaOwnsUptoSaid : Prop := shaOwnsUptoRow.holds Tryd.pinned (OpenSpec.upto shaOwnsSpec)

end Rows
end Go.Proofs.YtloecpgafphkeaaDoor
