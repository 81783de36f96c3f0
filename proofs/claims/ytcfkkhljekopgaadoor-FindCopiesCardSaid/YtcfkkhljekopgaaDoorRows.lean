/-
  NARROWER THAN 'FOR EVERY INPUT', by the rows' own cells (each row's printed sentence says how): DigestForks: laid · DigestNil: laid · PreimageLeafOf: laid · NodeDigests: laid · NodeKeeps: laid · NodeLeaves: laid · NodeNil: laid · NodeCaches: laid · FindLocates: laid · FindGets: laid · FindSiblings: laid · FindWays: laid · FindUnder: laid · FindCopies: laid.
  DERIVED. THE GIVEN ROWS OF THIS SEAT. 14 by the template 'for every input the law returns true; each argument reads behind the call as it read before'; 0 by the template 'total and deterministic' (their statements: YtcfkkhljekopgaaDoorTotals.lean).
  GIVEN WITH THE SEED: the statements are not yours to turn. If you find one false, say at which input.
  Laid BY PROGRAM, IN A SANDBOX (cutbox-rows.mjs): the forced cells as the released guide's own fill.sh prints them over the translation 47e4f30e6e06e5ee… (all of the seat's roots in one cut). By AI agents, Wed Nov 11 2026. No macro, syntax, notation, axiom, sorry.
-/
import Derived.Test.YtcfkkhljekopgaaDoorChecked
import GoSem.Claim
import GoSem.ClaimJoined
import GoSem.ClaimMapViews
import Derived.JoinedTies
import Derived.KernelRfl
namespace Go.Proofs.YtcfkkhljekopgaaDoor
/- THE CELL 'sum', in the pinned program and in every row, IS THE sha256 OF THE DUMP (.gsa) THAT YtcfkkhljekopgaaDoorProg.lean LOADS. Nothing in Lean hashes anything: it is a label: what it is worth is what the hold of that sum in a sandbox is worth. -/
noncomputable def Tryd.pinned : Pinned := { name := "ytcfkkhljekopgaadoor", sum := "47e4f30e6e06e5ee036557fb6d02861472a29a42343fd95e7cdaa79869821ec1", checked := Tryd.checked }
namespace Rows
def none {H : Type} : Left H := { results := [], args := [] }

/- WHAT THE LISTED PACKAGE-LEVEL VARIABLES READ AS WHEN THE CALL BEGINS. Each datum BY PROGRAM (the guide's laid-datum.mjs) off the statement by which the dump's own 'gosem.cut.vars' lays the variable. In a bare row this is a premise. The card (YtcfkkhljekopgaaDoorCards.lean) ties it to the program's text. -/
def laid_sparsetree_sha_rounds {H : Type} : DataW H := .agg [.lit (.int .u32 1116352408), .lit (.int .u32 1899447441), .lit (.int .u32 3049323471), .lit (.int .u32 3921009573), .lit (.int .u32 961987163), .lit (.int .u32 1508970993), .lit (.int .u32 2453635748), .lit (.int .u32 2870763221), .lit (.int .u32 3624381080), .lit (.int .u32 310598401), .lit (.int .u32 607225278), .lit (.int .u32 1426881987), .lit (.int .u32 1925078388), .lit (.int .u32 2162078206), .lit (.int .u32 2614888103), .lit (.int .u32 3248222580), .lit (.int .u32 3835390401), .lit (.int .u32 4022224774), .lit (.int .u32 264347078), .lit (.int .u32 604807628), .lit (.int .u32 770255983), .lit (.int .u32 1249150122), .lit (.int .u32 1555081692), .lit (.int .u32 1996064986), .lit (.int .u32 2554220882), .lit (.int .u32 2821834349), .lit (.int .u32 2952996808), .lit (.int .u32 3210313671), .lit (.int .u32 3336571891), .lit (.int .u32 3584528711), .lit (.int .u32 113926993), .lit (.int .u32 338241895), .lit (.int .u32 666307205), .lit (.int .u32 773529912), .lit (.int .u32 1294757372), .lit (.int .u32 1396182291), .lit (.int .u32 1695183700), .lit (.int .u32 1986661051), .lit (.int .u32 2177026350), .lit (.int .u32 2456956037), .lit (.int .u32 2730485921), .lit (.int .u32 2820302411), .lit (.int .u32 3259730800), .lit (.int .u32 3345764771), .lit (.int .u32 3516065817), .lit (.int .u32 3600352804), .lit (.int .u32 4094571909), .lit (.int .u32 275423344), .lit (.int .u32 430227734), .lit (.int .u32 506948616), .lit (.int .u32 659060556), .lit (.int .u32 883997877), .lit (.int .u32 958139571), .lit (.int .u32 1322822218), .lit (.int .u32 1537002063), .lit (.int .u32 1747873779), .lit (.int .u32 1955562222), .lit (.int .u32 2024104815), .lit (.int .u32 2227730452), .lit (.int .u32 2361852424), .lit (.int .u32 2428436474), .lit (.int .u32 2756734187), .lit (.int .u32 3204031479), .lit (.int .u32 3329325298)]

/-- 'sparsetreelaw05.DigestForks': WHATEVER THE INPUT: true; the input reads as it did. -/
def digestForksSpec : ChangeSpec := { name := "digestForks", fn := fun _ => fun
  | [d1, d2, d3] => { results := [.lit (.bool true)], args := [d1, d2, d3] }
  | _ => none }
def digestForksRow : OpenClaim := { program := "ytcfkkhljekopgaadoor", sum := "47e4f30e6e06e5ee036557fb6d02861472a29a42343fd95e7cdaa79869821ec1", func := "sparsetree/sparsetreelaw05.DigestForks", spec := "digestForks", unfollowed := true, recurses := true, named := ["sparsetree/sha.rounds"], apart := false, laid := [("sparsetree/sha.rounds", laid_sparsetree_sha_rounds)] }
def DigestForksSaid : Prop := digestForksRow.holds Tryd.pinned (OpenSpec.ofChange digestForksSpec)

/-- ITS FALSE NEIGHBOUR: 'it returns false'. Refute it at one input. -/
def digestForksWrong : ChangeSpec := { name := "digestForks", fn := fun _ => fun
  | [d1, d2, d3] => { results := [.lit (.bool false)], args := [d1, d2, d3] }
  | _ => none }
def DigestForksWrongFalsely : Prop := digestForksRow.holds Tryd.pinned (OpenSpec.ofChange digestForksWrong)

/-- 'sparsetreelaw05.DigestNil': WHATEVER THE INPUT: true; the input reads as it did. -/
def digestNilSpec : ChangeSpec := { name := "digestNil", fn := fun _ => fun
  | [d] => { results := [.lit (.bool true)], args := [d] }
  | _ => none }
def digestNilRow : OpenClaim := { program := "ytcfkkhljekopgaadoor", sum := "47e4f30e6e06e5ee036557fb6d02861472a29a42343fd95e7cdaa79869821ec1", func := "sparsetree/sparsetreelaw05.DigestNil", spec := "digestNil", unfollowed := true, recurses := true, named := ["sparsetree/sha.rounds"], apart := false, laid := [("sparsetree/sha.rounds", laid_sparsetree_sha_rounds)] }
def DigestNilSaid : Prop := digestNilRow.holds Tryd.pinned (OpenSpec.ofChange digestNilSpec)

/-- ITS FALSE NEIGHBOUR: 'it returns false'. Refute it at one input. -/
def digestNilWrong : ChangeSpec := { name := "digestNil", fn := fun _ => fun
  | [d] => { results := [.lit (.bool false)], args := [d] }
  | _ => none }
def DigestNilWrongFalsely : Prop := digestNilRow.holds Tryd.pinned (OpenSpec.ofChange digestNilWrong)

/-- 'sparsetreelaw06.PreimageLeafOf': WHATEVER THE INPUT: true; the input reads as it did. -/
def preimageLeafOfSpec : ChangeSpec := { name := "preimageLeafOf", fn := fun _ => fun
  | [d1, d2, d3] => { results := [.lit (.bool true)], args := [d1, d2, d3] }
  | _ => none }
def preimageLeafOfRow : OpenClaim := { program := "ytcfkkhljekopgaadoor", sum := "47e4f30e6e06e5ee036557fb6d02861472a29a42343fd95e7cdaa79869821ec1", func := "sparsetree/sparsetreelaw06.PreimageLeafOf", spec := "preimageLeafOf", unfollowed := true, recurses := true, named := ["sparsetree/sha.rounds"], apart := false, laid := [("sparsetree/sha.rounds", laid_sparsetree_sha_rounds)] }
def PreimageLeafOfSaid : Prop := preimageLeafOfRow.holds Tryd.pinned (OpenSpec.ofChange preimageLeafOfSpec)

/-- ITS FALSE NEIGHBOUR: 'it returns false'. Refute it at one input. -/
def preimageLeafOfWrong : ChangeSpec := { name := "preimageLeafOf", fn := fun _ => fun
  | [d1, d2, d3] => { results := [.lit (.bool false)], args := [d1, d2, d3] }
  | _ => none }
def PreimageLeafOfWrongFalsely : Prop := preimageLeafOfRow.holds Tryd.pinned (OpenSpec.ofChange preimageLeafOfWrong)

/-- 'sparsetreelaw07.NodeDigests': WHATEVER THE INPUT: true; the input reads as it did. -/
def nodeDigestsSpec : ChangeSpec := { name := "nodeDigests", fn := fun _ => fun
  | [d1, d2] => { results := [.lit (.bool true)], args := [d1, d2] }
  | _ => none }
def nodeDigestsRow : OpenClaim := { program := "ytcfkkhljekopgaadoor", sum := "47e4f30e6e06e5ee036557fb6d02861472a29a42343fd95e7cdaa79869821ec1", func := "sparsetree/sparsetreelaw07.NodeDigests", spec := "nodeDigests", unfollowed := true, recurses := true, named := ["sparsetree/sha.rounds"], apart := false, laid := [("sparsetree/sha.rounds", laid_sparsetree_sha_rounds)] }
def NodeDigestsSaid : Prop := nodeDigestsRow.holds Tryd.pinned (OpenSpec.ofChange nodeDigestsSpec)

/-- ITS FALSE NEIGHBOUR: 'it returns false'. Refute it at one input. -/
def nodeDigestsWrong : ChangeSpec := { name := "nodeDigests", fn := fun _ => fun
  | [d1, d2] => { results := [.lit (.bool false)], args := [d1, d2] }
  | _ => none }
def NodeDigestsWrongFalsely : Prop := nodeDigestsRow.holds Tryd.pinned (OpenSpec.ofChange nodeDigestsWrong)

/-- 'sparsetreelaw07.NodeKeeps': WHATEVER THE INPUT: true; the input reads as it did. -/
def nodeKeepsSpec : ChangeSpec := { name := "nodeKeeps", fn := fun _ => fun
  | [d1, d2, d3] => { results := [.lit (.bool true)], args := [d1, d2, d3] }
  | _ => none }
def nodeKeepsRow : OpenClaim := { program := "ytcfkkhljekopgaadoor", sum := "47e4f30e6e06e5ee036557fb6d02861472a29a42343fd95e7cdaa79869821ec1", func := "sparsetree/sparsetreelaw07.NodeKeeps", spec := "nodeKeeps", unfollowed := true, recurses := true, named := ["sparsetree/sha.rounds"], apart := false, laid := [("sparsetree/sha.rounds", laid_sparsetree_sha_rounds)] }
def NodeKeepsSaid : Prop := nodeKeepsRow.holds Tryd.pinned (OpenSpec.ofChange nodeKeepsSpec)

/-- ITS FALSE NEIGHBOUR: 'it returns false'. Refute it at one input. -/
def nodeKeepsWrong : ChangeSpec := { name := "nodeKeeps", fn := fun _ => fun
  | [d1, d2, d3] => { results := [.lit (.bool false)], args := [d1, d2, d3] }
  | _ => none }
def NodeKeepsWrongFalsely : Prop := nodeKeepsRow.holds Tryd.pinned (OpenSpec.ofChange nodeKeepsWrong)

/-- 'sparsetreelaw07.NodeLeaves': WHATEVER THE INPUT: true; the input reads as it did. -/
def nodeLeavesSpec : ChangeSpec := { name := "nodeLeaves", fn := fun _ => fun
  | [d1, d2] => { results := [.lit (.bool true)], args := [d1, d2] }
  | _ => none }
def nodeLeavesRow : OpenClaim := { program := "ytcfkkhljekopgaadoor", sum := "47e4f30e6e06e5ee036557fb6d02861472a29a42343fd95e7cdaa79869821ec1", func := "sparsetree/sparsetreelaw07.NodeLeaves", spec := "nodeLeaves", unfollowed := true, recurses := true, named := ["sparsetree/sha.rounds"], apart := false, laid := [("sparsetree/sha.rounds", laid_sparsetree_sha_rounds)] }
def NodeLeavesSaid : Prop := nodeLeavesRow.holds Tryd.pinned (OpenSpec.ofChange nodeLeavesSpec)

/-- ITS FALSE NEIGHBOUR: 'it returns false'. Refute it at one input. -/
def nodeLeavesWrong : ChangeSpec := { name := "nodeLeaves", fn := fun _ => fun
  | [d1, d2] => { results := [.lit (.bool false)], args := [d1, d2] }
  | _ => none }
def NodeLeavesWrongFalsely : Prop := nodeLeavesRow.holds Tryd.pinned (OpenSpec.ofChange nodeLeavesWrong)

/-- 'sparsetreelaw07.NodeNil': WHATEVER THE INPUT: true; the input reads as it did. -/
def nodeNilSpec : ChangeSpec := { name := "nodeNil", fn := fun _ => fun
  | [d] => { results := [.lit (.bool true)], args := [d] }
  | _ => none }
def nodeNilRow : OpenClaim := { program := "ytcfkkhljekopgaadoor", sum := "47e4f30e6e06e5ee036557fb6d02861472a29a42343fd95e7cdaa79869821ec1", func := "sparsetree/sparsetreelaw07.NodeNil", spec := "nodeNil", unfollowed := true, recurses := true, named := ["sparsetree/sha.rounds"], apart := false, laid := [("sparsetree/sha.rounds", laid_sparsetree_sha_rounds)] }
def NodeNilSaid : Prop := nodeNilRow.holds Tryd.pinned (OpenSpec.ofChange nodeNilSpec)

/-- ITS FALSE NEIGHBOUR: 'it returns false'. Refute it at one input. -/
def nodeNilWrong : ChangeSpec := { name := "nodeNil", fn := fun _ => fun
  | [d] => { results := [.lit (.bool false)], args := [d] }
  | _ => none }
def NodeNilWrongFalsely : Prop := nodeNilRow.holds Tryd.pinned (OpenSpec.ofChange nodeNilWrong)

/-- 'sparsetreelaw07.NodeCaches': WHATEVER THE INPUT: true; the input reads as it did. -/
def nodeCachesSpec : ChangeSpec := { name := "nodeCaches", fn := fun _ => fun
  | [d1, d2] => { results := [.lit (.bool true)], args := [d1, d2] }
  | _ => none }
def nodeCachesRow : OpenClaim := { program := "ytcfkkhljekopgaadoor", sum := "47e4f30e6e06e5ee036557fb6d02861472a29a42343fd95e7cdaa79869821ec1", func := "sparsetree/sparsetreelaw07.NodeCaches", spec := "nodeCaches", unfollowed := true, recurses := true, named := ["sparsetree/sha.rounds"], apart := false, laid := [("sparsetree/sha.rounds", laid_sparsetree_sha_rounds)] }
def NodeCachesSaid : Prop := nodeCachesRow.holds Tryd.pinned (OpenSpec.ofChange nodeCachesSpec)

/-- ITS FALSE NEIGHBOUR: 'it returns false'. Refute it at one input. -/
def nodeCachesWrong : ChangeSpec := { name := "nodeCaches", fn := fun _ => fun
  | [d1, d2] => { results := [.lit (.bool false)], args := [d1, d2] }
  | _ => none }
def NodeCachesWrongFalsely : Prop := nodeCachesRow.holds Tryd.pinned (OpenSpec.ofChange nodeCachesWrong)

/-- 'sparsetreelaw08.FindLocates': WHATEVER THE INPUT: true; the input reads as it did. -/
def findLocatesSpec : ChangeSpec := { name := "findLocates", fn := fun _ => fun
  | [d1, d2, d3] => { results := [.lit (.bool true)], args := [d1, d2, d3] }
  | _ => none }
def findLocatesRow : OpenClaim := { program := "ytcfkkhljekopgaadoor", sum := "47e4f30e6e06e5ee036557fb6d02861472a29a42343fd95e7cdaa79869821ec1", func := "sparsetree/sparsetreelaw08.FindLocates", spec := "findLocates", unfollowed := true, recurses := true, named := ["sparsetree/sha.rounds"], apart := false, laid := [("sparsetree/sha.rounds", laid_sparsetree_sha_rounds)] }
def FindLocatesSaid : Prop := findLocatesRow.holds Tryd.pinned (OpenSpec.ofChange findLocatesSpec)

/-- ITS FALSE NEIGHBOUR: 'it returns false'. Refute it at one input. -/
def findLocatesWrong : ChangeSpec := { name := "findLocates", fn := fun _ => fun
  | [d1, d2, d3] => { results := [.lit (.bool false)], args := [d1, d2, d3] }
  | _ => none }
def FindLocatesWrongFalsely : Prop := findLocatesRow.holds Tryd.pinned (OpenSpec.ofChange findLocatesWrong)

/-- 'sparsetreelaw08.FindGets': WHATEVER THE INPUT: true; the input reads as it did. -/
def findGetsSpec : ChangeSpec := { name := "findGets", fn := fun _ => fun
  | [d1, d2, d3] => { results := [.lit (.bool true)], args := [d1, d2, d3] }
  | _ => none }
def findGetsRow : OpenClaim := { program := "ytcfkkhljekopgaadoor", sum := "47e4f30e6e06e5ee036557fb6d02861472a29a42343fd95e7cdaa79869821ec1", func := "sparsetree/sparsetreelaw08.FindGets", spec := "findGets", unfollowed := true, recurses := true, named := ["sparsetree/sha.rounds"], apart := false, laid := [("sparsetree/sha.rounds", laid_sparsetree_sha_rounds)] }
def FindGetsSaid : Prop := findGetsRow.holds Tryd.pinned (OpenSpec.ofChange findGetsSpec)

/-- ITS FALSE NEIGHBOUR: 'it returns false'. Refute it at one input. -/
def findGetsWrong : ChangeSpec := { name := "findGets", fn := fun _ => fun
  | [d1, d2, d3] => { results := [.lit (.bool false)], args := [d1, d2, d3] }
  | _ => none }
def FindGetsWrongFalsely : Prop := findGetsRow.holds Tryd.pinned (OpenSpec.ofChange findGetsWrong)

/-- 'sparsetreelaw08.FindSiblings': WHATEVER THE INPUT: true; the input reads as it did. -/
def findSiblingsSpec : ChangeSpec := { name := "findSiblings", fn := fun _ => fun
  | [d1, d2, d3] => { results := [.lit (.bool true)], args := [d1, d2, d3] }
  | _ => none }
def findSiblingsRow : OpenClaim := { program := "ytcfkkhljekopgaadoor", sum := "47e4f30e6e06e5ee036557fb6d02861472a29a42343fd95e7cdaa79869821ec1", func := "sparsetree/sparsetreelaw08.FindSiblings", spec := "findSiblings", unfollowed := true, recurses := true, named := ["sparsetree/sha.rounds"], apart := false, laid := [("sparsetree/sha.rounds", laid_sparsetree_sha_rounds)] }
def FindSiblingsSaid : Prop := findSiblingsRow.holds Tryd.pinned (OpenSpec.ofChange findSiblingsSpec)

/-- ITS FALSE NEIGHBOUR: 'it returns false'. Refute it at one input. -/
def findSiblingsWrong : ChangeSpec := { name := "findSiblings", fn := fun _ => fun
  | [d1, d2, d3] => { results := [.lit (.bool false)], args := [d1, d2, d3] }
  | _ => none }
def FindSiblingsWrongFalsely : Prop := findSiblingsRow.holds Tryd.pinned (OpenSpec.ofChange findSiblingsWrong)

/-- 'sparsetreelaw08.FindWays': WHATEVER THE INPUT: true; the input reads as it did. -/
def findWaysSpec : ChangeSpec := { name := "findWays", fn := fun _ => fun
  | [d1, d2, d3] => { results := [.lit (.bool true)], args := [d1, d2, d3] }
  | _ => none }
def findWaysRow : OpenClaim := { program := "ytcfkkhljekopgaadoor", sum := "47e4f30e6e06e5ee036557fb6d02861472a29a42343fd95e7cdaa79869821ec1", func := "sparsetree/sparsetreelaw08.FindWays", spec := "findWays", unfollowed := true, recurses := true, named := ["sparsetree/sha.rounds"], apart := false, laid := [("sparsetree/sha.rounds", laid_sparsetree_sha_rounds)] }
def FindWaysSaid : Prop := findWaysRow.holds Tryd.pinned (OpenSpec.ofChange findWaysSpec)

/-- ITS FALSE NEIGHBOUR: 'it returns false'. Refute it at one input. -/
def findWaysWrong : ChangeSpec := { name := "findWays", fn := fun _ => fun
  | [d1, d2, d3] => { results := [.lit (.bool false)], args := [d1, d2, d3] }
  | _ => none }
def FindWaysWrongFalsely : Prop := findWaysRow.holds Tryd.pinned (OpenSpec.ofChange findWaysWrong)

/-- 'sparsetreelaw08.FindUnder': WHATEVER THE INPUT: true; the input reads as it did. -/
def findUnderSpec : ChangeSpec := { name := "findUnder", fn := fun _ => fun
  | [d1, d2, d3] => { results := [.lit (.bool true)], args := [d1, d2, d3] }
  | _ => none }
def findUnderRow : OpenClaim := { program := "ytcfkkhljekopgaadoor", sum := "47e4f30e6e06e5ee036557fb6d02861472a29a42343fd95e7cdaa79869821ec1", func := "sparsetree/sparsetreelaw08.FindUnder", spec := "findUnder", unfollowed := true, recurses := true, named := ["sparsetree/sha.rounds"], apart := false, laid := [("sparsetree/sha.rounds", laid_sparsetree_sha_rounds)] }
def FindUnderSaid : Prop := findUnderRow.holds Tryd.pinned (OpenSpec.ofChange findUnderSpec)

/-- ITS FALSE NEIGHBOUR: 'it returns false'. Refute it at one input. -/
def findUnderWrong : ChangeSpec := { name := "findUnder", fn := fun _ => fun
  | [d1, d2, d3] => { results := [.lit (.bool false)], args := [d1, d2, d3] }
  | _ => none }
def FindUnderWrongFalsely : Prop := findUnderRow.holds Tryd.pinned (OpenSpec.ofChange findUnderWrong)

/-- 'sparsetreelaw08.FindCopies': WHATEVER THE INPUT: true; the input reads as it did. -/
def findCopiesSpec : ChangeSpec := { name := "findCopies", fn := fun _ => fun
  | [d1, d2, d3] => { results := [.lit (.bool true)], args := [d1, d2, d3] }
  | _ => none }
def findCopiesRow : OpenClaim := { program := "ytcfkkhljekopgaadoor", sum := "47e4f30e6e06e5ee036557fb6d02861472a29a42343fd95e7cdaa79869821ec1", func := "sparsetree/sparsetreelaw08.FindCopies", spec := "findCopies", unfollowed := true, recurses := true, named := ["sparsetree/sha.rounds"], apart := false, laid := [("sparsetree/sha.rounds", laid_sparsetree_sha_rounds)] }
def FindCopiesSaid : Prop := findCopiesRow.holds Tryd.pinned (OpenSpec.ofChange findCopiesSpec)

/-- ITS FALSE NEIGHBOUR: 'it returns false'. Refute it at one input. -/
def findCopiesWrong : ChangeSpec := { name := "findCopies", fn := fun _ => fun
  | [d1, d2, d3] => { results := [.lit (.bool false)], args := [d1, d2, d3] }
  | _ => none }
def FindCopiesWrongFalsely : Prop := findCopiesRow.holds Tryd.pinned (OpenSpec.ofChange findCopiesWrong)

/- THE SECOND FORM. 'bulk': how many values and letters a reading holds, each counted each time it is reached (what is shared counts as often as it is met; a slice's spare places count too). A statement '..UptoSaid' is the law's where the arguments, and the package variables that the reading takes, are together of bulk at most 1048576: NARROWER than '..Said'. Prove '..Said' where nothing that the law and all that it calls make is longer than what came in: it says more and counts as full. Else prove '..UptoSaid'. A law counts once. -/
mutual
def uptoBulk {H : Type} : DataW H → Nat
  | .lit (.string bytes) => bytes.length + 1
  | .lit _ => 1
  | .nil => 1
  | .ptr d => uptoBulk d + 1
  | .slice elems spare => uptoBulkAll elems + uptoBulkAll spare + 1
  | .agg parts => uptoBulkAll parts + 1
  | .iface _ d => uptoBulk d + 1
  | .map entries => uptoBulkEntries entries + 1
  | .held _ => 1
def uptoBulkAll {H : Type} : List (DataW H) → Nat
  | [] => 0
  | d :: r => uptoBulk d + uptoBulkAll r
def uptoBulkEntries {H : Type} : List (Lit × DataW H) → Nat
  | [] => 0
  | x :: r => uptoBulkEntry x + uptoBulkEntries r
def uptoBulkEntry {H : Type} : Lit × DataW H → Nat
  | (.string bytes, d) => bytes.length + uptoBulk d + 1
  | (_, d) => uptoBulk d + 1
 end
def uptoSmall : (H : Type) → List (DataW H) → Bool := fun _ ds => decide (uptoBulkAll ds ≤ 1048576)
def OpenSpec.upto (s : _root_.Go.ChangeSpec) : _root_.Go.OpenSpec := { _root_.Go.OpenSpec.ofChange s with cond := some uptoSmall }

/-- 'sparsetreelaw05.DigestForks', WHERE WHAT IT READS IS OF BULK AT MOST 1048576: true; the input reads as it did. -/
def digestForksUptoRow : OpenClaim := { program := "ytcfkkhljekopgaadoor", sum := "47e4f30e6e06e5ee036557fb6d02861472a29a42343fd95e7cdaa79869821ec1", func := "sparsetree/sparsetreelaw05.DigestForks", spec := "digestForks", unfollowed := true, recurses := true, named := ["sparsetree/sha.rounds"], apart := false, laid := [("sparsetree/sha.rounds", laid_sparsetree_sha_rounds)], narrowed := true }
def DigestForksUptoSaid : Prop := digestForksUptoRow.holds Tryd.pinned (OpenSpec.upto digestForksSpec)

/-- 'sparsetreelaw05.DigestNil', WHERE WHAT IT READS IS OF BULK AT MOST 1048576: true; the input reads as it did. -/
def digestNilUptoRow : OpenClaim := { program := "ytcfkkhljekopgaadoor", sum := "47e4f30e6e06e5ee036557fb6d02861472a29a42343fd95e7cdaa79869821ec1", func := "sparsetree/sparsetreelaw05.DigestNil", spec := "digestNil", unfollowed := true, recurses := true, named := ["sparsetree/sha.rounds"], apart := false, laid := [("sparsetree/sha.rounds", laid_sparsetree_sha_rounds)], narrowed := true }
def DigestNilUptoSaid : Prop := digestNilUptoRow.holds Tryd.pinned (OpenSpec.upto digestNilSpec)

/-- 'sparsetreelaw06.PreimageLeafOf', WHERE WHAT IT READS IS OF BULK AT MOST 1048576: true; the input reads as it did. -/
def preimageLeafOfUptoRow : OpenClaim := { program := "ytcfkkhljekopgaadoor", sum := "47e4f30e6e06e5ee036557fb6d02861472a29a42343fd95e7cdaa79869821ec1", func := "sparsetree/sparsetreelaw06.PreimageLeafOf", spec := "preimageLeafOf", unfollowed := true, recurses := true, named := ["sparsetree/sha.rounds"], apart := false, laid := [("sparsetree/sha.rounds", laid_sparsetree_sha_rounds)], narrowed := true }
def PreimageLeafOfUptoSaid : Prop := preimageLeafOfUptoRow.holds Tryd.pinned (OpenSpec.upto preimageLeafOfSpec)

/-- 'sparsetreelaw07.NodeDigests', WHERE WHAT IT READS IS OF BULK AT MOST 1048576: true; the input reads as it did. -/
def nodeDigestsUptoRow : OpenClaim := { program := "ytcfkkhljekopgaadoor", sum := "47e4f30e6e06e5ee036557fb6d02861472a29a42343fd95e7cdaa79869821ec1", func := "sparsetree/sparsetreelaw07.NodeDigests", spec := "nodeDigests", unfollowed := true, recurses := true, named := ["sparsetree/sha.rounds"], apart := false, laid := [("sparsetree/sha.rounds", laid_sparsetree_sha_rounds)], narrowed := true }
def NodeDigestsUptoSaid : Prop := nodeDigestsUptoRow.holds Tryd.pinned (OpenSpec.upto nodeDigestsSpec)

/-- 'sparsetreelaw07.NodeKeeps', WHERE WHAT IT READS IS OF BULK AT MOST 1048576: true; the input reads as it did. -/
def nodeKeepsUptoRow : OpenClaim := { program := "ytcfkkhljekopgaadoor", sum := "47e4f30e6e06e5ee036557fb6d02861472a29a42343fd95e7cdaa79869821ec1", func := "sparsetree/sparsetreelaw07.NodeKeeps", spec := "nodeKeeps", unfollowed := true, recurses := true, named := ["sparsetree/sha.rounds"], apart := false, laid := [("sparsetree/sha.rounds", laid_sparsetree_sha_rounds)], narrowed := true }
def NodeKeepsUptoSaid : Prop := nodeKeepsUptoRow.holds Tryd.pinned (OpenSpec.upto nodeKeepsSpec)

/-- 'sparsetreelaw07.NodeLeaves', WHERE WHAT IT READS IS OF BULK AT MOST 1048576: true; the input reads as it did. -/
def nodeLeavesUptoRow : OpenClaim := { program := "ytcfkkhljekopgaadoor", sum := "47e4f30e6e06e5ee036557fb6d02861472a29a42343fd95e7cdaa79869821ec1", func := "sparsetree/sparsetreelaw07.NodeLeaves", spec := "nodeLeaves", unfollowed := true, recurses := true, named := ["sparsetree/sha.rounds"], apart := false, laid := [("sparsetree/sha.rounds", laid_sparsetree_sha_rounds)], narrowed := true }
def NodeLeavesUptoSaid : Prop := nodeLeavesUptoRow.holds Tryd.pinned (OpenSpec.upto nodeLeavesSpec)

/-- 'sparsetreelaw07.NodeNil', WHERE WHAT IT READS IS OF BULK AT MOST 1048576: true; the input reads as it did. -/
def nodeNilUptoRow : OpenClaim := { program := "ytcfkkhljekopgaadoor", sum := "47e4f30e6e06e5ee036557fb6d02861472a29a42343fd95e7cdaa79869821ec1", func := "sparsetree/sparsetreelaw07.NodeNil", spec := "nodeNil", unfollowed := true, recurses := true, named := ["sparsetree/sha.rounds"], apart := false, laid := [("sparsetree/sha.rounds", laid_sparsetree_sha_rounds)], narrowed := true }
def NodeNilUptoSaid : Prop := nodeNilUptoRow.holds Tryd.pinned (OpenSpec.upto nodeNilSpec)

/-- 'sparsetreelaw07.NodeCaches', WHERE WHAT IT READS IS OF BULK AT MOST 1048576: true; the input reads as it did. -/
def nodeCachesUptoRow : OpenClaim := { program := "ytcfkkhljekopgaadoor", sum := "47e4f30e6e06e5ee036557fb6d02861472a29a42343fd95e7cdaa79869821ec1", func := "sparsetree/sparsetreelaw07.NodeCaches", spec := "nodeCaches", unfollowed := true, recurses := true, named := ["sparsetree/sha.rounds"], apart := false, laid := [("sparsetree/sha.rounds", laid_sparsetree_sha_rounds)], narrowed := true }
def NodeCachesUptoSaid : Prop := nodeCachesUptoRow.holds Tryd.pinned (OpenSpec.upto nodeCachesSpec)

/-- 'sparsetreelaw08.FindLocates', WHERE WHAT IT READS IS OF BULK AT MOST 1048576: true; the input reads as it did. -/
def findLocatesUptoRow : OpenClaim := { program := "ytcfkkhljekopgaadoor", sum := "47e4f30e6e06e5ee036557fb6d02861472a29a42343fd95e7cdaa79869821ec1", func := "sparsetree/sparsetreelaw08.FindLocates", spec := "findLocates", unfollowed := true, recurses := true, named := ["sparsetree/sha.rounds"], apart := false, laid := [("sparsetree/sha.rounds", laid_sparsetree_sha_rounds)], narrowed := true }
def FindLocatesUptoSaid : Prop := findLocatesUptoRow.holds Tryd.pinned (OpenSpec.upto findLocatesSpec)

/-- 'sparsetreelaw08.FindGets', WHERE WHAT IT READS IS OF BULK AT MOST 1048576: true; the input reads as it did. -/
def findGetsUptoRow : OpenClaim := { program := "ytcfkkhljekopgaadoor", sum := "47e4f30e6e06e5ee036557fb6d02861472a29a42343fd95e7cdaa79869821ec1", func := "sparsetree/sparsetreelaw08.FindGets", spec := "findGets", unfollowed := true, recurses := true, named := ["sparsetree/sha.rounds"], apart := false, laid := [("sparsetree/sha.rounds", laid_sparsetree_sha_rounds)], narrowed := true }
def FindGetsUptoSaid : Prop := findGetsUptoRow.holds Tryd.pinned (OpenSpec.upto findGetsSpec)

/-- 'sparsetreelaw08.FindSiblings', WHERE WHAT IT READS IS OF BULK AT MOST 1048576: true; the input reads as it did. -/
def findSiblingsUptoRow : OpenClaim := { program := "ytcfkkhljekopgaadoor", sum := "47e4f30e6e06e5ee036557fb6d02861472a29a42343fd95e7cdaa79869821ec1", func := "sparsetree/sparsetreelaw08.FindSiblings", spec := "findSiblings", unfollowed := true, recurses := true, named := ["sparsetree/sha.rounds"], apart := false, laid := [("sparsetree/sha.rounds", laid_sparsetree_sha_rounds)], narrowed := true }
def FindSiblingsUptoSaid : Prop := findSiblingsUptoRow.holds Tryd.pinned (OpenSpec.upto findSiblingsSpec)

/-- 'sparsetreelaw08.FindWays', WHERE WHAT IT READS IS OF BULK AT MOST 1048576: true; the input reads as it did. -/
def findWaysUptoRow : OpenClaim := { program := "ytcfkkhljekopgaadoor", sum := "47e4f30e6e06e5ee036557fb6d02861472a29a42343fd95e7cdaa79869821ec1", func := "sparsetree/sparsetreelaw08.FindWays", spec := "findWays", unfollowed := true, recurses := true, named := ["sparsetree/sha.rounds"], apart := false, laid := [("sparsetree/sha.rounds", laid_sparsetree_sha_rounds)], narrowed := true }
def FindWaysUptoSaid : Prop := findWaysUptoRow.holds Tryd.pinned (OpenSpec.upto findWaysSpec)

/-- 'sparsetreelaw08.FindUnder', WHERE WHAT IT READS IS OF BULK AT MOST 1048576: true; the input reads as it did. -/
def findUnderUptoRow : OpenClaim := { program := "ytcfkkhljekopgaadoor", sum := "47e4f30e6e06e5ee036557fb6d02861472a29a42343fd95e7cdaa79869821ec1", func := "sparsetree/sparsetreelaw08.FindUnder", spec := "findUnder", unfollowed := true, recurses := true, named := ["sparsetree/sha.rounds"], apart := false, laid := [("sparsetree/sha.rounds", laid_sparsetree_sha_rounds)], narrowed := true }
def FindUnderUptoSaid : Prop := findUnderUptoRow.holds Tryd.pinned (OpenSpec.upto findUnderSpec)

/-- 'sparsetreelaw08.FindCopies', WHERE WHAT IT READS IS OF BULK AT MOST 1048576: true; the input reads as it did. -/
def findCopiesUptoRow : OpenClaim := { program := "ytcfkkhljekopgaadoor", sum := "47e4f30e6e06e5ee036557fb6d02861472a29a42343fd95e7cdaa79869821ec1", func := "sparsetree/sparsetreelaw08.FindCopies", spec := "findCopies", unfollowed := true, recurses := true, named := ["sparsetree/sha.rounds"], apart := false, laid := [("sparsetree/sha.rounds", laid_sparsetree_sha_rounds)], narrowed := true }
def FindCopiesUptoSaid : Prop := findCopiesUptoRow.holds Tryd.pinned (OpenSpec.upto findCopiesSpec)

end Rows
end Go.Proofs.YtcfkkhljekopgaaDoor
