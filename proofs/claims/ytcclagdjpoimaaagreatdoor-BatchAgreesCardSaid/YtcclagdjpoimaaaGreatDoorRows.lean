/-
  NARROWER THAN 'FOR EVERY INPUT', by the rows' own cells (each row's printed sentence says how): BatchBuilds: laid · BatchApplies: laid · BatchLeads: laid · BatchUndoes: laid · BatchAgrees: laid.
  DERIVED. THE GIVEN ROWS OF THIS SEAT. 5 by the template 'for every input the law returns true; each argument reads behind the call as it read before'; 0 by the template 'total and deterministic' (their statements: YtcclagdjpoimaaaGreatDoorTotals.lean).
  GIVEN WITH THE SEED: the statements are not yours to turn. If you find one false, say at which input.
  Laid BY PROGRAM, IN A SANDBOX (cutbox-rows.mjs): the forced cells as the released guide's own fill.sh prints them over the translation 7852ff5709d9dfcf… (all of the seat's roots in one cut). By AI agents, Wed Nov 11 2026. No macro, syntax, notation, axiom, sorry.
-/
import Derived.Test.YtcclagdjpoimaaaGreatDoorChecked
import GoSem.Claim
import GoSem.ClaimJoined
import GoSem.ClaimMapViews
import Derived.JoinedTies
import Derived.KernelRfl
namespace Go.Proofs.YtcclagdjpoimaaaGreatDoor
/- THE CELL 'sum', in the pinned program and in every row, IS THE sha256 OF THE DUMP (.gsa) THAT YtcclagdjpoimaaaGreatDoorProg.lean LOADS. Nothing in Lean hashes anything: it is a label: what it is worth is what the hold of that sum in a sandbox is worth. -/
noncomputable def Tryz.pinned : Pinned := { name := "ytcclagdjpoimaaagreatdoor", sum := "7852ff5709d9dfcf153758fd1825b30b9376e845628000710046e018ef882fca", checked := Tryz.checked }
namespace Rows
def none {H : Type} : Left H := { results := [], args := [] }

/- WHAT THE LISTED PACKAGE-LEVEL VARIABLES READ AS WHEN THE CALL BEGINS. Each datum BY PROGRAM (the guide's laid-datum.mjs) off the statement by which the dump's own 'gosem.cut.vars' lays the variable. In a bare row this is a premise. The card (YtcclagdjpoimaaaGreatDoorCards.lean) ties it to the program's text. -/
def laid_sparsetree_sha_rounds {H : Type} : DataW H := .agg [.lit (.int .u32 1116352408), .lit (.int .u32 1899447441), .lit (.int .u32 3049323471), .lit (.int .u32 3921009573), .lit (.int .u32 961987163), .lit (.int .u32 1508970993), .lit (.int .u32 2453635748), .lit (.int .u32 2870763221), .lit (.int .u32 3624381080), .lit (.int .u32 310598401), .lit (.int .u32 607225278), .lit (.int .u32 1426881987), .lit (.int .u32 1925078388), .lit (.int .u32 2162078206), .lit (.int .u32 2614888103), .lit (.int .u32 3248222580), .lit (.int .u32 3835390401), .lit (.int .u32 4022224774), .lit (.int .u32 264347078), .lit (.int .u32 604807628), .lit (.int .u32 770255983), .lit (.int .u32 1249150122), .lit (.int .u32 1555081692), .lit (.int .u32 1996064986), .lit (.int .u32 2554220882), .lit (.int .u32 2821834349), .lit (.int .u32 2952996808), .lit (.int .u32 3210313671), .lit (.int .u32 3336571891), .lit (.int .u32 3584528711), .lit (.int .u32 113926993), .lit (.int .u32 338241895), .lit (.int .u32 666307205), .lit (.int .u32 773529912), .lit (.int .u32 1294757372), .lit (.int .u32 1396182291), .lit (.int .u32 1695183700), .lit (.int .u32 1986661051), .lit (.int .u32 2177026350), .lit (.int .u32 2456956037), .lit (.int .u32 2730485921), .lit (.int .u32 2820302411), .lit (.int .u32 3259730800), .lit (.int .u32 3345764771), .lit (.int .u32 3516065817), .lit (.int .u32 3600352804), .lit (.int .u32 4094571909), .lit (.int .u32 275423344), .lit (.int .u32 430227734), .lit (.int .u32 506948616), .lit (.int .u32 659060556), .lit (.int .u32 883997877), .lit (.int .u32 958139571), .lit (.int .u32 1322822218), .lit (.int .u32 1537002063), .lit (.int .u32 1747873779), .lit (.int .u32 1955562222), .lit (.int .u32 2024104815), .lit (.int .u32 2227730452), .lit (.int .u32 2361852424), .lit (.int .u32 2428436474), .lit (.int .u32 2756734187), .lit (.int .u32 3204031479), .lit (.int .u32 3329325298)]

/-- 'sparsetreelaw12.BatchBuilds': WHATEVER THE INPUT: true; the input reads as it did. -/
def batchBuildsSpec : ChangeSpec := { name := "batchBuilds", fn := fun _ => fun
  | [d1, d2] => { results := [.lit (.bool true)], args := [d1, d2] }
  | _ => none }
def batchBuildsRow : OpenClaim := { program := "ytcclagdjpoimaaagreatdoor", sum := "7852ff5709d9dfcf153758fd1825b30b9376e845628000710046e018ef882fca", func := "sparsetree/sparsetreelaw12.BatchBuilds", spec := "batchBuilds", inPlace := ["internal/bytealg.Compare", "slices.overlaps[sparsetree/batch.Change]"], unfollowed := true, recurses := true, named := ["sparsetree/sha.rounds"], apart := false, laid := [("sparsetree/sha.rounds", laid_sparsetree_sha_rounds)] }
def BatchBuildsSaid : Prop := batchBuildsRow.holds Tryz.pinned (OpenSpec.ofChange batchBuildsSpec)

/-- ITS FALSE NEIGHBOUR: 'it returns false'. Refute it at one input. -/
def batchBuildsWrong : ChangeSpec := { name := "batchBuilds", fn := fun _ => fun
  | [d1, d2] => { results := [.lit (.bool false)], args := [d1, d2] }
  | _ => none }
def BatchBuildsWrongFalsely : Prop := batchBuildsRow.holds Tryz.pinned (OpenSpec.ofChange batchBuildsWrong)

/-- 'sparsetreelaw12.BatchApplies': WHATEVER THE INPUT: true; the input reads as it did. -/
def batchAppliesSpec : ChangeSpec := { name := "batchApplies", fn := fun _ => fun
  | [d1, d2, d3] => { results := [.lit (.bool true)], args := [d1, d2, d3] }
  | _ => none }
def batchAppliesRow : OpenClaim := { program := "ytcclagdjpoimaaagreatdoor", sum := "7852ff5709d9dfcf153758fd1825b30b9376e845628000710046e018ef882fca", func := "sparsetree/sparsetreelaw12.BatchApplies", spec := "batchApplies", inPlace := ["internal/bytealg.Compare", "slices.overlaps[sparsetree/batch.Change]"], unfollowed := true, recurses := true, named := ["sparsetree/sha.rounds"], apart := false, laid := [("sparsetree/sha.rounds", laid_sparsetree_sha_rounds)] }
def BatchAppliesSaid : Prop := batchAppliesRow.holds Tryz.pinned (OpenSpec.ofChange batchAppliesSpec)

/-- ITS FALSE NEIGHBOUR: 'it returns false'. Refute it at one input. -/
def batchAppliesWrong : ChangeSpec := { name := "batchApplies", fn := fun _ => fun
  | [d1, d2, d3] => { results := [.lit (.bool false)], args := [d1, d2, d3] }
  | _ => none }
def BatchAppliesWrongFalsely : Prop := batchAppliesRow.holds Tryz.pinned (OpenSpec.ofChange batchAppliesWrong)

/-- 'sparsetreelaw12.BatchLeads': WHATEVER THE INPUT: true; the input reads as it did. -/
def batchLeadsSpec : ChangeSpec := { name := "batchLeads", fn := fun _ => fun
  | [d1, d2, d3] => { results := [.lit (.bool true)], args := [d1, d2, d3] }
  | _ => none }
def batchLeadsRow : OpenClaim := { program := "ytcclagdjpoimaaagreatdoor", sum := "7852ff5709d9dfcf153758fd1825b30b9376e845628000710046e018ef882fca", func := "sparsetree/sparsetreelaw12.BatchLeads", spec := "batchLeads", inPlace := ["internal/bytealg.Compare", "slices.overlaps[sparsetree/batch.Change]"], unfollowed := true, recurses := true, named := ["sparsetree/sha.rounds"], apart := false, laid := [("sparsetree/sha.rounds", laid_sparsetree_sha_rounds)] }
def BatchLeadsSaid : Prop := batchLeadsRow.holds Tryz.pinned (OpenSpec.ofChange batchLeadsSpec)

/-- ITS FALSE NEIGHBOUR: 'it returns false'. Refute it at one input. -/
def batchLeadsWrong : ChangeSpec := { name := "batchLeads", fn := fun _ => fun
  | [d1, d2, d3] => { results := [.lit (.bool false)], args := [d1, d2, d3] }
  | _ => none }
def BatchLeadsWrongFalsely : Prop := batchLeadsRow.holds Tryz.pinned (OpenSpec.ofChange batchLeadsWrong)

/-- 'sparsetreelaw12.BatchUndoes': WHATEVER THE INPUT: true; the input reads as it did. -/
def batchUndoesSpec : ChangeSpec := { name := "batchUndoes", fn := fun _ => fun
  | [d1, d2, d3] => { results := [.lit (.bool true)], args := [d1, d2, d3] }
  | _ => none }
def batchUndoesRow : OpenClaim := { program := "ytcclagdjpoimaaagreatdoor", sum := "7852ff5709d9dfcf153758fd1825b30b9376e845628000710046e018ef882fca", func := "sparsetree/sparsetreelaw12.BatchUndoes", spec := "batchUndoes", inPlace := ["internal/bytealg.Compare", "slices.overlaps[sparsetree/batch.Change]"], unfollowed := true, recurses := true, named := ["sparsetree/sha.rounds"], apart := false, laid := [("sparsetree/sha.rounds", laid_sparsetree_sha_rounds)] }
def BatchUndoesSaid : Prop := batchUndoesRow.holds Tryz.pinned (OpenSpec.ofChange batchUndoesSpec)

/-- ITS FALSE NEIGHBOUR: 'it returns false'. Refute it at one input. -/
def batchUndoesWrong : ChangeSpec := { name := "batchUndoes", fn := fun _ => fun
  | [d1, d2, d3] => { results := [.lit (.bool false)], args := [d1, d2, d3] }
  | _ => none }
def BatchUndoesWrongFalsely : Prop := batchUndoesRow.holds Tryz.pinned (OpenSpec.ofChange batchUndoesWrong)

/-- 'sparsetreelaw12.BatchAgrees': WHATEVER THE INPUT: true; the input reads as it did. -/
def batchAgreesSpec : ChangeSpec := { name := "batchAgrees", fn := fun _ => fun
  | [d1, d2, d3] => { results := [.lit (.bool true)], args := [d1, d2, d3] }
  | _ => none }
def batchAgreesRow : OpenClaim := { program := "ytcclagdjpoimaaagreatdoor", sum := "7852ff5709d9dfcf153758fd1825b30b9376e845628000710046e018ef882fca", func := "sparsetree/sparsetreelaw12.BatchAgrees", spec := "batchAgrees", inPlace := ["internal/bytealg.Compare", "slices.overlaps[sparsetree/batch.Change]"], unfollowed := true, recurses := true, named := ["sparsetree/sha.rounds"], apart := false, laid := [("sparsetree/sha.rounds", laid_sparsetree_sha_rounds)] }
def BatchAgreesSaid : Prop := batchAgreesRow.holds Tryz.pinned (OpenSpec.ofChange batchAgreesSpec)

/-- ITS FALSE NEIGHBOUR: 'it returns false'. Refute it at one input. -/
def batchAgreesWrong : ChangeSpec := { name := "batchAgrees", fn := fun _ => fun
  | [d1, d2, d3] => { results := [.lit (.bool false)], args := [d1, d2, d3] }
  | _ => none }
def BatchAgreesWrongFalsely : Prop := batchAgreesRow.holds Tryz.pinned (OpenSpec.ofChange batchAgreesWrong)

/- THE SECOND FORM. 'bulk': how many values and letters a reading holds, each counted each time it is reached (what is shared counts as often as it is met; a slice's spare places count too). A statement '..UptoSaid' is the law's where the arguments, and the package variables that the reading takes, are together of bulk at most 1048576: NARROWER than '..Said'. Prove '..Said' where nothing that the law and all that it calls make is longer than what came in: it says more and counts as full. Else prove '..UptoSaid'. A law counts once. -/
mutual
def uptoBulk {H : Type} : DataW H → Nat
  | .lit (.string bytes) => bytes.length + 1
  | .lit _ => 1
  | .nil => 1
  | .ptr d => uptoBulk d + 1
  | .slice elems spare => uptoBulkAll elems + uptoBulkAll spare + 1
  | .agg parts => uptoBulkAll parts + 1
  | .iface _ d => uptoBulk d + 1
  | .map entries => uptoBulkEntries entries + 1
  | .held _ => 1
def uptoBulkAll {H : Type} : List (DataW H) → Nat
  | [] => 0
  | d :: r => uptoBulk d + uptoBulkAll r
def uptoBulkEntries {H : Type} : List (Lit × DataW H) → Nat
  | [] => 0
  | x :: r => uptoBulkEntry x + uptoBulkEntries r
def uptoBulkEntry {H : Type} : Lit × DataW H → Nat
  | (.string bytes, d) => bytes.length + uptoBulk d + 1
  | (_, d) => uptoBulk d + 1
 end
def uptoSmall : (H : Type) → List (DataW H) → Bool := fun _ ds => decide (uptoBulkAll ds ≤ 1048576)
def OpenSpec.upto (s : _root_.Go.ChangeSpec) : _root_.Go.OpenSpec := { _root_.Go.OpenSpec.ofChange s with cond := some uptoSmall }

/-- 'sparsetreelaw12.BatchBuilds', WHERE WHAT IT READS IS OF BULK AT MOST 1048576: true; the input reads as it did. -/
def batchBuildsUptoRow : OpenClaim := { program := "ytcclagdjpoimaaagreatdoor", sum := "7852ff5709d9dfcf153758fd1825b30b9376e845628000710046e018ef882fca", func := "sparsetree/sparsetreelaw12.BatchBuilds", spec := "batchBuilds", inPlace := ["internal/bytealg.Compare", "slices.overlaps[sparsetree/batch.Change]"], unfollowed := true, recurses := true, named := ["sparsetree/sha.rounds"], apart := false, laid := [("sparsetree/sha.rounds", laid_sparsetree_sha_rounds)], narrowed := true }
def BatchBuildsUptoSaid : Prop := batchBuildsUptoRow.holds Tryz.pinned (OpenSpec.upto batchBuildsSpec)

/-- 'sparsetreelaw12.BatchApplies', WHERE WHAT IT READS IS OF BULK AT MOST 1048576: true; the input reads as it did. -/
def batchAppliesUptoRow : OpenClaim := { program := "ytcclagdjpoimaaagreatdoor", sum := "7852ff5709d9dfcf153758fd1825b30b9376e845628000710046e018ef882fca", func := "sparsetree/sparsetreelaw12.BatchApplies", spec := "batchApplies", inPlace := ["internal/bytealg.Compare", "slices.overlaps[sparsetree/batch.Change]"], unfollowed := true, recurses := true, named := ["sparsetree/sha.rounds"], apart := false, laid := [("sparsetree/sha.rounds", laid_sparsetree_sha_rounds)], narrowed := true }
def BatchAppliesUptoSaid : Prop := batchAppliesUptoRow.holds Tryz.pinned (OpenSpec.upto batchAppliesSpec)

/-- 'sparsetreelaw12.BatchLeads', WHERE WHAT IT READS IS OF BULK AT MOST 1048576: true; the input reads as it did. -/
def batchLeadsUptoRow : OpenClaim := { program := "ytcclagdjpoimaaagreatdoor", sum := "7852ff5709d9dfcf153758fd1825b30b9376e845628000710046e018ef882fca", func := "sparsetree/sparsetreelaw12.BatchLeads", spec := "batchLeads", inPlace := ["internal/bytealg.Compare", "slices.overlaps[sparsetree/batch.Change]"], unfollowed := true, recurses := true, named := ["sparsetree/sha.rounds"], apart := false, laid := [("sparsetree/sha.rounds", laid_sparsetree_sha_rounds)], narrowed := true }
def BatchLeadsUptoSaid : Prop := batchLeadsUptoRow.holds Tryz.pinned (OpenSpec.upto batchLeadsSpec)

/-- 'sparsetreelaw12.BatchUndoes', WHERE WHAT IT READS IS OF BULK AT MOST 1048576: true; the input reads as it did. -/
def batchUndoesUptoRow : OpenClaim := { program := "ytcclagdjpoimaaagreatdoor", sum := "7852ff5709d9dfcf153758fd1825b30b9376e845628000710046e018ef882fca", func := "sparsetree/sparsetreelaw12.BatchUndoes", spec := "batchUndoes", inPlace := ["internal/bytealg.Compare", "slices.overlaps[sparsetree/batch.Change]"], unfollowed := true, recurses := true, named := ["sparsetree/sha.rounds"], apart := false, laid := [("sparsetree/sha.rounds", laid_sparsetree_sha_rounds)], narrowed := true }
def BatchUndoesUptoSaid : Prop := batchUndoesUptoRow.holds Tryz.pinned (OpenSpec.upto batchUndoesSpec)

/-- 'sparsetreelaw12.BatchAgrees', WHERE WHAT IT READS IS OF BULK AT MOST 1048576: true; the input reads as it did. -/
def batchAgreesUptoRow : OpenClaim := { program := "ytcclagdjpoimaaagreatdoor", sum := "7852ff5709d9dfcf153758fd1825b30b9376e845628000710046e018ef882fca", func := "sparsetree/sparsetreelaw12.BatchAgrees", spec := "batchAgrees", inPlace := ["internal/bytealg.Compare", "slices.overlaps[sparsetree/batch.Change]"], unfollowed := true, recurses := true, named := ["sparsetree/sha.rounds"], apart := false, laid := [("sparsetree/sha.rounds", laid_sparsetree_sha_rounds)], narrowed := true }
def BatchAgreesUptoSaid : Prop := batchAgreesUptoRow.holds Tryz.pinned (OpenSpec.upto batchAgreesSpec)

end Rows
end Go.Proofs.YtcclagdjpoimaaaGreatDoor
