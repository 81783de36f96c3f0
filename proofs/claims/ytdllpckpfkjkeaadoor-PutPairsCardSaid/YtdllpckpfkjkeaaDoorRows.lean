/-
  NARROWER THAN 'FOR EVERY INPUT', by the rows' own cells (each row's printed sentence says how): PutCommutes: laid · PutPairs: laid · PutPuts: laid · PutShares: laid · PutAll: laid · PutAt: laid · RemoveInverts: laid · RemoveKeeps: laid · RemoveAt: laid · RemoveRemoves: laid · RemoveAll: laid · RemovePrunes: laid.
  DERIVED. THE GIVEN ROWS OF THIS SEAT. 12 by the template 'for every input the law returns true; each argument reads behind the call as it read before'; 0 by the template 'total and deterministic' (their statements: YtdllpckpfkjkeaaDoorTotals.lean).
  GIVEN WITH THE SEED: the statements are not yours to turn. If you find one false, say at which input.
  Laid BY PROGRAM, IN A SANDBOX (cutbox-rows.mjs): the forced cells as the released guide's own fill.sh prints them over the translation eb9fa5aff9413e85… (all of the seat's roots in one cut). By AI agents, Wed Nov 11 2026. No macro, syntax, notation, axiom, sorry.
-/
import Derived.Test.YtdllpckpfkjkeaaDoorChecked
import GoSem.Claim
import GoSem.ClaimJoined
import GoSem.ClaimMapViews
import Derived.JoinedTies
import Derived.KernelRfl
namespace Go.Proofs.YtdllpckpfkjkeaaDoor
/- THE CELL 'sum', in the pinned program and in every row, IS THE sha256 OF THE DUMP (.gsa) THAT YtdllpckpfkjkeaaDoorProg.lean LOADS. Nothing in Lean hashes anything: it is a label: what it is worth is what the hold of that sum in a sandbox is worth. -/
noncomputable def Tryd.pinned : Pinned := { name := "ytdllpckpfkjkeaadoor", sum := "eb9fa5aff9413e85ffe71aedbf783a906398384dc2bb9c14da293aa6757ddd01", checked := Tryd.checked }
namespace Rows
def none {H : Type} : Left H := { results := [], args := [] }

/- WHAT THE LISTED PACKAGE-LEVEL VARIABLES READ AS WHEN THE CALL BEGINS. Each datum BY PROGRAM (the guide's laid-datum.mjs) off the statement by which the dump's own 'gosem.cut.vars' lays the variable. In a bare row this is a premise. The card (YtdllpckpfkjkeaaDoorCards.lean) ties it to the program's text. -/
def laid_sparsetree_sha_rounds {H : Type} : DataW H := .agg [.lit (.int .u32 1116352408), .lit (.int .u32 1899447441), .lit (.int .u32 3049323471), .lit (.int .u32 3921009573), .lit (.int .u32 961987163), .lit (.int .u32 1508970993), .lit (.int .u32 2453635748), .lit (.int .u32 2870763221), .lit (.int .u32 3624381080), .lit (.int .u32 310598401), .lit (.int .u32 607225278), .lit (.int .u32 1426881987), .lit (.int .u32 1925078388), .lit (.int .u32 2162078206), .lit (.int .u32 2614888103), .lit (.int .u32 3248222580), .lit (.int .u32 3835390401), .lit (.int .u32 4022224774), .lit (.int .u32 264347078), .lit (.int .u32 604807628), .lit (.int .u32 770255983), .lit (.int .u32 1249150122), .lit (.int .u32 1555081692), .lit (.int .u32 1996064986), .lit (.int .u32 2554220882), .lit (.int .u32 2821834349), .lit (.int .u32 2952996808), .lit (.int .u32 3210313671), .lit (.int .u32 3336571891), .lit (.int .u32 3584528711), .lit (.int .u32 113926993), .lit (.int .u32 338241895), .lit (.int .u32 666307205), .lit (.int .u32 773529912), .lit (.int .u32 1294757372), .lit (.int .u32 1396182291), .lit (.int .u32 1695183700), .lit (.int .u32 1986661051), .lit (.int .u32 2177026350), .lit (.int .u32 2456956037), .lit (.int .u32 2730485921), .lit (.int .u32 2820302411), .lit (.int .u32 3259730800), .lit (.int .u32 3345764771), .lit (.int .u32 3516065817), .lit (.int .u32 3600352804), .lit (.int .u32 4094571909), .lit (.int .u32 275423344), .lit (.int .u32 430227734), .lit (.int .u32 506948616), .lit (.int .u32 659060556), .lit (.int .u32 883997877), .lit (.int .u32 958139571), .lit (.int .u32 1322822218), .lit (.int .u32 1537002063), .lit (.int .u32 1747873779), .lit (.int .u32 1955562222), .lit (.int .u32 2024104815), .lit (.int .u32 2227730452), .lit (.int .u32 2361852424), .lit (.int .u32 2428436474), .lit (.int .u32 2756734187), .lit (.int .u32 3204031479), .lit (.int .u32 3329325298)]

/-- 'sparsetreelaw09.PutCommutes': WHATEVER THE INPUT: true; the input reads as it did. -/
def putCommutesSpec : ChangeSpec := { name := "putCommutes", fn := fun _ => fun
  | [d1, d2, d3] => { results := [.lit (.bool true)], args := [d1, d2, d3] }
  | _ => none }
def putCommutesRow : OpenClaim := { program := "ytdllpckpfkjkeaadoor", sum := "eb9fa5aff9413e85ffe71aedbf783a906398384dc2bb9c14da293aa6757ddd01", func := "sparsetree/sparsetreelaw09.PutCommutes", spec := "putCommutes", unfollowed := true, recurses := true, named := ["sparsetree/sha.rounds"], apart := false, laid := [("sparsetree/sha.rounds", laid_sparsetree_sha_rounds)] }
def PutCommutesSaid : Prop := putCommutesRow.holds Tryd.pinned (OpenSpec.ofChange putCommutesSpec)

/-- ITS FALSE NEIGHBOUR: 'it returns false'. Refute it at one input. -/
def putCommutesWrong : ChangeSpec := { name := "putCommutes", fn := fun _ => fun
  | [d1, d2, d3] => { results := [.lit (.bool false)], args := [d1, d2, d3] }
  | _ => none }
def PutCommutesWrongFalsely : Prop := putCommutesRow.holds Tryd.pinned (OpenSpec.ofChange putCommutesWrong)

/-- 'sparsetreelaw09.PutPairs': WHATEVER THE INPUT: true; the input reads as it did. -/
def putPairsSpec : ChangeSpec := { name := "putPairs", fn := fun _ => fun
  | [d1, d2, d3] => { results := [.lit (.bool true)], args := [d1, d2, d3] }
  | _ => none }
def putPairsRow : OpenClaim := { program := "ytdllpckpfkjkeaadoor", sum := "eb9fa5aff9413e85ffe71aedbf783a906398384dc2bb9c14da293aa6757ddd01", func := "sparsetree/sparsetreelaw09.PutPairs", spec := "putPairs", unfollowed := true, recurses := true, named := ["sparsetree/sha.rounds"], apart := false, laid := [("sparsetree/sha.rounds", laid_sparsetree_sha_rounds)] }
def PutPairsSaid : Prop := putPairsRow.holds Tryd.pinned (OpenSpec.ofChange putPairsSpec)

/-- ITS FALSE NEIGHBOUR: 'it returns false'. Refute it at one input. -/
def putPairsWrong : ChangeSpec := { name := "putPairs", fn := fun _ => fun
  | [d1, d2, d3] => { results := [.lit (.bool false)], args := [d1, d2, d3] }
  | _ => none }
def PutPairsWrongFalsely : Prop := putPairsRow.holds Tryd.pinned (OpenSpec.ofChange putPairsWrong)

/-- 'sparsetreelaw09.PutPuts': WHATEVER THE INPUT: true; the input reads as it did. -/
def putPutsSpec : ChangeSpec := { name := "putPuts", fn := fun _ => fun
  | [d1, d2, d3] => { results := [.lit (.bool true)], args := [d1, d2, d3] }
  | _ => none }
def putPutsRow : OpenClaim := { program := "ytdllpckpfkjkeaadoor", sum := "eb9fa5aff9413e85ffe71aedbf783a906398384dc2bb9c14da293aa6757ddd01", func := "sparsetree/sparsetreelaw09.PutPuts", spec := "putPuts", unfollowed := true, recurses := true, named := ["sparsetree/sha.rounds"], apart := false, laid := [("sparsetree/sha.rounds", laid_sparsetree_sha_rounds)] }
def PutPutsSaid : Prop := putPutsRow.holds Tryd.pinned (OpenSpec.ofChange putPutsSpec)

/-- ITS FALSE NEIGHBOUR: 'it returns false'. Refute it at one input. -/
def putPutsWrong : ChangeSpec := { name := "putPuts", fn := fun _ => fun
  | [d1, d2, d3] => { results := [.lit (.bool false)], args := [d1, d2, d3] }
  | _ => none }
def PutPutsWrongFalsely : Prop := putPutsRow.holds Tryd.pinned (OpenSpec.ofChange putPutsWrong)

/-- 'sparsetreelaw09.PutShares': WHATEVER THE INPUT: true; the input reads as it did. -/
def putSharesSpec : ChangeSpec := { name := "putShares", fn := fun _ => fun
  | [d1, d2, d3] => { results := [.lit (.bool true)], args := [d1, d2, d3] }
  | _ => none }
def putSharesRow : OpenClaim := { program := "ytdllpckpfkjkeaadoor", sum := "eb9fa5aff9413e85ffe71aedbf783a906398384dc2bb9c14da293aa6757ddd01", func := "sparsetree/sparsetreelaw09.PutShares", spec := "putShares", unfollowed := true, recurses := true, named := ["sparsetree/sha.rounds"], apart := false, laid := [("sparsetree/sha.rounds", laid_sparsetree_sha_rounds)] }
def PutSharesSaid : Prop := putSharesRow.holds Tryd.pinned (OpenSpec.ofChange putSharesSpec)

/-- ITS FALSE NEIGHBOUR: 'it returns false'. Refute it at one input. -/
def putSharesWrong : ChangeSpec := { name := "putShares", fn := fun _ => fun
  | [d1, d2, d3] => { results := [.lit (.bool false)], args := [d1, d2, d3] }
  | _ => none }
def PutSharesWrongFalsely : Prop := putSharesRow.holds Tryd.pinned (OpenSpec.ofChange putSharesWrong)

/-- 'sparsetreelaw09.PutAll': WHATEVER THE INPUT: true; the input reads as it did. -/
def putAllSpec : ChangeSpec := { name := "putAll", fn := fun _ => fun
  | [d1, d2, d3] => { results := [.lit (.bool true)], args := [d1, d2, d3] }
  | _ => none }
def putAllRow : OpenClaim := { program := "ytdllpckpfkjkeaadoor", sum := "eb9fa5aff9413e85ffe71aedbf783a906398384dc2bb9c14da293aa6757ddd01", func := "sparsetree/sparsetreelaw09.PutAll", spec := "putAll", unfollowed := true, recurses := true, named := ["sparsetree/sha.rounds"], apart := false, laid := [("sparsetree/sha.rounds", laid_sparsetree_sha_rounds)] }
def PutAllSaid : Prop := putAllRow.holds Tryd.pinned (OpenSpec.ofChange putAllSpec)

/-- ITS FALSE NEIGHBOUR: 'it returns false'. Refute it at one input. -/
def putAllWrong : ChangeSpec := { name := "putAll", fn := fun _ => fun
  | [d1, d2, d3] => { results := [.lit (.bool false)], args := [d1, d2, d3] }
  | _ => none }
def PutAllWrongFalsely : Prop := putAllRow.holds Tryd.pinned (OpenSpec.ofChange putAllWrong)

/-- 'sparsetreelaw09.PutAt': WHATEVER THE INPUT: true; the input reads as it did. -/
def putAtSpec : ChangeSpec := { name := "putAt", fn := fun _ => fun
  | [d1, d2, d3] => { results := [.lit (.bool true)], args := [d1, d2, d3] }
  | _ => none }
def putAtRow : OpenClaim := { program := "ytdllpckpfkjkeaadoor", sum := "eb9fa5aff9413e85ffe71aedbf783a906398384dc2bb9c14da293aa6757ddd01", func := "sparsetree/sparsetreelaw09.PutAt", spec := "putAt", unfollowed := true, recurses := true, named := ["sparsetree/sha.rounds"], apart := false, laid := [("sparsetree/sha.rounds", laid_sparsetree_sha_rounds)] }
def PutAtSaid : Prop := putAtRow.holds Tryd.pinned (OpenSpec.ofChange putAtSpec)

/-- ITS FALSE NEIGHBOUR: 'it returns false'. Refute it at one input. -/
def putAtWrong : ChangeSpec := { name := "putAt", fn := fun _ => fun
  | [d1, d2, d3] => { results := [.lit (.bool false)], args := [d1, d2, d3] }
  | _ => none }
def PutAtWrongFalsely : Prop := putAtRow.holds Tryd.pinned (OpenSpec.ofChange putAtWrong)

/-- 'sparsetreelaw10.RemoveInverts': WHATEVER THE INPUT: true; the input reads as it did. -/
def removeInvertsSpec : ChangeSpec := { name := "removeInverts", fn := fun _ => fun
  | [d1, d2, d3] => { results := [.lit (.bool true)], args := [d1, d2, d3] }
  | _ => none }
def removeInvertsRow : OpenClaim := { program := "ytdllpckpfkjkeaadoor", sum := "eb9fa5aff9413e85ffe71aedbf783a906398384dc2bb9c14da293aa6757ddd01", func := "sparsetree/sparsetreelaw10.RemoveInverts", spec := "removeInverts", unfollowed := true, recurses := true, named := ["sparsetree/sha.rounds"], apart := false, laid := [("sparsetree/sha.rounds", laid_sparsetree_sha_rounds)] }
def RemoveInvertsSaid : Prop := removeInvertsRow.holds Tryd.pinned (OpenSpec.ofChange removeInvertsSpec)

/-- ITS FALSE NEIGHBOUR: 'it returns false'. Refute it at one input. -/
def removeInvertsWrong : ChangeSpec := { name := "removeInverts", fn := fun _ => fun
  | [d1, d2, d3] => { results := [.lit (.bool false)], args := [d1, d2, d3] }
  | _ => none }
def RemoveInvertsWrongFalsely : Prop := removeInvertsRow.holds Tryd.pinned (OpenSpec.ofChange removeInvertsWrong)

/-- 'sparsetreelaw10.RemoveKeeps': WHATEVER THE INPUT: true; the input reads as it did. -/
def removeKeepsSpec : ChangeSpec := { name := "removeKeeps", fn := fun _ => fun
  | [d1, d2, d3] => { results := [.lit (.bool true)], args := [d1, d2, d3] }
  | _ => none }
def removeKeepsRow : OpenClaim := { program := "ytdllpckpfkjkeaadoor", sum := "eb9fa5aff9413e85ffe71aedbf783a906398384dc2bb9c14da293aa6757ddd01", func := "sparsetree/sparsetreelaw10.RemoveKeeps", spec := "removeKeeps", unfollowed := true, recurses := true, named := ["sparsetree/sha.rounds"], apart := false, laid := [("sparsetree/sha.rounds", laid_sparsetree_sha_rounds)] }
def RemoveKeepsSaid : Prop := removeKeepsRow.holds Tryd.pinned (OpenSpec.ofChange removeKeepsSpec)

/-- ITS FALSE NEIGHBOUR: 'it returns false'. Refute it at one input. -/
def removeKeepsWrong : ChangeSpec := { name := "removeKeeps", fn := fun _ => fun
  | [d1, d2, d3] => { results := [.lit (.bool false)], args := [d1, d2, d3] }
  | _ => none }
def RemoveKeepsWrongFalsely : Prop := removeKeepsRow.holds Tryd.pinned (OpenSpec.ofChange removeKeepsWrong)

/-- 'sparsetreelaw10.RemoveAt': WHATEVER THE INPUT: true; the input reads as it did. -/
def removeAtSpec : ChangeSpec := { name := "removeAt", fn := fun _ => fun
  | [d1, d2, d3] => { results := [.lit (.bool true)], args := [d1, d2, d3] }
  | _ => none }
def removeAtRow : OpenClaim := { program := "ytdllpckpfkjkeaadoor", sum := "eb9fa5aff9413e85ffe71aedbf783a906398384dc2bb9c14da293aa6757ddd01", func := "sparsetree/sparsetreelaw10.RemoveAt", spec := "removeAt", unfollowed := true, recurses := true, named := ["sparsetree/sha.rounds"], apart := false, laid := [("sparsetree/sha.rounds", laid_sparsetree_sha_rounds)] }
def RemoveAtSaid : Prop := removeAtRow.holds Tryd.pinned (OpenSpec.ofChange removeAtSpec)

/-- ITS FALSE NEIGHBOUR: 'it returns false'. Refute it at one input. -/
def removeAtWrong : ChangeSpec := { name := "removeAt", fn := fun _ => fun
  | [d1, d2, d3] => { results := [.lit (.bool false)], args := [d1, d2, d3] }
  | _ => none }
def RemoveAtWrongFalsely : Prop := removeAtRow.holds Tryd.pinned (OpenSpec.ofChange removeAtWrong)

/-- 'sparsetreelaw10.RemoveRemoves': WHATEVER THE INPUT: true; the input reads as it did. -/
def removeRemovesSpec : ChangeSpec := { name := "removeRemoves", fn := fun _ => fun
  | [d1, d2, d3] => { results := [.lit (.bool true)], args := [d1, d2, d3] }
  | _ => none }
def removeRemovesRow : OpenClaim := { program := "ytdllpckpfkjkeaadoor", sum := "eb9fa5aff9413e85ffe71aedbf783a906398384dc2bb9c14da293aa6757ddd01", func := "sparsetree/sparsetreelaw10.RemoveRemoves", spec := "removeRemoves", unfollowed := true, recurses := true, named := ["sparsetree/sha.rounds"], apart := false, laid := [("sparsetree/sha.rounds", laid_sparsetree_sha_rounds)] }
def RemoveRemovesSaid : Prop := removeRemovesRow.holds Tryd.pinned (OpenSpec.ofChange removeRemovesSpec)

/-- ITS FALSE NEIGHBOUR: 'it returns false'. Refute it at one input. -/
def removeRemovesWrong : ChangeSpec := { name := "removeRemoves", fn := fun _ => fun
  | [d1, d2, d3] => { results := [.lit (.bool false)], args := [d1, d2, d3] }
  | _ => none }
def RemoveRemovesWrongFalsely : Prop := removeRemovesRow.holds Tryd.pinned (OpenSpec.ofChange removeRemovesWrong)

/-- 'sparsetreelaw10.RemoveAll': WHATEVER THE INPUT: true; the input reads as it did. -/
def removeAllSpec : ChangeSpec := { name := "removeAll", fn := fun _ => fun
  | [d1, d2, d3] => { results := [.lit (.bool true)], args := [d1, d2, d3] }
  | _ => none }
def removeAllRow : OpenClaim := { program := "ytdllpckpfkjkeaadoor", sum := "eb9fa5aff9413e85ffe71aedbf783a906398384dc2bb9c14da293aa6757ddd01", func := "sparsetree/sparsetreelaw10.RemoveAll", spec := "removeAll", unfollowed := true, recurses := true, named := ["sparsetree/sha.rounds"], apart := false, laid := [("sparsetree/sha.rounds", laid_sparsetree_sha_rounds)] }
def RemoveAllSaid : Prop := removeAllRow.holds Tryd.pinned (OpenSpec.ofChange removeAllSpec)

/-- ITS FALSE NEIGHBOUR: 'it returns false'. Refute it at one input. -/
def removeAllWrong : ChangeSpec := { name := "removeAll", fn := fun _ => fun
  | [d1, d2, d3] => { results := [.lit (.bool false)], args := [d1, d2, d3] }
  | _ => none }
def RemoveAllWrongFalsely : Prop := removeAllRow.holds Tryd.pinned (OpenSpec.ofChange removeAllWrong)

/-- 'sparsetreelaw10.RemovePrunes': WHATEVER THE INPUT: true; the input reads as it did. -/
def removePrunesSpec : ChangeSpec := { name := "removePrunes", fn := fun _ => fun
  | [d1, d2, d3] => { results := [.lit (.bool true)], args := [d1, d2, d3] }
  | _ => none }
def removePrunesRow : OpenClaim := { program := "ytdllpckpfkjkeaadoor", sum := "eb9fa5aff9413e85ffe71aedbf783a906398384dc2bb9c14da293aa6757ddd01", func := "sparsetree/sparsetreelaw10.RemovePrunes", spec := "removePrunes", unfollowed := true, recurses := true, named := ["sparsetree/sha.rounds"], apart := false, laid := [("sparsetree/sha.rounds", laid_sparsetree_sha_rounds)] }
def RemovePrunesSaid : Prop := removePrunesRow.holds Tryd.pinned (OpenSpec.ofChange removePrunesSpec)

/-- ITS FALSE NEIGHBOUR: 'it returns false'. Refute it at one input. -/
def removePrunesWrong : ChangeSpec := { name := "removePrunes", fn := fun _ => fun
  | [d1, d2, d3] => { results := [.lit (.bool false)], args := [d1, d2, d3] }
  | _ => none }
def RemovePrunesWrongFalsely : Prop := removePrunesRow.holds Tryd.pinned (OpenSpec.ofChange removePrunesWrong)

/- THE SECOND FORM. 'bulk': how many values and letters a reading holds, each counted each time it is reached (what is shared counts as often as it is met; a slice's spare places count too). A statement '..UptoSaid' is the law's where the arguments, and the package variables that the reading takes, are together of bulk at most 1048576: NARROWER than '..Said'. Prove '..Said' where nothing that the law and all that it calls make is longer than what came in: it says more and counts as full. Else prove '..UptoSaid'. A law counts once. -/
mutual
def uptoBulk {H : Type} : DataW H → Nat
  | .lit (.string bytes) => bytes.length + 1
  | .lit _ => 1
  | .nil => 1
  | .ptr d => uptoBulk d + 1
  | .slice elems spare => uptoBulkAll elems + uptoBulkAll spare + 1
  | .agg parts => uptoBulkAll parts + 1
  | .iface _ d => uptoBulk d + 1
  | .map entries => uptoBulkEntries entries + 1
  | .held _ => 1
def uptoBulkAll {H : Type} : List (DataW H) → Nat
  | [] => 0
  | d :: r => uptoBulk d + uptoBulkAll r
def uptoBulkEntries {H : Type} : List (Lit × DataW H) → Nat
  | [] => 0
  | x :: r => uptoBulkEntry x + uptoBulkEntries r
def uptoBulkEntry {H : Type} : Lit × DataW H → Nat
  | (.string bytes, d) => bytes.length + uptoBulk d + 1
  | (_, d) => uptoBulk d + 1
 end
def uptoSmall : (H : Type) → List (DataW H) → Bool := fun _ ds => decide (uptoBulkAll ds ≤ 1048576)
def OpenSpec.upto (s : _root_.Go.ChangeSpec) : _root_.Go.OpenSpec := { _root_.Go.OpenSpec.ofChange s with cond := some uptoSmall }

/-- 'sparsetreelaw09.PutCommutes', WHERE WHAT IT READS IS OF BULK AT MOST 1048576: true; the input reads as it did. -/
def putCommutesUptoRow : OpenClaim := { program := "ytdllpckpfkjkeaadoor", sum := "eb9fa5aff9413e85ffe71aedbf783a906398384dc2bb9c14da293aa6757ddd01", func := "sparsetree/sparsetreelaw09.PutCommutes", spec := "putCommutes", unfollowed := true, recurses := true, named := ["sparsetree/sha.rounds"], apart := false, laid := [("sparsetree/sha.rounds", laid_sparsetree_sha_rounds)], narrowed := true }
def PutCommutesUptoSaid : Prop := putCommutesUptoRow.holds Tryd.pinned (OpenSpec.upto putCommutesSpec)

/-- 'sparsetreelaw09.PutPairs', WHERE WHAT IT READS IS OF BULK AT MOST 1048576: true; the input reads as it did. -/
def putPairsUptoRow : OpenClaim := { program := "ytdllpckpfkjkeaadoor", sum := "eb9fa5aff9413e85ffe71aedbf783a906398384dc2bb9c14da293aa6757ddd01", func := "sparsetree/sparsetreelaw09.PutPairs", spec := "putPairs", unfollowed := true, recurses := true, named := ["sparsetree/sha.rounds"], apart := false, laid := [("sparsetree/sha.rounds", laid_sparsetree_sha_rounds)], narrowed := true }
def PutPairsUptoSaid : Prop := putPairsUptoRow.holds Tryd.pinned (OpenSpec.upto putPairsSpec)

/-- 'sparsetreelaw09.PutPuts', WHERE WHAT IT READS IS OF BULK AT MOST 1048576: true; the input reads as it did. -/
def putPutsUptoRow : OpenClaim := { program := "ytdllpckpfkjkeaadoor", sum := "eb9fa5aff9413e85ffe71aedbf783a906398384dc2bb9c14da293aa6757ddd01", func := "sparsetree/sparsetreelaw09.PutPuts", spec := "putPuts", unfollowed := true, recurses := true, named := ["sparsetree/sha.rounds"], apart := false, laid := [("sparsetree/sha.rounds", laid_sparsetree_sha_rounds)], narrowed := true }
def PutPutsUptoSaid : Prop := putPutsUptoRow.holds Tryd.pinned (OpenSpec.upto putPutsSpec)

/-- 'sparsetreelaw09.PutShares', WHERE WHAT IT READS IS OF BULK AT MOST 1048576: true; the input reads as it did. -/
def putSharesUptoRow : OpenClaim := { program := "ytdllpckpfkjkeaadoor", sum := "eb9fa5aff9413e85ffe71aedbf783a906398384dc2bb9c14da293aa6757ddd01", func := "sparsetree/sparsetreelaw09.PutShares", spec := "putShares", unfollowed := true, recurses := true, named := ["sparsetree/sha.rounds"], apart := false, laid := [("sparsetree/sha.rounds", laid_sparsetree_sha_rounds)], narrowed := true }
def PutSharesUptoSaid : Prop := putSharesUptoRow.holds Tryd.pinned (OpenSpec.upto putSharesSpec)

/-- 'sparsetreelaw09.PutAll', WHERE WHAT IT READS IS OF BULK AT MOST 1048576: true; the input reads as it did. -/
def putAllUptoRow : OpenClaim := { program := "ytdllpckpfkjkeaadoor", sum := "eb9fa5aff9413e85ffe71aedbf783a906398384dc2bb9c14da293aa6757ddd01", func := "sparsetree/sparsetreelaw09.PutAll", spec := "putAll", unfollowed := true, recurses := true, named := ["sparsetree/sha.rounds"], apart := false, laid := [("sparsetree/sha.rounds", laid_sparsetree_sha_rounds)], narrowed := true }
def PutAllUptoSaid : Prop := putAllUptoRow.holds Tryd.pinned (OpenSpec.upto putAllSpec)

/-- 'sparsetreelaw09.PutAt', WHERE WHAT IT READS IS OF BULK AT MOST 1048576: true; the input reads as it did. -/
def putAtUptoRow : OpenClaim := { program := "ytdllpckpfkjkeaadoor", sum := "eb9fa5aff9413e85ffe71aedbf783a906398384dc2bb9c14da293aa6757ddd01", func := "sparsetree/sparsetreelaw09.PutAt", spec := "putAt", unfollowed := true, recurses := true, named := ["sparsetree/sha.rounds"], apart := false, laid := [("sparsetree/sha.rounds", laid_sparsetree_sha_rounds)], narrowed := true }
def PutAtUptoSaid : Prop := putAtUptoRow.holds Tryd.pinned (OpenSpec.upto putAtSpec)

/-- 'sparsetreelaw10.RemoveInverts', WHERE WHAT IT READS IS OF BULK AT MOST 1048576: true; the input reads as it did. -/
def removeInvertsUptoRow : OpenClaim := { program := "ytdllpckpfkjkeaadoor", sum := "eb9fa5aff9413e85ffe71aedbf783a906398384dc2bb9c14da293aa6757ddd01", func := "sparsetree/sparsetreelaw10.RemoveInverts", spec := "removeInverts", unfollowed := true, recurses := true, named := ["sparsetree/sha.rounds"], apart := false, laid := [("sparsetree/sha.rounds", laid_sparsetree_sha_rounds)], narrowed := true }
def RemoveInvertsUptoSaid : Prop := removeInvertsUptoRow.holds Tryd.pinned (OpenSpec.upto removeInvertsSpec)

/-- 'sparsetreelaw10.RemoveKeeps', WHERE WHAT IT READS IS OF BULK AT MOST 1048576: true; the input reads as it did. -/
def removeKeepsUptoRow : OpenClaim := { program := "ytdllpckpfkjkeaadoor", sum := "eb9fa5aff9413e85ffe71aedbf783a906398384dc2bb9c14da293aa6757ddd01", func := "sparsetree/sparsetreelaw10.RemoveKeeps", spec := "removeKeeps", unfollowed := true, recurses := true, named := ["sparsetree/sha.rounds"], apart := false, laid := [("sparsetree/sha.rounds", laid_sparsetree_sha_rounds)], narrowed := true }
def RemoveKeepsUptoSaid : Prop := removeKeepsUptoRow.holds Tryd.pinned (OpenSpec.upto removeKeepsSpec)

/-- 'sparsetreelaw10.RemoveAt', WHERE WHAT IT READS IS OF BULK AT MOST 1048576: true; the input reads as it did. -/
def removeAtUptoRow : OpenClaim := { program := "ytdllpckpfkjkeaadoor", sum := "eb9fa5aff9413e85ffe71aedbf783a906398384dc2bb9c14da293aa6757ddd01", func := "sparsetree/sparsetreelaw10.RemoveAt", spec := "removeAt", unfollowed := true, recurses := true, named := ["sparsetree/sha.rounds"], apart := false, laid := [("sparsetree/sha.rounds", laid_sparsetree_sha_rounds)], narrowed := true }
def RemoveAtUptoSaid : Prop := removeAtUptoRow.holds Tryd.pinned (OpenSpec.upto removeAtSpec)

/-- 'sparsetreelaw10.RemoveRemoves', WHERE WHAT IT READS IS OF BULK AT MOST 1048576: true; the input reads as it did. -/
def removeRemovesUptoRow : OpenClaim := { program := "ytdllpckpfkjkeaadoor", sum := "eb9fa5aff9413e85ffe71aedbf783a906398384dc2bb9c14da293aa6757ddd01", func := "sparsetree/sparsetreelaw10.RemoveRemoves", spec := "removeRemoves", unfollowed := true, recurses := true, named := ["sparsetree/sha.rounds"], apart := false, laid := [("sparsetree/sha.rounds", laid_sparsetree_sha_rounds)], narrowed := true }
def RemoveRemovesUptoSaid : Prop := removeRemovesUptoRow.holds Tryd.pinned (OpenSpec.upto removeRemovesSpec)

/-- 'sparsetreelaw10.RemoveAll', WHERE WHAT IT READS IS OF BULK AT MOST 1048576: true; the input reads as it did. -/
def removeAllUptoRow : OpenClaim := { program := "ytdllpckpfkjkeaadoor", sum := "eb9fa5aff9413e85ffe71aedbf783a906398384dc2bb9c14da293aa6757ddd01", func := "sparsetree/sparsetreelaw10.RemoveAll", spec := "removeAll", unfollowed := true, recurses := true, named := ["sparsetree/sha.rounds"], apart := false, laid := [("sparsetree/sha.rounds", laid_sparsetree_sha_rounds)], narrowed := true }
def RemoveAllUptoSaid : Prop := removeAllUptoRow.holds Tryd.pinned (OpenSpec.upto removeAllSpec)

/-- 'sparsetreelaw10.RemovePrunes', WHERE WHAT IT READS IS OF BULK AT MOST 1048576: true; the input reads as it did. -/
def removePrunesUptoRow : OpenClaim := { program := "ytdllpckpfkjkeaadoor", sum := "eb9fa5aff9413e85ffe71aedbf783a906398384dc2bb9c14da293aa6757ddd01", func := "sparsetree/sparsetreelaw10.RemovePrunes", spec := "removePrunes", unfollowed := true, recurses := true, named := ["sparsetree/sha.rounds"], apart := false, laid := [("sparsetree/sha.rounds", laid_sparsetree_sha_rounds)], narrowed := true }
def RemovePrunesUptoSaid : Prop := removePrunesUptoRow.holds Tryd.pinned (OpenSpec.upto removePrunesSpec)

end Rows
end Go.Proofs.YtdllpckpfkjkeaaDoor
