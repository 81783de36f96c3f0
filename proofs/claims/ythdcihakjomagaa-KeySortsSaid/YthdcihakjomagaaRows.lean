/-
  No cell of these rows narrows 'for every input' (looked for: loops, veiled, ifaces, maps, wideKeys, modest, calm, conditions, laid).
  DERIVED. THE GIVEN ROWS OF THIS SEAT. 6 by the template 'for every input the law returns true; each argument reads behind the call as it read before'; 0 by the template 'total and deterministic' (their statements: YthdcihakjomagaaTotals.lean).
  GIVEN WITH THE SEED: the statements are not yours to turn. If you find one false, say at which input.
  Laid BY PROGRAM, IN A SANDBOX (cutbox-rows.mjs): the forced cells as the released guide's own fill.sh prints them over the translation 672a7c0d17c0cc83… (all of the seat's roots in one cut). By AI agents, Wed Nov 11 2026. No macro, syntax, notation, axiom, sorry.
-/
import Derived.Test.YthdcihakjomagaaChecked
import GoSem.Claim
import GoSem.ClaimJoined
import GoSem.ClaimMapViews
import Derived.JoinedTies
import Derived.KernelRfl
namespace Go.Proofs.Ythdcihakjomagaa
/- THE CELL 'sum', in the pinned program and in every row, IS THE sha256 OF THE DUMP (.gsa) THAT YthdcihakjomagaaProg.lean LOADS. Nothing in Lean hashes anything: it is a label: what it is worth is what the hold of that sum in a sandbox is worth. -/
noncomputable def Try.pinned : Pinned := { name := "ythdcihakjomagaa", sum := "672a7c0d17c0cc83473e045638f35c337c2c2d296bf0ed3e5fccd4bacd8605d1", checked := Try.checked }
namespace Rows
def none {H : Type} : Left H := { results := [], args := [] }

/-- 'sparsetreelaw02.KeyOf': WHATEVER THE INPUT: true; the input reads as it did. -/
def keyOfSpec : ChangeSpec := { name := "keyOf", fn := fun _ => fun
  | [d] => { results := [.lit (.bool true)], args := [d] }
  | _ => none }
def keyOfRow : OpenClaim := { program := "ythdcihakjomagaa", sum := "672a7c0d17c0cc83473e045638f35c337c2c2d296bf0ed3e5fccd4bacd8605d1", func := "sparsetree/sparsetreelaw02.KeyOf", spec := "keyOf", inPlace := ["internal/bytealg.Compare", "internal/abi.NoEscape"], unfollowed := true, recurses := true, apart := false }
def KeyOfSaid : Prop := keyOfRow.holds Try.pinned (OpenSpec.ofChange keyOfSpec)

/-- ITS FALSE NEIGHBOUR: 'it returns false'. Refute it at one input. -/
def keyOfWrong : ChangeSpec := { name := "keyOf", fn := fun _ => fun
  | [d] => { results := [.lit (.bool false)], args := [d] }
  | _ => none }
def KeyOfWrongFalsely : Prop := keyOfRow.holds Try.pinned (OpenSpec.ofChange keyOfWrong)

/-- 'sparsetreelaw02.KeyTexts': WHATEVER THE INPUT: true; the input reads as it did. -/
def keyTextsSpec : ChangeSpec := { name := "keyTexts", fn := fun _ => fun
  | [d] => { results := [.lit (.bool true)], args := [d] }
  | _ => none }
def keyTextsRow : OpenClaim := { program := "ythdcihakjomagaa", sum := "672a7c0d17c0cc83473e045638f35c337c2c2d296bf0ed3e5fccd4bacd8605d1", func := "sparsetree/sparsetreelaw02.KeyTexts", spec := "keyTexts", inPlace := ["internal/bytealg.Compare", "internal/abi.NoEscape"], unfollowed := true, recurses := true, apart := false }
def KeyTextsSaid : Prop := keyTextsRow.holds Try.pinned (OpenSpec.ofChange keyTextsSpec)

/-- ITS FALSE NEIGHBOUR: 'it returns false'. Refute it at one input. -/
def keyTextsWrong : ChangeSpec := { name := "keyTexts", fn := fun _ => fun
  | [d] => { results := [.lit (.bool false)], args := [d] }
  | _ => none }
def KeyTextsWrongFalsely : Prop := keyTextsRow.holds Try.pinned (OpenSpec.ofChange keyTextsWrong)

/-- 'sparsetreelaw02.KeyParses': WHATEVER THE INPUT: true; the input reads as it did. -/
def keyParsesSpec : ChangeSpec := { name := "keyParses", fn := fun _ => fun
  | [d] => { results := [.lit (.bool true)], args := [d] }
  | _ => none }
def keyParsesRow : OpenClaim := { program := "ythdcihakjomagaa", sum := "672a7c0d17c0cc83473e045638f35c337c2c2d296bf0ed3e5fccd4bacd8605d1", func := "sparsetree/sparsetreelaw02.KeyParses", spec := "keyParses", inPlace := ["internal/bytealg.Compare", "internal/abi.NoEscape"], unfollowed := true, recurses := true, apart := false }
def KeyParsesSaid : Prop := keyParsesRow.holds Try.pinned (OpenSpec.ofChange keyParsesSpec)

/-- ITS FALSE NEIGHBOUR: 'it returns false'. Refute it at one input. -/
def keyParsesWrong : ChangeSpec := { name := "keyParses", fn := fun _ => fun
  | [d] => { results := [.lit (.bool false)], args := [d] }
  | _ => none }
def KeyParsesWrongFalsely : Prop := keyParsesRow.holds Try.pinned (OpenSpec.ofChange keyParsesWrong)

/-- 'sparsetreelaw02.KeyChecks': WHATEVER THE INPUT: true; the input reads as it did. -/
def keyChecksSpec : ChangeSpec := { name := "keyChecks", fn := fun _ => fun
  | [d] => { results := [.lit (.bool true)], args := [d] }
  | _ => none }
def keyChecksRow : OpenClaim := { program := "ythdcihakjomagaa", sum := "672a7c0d17c0cc83473e045638f35c337c2c2d296bf0ed3e5fccd4bacd8605d1", func := "sparsetree/sparsetreelaw02.KeyChecks", spec := "keyChecks", inPlace := ["internal/bytealg.Compare", "internal/abi.NoEscape"], unfollowed := true, recurses := true, apart := false }
def KeyChecksSaid : Prop := keyChecksRow.holds Try.pinned (OpenSpec.ofChange keyChecksSpec)

/-- ITS FALSE NEIGHBOUR: 'it returns false'. Refute it at one input. -/
def keyChecksWrong : ChangeSpec := { name := "keyChecks", fn := fun _ => fun
  | [d] => { results := [.lit (.bool false)], args := [d] }
  | _ => none }
def KeyChecksWrongFalsely : Prop := keyChecksRow.holds Try.pinned (OpenSpec.ofChange keyChecksWrong)

/-- 'sparsetreelaw02.KeySplits': WHATEVER THE INPUT: true; the input reads as it did. -/
def keySplitsSpec : ChangeSpec := { name := "keySplits", fn := fun _ => fun
  | [d1, d2, d3] => { results := [.lit (.bool true)], args := [d1, d2, d3] }
  | _ => none }
def keySplitsRow : OpenClaim := { program := "ythdcihakjomagaa", sum := "672a7c0d17c0cc83473e045638f35c337c2c2d296bf0ed3e5fccd4bacd8605d1", func := "sparsetree/sparsetreelaw02.KeySplits", spec := "keySplits", inPlace := ["internal/bytealg.Compare", "internal/abi.NoEscape"], unfollowed := true, recurses := true, apart := false }
def KeySplitsSaid : Prop := keySplitsRow.holds Try.pinned (OpenSpec.ofChange keySplitsSpec)

/-- ITS FALSE NEIGHBOUR: 'it returns false'. Refute it at one input. -/
def keySplitsWrong : ChangeSpec := { name := "keySplits", fn := fun _ => fun
  | [d1, d2, d3] => { results := [.lit (.bool false)], args := [d1, d2, d3] }
  | _ => none }
def KeySplitsWrongFalsely : Prop := keySplitsRow.holds Try.pinned (OpenSpec.ofChange keySplitsWrong)

/-- 'sparsetreelaw02.KeySorts': WHATEVER THE INPUT: true; the input reads as it did. -/
def keySortsSpec : ChangeSpec := { name := "keySorts", fn := fun _ => fun
  | [d] => { results := [.lit (.bool true)], args := [d] }
  | _ => none }
def keySortsRow : OpenClaim := { program := "ythdcihakjomagaa", sum := "672a7c0d17c0cc83473e045638f35c337c2c2d296bf0ed3e5fccd4bacd8605d1", func := "sparsetree/sparsetreelaw02.KeySorts", spec := "keySorts", inPlace := ["internal/bytealg.Compare", "internal/abi.NoEscape"], unfollowed := true, recurses := true, apart := false }
def KeySortsSaid : Prop := keySortsRow.holds Try.pinned (OpenSpec.ofChange keySortsSpec)

/-- ITS FALSE NEIGHBOUR: 'it returns false'. Refute it at one input. -/
def keySortsWrong : ChangeSpec := { name := "keySorts", fn := fun _ => fun
  | [d] => { results := [.lit (.bool false)], args := [d] }
  | _ => none }
def KeySortsWrongFalsely : Prop := keySortsRow.holds Try.pinned (OpenSpec.ofChange keySortsWrong)

/- THE SECOND FORM. 'bulk': how many values and letters a reading holds, each counted each time it is reached (what is shared counts as often as it is met; a slice's spare places count too). A statement '..UptoSaid' is the law's where the arguments, and the package variables that the reading takes, are together of bulk at most 1048576: NARROWER than '..Said'. Prove '..Said' where nothing that the law and all that it calls make is longer than what came in: it says more and counts as full. Else prove '..UptoSaid'. A law counts once. -/
mutual
def uptoBulk {H : Type} : DataW H → Nat
  | .lit (.string bytes) => bytes.length + 1
  | .lit _ => 1
  | .nil => 1
  | .ptr d => uptoBulk d + 1
  | .slice elems spare => uptoBulkAll elems + uptoBulkAll spare + 1
  | .agg parts => uptoBulkAll parts + 1
  | .iface _ d => uptoBulk d + 1
  | .map entries => uptoBulkEntries entries + 1
  | .held _ => 1
def uptoBulkAll {H : Type} : List (DataW H) → Nat
  | [] => 0
  | d :: r => uptoBulk d + uptoBulkAll r
def uptoBulkEntries {H : Type} : List (Lit × DataW H) → Nat
  | [] => 0
  | x :: r => uptoBulkEntry x + uptoBulkEntries r
def uptoBulkEntry {H : Type} : Lit × DataW H → Nat
  | (.string bytes, d) => bytes.length + uptoBulk d + 1
  | (_, d) => uptoBulk d + 1
 end
def uptoSmall : (H : Type) → List (DataW H) → Bool := fun _ ds => decide (uptoBulkAll ds ≤ 1048576)
def OpenSpec.upto (s : _root_.Go.ChangeSpec) : _root_.Go.OpenSpec := { _root_.Go.OpenSpec.ofChange s with cond := some uptoSmall }

/-- 'sparsetreelaw02.KeyOf', WHERE WHAT IT READS IS OF BULK AT MOST 1048576: true; the input reads as it did. -/
def keyOfUptoRow : OpenClaim := { program := "ythdcihakjomagaa", sum := "672a7c0d17c0cc83473e045638f35c337c2c2d296bf0ed3e5fccd4bacd8605d1", func := "sparsetree/sparsetreelaw02.KeyOf", spec := "keyOf", inPlace := ["internal/bytealg.Compare", "internal/abi.NoEscape"], unfollowed := true, recurses := true, apart := false, narrowed := true }
def KeyOfUptoSaid : Prop := keyOfUptoRow.holds Try.pinned (OpenSpec.upto keyOfSpec)

/-- 'sparsetreelaw02.KeyTexts', WHERE WHAT IT READS IS OF BULK AT MOST 1048576: true; the input reads as it did. -/
def keyTextsUptoRow : OpenClaim := { program := "ythdcihakjomagaa", sum := "672a7c0d17c0cc83473e045638f35c337c2c2d296bf0ed3e5fccd4bacd8605d1", func := "sparsetree/sparsetreelaw02.KeyTexts", spec := "keyTexts", inPlace := ["internal/bytealg.Compare", "internal/abi.NoEscape"], unfollowed := true, recurses := true, apart := false, narrowed := true }
def KeyTextsUptoSaid : Prop := keyTextsUptoRow.holds Try.pinned (OpenSpec.upto keyTextsSpec)

/-- 'sparsetreelaw02.KeyParses', WHERE WHAT IT READS IS OF BULK AT MOST 1048576: true; the input reads as it did. -/
def keyParsesUptoRow : OpenClaim := { program := "ythdcihakjomagaa", sum := "672a7c0d17c0cc83473e045638f35c337c2c2d296bf0ed3e5fccd4bacd8605d1", func := "sparsetree/sparsetreelaw02.KeyParses", spec := "keyParses", inPlace := ["internal/bytealg.Compare", "internal/abi.NoEscape"], unfollowed := true, recurses := true, apart := false, narrowed := true }
def KeyParsesUptoSaid : Prop := keyParsesUptoRow.holds Try.pinned (OpenSpec.upto keyParsesSpec)

/-- 'sparsetreelaw02.KeyChecks', WHERE WHAT IT READS IS OF BULK AT MOST 1048576: true; the input reads as it did. -/
def keyChecksUptoRow : OpenClaim := { program := "ythdcihakjomagaa", sum := "672a7c0d17c0cc83473e045638f35c337c2c2d296bf0ed3e5fccd4bacd8605d1", func := "sparsetree/sparsetreelaw02.KeyChecks", spec := "keyChecks", inPlace := ["internal/bytealg.Compare", "internal/abi.NoEscape"], unfollowed := true, recurses := true, apart := false, narrowed := true }
def KeyChecksUptoSaid : Prop := keyChecksUptoRow.holds Try.pinned (OpenSpec.upto keyChecksSpec)

/-- 'sparsetreelaw02.KeySplits', WHERE WHAT IT READS IS OF BULK AT MOST 1048576: true; the input reads as it did. -/
def keySplitsUptoRow : OpenClaim := { program := "ythdcihakjomagaa", sum := "672a7c0d17c0cc83473e045638f35c337c2c2d296bf0ed3e5fccd4bacd8605d1", func := "sparsetree/sparsetreelaw02.KeySplits", spec := "keySplits", inPlace := ["internal/bytealg.Compare", "internal/abi.NoEscape"], unfollowed := true, recurses := true, apart := false, narrowed := true }
def KeySplitsUptoSaid : Prop := keySplitsUptoRow.holds Try.pinned (OpenSpec.upto keySplitsSpec)

/-- 'sparsetreelaw02.KeySorts', WHERE WHAT IT READS IS OF BULK AT MOST 1048576: true; the input reads as it did. -/
def keySortsUptoRow : OpenClaim := { program := "ythdcihakjomagaa", sum := "672a7c0d17c0cc83473e045638f35c337c2c2d296bf0ed3e5fccd4bacd8605d1", func := "sparsetree/sparsetreelaw02.KeySorts", spec := "keySorts", inPlace := ["internal/bytealg.Compare", "internal/abi.NoEscape"], unfollowed := true, recurses := true, apart := false, narrowed := true }
def KeySortsUptoSaid : Prop := keySortsUptoRow.holds Try.pinned (OpenSpec.upto keySortsSpec)

end Rows
end Go.Proofs.Ythdcihakjomagaa
