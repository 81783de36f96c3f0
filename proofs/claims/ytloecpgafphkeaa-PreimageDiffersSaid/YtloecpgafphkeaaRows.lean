/-
  No cell of these rows narrows 'for every input' (looked for: loops, veiled, ifaces, maps, wideKeys, modest, calm, conditions, laid).
  DERIVED. THE GIVEN ROWS OF THIS SEAT. 5 by the template 'for every input the law returns true; each argument reads behind the call as it read before'; 0 by the template 'total and deterministic' (their statements: YtloecpgafphkeaaTotals.lean).
  GIVEN WITH THE SEED: the statements are not yours to turn. If you find one false, say at which input.
  Laid BY PROGRAM, IN A SANDBOX (cutbox-rows.mjs): the forced cells as the released guide's own fill.sh prints them over the translation a390adc166146973… (all of the seat's roots in one cut). By AI agents, Wed Nov 11 2026. No macro, syntax, notation, axiom, sorry.
-/
import Derived.Test.YtloecpgafphkeaaChecked
import GoSem.Claim
import GoSem.ClaimJoined
import GoSem.ClaimMapViews
import Derived.JoinedTies
import Derived.KernelRfl
namespace Go.Proofs.Ytloecpgafphkeaa
/- THE CELL 'sum', in the pinned program and in every row, IS THE sha256 OF THE DUMP (.gsa) THAT YtloecpgafphkeaaProg.lean LOADS. Nothing in Lean hashes anything: it is a label: what it is worth is what the hold of that sum in a sandbox is worth. -/
noncomputable def Try.pinned : Pinned := { name := "ytloecpgafphkeaa", sum := "a390adc16614697389fd80fe4d2649da368b47dfb5a1757f71f0df19877c3dcb", checked := Try.checked }
namespace Rows
def none {H : Type} : Left H := { results := [], args := [] }

/-- 'sparsetreelaw06.PreimageBuilds': WHATEVER THE INPUT: true; the input reads as it did. -/
def preimageBuildsSpec : ChangeSpec := { name := "preimageBuilds", fn := fun _ => fun
  | [d1, d2, d3] => { results := [.lit (.bool true)], args := [d1, d2, d3] }
  | _ => none }
def preimageBuildsRow : OpenClaim := { program := "ytloecpgafphkeaa", sum := "a390adc16614697389fd80fe4d2649da368b47dfb5a1757f71f0df19877c3dcb", func := "sparsetree/sparsetreelaw06.PreimageBuilds", spec := "preimageBuilds", apart := false }
def PreimageBuildsSaid : Prop := preimageBuildsRow.holds Try.pinned (OpenSpec.ofChange preimageBuildsSpec)

/-- ITS FALSE NEIGHBOUR: 'it returns false'. Refute it at one input. -/
def preimageBuildsWrong : ChangeSpec := { name := "preimageBuilds", fn := fun _ => fun
  | [d1, d2, d3] => { results := [.lit (.bool false)], args := [d1, d2, d3] }
  | _ => none }
def PreimageBuildsWrongFalsely : Prop := preimageBuildsRow.holds Try.pinned (OpenSpec.ofChange preimageBuildsWrong)

/-- 'sparsetreelaw06.PreimageKinds': WHATEVER THE INPUT: true; the input reads as it did. -/
def preimageKindsSpec : ChangeSpec := { name := "preimageKinds", fn := fun _ => fun
  | [d] => { results := [.lit (.bool true)], args := [d] }
  | _ => none }
def preimageKindsRow : OpenClaim := { program := "ytloecpgafphkeaa", sum := "a390adc16614697389fd80fe4d2649da368b47dfb5a1757f71f0df19877c3dcb", func := "sparsetree/sparsetreelaw06.PreimageKinds", spec := "preimageKinds", apart := false }
def PreimageKindsSaid : Prop := preimageKindsRow.holds Try.pinned (OpenSpec.ofChange preimageKindsSpec)

/-- ITS FALSE NEIGHBOUR: 'it returns false'. Refute it at one input. -/
def preimageKindsWrong : ChangeSpec := { name := "preimageKinds", fn := fun _ => fun
  | [d] => { results := [.lit (.bool false)], args := [d] }
  | _ => none }
def PreimageKindsWrongFalsely : Prop := preimageKindsRow.holds Try.pinned (OpenSpec.ofChange preimageKindsWrong)

/-- 'sparsetreelaw06.PreimageSplits': WHATEVER THE INPUT: true; the input reads as it did. -/
def preimageSplitsSpec : ChangeSpec := { name := "preimageSplits", fn := fun _ => fun
  | [d] => { results := [.lit (.bool true)], args := [d] }
  | _ => none }
def preimageSplitsRow : OpenClaim := { program := "ytloecpgafphkeaa", sum := "a390adc16614697389fd80fe4d2649da368b47dfb5a1757f71f0df19877c3dcb", func := "sparsetree/sparsetreelaw06.PreimageSplits", spec := "preimageSplits", apart := false }
def PreimageSplitsSaid : Prop := preimageSplitsRow.holds Try.pinned (OpenSpec.ofChange preimageSplitsSpec)

/-- ITS FALSE NEIGHBOUR: 'it returns false'. Refute it at one input. -/
def preimageSplitsWrong : ChangeSpec := { name := "preimageSplits", fn := fun _ => fun
  | [d] => { results := [.lit (.bool false)], args := [d] }
  | _ => none }
def PreimageSplitsWrongFalsely : Prop := preimageSplitsRow.holds Try.pinned (OpenSpec.ofChange preimageSplitsWrong)

/-- 'sparsetreelaw06.PreimageInverts': WHATEVER THE INPUT: true; the input reads as it did. -/
def preimageInvertsSpec : ChangeSpec := { name := "preimageInverts", fn := fun _ => fun
  | [d1, d2] => { results := [.lit (.bool true)], args := [d1, d2] }
  | _ => none }
def preimageInvertsRow : OpenClaim := { program := "ytloecpgafphkeaa", sum := "a390adc16614697389fd80fe4d2649da368b47dfb5a1757f71f0df19877c3dcb", func := "sparsetree/sparsetreelaw06.PreimageInverts", spec := "preimageInverts", apart := false }
def PreimageInvertsSaid : Prop := preimageInvertsRow.holds Try.pinned (OpenSpec.ofChange preimageInvertsSpec)

/-- ITS FALSE NEIGHBOUR: 'it returns false'. Refute it at one input. -/
def preimageInvertsWrong : ChangeSpec := { name := "preimageInverts", fn := fun _ => fun
  | [d1, d2] => { results := [.lit (.bool false)], args := [d1, d2] }
  | _ => none }
def PreimageInvertsWrongFalsely : Prop := preimageInvertsRow.holds Try.pinned (OpenSpec.ofChange preimageInvertsWrong)

/-- 'sparsetreelaw06.PreimageDiffers': WHATEVER THE INPUT: true; the input reads as it did. -/
def preimageDiffersSpec : ChangeSpec := { name := "preimageDiffers", fn := fun _ => fun
  | [d1, d2, d3] => { results := [.lit (.bool true)], args := [d1, d2, d3] }
  | _ => none }
def preimageDiffersRow : OpenClaim := { program := "ytloecpgafphkeaa", sum := "a390adc16614697389fd80fe4d2649da368b47dfb5a1757f71f0df19877c3dcb", func := "sparsetree/sparsetreelaw06.PreimageDiffers", spec := "preimageDiffers", apart := false }
def PreimageDiffersSaid : Prop := preimageDiffersRow.holds Try.pinned (OpenSpec.ofChange preimageDiffersSpec)

/-- ITS FALSE NEIGHBOUR: 'it returns false'. Refute it at one input. -/
def preimageDiffersWrong : ChangeSpec := { name := "preimageDiffers", fn := fun _ => fun
  | [d1, d2, d3] => { results := [.lit (.bool false)], args := [d1, d2, d3] }
  | _ => none }
def PreimageDiffersWrongFalsely : Prop := preimageDiffersRow.holds Try.pinned (OpenSpec.ofChange preimageDiffersWrong)

/- THE SECOND FORM. 'bulk': how many values and letters a reading holds, each counted each time it is reached (what is shared counts as often as it is met; a slice's spare places count too). A statement '..UptoSaid' is the law's where the arguments, and the package variables that the reading takes, are together of bulk at most 1048576: NARROWER than '..Said'. Prove '..Said' where nothing that the law and all that it calls make is longer than what came in: it says more and counts as full. Else prove '..UptoSaid'. A law counts once. -/
mutual
def uptoBulk {H : Type} : DataW H → Nat
  | .lit (.string bytes) => bytes.length + 1
  | .lit _ => 1
  | .nil => 1
  | .ptr d => uptoBulk d + 1
  | .slice elems spare => uptoBulkAll elems + uptoBulkAll spare + 1
  | .agg parts => uptoBulkAll parts + 1
  | .iface _ d => uptoBulk d + 1
  | .map entries => uptoBulkEntries entries + 1
  | .held _ => 1
def uptoBulkAll {H : Type} : List (DataW H) → Nat
  | [] => 0
  | d :: r => uptoBulk d + uptoBulkAll r
def uptoBulkEntries {H : Type} : List (Lit × DataW H) → Nat
  | [] => 0
  | x :: r => uptoBulkEntry x + uptoBulkEntries r
def uptoBulkEntry {H : Type} : Lit × DataW H → Nat
  | (.string bytes, d) => bytes.length + uptoBulk d + 1
  | (_, d) => uptoBulk d + 1
 end
def uptoSmall : (H : Type) → List (DataW H) → Bool := fun _ ds => decide (uptoBulkAll ds ≤ 1048576)
def OpenSpec.upto (s : _root_.Go.ChangeSpec) : _root_.Go.OpenSpec := { _root_.Go.OpenSpec.ofChange s with cond := some uptoSmall }

/-- 'sparsetreelaw06.PreimageBuilds', WHERE WHAT IT READS IS OF BULK AT MOST 1048576: true; the input reads as it did. -/
def preimageBuildsUptoRow : OpenClaim := { program := "ytloecpgafphkeaa", sum := "a390adc16614697389fd80fe4d2649da368b47dfb5a1757f71f0df19877c3dcb", func := "sparsetree/sparsetreelaw06.PreimageBuilds", spec := "preimageBuilds", apart := false, narrowed := true }
def PreimageBuildsUptoSaid : Prop := preimageBuildsUptoRow.holds Try.pinned (OpenSpec.upto preimageBuildsSpec)

/-- 'sparsetreelaw06.PreimageKinds', WHERE WHAT IT READS IS OF BULK AT MOST 1048576: true; the input reads as it did. -/
def preimageKindsUptoRow : OpenClaim := { program := "ytloecpgafphkeaa", sum := "a390adc16614697389fd80fe4d2649da368b47dfb5a1757f71f0df19877c3dcb", func := "sparsetree/sparsetreelaw06.PreimageKinds", spec := "preimageKinds", apart := false, narrowed := true }
def PreimageKindsUptoSaid : Prop := preimageKindsUptoRow.holds Try.pinned (OpenSpec.upto preimageKindsSpec)

/-- 'sparsetreelaw06.PreimageSplits', WHERE WHAT IT READS IS OF BULK AT MOST 1048576: true; the input reads as it did. -/
def preimageSplitsUptoRow : OpenClaim := { program := "ytloecpgafphkeaa", sum := "a390adc16614697389fd80fe4d2649da368b47dfb5a1757f71f0df19877c3dcb", func := "sparsetree/sparsetreelaw06.PreimageSplits", spec := "preimageSplits", apart := false, narrowed := true }
def PreimageSplitsUptoSaid : Prop := preimageSplitsUptoRow.holds Try.pinned (OpenSpec.upto preimageSplitsSpec)

/-- 'sparsetreelaw06.PreimageInverts', WHERE WHAT IT READS IS OF BULK AT MOST 1048576: true; the input reads as it did. -/
def preimageInvertsUptoRow : OpenClaim := { program := "ytloecpgafphkeaa", sum := "a390adc16614697389fd80fe4d2649da368b47dfb5a1757f71f0df19877c3dcb", func := "sparsetree/sparsetreelaw06.PreimageInverts", spec := "preimageInverts", apart := false, narrowed := true }
def PreimageInvertsUptoSaid : Prop := preimageInvertsUptoRow.holds Try.pinned (OpenSpec.upto preimageInvertsSpec)

/-- 'sparsetreelaw06.PreimageDiffers', WHERE WHAT IT READS IS OF BULK AT MOST 1048576: true; the input reads as it did. -/
def preimageDiffersUptoRow : OpenClaim := { program := "ytloecpgafphkeaa", sum := "a390adc16614697389fd80fe4d2649da368b47dfb5a1757f71f0df19877c3dcb", func := "sparsetree/sparsetreelaw06.PreimageDiffers", spec := "preimageDiffers", apart := false, narrowed := true }
def PreimageDiffersUptoSaid : Prop := preimageDiffersUptoRow.holds Try.pinned (OpenSpec.upto preimageDiffersSpec)

end Rows
end Go.Proofs.Ytloecpgafphkeaa
