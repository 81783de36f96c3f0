/- Walks of functions, printed by a program of this session (gen.py) from notes on each function. -/
import Derived.Test.YthdcihakjomagaaDoorGE
import Derived.Test.YthdcihakjomagaaDoorOe
set_option maxRecDepth 100000
set_option maxHeartbeats 1000000
set_option linter.unusedVariables false
set_option linter.unusedSimpArgs false
namespace Go.Sp.Tryd
open Go.Proofs Go.RowKit Go.Sp

open Go.ChangeShapes Go.WideShapes Go.ChangeAt
theorem open_keys {H : Type} {enc : TypeId × Value → H} {W : World} {r : Reach} {base b0 : Nat} {sp : Nat → Bool} {held : Bool} {t : TypeId} {v : Value} {d : DataW H} {ps : List MemPlace} (ht : tySlice Tryd.prog t = some 31) (hval : Value.okWide Tryd.prog W r b0 t v) (hd : DataW.Trod enc Tryd.prog W base sp held t v d ps) :
    ∃ ks : List (List UInt8), ks.length ≤ 9223372036854775807 ∧ K32 ks ∧ Rob Nil (SlK v ks) W := by
  obtain ⟨l, h1, h2, h3⟩ := open_slices (C := kc) (Q := fun k => k.length = 32) ht (by decide) key_opn hval hd
  exact ⟨l, h1, h2, h3⟩

end Go.Sp.Tryd
