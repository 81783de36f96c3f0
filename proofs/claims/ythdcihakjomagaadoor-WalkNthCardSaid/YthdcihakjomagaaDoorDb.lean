/- Walks of functions, printed by a program of this session (gen.py) from notes on each function. -/
import Derived.Test.YthdcihakjomagaaDoorDa
set_option maxRecDepth 100000
set_option maxHeartbeats 1000000
set_option linter.unusedVariables false
set_option linter.unusedSimpArgs false
namespace Go.Sp.Tryd
open Go.Proofs Go.RowKit Go.Sp

theorem cutI_zero (l : List UInt8) : cutI l 0 = List.replicate 32 0 := by
  show cutN l (clampN 0) = _
  apply List.ext_getElem
  · rw [cutN_length]; simp
  · intro i h1 h2
    rw [cutN_get]
    have h := (l.getD i 0).toNat_lt
    apply UInt8.toNat_inj.1
    have h0 : clampN 0 = 0 := by decide
    rw [cutByte_toNat, List.getElem_replicate, show keptN (clampN 0) i = 0 by unfold keptN; omega, Nat.sub_zero, Nat.div_eq_of_lt (by omega)]
    rfl
theorem cutI_full (l : List UInt8) (h : l.length = 32) : cutI l 256 = l := cutN_full l h
theorem abc4 : cutI (shaOf [97, 98, 99]) 4 = (List.replicate 32 0).set 0 176 := by decide +kernel
theorem cut255 : cutI (((List.replicate 32 0).set 0 255).set 1 255) 4 = (List.replicate 32 0).set 0 240 := by decide +kernel

end Go.Sp.Tryd
