/- Walks of functions, printed by a program of this session (gen.py) from notes on each function. -/
import Derived.Test.YtcclagdjpoimaaaGreatDoorG6
set_option maxRecDepth 100000
set_option maxHeartbeats 1000000
set_option linter.unusedVariables false
set_option linter.unusedSimpArgs false
namespace Go.Sp.Tryz
open Go.Proofs Go.RowKit Go.Sp

theorem Vals.sub {m m' : List En} {w : World} (h : Vals m w) (hs : ∀ e ∈ m', e ∈ m) : Vals m' w := fun e he => h e (hs e he)
theorem joinS_cnt (s t : Sh) : (joinS s t).cnt = s.cnt + t.cnt := by cases s <;> cases t <;> simp [joinS, Sh.cnt]
theorem ofM_short {l : List En} {n : Nat} (hkl : KL l) (h : ∀ e ∈ l, e.v.length ≤ n) : ∀ e ∈ ofM l, e.v.length ≤ n := fun e he => h e ((ofM_ok l hkl).2.2.2 e he)

end Go.Sp.Tryz
