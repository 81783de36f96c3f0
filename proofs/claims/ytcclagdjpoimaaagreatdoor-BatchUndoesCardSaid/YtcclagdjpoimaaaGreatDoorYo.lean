/- Walks of functions, printed by a program of this session (gen.py) from notes on each function. -/
import Derived.Test.YtcclagdjpoimaaaGreatDoorYn
set_option maxRecDepth 100000
set_option maxHeartbeats 1000000
set_option linter.unusedVariables false
set_option linter.unusedSimpArgs false
namespace Go.Sp.Tryz
open Go.Proofs Go.RowKit Go.Sp

theorem Vals.ap {m : List En} {cs : List Ch} {w : World} (hl : LtX cs) (h : Vals m w) (hc : CVals cs w) : Vals (apM m cs) w := fun e he => by
  rcases (mem_apM _ _ _ hl).1 he with ⟨c, h1, _, rfl⟩ | ⟨h1, _⟩
  · exact hc c h1
  · exact h e h1
theorem ShortV.ap {m : List En} {cs : List Ch} (hl : LtX cs) (h : ShortV m) (hc : CShort cs) : ShortV (apM m cs) := fun e he => by
  rcases (mem_apM _ _ _ hl).1 he with ⟨c, h1, _, rfl⟩ | ⟨h1, _⟩
  · exact hc c h1
  · exact h e h1

end Go.Sp.Tryz
