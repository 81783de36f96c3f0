/- Walks of functions, printed by a program of this session (gen.py) from notes on each function. -/
import Derived.Test.YtcclagdjpoimaaaGreatDoorY5
import Derived.Test.YtcclagdjpoimaaaGreatDoorOe
set_option maxRecDepth 100000
set_option maxHeartbeats 1000000
set_option linter.unusedVariables false
set_option linter.unusedSimpArgs false
namespace Go.Sp.Tryz
open Go.Proofs Go.RowKit Go.Sp
def keyX (e : En) : Ch := ⟨e.k, .slice none 0 0, [], false⟩
end Go.Sp.Tryz
