/- The range over a function whose loop variables are laid anew each round. -/
import Derived.Test.YtcclagdjpoimaaaGreatDoorExt
import Derived.Test.YtcclagdjpoimaaaGreatDoorRules
import Derived.RangeFuncIn
import Derived.RangeFuncRecord
import Derived.LoopNIn
namespace Go.Sp
open Go.RowKit
/-! a loop of few rounds, round by round -/
def roundsE (r : Option Nat) (P : Program) (N : Nat) (c : Code) (Q : EPost) : Nat → Env → List Deferred → World → Prop
  | 0, _, _, _ => False
  | m + 1, σ, ds, w => WE r P N c (thenE (roundsE r P N c Q m) Q) σ ds w
theorem roundsE.step {r : Option Nat} {P : Program} {N : Nat} {c : Code} {Q : EPost} {m : Nat} {σ : Env} {ds : List Deferred} {w : World} (h : WE r P N c (thenE (roundsE r P N c Q m) Q) σ ds w) : roundsE r P N c Q (m + 1) σ ds w := h
theorem roundsE.run {r : Option Nat} {P : Program} {N : Nat} {c : Code} {Q : EPost} : ∀ (m : Nat) (σ : Env) (ds : List Deferred) (w : World), roundsE r P N c Q m σ ds w → ∀ a, Here N σ ds a → Code.roundsIn (FW r) 0 P c (low N Q) m a w
  | 0, _, _, _, h, _, _ => h.elim
  | m + 1, σ, ds, w, h, a, ha => by
    have h1 : WE r P N c (thenE (roundsE r P N c Q m) Q) σ ds w := h
    rw [roundsIn_succ]
    refine wpIn_mono (h1 a ha) ?_
    rintro e a' w' ⟨hs, hq⟩
    cases e with
    | normal => exact roundsE.run m _ _ _ hq a' ⟨hs, rfl, rfl⟩
    | _ => exact ⟨hs, hq⟩
end Go.Sp
