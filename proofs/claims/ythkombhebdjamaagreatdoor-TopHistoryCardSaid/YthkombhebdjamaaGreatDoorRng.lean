/- Part of the proof of this claim: walks through the program's functions and the plain laws that they need, printed by a program of this session. -/
import Derived.Test.YthkombhebdjamaaGreatDoorExt
import Derived.Test.YthkombhebdjamaaGreatDoorRules
import Derived.RangeFuncIn
import Derived.RangeFuncRecord
import Derived.LoopNIn
namespace Go.Sp
open Go.RowKit
def dW (r : Option Nat) (P : Program) (N : Nat) (c : Code) (Q : EPost) : Nat → Env → List Deferred → World → Prop
 | 0, _, _, _ => False
 | m + 1, σ, ds, w => WE r P N c (u6 (dW r P N c Q m) Q) σ ds w
theorem dW.step {r : Option Nat} {P : Program} {N : Nat} {c : Code} {Q : EPost} {m : Nat} {σ : Env} {ds : List Deferred} {w : World} (h : WE r P N c (u6 (dW r P N c Q m) Q) σ ds w) : dW r P N c Q (m + 1) σ ds w := h
theorem dW.run {r : Option Nat} {P : Program} {N : Nat} {c : Code} {Q : EPost} : ∀ (m : Nat) (σ : Env) (ds : List Deferred) (w : World), dW r P N c Q m σ ds w → ∀ a, mL N σ ds a → Code.roundsIn (FW r) 0 P c (low N Q) m a w
 | 0, _, _, _, h, _, _ => h.elim
 | m + 1, σ, ds, w, h, a, ha => by
  have h1 : WE r P N c (u6 (dW r P N c Q m) Q) σ ds w := h
  rw [roundsIn_succ]
  refine wpIn_mono (h1 a ha) ?_
  rintro e a' w' ⟨hs, hq⟩
  cases e with
  | normal => exact dW.run m _ _ _ hq a' ⟨hs, rfl, rfl⟩
  | _ => exact ⟨hs, hq⟩
theorem WE.jX {r : Option Nat} {P : Program} {N : Nat} {c : Code} {Q : EPost} {σ : Env} {ds : List Deferred} {w : World} (m : Nat) (h : dW r P N c Q m σ ds w) : WE r P N (.loop c) Q σ ds w := fun a ha => wpIn_loop_rounds m (dW.run m σ ds w h a ha)
end Go.Sp
