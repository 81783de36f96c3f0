/- Part of the proof of this claim: walks through the program's functions and the plain laws that they need, printed by a program of this session. -/
import Derived.Test.YthkombhebdjamaaGreatDoorExt
import Derived.Test.YthkombhebdjamaaGreatDoorRules
import Derived.RangeFuncIn
import Derived.RangeFuncRecord
import Derived.LoopNIn
namespace Go.Sp
open Go.RowKit
def dZ (r : Option Nat) (P : Program) (N : Nat) (c : Code) (Q : EPost) : Nat → Env → List Deferred → World → Prop
 | 0, _, _, _ => False
 | m + 1, σ, ds, w => WE r P N c (vG (dZ r P N c Q m) Q) σ ds w
theorem dZ.step {r : Option Nat} {P : Program} {N : Nat} {c : Code} {Q : EPost} {m : Nat} {σ : Env} {ds : List Deferred} {w : World} (h : WE r P N c (vG (dZ r P N c Q m) Q) σ ds w) : dZ r P N c Q (m + 1) σ ds w := h
theorem dZ.run {r : Option Nat} {P : Program} {N : Nat} {c : Code} {Q : EPost} : ∀ (m : Nat) (σ : Env) (ds : List Deferred) (w : World), dZ r P N c Q m σ ds w → ∀ a, mT N σ ds a → Code.roundsIn (FW r) 0 P c (low N Q) m a w
 | 0, _, _, _, h, _, _ => h.elim
 | m + 1, σ, ds, w, h, a, ha => by
  have h1 : WE r P N c (vG (dZ r P N c Q m) Q) σ ds w := h
  rw [roundsIn_succ]
  refine wpIn_mono (h1 a ha) ?_
  rintro e a' w' ⟨hs, hq⟩
  cases e with
  | normal => exact dZ.run m _ _ _ hq a' ⟨hs, rfl, rfl⟩
  | _ => exact ⟨hs, hq⟩
theorem WE.j6 {r : Option Nat} {P : Program} {N : Nat} {c : Code} {Q : EPost} {σ : Env} {ds : List Deferred} {w : World} (m : Nat) (h : dZ r P N c Q m σ ds w) : WE r P N (.loop c) Q σ ds w := fun a ha => wpIn_loop_rounds m (dZ.run m σ ds w h a ha)
end Go.Sp
