/- Part of the proof of this claim: walks through the program's functions and the plain laws that they need, printed by a program of this session. -/
import Derived.Test.YthkombhebdjamaaGreatDoorExt
import Derived.Test.YthkombhebdjamaaGreatDoorRules
import Derived.RangeFuncIn
import Derived.RangeFuncRecord
import Derived.LoopNIn
namespace Go.Sp
open Go.RowKit
def dN (r : Option Nat) (P : Program) (N : Nat) (c : Code) (Q : EPost) : Nat → Env → List Deferred → World → Prop
 | 0, _, _, _ => False
 | m + 1, σ, ds, w => WE r P N c (uF (dN r P N c Q m) Q) σ ds w
theorem dN.step {r : Option Nat} {P : Program} {N : Nat} {c : Code} {Q : EPost} {m : Nat} {σ : Env} {ds : List Deferred} {w : World} (h : WE r P N c (uF (dN r P N c Q m) Q) σ ds w) : dN r P N c Q (m + 1) σ ds w := h
theorem dN.run {r : Option Nat} {P : Program} {N : Nat} {c : Code} {Q : EPost} : ∀ (m : Nat) (σ : Env) (ds : List Deferred) (w : World), dN r P N c Q m σ ds w → ∀ a, lV N σ ds a → Code.roundsIn (FW r) 0 P c (low N Q) m a w
 | 0, _, _, _, h, _, _ => h.elim
 | m + 1, σ, ds, w, h, a, ha => by
  have h1 : WE r P N c (uF (dN r P N c Q m) Q) σ ds w := h
  rw [roundsIn_succ]
  refine wpIn_mono (h1 a ha) ?_
  rintro e a' w' ⟨hs, hq⟩
  cases e with
  | normal => exact dN.run m _ _ _ hq a' ⟨hs, rfl, rfl⟩
  | _ => exact ⟨hs, hq⟩
theorem WE.jG {r : Option Nat} {P : Program} {N : Nat} {c : Code} {Q : EPost} {σ : Env} {ds : List Deferred} {w : World} (m : Nat) (h : dN r P N c Q m σ ds w) : WE r P N (.loop c) Q σ ds w := fun a ha => wpIn_loop_rounds m (dN.run m σ ds w h a ha)
end Go.Sp
