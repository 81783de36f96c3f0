/- Walks of functions, printed by a program of this session (gen.py) from notes on each function. -/
import Derived.Test.YtcclagdjpoimaaaGreatDoorY1
import Derived.Test.YtcclagdjpoimaaaGreatDoorOe
set_option maxRecDepth 100000
set_option maxHeartbeats 1000000
set_option linter.unusedVariables false
set_option linter.unusedSimpArgs false
namespace Go.Sp.Tryz
open Go.Proofs Go.RowKit Go.Sp

open Go.ChangeShapes Go.WideShapes Go.ChangeAt
instance : Inhabited Ch := ⟨⟨[], .slice none 0 0, [], false⟩⟩
theorem change_opn {H : Type} {enc : TypeId × Value → H} {W : World} {base : Nat} {sp : Nat → Bool} {held : Bool} : Opn enc Tryz.prog W base sp held 36 34 (fun cs => ∃ c : Ch, cs = chC c ∧ (c.k.length = 32 ∧ c.v.length ≤ 9223372036854775807 ∧ Rob Nil (SlB c.s c.v) W)) :=
  (Opn.rec3 (t0 := 31) (t1 := 32) (t2 := 4) (by kernel_rfl) key_opn (Opn.bytes TryzT.sl32 TryzT.in5 (by kernel_rfl) (by kernel_rfl)) (Opn.bool (by kernel_rfl) (by kernel_rfl)) (by kernel_rfl)).mono fun cs ⟨a, b, d, e, ⟨k, e1, h1⟩, ⟨v, l, e2, h2, h3⟩, x, e3⟩ => ⟨⟨k, v, l, x⟩, by rw [e, e1, e2, e3, List.append_assoc]; rfl, h1, h2, h3⟩
theorem open_changes {H : Type} {enc : TypeId × Value → H} {W : World} {r : Reach} {base b0 : Nat} {sp : Nat → Bool} {held : Bool} {t : TypeId} {v : Value} {d : DataW H} {ps : List MemPlace} (ht : tySlice Tryz.prog t = some 36) (hval : Value.okWide Tryz.prog W r b0 t v) (hd : DataW.Trod enc Tryz.prog W base sp held t v d ps) :
    ∃ l : List Ch, l.length ≤ 9223372036854775807 ∧ XL l ∧ (∀ c ∈ l, c.v.length ≤ 9223372036854775807) ∧ Rob Nil (SlX v l) W ∧ Rob Nil (CVals l) W := by
  obtain ⟨l, h1, h2, h3⟩ := open_slices (C := chC) ht (by decide) change_opn hval hd
  exact ⟨l, h1, fun c hc => (h2 c hc).1, fun c hc => (h2 c hc).2.1, h3, fun w' hw c hc => (h2 c hc).2.2 w' hw⟩

end Go.Sp.Tryz
