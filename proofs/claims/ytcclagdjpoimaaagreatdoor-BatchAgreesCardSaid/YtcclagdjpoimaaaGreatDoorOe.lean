/- Walks of functions, printed by a program of this session (gen.py) from notes on each function. -/
import Derived.Test.YtcclagdjpoimaaaGreatDoorG4
import Derived.Test.YtcclagdjpoimaaaGreatDoorOpen
set_option maxRecDepth 100000
set_option maxHeartbeats 1000000
set_option linter.unusedVariables false
set_option linter.unusedSimpArgs false
namespace Go.Sp.Tryz
open Go.Proofs Go.RowKit Go.Sp

open Go.ChangeShapes Go.WideShapes Go.ChangeAt
instance : Inhabited En := ⟨⟨[], .slice none 0 0, []⟩⟩
theorem key_opn {H : Type} {enc : TypeId × Value → H} {W : World} {base : Nat} {sp : Nat → Bool} {held : Bool} : Opn enc Tryz.prog W base sp held 31 32 (fun cs => ∃ k : List UInt8, cs = kc k ∧ k.length = 32) :=
  (Opn.u8s TryzT.ar31 TryzT.in5 (by kernel_rfl) (by kernel_rfl)).mono fun cs ⟨k, h, e⟩ => ⟨k, e, h⟩
theorem entry_opn {H : Type} {enc : TypeId × Value → H} {W : World} {base : Nat} {sp : Nat → Bool} {held : Bool} : Opn enc Tryz.prog W base sp held 34 33 (fun cs => ∃ e : En, cs = enC e ∧ (e.k.length = 32 ∧ e.v.length ≤ 9223372036854775807 ∧ Rob Nil (SlB e.s e.v) W)) :=
  (Opn.rec2 (t0 := 31) (t1 := 32) (by kernel_rfl) key_opn (Opn.bytes TryzT.sl32 TryzT.in5 (by kernel_rfl) (by kernel_rfl)) (by kernel_rfl)).mono fun cs ⟨a, b, e, ⟨k, e1, h1⟩, v, l, e2, h2, h3⟩ => ⟨⟨k, v, l⟩, by rw [e, e1, e2]; rfl, h1, h2, h3⟩
theorem open_entries {H : Type} {enc : TypeId × Value → H} {W : World} {r : Reach} {base b0 : Nat} {sp : Nat → Bool} {held : Bool} {t : TypeId} {v : Value} {d : DataW H} {ps : List MemPlace} (ht : tySlice Tryz.prog t = some 34) (hval : Value.okWide Tryz.prog W r b0 t v) (hd : DataW.Trod enc Tryz.prog W base sp held t v d ps) :
    ∃ l : List En, l.length ≤ 9223372036854775807 ∧ KL l ∧ (∀ e ∈ l, e.v.length ≤ 9223372036854775807) ∧ Rob Nil (SlE v l) W ∧ Rob Nil (Vals l) W := by
  obtain ⟨l, h1, h2, h3⟩ := open_slices (C := enC) ht (by decide) entry_opn hval hd
  exact ⟨l, h1, fun e he => (h2 e he).1, fun e he => (h2 e he).2.1, h3, fun w' hw e he => (h2 e he).2.2 w' hw⟩
end Go.Sp.Tryz
