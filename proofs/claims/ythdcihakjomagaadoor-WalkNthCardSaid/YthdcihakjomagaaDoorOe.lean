/- Walks of functions, printed by a program of this session (gen.py) from notes on each function. -/
import Derived.Test.YthdcihakjomagaaDoorG4
import Derived.Test.YthdcihakjomagaaDoorOpen
set_option maxRecDepth 100000
set_option maxHeartbeats 1000000
set_option linter.unusedVariables false
set_option linter.unusedSimpArgs false
namespace Go.Sp.Tryd
open Go.Proofs Go.RowKit Go.Sp

open Go.ChangeShapes Go.WideShapes Go.ChangeAt
instance : Inhabited En := ⟨⟨[], .slice none 0 0, []⟩⟩
theorem key_opn {H : Type} {enc : TypeId × Value → H} {W : World} {base : Nat} {sp : Nat → Bool} {held : Bool} : Opn enc Tryd.prog W base sp held 31 32 (fun cs => ∃ k : List UInt8, cs = kc k ∧ k.length = 32) :=
  (Opn.u8s TrydT.ar31 TrydT.in5 (by kernel_rfl) (by kernel_rfl)).mono fun cs ⟨k, h, e⟩ => ⟨k, e, h⟩
theorem entry_opn {H : Type} {enc : TypeId × Value → H} {W : World} {base : Nat} {sp : Nat → Bool} {held : Bool} : Opn enc Tryd.prog W base sp held 34 33 (fun cs => ∃ e : En, cs = enC e ∧ (e.k.length = 32 ∧ e.v.length ≤ 9223372036854775807 ∧ Rob Nil (SlB e.s e.v) W)) :=
  (Opn.rec2 (t0 := 31) (t1 := 32) (by kernel_rfl) key_opn (Opn.bytes TrydT.sl32 TrydT.in5 (by kernel_rfl) (by kernel_rfl)) (by kernel_rfl)).mono fun cs ⟨a, b, e, ⟨k, e1, h1⟩, v, l, e2, h2, h3⟩ => ⟨⟨k, v, l⟩, by rw [e, e1, e2]; rfl, h1, h2, h3⟩
theorem open_entries {H : Type} {enc : TypeId × Value → H} {W : World} {r : Reach} {base b0 : Nat} {sp : Nat → Bool} {held : Bool} {t : TypeId} {v : Value} {d : DataW H} {ps : List MemPlace} (ht : tySlice Tryd.prog t = some 34) (hval : Value.okWide Tryd.prog W r b0 t v) (hd : DataW.Trod enc Tryd.prog W base sp held t v d ps) :
    ∃ l : List En, l.length ≤ 9223372036854775807 ∧ KL l ∧ (∀ e ∈ l, e.v.length ≤ 9223372036854775807) ∧ Rob Nil (SlE v l) W ∧ Rob Nil (Vals l) W := by
  obtain ⟨l, h1, h2, h3⟩ := open_slices (C := enC) ht (by decide) entry_opn hval hd
  exact ⟨l, h1, fun e he => (h2 e he).1, fun e he => (h2 e he).2.1, h3, fun w' hw e he => (h2 e he).2.2 w' hw⟩
theorem open_entry {H : Type} {enc : TypeId × Value → H} {W : World} {r : Reach} {base b0 : Nat} {sp : Nat → Bool} {held : Bool} {v : Value} {d : DataW H} {ps : List MemPlace} (hval : Value.okWide Tryd.prog W r b0 34 v) (hd : DataW.Trod enc Tryd.prog W base sp held 34 v d ps) :
    ∃ e : En, v = .agg (enC e).toArray ∧ e.k.length = 32 ∧ e.v.length ≤ 9223372036854775807 ∧ Rob Nil (SlB e.s e.v) W := by
  obtain ⟨cs, h1, e, rfl, h2⟩ := open_agg (S := fun cs => ∃ e : En, cs = enC e ∧ (e.k.length = 32 ∧ e.v.length ≤ 9223372036854775807 ∧ Rob Nil (SlB e.s e.v) W)) TrydT.ag34 entry_opn hval hd
  exact ⟨e, h1, h2⟩
theorem open_keyint {H : Type} {enc : TypeId × Value → H} {W : World} {r : Reach} {base b0 : Nat} {sp : Nat → Bool} {held : Bool} {t : TypeId} {v : Value} {d : DataW H} {ps : List MemPlace} (ht : tyFs Tryd.prog t = some [(0, 31), (32, 3)]) (hc : (Tryd.prog).cellsOf t = 32 + 1) (hag : tyAgg Tryd.prog t = some true) (hval : Value.okWide Tryd.prog W r b0 t v) (hd : DataW.Trod enc Tryd.prog W base sp held t v d ps) :
    ∃ (k : List UInt8) (z : Int), v = .agg (kc k ++ [Value.int .i64 z]).toArray ∧ k.length = 32 ∧ (Lit.int .i64 z).wf = true := by
  obtain ⟨cs, h1, a, b, rfl, ⟨k, rfl, h2⟩, z, rfl, h3⟩ := open_agg hag (Opn.rec2 ht key_opn (Opn.int (t := 3) TrydT.in3 (by kernel_rfl)) hc) hval hd
  exact ⟨k, z, h1, h2, h3⟩
theorem open_entry2 {H : Type} {enc : TypeId × Value → H} {W : World} {r : Reach} {base b0 : Nat} {sp : Nat → Bool} {held : Bool} {t : TypeId} {v : Value} {d : DataW H} {ps : List MemPlace} (ht : tyArray Tryd.prog t = some (2, 34)) (hc : (Tryd.prog).cellsOf t = 33 + 33) (hag : tyAgg Tryd.prog t = some true) (hval : Value.okWide Tryd.prog W r b0 t v) (hd : DataW.Trod enc Tryd.prog W base sp held t v d ps) :
    ∃ e f : En, v = .agg (enC e ++ enC f).toArray ∧ (e.k.length = 32 ∧ e.v.length ≤ 9223372036854775807 ∧ Rob Nil (SlB e.s e.v) W) ∧ (f.k.length = 32 ∧ f.v.length ≤ 9223372036854775807 ∧ Rob Nil (SlB f.s f.v) W) := by
  obtain ⟨cs, h1, a, b, rfl, ⟨e, rfl, h2⟩, f, rfl, h3⟩ := open_agg hag (Opn.arr2 ht entry_opn hc) hval hd
  exact ⟨e, f, h1, h2, h3⟩
theorem open_entryint {H : Type} {enc : TypeId × Value → H} {W : World} {r : Reach} {base b0 : Nat} {sp : Nat → Bool} {held : Bool} {t : TypeId} {v : Value} {d : DataW H} {ps : List MemPlace} (ht : tyFs Tryd.prog t = some [(0, 34), (33, 3)]) (hc : (Tryd.prog).cellsOf t = 33 + 1) (hag : tyAgg Tryd.prog t = some true) (hval : Value.okWide Tryd.prog W r b0 t v) (hd : DataW.Trod enc Tryd.prog W base sp held t v d ps) :
    ∃ (e : En) (z : Int), v = .agg (enC e ++ [Value.int .i64 z]).toArray ∧ e.k.length = 32 ∧ e.v.length ≤ 9223372036854775807 ∧ Rob Nil (SlB e.s e.v) W := by
  obtain ⟨cs, h1, a, b, rfl, ⟨e, rfl, h2⟩, z, rfl, h3⟩ := open_agg hag (Opn.rec2 ht entry_opn (Opn.int (t := 3) TrydT.in3 (by kernel_rfl)) hc) hval hd
  exact ⟨e, z, h1, h2⟩

end Go.Sp.Tryd
