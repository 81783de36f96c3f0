/- Walks of functions, printed by a program of this session (gen.py) from notes on each function. -/
import Derived.Test.YthdcihakjomagaaXc
import Derived.Test.YthdcihakjomagaaStr
import Derived.Test.YthdcihakjomagaaOpen
set_option maxRecDepth 100000
set_option maxHeartbeats 1000000
set_option linter.unusedVariables false
set_option linter.unusedSimpArgs false
namespace Go.Sp.Try
open Go.Proofs Go.RowKit Go.Sp

open Go.ChangeShapes Go.WideShapes Go.ChangeAt
theorem key_opn {H : Type} {enc : TypeId × Value → H} {W : World} {base : Nat} {sp : Nat → Bool} {held : Bool} : Opn enc Try.prog W base sp held 24 32 (fun cs => ∃ k : List UInt8, cs = kc k ∧ k.length = 32) :=
  (Opn.u8s TryT.ar24 TryT.in5 (by kernel_rfl) (by kernel_rfl)).mono fun cs ⟨k, h, e⟩ => ⟨k, e, h⟩
theorem open_keys {H : Type} {enc : TypeId × Value → H} {W : World} {r : Reach} {base b0 : Nat} {sp : Nat → Bool} {held : Bool} {t : TypeId} {v : Value} {d : DataW H} {ps : List MemPlace} (ht : tySlice Try.prog t = some 24) (hval : Value.okWide Try.prog W r b0 t v) (hd : DataW.Trod enc Try.prog W base sp held t v d ps) :
    ∃ ks : List (List UInt8), ks.length ≤ 9223372036854775807 ∧ K32 ks ∧ Rob Nil (SlK v ks) W := by
  obtain ⟨l, h1, h2, h3⟩ := open_slices (C := kc) (Q := fun k => k.length = 32) ht (by decide) key_opn hval hd
  exact ⟨l, h1, h2, h3⟩

theorem open_str {W : World} {r : Reach} {b0 : Nat} {t : TypeId} {v : Value} (ht : (Try.prog).underlying t = some .string) (hval : Value.okWide Try.prog W r b0 t v) : ∃ l : List UInt8, v = strV l := by
  obtain ⟨s, rfl⟩ := okWide_string ht hval
  exact ⟨s.data.toList, by simp [strV]⟩

end Go.Sp.Try
