/- For every input the law KeySorts returns true and each argument reads as before; no condition. -/
import Derived.Test.YthdcihakjomagaaRows
import Derived.Test.YthdcihakjomagaaXn
import Derived.Test.YthdcihakjomagaaXo
import Derived.Test.YthdcihakjomagaaClose
set_option maxRecDepth 100000
set_option linter.unusedVariables false
namespace Go.Proofs.Ythdcihakjomagaa
open Go.ChangeShapes Go.WideShapes Go.ChangeAt Go.RowKit Go.Sp
open Go.Sp.Try
theorem own_KeySorts : ownKnob Try.prog.godebug = none := by kernel_rfl
theorem laid_KeySorts : laidOutB Try.prog = true := by kernel_rfl
theorem contract_KeySorts (H : Type) (enc : TypeId × Value → H) (W : World) (base : Nat) (args : Array Value) (ds gs : List (DataW H)) (before : List MemPlace)
    (hval : ∀ (j : Nat) t v, Try.f8.params[j]? = some t → args[j]? = some v → Value.okWide Try.prog W .any base t v)
    (hW : DataW.Whole enc Try.prog Try.f8.params.toList Rows.keySortsSpec.vars false W args.toList ds gs before) :
    Calls Try.prog 8 args W fun e W' => ∃ v, e = .returned v ∧ Rows.keySortsSpec.post enc Try.prog Try.f8 false true false false W args v W' := by
  have hW' := hW
  obtain ⟨p, q, hA0, hV, hpq, hfz, hnd⟩ := hW
  have hA : DataW.TrodAll enc Try.prog W 0 (fun _ => true) true Try.f8.params.toList args.toList ds p := hA0
  rw [Try.params8] at hA hval
  obtain ⟨v0, vs0, d0, ds0, p0, q0, hargs, rfl, rfl, h0, r0⟩ := trodAll_cons hA
  obtain ⟨rfl, rfl, rfl⟩ := trodAll_nil r0
  obtain rfl : args = #[v0] := by cases args; simp_all
  obtain ⟨rfl, rfl⟩ := trodVars_none hV
  obtain ⟨l0, hl0, hkk0, hs0⟩ := open_keys TryT.sl38 (hval 0 38 v0 rfl rfl) h0
  have hh : Ret Try.prog 8 [v0].toArray W (fun v w' => v = .bool true ∧ Out Nil W w') := by
    by_cases hc : l0.length ≤ 100
    · exact KeySortsGood_c (X := Nil) (w := W) (fun _ h => h.elim) hs0 hkk0 hc
    · exact KeySortsBad_c (X := Nil) (w := W) (fun _ h => h.elim) hs0 (by omega)
  refine (hh).calls.mono fun e W' hh => ?_
  obtain ⟨v, rfl, rfl, hO⟩ := hh
  exact ⟨_, rfl, close_law laid_KeySorts (by rw [Try.params8]; intro t ht; simp at ht; first | (rcases ht with rfl <;> exact ⟨by kernel_rfl, of_decide_eq_true (by kernel_rfl)⟩) | (rcases ht with rfl <;> exact ⟨by kernel_rfl, of_decide_eq_true (by kernel_rfl)⟩)) hW' rfl hO.below rfl (und_of_bool TryT.bo4) rfl rfl rfl⟩
theorem lifted_KeySorts (os : Os) (started : os.Started) (H : Type) (enc : TypeId × Value → H) :
    ReturnsInHanded {} Try.checked os 8 .any (Rows.keySortsSpec.pre6 enc Try.prog Try.f8 Rows.keySortsRow.domain false) (Rows.keySortsSpec.post enc Try.prog Try.f8 false true false false) := by
  refine returnsInHanded_of_change (C := Try.checked) own_KeySorts started (by kernel_rfl) Try.func8
    (ChangeSpec.witness6 (enc := enc) (C := Try.checked) false ⟨#[], #[.slice none 0 0], []⟩ 8 (by kernel_rfl) (by kernel_rfl) (by kernel_rfl) (by kernel_rfl)) ?_
  intro W base args ds gs before hval hW _ _
  exact contract_KeySorts H enc W base args ds gs before hval hW
theorem keySorts_holds : Rows.KeySortsSaid :=
  OpenClaim.holds_of_wide 8 Try.f8 rfl rfl rfl rfl rfl rfl rfl ⟨rfl, rfl, rfl, rfl, rfl⟩ rfl rfl rfl rfl rfl (by kernel_rfl) Try.func8 (by kernel_rfl)
    (of_decide_eq_true (by kernel_rfl)) (by unfold Func.isWrapper; first | (rw [if_pos (by decide +kernel)]; kernel_rfl) | (rw [if_neg (by decide +kernel)]; exact ⟨rfl, rfl⟩))
    (fun os started H enc _ => lifted_KeySorts os started H enc)
end Go.Proofs.Ythdcihakjomagaa
