/- For every input the law KeyParses returns true and each argument reads as before; no condition. -/
import Derived.Test.YthdcihakjomagaaRows
import Derived.Test.YthdcihakjomagaaXn
import Derived.Test.YthdcihakjomagaaXo
import Derived.Test.YthdcihakjomagaaClose
set_option maxRecDepth 100000
set_option linter.unusedVariables false
namespace Go.Proofs.Ythdcihakjomagaa
open Go.ChangeShapes Go.WideShapes Go.ChangeAt Go.RowKit Go.Sp
open Go.Sp.Try
theorem own_KeyParses : ownKnob Try.prog.godebug = none := by kernel_rfl
theorem laid_KeyParses : laidOutB Try.prog = true := by kernel_rfl
theorem contract_KeyParses (H : Type) (enc : TypeId × Value → H) (W : World) (base : Nat) (args : Array Value) (ds gs : List (DataW H)) (before : List MemPlace)
    (hval : ∀ (j : Nat) t v, Try.f5.params[j]? = some t → args[j]? = some v → Value.okWide Try.prog W .any base t v)
    (hW : DataW.Whole enc Try.prog Try.f5.params.toList Rows.keyParsesSpec.vars false W args.toList ds gs before) :
    Calls Try.prog 5 args W fun e W' => ∃ v, e = .returned v ∧ Rows.keyParsesSpec.post enc Try.prog Try.f5 false true false false W args v W' := by
  have hW' := hW
  obtain ⟨p, q, hA0, hV, hpq, hfz, hnd⟩ := hW
  have hA : DataW.TrodAll enc Try.prog W 0 (fun _ => true) true Try.f5.params.toList args.toList ds p := hA0
  rw [Try.params5] at hA hval
  obtain ⟨v0, vs0, d0, ds0, p0, q0, hargs, rfl, rfl, h0, r0⟩ := trodAll_cons hA
  obtain ⟨rfl, rfl, rfl⟩ := trodAll_nil r0
  obtain rfl : args = #[v0] := by cases args; simp_all
  obtain ⟨rfl, rfl⟩ := trodVars_none hV
  obtain ⟨l0, rfl⟩ := open_str Try.underlying9 (hval 0 9 v0 rfl rfl)
  have hh : Ret Try.prog 5 [strV l0].toArray W (fun v w' => v = .bool true ∧ Out Nil W w') := by
    by_cases hc : 6000 < l0.length
    · exact KeyParsesLong_c (X := Nil) (w := W) (fun _ h => h.elim) hc
    · by_cases hk : okS l0
      · exact KeyParsesOk_c (X := Nil) (w := W) (fun _ h => h.elim) (by omega) hk
      · exact KeyParsesNo_c (X := Nil) (w := W) (fun _ h => h.elim) (by omega) hk
  refine (hh).calls.mono fun e W' hh => ?_
  obtain ⟨v, rfl, rfl, hO⟩ := hh
  exact ⟨_, rfl, close_law laid_KeyParses (by rw [Try.params5]; intro t ht; simp at ht; first | (rcases ht with rfl <;> exact ⟨by kernel_rfl, of_decide_eq_true (by kernel_rfl)⟩) | (rcases ht with rfl <;> exact ⟨by kernel_rfl, of_decide_eq_true (by kernel_rfl)⟩)) hW' rfl hO.below rfl (und_of_bool TryT.bo4) rfl rfl rfl⟩
theorem lifted_KeyParses (os : Os) (started : os.Started) (H : Type) (enc : TypeId × Value → H) :
    ReturnsInHanded {} Try.checked os 5 .any (Rows.keyParsesSpec.pre6 enc Try.prog Try.f5 Rows.keyParsesRow.domain false) (Rows.keyParsesSpec.post enc Try.prog Try.f5 false true false false) := by
  refine returnsInHanded_of_change (C := Try.checked) own_KeyParses started (by kernel_rfl) Try.func5
    (ChangeSpec.witness6 (enc := enc) (C := Try.checked) false ⟨#[], #[.string ⟨#[]⟩], []⟩ 8 (by kernel_rfl) (by kernel_rfl) (by kernel_rfl) (by kernel_rfl)) ?_
  intro W base args ds gs before hval hW _ _
  exact contract_KeyParses H enc W base args ds gs before hval hW
theorem keyParses_holds : Rows.KeyParsesSaid :=
  OpenClaim.holds_of_wide 5 Try.f5 rfl rfl rfl rfl rfl rfl rfl ⟨rfl, rfl, rfl, rfl, rfl⟩ rfl rfl rfl rfl rfl (by kernel_rfl) Try.func5 (by kernel_rfl)
    (of_decide_eq_true (by kernel_rfl)) (by unfold Func.isWrapper; first | (rw [if_pos (by decide +kernel)]; kernel_rfl) | (rw [if_neg (by decide +kernel)]; exact ⟨rfl, rfl⟩))
    (fun os started H enc _ => lifted_KeyParses os started H enc)
end Go.Proofs.Ythdcihakjomagaa
