/- For every input the law PreimageInverts returns true and each argument reads as before; no condition. -/
import Derived.Test.YtloecpgafphkeaaRows
import Derived.Test.YtloecpgafphkeaaPe
import Derived.Test.YtloecpgafphkeaaClose
set_option maxRecDepth 100000
set_option linter.unusedVariables false
namespace Go.Proofs.Ytloecpgafphkeaa
open Go.ChangeShapes Go.WideShapes Go.ChangeAt Go.RowKit Go.Sp
open Go.Sp.Try
theorem own_PreimageInverts : ownKnob Try.prog.godebug = none := by kernel_rfl
theorem laid_PreimageInverts : laidOutB Try.prog = true := by kernel_rfl
theorem contract_PreimageInverts (H : Type) (enc : TypeId × Value → H) (W : World) (base : Nat) (args : Array Value) (ds gs : List (DataW H)) (before : List MemPlace)
    (hval : ∀ (j : Nat) t v, Try.f6.params[j]? = some t → args[j]? = some v → Value.okWide Try.prog W .any base t v)
    (hW : DataW.Whole enc Try.prog Try.f6.params.toList Rows.preimageInvertsSpec.vars false W args.toList ds gs before) :
    Calls Try.prog 6 args W fun e W' => ∃ v, e = .returned v ∧ Rows.preimageInvertsSpec.post enc Try.prog Try.f6 false true false false W args v W' := by
  have hW' := hW
  obtain ⟨p, q, hA0, hV, hpq, hfz, hnd⟩ := hW
  have hA : DataW.TrodAll enc Try.prog W 0 (fun _ => true) true Try.f6.params.toList args.toList ds p := hA0
  rw [Try.params6] at hA hval
  obtain ⟨v0, vs0, d0, ds0, p0, q0, hargs, rfl, rfl, h0, r0⟩ := trodAll_cons hA
  obtain ⟨v1, vs1, d1, ds1, p1, q1, rfl, rfl, rfl, h1, r1⟩ := trodAll_cons r0
  obtain ⟨rfl, rfl, rfl⟩ := trodAll_nil r1
  obtain rfl : args = #[v0, v1] := by cases args; simp_all
  obtain ⟨rfl, rfl⟩ := trodVars_none hV
  obtain ⟨k0, hk0, rfl⟩ := open_u8s (n := 64) (ts := List.replicate 64 5) TryT.ag26 (by kernel_rfl) (by kernel_rfl) (by kernel_rfl) (hval 0 26 v0 rfl rfl)
  obtain ⟨k1, hk1, rfl⟩ := open_u8s (n := 32) (ts := List.replicate 32 5) TryT.ag24 (by kernel_rfl) (by kernel_rfl) (by kernel_rfl) (hval 1 24 v1 rfl rfl)
  have e0 : kc k0 = kc (k0.take 32) ++ kc (k0.drop 32) := by rw [← kc_append, List.take_append_drop]
  rw [e0] at hW' ⊢
  refine (PreimageInverts_c (X := Nil) (w := W) (fun _ h => h.elim) (by simp; omega) (by simp; omega) hk1).calls.mono fun e W' hh => ?_
  obtain ⟨v, rfl, rfl, hO⟩ := hh
  exact ⟨_, rfl, close_law laid_PreimageInverts (by rw [Try.params6]; intro t ht; simp at ht; first | (rcases ht with rfl | rfl <;> exact ⟨by kernel_rfl, of_decide_eq_true (by kernel_rfl)⟩)) hW' rfl hO.below rfl (und_of_bool TryT.bo4) rfl rfl rfl⟩
theorem lifted_PreimageInverts (os : Os) (started : os.Started) (H : Type) (enc : TypeId × Value → H) :
    ReturnsInHanded {} Try.checked os 6 .any (Rows.preimageInvertsSpec.pre6 enc Try.prog Try.f6 Rows.preimageInvertsRow.domain false) (Rows.preimageInvertsSpec.post enc Try.prog Try.f6 false true false false) := by
  refine returnsInHanded_of_change (C := Try.checked) own_PreimageInverts started (by kernel_rfl) Try.func6
    (ChangeSpec.witness6 (enc := enc) (C := Try.checked) false ⟨#[], #[.agg (List.replicate 64 (.int .u8 0)).toArray, .agg (List.replicate 32 (.int .u8 0)).toArray], []⟩ 8 (by kernel_rfl) (by kernel_rfl) (by kernel_rfl) (by kernel_rfl)) ?_
  intro W base args ds gs before hval hW _ _
  exact contract_PreimageInverts H enc W base args ds gs before hval hW
theorem preimageInverts_holds : Rows.PreimageInvertsSaid :=
  OpenClaim.holds_of_wide 6 Try.f6 rfl rfl rfl rfl rfl rfl rfl ⟨rfl, rfl, rfl, rfl, rfl⟩ rfl rfl rfl rfl rfl (by kernel_rfl) Try.func6 (by kernel_rfl)
    (of_decide_eq_true (by kernel_rfl)) (by unfold Func.isWrapper; first | (rw [if_pos (by decide +kernel)]; kernel_rfl) | (rw [if_neg (by decide +kernel)]; exact ⟨rfl, rfl⟩))
    (fun os started H enc _ => lifted_PreimageInverts os started H enc)
end Go.Proofs.Ytloecpgafphkeaa
