/- For every input the law PreimageBuilds returns true and each argument reads as before; no condition. -/
import Derived.Test.YtloecpgafphkeaaRows
import Derived.Test.YtloecpgafphkeaaPe
import Derived.Test.YtloecpgafphkeaaClose
set_option maxRecDepth 100000
set_option linter.unusedVariables false
namespace Go.Proofs.Ytloecpgafphkeaa
open Go.ChangeShapes Go.WideShapes Go.ChangeAt Go.RowKit Go.Sp
open Go.Sp.Try
theorem own_PreimageBuilds : ownKnob Try.prog.godebug = none := by kernel_rfl
theorem laid_PreimageBuilds : laidOutB Try.prog = true := by kernel_rfl
theorem contract_PreimageBuilds (H : Type) (enc : TypeId × Value → H) (W : World) (base : Nat) (args : Array Value) (ds gs : List (DataW H)) (before : List MemPlace)
    (hval : ∀ (j : Nat) t v, Try.f3.params[j]? = some t → args[j]? = some v → Value.okWide Try.prog W .any base t v)
    (hW : DataW.Whole enc Try.prog Try.f3.params.toList Rows.preimageBuildsSpec.vars false W args.toList ds gs before) :
    Calls Try.prog 3 args W fun e W' => ∃ v, e = .returned v ∧ Rows.preimageBuildsSpec.post enc Try.prog Try.f3 false true false false W args v W' := by
  have hW' := hW
  obtain ⟨p, q, hA0, hV, hpq, hfz, hnd⟩ := hW
  have hA : DataW.TrodAll enc Try.prog W 0 (fun _ => true) true Try.f3.params.toList args.toList ds p := hA0
  rw [Try.params3] at hA hval
  obtain ⟨v0, vs0, d0, ds0, p0, q0, hargs, rfl, rfl, h0, r0⟩ := trodAll_cons hA
  obtain ⟨v1, vs1, d1, ds1, p1, q1, rfl, rfl, rfl, h1, r1⟩ := trodAll_cons r0
  obtain ⟨v2, vs2, d2, ds2, p2, q2, rfl, rfl, rfl, h2, r2⟩ := trodAll_cons r1
  obtain ⟨rfl, rfl, rfl⟩ := trodAll_nil r2
  obtain rfl : args = #[v0, v1, v2] := by cases args; simp_all
  obtain ⟨rfl, rfl⟩ := trodVars_none hV
  obtain ⟨k0, hk0, rfl⟩ := open_u8s (n := 64) (ts := List.replicate 64 5) TryT.ag26 (by kernel_rfl) (by kernel_rfl) (by kernel_rfl) (hval 0 26 v0 rfl rfl)
  obtain ⟨k1, hk1, rfl⟩ := open_u8s (n := 32) (ts := List.replicate 32 5) TryT.ag24 (by kernel_rfl) (by kernel_rfl) (by kernel_rfl) (hval 1 24 v1 rfl rfl)
  obtain ⟨l2, hl2, hs2⟩ := open_bytes TryT.sl27 TryT.in5 (by kernel_rfl) (hval 2 27 v2 rfl rfl) h2
  have e0 : kc k0 = kc (k0.take 32) ++ kc (k0.drop 32) := by rw [← kc_append, List.take_append_drop]
  rw [e0] at hW' ⊢
  refine (PreimageBuilds_c (X := Nil) (w := W) (fun _ h => h.elim) hs2 hl2 (by simp; omega) (by simp; omega) hk1).calls.mono fun e W' hh => ?_
  obtain ⟨v, rfl, rfl, hO⟩ := hh
  exact ⟨_, rfl, close_law laid_PreimageBuilds (by rw [Try.params3]; intro t ht; simp at ht; first | (rcases ht with rfl | rfl | rfl <;> exact ⟨by kernel_rfl, of_decide_eq_true (by kernel_rfl)⟩)) hW' rfl hO.below rfl (und_of_bool TryT.bo4) rfl rfl rfl⟩
theorem lifted_PreimageBuilds (os : Os) (started : os.Started) (H : Type) (enc : TypeId × Value → H) :
    ReturnsInHanded {} Try.checked os 3 .any (Rows.preimageBuildsSpec.pre6 enc Try.prog Try.f3 Rows.preimageBuildsRow.domain false) (Rows.preimageBuildsSpec.post enc Try.prog Try.f3 false true false false) := by
  refine returnsInHanded_of_change (C := Try.checked) own_PreimageBuilds started (by kernel_rfl) Try.func3
    (ChangeSpec.witness6 (enc := enc) (C := Try.checked) false ⟨#[], #[.agg (List.replicate 64 (.int .u8 0)).toArray, .agg (List.replicate 32 (.int .u8 0)).toArray, .slice none 0 0], []⟩ 8 (by kernel_rfl) (by kernel_rfl) (by kernel_rfl) (by kernel_rfl)) ?_
  intro W base args ds gs before hval hW _ _
  exact contract_PreimageBuilds H enc W base args ds gs before hval hW
theorem preimageBuilds_holds : Rows.PreimageBuildsSaid :=
  OpenClaim.holds_of_wide 3 Try.f3 rfl rfl rfl rfl rfl rfl rfl ⟨rfl, rfl, rfl, rfl, rfl⟩ rfl rfl rfl rfl rfl (by kernel_rfl) Try.func3 (by kernel_rfl)
    (of_decide_eq_true (by kernel_rfl)) (by unfold Func.isWrapper; first | (rw [if_pos (by decide +kernel)]; kernel_rfl) | (rw [if_neg (by decide +kernel)]; exact ⟨rfl, rfl⟩))
    (fun os started H enc _ => lifted_PreimageBuilds os started H enc)
end Go.Proofs.Ytloecpgafphkeaa
