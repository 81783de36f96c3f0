/- For every input the law PreimageDiffers returns true and each argument reads as before; no condition. -/
import Derived.Test.YtloecpgafphkeaaRows
import Derived.Test.YtloecpgafphkeaaPf
import Derived.Test.YtloecpgafphkeaaClose
set_option maxRecDepth 100000
set_option linter.unusedVariables false
namespace Go.Proofs.Ytloecpgafphkeaa
open Go.ChangeShapes Go.WideShapes Go.ChangeAt Go.RowKit Go.Sp
open Go.Sp.Try
theorem own_PreimageDiffers : ownKnob Try.prog.godebug = none := by kernel_rfl
theorem laid_PreimageDiffers : laidOutB Try.prog = true := by kernel_rfl
theorem contract_PreimageDiffers (H : Type) (enc : TypeId × Value → H) (W : World) (base : Nat) (args : Array Value) (ds gs : List (DataW H)) (before : List MemPlace)
    (hval : ∀ (j : Nat) t v, Try.f7.params[j]? = some t → args[j]? = some v → Value.okWide Try.prog W .any base t v)
    (hW : DataW.Whole enc Try.prog Try.f7.params.toList Rows.preimageDiffersSpec.vars false W args.toList ds gs before) :
    Calls Try.prog 7 args W fun e W' => ∃ v, e = .returned v ∧ Rows.preimageDiffersSpec.post enc Try.prog Try.f7 false true false false W args v W' := by
  have hW' := hW
  obtain ⟨p, q, hA0, hV, hpq, hfz, hnd⟩ := hW
  have hA : DataW.TrodAll enc Try.prog W 0 (fun _ => true) true Try.f7.params.toList args.toList ds p := hA0
  rw [Try.params7] at hA hval
  obtain ⟨v0, vs0, d0, ds0, p0, q0, hargs, rfl, rfl, h0, r0⟩ := trodAll_cons hA
  obtain ⟨v1, vs1, d1, ds1, p1, q1, rfl, rfl, rfl, h1, r1⟩ := trodAll_cons r0
  obtain ⟨v2, vs2, d2, ds2, p2, q2, rfl, rfl, rfl, h2, r2⟩ := trodAll_cons r1
  obtain ⟨rfl, rfl, rfl⟩ := trodAll_nil r2
  obtain rfl : args = #[v0, v1, v2] := by cases args; simp_all
  obtain ⟨rfl, rfl⟩ := trodVars_none hV
  obtain ⟨l0, hl0, hs0⟩ := open_bytes TryT.sl27 TryT.in5 (by kernel_rfl) (hval 0 27 v0 rfl rfl) h0
  obtain ⟨l1, hl1, hs1⟩ := open_bytes TryT.sl27 TryT.in5 (by kernel_rfl) (hval 1 27 v1 rfl rfl) h1
  obtain ⟨k2, hk2, rfl⟩ := open_u8s (n := 128) (ts := List.replicate 128 5) TryT.ag43 (by kernel_rfl) (by kernel_rfl) (by kernel_rfl) (hval 2 43 v2 rfl rfl)
  have e2 : kc k2 = (kc (k2.take 32) ++ kc ((k2.drop 32).take 32)) ++ (kc ((k2.drop 64).take 32) ++ kc (k2.drop 96)) := by
    simp only [← kc_append]
    congr 1
    have a1 : k2.drop 64 = (k2.drop 32).drop 32 := by rw [List.drop_drop]
    have a2 : k2.drop 96 = ((k2.drop 32).drop 32).drop 32 := by rw [List.drop_drop, List.drop_drop]
    rw [a1, a2, List.take_append_drop, List.append_assoc, List.take_append_drop, List.take_append_drop]
  rw [e2] at hW' ⊢
  refine (PreimageDiffers_c (X := Nil) (w := W) (fun _ h => h.elim) hs0 hs1 hl0 hl1 (by simp; omega) (by simp; omega) (by simp; omega) (by simp; omega)).calls.mono fun e W' hh => ?_
  obtain ⟨v, rfl, rfl, hO⟩ := hh
  exact ⟨_, rfl, close_law laid_PreimageDiffers (by rw [Try.params7]; intro t ht; simp at ht; first | (rcases ht with rfl | rfl <;> exact ⟨by kernel_rfl, of_decide_eq_true (by kernel_rfl)⟩)) hW' rfl hO.below rfl (und_of_bool TryT.bo4) rfl rfl rfl⟩
theorem lifted_PreimageDiffers (os : Os) (started : os.Started) (H : Type) (enc : TypeId × Value → H) :
    ReturnsInHanded {} Try.checked os 7 .any (Rows.preimageDiffersSpec.pre6 enc Try.prog Try.f7 Rows.preimageDiffersRow.domain false) (Rows.preimageDiffersSpec.post enc Try.prog Try.f7 false true false false) := by
  refine returnsInHanded_of_change (C := Try.checked) own_PreimageDiffers started (by kernel_rfl) Try.func7
    (ChangeSpec.witness6 (enc := enc) (C := Try.checked) false ⟨#[], #[.slice none 0 0, .slice none 0 0, .agg (List.replicate 128 (.int .u8 0)).toArray], []⟩ 8 (by kernel_rfl) (by kernel_rfl) (by kernel_rfl) (by kernel_rfl)) ?_
  intro W base args ds gs before hval hW _ _
  exact contract_PreimageDiffers H enc W base args ds gs before hval hW
theorem preimageDiffers_holds : Rows.PreimageDiffersSaid :=
  OpenClaim.holds_of_wide 7 Try.f7 rfl rfl rfl rfl rfl rfl rfl ⟨rfl, rfl, rfl, rfl, rfl⟩ rfl rfl rfl rfl rfl (by kernel_rfl) Try.func7 (by kernel_rfl)
    (of_decide_eq_true (by kernel_rfl)) (by unfold Func.isWrapper; first | (rw [if_pos (by decide +kernel)]; kernel_rfl) | (rw [if_neg (by decide +kernel)]; exact ⟨rfl, rfl⟩))
    (fun os started H enc _ => lifted_PreimageDiffers os started H enc)
end Go.Proofs.Ytloecpgafphkeaa
