/- For every input the law KeySplits returns true and each argument reads as before; no condition. -/
import Derived.Test.YthdcihakjomagaaRows
import Derived.Test.YthdcihakjomagaaXn
import Derived.Test.YthdcihakjomagaaXo
import Derived.Test.YthdcihakjomagaaClose
set_option maxRecDepth 100000
set_option linter.unusedVariables false
namespace Go.Proofs.Ythdcihakjomagaa
open Go.ChangeShapes Go.WideShapes Go.ChangeAt Go.RowKit Go.Sp
open Go.Sp.Try
theorem own_KeySplits : ownKnob Try.prog.godebug = none := by kernel_rfl
theorem laid_KeySplits : laidOutB Try.prog = true := by kernel_rfl
theorem contract_KeySplits (H : Type) (enc : TypeId × Value → H) (W : World) (base : Nat) (args : Array Value) (ds gs : List (DataW H)) (before : List MemPlace)
    (hval : ∀ (j : Nat) t v, Try.f7.params[j]? = some t → args[j]? = some v → Value.okWide Try.prog W .any base t v)
    (hW : DataW.Whole enc Try.prog Try.f7.params.toList Rows.keySplitsSpec.vars false W args.toList ds gs before) :
    Calls Try.prog 7 args W fun e W' => ∃ v, e = .returned v ∧ Rows.keySplitsSpec.post enc Try.prog Try.f7 false true false false W args v W' := by
  have hW' := hW
  obtain ⟨p, q, hA0, hV, hpq, hfz, hnd⟩ := hW
  have hA : DataW.TrodAll enc Try.prog W 0 (fun _ => true) true Try.f7.params.toList args.toList ds p := hA0
  rw [Try.params7] at hA hval
  obtain ⟨v0, vs0, d0, ds0, p0, q0, hargs, rfl, rfl, h0, r0⟩ := trodAll_cons hA
  obtain ⟨v1, vs1, d1, ds1, p1, q1, rfl, rfl, rfl, h1, r1⟩ := trodAll_cons r0
  obtain ⟨v2, vs2, d2, ds2, p2, q2, rfl, rfl, rfl, h2, r2⟩ := trodAll_cons r1
  obtain ⟨rfl, rfl, rfl⟩ := trodAll_nil r2
  obtain rfl : args = #[v0, v1, v2] := by cases args; simp_all
  obtain ⟨rfl, rfl⟩ := trodVars_none hV
  obtain ⟨l0, hl0, hkk0, hs0⟩ := open_keys TryT.sl38 (hval 0 38 v0 rfl rfl) h0
  obtain ⟨k1, hk1, rfl⟩ := open_u8s (n := 32) (ts := List.replicate 32 5) TryT.ag24 (by kernel_rfl) (by kernel_rfl) (by kernel_rfl) (hval 1 24 v1 rfl rfl)
  obtain ⟨a2, rfl, rfl, rfl, wa2⟩ := open_int (und_of_int TryT.in3) (hval 2 3 v2 rfl rfl) h2
  have hh : Ret Try.prog 7 [v0, .agg (kc k1).toArray, .int .i64 a2].toArray W (fun v w' => v = .bool true ∧ Out Nil W w') := by
    by_cases hc : 100 < (l0.length : Int) ∨ a2 < 0 ∨ 255 < a2
    · exact KeySplitsBad_c (X := Nil) (w := W) (fun _ h => h.elim) hs0 hc
    · obtain ⟨d, rfl⟩ := Int.eq_ofNat_of_zero_le (show 0 ≤ a2 by omega)
      exact KeySplitsGood_c (X := Nil) (w := W) (fun _ h => h.elim) hs0 hkk0 (by omega) hk1 (by omega)
  refine (hh).calls.mono fun e W' hh => ?_
  obtain ⟨v, rfl, rfl, hO⟩ := hh
  exact ⟨_, rfl, close_law laid_KeySplits (by rw [Try.params7]; intro t ht; simp at ht; first | (rcases ht with rfl | rfl | rfl <;> exact ⟨by kernel_rfl, of_decide_eq_true (by kernel_rfl)⟩) | (rcases ht with rfl | rfl | rfl <;> exact ⟨by kernel_rfl, of_decide_eq_true (by kernel_rfl)⟩)) hW' rfl hO.below rfl (und_of_bool TryT.bo4) rfl rfl rfl⟩
theorem lifted_KeySplits (os : Os) (started : os.Started) (H : Type) (enc : TypeId × Value → H) :
    ReturnsInHanded {} Try.checked os 7 .any (Rows.keySplitsSpec.pre6 enc Try.prog Try.f7 Rows.keySplitsRow.domain false) (Rows.keySplitsSpec.post enc Try.prog Try.f7 false true false false) := by
  refine returnsInHanded_of_change (C := Try.checked) own_KeySplits started (by kernel_rfl) Try.func7
    (ChangeSpec.witness6 (enc := enc) (C := Try.checked) false ⟨#[], #[.slice none 0 0, .agg (List.replicate 32 (.int .u8 0)).toArray, .int .i64 0], []⟩ 8 (by kernel_rfl) (by kernel_rfl) (by kernel_rfl) (by kernel_rfl)) ?_
  intro W base args ds gs before hval hW _ _
  exact contract_KeySplits H enc W base args ds gs before hval hW
theorem keySplits_holds : Rows.KeySplitsSaid :=
  OpenClaim.holds_of_wide 7 Try.f7 rfl rfl rfl rfl rfl rfl rfl ⟨rfl, rfl, rfl, rfl, rfl⟩ rfl rfl rfl rfl rfl (by kernel_rfl) Try.func7 (by kernel_rfl)
    (of_decide_eq_true (by kernel_rfl)) (by unfold Func.isWrapper; first | (rw [if_pos (by decide +kernel)]; kernel_rfl) | (rw [if_neg (by decide +kernel)]; exact ⟨rfl, rfl⟩))
    (fun os started H enc _ => lifted_KeySplits os started H enc)
end Go.Proofs.Ythdcihakjomagaa
