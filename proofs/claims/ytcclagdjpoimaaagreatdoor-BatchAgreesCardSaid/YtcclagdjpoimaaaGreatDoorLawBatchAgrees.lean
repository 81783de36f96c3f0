/- For every input the law BatchAgrees returns true and each argument reads as before, if the listed package-level variables read as the program text lays them when the call begins; the card ties that to the text. -/
import Derived.Test.YtcclagdjpoimaaaGreatDoorRows
import Derived.Test.YtcclagdjpoimaaaGreatDoorCards
import Derived.Test.YtcclagdjpoimaaaGreatDoorTie
import Derived.Test.YtcclagdjpoimaaaGreatDoorY6
import Derived.Test.YtcclagdjpoimaaaGreatDoorYw
import Derived.Test.YtcclagdjpoimaaaGreatDoorOe
import Derived.Test.YtcclagdjpoimaaaGreatDoorRd
import Derived.Test.YtcclagdjpoimaaaGreatDoorClose
import Derived.LaidMore
import Derived.Stop.Joined
import Derived.SevenTiedAt
set_option maxRecDepth 100000
set_option linter.unusedVariables false
namespace Go.Proofs.YtcclagdjpoimaaaGreatDoor
open Go.ChangeShapes Go.WideShapes Go.ChangeAt Go.RowKit Go.Sp
open Go.Sp.Tryz
theorem own_BatchAgrees : ownKnob Tryz.prog.godebug = none := by kernel_rfl
theorem laid_BatchAgrees : laidOutB Tryz.prog = true := by kernel_rfl
theorem door_met_BatchAgrees (os : Os) (args : Array Value) : laidMetH Tryz.prog Rows.batchAgreesRow.laid ((World.doorLaid Tryz.prog 400 os).forCall (fun _ _ => 0) ⟨#[], args, []⟩).memory :=
  laidMetH_of_parts3 (fuel := 8) (laidMet_of_run' 8 (by kernel_rfl) (by kernel_rfl)) (by kernel_rfl) (by kernel_rfl)
theorem contract_BatchAgrees (H : Type) (enc : TypeId × Value → H) (W : World) (base : Nat) (args : Array Value) (ds gs : List (DataW H)) (before : List MemPlace)
    (hval : ∀ (j : Nat) t v, Tryz.f7.params[j]? = some t → args[j]? = some v → Value.okWide Tryz.prog W .any base t v)
    (hW : DataW.Whole enc Tryz.prog Tryz.f7.params.toList Rows.batchAgreesSpec.vars false W args.toList ds gs before) (hL : laidMetH Tryz.prog Rows.batchAgreesRow.laid W) :
    Calls Tryz.prog 7 args W fun e W' => ∃ v, e = .returned v ∧ Rows.batchAgreesSpec.post enc Tryz.prog Tryz.f7 false true false false W args v W' := by
  have hR := rounds_of_laid hL
  have hW' := hW
  obtain ⟨p, q, hA0, hV, hpq, hfz, hnd⟩ := hW
  have hA : DataW.TrodAll enc Tryz.prog W 0 (fun _ => true) true Tryz.f7.params.toList args.toList ds p := hA0
  rw [Tryz.params7] at hA hval
  obtain ⟨v0, vs0, d0, ds0, p0, q0, hargs, rfl, rfl, h0, r0⟩ := trodAll_cons hA
  obtain ⟨v1, vs1, d1, ds1, p1, q1, rfl, rfl, rfl, h1, r1⟩ := trodAll_cons r0
  obtain ⟨v2, vs2, d2, ds2, p2, q2, rfl, rfl, rfl, h2, r2⟩ := trodAll_cons r1
  obtain ⟨rfl, rfl, rfl⟩ := trodAll_nil r2
  obtain rfl : args = #[v0, v1, v2] := by cases args; simp_all
  obtain ⟨rfl, rfl⟩ := trodVars_none hV
  obtain ⟨a0, rfl, rfl, rfl, wa0⟩ := open_int (und_of_int TryzT.in3) (hval 0 3 v0 rfl rfl) h0
  have wb0 := bounds_i64 wa0
  obtain ⟨l1, hl1, hkl1, hvl1, hs1, hv1⟩ := open_entries TryzT.sl22 (hval 1 22 v1 rfl rfl) h1
  obtain ⟨l2, hl2, hx2, hvl2, hs2, hv2⟩ := open_changes TryzT.sl29 (hval 2 29 v2 rfl rfl) h2
  have hh : Ret Tryz.prog 7 [.int .i64 a0, v1, v2].toArray W (fun v w' => v = .bool true ∧ Out Nil W w') := by
    by_cases hc : 0 ≤ a0 ∧ a0 ≤ 256
    · exact (by by_cases hk : chkK (l2.map Ch.k) = 0; exact BatchAgrees_c (X := Nil) (w := W) (fun _ h => h.elim) hs1 hv1 hs2 hv2 hR hc hkl1 hl1 hvl1 hx2 hl2 hvl2 hk; exact BatchAgreesOrd_c (X := Nil) (w := W) (fun _ h => h.elim) hs1 hv1 hs2 hv2 hR hc hkl1 hl1 hvl1 hx2 hl2 hvl2 hk)
    · exact BatchAgreesBad_c (X := Nil) (w := W) (fun _ h => h.elim) hs1 hv1 hs2 hv2 hR hc hkl1 hl1 hvl1 hx2 hl2 hvl2
  refine (hh).calls.mono fun e W' hh => ?_
  obtain ⟨v, rfl, rfl, hO⟩ := hh
  exact ⟨_, rfl, close_law laid_BatchAgrees (by rw [Tryz.params7]; intro t ht; simp at ht; first | (rcases ht with rfl | rfl | rfl <;> exact ⟨by kernel_rfl, of_decide_eq_true (by kernel_rfl)⟩) | (rcases ht with rfl | rfl | rfl <;> exact ⟨by kernel_rfl, of_decide_eq_true (by kernel_rfl)⟩)) hW' rfl hO.below rfl (und_of_bool TryzT.bo4) rfl rfl rfl⟩
theorem lifted_BatchAgrees (os : Os) (started : os.Started) (H : Type) (enc : TypeId × Value → H) :
    ReturnsInHanded {} Tryz.checked os 7 .any (fun w args => (Rows.batchAgreesSpec.pre enc Tryz.prog Tryz.f7 [] false w args ∧ laidMetH Tryz.prog Rows.batchAgreesRow.laid w) ∧ sizedMet enc Tryz.prog Tryz.f7 (OpenSpec.ofChange Rows.batchAgreesSpec) false w args)
      (Rows.batchAgreesSpec.post enc Tryz.prog Tryz.f7 false true false false) := by
  refine returnsInHanded_of_change_and (C := Tryz.checked) (X := fun w _ => laidMetH Tryz.prog Rows.batchAgreesRow.laid w) (fun _ _ _ hh h => h.of_heap hh) own_BatchAgrees started (by kernel_rfl) Tryz.func7
    (ChangeSpec.witness_shaped (enc := enc) (C := Tryz.checked) (os := os) (X := fun w _ => laidMetH Tryz.prog Rows.batchAgreesRow.laid w) false (World.doorLaid Tryz.prog 400 os) #[.int .i64 0, .slice none 0 0, .slice none 0 0] 8 rfl (World.shaped_of_RefB (by kernel_rfl) (by kernel_rfl)) (by kernel_rfl) (by kernel_rfl) (by kernel_rfl) (door_met_BatchAgrees os _)) ?_
  intro W base args ds gs before hval0 hW _ _ hL _
  exact contract_BatchAgrees H enc W base args ds gs before hval0 hW hL
theorem batchAgrees_row_holds : Rows.BatchAgreesSaid :=
  OpenClaim.holds_of_wide 7 Tryz.f7 rfl rfl rfl rfl rfl rfl rfl ⟨rfl, rfl, rfl, rfl, rfl⟩ rfl rfl rfl rfl rfl (by kernel_rfl) Tryz.func7 (by kernel_rfl)
    (of_decide_eq_true (by kernel_rfl)) (by unfold Func.isWrapper; first | (rw [if_pos (by decide +kernel)]; kernel_rfl) | (rw [if_neg (by decide +kernel)]; exact ⟨rfl, rfl⟩))
    (fun os started H enc _ => lifted_BatchAgrees os started H enc)
theorem batchAgrees_holds : Rows.BatchAgreesCardSaid :=
  Claim7.holds_tied_plain_at .later [] [.data] true (true, "94fa388005d74961b225534e87049c559adb9e85a2e177fe1cd60f08436c588e") true
    batchAgrees_row_holds (fun _ h => by cases h) (by kernel_rfl) (fun _ h => by cases h) batchAgrees_row_tie rfl ⟨rfl, rfl⟩ (by kernel_rfl) rfl
    (fun f fn hf hfn => by
      obtain rfl : f = 7 := Option.some.inj ((show Tryz.prog.funcNamed "sparsetree/sparsetreelaw12.BatchAgrees" = some 7 by kernel_rfl).symm.trans hf) |>.symm
      obtain rfl : fn = Tryz.f7 := (Option.some.inj (Tryz.func7.symm.trans hfn)).symm
      exact ⟨by kernel_rfl, fun j t ht => by
        have hm : t ∈ Tryz.f7.params.toList := by
          obtain ⟨hj, he⟩ := Array.getElem?_eq_some_iff.1 ht
          rw [← he]; exact Array.getElem_mem_toList hj
        have ha : (Tryz.f7.params.toList.all fun t => !(Tryz.prog.wantsStandIn t)) = true := by kernel_rfl
        have := List.all_eq_true.1 ha t hm
        have h2 : Tryz.prog.wantsStandIn t = false := by simpa using this
        exact h2⟩)
    (by kernel_rfl)
end Go.Proofs.YtcclagdjpoimaaaGreatDoor
