/- For every input the law BatchDiffs returns true and each argument reads as before, if the listed package-level variables read as the program text lays them when the call begins; the card ties that to the text. -/
import Derived.Test.YtcclagdjpoimaaaDoorRows
import Derived.Test.YtcclagdjpoimaaaDoorCards
import Derived.Test.YtcclagdjpoimaaaDoorTie
import Derived.Test.YtcclagdjpoimaaaDoorYv
import Derived.Test.YtcclagdjpoimaaaDoorOe
import Derived.Test.YtcclagdjpoimaaaDoorRd
import Derived.Test.YtcclagdjpoimaaaDoorClose
import Derived.LaidMore
import Derived.Stop.Joined
import Derived.SevenTiedAt
set_option maxRecDepth 100000
set_option linter.unusedVariables false
namespace Go.Proofs.YtcclagdjpoimaaaDoor
open Go.ChangeShapes Go.WideShapes Go.ChangeAt Go.RowKit Go.Sp
open Go.Sp.Tryd
theorem own_BatchDiffs : ownKnob Tryd.prog.godebug = none := by kernel_rfl
theorem laid_BatchDiffs : laidOutB Tryd.prog = true := by kernel_rfl
theorem door_met_BatchDiffs (os : Os) (args : Array Value) : laidMetH Tryd.prog Rows.batchDiffsRow.laid ((World.doorLaid Tryd.prog 400 os).forCall (fun _ _ => 0) ⟨#[], args, []⟩).memory :=
  laidMetH_of_parts3 (fuel := 8) (laidMet_of_run' 8 (by kernel_rfl) (by kernel_rfl)) (by kernel_rfl) (by kernel_rfl)
theorem contract_BatchDiffs (H : Type) (enc : TypeId × Value → H) (W : World) (base : Nat) (args : Array Value) (ds gs : List (DataW H)) (before : List MemPlace)
    (hval : ∀ (j : Nat) t v, Tryd.f3.params[j]? = some t → args[j]? = some v → Value.okWide Tryd.prog W .any base t v)
    (hW : DataW.Whole enc Tryd.prog Tryd.f3.params.toList Rows.batchDiffsSpec.vars false W args.toList ds gs before) (hL : laidMetH Tryd.prog Rows.batchDiffsRow.laid W) :
    Calls Tryd.prog 3 args W fun e W' => ∃ v, e = .returned v ∧ Rows.batchDiffsSpec.post enc Tryd.prog Tryd.f3 false true false false W args v W' := by
  have hR := rounds_of_laid hL
  have hW' := hW
  obtain ⟨p, q, hA0, hV, hpq, hfz, hnd⟩ := hW
  have hA : DataW.TrodAll enc Tryd.prog W 0 (fun _ => true) true Tryd.f3.params.toList args.toList ds p := hA0
  rw [Tryd.params3] at hA hval
  obtain ⟨v0, vs0, d0, ds0, p0, q0, hargs, rfl, rfl, h0, r0⟩ := trodAll_cons hA
  obtain ⟨v1, vs1, d1, ds1, p1, q1, rfl, rfl, rfl, h1, r1⟩ := trodAll_cons r0
  obtain ⟨v2, vs2, d2, ds2, p2, q2, rfl, rfl, rfl, h2, r2⟩ := trodAll_cons r1
  obtain ⟨rfl, rfl, rfl⟩ := trodAll_nil r2
  obtain rfl : args = #[v0, v1, v2] := by cases args; simp_all
  obtain ⟨rfl, rfl⟩ := trodVars_none hV
  obtain ⟨a0, rfl, rfl, rfl, wa0⟩ := open_int (und_of_int TrydT.in3) (hval 0 3 v0 rfl rfl) h0
  have wb0 := bounds_i64 wa0
  obtain ⟨l1, hl1, hkl1, hvl1, hs1, hv1⟩ := open_entries TrydT.sl22 (hval 1 22 v1 rfl rfl) h1
  obtain ⟨l2, hl2, hkl2, hvl2, hs2, hv2⟩ := open_entries TrydT.sl22 (hval 2 22 v2 rfl rfl) h2
  refine (BatchDiffs_c (X := Nil) (w := W) (fun _ h => h.elim) hs1 hv1 hs2 hv2 hR hkl1 hl1 hvl1 hkl2 hl2 hvl2).calls.mono fun e W' hh => ?_
  obtain ⟨v, rfl, rfl, hO⟩ := hh
  exact ⟨_, rfl, close_law laid_BatchDiffs (by rw [Tryd.params3]; intro t ht; simp at ht; first | (rcases ht with rfl | rfl <;> exact ⟨by kernel_rfl, of_decide_eq_true (by kernel_rfl)⟩) | (rcases ht with rfl | rfl | rfl <;> exact ⟨by kernel_rfl, of_decide_eq_true (by kernel_rfl)⟩)) hW' rfl hO.below rfl (und_of_bool TrydT.bo4) rfl rfl rfl⟩
theorem lifted_BatchDiffs (os : Os) (started : os.Started) (H : Type) (enc : TypeId × Value → H) :
    ReturnsInHanded {} Tryd.checked os 3 .any (fun w args => (Rows.batchDiffsSpec.pre enc Tryd.prog Tryd.f3 [] false w args ∧ laidMetH Tryd.prog Rows.batchDiffsRow.laid w) ∧ sizedMet enc Tryd.prog Tryd.f3 (OpenSpec.ofChange Rows.batchDiffsSpec) false w args)
      (Rows.batchDiffsSpec.post enc Tryd.prog Tryd.f3 false true false false) := by
  refine returnsInHanded_of_change_and (C := Tryd.checked) (X := fun w _ => laidMetH Tryd.prog Rows.batchDiffsRow.laid w) (fun _ _ _ hh h => h.of_heap hh) own_BatchDiffs started (by kernel_rfl) Tryd.func3
    (ChangeSpec.witness_shaped (enc := enc) (C := Tryd.checked) (os := os) (X := fun w _ => laidMetH Tryd.prog Rows.batchDiffsRow.laid w) false (World.doorLaid Tryd.prog 400 os) #[.int .i64 0, .slice none 0 0, .slice none 0 0] 8 rfl (World.shaped_of_RefB (by kernel_rfl) (by kernel_rfl)) (by kernel_rfl) (by kernel_rfl) (by kernel_rfl) (door_met_BatchDiffs os _)) ?_
  intro W base args ds gs before hval0 hW _ _ hL _
  exact contract_BatchDiffs H enc W base args ds gs before hval0 hW hL
theorem batchDiffs_row_holds : Rows.BatchDiffsSaid :=
  OpenClaim.holds_of_wide 3 Tryd.f3 rfl rfl rfl rfl rfl rfl rfl ⟨rfl, rfl, rfl, rfl, rfl⟩ rfl rfl rfl rfl rfl (by kernel_rfl) Tryd.func3 (by kernel_rfl)
    (of_decide_eq_true (by kernel_rfl)) (by unfold Func.isWrapper; first | (rw [if_pos (by decide +kernel)]; kernel_rfl) | (rw [if_neg (by decide +kernel)]; exact ⟨rfl, rfl⟩))
    (fun os started H enc _ => lifted_BatchDiffs os started H enc)
theorem batchDiffs_holds : Rows.BatchDiffsCardSaid :=
  Claim7.holds_tied_plain_at .later [] [.data] true (true, "d5de45ee5310f763694901b72002aec3523f7ecda2fd719bed45aa60711e0cb0") true
    batchDiffs_row_holds (fun _ h => by cases h) (by kernel_rfl) (fun _ h => by cases h) batchDiffs_row_tie rfl ⟨rfl, rfl⟩ (by kernel_rfl) rfl
    (fun f fn hf hfn => by
      obtain rfl : f = 3 := Option.some.inj ((show Tryd.prog.funcNamed "sparsetree/sparsetreelaw12.BatchDiffs" = some 3 by kernel_rfl).symm.trans hf) |>.symm
      obtain rfl : fn = Tryd.f3 := (Option.some.inj (Tryd.func3.symm.trans hfn)).symm
      exact ⟨by kernel_rfl, fun j t ht => by
        have hm : t ∈ Tryd.f3.params.toList := by
          obtain ⟨hj, he⟩ := Array.getElem?_eq_some_iff.1 ht
          rw [← he]; exact Array.getElem_mem_toList hj
        have ha : (Tryd.f3.params.toList.all fun t => !(Tryd.prog.wantsStandIn t)) = true := by kernel_rfl
        have := List.all_eq_true.1 ha t hm
        have h2 : Tryd.prog.wantsStandIn t = false := by simpa using this
        exact h2⟩)
    (by kernel_rfl)
end Go.Proofs.YtcclagdjpoimaaaDoor
