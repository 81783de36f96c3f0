/- For every input the law WalkNth returns true and each argument reads as before, if the listed package-level variables read as the program text lays them when the call begins; the card ties that to the text. -/
import Derived.Test.YthdcihakjomagaaDoorRows
import Derived.Test.YthdcihakjomagaaDoorCards
import Derived.Test.YthdcihakjomagaaDoorTie
import Derived.Test.YthdcihakjomagaaDoorGB
import Derived.Test.YthdcihakjomagaaDoorOe
import Derived.Test.YthdcihakjomagaaDoorRd
import Derived.Test.YthdcihakjomagaaDoorClose
import Derived.LaidMore
import Derived.Stop.Joined
import Derived.SevenTiedAt
set_option maxRecDepth 100000
set_option linter.unusedVariables false
namespace Go.Proofs.YthdcihakjomagaaDoor
open Go.ChangeShapes Go.WideShapes Go.ChangeAt Go.RowKit Go.Sp
open Go.Sp.Tryd
theorem own_WalkNth : ownKnob Tryd.prog.godebug = none := by kernel_rfl
theorem laid_WalkNth : laidOutB Tryd.prog = true := by kernel_rfl
theorem door_met_WalkNth (os : Os) (args : Array Value) : laidMetH Tryd.prog Rows.walkNthRow.laid ((World.doorLaid Tryd.prog 400 os).forCall (fun _ _ => 0) ⟨#[], args, []⟩).memory :=
  laidMetH_of_parts3 (fuel := 8) (laidMet_of_run' 8 (by kernel_rfl) (by kernel_rfl)) (by kernel_rfl) (by kernel_rfl)
theorem contract_WalkNth (H : Type) (enc : TypeId × Value → H) (W : World) (base : Nat) (args : Array Value) (ds gs : List (DataW H)) (before : List MemPlace)
    (hval : ∀ (j : Nat) t v, Tryd.f7.params[j]? = some t → args[j]? = some v → Value.okWide Tryd.prog W .any base t v)
    (hW : DataW.Whole enc Tryd.prog Tryd.f7.params.toList Rows.walkNthSpec.vars false W args.toList ds gs before) (hL : laidMetH Tryd.prog Rows.walkNthRow.laid W) :
    Calls Tryd.prog 7 args W fun e W' => ∃ v, e = .returned v ∧ Rows.walkNthSpec.post enc Tryd.prog Tryd.f7 false true false false W args v W' := by
  have hR := rounds_of_laid hL
  have hW' := hW
  obtain ⟨p, q, hA0, hV, hpq, hfz, hnd⟩ := hW
  have hA : DataW.TrodAll enc Tryd.prog W 0 (fun _ => true) true Tryd.f7.params.toList args.toList ds p := hA0
  rw [Tryd.params7] at hA hval
  obtain ⟨v0, vs0, d0, ds0, p0, q0, hargs, rfl, rfl, h0, r0⟩ := trodAll_cons hA
  obtain ⟨v1, vs1, d1, ds1, p1, q1, rfl, rfl, rfl, h1, r1⟩ := trodAll_cons r0
  obtain ⟨v2, vs2, d2, ds2, p2, q2, rfl, rfl, rfl, h2, r2⟩ := trodAll_cons r1
  obtain ⟨rfl, rfl, rfl⟩ := trodAll_nil r2
  obtain rfl : args = #[v0, v1, v2] := by cases args; simp_all
  obtain ⟨rfl, rfl⟩ := trodVars_none hV
  obtain ⟨a0, rfl, rfl, rfl, wa0⟩ := open_int (und_of_int TrydT.in3) (hval 0 3 v0 rfl rfl) h0
  have wb0 := bounds_i64 wa0
  obtain ⟨l1, hl1, hkl1, hvl1, hs1, hv1⟩ := open_entries TrydT.sl22 (hval 1 22 v1 rfl rfl) h1
  obtain ⟨a2, rfl, rfl, rfl, wa2⟩ := open_int (und_of_int TrydT.in3) (hval 2 3 v2 rfl rfl) h2
  have wb2 := bounds_i64 wa2
  refine (WalkNth_c (X := Nil) (w := W) (fun _ h => h.elim) hs1 hv1 hR hkl1 hl1 hvl1).calls.mono fun e W' hh => ?_
  obtain ⟨v, rfl, rfl, hO⟩ := hh
  exact ⟨_, rfl, close_law laid_WalkNth (by rw [Tryd.params7]; intro t ht; simp at ht; first | (rcases ht with rfl | rfl <;> exact ⟨by kernel_rfl, of_decide_eq_true (by kernel_rfl)⟩) | (rcases ht with rfl | rfl | rfl <;> exact ⟨by kernel_rfl, of_decide_eq_true (by kernel_rfl)⟩)) hW' rfl hO.below rfl (und_of_bool TrydT.bo4) rfl rfl rfl⟩
theorem lifted_WalkNth (os : Os) (started : os.Started) (H : Type) (enc : TypeId × Value → H) :
    ReturnsInHanded {} Tryd.checked os 7 .any (fun w args => (Rows.walkNthSpec.pre enc Tryd.prog Tryd.f7 [] false w args ∧ laidMetH Tryd.prog Rows.walkNthRow.laid w) ∧ sizedMet enc Tryd.prog Tryd.f7 (OpenSpec.ofChange Rows.walkNthSpec) false w args)
      (Rows.walkNthSpec.post enc Tryd.prog Tryd.f7 false true false false) := by
  refine returnsInHanded_of_change_and (C := Tryd.checked) (X := fun w _ => laidMetH Tryd.prog Rows.walkNthRow.laid w) (fun _ _ _ hh h => h.of_heap hh) own_WalkNth started (by kernel_rfl) Tryd.func7
    (ChangeSpec.witness_shaped (enc := enc) (C := Tryd.checked) (os := os) (X := fun w _ => laidMetH Tryd.prog Rows.walkNthRow.laid w) false (World.doorLaid Tryd.prog 400 os) #[.int .i64 0, .slice none 0 0, .int .i64 0] 8 rfl (World.shaped_of_RefB (by kernel_rfl) (by kernel_rfl)) (by kernel_rfl) (by kernel_rfl) (by kernel_rfl) (door_met_WalkNth os _)) ?_
  intro W base args ds gs before hval0 hW _ _ hL _
  exact contract_WalkNth H enc W base args ds gs before hval0 hW hL
theorem walkNth_row_holds : Rows.WalkNthSaid :=
  OpenClaim.holds_of_wide 7 Tryd.f7 rfl rfl rfl rfl rfl rfl rfl ⟨rfl, rfl, rfl, rfl, rfl⟩ rfl rfl rfl rfl rfl (by kernel_rfl) Tryd.func7 (by kernel_rfl)
    (of_decide_eq_true (by kernel_rfl)) (by unfold Func.isWrapper; first | (rw [if_pos (by decide +kernel)]; kernel_rfl) | (rw [if_neg (by decide +kernel)]; exact ⟨rfl, rfl⟩))
    (fun os started H enc _ => lifted_WalkNth os started H enc)
theorem walkNth_holds : Rows.WalkNthCardSaid :=
  Claim7.holds_tied_plain_at .later [] [.data] true (true, "ab15c2484292e85209be64b01f7862d873b82ecbe6af0c4cfe148f30f2421f92") true
    walkNth_row_holds (fun _ h => by cases h) (by kernel_rfl) (fun _ h => by cases h) walkNth_row_tie rfl ⟨rfl, rfl⟩ (by kernel_rfl) rfl
    (fun f fn hf hfn => by
      obtain rfl : f = 7 := Option.some.inj ((show Tryd.prog.funcNamed "sparsetree/sparsetreelaw11.WalkNth" = some 7 by kernel_rfl).symm.trans hf) |>.symm
      obtain rfl : fn = Tryd.f7 := (Option.some.inj (Tryd.func7.symm.trans hfn)).symm
      exact ⟨by kernel_rfl, fun j t ht => by
        have hm : t ∈ Tryd.f7.params.toList := by
          obtain ⟨hj, he⟩ := Array.getElem?_eq_some_iff.1 ht
          rw [← he]; exact Array.getElem_mem_toList hj
        have ha : (Tryd.f7.params.toList.all fun t => !(Tryd.prog.wantsStandIn t)) = true := by kernel_rfl
        have := List.all_eq_true.1 ha t hm
        have h2 : Tryd.prog.wantsStandIn t = false := by simpa using this
        exact h2⟩)
    (by kernel_rfl)
end Go.Proofs.YthdcihakjomagaaDoor
