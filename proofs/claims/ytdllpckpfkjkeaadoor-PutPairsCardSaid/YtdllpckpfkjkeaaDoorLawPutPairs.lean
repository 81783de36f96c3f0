/- For every input the law PutPairs returns true and each argument reads as before, if the listed package-level variables read as the program text lays them when the call begins; the card ties that to the text. -/
import Derived.Test.YtdllpckpfkjkeaaDoorRows
import Derived.Test.YtdllpckpfkjkeaaDoorCards
import Derived.Test.YtdllpckpfkjkeaaDoorTie
import Derived.Test.YtdllpckpfkjkeaaDoorQi
import Derived.Test.YtdllpckpfkjkeaaDoorOe
import Derived.Test.YtdllpckpfkjkeaaDoorRd
import Derived.Test.YtdllpckpfkjkeaaDoorClose
import Derived.LaidMore
import Derived.Stop.Joined
import Derived.SevenTiedAt
set_option maxRecDepth 100000
set_option linter.unusedVariables false
namespace Go.Proofs.YtdllpckpfkjkeaaDoor
open Go.ChangeShapes Go.WideShapes Go.ChangeAt Go.RowKit Go.Sp
open Go.Sp.Tryd
theorem own_PutPairs : ownKnob Tryd.prog.godebug = none := by kernel_rfl
theorem laid_PutPairs : laidOutB Tryd.prog = true := by kernel_rfl
theorem door_met_PutPairs (os : Os) (args : Array Value) : laidMetH Tryd.prog Rows.putPairsRow.laid ((World.doorLaid Tryd.prog 400 os).forCall (fun _ _ => 0) ⟨#[], args, []⟩).memory :=
  laidMetH_of_parts3 (fuel := 8) (laidMet_of_run' 8 (by kernel_rfl) (by kernel_rfl)) (by kernel_rfl) (by kernel_rfl)
theorem contract_PutPairs (H : Type) (enc : TypeId × Value → H) (W : World) (base : Nat) (args : Array Value) (ds gs : List (DataW H)) (before : List MemPlace)
    (hval : ∀ (j : Nat) t v, Tryd.f4.params[j]? = some t → args[j]? = some v → Value.okWide Tryd.prog W .any base t v)
    (hW : DataW.Whole enc Tryd.prog Tryd.f4.params.toList Rows.putPairsSpec.vars false W args.toList ds gs before) (hL : laidMetH Tryd.prog Rows.putPairsRow.laid W) :
    Calls Tryd.prog 4 args W fun e W' => ∃ v, e = .returned v ∧ Rows.putPairsSpec.post enc Tryd.prog Tryd.f4 false true false false W args v W' := by
  have hR := rounds_of_laid hL
  have hW' := hW
  obtain ⟨p, q, hA0, hV, hpq, hfz, hnd⟩ := hW
  have hA : DataW.TrodAll enc Tryd.prog W 0 (fun _ => true) true Tryd.f4.params.toList args.toList ds p := hA0
  rw [Tryd.params4] at hA hval
  obtain ⟨v0, vs0, d0, ds0, p0, q0, hargs, rfl, rfl, h0, r0⟩ := trodAll_cons hA
  obtain ⟨v1, vs1, d1, ds1, p1, q1, rfl, rfl, rfl, h1, r1⟩ := trodAll_cons r0
  obtain ⟨v2, vs2, d2, ds2, p2, q2, rfl, rfl, rfl, h2, r2⟩ := trodAll_cons r1
  obtain ⟨rfl, rfl, rfl⟩ := trodAll_nil r2
  obtain rfl : args = #[v0, v1, v2] := by cases args; simp_all
  obtain ⟨rfl, rfl⟩ := trodVars_none hV
  obtain ⟨a0, rfl, rfl, rfl, wa0⟩ := open_int (und_of_int TrydT.in3) (hval 0 3 v0 rfl rfl) h0
  have wb0 := bounds_i64 wa0
  obtain ⟨e1, rfl, hk1, hl1, hs1⟩ := open_entry (hval 1 27 v1 rfl rfl) h1
  obtain ⟨e2, rfl, hk2, hl2, hs2⟩ := open_entry (hval 2 27 v2 rfl rfl) h2
  have hh : Ret Tryd.prog 4 [.int .i64 a0, .agg (enC e1).toArray, .agg (enC e2).toArray].toArray W (fun v w' => v = .bool true ∧ Out Nil W w') := by
    by_cases hc : 0 ≤ a0 ∧ a0 ≤ 256
    · exact PutPairs_c (X := Nil) (w := W) (fun _ h => h.elim) hs1 hs2 hR hc hk1 hk2 hl1 hl2
    · exact PutPairsBad_c (X := Nil) (w := W) (fun _ h => h.elim) hs1 hs2 hR hc hk1 hk2 hl1 hl2
  refine (hh).calls.mono fun e W' hh => ?_
  obtain ⟨v, rfl, rfl, hO⟩ := hh
  exact ⟨_, rfl, close_law laid_PutPairs (by rw [Tryd.params4]; intro t ht; simp at ht; first | (rcases ht with rfl | rfl <;> exact ⟨by kernel_rfl, of_decide_eq_true (by kernel_rfl)⟩)) hW' rfl hO.below rfl (und_of_bool TrydT.bo4) rfl rfl rfl⟩
theorem lifted_PutPairs (os : Os) (started : os.Started) (H : Type) (enc : TypeId × Value → H) :
    ReturnsInHanded {} Tryd.checked os 4 .any (fun w args => (Rows.putPairsSpec.pre enc Tryd.prog Tryd.f4 [] false w args ∧ laidMetH Tryd.prog Rows.putPairsRow.laid w) ∧ sizedMet enc Tryd.prog Tryd.f4 (OpenSpec.ofChange Rows.putPairsSpec) false w args)
      (Rows.putPairsSpec.post enc Tryd.prog Tryd.f4 false true false false) := by
  refine returnsInHanded_of_change_and (C := Tryd.checked) (X := fun w _ => laidMetH Tryd.prog Rows.putPairsRow.laid w) (fun _ _ _ hh h => h.of_heap hh) own_PutPairs started (by kernel_rfl) Tryd.func4
    (ChangeSpec.witness_shaped (enc := enc) (C := Tryd.checked) (os := os) (X := fun w _ => laidMetH Tryd.prog Rows.putPairsRow.laid w) false (World.doorLaid Tryd.prog 400 os) #[.int .i64 0, .agg #[.int .u8 0, .int .u8 0, .int .u8 0, .int .u8 0, .int .u8 0, .int .u8 0, .int .u8 0, .int .u8 0, .int .u8 0, .int .u8 0, .int .u8 0, .int .u8 0, .int .u8 0, .int .u8 0, .int .u8 0, .int .u8 0, .int .u8 0, .int .u8 0, .int .u8 0, .int .u8 0, .int .u8 0, .int .u8 0, .int .u8 0, .int .u8 0, .int .u8 0, .int .u8 0, .int .u8 0, .int .u8 0, .int .u8 0, .int .u8 0, .int .u8 0, .int .u8 0, .slice none 0 0], .agg #[.int .u8 0, .int .u8 0, .int .u8 0, .int .u8 0, .int .u8 0, .int .u8 0, .int .u8 0, .int .u8 0, .int .u8 0, .int .u8 0, .int .u8 0, .int .u8 0, .int .u8 0, .int .u8 0, .int .u8 0, .int .u8 0, .int .u8 0, .int .u8 0, .int .u8 0, .int .u8 0, .int .u8 0, .int .u8 0, .int .u8 0, .int .u8 0, .int .u8 0, .int .u8 0, .int .u8 0, .int .u8 0, .int .u8 0, .int .u8 0, .int .u8 0, .int .u8 0, .slice none 0 0]] 8 rfl (World.shaped_of_RefB (by kernel_rfl) (by kernel_rfl)) (by kernel_rfl) (by kernel_rfl) (by kernel_rfl) (door_met_PutPairs os _)) ?_
  intro W base args ds gs before hval0 hW _ _ hL _
  exact contract_PutPairs H enc W base args ds gs before hval0 hW hL
theorem putPairs_row_holds : Rows.PutPairsSaid :=
  OpenClaim.holds_of_wide 4 Tryd.f4 rfl rfl rfl rfl rfl rfl rfl ⟨rfl, rfl, rfl, rfl, rfl⟩ rfl rfl rfl rfl rfl (by kernel_rfl) Tryd.func4 (by kernel_rfl)
    (of_decide_eq_true (by kernel_rfl)) (by unfold Func.isWrapper; first | (rw [if_pos (by decide +kernel)]; kernel_rfl) | (rw [if_neg (by decide +kernel)]; exact ⟨rfl, rfl⟩))
    (fun os started H enc _ => lifted_PutPairs os started H enc)
theorem putPairs_holds : Rows.PutPairsCardSaid :=
  Claim7.holds_tied_plain_at .later [] [.data] true (true, "ed12140ceb8f6bd037b7a18b210a7f619d4b7cd6987206398ed44456b6e0c00f") true
    putPairs_row_holds (fun _ h => by cases h) (by kernel_rfl) (fun _ h => by cases h) putPairs_row_tie rfl ⟨rfl, rfl⟩ (by kernel_rfl) rfl
    (fun f fn hf hfn => by
      obtain rfl : f = 4 := Option.some.inj ((show Tryd.prog.funcNamed "sparsetree/sparsetreelaw09.PutPairs" = some 4 by kernel_rfl).symm.trans hf) |>.symm
      obtain rfl : fn = Tryd.f4 := (Option.some.inj (Tryd.func4.symm.trans hfn)).symm
      exact ⟨by kernel_rfl, fun j t ht => by
        have hm : t ∈ Tryd.f4.params.toList := by
          obtain ⟨hj, he⟩ := Array.getElem?_eq_some_iff.1 ht
          rw [← he]; exact Array.getElem_mem_toList hj
        have ha : (Tryd.f4.params.toList.all fun t => !(Tryd.prog.wantsStandIn t)) = true := by kernel_rfl
        have := List.all_eq_true.1 ha t hm
        have h2 : Tryd.prog.wantsStandIn t = false := by simpa using this
        exact h2⟩)
    (by kernel_rfl)
end Go.Proofs.YtdllpckpfkjkeaaDoor
