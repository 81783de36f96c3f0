/- For every input the law TopHistory returns true and each argument reads as before, if the listed package-level variables read as the program text lays them when the call begins; the card ties that to the text. -/
import Derived.Test.YthkombhebdjamaaGreatDoorRows
import Derived.Test.YthkombhebdjamaaGreatDoorCards
import Derived.Test.YthkombhebdjamaaGreatDoorTie
import Derived.Test.YthkombhebdjamaaGreatDoorP5
import Derived.Test.YthkombhebdjamaaGreatDoorRd
import Derived.Test.YthkombhebdjamaaGreatDoorClose
import Derived.LaidMore
import Derived.Stop.Joined
import Derived.SevenTiedAt
set_option maxRecDepth 100000
set_option linter.unusedVariables false
namespace Go.Proofs.YthkombhebdjamaaGreatDoor
open Go.ChangeShapes Go.WideShapes Go.ChangeAt Go.RowKit Go.Sp
open Go.Sp.Tryz
theorem xP : ownKnob Tryz.prog.godebug = none := by kernel_rfl
theorem vQ : laidOutB Tryz.prog = true := by kernel_rfl
theorem q3 (os : Os) (args : Array Value) : laidMetH Tryz.prog Rows.topHistoryRow.laid ((World.doorLaid Tryz.prog 400 os).forCall (fun _ _ => 0) ⟨#[], args, []⟩).memory :=
  laidMetH_of_parts3 (fuel := 8) (laidMet_of_run' 8 (by kernel_rfl) (by kernel_rfl)) (by kernel_rfl) (by kernel_rfl)
theorem q4 (H : Type) (enc : TypeId × Value → H) (W : World) (base : Nat) (args : Array Value) (ds gs : List (DataW H)) (before : List MemPlace)
    (hval : ∀ (j : Nat) t v, Tryz.f6.params[j]? = some t → args[j]? = some v → Value.okWide Tryz.prog W .any base t v)
    (hW : DataW.Whole enc Tryz.prog Tryz.f6.params.toList Rows.topHistorySpec.vars false W args.toList ds gs before) (hL : laidMetH Tryz.prog Rows.topHistoryRow.laid W) :
    Calls Tryz.prog 6 args W fun e W' => ∃ v, e = .returned v ∧ Rows.topHistorySpec.post enc Tryz.prog Tryz.f6 false true false false W args v W' := by
  have hR := xB hL
  have hE := zV hL
  have hW' := hW
  obtain ⟨p, q, hA0, hV, hpq, hfz, hnd⟩ := hW
  have hA : DataW.TrodAll enc Tryz.prog W 0 (fun _ => true) true Tryz.f6.params.toList args.toList ds p := hA0
  rw [Tryz.params6] at hA hval
  obtain ⟨v0, vs0, d0, ds0, p0, q0, aKA, rfl, rfl, h0, r0⟩ := trodAll_cons hA
  obtain ⟨v1, vs1, d1, ds1, p1, q1, rfl, rfl, rfl, h1, r1⟩ := trodAll_cons r0
  obtain ⟨rfl, rfl, rfl⟩ := trodAll_nil r1
  obtain rfl : args = #[v0, v1] := by cases args; simp_all
  obtain ⟨rfl, rfl⟩ := trodVars_none hV
  obtain ⟨a0, rfl, rfl, rfl, wa0⟩ := open_int (gB TryzT.sZ) (hval 0 3 v0 rfl rfl) h0
  have wb0 := bounds_i64 wa0
  obtain ⟨l1, hl1, hq1, hs1, hv1⟩ := RJ TryzT.M0 (hval 1 22 v1 rfl rfl) h1
  refine (DG (X := Nil) (w := W) (fun _ h => h.elim) hs1 hv1 hR hE hl1 hq1).calls.mono fun e W' hh => ?_
  obtain ⟨v, rfl, rfl, hO⟩ := hh
  exact ⟨_, rfl, OH vQ (by rw [Tryz.params6]; intro t ht; simp at ht; first | (rcases ht with rfl | rfl <;> exact ⟨by kernel_rfl, of_decide_eq_true (by kernel_rfl)⟩) | (rcases ht with rfl | rfl <;> exact ⟨by kernel_rfl, of_decide_eq_true (by kernel_rfl)⟩)) hW' rfl hO.below rfl (mR TryzT.bo4) rfl rfl rfl⟩
theorem sV (os : Os) (started : os.Started) (H : Type) (enc : TypeId × Value → H) :
    ReturnsInHanded {} Tryz.checked os 6 .any (fun w args => (Rows.topHistorySpec.pre enc Tryz.prog Tryz.f6 [] false w args ∧ laidMetH Tryz.prog Rows.topHistoryRow.laid w) ∧ sizedMet enc Tryz.prog Tryz.f6 (OpenSpec.ofChange Rows.topHistorySpec) false w args)
      (Rows.topHistorySpec.post enc Tryz.prog Tryz.f6 false true false false) := by
  refine returnsInHanded_of_change_and (C := Tryz.checked) (X := fun w _ => laidMetH Tryz.prog Rows.topHistoryRow.laid w) (fun _ _ _ hh h => h.of_heap hh) xP started (by kernel_rfl) Tryz.func6
    (ChangeSpec.witness_shaped (enc := enc) (C := Tryz.checked) (os := os) (X := fun w _ => laidMetH Tryz.prog Rows.topHistoryRow.laid w) false (World.doorLaid Tryz.prog 400 os) #[.int .i64 0, .slice none 0 0] 8 rfl (World.shaped_of_RefB (by kernel_rfl) (by kernel_rfl)) (by kernel_rfl) (by kernel_rfl) (by kernel_rfl) (q3 os _)) ?_
  intro W base args ds gs before aEL hW _ _ hL _
  exact q4 H enc W base args ds gs before aEL hW hL
theorem pV : Rows.TopHistorySaid :=
  OpenClaim.holds_of_wide 6 Tryz.f6 rfl rfl rfl rfl rfl rfl rfl ⟨rfl, rfl, rfl, rfl, rfl⟩ rfl rfl rfl rfl rfl (by kernel_rfl) Tryz.func6 (by kernel_rfl)
    (of_decide_eq_true (by kernel_rfl)) (by unfold Func.isWrapper; first | (rw [if_pos (by decide +kernel)]; kernel_rfl) | (rw [if_neg (by decide +kernel)]; exact ⟨rfl, rfl⟩))
    (fun os started H enc _ => sV os started H enc)
theorem topHistory_holds : Rows.TopHistoryCardSaid :=
  Claim7.holds_tied_plain_at .later [] [.handle, .data] true (true, "40e2fceaf9b8ea083805adf3f5d8c1d4e8e3e6194204d307168aa9fd24199c95") true
    pV (fun _ h => by cases h) (by kernel_rfl) (fun _ h => by cases h) topHistory_row_tie rfl ⟨rfl, rfl⟩ (by kernel_rfl) rfl
    (fun f fn hf hfn => by
      obtain rfl : f = 6 := Option.some.inj ((show Tryz.prog.funcNamed "sparsetree/sparsetreetop.TopHistory" = some 6 by kernel_rfl).symm.trans hf) |>.symm
      obtain rfl : fn = Tryz.f6 := (Option.some.inj (Tryz.func6.symm.trans hfn)).symm
      exact ⟨by kernel_rfl, fun j t ht => by
        have hm : t ∈ Tryz.f6.params.toList := by
          obtain ⟨hj, he⟩ := Array.getElem?_eq_some_iff.1 ht
          rw [← he]; exact Array.getElem_mem_toList hj
        have ha : (Tryz.f6.params.toList.all fun t => !(Tryz.prog.wantsStandIn t)) = true := by kernel_rfl
        have := List.all_eq_true.1 ha t hm
        have h2 : Tryz.prog.wantsStandIn t = false := by simpa using this
        exact h2⟩)
    (by kernel_rfl)
end Go.Proofs.YthkombhebdjamaaGreatDoor
