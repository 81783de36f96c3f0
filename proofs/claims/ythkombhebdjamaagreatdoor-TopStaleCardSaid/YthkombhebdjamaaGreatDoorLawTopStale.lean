/- For every input the law TopStale returns true and each argument reads as before, if the listed package-level variables read as the program text lays them when the call begins; the card ties that to the text. -/
import Derived.Test.YthkombhebdjamaaGreatDoorRows
import Derived.Test.YthkombhebdjamaaGreatDoorCards
import Derived.Test.YthkombhebdjamaaGreatDoorTie
import Derived.Test.YthkombhebdjamaaGreatDoorP5
import Derived.Test.YthkombhebdjamaaGreatDoorRd
import Derived.Test.YthkombhebdjamaaGreatDoorClose
import Derived.LaidMore
import Derived.Stop.Joined
import Derived.SevenTiedAt
set_option maxRecDepth 100000
set_option linter.unusedVariables false
namespace Go.Proofs.YthkombhebdjamaaGreatDoor
open Go.ChangeShapes Go.WideShapes Go.ChangeAt Go.RowKit Go.Sp
open Go.Sp.Tryz
theorem BC : ownKnob Tryz.prog.godebug = none := by kernel_rfl
theorem yR : laidOutB Tryz.prog = true := by kernel_rfl
theorem sL (os : Os) (args : Array Value) : laidMetH Tryz.prog Rows.topStaleRow.laid ((World.doorLaid Tryz.prog 400 os).forCall (fun _ _ => 0) ⟨#[], args, []⟩).memory :=
  laidMetH_of_parts3 (fuel := 8) (laidMet_of_run' 8 (by kernel_rfl) (by kernel_rfl)) (by kernel_rfl) (by kernel_rfl)
theorem sM (H : Type) (enc : TypeId × Value → H) (W : World) (base : Nat) (args : Array Value) (ds gs : List (DataW H)) (before : List MemPlace)
    (hval : ∀ (j : Nat) t v, Tryz.f4.params[j]? = some t → args[j]? = some v → Value.okWide Tryz.prog W .any base t v)
    (hW : DataW.Whole enc Tryz.prog Tryz.f4.params.toList Rows.topStaleSpec.vars false W args.toList ds gs before) (hL : laidMetH Tryz.prog Rows.topStaleRow.laid W) :
    Calls Tryz.prog 4 args W fun e W' => ∃ v, e = .returned v ∧ Rows.topStaleSpec.post enc Tryz.prog Tryz.f4 false true false false W args v W' := by
  have hR := vZ hL
  have hE := yX hL
  have hW' := hW
  obtain ⟨p, q, hA0, hV, hpq, hfz, hnd⟩ := hW
  have hA : DataW.TrodAll enc Tryz.prog W 0 (fun _ => true) true Tryz.f4.params.toList args.toList ds p := hA0
  rw [Tryz.params4] at hA hval
  obtain ⟨v0, vs0, d0, ds0, p0, q0, aI1, rfl, rfl, h0, r0⟩ := trodAll_cons hA
  obtain ⟨v1, vs1, d1, ds1, p1, q1, rfl, rfl, rfl, h1, r1⟩ := trodAll_cons r0
  obtain ⟨v2, vs2, d2, ds2, p2, q2, rfl, rfl, rfl, h2, r2⟩ := trodAll_cons r1
  obtain ⟨rfl, rfl, rfl⟩ := trodAll_nil r2
  obtain rfl : args = #[v0, v1, v2] := by cases args; simp_all
  obtain ⟨rfl, rfl⟩ := trodVars_none hV
  obtain ⟨a0, rfl, rfl, rfl, wa0⟩ := open_int (fD TryzT.yD) (hval 0 3 v0 rfl rfl) h0
  have wb0 := bounds_i64 wa0
  obtain ⟨l1, hl1, hq1, hs1, hv1⟩ := PD TryzT.AZ (hval 1 22 v1 rfl rfl) h1
  obtain ⟨s2, l2, k2, rfl, CL, hl2, LX, hs2, hv2⟩ := BD TryzT.AZ (by kernel_rfl) (by kernel_rfl) (by kernel_rfl) TryzT.aIF (hval 2 52 v2 rfl rfl) h2
  refine (HW (k := k2) (X := Nil) (w := W) (fun _ h => h.elim) hs1 hv1 hs2 hv2 hR hE hl1 hq1 hl2 LX CL).calls.mono fun e W' hh => ?_
  obtain ⟨v, rfl, rfl, hO⟩ := hh
  exact ⟨_, rfl, MM yR (by rw [Tryz.params4]; intro t ht; simp at ht; first | (rcases ht with rfl | rfl | rfl <;> exact ⟨by kernel_rfl, of_decide_eq_true (by kernel_rfl)⟩) | (rcases ht with rfl | rfl | rfl <;> exact ⟨by kernel_rfl, of_decide_eq_true (by kernel_rfl)⟩)) hW' rfl hO.below rfl (l4 TryzT.bo4) rfl rfl rfl⟩
theorem uY (os : Os) (started : os.Started) (H : Type) (enc : TypeId × Value → H) :
    ReturnsInHanded {} Tryz.checked os 4 .any (fun w args => (Rows.topStaleSpec.pre enc Tryz.prog Tryz.f4 [] false w args ∧ laidMetH Tryz.prog Rows.topStaleRow.laid w) ∧ sizedMet enc Tryz.prog Tryz.f4 (OpenSpec.ofChange Rows.topStaleSpec) false w args)
      (Rows.topStaleSpec.post enc Tryz.prog Tryz.f4 false true false false) := by
  refine returnsInHanded_of_change_and (C := Tryz.checked) (X := fun w _ => laidMetH Tryz.prog Rows.topStaleRow.laid w) (fun _ _ _ hh h => h.of_heap hh) BC started (by kernel_rfl) Tryz.func4
    (ChangeSpec.witness_shaped (enc := enc) (C := Tryz.checked) (os := os) (X := fun w _ => laidMetH Tryz.prog Rows.topStaleRow.laid w) false (World.doorLaid Tryz.prog 400 os) #[.int .i64 0, .slice none 0 0, .agg #[.slice none 0 0, .int .u8 0, .int .u8 0, .int .u8 0, .int .u8 0, .int .u8 0, .int .u8 0, .int .u8 0, .int .u8 0, .int .u8 0, .int .u8 0, .int .u8 0, .int .u8 0, .int .u8 0, .int .u8 0, .int .u8 0, .int .u8 0, .int .u8 0, .int .u8 0, .int .u8 0, .int .u8 0, .int .u8 0, .int .u8 0, .int .u8 0, .int .u8 0, .int .u8 0, .int .u8 0, .int .u8 0, .int .u8 0, .int .u8 0, .int .u8 0, .int .u8 0, .int .u8 0]] 8 rfl (World.shaped_of_RefB (by kernel_rfl) (by kernel_rfl)) (by kernel_rfl) (by kernel_rfl) (by kernel_rfl) (sL os _)) ?_
  intro W base args ds gs before aDy hW _ _ hL _
  exact sM H enc W base args ds gs before aDy hW hL
theorem qT : Rows.TopStaleSaid :=
  OpenClaim.holds_of_wide 4 Tryz.f4 rfl rfl rfl rfl rfl rfl rfl ⟨rfl, rfl, rfl, rfl, rfl⟩ rfl rfl rfl rfl rfl (by kernel_rfl) Tryz.func4 (by kernel_rfl)
    (of_decide_eq_true (by kernel_rfl)) (by unfold Func.isWrapper; first | (rw [if_pos (by decide +kernel)]; kernel_rfl) | (rw [if_neg (by decide +kernel)]; exact ⟨rfl, rfl⟩))
    (fun os started H enc _ => uY os started H enc)
theorem topStale_holds : Rows.TopStaleCardSaid :=
  Claim7.holds_tied_plain_at .later [] [.handle, .data] true (true, "40e2fceaf9b8ea083805adf3f5d8c1d4e8e3e6194204d307168aa9fd24199c95") true
    qT (fun _ h => by cases h) (by kernel_rfl) (fun _ h => by cases h) topStale_row_tie rfl ⟨rfl, rfl⟩ (by kernel_rfl) rfl
    (fun f fn hf hfn => by
      obtain rfl : f = 4 := Option.some.inj ((show Tryz.prog.funcNamed "sparsetree/sparsetreetop.TopStale" = some 4 by kernel_rfl).symm.trans hf) |>.symm
      obtain rfl : fn = Tryz.f4 := (Option.some.inj (Tryz.func4.symm.trans hfn)).symm
      exact ⟨by kernel_rfl, fun j t ht => by
        have hm : t ∈ Tryz.f4.params.toList := by
          obtain ⟨hj, he⟩ := Array.getElem?_eq_some_iff.1 ht
          rw [← he]; exact Array.getElem_mem_toList hj
        have ha : (Tryz.f4.params.toList.all fun t => !(Tryz.prog.wantsStandIn t)) = true := by kernel_rfl
        have := List.all_eq_true.1 ha t hm
        have h2 : Tryz.prog.wantsStandIn t = false := by simpa using this
        exact h2⟩)
    (by kernel_rfl)
end Go.Proofs.YthkombhebdjamaaGreatDoor
