/- Walks of functions, printed by a program of this session (gen.py) from notes on each function. -/
import Derived.Test.YtcfkkhljekopgaaDoorPb
set_option maxRecDepth 100000
set_option maxHeartbeats 1000000
set_option linter.unusedVariables false
set_option linter.unusedSimpArgs false
namespace Go.Sp.Tryd
open Go.Proofs Go.RowKit Go.Sp
theorem CloneO_c {X : Nat → Prop} {w : World} {a : Value} {la : List UInt8} (hX : ∀ b, X b → b < w.heap.size) (hf0 : Rob X (SlB a la) w) (hla : la.length ≤ 70368744177664) :
    Ret Tryd.prog 75 [a].toArray w fun v w' => Out Nil w w' ∧ w'.ownsRow w.heap.size 5 1 v la.length (kc la) := by
  refine Ret.of_body (N := 8) Tryd.func75 rfl rfl (by simp) ?_
  have H := St.begin hX
  replace H := H.add (rob0 hf0)
  refine WE.seq_reg ?_
  refine WL.as rfl rfl ?_
  refine WL.nil ?_
  refine WE.seq ?_
  refine WE.seq_reg ?_
  refine WL.mv rfl rfl ?_
  refine WL.pv (PV.eqlSn rfl (H.p 0 rfl) TrydT.sl33 rfl rfl) rfl ?_
  refine WL.nil ?_
  refine WE.cond rfl (fun hc4 => ?_) (fun hc4 => ?_)
  · skip
    try simp only [decide_eq_true_eq, decide_eq_false_iff_not, ne_eq, Decidable.not_not, Bool.not_eq_true', Bool.not_eq_false', Bool.and_eq_true, Bool.or_eq_true, Bool.not_not, Bool.and_eq_false_iff, Bool.or_eq_false_iff, Int.not_lt, Int.not_le] at hc4
    have h0 : la = [] := List.eq_nil_of_length_eq_zero (SlC.nilLen (H.p 0 rfl) hc4)
    subst h0
    refine WE.seq_reg ?_
    refine WL.as rfl rfl ?_
    refine WL.nil ?_
    refine WE.ret ?_
    refine ⟨[_], _, .nil _, ⟨rfl, trivial⟩, ?_⟩
    exact ⟨H.toOut0, World.ownsRow_nil _ _ _ _⟩
  · skip
    try simp only [decide_eq_true_eq, decide_eq_false_iff_not, ne_eq, Decidable.not_not, Bool.not_eq_true', Bool.not_eq_false', Bool.and_eq_true, Bool.or_eq_true, Bool.not_not, Bool.and_eq_false_iff, Bool.or_eq_false_iff, Int.not_lt, Int.not_le] at hc4
    refine WE.skip ?_
    refine WE.seq_reg ?_
    refine WL.buildSliceF (l0 := []) H rfl TrydT.st33 (by decide) (zrow_one _ _) Fl.nil rfl ?_
    intro b5 w1 H
    replace H := H.toOsl (n := 0) (sz := 1) (i := 0) rfl rfl (by decide)
    refine WL.mv rfl rfl ?_
    refine WL.append H 0 TrydT.st33 (by decide) rfl rfl rfl (H.p 0 rfl) (by exact kc_one _) (by omega) (by decide) rfl ?_
    intro v7 w2 H
    refine WL.as rfl rfl ?_
    refine WL.nil ?_
    refine WE.ret ?_
    refine ⟨[_], _, .nil _, ⟨rfl, trivial⟩, ?_⟩
    exact ⟨H.toOut0, by have := H.l 0 rfl; rw [Nat.zero_add] at this; exact this⟩


theorem Clone_c {X : Nat → Prop} {w : World} {a : Value} {la : List UInt8} (hX : ∀ b, X b → b < w.heap.size) (hf0 : Rob X (SlB a la) w) (hla : la.length ≤ 70368744177664) :
    Ret Tryd.prog 75 [a].toArray w fun v w' => Out Nil w w' ∧ Rob X (SlB v la) w' :=
  (CloneO_c hX hf0 hla).mono fun v w' ⟨hO, h⟩ => ⟨hO, (rob_own hX h).imp fun _ h => SlB.of_own h⟩

end Go.Sp.Tryd
