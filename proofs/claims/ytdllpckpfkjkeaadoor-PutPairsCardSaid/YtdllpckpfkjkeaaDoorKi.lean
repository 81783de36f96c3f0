/- Walks of functions, printed by a program of this session (gen.py) from notes on each function. -/
import Derived.Test.YtdllpckpfkjkeaaDoorKh
set_option maxRecDepth 100000
set_option maxHeartbeats 1000000
set_option linter.unusedVariables false
set_option linter.unusedSimpArgs false
namespace Go.Sp.Tryd
open Go.Proofs Go.RowKit Go.Sp

theorem grow08 (s1 s2 : Value) : grow 0 [En.mk (List.replicate 32 0) s1 [1], En.mk ((List.replicate 32 0).set 0 128) s2 [2]] = .inner (.leaf (List.replicate 32 0) [1]) (.leaf ((List.replicate 32 0).set 0 128) [2]) := by kernel_rfl
theorem pm08 (s1 s2 : Value) : Pm 0 [En.mk (List.replicate 32 0) s1 [1], En.mk ((List.replicate 32 0).set 0 128) s2 [2]] :=
  Pm.zero (fun e he => by simp at he; rcases he with rfl | rfl <;> rfl) (by simp [List.pairwise_cons]; decide)
theorem pm08a (s1 : Value) : Pm 0 [En.mk (List.replicate 32 0) s1 [1]] :=
  Pm.zero (fun e he => by simp at he; subst he; rfl) (by simp)
def T08 (a a1 a2 : Nat) (s1 s2 : Value) : Tr := .inner a (.leaf a1 (List.replicate 32 0) [1] s1) (.leaf a2 ((List.replicate 32 0).set 0 128) [2] s2)
theorem fit08 (a a1 a2 : Nat) (s1 s2 : Value) : (T08 a a1 a2 s1 s2).er.fit 0 := ⟨by decide, trivial, trivial⟩
theorem dp08 (a a1 a2 : Nat) (s1 s2 : Value) : (T08 a a1 a2 s1 s2).dp (List.replicate 32 0) 0 = 1 := by kernel_rfl
theorem dp08b (a a1 a2 : Nat) (s1 s2 : Value) : (T08 a a1 a2 s1 s2).dp ((List.replicate 32 0).set 0 128) 0 = 1 := by kernel_rfl
theorem fin08 (a a1 a2 : Nat) (s1 s2 : Value) : (T08 a a1 a2 s1 s2).fin (List.replicate 32 0) = .leaf a1 (List.replicate 32 0) [1] s1 := by kernel_rfl
theorem fin08b (a a1 a2 : Nat) (s1 s2 : Value) : (T08 a a1 a2 s1 s2).fin ((List.replicate 32 0).set 0 128) = .leaf a2 ((List.replicate 32 0).set 0 128) [2] s2 := by kernel_rfl
theorem get08 (a a1 a2 : Nat) (s1 s2 : Value) : (T08 a a1 a2 s1 s2).getV ((List.replicate 32 0).set 0 128) = some [2] := by unfold Tr.getV; rw [fin08b]; rfl
theorem get08n (a a1 a2 : Nat) (s1 s2 : Value) : (T08 a a1 a2 s1 s2).getV ((List.replicate 32 0).set 0 129) = none := by
  have h : (T08 a a1 a2 s1 s2).fin ((List.replicate 32 0).set 0 129) = .leaf a2 ((List.replicate 32 0).set 0 128) [2] s2 := by kernel_rfl
  unfold Tr.getV; rw [h]
  exact if_neg (by decide)
theorem und08 (a a1 a2 : Nat) (s1 s2 : Value) : (T08 a a1 a2 s1 s2).und ((List.replicate 32 0).set 0 128) 256 = .leaf a2 ((List.replicate 32 0).set 0 128) [2] s2 := by
  unfold Tr.und
  rw [dp08b, if_neg (by decide), fin08b, if_neg]
  rintro ⟨_, h⟩
  have := (comN_full (a := ((List.replicate 32 0).set 0 128)) (b := ((List.replicate 32 0).set 0 128)) (by decide) (by decide)).2 rfl
  exact absurd (show comN ((List.replicate 32 0).set 0 128) ((List.replicate 32 0).set 0 128) < 256 from h) (by omega)
theorem T08_of {T : Tr} {s1 s2 : Value} (h : T.er = grow 0 [En.mk (List.replicate 32 0) s1 [1], En.mk ((List.replicate 32 0).set 0 128) s2 [2]]) : ∃ a a1 a2 t1 t2, T = T08 a a1 a2 t1 t2 := by
  rw [grow08] at h
  obtain ⟨a, l, r, rfl, h1, h2⟩ := Tr.inner_of h
  obtain ⟨a1, t1, rfl⟩ := Tr.leaf_of h1
  obtain ⟨a2, t2, rfl⟩ := Tr.leaf_of h2
  exact ⟨a, a1, a2, t1, t2, rfl⟩

end Go.Sp.Tryd
