/- Walks of functions, printed by a program of this session (gen.py) from notes on each function. -/
import Derived.Test.YthdcihakjomagaaDoorG6
set_option maxRecDepth 100000
set_option maxHeartbeats 1000000
set_option linter.unusedVariables false
set_option linter.unusedSimpArgs false
namespace Go.Sp.Tryd
open Go.Proofs Go.RowKit Go.Sp

theorem Vals.sub {m m' : List En} {w : World} (h : Vals m w) (hs : ∀ e ∈ m', e ∈ m) : Vals m' w := fun e he => h e (hs e he)
theorem joinS_cnt (s t : Sh) : (joinS s t).cnt = s.cnt + t.cnt := by cases s <;> cases t <;> simp [joinS, Sh.cnt]
theorem ofM_short {l : List En} {n : Nat} (hkl : KL l) (h : ∀ e ∈ l, e.v.length ≤ n) : ∀ e ∈ ofM l, e.v.length ≤ n := fun e he => h e ((ofM_ok l hkl).2.2.2 e he)


theorem DigestN_c {X : Nat → Prop} {w : World} {bits : Int} {h : Value} {T : Tr} (hX : ∀ b, X b → b < w.heap.size) (hf1 : Rob X (TrA bits T) w) (hne : T ≠ .nil) :
    Ret Tryd.prog 50 [h, T.ptr].toArray w fun v w' => v = .agg (kc (T.er.dig bits)).toArray ∧ Out Nil w w' := by
  cases T with
  | nil => exact absurd rfl hne
  | leaf a k v s => exact DigestAt_c hX (hf1.imp fun _ h => h.2.2.2) (cutI_length _ _)
  | inner a l r => exact DigestAt_c hX (hf1.imp fun _ h => h.2.2) (cutI_length _ _)
theorem Tr.ne_nil {T : Tr} {m : List En} (h : T.er = grow 0 m) (hp : Pm 0 m) (hm : m ≠ []) : T ≠ .nil := fun e => by
  have h1 := congrArg Sh.cnt h
  rw [hp.cnt, e] at h1
  exact hm (List.eq_nil_of_length_eq_zero h1.symm)

end Go.Sp.Tryd
