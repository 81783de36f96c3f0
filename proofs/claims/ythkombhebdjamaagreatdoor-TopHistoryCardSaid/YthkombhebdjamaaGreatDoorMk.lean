/- Part of the proof of this claim: walks through the program's functions and the plain laws that they need, printed by a program of this session. -/
import Derived.Test.YthkombhebdjamaaGreatDoorTwo
namespace Go.Sp
section
variable {X : Nat → Prop} {w0 w w' : World} {O L : List aP} {Ps : List (World → Prop)} {r : Option Nat} {P : Program} {N : Nat} {σ : Env} {ds : List Deferred} {ops : Array Oper} {rest : List Oper} {o : Oper} {K : Env → List Deferred → World → Prop}
theorem WL.XT {t e : TypeId} {zl : List Value} {bytes n : Nat} {x y : Operand} {k0 k : IntKind} (H : St X w0 w O L Ps) (h : o.op = .makeSlice t x y) (ht : lZ P t e zl bytes)
  (hx : ev σ x = .int k0 0) (hy : ev σ y = .int k (n : Int)) (hb : bytes * n ≤ 140737488355328) (hn : n ≤ maxLen) (hw : cH ops σ o = true)
  (kk : ∀ b w', St X w0 w' O (aP.hU w0.heap.size (.slice (some ⟨b, 0, none⟩) 0 n) e zl.length 0 [] :: L) Ps → WL r P N ops rest K (dD N σ o.dst (.slice (some ⟨b, 0, none⟩) 0 n)) ds w') : WL r P N ops (o :: rest) K σ ds w := by
 obtain ⟨z, hz, hc⟩ := gD ht.cells w
 obtain ⟨inf, z', h1, _, _, h2, h3⟩ := ht.info
 have aK4 : n ≤ 9223372036854775807 := hn
 refine WL.val (v := .slice (some ⟨w.heap.size, 0, none⟩) 0 n) (w' := w.alloc (.cells (jM n zl).toArray e)) hw (by unfold eW; rw [h]) ?_ (kk _ _ ?_)
 ·
  have key : (Instr.makeSlice t (.int k0 0) (.int k (n : Int))).run P w = .ok (.slice (some ⟨w.heap.size, 0, none⟩) 0 n) (w.alloc (.cells (jM n zl).toArray e)) := by
   unfold Instr.makeSlice
   have YF : (typeInfo e).run P w = .ok inf w := by simp [typeInfo, h1]
   have hr : (askRoom (n * bytes)).run P w = .ok () w := by
    unfold askRoom
    rw [if_neg]
    ·
     rfl
    ·
     have : roomBytes = 140737488355328 := rfl
     rw [this, Nat.mul_comm]; omega
   have hwr : IntKind.i64.wrap (n : Int) = n := wrap64_in (by omega) (by omega)
   have aID : IntKind.i64.wrap (0 : Int) = 0 := wrap64_in (by omega) (by omega)
   have hai : ∀ (kk : IntKind) (m : Int), (asInt (.int kk m)).run P w = .ok m w := fun kk m => by simp [asInt, asIntOf]
   simp only [Sem.run_bind, run_underlying (bX ht.und), Result.andThen, hai, YF, h3, hwr, aID]
   rw [if_neg (by
    simp
    have e : (bytes : Int) * (n : Int) = ((bytes * n : Nat) : Int) := by push_cast; rfl
    rw [e]; omega)]
   simp only [Sem.run_bind, Int.toNat_natCast, hr, Result.andThen, cU ht.size]
   by_cases h0 : n * zl.length = 0
   ·
    rw [if_pos h0]
    have e1 : jM n zl = [] := List.eq_nil_of_length_eq_zero (by simp [jM, h0])
    have e3 : ∀ f : Nat → Value, (Array.range 0).map f = [].toArray := fun f => Array.eq_empty_of_size_eq_zero (by simp)
    simp only [h0, Sem.run_pure, Result.andThen, Sem.run_bind, e3, kP, e1]
    rfl
   ·
    rw [if_neg h0]
    simp only [Sem.run_bind, hz, Result.andThen, Sem.run_pure, hc, vZ]
    simp only [kP]
    rfl
  simp [execOp, h, hx, hy, key]
 ·
  refine H.push (Out.alloc w _) _ ?_ fun b hb => by (cases hb; exact Nat.le_refl _)
  exact ⟨by simp, .inr ⟨w.heap.size, n, (jM n zl).toArray, rfl, H.size, heap_alloc_new w _, Nat.zero_le _, hn, by simp [jM], by simp⟩⟩
end
end Go.Sp
