/- Part of the proof of this claim: walks through the program's functions and the plain laws that they need, printed by a program of this session. -/
import Derived.Test.YthkombhebdjamaaGreatDoorRng
import Derived.Test.YthkombhebdjamaaGreatDoorMore
import Derived.Laws.Strings
import Derived.Laws.RangeAny
import Derived.Lib.OthersKept
import Derived.Lib.Builder
namespace Go.Sp
open Go.RowKit
def pW (l : List UInt8) : Value := .string ⟨l.toArray⟩
section
variable {P : Program} {σ : Env} {o : Oper} {t u : TypeId} {x y z : Operand}
end
section
variable {r : Option Nat} {P : Program} {N : Nat} {σ : Env} {ds : List Deferred} {w : World} {ops : Array Oper} {o : Oper} {rest : List Oper} {K : Env → List Deferred → World → Prop}
variable {X : Nat → Prop} {w0 : World} {O L : List aP} {Ps : List (World → Prop)}
theorem WL.aCW {dst : Option Tmp} {t e ty : TypeId} {x : Operand} {pos : String} {after : Array Edge} {guard : Option (Nat × Bool)} {b oo n c sz : Nat} {et : TypeId} {l zl : List Value}
  (H : St X w0 w O L Ps) (i : Nat) (ht : c8 P t = some e) (hz : cM P e = some zl) (h1 : eN zl) (hzs : zl.length = sz) (hx : ev σ x = .slice (some ⟨b, oo, none⟩) n c) (hi : O[i]? = some (aP.blk b et l)) (hn : 0 < n) (hl : oo + n * sz ≤ l.length)
  (hw : cH ops σ ⟨dst, .call ⟨.builtin .clear, [x].toArray, [t].toArray⟩, ty, pos, after, guard⟩ = true)
  (k : ∀ w' new, new.length = n * sz → St X w0 w' (O.set i (aP.blk b et (l.take oo ++ new ++ l.drop (oo + n * sz)))) L Ps → WL r P N ops rest K (dD N σ dst (.tuple [].toArray)) ds w') : WL r P N ops (⟨dst, .call ⟨.builtin .clear, [x].toArray, [t].toArray⟩, ty, pos, after, guard⟩ :: rest) K σ ds w := by
 obtain ⟨z, hzv, V5⟩ := gD hz w
 obtain ⟨new, aCp⟩ : ∃ new, new = (Builtin.zeroCells z.cells n).toList := ⟨_, rfl⟩
 have hnl : new.length = n * sz := by rw [aCp, V5]; simp [Builtin.zeroCells, hzs]
 have hno : eN new := fun v hv => by
  rw [aCp, V5] at hv
  simp only [Builtin.zeroCells, Array.toList_map, List.mem_map] at hv
  obtain ⟨j, _, rfl⟩ := hv
  by_cases hj : j % zl.toArray.size < zl.toArray.size
  ·
   rw [getElem!_pos zl.toArray _ hj]
   exact h1 _ (by simp)
  ·
   have h0 : zl.toArray.size = 0 := by
    rcases Nat.eq_zero_or_pos zl.toArray.size with h | h
    ·
     exact h
    ·
     exact absurd (Nat.mod_lt _ h) hj
   rw [getElem!_neg zl.toArray _ hj]; rfl
 have hb := H.o i hi
 have rR : Laid l oo new (l.take oo ++ new ++ l.drop (oo + n * sz)) := ⟨by rw [hnl]; exact hl, by rw [hnl]⟩
 have hst := run_storeCells_at P b oo et new 0 l.toArray w hb (by simpa using rR.1) hno
 obtain ⟨m, rfl⟩ : ∃ m, n = m + 1 := ⟨n - 1, by omega⟩
 have hr : (Builtin.clear_ #[t] ty #[.slice (some ⟨b, oo, none⟩) (m + 1) c]).run P w = .ok (.tuple #[]) (w.setRow b (l.take oo ++ new ++ l.drop (oo + (m + 1) * sz)).toArray) := by
  simp only [Builtin.clear_]
  simp [run_underlying (bX ht), hzv, ← aCp, hst, hnl]
 have e : ([x].toArray.map (ev σ)) = #[Value.slice (some ⟨b, oo, none⟩) (m + 1) c] := by simp [hx]
 refine WL.val (v := .tuple [].toArray) (w' := w.setRow b (l.take oo ++ new ++ l.drop (oo + (m + 1) * sz)).toArray) hw rfl ?_ (k _ new hnl ?_)
 ·
  have e2 : ∀ cs, (Go.invoke (Target.builtin .clear #[t] ty cs) #[Value.slice (some ⟨b, oo, none⟩) (m + 1) c]).run P w = .ok (.value (.tuple #[])) (w.setRow b (l.take oo ++ new ++ l.drop (oo + (m + 1) * sz)).toArray) := fun cs => by
   show (do pure (Next.value (← Builtin.clear_ #[t] ty #[Value.slice (some ⟨b, oo, none⟩) (m + 1) c])) : Sem Next).run P w = _
   rw [Sem.run_bind, hr]; rfl
  simpa [execOp, resolve, hx] using e2 _
 ·
  exact H.vP hi Out.setRow _ (setRow_heap w b _ _ et _ hb) fun _ => Iff.rfl
end
theorem PV.vJ {P : Program} {σ : Env} {o : Oper} {t e : TypeId} {x : Operand} {a : Addr} {n c : Nat} (h : o.op = .sliceToArrayPointer t x) (ht : eV P t = some (n, e)) (hx : ev σ x = .slice (some a) n c) : PV P σ o (.pointer (some a)) := fun w => by
 simp [execOp, h, hx, Instr.arrayAt, run_underlying (eR ht)]
section
variable {r : Option Nat} {P : Program} {N : Nat} {σ : Env} {ds : List Deferred} {w : World} {ops : Array Oper} {o : Oper} {rest : List Oper} {K : Env → List Deferred → World → Prop}
theorem sH {b : Nat} {e : TypeId} {l : List Value} (hb : aN w b e l) : w.shape? b = some (e, l.length) := by
 unfold aN at hb
 simp [World.shape?, hb]
end
end Go.Sp
