/- Part of the proof of this claim: walks through the program's functions and the plain laws that they need, printed by a program of this session. -/
import Derived.Test.YthkombhebdjamaaGreatDoorRules
import Derived.Scope
import Derived.LaidEql
import Derived.ControlIn
namespace Go.Sp
open Go.RowKit
section
variable {P : Program} {a : Act} {w : World} {F : Fence} {n : Nat} {Q : Exit → Act → World → Prop}
end
section
variable {r : Option Nat} {P : Program} {N : Nat} {σ : Env} {ds : List Deferred} {w : World} {Q : EPost}
end
section
variable {P : Program} {σ : Env} {o : Oper} {t u e : TypeId} {x y : Operand}
theorem PV.DX {s : ByteArray} {i : Nat} {b : UInt8} {k : IntKind} (h : o.op = .index t x y) (ht : P.underlying t = some .string) (hx : ev σ x = .string s) (hy : ev σ y = .int k (i : Int)) (hb : s[i]? = some b) : PV P σ o (.int .u8 (b.toNat : Int)) := fun w => by
 have key : (Instr.index t (.string s) (.int k (i : Int))).run P w = .ok (.int .u8 (b.toNat : Int)) w := by
  unfold Instr.index
  simp only [Sem.run_bind, asIntOf, Sem.run_pure, Result.andThen, run_underlying ht]
  rw [if_pos (by omega)]
  simp [hb]
 simp [execOp, h, hx, hy, key]
end
theorem dW {v : Value} (h : v.oneCell' = true) : eF [v] := bE _ (by simp [h])
section
variable {X : Nat → Prop} {w0 w : World} {O L : List aN} {Ps : List (World → Prop)}
theorem St.lI (H : St X w0 w O L Ps) (i j : Nat) {b : Nat} {t : TypeId} {l : List Value} {e : aN} (hi : L[i]? = some (aN.blk b t l)) (hj : L[j]? = some e) (hij : i ≠ j) : aH (fun c => c = b) e.ok w := fun w' hw =>
 e.loc w w' (fun x hx => hw x (e.lt w (H.l j hj) x hx) fun hxb => eS H.gW hij hi hj x ⟨hxb, hx⟩) (H.l j hj)
theorem St.CU (_ : St X w0 w O L Ps) {b : Nat} {t : TypeId} {l : List Value} {p : World → Prop} (hO : Out (fun c => ∃ e ∈ O, e.fp c) w0 w) (hp : aH (fun c => c = b) p w0) (hOb : O = [aN.blk b t l]) : aH (fun c => c = b) p w :=
 hp.out hO (fun c _ ⟨e, he, h⟩ => by subst hOb; cases List.mem_singleton.1 he; exact h) fun _ _ h => h
theorem St.aAS (H : St X w0 w O [] Ps) : St X w w O [] Ps :=
 St.start (fun b hb => Nat.lt_of_lt_of_le (H.y6 b hb) H.size) H.yP H.oK H.iH
end
theorem aH.wk {X : Nat → Prop} {b : Nat} {p : World → Prop} {w : World} (h : aH (fun c => X c ∨ c = b) p w) : aH (fun c => Nil c ∨ c = b) p w := h.mono fun _ _ h => h.elim (fun h => h.elim) .inr
theorem aH.FO {b : Nat} {p : World → Prop} {w : World} (h : aH (fun c => c = b) p w) : aH (fun c => Nil c ∨ c = b) p w := h.mono fun _ _ h => h.elim (fun h => h.elim) id
theorem aH.wk0 {X : Nat → Prop} {p : World → Prop} {w : World} (h : aH X p w) : aH Nil p w := h.mono fun _ _ h => h.elim
theorem iN {w : World} {base : Nat} {e : TypeId} {sz n : Nat} {v : Value} {xs : List Value} (h : w.ownsRow base e sz v n xs) : v.oneCell' = true := by
 obtain ⟨_, ⟨rfl, _⟩ | ⟨g, cap, cur, rfl, _⟩⟩ := h <;> rfl
end Go.Sp
