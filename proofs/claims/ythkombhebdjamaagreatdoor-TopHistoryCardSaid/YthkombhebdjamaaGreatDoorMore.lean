/- Part of the proof of this claim: walks through the program's functions and the plain laws that they need, printed by a program of this session. -/
import Derived.Test.YthkombhebdjamaaGreatDoorRules
import Derived.Scope
import Derived.LaidEql
import Derived.ControlIn
namespace Go.Sp
open Go.RowKit
section
variable {P : Program} {a : Act} {w : World} {F : Fence} {n : Nat} {Q : Exit → Act → World → Prop}
end
section
variable {r : Option Nat} {P : Program} {N : Nat} {σ : Env} {ds : List Deferred} {w : World} {Q : EPost}
end
section
variable {P : Program} {σ : Env} {o : Oper} {t u e : TypeId} {x y : Operand}
theorem PV.E3 {s : ByteArray} {i : Nat} {b : UInt8} {k : IntKind} (h : o.op = .index t x y) (ht : P.underlying t = some .string) (hx : ev σ x = .string s) (hy : ev σ y = .int k (i : Int)) (hb : s[i]? = some b) : PV P σ o (.int .u8 (b.toNat : Int)) := fun w => by
 have key : (Instr.index t (.string s) (.int k (i : Int))).run P w = .ok (.int .u8 (b.toNat : Int)) w := by
  unfold Instr.index
  simp only [Sem.run_bind, asIntOf, Sem.run_pure, Result.andThen, run_underlying ht]
  rw [if_pos (by omega)]
  simp [hb]
 simp [execOp, h, hx, hy, key]
end
theorem eE {v : Value} (h : v.oneCell' = true) : eN [v] := bA _ (by simp [h])
section
variable {X : Nat → Prop} {w0 w : World} {O L : List aP} {Ps : List (World → Prop)}
theorem St.l9 (H : St X w0 w O L Ps) (i j : Nat) {b : Nat} {t : TypeId} {l : List Value} {e : aP} (hi : L[i]? = some (aP.blk b t l)) (hj : L[j]? = some e) (hij : i ≠ j) : aJ (fun c => c = b) e.ok w := fun w' hw =>
 e.loc w w' (fun x hx => hw x (e.lt w (H.l j hj) x hx) fun hxb => e8 H.iM hij hi hj x ⟨hxb, hx⟩) (H.l j hj)
theorem St.D1 (_ : St X w0 w O L Ps) {b : Nat} {t : TypeId} {l : List Value} {p : World → Prop} (hO : Out (fun c => ∃ e ∈ O, e.fp c) w0 w) (hp : aJ (fun c => c = b) p w0) (hOb : O = [aP.blk b t l]) : aJ (fun c => c = b) p w :=
 hp.out hO (fun c _ ⟨e, he, h⟩ => by subst hOb; cases List.mem_singleton.1 he; exact h) fun _ _ h => h
theorem St.aBU (H : St X w0 w O [] Ps) : St X w w O [] Ps :=
 St.start (fun b hb => Nat.lt_of_lt_of_le (H.AA b hb) H.size) H.zP H.pF H.iZ
end
theorem aJ.wk {X : Nat → Prop} {b : Nat} {p : World → Prop} {w : World} (h : aJ (fun c => X c ∨ c = b) p w) : aJ (fun c => Nil c ∨ c = b) p w := h.mono fun _ _ h => h.elim (fun h => h.elim) .inr
theorem aJ.G1 {b : Nat} {p : World → Prop} {w : World} (h : aJ (fun c => c = b) p w) : aJ (fun c => Nil c ∨ c = b) p w := h.mono fun _ _ h => h.elim (fun h => h.elim) id
theorem aJ.wk0 {X : Nat → Prop} {p : World → Prop} {w : World} (h : aJ X p w) : aJ Nil p w := h.mono fun _ _ h => h.elim
theorem jE {w : World} {base : Nat} {e : TypeId} {sz n : Nat} {v : Value} {xs : List Value} (h : w.ownsRow base e sz v n xs) : v.oneCell' = true := by
 obtain ⟨_, ⟨rfl, _⟩ | ⟨g, cap, cur, rfl, _⟩⟩ := h <;> rfl
end Go.Sp
