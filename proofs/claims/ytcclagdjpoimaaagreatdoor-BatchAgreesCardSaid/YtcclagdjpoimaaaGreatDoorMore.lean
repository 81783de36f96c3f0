/- More: labels, characters of a text, equal pointers, own slices that are written. -/
import Derived.Test.YtcclagdjpoimaaaGreatDoorRules
import Derived.Scope
import Derived.LaidEql
import Derived.ControlIn
namespace Go.Sp
open Go.RowKit

section
variable {P : Program} {a : Act} {w : World} {F : Fence} {n : Nat} {Q : Exit → Act → World → Prop}
end

def noGotoE (Q : EPost) : EPost
  | .goto _, _, _, _ => False
  | e, σ, ds, w => Q e σ ds w
section
variable {r : Option Nat} {P : Program} {N : Nat} {σ : Env} {ds : List Deferred} {w : World} {Q : EPost}
end

section
variable {P : Program} {σ : Env} {o : Oper} {t u e : TypeId} {x y : Operand}
/-- equal pointers -/
theorem run_eq_ptr {a : Option Addr} (ht : tyPtr P t = some e) (hs : (tySize P e).isSome = true) (w : World) : (Op.equal t (.pointer a) (.pointer a)).run P w = .ok true w := by
  show (Op.equalIn (9999 + 1) t _ _).run P w = _
  rw [Op.equalIn]
  simp only [Sem.run_bind, run_underlying (und_of_ptr ht), Result.andThen]
  cases a with
  | none => rfl
  | some a =>
    obtain ⟨n, hn⟩ := Option.isSome_iff_exists.1 hs
    simp only [Sem.run_bind, run_sizeOf' hn, Result.andThen]
    split
    · exact run_sameAddr_same w a
    · simp
/-- a character of a text -/
theorem PV.indexStr {s : ByteArray} {i : Nat} {b : UInt8} {k : IntKind} (h : o.op = .index t x y) (ht : P.underlying t = some .string) (hx : ev σ x = .string s) (hy : ev σ y = .int k (i : Int)) (hb : s[i]? = some b) : PV P σ o (.int .u8 (b.toNat : Int)) := fun w => by
  have key : (Instr.index t (.string s) (.int k (i : Int))).run P w = .ok (.int .u8 (b.toNat : Int)) w := by
    unfold Instr.index
    simp only [Sem.run_bind, asIntOf, Sem.run_pure, Result.andThen, run_underlying ht]
    rw [if_pos (by omega)]
    simp [hb]
  simp [execOp, h, hx, hy, key]
end

theorem one_sing {v : Value} (h : v.oneCell' = true) : oneAll [v] := one_lit _ (by simp [h])

theorem Laid.append {l o' new l' : List Value} {p : Nat} (h : Laid l p new l') : Laid (l ++ o') p new (l' ++ o') := Laid.left h
section
variable {X : Nat → Prop} {w0 w : World} {O L : List Ent} {Ps : List (World → Prop)}
/-- an own entry's fact abides while another one is written -/
theorem St.robLL (H : St X w0 w O L Ps) (i j : Nat) {b : Nat} {t : TypeId} {l : List Value} {e : Ent} (hi : L[i]? = some (Ent.blk b t l)) (hj : L[j]? = some e) (hij : i ≠ j) : Rob (fun c => c = b) e.ok w := fun w' hw =>
  e.loc w w' (fun x hx => hw x (e.lt w (H.l j hj) x hx) fun hxb => pair_apart H.disL hij hi hj x ⟨hxb, hx⟩) (H.l j hj)
/-- a fact that abides against what this call changes -/
theorem St.weak (_ : St X w0 w O L Ps) {b : Nat} {t : TypeId} {l : List Value} {p : World → Prop} (hO : Out (fun c => ∃ e ∈ O, e.fp c) w0 w) (hp : Rob (fun c => c = b) p w0) (hOb : O = [Ent.blk b t l]) : Rob (fun c => c = b) p w :=
  hp.out hO (fun c _ ⟨e, he, h⟩ => by subst hOb; cases List.mem_singleton.1 he; exact h) fun _ _ h => h
end
theorem Rob.wk {X : Nat → Prop} {b : Nat} {p : World → Prop} {w : World} (h : Rob (fun c => X c ∨ c = b) p w) : Rob (fun c => Nil c ∨ c = b) p w := h.mono fun _ _ h => h.elim (fun h => h.elim) .inr
theorem Rob.wk2 {b : Nat} {p : World → Prop} {w : World} (h : Rob (fun c => c = b) p w) : Rob (fun c => Nil c ∨ c = b) p w := h.mono fun _ _ h => h.elim (fun h => h.elim) id
theorem Rob.wk0 {X : Nat → Prop} {p : World → Prop} {w : World} (h : Rob X p w) : Rob Nil p w := h.mono fun _ _ h => h.elim
theorem own_one {w : World} {base : Nat} {e : TypeId} {sz n : Nat} {v : Value} {xs : List Value} (h : w.ownsRow base e sz v n xs) : v.oneCell' = true := by
  obtain ⟨_, ⟨rfl, _⟩ | ⟨g, cap, cur, rfl, _⟩⟩ := h <;> rfl
end Go.Sp
