/- Part of the proof of this claim: walks through the program's functions and the plain laws that they need, printed by a program of this session. -/
import Derived.Test.YthkombhebdjamaaGreatDoorOpen
import Derived.Laws.Externs
import Derived.Lib.Bytealg
namespace Go.Sp
section
variable {P : Program} {w : World}
theorem pZ : ∀ (l : List UInt8) (a : Addr) (acc : ByteArray), dA w a (kc l) → (Extern.Bytes.loadBytes a l.length acc).run P w = .ok ⟨acc.data ++ l.toArray⟩ w
 | [], a, acc, _ => by simp [Extern.Bytes.loadBytes]
 | x :: l, a, acc, h => by
  have h0 : w.cell? a = some (.int .u8 (x.toNat : Int)) := by
   have := h 0 (.int .u8 (x.toNat : Int)) rfl
   rwa [show a.add 0 = a by unfold Addr.add; simp] at this
  have ih := pZ l (a.add 1) (acc.push x) (fun j v hv => by
   rw [add_add]
   have := h (1 + j) v (by rw [Nat.add_comm]; exact hv)
   exact this)
  have hx : ((x.toNat : Int)).toNat.toUInt8 = x := by simp
  simp only [List.length_cons, Extern.Bytes.loadBytes, Sem.run_bind, run_load, h0, Result.andThen, hx]
  rw [ih]
  simp [ByteArray.push]
theorem vA {v : Value} {l : List UInt8} (h : bJ v l w) : (Extern.Bytes.bytesOf v).run P w = .ok ⟨l.toArray⟩ w := by
 obtain ⟨a, c, rfl, h1, h2, h3, h4⟩ := h
 cases a with
 | none =>
  have h5 := (h3 rfl).1
  have : l = [] := List.eq_nil_of_length_eq_zero h5
  subst this
  rfl
 | some a =>
  have := pZ (P := P) l a .empty (h4 a rfl)
  show (Extern.Bytes.loadBytes a l.length .empty).run P w = _
  rw [this, show ByteArray.empty.data = #[] from rfl]
  simp
theorem sI {x y : Value} {la lb : List UInt8} (hx : bJ x la w) (hy : bJ y lb w) : (Extern.BytealgCompare.compare #[x, y]).run P w = .ok (.int .i64 (Lib.compareBytes la lb)) w := by
 show Sem.run P (do pure (goInt (Extern.BytealgCompare.cmp (← Extern.Bytes.bytesOf x) (← Extern.Bytes.bytesOf y)))) w = _
 simp only [Sem.run_bind, vA hx, vA hy, Result.andThen, Sem.run_pure, Lib.cmp_eq]
 rfl
end
section
variable {r : Option Nat} {P : Program} {N : Nat} {σ : Env} {ds : List Deferred} {w : World} {ops : Array Oper} {rest : List Oper} {K : Env → List Deferred → World → Prop}
theorem WL.extern {dst : Option Tmp} {f : FuncId} {fn : Func} {xs : List Operand} {qV : Array TypeId} {ty : TypeId} {pos : String} {after : Array Edge} {guard : Option (Nat × Bool)} {e : Array Value → Sem Value} {v : Value} {w' : World}
  (hf : P.funcs[f]? = some fn) (hname : (fn.name == "runtime.NumGoroutine") = false) (hb : fn.body.isNone = true) (hn : Extern.findNext fn = none) (he : Extern.find fn = some e)
  (hw : cH ops σ ⟨dst, .call ⟨.value (.func f), xs.toArray, qV⟩, ty, pos, after, guard⟩ = true) (hr : (e (xs.map (ev σ)).toArray).run P w = .ok v w')
  (k : WL r P N ops rest K (dD N σ dst v) ds w') : WL r P N ops (⟨dst, .call ⟨.value (.func f), xs.toArray, qV⟩, ty, pos, after, guard⟩ :: rest) K σ ds w := by
 refine WL.val (v := v) (w' := w') hw rfl ?_ k
 have h1 := run_callFunc_extern hf hname hb hn he (xs.map (ev σ)).toArray w
 have e1 : (xs.toArray.map (ev σ)) = (xs.map (ev σ)).toArray := by simp
 simp only [execOp, resolve, ev]
 simp [Deferred.ofValue, invoke, h1, hr, Result.andThen]
end
end Go.Sp
