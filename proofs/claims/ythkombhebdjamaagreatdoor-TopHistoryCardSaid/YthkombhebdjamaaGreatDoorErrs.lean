/- Part of the proof of this claim: walks through the program's functions and the plain laws that they need, printed by a program of this session. -/
import Derived.Test.YthkombhebdjamaaGreatDoorTwo
import Derived.LaidEql
import Derived.Stop.Asserts
namespace Go.Sp
def WR (P : Program) (t : TypeId) : Bool := match P.underlying t with | some (.interface _) => false | some _ => true | none => false
def zH (v : Value) : Prop := v = .nilIface ∨ ∃ t a, v = .iface t a
def iS : Value → Bool
 | .nilIface => true
 | _ => false
theorem zH.nil : zH .nilIface := .inl rfl
theorem zH.of {t : TypeId} {a : Value} : zH (.iface t a) := .inr ⟨t, a, rfl⟩
def BZ (P : Program) (t : TypeId) (name : String) : Option FuncId := match (P.info? t).bind fun i => i.methods.find? (·.name == name) with
 | some m => if m.path.isEmpty then m.func.bind fun p => if p.2 then some p.1 else none else none
 | none => none
section
variable {P : Program} {σ : Env} {o : Oper} {x y : Operand} {t u : TypeId}
theorem QD (h : WR P t = true) : ∃ d, P.underlying t = some d ∧ ∀ m, d ≠ .interface m := by
 unfold WR at h
 cases hu : P.underlying t with
 | none => rw [hu] at h; cases h
 | some d =>
  rw [hu] at h
  refine ⟨d, rfl, ?_⟩
  intro m e; subst e; cases h
theorem QE (h : qJ P t = true) : ∃ m, P.underlying t = some (.interface m) := by
 unfold qJ at h
 split at h
 ·
  rename_i m hm; exact ⟨m, hm⟩
 ·
  cases h
theorem PV.lF (h : o.op = .makeInterface t x) (ht : WR P t = true) : PV P σ o (.iface t (ev σ x)) := fun w => by
 obtain ⟨d, hd, h1⟩ := QD ht
 have key : (Instr.makeInterface t (ev σ x)).run P w = .ok (.iface t (ev σ x)) w := by
  unfold Instr.makeInterface
  simp only [Sem.run_bind, run_underlying hd, Result.andThen]
  cases d <;> first | rfl | exact absurd rfl (h1 _)
 simp [execOp, h, key]
theorem PV.BQ {tx : TypeId} {v z : Value} (h : o.op = .typeAssert x tx u true) (hu : WR P u = true) (hz : tZ P u = some z) (hx : ev σ x = .iface t v) : PV P σ o (.tuple [cond (Nat.beq t u) v z, .bool (Nat.beq t u)].toArray) := fun w => by
 obtain ⟨d, hd, h1⟩ := QD hu
 have key : (Instr.typeAssert (.iface t v) tx u true).run P w = .ok (.tuple #[cond (Nat.beq t u) v z, .bool (Nat.beq t u)]) w := by
  unfold Instr.typeAssert
  simp only [Sem.run_bind, run_underlying hd, Result.andThen]
  by_cases e : t = u
  ·
   subst e
   have hb : Nat.beq t t = true := Nat.beq_refl t
   cases d <;> first | exact absurd rfl (h1 _) | simp [hb]
  ·
   have hb : Nat.beq t u = false := by rw [Bool.eq_false_iff]; intro hb; exact e (Nat.eq_of_beq_eq_true hb)
   cases d <;> first | exact absurd rfl (h1 _) | simp [hb, e, uC hz w]
 simp [execOp, h, hx, key]
theorem PV.MA {tx : TypeId} {r : Value} {c : Bool} (h : o.op = .typeAssert x tx u c) (hr : ∀ w, (Instr.typeAssert (ev σ x) tx u c).run P w = .ok r w) : PV P σ o r := fun w => by
 simp [execOp, h, hr]
theorem EH (ht : qJ P t = true) {v : Value} (hv : zH v) (w : World) : (Op.equal t v .nilIface).run P w = .ok (iS v) w := by
 obtain ⟨m, hm⟩ := QE ht
 show (Op.equalIn (9999 + 1) t _ _).run P w = _
 rw [Op.equalIn]
 simp only [Sem.run_bind, run_underlying hm, Result.andThen]
 rcases hv with rfl | ⟨tt, a, rfl⟩ <;> rfl
theorem PV.qF (h : o.op = .binOp .eql t x (.const .nilIface) u) (ht : qJ P t = true) (hv : zH (ev σ x)) : PV P σ o (.bool (iS (ev σ x))) := fun w => by
 have h1 := EH (P := P) ht hv w
 have hy : ev σ (.const .nilIface) = .nilIface := rfl
 rcases hv with hx | ⟨tt, a, hx⟩
 ·
  rw [hx] at h1
  simp [execOp, h, hx, hy, eqGuard, binOp, h1]
 ·
  rw [hx] at h1
  simp [execOp, h, hx, hy, eqGuard, binOp, h1]
theorem PV.AW (h : o.op = .binOp .neq t x (.const .nilIface) u) (ht : qJ P t = true) (hv : zH (ev σ x)) : PV P σ o (.bool (!iS (ev σ x))) := fun w => by
 have h1 := EH (P := P) ht hv w
 have hy : ev σ (.const .nilIface) = .nilIface := rfl
 rcases hv with hx | ⟨tt, a, hx⟩
 ·
  rw [hx] at h1
  simp [execOp, h, hx, hy, eqGuard, binOp, h1]
 ·
  rw [hx] at h1
  simp [execOp, h, hx, hy, eqGuard, binOp, h1]
theorem PV.TX {tn : TypeId} {k : IntKind} {a b : Int} (h : o.op = .binOp .eql t x y u) (ht : qJ P t = true) (hk : fR P tn = some k) (hc : (P.info? tn).map (·.comparable) = some true) (hx : ev σ x = .iface tn (.int k a)) (hy : ev σ y = .iface tn (.int k b)) : PV P σ o (.bool (a == b)) := fun w => by
 obtain ⟨m, hm⟩ := QE ht
 obtain ⟨i, hi, aFg⟩ := Option.map_eq_some_iff.1 hc
 have h0 : ∀ d : Nat, (Op.equalIn (d + 2) t (.iface tn (.int k a)) (.iface tn (.int k b))).run P w = .ok (a == b) w := fun d => by
  simp [Op.equalIn, run_underlying hm, run_underlying (gB hk), typeInfo, hi, aFg]
 have h1 : (Op.equal t (.iface tn (.int k a)) (.iface tn (.int k b))).run P w = .ok (a == b) w := h0 9998
 simp [execOp, h, hx, hy, eqGuard, binOp, h1]
theorem PV.aB8 {l m : List UInt8} (h : o.op = .binOp .neq t x y u) (hx : ev σ x = pW l) (hy : ev σ y = pW m) : PV P σ o (.bool (l != m)) := fun w => by
 simp [execOp, h, hx, hy, pW, eqGuard, binOp, Op.stringOp, bne]
end
section
variable {r : Option Nat} {P : Program} {N : Nat} {σ : Env} {ds : List Deferred} {w : World} {ops : Array Oper} {rest : List Oper} {K : Env → List Deferred → World → Prop}
theorem EE {t : TypeId} {name : String} {f : FuncId} {v : Value} {e : TypeId} (hm : BZ P t name = some f) (ht : sC P t = some e) (n : Nat) (w : World) : (Go.method (n + 1) t v name).run P w = .ok (f, v) w := by
 unfold BZ at hm
 cases hi : P.info? t with
 | none => rw [hi] at hm; cases hm
 | some i =>
  rw [hi] at hm
  simp only [Option.bind_some] at hm
  cases hf : i.methods.find? (·.name == name) with
  | none => rw [hf] at hm; cases hm
  | some m =>
   rw [hf] at hm
   dsimp only at hm
   by_cases hp : m.path.isEmpty = true
   ·
    rw [if_pos hp] at hm
    cases hmf : m.func with
    | none => rw [hmf] at hm; cases hm
    | some p =>
     obtain ⟨g, b⟩ := p
     rw [hmf] at hm
     simp only [Option.bind_some] at hm
     cases b with
     | false => cases hm
     | true =>
      rw [if_pos rfl] at hm
      obtain rfl := Option.some.inj hm
      have hpe : m.path.toList = [] := by simpa using hp
      unfold Go.method
      simp only [Sem.run_bind, typeInfo, run_program, Result.andThen]
      simp [hi, hf, hpe, follow, hmf, receiverAt, run_underlying (wU ht), Place.get, Result.andThen]
   ·
    rw [if_neg hp] at hm; cases hm
theorem WL.X9 {dst : Option Tmp} {x : Operand} {name : String} {t e : TypeId} {v : Value} {f : FuncId} {fn : Func} {xs : List Operand} {qV : Array TypeId} {ty : TypeId} {pos : String} {after : Array Edge} {guard : Option (Nat × Bool)} {R : Value → World → Prop}
  (hx : ev σ x = .iface t v) (hm : BZ P t name = some f) (ht : sC P t = some e) (hb : Body P f fn) (hw : cH ops σ ⟨dst, .call ⟨.invoke x name, xs.toArray, qV⟩, ty, pos, after, guard⟩ = true)
  (hc : bC P f (v :: xs.map (ev σ)).toArray w R)
  (k : ∀ v w'', R v w'' → WL r P N ops rest K (dD N σ dst v) ds w'') : WL r P N ops (⟨dst, .call ⟨.invoke x name, xs.toArray, qV⟩, ty, pos, after, guard⟩ :: rest) K σ ds w := by
 refine WL.enter (R := R) hw rfl ?_ hc k
 have e1 : (#[ev σ x] ++ xs.toArray.map (ev σ)).extract 1 (#[ev σ x] ++ xs.toArray.map (ev σ)).size = (xs.map (ev σ)).toArray := by
  apply Array.ext'
  simp
  exact List.take_of_length_le (by simp)
 obtain ⟨n, hn⟩ : ∃ n, P.types.size + Made.depth = n + 1 := ⟨P.types.size + Made.depth - 1, (Nat.sub_add_cancel (Nat.le_trans (show 1 ≤ Made.depth by decide) (Nat.le_add_left _ _))).symm⟩
 have hcf : (callFunc f (#[v] ++ (xs.map (ev σ)).toArray)).run P w = .ok (.enter f (v :: xs.map (ev σ)).toArray) w := by
  have := fW hb (v :: xs.map (ev σ)).toArray w
  have e : (#[v] ++ (xs.map (ev σ)).toArray) = (v :: xs.map (ev σ)).toArray := by simp
  rw [e]; exact this
 have key : (callMethod (.iface t v) name (xs.map (ev σ)).toArray).run P w = .ok (.enter f (v :: xs.map (ev σ)).toArray) w := by
  unfold callMethod
  have hpr : (program : Sem Program).run P w = .ok P w := rfl
  show ((program : Sem Program) >>= _).run P w = _
  rw [Sem.run_bind, hpr]
  simp only [Result.andThen]
  rw [Sem.run_bind, hn, EE hm ht n w]
  simp only [Result.andThen]
  exact hcf
 simp only [execOp, resolve]
 simp only [Sem.run_bind, Sem.run_pure, Result.andThen]
 unfold Go.invoke
 have e2 : (#[ev σ x] ++ xs.toArray.map (ev σ))[0]? = some (ev σ x) := by simp
 simp only [e2, e1]
 rw [hx]
 exact key
theorem WL.jQ {dst : Option Tmp} {x : Operand} {name : String} {t : TypeId} {v rv val : Value} {f : FuncId} {fn : Func} {e : Array Value → Sem Value} {xs : List Operand} {qV : Array TypeId} {ty : TypeId} {pos : String} {after : Array Edge} {guard : Option (Nat × Bool)} {w' : World}
  (hx : ev σ x = .iface t v) (hm : ∀ w, (Go.method (P.types.size + Made.depth) t v name).run P w = .ok (f, rv) w)
  (hf : P.funcs[f]? = some fn) (hname : (fn.name == "runtime.NumGoroutine") = false) (hb : fn.body.isNone = true) (hn : Extern.findNext fn = none) (he : Extern.find fn = some e)
  (hw : cH ops σ ⟨dst, .call ⟨.invoke x name, xs.toArray, qV⟩, ty, pos, after, guard⟩ = true) (hr : (e (rv :: xs.map (ev σ)).toArray).run P w = .ok val w')
  (k : WL r P N ops rest K (dD N σ dst val) ds w') : WL r P N ops (⟨dst, .call ⟨.invoke x name, xs.toArray, qV⟩, ty, pos, after, guard⟩ :: rest) K σ ds w := by
 refine WL.val (v := val) (w' := w') hw rfl ?_ k
 have e1 : (#[ev σ x] ++ xs.toArray.map (ev σ)).extract 1 (#[ev σ x] ++ xs.toArray.map (ev σ)).size = (xs.map (ev σ)).toArray := by
  apply Array.ext'
  simp
  exact List.take_of_length_le (by simp)
 have h1 := run_callFunc_extern hf hname hb hn he (rv :: xs.map (ev σ)).toArray w
 have key : (callMethod (.iface t v) name (xs.map (ev σ)).toArray).run P w = (callFunc f (rv :: xs.map (ev σ)).toArray).run P w := by
  unfold callMethod
  have hpr : (program : Sem Program).run P w = .ok P w := rfl
  show ((program : Sem Program) >>= _).run P w = _
  rw [Sem.run_bind, hpr]
  simp only [Result.andThen]
  rw [Sem.run_bind, hm w]
  simp only [Result.andThen]
  have e : (#[rv] ++ (xs.map (ev σ)).toArray) = (rv :: xs.map (ev σ)).toArray := by simp
  rw [e]
 simp only [execOp, resolve]
 simp only [Sem.run_bind, Sem.run_pure, Result.andThen]
 unfold Go.invoke
 have e2 : (#[ev σ x] ++ xs.toArray.map (ev σ))[0]? = some (ev σ x) := by simp
 simp only [e2, e1]
 rw [hx, key, h1, hr]
 rfl
theorem WL.wM {X : Nat → Prop} {w0 : World} {O L : List aP} {Ps : List (World → Prop)} {dst : Option Tmp} {f : FuncId} {fn : Func} {xs : List Operand} {qV : Array TypeId} {ty : TypeId} {pos : String} {after : Array Edge} {guard : Option (Nat × Bool)} {e : Array Value → Sem Value} (mkv : Nat → Value) (cs : List Value) (bt : TypeId) (H : St X w0 w O L Ps)
  (hf : P.funcs[f]? = some fn) (hname : (fn.name == "runtime.NumGoroutine") = false) (hb : fn.body.isNone = true) (hn : Extern.findNext fn = none) (he : Extern.find fn = some e)
  (hw : cH ops σ ⟨dst, .call ⟨.value (.func f), xs.toArray, qV⟩, ty, pos, after, guard⟩ = true) {avs : List Value} (hr : (e avs.toArray).run P w = .ok (mkv w.heap.size) (w.alloc (.cells cs.toArray bt))) (ha : xs.map (ev σ) = avs)
  (k : ∀ b w', St X w0 w' O (aP.blk b bt cs :: L) Ps → WL r P N ops rest K (dD N σ dst (mkv b)) ds w') : WL r P N ops (⟨dst, .call ⟨.value (.func f), xs.toArray, qV⟩, ty, pos, after, guard⟩ :: rest) K σ ds w :=
 WL.extern hf hname hb hn he hw (by rw [ha]; exact hr) (k w.heap.size _ (H.push (Out.alloc _ _) (aP.blk w.heap.size bt cs) (heap_alloc_new w _) (fun b hb => by cases hb; exact Nat.le_refl _)))
theorem aN.aEi {w : World} {b : Nat} {t : TypeId} {x v : Value} (h : aN w b t [x]) : aN (w.setCell ⟨b, 0, none⟩ v) b t [v] := by
 have hl := h.lt
 unfold aN at *
 have h2 := (Array.getElem?_eq_some_iff.1 h).2
 rw [Array.getElem?_eq_getElem (by simpa [World.setCell] using hl)]
 simp only [World.setCell]
 rw [Array.getElem_modify, if_pos rfl, h2]
 rfl
end
end Go.Sp
