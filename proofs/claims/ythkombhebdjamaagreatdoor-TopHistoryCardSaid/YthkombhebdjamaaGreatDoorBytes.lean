/- Part of the proof of this claim: walks through the program's functions and the plain laws that they need, printed by a program of this session. -/
import Derived.Test.YthkombhebdjamaaGreatDoorMops
namespace Go.Sp
open Go.RowKit
def kc (l : List UInt8) : List Value := l.map fun x => .int .u8 (x.toNat : Int)
theorem aI (l : List UInt8) : (kc l).length = l.length := by simp [kc]
theorem iO (l m : List UInt8) : kc (l ++ m) = kc l ++ kc m := by simp [kc]
theorem bG (l : List UInt8) : eN (kc l) := fun v hv => by
 obtain ⟨x, _, rfl⟩ := List.mem_map.1 hv
 rfl
theorem aCe {l m : List UInt8} (h : kc l = kc m) : l = m := by
 induction l generalizing m with
 | nil => cases m with
  | nil => rfl
  | cons y m => simp [kc] at h
 | cons x l ih =>
  cases m with
  | nil => simp [kc] at h
  | cons y m =>
   simp only [kc, List.map_cons, List.cons.injEq, Value.int.injEq, true_and] at h
   rw [ih h.2]
   congr 1
   exact UInt8.toNat_inj.1 (by omega)
theorem aCf (l : List UInt8) (i : Nat) (h : i < l.length) : (kc l)[i]? = some (.int .u8 (l[i].toNat : Int)) := by
 simp [kc, h]
def bJ (v : Value) (l : List UInt8) (w : World) : Prop := cN w v 1 l.length (kc l)
theorem k5 {α : Type} (l : List α) (i : Nat) (h : i < l.length) : (l.drop (i * 1)).take 1 = [l[i]] := by
 rw [Nat.mul_one, List.drop_eq_getElem_cons h]
 rfl
theorem bJ.rd {v : Value} {l : List UInt8} {w : World} (h : bJ v l w) (i : Nat) (hi : i < l.length) : dA w (jN v (i * 1)) [.int .u8 (l[i].toNat : Int)] := by
 have h1 := cN.rd h i hi
 rw [k5 _ i (by rw [aI]; exact hi)] at h1
 simpa [kc] using h1
section
variable {P : Program} {σ : Env} {o : Oper}
theorem PV.dR {t : TypeId} {dst : Option Tmp} {x : Operand} {qV : List TypeId} {ty e : TypeId} {pos : String} {after : Array Edge} {guard : Option (Nat × Bool)} {w1 : World} {v : Value} {sz n : Nat} {cs : List Value}
  (hs : cN w1 v sz n cs) (ht : c8 P t = some e) (hx : ev σ x = v) :
  PV P σ ⟨dst, .call ⟨.builtin .len, [x].toArray, (t :: qV).toArray⟩, ty, pos, after, guard⟩ (.int .i64 n) := by
 obtain ⟨A, c, rfl, _⟩ := hs
 exact PV.A0 ht hx
theorem PV.eA {t e : TypeId} {x y : Operand} {w1 : World} {v : Value} {sz n : Nat} {cs : List Value} {i : Int} {k : IntKind} (h : o.op = .indexAddr t x y) (hs : cN w1 v sz n cs) (ht : c8 P t = some e) (he : cB P e = some sz)
  (hx : ev σ x = v) (hy : ev σ y = .int k i) (h0 : 0 ≤ i) (h1 : i < n) : PV P σ o (.pointer (some (jN v (i.toNat * sz)))) := fun w => by
 obtain ⟨a, c, rfl, h2, _⟩ := hs.at_ i.toNat (by omega)
 rw [h2]
 simp [execOp, h, hx, hy, Instr.indexAt, asIntOf, run_underlying (bX ht), h0, h1, cU he]
end
def aK (l0 : List Value) (o : Nat) (l : List Value) : Prop := ∃ pre post, l0 = pre ++ (l ++ post) ∧ pre.length = o
theorem aK.all (l : List Value) : aK l 0 l := ⟨[], [], by simp, rfl⟩
theorem aK.l {a b l : List Value} {o : Nat} (h : aK a o l) : aK (a ++ b) o l := by
 obtain ⟨p, q, rfl, h⟩ := h
 exact ⟨p, q ++ b, by simp, h⟩
theorem aK.r {a b l : List Value} {o p : Nat} (h : aK b o l) (hp : p = a.length + o) : aK (a ++ b) p l := by
 obtain ⟨p', q, rfl, h⟩ := h
 exact ⟨a ++ p', q, by simp, by simp [h, hp]⟩
theorem aK.hd {x : Value} {b : List Value} : aK (x :: b) 0 [x] := ⟨[], b, by simp, rfl⟩
theorem aK.tl {x : Value} {b l : List Value} {o p : Nat} (h : aK b o l) (hp : p = o + 1) : aK (x :: b) p l := by
 obtain ⟨p', q, rfl, h⟩ := h
 exact ⟨x :: p', q, by simp, by simp [h, hp]⟩
theorem aK.byte {l : List UInt8} (i : Nat) (hi : i < l.length) : aK (kc l) i [.int .u8 (l[i].toNat : Int)] := by
 refine ⟨(kc l).take i, (kc l).drop (i + 1), ?_, by simp [aI]; omega⟩
 have h : (kc l).drop i = (.int .u8 (l[i].toNat : Int)) :: (kc l).drop (i + 1) := by
  have h1 := List.drop_eq_getElem_cons (l := kc l) (i := i) (by rw [aI]; exact hi)
  rw [h1]
  simp [kc]
 calc kc l = (kc l).take i ++ (kc l).drop i := (List.take_append_drop i _).symm
  _ = _ := by rw [h]; rfl
theorem aN.seg {w : World} {b o : Nat} {t : TypeId} {l0 l : List Value} (h : aN w b t l0) (s : aK l0 o l) : dA w ⟨b, o, none⟩ l := by
 obtain ⟨p, q, rfl, rfl⟩ := s
 intro j v hv
 rw [mJ, h.cell, List.getElem?_append_right (by omega), Nat.add_sub_cancel_left, List.getElem?_append_left]
 ·
  exact hv
 ·
  exact (List.getElem?_eq_some_iff.1 hv).1
theorem dA.sub {w : World} {a : Addr} {o : Nat} {l0 l : List Value} (h : dA w a l0) (s : aK l0 o l) : dA w (a.add o) l := by
 obtain ⟨p, q, rfl, rfl⟩ := s
 intro j v hv
 rw [add_add]
 apply h
 rw [List.getElem?_append_right (by omega), Nat.add_sub_cancel_left, List.getElem?_append_left]
 ·
  exact hv
 ·
  exact (List.getElem?_eq_some_iff.1 hv).1
theorem Laid.byte {l : List UInt8} {i : Nat} {x : UInt8} (hi : i < l.length) : Laid (kc l) i [.int .u8 (x.toNat : Int)] (kc (l.set i x)) := by
 have h := Laid.one (l := kc l) (o := i) (v := .int .u8 (x.toNat : Int)) (by rw [aI]; exact hi)
 have e : kc (l.set i x) = (kc l).set i (.int .u8 (x.toNat : Int)) := by
  simp [kc, List.map_set]
 rw [e]
 exact h
section
variable {r : Option Nat} {P : Program} {N : Nat} {σ : Env} {ds : List Deferred} {w : World} {ops : Array Oper} {l : List Oper} {K : Env → List Deferred → World → Prop}
theorem D5 {t : Nat} {v : Value} (h : σ t = v) : dD N σ (some t) v = σ := by
 funext u
 show cond (Nat.beq u t && Nat.blt t N) v (σ u) = σ u
 by_cases e : u = t
 ·
  subst e
  cases (Nat.beq u u && Nat.blt u N) <;> simp [h]
 ·
  have hb : Nat.beq u t = false := by rw [Bool.eq_false_iff]; intro hb; exact e (Nat.eq_of_beq_eq_true hb)
  rw [hb]; rfl
theorem WL.known {t : Nat} {b c : Bool} (h : σ t = .bool b) (hb : b = c) (k : WL r P N ops l K (dD N σ (some t) (.bool c)) ds w) : WL r P N ops l K σ ds w := by
 subst hb
 rwa [D5 h] at k
theorem WL.split {t : Nat} {b : Bool} (h : σ t = .bool b) (kt : b = true → WL r P N ops l K (dD N σ (some t) (.bool true)) ds w) (kf : b = false → WL r P N ops l K (dD N σ (some t) (.bool false)) ds w) :
  WL r P N ops l K σ ds w := by
 cases b with
 | true => exact WL.known h rfl (kt rfl)
 | false => exact WL.known h rfl (kf rfl)
theorem WP.known {tr : Tree} {O : oN} {t : Nat} {b c : Bool} (h : σ t = .bool b) (hb : b = c) (k : WP r P N ops K tr O (dD N σ (some t) (.bool c)) ds w) : WP r P N ops K tr O σ ds w := by
 subst hb
 rwa [D5 h] at k
theorem WP.split {tr : Tree} {O : oN} {t : Nat} {b : Bool} (h : σ t = .bool b) (kt : b = true → WP r P N ops K tr O (dD N σ (some t) (.bool true)) ds w) (kf : b = false → WP r P N ops K tr O (dD N σ (some t) (.bool false)) ds w) :
  WP r P N ops K tr O σ ds w := by
 cases b with
 | true => exact WP.known h rfl (kt rfl)
 | false => exact WP.known h rfl (kf rfl)
theorem WE.cS {c : Operand} {x y : Code} {Q : EPost} {b : Bool} (hc : ev σ c = .bool b) (hb : b = true) (h : WE r P N x Q σ ds w) : WE r P N (.cond c x y) Q σ ds w := WE.lN (by rw [hc, hb]) h
theorem WE.bD {c : Operand} {x y : Code} {Q : EPost} {b : Bool} (hc : ev σ c = .bool b) (hb : b = false) (h : WE r P N y Q σ ds w) : WE r P N (.cond c x y) Q σ ds w := WE.jB (by rw [hc, hb]) h
end
theorem aN.aF {w : World} {b o o' : Nat} {t : TypeId} {l0 l : List Value} (h : aN w b t l0) (s : aK l0 o l) (ho : o' = o) : dA w ⟨b, o', none⟩ l := by subst ho; exact h.seg s
theorem aK.one {l : List Value} (i : Nat) (hi : i < l.length) : aK l i [l[i]] := by
 refine ⟨l.take i, l.drop (i + 1), ?_, by simp; omega⟩
 have h1 := List.drop_eq_getElem_cons hi
 rw [List.singleton_append, ← h1, List.take_append_drop]
theorem Laid.at {l new l' : List Value} {o p : Nat} (h : Laid l o new l') (hp : p = o) : Laid l p new l' := by subst hp; exact h
theorem bN {a b : List Value} (ha : eN a) (hb : eN b) : eN (a ++ b) := fun v hv => by
 rcases List.mem_append.1 hv with h | h
 ·
  exact ha v h
 ·
  exact hb v h
theorem bA (l : List Value) (h : l.all (·.oneCell') = true) : eN l := fun v hv => List.all_eq_true.1 h v hv
theorem WP.aM {r : Option Nat} {P : Program} {N : Nat} {ops : Array Oper} {K : Env → List Deferred → World → Prop} {O : oN} {σ : Env} {ds : List Deferred} {w : World} {i : Nat} {t : Tree} {o : Oper} {v : Value} {Y : World → Prop} (hi : ops[i]? = some o) (hw : cH ops σ o = true)
  (hy : RV P σ o Y v) (hY : Y w) (k : WP r P N ops K t ((i, Y) :: O) (dD N σ o.dst v) ds w) : WP r P N ops K (.take i t) O σ ds w :=
 WP.take hi (.inl ⟨hw, hy⟩) hY k
section
variable {P : Program} {σ : Env} {o : Oper}
theorem PV.iE {t e : TypeId} {x : Operand} {n b oo : Nat} (h : o.op = .slice t x none none none) (ht : eV P t = some (n, e)) (hs : (cB P e).isSome = true) (hx : ev σ x = .pointer (some ⟨b, oo, none⟩)) :
  PV P σ o (.slice (some ⟨b, oo, none⟩) n n) := fun w => by
 obtain ⟨m, hm⟩ := Option.isSome_iff_exists.1 hs
 have h0 : (⟨b, oo, none⟩ : Addr).add 0 = ⟨b, oo, none⟩ := by unfold Addr.add; simp
 simp [execOp, h, hx, Instr.sliceAt, run_underlying (eR ht), Instr.sureAddr, Instr.sliceBounds, cU hm, h0]
theorem run_sliceBound {x : Value} {y : Nat} {k : IntKind} {i : Int} {code : BoundsCode} (hx : x = .int k i) (h0 : 0 ≤ i) (h1 : i ≤ y) (w : World) : (Instr.sliceBound x y code).run P w = .ok i.toNat w := by
 subst hx
 simp [Instr.sliceBound, asIntOf, h0, h1]
theorem PV.qZ {t e : TypeId} {x y : Operand} {w1 : World} {v : Value} {sz n : Nat} {cs : List Value} {i : Int} {k : IntKind} (h : o.op = .slice t x (some y) none none) (hs : cN w1 v sz n cs) (ht : c8 P t = some e) (he : cB P e = some sz)
  (hx : ev σ x = v) (hy : ev σ y = .int k i) (h0 : 0 ≤ i) (h1 : i ≤ n) : PV P σ o (jJ v sz i.toNat n) := fun w => by
 obtain ⟨A, c, rfl, h2, h3, _⟩ := hs
 simp [execOp, h, hx, hy, Instr.sliceAt, run_underlying (bX ht), Instr.slice, Instr.sliceBounds, run_sliceBound rfl h0 h1, cU he, jJ]
theorem PV.WU {t e : TypeId} {x y : Operand} {w1 : World} {v : Value} {sz n : Nat} {cs : List Value} {i : Int} {k : IntKind} (h : o.op = .slice t x none (some y) none) (hs : cN w1 v sz n cs) (ht : c8 P t = some e) (he : cB P e = some sz)
  (hx : ev σ x = v) (hy : ev σ y = .int k i) (h0 : 0 ≤ i) (h1 : i ≤ n) : PV P σ o (jJ v sz 0 i.toNat) := fun w => by
 obtain ⟨A, c, rfl, h2, h3, _⟩ := hs
 have h4 : i ≤ (c : Int) := by omega
 have h5 : ∀ a : Addr, a.add 0 = a := fun a => by unfold Addr.add; simp
 simp [execOp, h, hx, hy, Instr.sliceAt, run_underlying (bX ht), Instr.slice, Instr.sliceBounds, run_sliceBound rfl h0 h4, cU he, jJ]
theorem PV.aAw {t e : TypeId} {x y z : Operand} {w1 : World} {v : Value} {sz n : Nat} {cs : List Value} {i j : Int} {k k' : IntKind} (h : o.op = .slice t x (some y) (some z) none) (hs : cN w1 v sz n cs) (ht : c8 P t = some e) (he : cB P e = some sz)
  (hx : ev σ x = v) (hy : ev σ y = .int k i) (hz : ev σ z = .int k' j) (h0 : 0 ≤ i ∧ i ≤ j) (h1 : j ≤ n) : PV P σ o (jJ v sz i.toNat j.toNat) := fun w => by
 obtain ⟨A, c, rfl, h2, h3, _⟩ := hs
 have h4 : j ≤ (c : Int) := by omega
 have h5 : i ≤ (j.toNat : Int) := by omega
 simp [execOp, h, hx, hy, hz, Instr.sliceAt, run_underlying (bX ht), Instr.slice, Instr.sliceBounds, run_sliceBound rfl (show 0 ≤ j by omega) h4, run_sliceBound rfl h0.1 h5, cU he, jJ]
end
section
variable {P : Program} (w : World)
theorem q7 {e : TypeId} (he : fR P e = some .u8) (l : List UInt8) (i : Nat) (hi : i < l.length) : (part e (kc l).toArray i).run P w = .ok (.int .u8 (l[i].toNat : Int)) w := by
 have ha : dK P e = some false := by unfold dK; rw [gB he]; rfl
 unfold part
 simp [kQ ha, aCf l i hi]
theorem EG (d : Nat) {e : TypeId} (he : fR P e = some .u8) (x y : UInt8) : (Op.equalIn (d + 1) e (.int .u8 (x.toNat : Int)) (.int .u8 (y.toNat : Int))).run P w = .ok (x == y) w := by
 rw [Op.equalIn]
 simp only [Sem.run_bind, run_underlying (gB he), Result.andThen]
 by_cases h : x = y
 ·
  subst h; simp
 ·
  have : ((x.toNat : Int) == (y.toNat : Int)) = false := by
   rw [beq_eq_false_iff_ne]
   intro hh
   exact h (UInt8.toNat_inj.1 (by omega))
  simp [this, h]
theorem EF (d : Nat) {e : TypeId} (he : fR P e = some .u8) (l m : List UInt8) (n : Nat) (hl : l.length = n) (hm : m.length = n) : ∀ (k i : Nat), i + k = n →
  (forIn (m := Sem) (List.range' i k) ((none, ()) : Option Bool × Unit) fun i _ => do
   let x ← part e (kc l).toArray (i * 1)
   let y ← part e (kc m).toArray (i * 1)
   let b ← Op.equalIn (d + 1) e x y
   if (!b) = true then pure (ForInStep.done (some false, ())) else pure (ForInStep.yield (none, ()))).run P w
   = .ok (if l.drop i = m.drop i then (none, ()) else (some false, ())) w := by
 intro k
 induction k with
 | zero =>
  intro i hi
  have h1 : l.drop i = [] := List.drop_eq_nil_of_le (by omega)
  have h2 : m.drop i = [] := List.drop_eq_nil_of_le (by omega)
  simp [h1, h2]
 | succ k ih =>
  intro i hi
  have SF : i < l.length := by omega
  have hm' : i < m.length := by omega
  rw [List.range'_succ, List.forIn_cons, Sem.run_bind, Sem.run_bind, Nat.mul_one, q7 w he l i SF]
  simp only [Result.andThen]
  rw [Sem.run_bind, q7 w he m i hm']
  simp only [Result.andThen]
  rw [Sem.run_bind, EG w d he]
  simp only [Result.andThen]
  have e1 : (l.drop i = m.drop i) ↔ (l[i] = m[i] ∧ l.drop (i + 1) = m.drop (i + 1)) := by
   rw [List.drop_eq_getElem_cons SF, List.drop_eq_getElem_cons hm', List.cons.injEq]
  by_cases hx : l[i] = m[i]
  ·
   have hb : (!(l[i] == m[i])) = false := by simp [hx]
   simp only [hb, Bool.false_eq_true, if_false, Sem.run_pure]
   rw [ih (i + 1) (by omega)]
   by_cases h2 : l.drop (i + 1) = m.drop (i + 1)
   ·
    rw [if_pos h2, if_pos (e1.2 ⟨hx, h2⟩)]
   ·
    rw [if_neg h2, if_neg (fun h => h2 (e1.1 h).2)]
  ·
   have hb : (!(l[i] == m[i])) = true := by simp [hx]
   simp only [hb, if_true, Sem.run_pure]
   rw [if_neg (fun h => hx (e1.1 h).1)]
theorem p4 {t e : TypeId} {n : Nat} (d : Nat) (ht : eV P t = some (n, e)) (he : fR P e = some .u8) (hs : cB P e = some 1) (l m : List UInt8) (hl : l.length = n) (hm : m.length = n) :
  (Op.equalIn (d + 2) t (.agg (kc l).toArray) (.agg (kc m).toArray)).run P w = .ok (decide (l = m)) w := by
 rw [Op.equalIn]
 simp only [Sem.run_bind, run_underlying (eR ht), Result.andThen, cU hs]
 rw [Std.Legacy.Range.forIn_eq_forIn_range']
 have h := EF w d he l m n hl hm n 0 (by omega)
 simp only [List.drop_zero] at h
 have e : Std.Legacy.Range.size [0:n] = n := by simp [Std.Legacy.Range.size]
 rw [e]
 have h' : Sem.run P (forIn (m := Sem) (List.range' [:n].start n [:n].step) ((none, ()) : Option Bool × Unit) fun i _ => do
   let x ← part _ (kc l).toArray (i * 1)
   let y ← part _ (kc m).toArray (i * 1)
   let b ← Op.equalIn (d + 1) _ x y
   if (!b) = true then pure (ForInStep.done (some false, ())) else pure (ForInStep.yield (none, ()))) w = _ := h
 rw [h']
 by_cases hlm : l = m <;> simp [hlm]
end
section
variable {P : Program} {σ : Env} {o : Oper}
theorem PV.zW {t u e : TypeId} {x y : Operand} {n : Nat} {l m : List UInt8} (h : o.op = .binOp .eql t x y u) (ht : eV P t = some (n, e)) (he : fR P e = some .u8) (hs : cB P e = some 1) (hg : P.eqGuardType P.depth t = false)
  (hx : ev σ x = .agg (kc l).toArray) (hy : ev σ y = .agg (kc m).toArray) (hl : l.length = n) (hm : m.length = n) : PV P σ o (.bool (decide (l = m))) := fun w => by
 have h1 : (Op.equal t (.agg (kc l).toArray) (.agg (kc m).toArray)).run P w = .ok (decide (l = m)) w := p4 w 9998 ht he hs l m hl hm
 simp [execOp, h, hx, hy, eqGuard, hg, binOp, h1, program, Sem.run]
theorem PV.RO {t u e : TypeId} {x y : Operand} {n : Nat} {l m : List UInt8} (h : o.op = .binOp .neq t x y u) (ht : eV P t = some (n, e)) (he : fR P e = some .u8) (hs : cB P e = some 1) (hg : P.eqGuardType P.depth t = false)
  (hx : ev σ x = .agg (kc l).toArray) (hy : ev σ y = .agg (kc m).toArray) (hl : l.length = n) (hm : m.length = n) : PV P σ o (.bool (decide (l ≠ m))) := fun w => by
 have h1 : (Op.equal t (.agg (kc l).toArray) (.agg (kc m).toArray)).run P w = .ok (decide (l = m)) w := p4 w 9998 ht he hs l m hl hm
 simp [execOp, h, hx, hy, eqGuard, hg, binOp, h1, program, Sem.run]
end
theorem gR {w : World} {base base' : Nat} {e : TypeId} {size : Nat} {v : Value} {n : Nat} {xs : List Value} (h : w.ownsRow base' e size v n xs) (hb : base ≤ base') : w.ownsRow base e size v n xs := by
 obtain ⟨h1, h2⟩ := h
 refine ⟨h1, ?_⟩
 rcases h2 with h2 | ⟨g, cap, cur, rfl, hg, hh⟩
 ·
  exact .inl h2
 ·
  exact .inr ⟨g, cap, cur, rfl, by omega, hh⟩
theorem bJ.dJ {w : World} {base : Nat} {e : TypeId} {v : Value} {n : Nat} {l : List UInt8} (h : w.ownsRow base e 1 v n (kc l)) : bJ v l w := by
 have hl := h.1
 rw [aI, Nat.mul_one] at hl
 unfold bJ
 rw [hl]
 exact cN.dJ h
theorem bJ.bZ {w : World} {b : Nat} {e : TypeId} {l : List UInt8} {n : Nat} (h : aN w b e (kc l)) (hn : l.length = n) : bJ (.slice (some ⟨b, 0, none⟩) n n) l w := by
 subst hn
 exact cN.bZ h (by rw [aI, Nat.mul_one])
theorem bJ.nY {w : World} {a : Addr} {l : List UInt8} {n c : Nat} (h : dA w a (kc l)) (hn : l.length = n) (hc : n ≤ c) : bJ (.slice (some a) n c) l w := by
 subst hn
 exact cN.nY h (by rw [aI, Nat.mul_one]) hc
theorem bJ.nil (w : World) : bJ (.slice none 0 0) [] w := cN.nil w 1
theorem bJ.sub {w : World} {v : Value} {l : List UInt8} {lo hi : Nat} (h : bJ v l w) (h1 : lo ≤ hi) (h2 : hi ≤ l.length) : bJ (jJ v 1 lo hi) ((l.drop lo).take (hi - lo)) w := by
 have := cN.sub h h1 h2
 rw [Nat.mul_one, Nat.mul_one] at this
 have e : ((kc l).drop lo).take (hi - lo) = kc ((l.drop lo).take (hi - lo)) := by simp [kc, List.map_drop, List.map_take]
 rw [e] at this
 have e2 : ((l.drop lo).take (hi - lo)).length = hi - lo := by simp; omega
 unfold bJ
 rw [e2]
 exact this
def qH (vs : List Value) (ls : List (List UInt8)) (w : World) : Prop := vs.length = ls.length ∧ ∀ i (h : i < vs.length) (h' : i < ls.length), bJ vs[i] ls[i] w
theorem qH.nil (w : World) : qH [] [] w := ⟨rfl, fun i h => by cases h⟩
theorem qH.cons {w : World} {v : Value} {l : List UInt8} {vs : List Value} {ls : List (List UInt8)} (h : bJ v l w) (h' : qH vs ls w) : qH (v :: vs) (l :: ls) w :=
 ⟨by simp [h'.1], fun i hi hi' => by
  cases i with
  | zero => exact h
  | succ i => exact h'.2 i (by simpa using hi) (by simpa using hi')⟩
def kK (v : Value) (cs : List Value) (w : World) : Prop := cN w v 1 cs.length cs
theorem kK.rd {v : Value} {cs : List Value} {w : World} (h : kK v cs w) (i : Nat) (hi : i < cs.length) : dA w (jN v (i * 1)) [cs[i]] := by
 have h1 := cN.rd h i hi
 rwa [k5 _ i hi] at h1
theorem kK.bZ {w : World} {b : Nat} {e : TypeId} {cs : List Value} {n : Nat} (h : aN w b e cs) (hn : cs.length = n) : kK (.slice (some ⟨b, 0, none⟩) n n) cs w := by
 subst hn
 exact cN.bZ h (by rw [Nat.mul_one])
theorem uE {P : Program} (w : World) (base : Nat) {t ti ty e : TypeId} {zl : List Value} {bytes : Nat} {k : IntKind} (ht : lZ P t e zl bytes) (YF : fR P ti = some k) (n : Nat) (hn : 0 < n) (hz : 0 < zl.length) (hb : n * bytes ≤ 140737488355328) (hm : n ≤ maxLen) (hbase : base ≤ w.heap.size) :
  ∃ cap w' cs, (Builtin.append_ #[t, ti] ty #[.slice none 0 0, .int k (n : Int)]).run P w = .ok (.slice (some ⟨w.heap.size, 0, none⟩) n cap) w' ∧ n ≤ cap ∧
   w'.ownsRow base e zl.length (.slice (some ⟨w.heap.size, 0, none⟩) n cap) n cs ∧ Out Nil w w' := by
 obtain ⟨i, z, hi, hiz, V5, his, hib⟩ := ht.info
 have hmm : (n : Int) ≤ 9223372036854775807 := by unfold maxLen at hm; omega
 have hw : IntKind.i64.wrap (n : Int) = n := wrap64_in (by omega) hmm
 have hby : ¬ (281474976710656 : Int) < (n : Int) * (i.bytes : Int) := by
  rw [hib]
  have : ((n * bytes : Nat) : Int) ≤ 140737488355328 := by omega
  rw [Int.natCast_mul] at this
  omega
 have hns : n * i.size ≠ 0 := by rw [his]; exact Nat.ne_of_gt (Nat.mul_pos hn hz)
 have hge := grownCap_ge w n 0 e
 have CT : grownCap w n 0 e ≤ maxLen := grownCap_le_maxLen w n 0 e hm
 have jT : ¬ (281474976710656 < Builtin.nextslicecap n 0 * i.bytes) := by
  rw [nextslicecap_zero hn, hib]; omega
 have hn0 : n ≠ 0 := by omega
 have aJq : ¬ (9223372036854775807 < (n : Int)) := by omega
 have hneg : ¬ (n : Int) < 0 := by omega
 have hrun : (Builtin.append_ #[t, ti] ty #[.slice none 0 0, .int k (n : Int)]).run P w =
   .ok (.slice (some ⟨w.heap.size, 0, none⟩) n (grownCap w n 0 e)) (w.drew.alloc (.cells (Builtin.zeroCells z.cells n ++ Builtin.zeroCells z.cells (grownCap w n 0 e - n)) e)) := by
  simp [Builtin.append_, run_underlying (bX ht.und), run_underlying (gB YF), sizeOf, typeInfo, zeroValue, hi, hiz, asInt, asIntOf, hw, hneg, hby, hn0, aJq, jT, Question.forced, run_firstCells_none, newRow, grownCap]
  exact fun h => absurd h hns
 refine ⟨_, _, _, hrun, hge, ⟨?_, .inr ⟨w.heap.size, _, _, rfl, hbase, heap_alloc_new w.drew _, hge, CT, ?_, rfl⟩⟩, ?_⟩
 ·
  simp only [List.length_take, Array.length_toList, Array.size_append, size_zeroCells]
  have h1 : z.cells.size = zl.length := by rw [V5]; simp
  rw [h1]
  exact Nat.min_eq_left (Nat.le_add_right _ _)
 ·
  have h1 : z.cells.size = zl.length := by rw [V5]; simp
  simp only [Array.size_append, size_zeroCells, h1, ← Nat.add_mul]
  congr 1
  omega
 ·
  exact (Out.drew w).trans (Out.alloc w.drew _)
theorem RI {w : World} {base : Nat} {e : TypeId} {sz n cap g : Nat} {cs : List Value} (h : w.ownsRow base e sz (.slice (some ⟨g, 0, none⟩) n cap) n cs) : w.ownsRow base e sz (.slice (some ⟨g, 0, none⟩) 0 cap) 0 [] := by
 rcases h.2 with ⟨h, _⟩ | ⟨g', cap', cur, h2, hb, hh, hc, hm, hs, ht⟩
 ·
  cases h
 ·
  injection h2 with h3 h4 h5
  injection h3 with h3
  injection h3 with h3
  subst h3; subst h5
  exact ⟨by simp, .inr ⟨g, cap, cur, rfl, hb, hh, Nat.zero_le _, hm, hs, by simp⟩⟩
section
variable {r : Option Nat} {P : Program} {N : Nat} {σ : Env} {ds : List Deferred} {w : World} {ops : Array Oper} {rest : List Oper} {K : Env → List Deferred → World → Prop}
variable {X : Nat → Prop} {w0 : World} {O L : List aP} {Ps : List (World → Prop)}
theorem WL.GL {dst : Option Tmp} {t ti ty e : TypeId} {zl : List Value} {bytes : Nat} {k : IntKind} {x y : Operand} {pos : String} {after : Array Edge} {guard : Option (Nat × Bool)} {n : Nat}
  (H : St X w0 w O L Ps) (ht : lZ P t e zl bytes) (YF : fR P ti = some k) (hz : 0 < zl.length) (hx : ev σ x = .slice none 0 0) (hy : ev σ y = .int k (n : Int)) (hn : 0 < n) (hb : n * bytes ≤ 140737488355328) (zG : 0 < bytes)
  (hw : cH ops σ ⟨dst, .call ⟨.builtin .append, [x, y].toArray, [t, ti].toArray⟩, ty, pos, after, guard⟩ = true)
  (kk : ∀ g cap cs w', St X w0 w' O (aP.hU w0.heap.size (.slice (some ⟨g, 0, none⟩) n cap) e zl.length n cs :: L) Ps → WL r P N ops rest K (dD N σ dst (.slice (some ⟨g, 0, none⟩) n cap)) ds w') :
  WL r P N ops (⟨dst, .call ⟨.builtin .append, [x, y].toArray, [t, ti].toArray⟩, ty, pos, after, guard⟩ :: rest) K σ ds w := by
 have hm : n ≤ maxLen := by
  have : n * 1 ≤ n * bytes := Nat.mul_le_mul_left _ zG
  unfold maxLen; omega
 obtain ⟨cap, w', cs, hrun, _, hown, hO⟩ := uE (P := P) (ty := ty) w w0.heap.size ht YF n hn hz hb hm H.size
 refine WL.val (v := .slice (some ⟨w.heap.size, 0, none⟩) n cap) (w' := w') hw rfl ?_ (kk _ cap cs w' ?_)
 ·
  simp [execOp, resolve, invoke, builtin, hx, hy, hrun]
 ·
  refine H.push hO _ hown fun b hb => ?_
  have : some w.heap.size = some b := hb
  injection this with h; omega
theorem WL.aIt {o : Oper} {t e e' : TypeId} {x y : Operand} {k : IntKind} {g n cap sz : Nat} {cs : List Value} (H : St X w0 w O L Ps) (i : Nat) (h : o.op = .slice t x none (some y) none) (ht : c8 P t = some e') (he : (cB P e').isSome = true)
  (hx : ev σ x = .slice (some ⟨g, 0, none⟩) n cap) (hy : ev σ y = .int k 0) (hi : L[i]? = some (aP.hU w0.heap.size (.slice (some ⟨g, 0, none⟩) n cap) e sz n cs)) (hw : cH ops σ o = true)
  (kk : St X w0 w O (L.set i (aP.hU w0.heap.size (.slice (some ⟨g, 0, none⟩) 0 cap) e sz 0 [])) Ps → WL r P N ops rest K (dD N σ o.dst (.slice (some ⟨g, 0, none⟩) 0 cap)) ds w) : WL r P N ops (o :: rest) K σ ds w := by
 obtain ⟨m, hm⟩ := Option.isSome_iff_exists.1 he
 have h5 : ∀ a : Addr, a.add 0 = a := fun a => by unfold Addr.add; simp
 have hpv : PV P σ o (.slice (some ⟨g, 0, none⟩) 0 cap) := fun w => by
  simp [execOp, h, hx, hy, Instr.sliceAt, run_underlying (bX ht), Instr.slice, Instr.sliceBounds, run_sliceBound rfl (Int.le_refl 0) (show (0 : Int) ≤ (cap : Int) by omega), cU hm, h5]
 refine WL.pv hpv hw (kk ?_)
 refine H.oX hi (Out.refl _ w) _ (RI (H.l i hi)) fun b hb => .inl ?_
 have : some g = some b := hb
 exact this
end
def cpy (N : Nat) (σ : Env) (d : Option Nat) (x : Operand) : Env := dD N σ d (ev σ x)
section
variable {r : Option Nat} {P : Program} {N : Nat} {σ : Env} {ds : List Deferred} {w : World} {ops : Array Oper} {rest : List Oper} {o : Oper} {K : Env → List Deferred → World → Prop}
theorem WL.mv {x : Operand} (h : o.op = .move x) (hw : cH ops σ o = true) (k : WL r P N ops rest K (cpy N σ o.dst x) ds w) : WL r P N ops (o :: rest) K σ ds w := WL.pv (PV.move h) hw k
theorem WL.as {x : Operand} (h : o.op = .assign x) (hw : cH ops σ o = true) (k : WL r P N ops rest K (cpy N σ o.dst x) ds w) : WL r P N ops (o :: rest) K σ ds w := WL.pv (PV.assign h) hw k
theorem WP.mv {i : Nat} {t : Tree} {O : oN} {x : Operand} (hi : ops[i]? = some o) (hw : cH ops σ o = true) (h : o.op = .move x) (k : WP r P N ops K t O (cpy N σ o.dst x) ds w) : WP r P N ops K (.take i t) O σ ds w :=
 WP.aC hi hw (PV.move h) k
theorem WP.as {i : Nat} {t : Tree} {O : oN} {x : Operand} (hi : ops[i]? = some o) (hw : cH ops σ o = true) (h : o.op = .assign x) (k : WP r P N ops K t O (cpy N σ o.dst x) ds w) : WP r P N ops K (.take i t) O σ ds w :=
 WP.aC hi hw (PV.assign h) k
theorem PV.dP {c x y : Operand} {q : Bool} (h : o.op = .pick c x y) (hc : ev σ c = .bool true) (hx : ev σ x = .bool q) : PV P σ o (.bool q) := (PV.pick h hc).eq hx
theorem PV.dF {c x y : Operand} {q : Bool} (h : o.op = .pick c x y) (hc : ev σ c = .bool false) (hy : ev σ y = .bool q) : PV P σ o (.bool q) := (PV.pick h hc).eq hy
end
theorem St.forget {X : Nat → Prop} {w0 w : World} {O L : List aP} {Ps : List (World → Prop)} (H : St X w0 w O L Ps) (i : Nat) : St X w0 w O (L.eraseIdx i) Ps := by
 cases h : L[i]? with
 | none => rwa [List.eraseIdx_of_length_le (List.getElem?_eq_none_iff.1 h)]
 | some e => exact (H.freeze h).drop fun p hp => List.mem_cons_of_mem _ hp
def qD (m k : Nat) (l : List UInt8) : List UInt8 := l.take k ++ List.replicate (m - k) 0
theorem tE {m k : Nat} {l : List UInt8} (h : k ≤ m) (hl : k ≤ l.length) : (qD m k l).length = m := by
 simp [qD]; omega
theorem yD (m : Nat) (l : List UInt8) : qD m 0 l = List.replicate m 0 := by simp [qD]
theorem BA {m : Nat} {l : List UInt8} (h : l.length = m) : qD m m l = l := by
 subst h; simp [qD]
theorem A9 {m k : Nat} {l : List UInt8} (h : k < m) (hl : k < l.length) : (qD m k l).set k l[k] = qD m (k + 1) l := by
 unfold qD
 have e : m - k = (m - (k + 1)) + 1 := by omega
 have e3 : l.take (k + 1) = l.take k ++ [l[k]] := List.take_succ_eq_append_getElem hl
 have e2 : k - (l.take k).length = 0 := by simp; omega
 rw [e, List.replicate_succ, List.set_append_right _ _ (by simp; omega), e3, e2, List.append_assoc]
 rfl
section
variable {r : Option Nat} {P : Program} {N : Nat} {σ : Env} {ds : List Deferred} {w : World} {ops : Array Oper} {rest : List Oper} {K : Env → List Deferred → World → Prop}
variable {X : Nat → Prop} {w0 : World} {O L : List aP} {Ps : List (World → Prop)}
theorem WL.copy {dst : Option Tmp} {t t' ty e u : TypeId} {x y : Operand} {pos : String} {after : Array Edge} {guard : Option (Nat × Bool)} {b oo n c m : Nat} {v : Value} {cs l l' : List Value}
  (H : St X w0 w O L Ps) (i : Nat) (ht : c8 P t = some e) (hs : cB P e = some 1) (hx : ev σ x = .slice (some ⟨b, oo, none⟩) n c) (hi : L[i]? = some (aP.blk b u l)) (hy : ev σ y = v) (hv : cN w v 1 m cs)
  (h1 : eN cs) (hl : Laid l oo (cs.take (min m n)) l') (hw : cH ops σ ⟨dst, .call ⟨.builtin .copy, [x, y].toArray, [t, t'].toArray⟩, ty, pos, after, guard⟩ = true)
  (k : ∀ w', St X w0 w' O (L.set i (aP.blk b u l')) Ps → WL r P N ops rest K (dD N σ dst (.int .i64 (min m n : Nat))) ds w') :
  WL r P N ops (⟨dst, .call ⟨.builtin .copy, [x, y].toArray, [t, t'].toArray⟩, ty, pos, after, guard⟩ :: rest) K σ ds w := by
 subst hy
 have hb := H.l i hi
 obtain ⟨A, c', hA, hl2, hc, hn, hr⟩ := hv
 obtain ⟨inf, aE2, hsz⟩ := sX hs
 obtain ⟨hle, rfl⟩ := hl
 have YJ : (cs.take (min m n)).length = min m n := by rw [List.length_take, hl2]; omega
 cases A with
 | none =>
  obtain ⟨rfl, rfl⟩ := hn rfl
  have e0 : cs = [] := List.eq_nil_of_length_eq_zero (by simpa using hl2)
  subst e0
  refine WL.val (v := .int .i64 0) (w' := w) hw rfl ?_ ?_
  ·
   have := run_copy_nil (P := P) w t t' ty e ⟨b, oo, none⟩ n c (bX ht) (by rw [aE2]; rfl)
   simp [execOp, resolve, invoke, builtin, hx, hA, this, goInt]
  ·
   have := k w (by
    have e1 : l.take oo ++ ([] : List Value).take (min 0 n) ++ l.drop (oo + (([] : List Value).take (min 0 n)).length) = l := by simp
    rw [e1]
    exact H.oX hi (Out.refl _ w) _ hb fun _ h => .inl h)
   simpa using this
 | some a =>
  have hrun := run_copy_row (P := P) w t t' ty e b oo n c a m c' l.toArray u (cs.take (min m n)) (bX ht) (by rw [aE2]; simp [hsz]) hb YJ
   (fun j v hv => hr a rfl j v (by
    rw [List.getElem?_take] at hv
    split at hv
    ·
     exact hv
    ·
     cases hv)) (by simpa using hle) (fun v hv => h1 v (List.mem_of_mem_take hv))
  refine WL.val (v := .int .i64 (min m n : Nat)) (w' := w.setRow b (l.take oo ++ cs.take (min m n) ++ l.drop (oo + (cs.take (min m n)).length)).toArray) hw rfl ?_ (k _ ?_)
  ·
   simp [execOp, resolve, invoke, builtin, hx, hA, hrun, goInt, YJ]
  ·
   exact H.oX hi Out.setRow _ (setRow_heap w b _ _ u _ hb) fun _ h => .inl h
end
theorem cE {X : Nat → Prop} {p : World → Prop} {w : World} (h : aJ X p w) : aJ (YY X [] []) p w :=
 h.mono (by rintro b _ (h | ⟨_, h, _⟩ | ⟨_, h, _⟩) <;> first | exact h | cases h)
theorem St.begin {X : Nat → Prop} {w : World} (hX : ∀ b, X b → b < w.heap.size) : St X w w [] [] [] := St.start hX (fun _ h => by cases h) .nil (fun _ h => by cases h)
end Go.Sp
