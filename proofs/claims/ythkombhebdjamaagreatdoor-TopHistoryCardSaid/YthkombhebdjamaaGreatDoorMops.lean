/- Part of the proof of this claim: walks through the program's functions and the plain laws that they need, printed by a program of this session. -/
import Derived.Test.YthkombhebdjamaaGreatDoorOps
import Derived.Maps.AppendAt
namespace Go.Sp
open Go.RowKit
def cN (w : World) (v : Value) (sz n : Nat) (cs : List Value) : Prop :=
 ∃ A c, v = .slice A n c ∧ cs.length = n * sz ∧ n ≤ c ∧ (A = none → n = 0 ∧ c = 0) ∧ ∀ a, A = some a → dA w a cs
def jJ (v : Value) (sz lo hi : Nat) : Value := match v with
 | .slice A _ c => .slice (if c = lo then A else A.map (·.add (lo * sz))) (hi - lo) (c - lo)
 | v => v
def jN (v : Value) (k : Nat) : Addr := match v with
 | .slice (some a) _ _ => a.add k
 | _ => ⟨0, 0, none⟩
section
variable {w w' : World} {v : Value} {sz n lo hi : Nat} {cs : List Value}
theorem cN.nil (w : World) (sz : Nat) : cN w (.slice none 0 0) sz 0 [] := ⟨none, 0, rfl, by simp, Nat.le_refl _, fun _ => ⟨rfl, rfl⟩, fun _ h => by cases h⟩
theorem cN.len (h : cN w v sz n cs) : cs.length = n * sz := by obtain ⟨_, _, _, h, _⟩ := h; exact h
theorem cN.dJ {base : Nat} {e : TypeId} (h : w.ownsRow base e sz v n cs) : cN w v sz n cs := by
 rcases h.2 with ⟨rfl, rfl⟩ | ⟨g, cap, cur, rfl, hb, hh, hc, hm, hs, ht⟩
 ·
  have := h.1
  have e : cs = [] := List.eq_nil_of_length_eq_zero (by simpa using this)
  subst e
  exact cN.nil w sz
 ·
  exact ⟨some ⟨g, 0, none⟩, cap, rfl, h.1, hc, fun h => by (cases h), fun a ha => by
   injection ha with ha; subst ha
   exact fun j u hu => h.cells (g := g) rfl j u hu⟩
theorem cN.bZ {b : Nat} {e : TypeId} (h : aN w b e cs) (hl : cs.length = n * sz) : cN w (.slice (some ⟨b, 0, none⟩) n n) sz n cs :=
 ⟨_, n, rfl, hl, Nat.le_refl _, fun h => by (cases h), fun a ha => by injection ha with ha; subst ha; exact h.rd⟩
theorem cN.nY {a : Addr} {c : Nat} (h : dA w a cs) (hl : cs.length = n * sz) (hc : n ≤ c) : cN w (.slice (some a) n c) sz n cs :=
 ⟨_, c, rfl, hl, hc, fun h => by (cases h), fun a ha => by injection ha with ha; subst ha; exact h⟩
theorem cN.sub (h : cN w v sz n cs) (h1 : lo ≤ hi) (h2 : hi ≤ n) : cN w (jJ v sz lo hi) sz (hi - lo) ((cs.drop (lo * sz)).take ((hi - lo) * sz)) := by
 obtain ⟨A, c, rfl, hl, hc, hn, hr⟩ := h
 refine ⟨_, _, rfl, ?_, by omega, ?_, ?_⟩
 ·
  have : (hi - lo) * sz ≤ (n - lo) * sz := Nat.mul_le_mul_right _ (by omega)
  rw [List.length_take, List.length_drop, hl, ← Nat.sub_mul]
  omega
 ·
  intro hA
  by_cases e : c = lo
  ·
   rw [if_pos e] at hA; have := hn hA; omega
  ·
   rw [if_neg e] at hA
   cases A with
   | none => have := hn rfl; omega
   | some a => cases hA
 ·
  intro a ha
  by_cases e : c = lo
  ·
   have e1 : hi - lo = 0 := by omega
   rw [e1, Nat.zero_mul, List.take_zero]
   exact fun j u hu => by simp at hu
  ·
   rw [if_neg e] at ha
   cases A with
   | none => cases ha
   | some a' =>
    injection ha with ha
    subst ha
    exact (hr a' rfl).seg _ _
theorem cN.at_ (h : cN w v sz n cs) (i : Nat) (hi : i < n) : ∃ a c, v = .slice (some a) n c ∧ jN v (i * sz) = a.add (i * sz) ∧ dA w (jN v (i * sz)) ((cs.drop (i * sz)).take sz) := by
 obtain ⟨A, c, rfl, hl, hc, hn, hr⟩ := h
 cases A with
 | none => have := hn rfl; omega
 | some a => exact ⟨a, c, rfl, rfl, (hr a rfl).seg _ _⟩
theorem cN.rd (h : cN w v sz n cs) (i : Nat) (hi : i < n) : dA w (jN v (i * sz)) ((cs.drop (i * sz)).take sz) := by
 obtain ⟨_, _, _, _, h⟩ := h.at_ i hi; exact h
end
structure lZ (P : Program) (t e : TypeId) (zl : List Value) (bytes : Nat) : Prop where
 und : c8 P t = some e
 cells : cM P e = some zl
 size : cB P e = some zl.length
 aJ7 : KM P e = some bytes
section
variable {P : Program} {t e : TypeId} {zl : List Value} {bytes : Nat}
theorem lZ.info (h : lZ P t e zl bytes) : ∃ i z, P.info? e = some i ∧ i.zero = some z ∧ z.cells = zl.toArray ∧ i.size = zl.length ∧ i.bytes = bytes := by
 obtain ⟨_, h2, h3, h4⟩ := h
 unfold cM at h2
 unfold cB at h3
 unfold KM at h4
 cases hi : P.info? e with
 | none => rw [hi] at h3; cases h3
 | some i =>
  rw [hi] at h2 h3 h4
  simp only [Option.bind_some] at h2
  cases hz : i.zero with
  | none => rw [hz] at h2; cases h2
  | some z =>
   rw [hz] at h2
   simp only [Option.map_some, Option.some.injEq] at h2 h3 h4
   exact ⟨i, z, rfl, hz, by rw [← h2], h3, h4⟩
theorem gD {l : List Value} (h : cM P t = some l) (w : World) : ∃ z, (zeroValue t).run P w = .ok z w ∧ z.cells = l.toArray := by
 unfold cM at h
 cases hi : P.info? t with
 | none => rw [hi] at h; cases h
 | some i =>
  rw [hi] at h
  simp only [Option.bind_some] at h
  cases hz : i.zero with
  | none => rw [hz] at h; cases h
  | some z =>
   rw [hz] at h
   simp only [Option.map_some, Option.some.injEq] at h
   exact ⟨z, by simp [zeroValue, typeInfo, hi, hz], by rw [← h]⟩
end
theorem uD {P : Program} {w : World} {a : Addr} : ∀ (l : List Value), dA w a l → (loadCells a l.length).run P w = .ok l.toArray w := fun l h =>
 run_loadCells_list (P := P) w a l h
theorem pH {P : Program} {w : World} {a : Addr} {t : TypeId} {l : List Value} (ha : dK P t = some true) (hs : cB P t = some l.length) (h : dA w a l) :
  (loadVar t a).run P w = .ok (.agg l.toArray) w := by
 unfold loadVar
 simp [kQ ha, cU hs, uD l h]
theorem cV {P : Program} {w : World} {a : Addr} {t : TypeId} {v : Value} (ha : dK P t = some false) (h : dA w a [v]) :
  (loadVar t a).run P w = .ok v w := by
 have h0 := h 0 v rfl
 have e : a.add 0 = a := by unfold Addr.add; simp
 rw [e] at h0
 unfold loadVar
 simp [kQ ha, load, Sem.run, h0]
def RV (P : Program) (σ : Env) (o : Oper) (Y : World → Prop) (v : Value) : Prop := ∀ w, Y w → (execOp (ev σ) o).run P w = .ok (.value v) w
section
variable {P : Program} {σ : Env} {o : Oper} {x : Operand} {t : TypeId} {a : Addr}
theorem RV.K7 {l : List Value} (h : o.op = .load t x) (ha : dK P t = some true) (hs : cB P t = some l.length) (hx : ev σ x = .pointer (some a)) :
  RV P σ o (fun w => dA w a l) (.agg l.toArray) := fun w hr => by
 simp [execOp, h, Instr.loadAt, hx, Instr.sureAddr, pH ha hs hr]
theorem RV.aV {v : Value} (h : o.op = .load t x) (ha : dK P t = some false) (hx : ev σ x = .pointer (some a)) :
  RV P σ o (fun w => dA w a [v]) v := fun w hr => by
 simp [execOp, h, Instr.loadAt, hx, Instr.sureAddr, cV ha hr]
end
section
variable {r : Option Nat} {P : Program} {N : Nat} {σ : Env} {ds : List Deferred} {w : World} {ops : Array Oper} {rest : List Oper} {o : Oper} {K : Env → List Deferred → World → Prop}
variable {X : Nat → Prop} {w0 : World} {O L : List aP} {Ps : List (World → Prop)}
theorem pJ {t : TypeId} {x : Operand} (h : o.op = .load t x) : eW o = true := by unfold eW; rw [h]
theorem rM {t : TypeId} {z : Value} {l : List Value} (hc : z.cells = l.toArray) (w : World) : (newVar t z).run P w = .ok ⟨w.heap.size, 0, none⟩ (w.alloc (.cells l.toArray t)) := by
 unfold newVar newRow newObj
 rw [hc]
 rfl
theorem kP {t : TypeId} {l : List Value} (w : World) : (newRow t l.toArray).run P w = .ok ⟨w.heap.size, 0, none⟩ (w.alloc (.cells l.toArray t)) := rfl
theorem WL.aEG {t : TypeId} {x : Operand} {a : Addr} {l : List Value} (h : o.op = .load t x) (ha : dK P t = some true) (hs : cB P t = some l.length) (hw : cH ops σ o = true)
  (hx : ev σ x = .pointer (some a)) (hr : dA w a l) (k : WL r P N ops rest K (dD N σ o.dst (.agg l.toArray)) ds w) : WL r P N ops (o :: rest) K σ ds w :=
 WL.val hw (pJ h) (RV.K7 h ha hs hx w hr) k
theorem WL.aY {t : TypeId} {x : Operand} {a : Addr} {v : Value} (h : o.op = .load t x) (ha : dK P t = some false) (hw : cH ops σ o = true)
  (hx : ev σ x = .pointer (some a)) (hr : dA w a [v]) (k : WL r P N ops rest K (dD N σ o.dst v) ds w) : WL r P N ops (o :: rest) K σ ds w :=
 WL.val hw (pJ h) (RV.aV h ha hx w hr) k
theorem WL.alloc {t : TypeId} {l : List Value} (H : St X w0 w O L Ps) (h : o.op = .alloc t) (ht : cM P t = some l) (hw : cH ops σ o = true)
  (k : ∀ b w', St X w0 w' O (aP.blk b t l :: L) Ps → WL r P N ops rest K (dD N σ o.dst (.pointer (some ⟨b, 0, none⟩))) ds w') : WL r P N ops (o :: rest) K σ ds w := by
 obtain ⟨z, hz, hc⟩ := gD ht w
 refine WL.val (v := .pointer (some ⟨w.heap.size, 0, none⟩)) (w' := w.alloc (.cells l.toArray t)) hw (by unfold eW; rw [h]) ?_ (k _ _ ?_)
 ·
  simp [execOp, h, Instr.alloc, hz, rM hc]
 ·
  exact H.push (Out.alloc w _) _ (heap_alloc_new w _) fun b hb => by (cases hb; exact Nat.le_refl _)
theorem WL.box {t : TypeId} {x : Operand} {l : List Value} (H : St X w0 w O L Ps) (h : o.op = .box t x) (hx : (ev σ x).cells = l.toArray) (hw : cH ops σ o = true)
  (k : ∀ b w', St X w0 w' O (aP.blk b t l :: L) Ps → WL r P N ops rest K (dD N σ o.dst (.pointer (some ⟨b, 0, none⟩))) ds w') : WL r P N ops (o :: rest) K σ ds w := by
 refine WL.val (v := .pointer (some ⟨w.heap.size, 0, none⟩)) (w' := w.alloc (.cells l.toArray t)) hw (by unfold eW; rw [h]) ?_ (k _ _ ?_)
 ·
  simp [execOp, h, Instr.box, rM hx]
 ·
  exact H.push (Out.alloc w _) _ (heap_alloc_new w _) fun b hb => by (cases hb; exact Nat.le_refl _)
def eN (l : List Value) : Prop := ∀ v ∈ l, v.oneCell' = true
theorem Out.setRow {w : World} {g : Nat} {cs : Array Value} : Out (· = g) w (w.setRow g cs) :=
 ⟨rfl, rfl, rfl, by simp [World.setRow], fun b _ hm => by simp only [World.setRow, Array.getElem?_modify]; rw [if_neg (fun e => hm e.symm)]⟩
def Laid (l : List Value) (o : Nat) (new l' : List Value) : Prop := o + new.length ≤ l.length ∧ l' = l.take o ++ new ++ l.drop (o + new.length)
theorem Laid.all {l new : List Value} (h : new.length = l.length) : Laid l 0 new new := ⟨by omega, by simp [h]⟩
theorem Laid.one {l : List Value} {o : Nat} {v : Value} (h : o < l.length) : Laid l o [v] (l.set o v) := ⟨by simp; omega, by
 rw [List.set_eq_take_append_cons_drop, if_pos h]; simp⟩
theorem Laid.left {a b new a' : List Value} {o : Nat} (h : Laid a o new a') : Laid (a ++ b) o new (a' ++ b) := by
 obtain ⟨h1, rfl⟩ := h
 refine ⟨by simp; omega, ?_⟩
 rw [List.take_append_of_le_length (by omega), List.drop_append_of_le_length (by omega)]
 simp
theorem Laid.right {a b new b' : List Value} {o p : Nat} (h : Laid b o new b') (hp : p = a.length + o) : Laid (a ++ b) p new (a ++ b') := by
 obtain ⟨h1, rfl⟩ := h
 subst hp
 refine ⟨by rw [List.length_append]; omega, ?_⟩
 have e1 : (a ++ b).take (a.length + o) = a ++ b.take o := by rw [List.take_append, List.take_of_length_le (by omega)]; congr 2; omega
 have e2 : (a ++ b).drop (a.length + o + new.length) = b.drop (o + new.length) := by rw [List.drop_append, List.drop_eq_nil_of_le (by omega), List.nil_append]; congr 1; omega
 rw [e1, e2]
 simp
theorem Laid.tail {x : Value} {b new b' : List Value} {o p : Nat} (h : Laid b o new b') (hp : p = o + 1) : Laid (x :: b) p new (x :: b') :=
 Laid.right (a := [x]) h (by simp; omega)
theorem Laid.head {x v : Value} {b : List Value} : Laid (x :: b) 0 [v] (v :: b) := ⟨by simp, by simp⟩
theorem nS {b oo : Nat} {t u : TypeId} {l l' new : List Value} {v : Value} (hb : aN w b t l) (hv : v.cells = new.toArray) (hs : cB P u = some new.length) (h1 : eN new) (hl : Laid l oo new l') :
  (storeVar u ⟨b, oo, none⟩ v).run P w = .ok () (w.setRow b l'.toArray) := by
 obtain ⟨hle, rfl⟩ := hl
 have h := run_storeCells_at P b oo t new 0 l.toArray w hb (by simpa using hle) h1
 unfold storeVar
 simp [cU hs, hv, h]
theorem WL.aW {t u : TypeId} {x y : Operand} {b oo : Nat} {l l' new : List Value} (H : St X w0 w O L Ps) (i : Nat) (h : o.op = .store u x y) (hx : ev σ x = .pointer (some ⟨b, oo, none⟩)) (hi : L[i]? = some (aP.blk b t l))
  (hv : (ev σ y).cells = new.toArray) (hs : cB P u = some new.length) (h1 : eN new) (hl : Laid l oo new l') (hw : cH ops σ o = true)
  (k : ∀ w', St X w0 w' O (L.set i (aP.blk b t l')) Ps → WL r P N ops rest K (dD N σ o.dst undef) ds w') : WL r P N ops (o :: rest) K σ ds w := by
 have hb := H.l i hi
 refine WL.unit (w' := w.setRow b l'.toArray) hw (by unfold eW; rw [h]) ?_ (k _ ?_)
 ·
  simp [execOp, h, Instr.storeAt, hx, Instr.sureAddr, nS hb hv hs h1 hl]
 ·
  exact H.oX hi Out.setRow _ (setRow_heap w b _ _ t _ hb) fun _ h => .inl h
theorem WL.lH {t u : TypeId} {x y : Operand} {b oo : Nat} {l l' new : List Value} (H : St X w0 w O L Ps) (i : Nat) (h : o.op = .store u x y) (hx : ev σ x = .pointer (some ⟨b, oo, none⟩)) (hi : O[i]? = some (aP.blk b t l))
  (hv : (ev σ y).cells = new.toArray) (hs : cB P u = some new.length) (h1 : eN new) (hl : Laid l oo new l') (hw : cH ops σ o = true)
  (k : ∀ w', St X w0 w' (O.set i (aP.blk b t l')) L Ps → WL r P N ops rest K (dD N σ o.dst undef) ds w') : WL r P N ops (o :: rest) K σ ds w := by
 have hb := H.o i hi
 refine WL.unit (w' := w.setRow b l'.toArray) hw (by unfold eW; rw [h]) ?_ (k _ ?_)
 ·
  simp [execOp, h, Instr.storeAt, hx, Instr.sureAddr, nS hb hv hs h1 hl]
 ·
  exact H.vP hi Out.setRow _ (setRow_heap w b _ _ t _ hb) fun _ => Iff.rfl
theorem WL.buildSlice {t e : TypeId} {zl : List Value} {bytes len : Nat} {parts : List (Nat × Operand)} {l : List Value} (H : St X w0 w O L Ps) (h : o.op = .buildSlice t len parts.toArray) (ht : lZ P t e zl bytes)
  (hsmall : len * zl.length ≤ 16777216)
  (FD : Instr.fill (fun i => some (i * zl.length, zl.length)) ((Array.range (len * zl.length)).map (zl.toArray[· % zl.toArray.size]!)) (parts.map fun p => (p.1, ev σ p.2)) = some l.toArray) (hw : cH ops σ o = true)
  (k : ∀ b w', St X w0 w' O (aP.blk b e l :: L) Ps → WL r P N ops rest K (dD N σ o.dst (.slice (some ⟨b, 0, none⟩) len len)) ds w') : WL r P N ops (o :: rest) K σ ds w := by
 obtain ⟨z, hz, hc⟩ := gD ht.cells w
 refine WL.val (v := .slice (some ⟨w.heap.size, 0, none⟩) len len) (w' := w.alloc (.cells l.toArray e)) hw (by unfold eW; rw [h]) ?_ (k _ _ ?_)
 ·
  have WA : ¬ (16777216 < len * zl.length) := by omega
  have key : (Instr.buildSlice t len (parts.map fun p => (p.1, ev σ p.2)).toArray).run P w = .ok (.slice (some ⟨w.heap.size, 0, none⟩) len len) (w.alloc (.cells l.toArray e)) := by
   unfold Instr.buildSlice
   simp only [Sem.run_bind, run_underlying (bX ht.und), Result.andThen, cU ht.size]
   rw [if_neg (by simpa using WA)]
   by_cases h0 : len * zl.length = 0
   ·
    have e1 : ((Array.range (len * zl.length)).map (zl.toArray[· % zl.toArray.size]!)) = (#[] : Array Value) := by rw [h0]; simp
    rw [e1] at FD
    have e3 : ∀ f : Nat → Value, (Array.range 0).map f = #[] := fun f => Array.eq_empty_of_size_eq_zero (by simp)
    simp [h0, e3, FD, kP]
   ·
    simp only [Sem.run_bind, if_neg h0, hz, Result.andThen, Sem.run_pure, hc, FD]
    simp [kP]
  simp [execOp, h, key]
 ·
  exact H.push (Out.alloc w _) _ (heap_alloc_new w _) fun b hb => by (cases hb; exact Nat.le_refl _)
theorem St.AE (H : St X w0 w O L Ps) {i b n : Nat} {e : TypeId} {l : List Value} {sz : Nat} (hi : L[i]? = some (aP.blk b e l)) (hl : l.length = n * sz) (hm : n ≤ maxLen) :
  St X w0 w O (L.set i (aP.hU w0.heap.size (.slice (some ⟨b, 0, none⟩) n n) e sz n l)) Ps := by
 have hb := H.l i hi
 have hg := H.kF _ (List.mem_of_getElem? hi) b rfl
 refine H.oX hi (Out.refl _ w) _ ⟨hl, .inr ⟨b, n, l.toArray, rfl, hg, hb, Nat.le_refl _, hm, by simpa using hl, List.take_of_length_le (by simp; omega)⟩⟩ ?_
 intro x hx
 refine .inl ?_
 have : some b = some x := hx
 injection this with h; exact h.symm
theorem q8 (base : Nat) {t ty e : TypeId} {zl : List Value} {bytes : Nat} (ht : lZ P t e zl bytes) (hz : 0 < zl.length) {v x : Value} {n m : Nat} {xs news : List Value} (hown : w.ownsRow base e zl.length v n xs) (hx : cN w x zl.length m news)
  (h1 : eN news) (h63 : n + m ≤ maxLen) (hbytes : (n + m) * bytes ≤ 140737488355328) (hbase : base ≤ w.heap.size) :
  ∃ v' w', (Builtin.append_ #[t, t] ty #[v, x]).run P w = .ok v' w' ∧ w'.ownsRow base e zl.length v' (n + m) (xs ++ news) ∧ w.grownBy w' v.ownBlock ∧ (∀ b, v'.ownBlock = some b → v.ownBlock = some b ∨ w.heap.size ≤ b) := by
 obtain ⟨i, z, hi, hiz, V5, his, hib⟩ := ht.info
 obtain ⟨A, c, rfl, hl, hc, hn, hr⟩ := hx
 have hzs : z.cells.size = zl.length := by rw [V5]; simp
 cases A with
 | none =>
  obtain ⟨rfl, rfl⟩ := hn rfl
  have e : news = [] := List.eq_nil_of_length_eq_zero (by simpa using hl)
  subst e
  refine ⟨v, w, ?_, by simpa using hown, World.grownBy.refl w _, fun b hb => .inl hb⟩
  rcases hown.2 with ⟨rfl, rfl⟩ | ⟨g, cap, cur, rfl, _, _, hnc, _⟩
  ·
   simp [Builtin.append_, run_underlying (bX ht.und), sizeOf, typeInfo, hi, Builtin.lenOf, Builtin.firstCells]
  ·
   simp [Builtin.append_, run_underlying (bX ht.und), sizeOf, typeInfo, hi, Builtin.lenOf, Builtin.firstCells, hnc, storeCells]
 | some a =>
  obtain ⟨v', w', hrun, A4, hg, _, h5⟩ := run_append_own_at (P := P) w base t ty e i z zl.length bytes (bX ht.und) hi hiz his hib hzs hz v n xs hown a m c news hl (hr a rfl) h1 h63 hbytes hbase
  refine ⟨v', w', hrun, A4, hg, fun b hb => ?_⟩
  rcases h5 with h5 | h5
  ·
   exact .inl (by rw [← h5]; exact hb)
  ·
   rw [h5] at hb; injection hb with hb; exact .inr (by omega)
theorem WL.append {dst : Option Tmp} {t ty e : TypeId} {zl : List Value} {bytes : Nat} {x y : Operand} {pos : String} {after : Array Edge} {guard : Option (Nat × Bool)} {v u : Value} {n m : Nat} {xs news : List Value}
  (H : St X w0 w O L Ps) (i : Nat) (ht : lZ P t e zl bytes) (hz : 0 < zl.length) (hi : L[i]? = some (aP.hU w0.heap.size v e zl.length n xs)) (hx : ev σ x = v) (hy : ev σ y = u) (hu : cN w u zl.length m news)
  (h1 : eN news) (hb : (n + m) * bytes ≤ 140737488355328) (zG : 0 < bytes) (hw : cH ops σ ⟨dst, .call ⟨.builtin .append, [x, y].toArray, [t, t].toArray⟩, ty, pos, after, guard⟩ = true)
  (k : ∀ v' w', St X w0 w' O (L.set i (aP.hU w0.heap.size v' e zl.length (n + m) (xs ++ news))) Ps → WL r P N ops rest K (dD N σ dst v') ds w') :
  WL r P N ops (⟨dst, .call ⟨.builtin .append, [x, y].toArray, [t, t].toArray⟩, ty, pos, after, guard⟩ :: rest) K σ ds w := by
 subst hx; subst hy
 have h63 : n + m ≤ maxLen := by
  have : (n + m) * 1 ≤ (n + m) * bytes := Nat.mul_le_mul_left _ zG
  unfold maxLen
  omega
 obtain ⟨v', w', hrun, A4, hg, hblk⟩ := q8 (P := P) (ty := ty) w0.heap.size ht hz (H.l i hi) hu h1 h63 hb H.size
 refine WL.val (v := v') (w' := w') hw rfl ?_ (k v' w' ?_)
 ·
  simp [execOp, resolve, invoke, builtin, hrun]
 ·
  exact H.oX hi (Out.grown hg) _ A4 hblk
end
end Go.Sp
