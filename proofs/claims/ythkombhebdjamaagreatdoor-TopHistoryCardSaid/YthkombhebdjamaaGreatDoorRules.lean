/- Part of the proof of this claim: walks through the program's functions and the plain laws that they need, printed by a program of this session. -/
import Derived.Test.YthkombhebdjamaaGreatDoorIter
import Derived.Laws.Cover3
namespace Go.Sp
open Go.RowKit
section
variable {P : Program} {σ : Env} {o : Oper}
theorem PV.aCa {dst : Option Tmp} {x y : Operand} {qV : Array TypeId} {ty : TypeId} {pos : String} {after : Array Edge} {guard : Option (Nat × Bool)} {k : IntKind} {a b : Int}
  (hx : ev σ x = .int k a) (hy : ev σ y = .int k b) : PV P σ ⟨dst, .call ⟨.builtin .min, [x, y].toArray, qV⟩, ty, pos, after, guard⟩ (.int k (min a b)) := fun w => by
 have e : (if b < a then b else a) = min a b := by by_cases h : b < a <;> simp [h] <;> omega
 simp [execOp, resolve, invoke, builtin, Builtin.min_, Builtin.min2, hx, hy, e]
theorem PV.aEF {dst : Option Tmp} {x y : Operand} {qV : Array TypeId} {ty : TypeId} {pos : String} {after : Array Edge} {guard : Option (Nat × Bool)} {k : IntKind} {a b : Int}
  (hx : ev σ x = .int k a) (hy : ev σ y = .int k b) : PV P σ ⟨dst, .call ⟨.builtin .max, [x, y].toArray, qV⟩, ty, pos, after, guard⟩ (.int k (max a b)) := fun w => by
 have e : (if a < b then b else a) = max a b := by by_cases h : a < b <;> simp [h] <;> omega
 simp [execOp, resolve, invoke, builtin, Builtin.max_, Builtin.max2, hx, hy, e]
def nE (v : Value) (sz lo hi : Nat) : Value := match v with
 | .slice A _ _ => .slice (if hi = lo then A else A.map (·.add (lo * sz))) (hi - lo) (hi - lo)
 | v => v
theorem PV.aBN {t e : TypeId} {x y z u : Operand} {w1 : World} {v : Value} {sz n : Nat} {cs : List Value} {i j : Int} {k k' k'' : IntKind} (h : o.op = .slice t x (some y) (some z) (some u)) (hs : cN w1 v sz n cs) (ht : c8 P t = some e) (he : cB P e = some sz)
  (hx : ev σ x = v) (hy : ev σ y = .int k i) (hz : ev σ z = .int k' j) (hu : ev σ u = .int k'' j) (h0 : 0 ≤ i ∧ i ≤ j) (h1 : j ≤ n) : PV P σ o (nE v sz i.toNat j.toNat) := fun w => by
 obtain ⟨A, c, rfl, h2, h3, _⟩ := hs
 have h4 : j ≤ (c : Int) := by omega
 have h5 : i ≤ (j.toNat : Int) := by omega
 have h6 : j ≤ (j.toNat : Int) := by omega
 simp [execOp, h, hx, hy, hz, hu, Instr.sliceAt, run_underlying (bX ht), Instr.slice, Instr.sliceBounds, run_sliceBound rfl (show 0 ≤ j by omega) h4, run_sliceBound rfl (show 0 ≤ j by omega) h6, run_sliceBound rfl h0.1 h5, cU he, nE]
end
theorem cN.MY {w : World} {v : Value} {sz n lo hi : Nat} {cs : List Value} (h : cN w v sz n cs) (h1 : lo ≤ hi) (h2 : hi ≤ n) : cN w (nE v sz lo hi) sz (hi - lo) ((cs.drop (lo * sz)).take ((hi - lo) * sz)) := by
 obtain ⟨A, c, rfl, hl, hc, hn, hr⟩ := h
 refine ⟨_, _, rfl, ?_, Nat.le_refl _, ?_, ?_⟩
 ·
  have : (hi - lo) * sz ≤ (n - lo) * sz := Nat.mul_le_mul_right _ (by omega)
  rw [List.length_take, List.length_drop, hl, ← Nat.sub_mul]
  omega
 ·
  intro hA
  by_cases e : hi = lo
  ·
   omega
  ·
   rw [if_neg e] at hA
   cases A with
   | none => have := hn rfl; omega
   | some a => cases hA
 ·
  intro a ha
  by_cases e : hi = lo
  ·
   have e1 : hi - lo = 0 := by omega
   rw [e1, Nat.zero_mul, List.take_zero]
   exact fun j u hu => by simp at hu
  ·
   rw [if_neg e] at ha
   cases A with
   | none => cases ha
   | some a' =>
    injection ha with ha
    subst ha
    exact (hr a' rfl).seg _ _
theorem bJ.MY {w : World} {v : Value} {l : List UInt8} {lo hi : Nat} (h : bJ v l w) (h1 : lo ≤ hi) (h2 : hi ≤ l.length) : bJ (nE v 1 lo hi) ((l.drop lo).take (hi - lo)) w := by
 have := cN.MY h h1 h2
 rw [Nat.mul_one, Nat.mul_one] at this
 have e : ((kc l).drop lo).take (hi - lo) = kc ((l.drop lo).take (hi - lo)) := by simp [kc, List.map_drop, List.map_take]
 rw [e] at this
 have e2 : ((l.drop lo).take (hi - lo)).length = hi - lo := by simp; omega
 unfold bJ
 rw [e2]
 exact this
section
variable {C T : Nat → Prop} {w0 w w' : World} {Ps : List (World → Prop)}
theorem Kept.bK {X : Nat → Prop} {p : World → Prop} (hk : Kept T C w0 w w') (hT : ∀ c, T c → X c ∨ w0.heap.size ≤ c) (h : aJ (fun c => C c ∨ X c) p w0) : aJ (fun c => C c ∨ X c) p w' := fun w2 h2 => by
 refine h w2 fun b hb hn => ?_
 rw [h2 b (Nat.lt_of_lt_of_le hb hk.size) hn]
 refine hk.old b hb (fun hc => hn (.inl hc)) fun ht => ?_
 rcases hT b ht with h3 | h3
 ·
  exact hn (.inr h3)
 ·
  omega
theorem St.JU (hC : ∀ b, C b → b < w0.heap.size) (hk : Kept T C w0 w w') (hT : ∀ c, T c → w0.heap.size ≤ c) (hP : ∀ p ∈ Ps, aJ C p w0) : St C w' w' [] [] Ps :=
 St.start (fun b hb => Nat.lt_of_lt_of_le (hC b hb) hk.size) (fun _ h => by cases h) .nil fun p hp => by
  have h1 := hk.bK (X := Nil) (fun c hc => .inr (hT c hc)) ((hP p hp).mono fun b _ hb => hb.elim id False.elim)
  exact h1.mono fun b _ hb => by
   rcases hb with h | ⟨_, h, _⟩ | ⟨_, h, _⟩
   ·
    exact .inl h
   ·
    cases h
   ·
    cases h
theorem St.aC6 {b : Nat} {t : TypeId} {l : List Value} (hC : ∀ b, C b → b < w0.heap.size) (hk : Kept T C w0 w w') (hT : ∀ c, T c → c = b ∨ w0.heap.size ≤ c) (hb : T b) (hB : aN w b t l) (hP : ∀ p ∈ Ps, aJ (fun c => C c ∨ c = b) p w0) : St C w' w' [aP.blk b t l] [] Ps :=
 St.start (fun b hb => Nat.lt_of_lt_of_le (hC b hb) hk.size) (by
   intro e he
   simp at he
   subst he
   exact hB.of_eq (hk.blk b hb).2) (by simp) fun p hp => by
  have h1 := hk.bK (X := (· = b)) hT (hP p hp)
  exact h1.mono fun c _ hc => by
   rcases hc with h | ⟨e, h, hf⟩ | ⟨_, h, _⟩
   ·
    exact .inl h
   ·
    simp at h; subst h; exact .inr hf
   ·
    cases h
end
section
variable {X : Nat → Prop} {w0 w W0 : World} {O L : List aP} {Ps : List (World → Prop)} {It : Nat → Prop}
theorem St.wD (H : St X w0 w O L Ps) : St X w0 w O (aP.set Nil :: L) Ps := H.push (Out.refl _ _) _ (fun _ h => h.elim) fun _ h => h.elim
theorem St.UF (H : St X w0 w O (aP.set It :: L) Ps) (hO : Out Nil w W0) : ∀ b, CC X O L w W0 b → b < W0.heap.size := fun b hb => by
 rcases hb with h | h
 ·
  exact Nat.lt_of_lt_of_le (H.yL.aR b h) hO.size
 ·
  exact h.2
theorem St.aBk (H : St X w0 w O (aP.set It :: L) Ps) {b : Nat} (hb : It b) : ¬ CC X O L w W0 b := fun hc => by
 have hg := H.kF _ List.mem_cons_self b hb
 have hlt := H.l 0 rfl b hb
 rcases hc with (h | ⟨e, he, h⟩ | ⟨e, he, h⟩) | h
 ·
  have := H.AA b h; omega
 ·
  have := H.uI e he b h; omega
 ·
  exact (List.pairwise_cons.1 H.iM).1 e he b ⟨hb, h⟩
 ·
  omega
theorem St.F7 {p : World → Prop} (H : St X w0 w O (aP.set It :: L) Ps) (hO : Out Nil w W0) (i : Nat) (hp : Ps[i]? = some p) : aJ (fun b => CC X O L w W0 b ∨ It b) p W0 :=
 (H.bK i hp).out hO (fun _ _ h => h.elim) fun b hb h => by
  rcases h with (h | h) | h
  ·
   rcases h with h | h | ⟨e, he, h⟩
   ·
    exact .inl h
   ·
    exact .inr (.inl h)
   ·
    exact .inr (.inr ⟨e, List.mem_cons_of_mem _ he, h⟩)
  ·
   omega
  ·
   exact .inr (.inr ⟨_, List.mem_cons_self, h⟩)
theorem St.rZ {p : World → Prop} (H : St X w0 w O (aP.set Nil :: L) Ps) (hO : Out Nil w W0) (i : Nat) (hp : Ps[i]? = some p) : aJ (CC X O L w W0) p W0 :=
 (H.F7 hO i hp).mono fun _ _ h => .inl h
end
theorem St.tY {P : Program} {X : Nat → Prop} {w0 w : World} {O L : List aP} {Ps : List (World → Prop)} {d : Nat} {ds : List Deferred} (H : St X w0 w O L Ps) (i : Nat) (hi : L[i]? = some (aP.obj d (.deferred (some [])))) :
  ∃ w', (∀ w'', rJ P ds w' w'' → rJ P ({ target := .collected d, args := #[] } :: ds) w w'') ∧ St X w0 w' O (L.eraseIdx i) Ps := by
 have h := H.l i hi
 refine ⟨w.putObj d (.deferred none), fun w'' hl => .mark rfl (run_takeDeferred h) hl, ?_⟩
 have H1 := H.oX hi (fM (W := w) (l := d) (.deferred none)) (aP.set Nil) (fun b hb => hb.elim) fun b hb => hb.elim
 have H2 := H1.forget i
 have e : (L.set i (aP.set Nil)).eraseIdx i = L.eraseIdx i := by
  simp [List.eraseIdx_set_eq]
 rwa [e] at H2
section
variable {r : Option Nat} {P : Program} {N : Nat} {σ : Env} {ds : List Deferred} {w : World} {ops : Array Oper} {o : Oper} {rest : List Oper} {K : Env → List Deferred → World → Prop}
variable {X : Nat → Prop} {w0 : World} {O L : List aP} {Ps : List (World → Prop)}
end
def IU : Value → Bool
 | .slice A _ _ => A.isNone
 | _ => true
theorem cN.RN {w : World} {v : Value} {sz n : Nat} {cs : List Value} (h : cN w v sz n cs) (hn : IU v = true) : n = 0 := by
 obtain ⟨A, c, rfl, _, _, h3, _⟩ := h
 cases A with
 | none => exact (h3 rfl).1
 | some a => cases hn
section
variable {P : Program} {σ : Env} {o : Oper} {x y : Operand} {t u e : TypeId}
theorem PV.aBi {w1 : World} {v : Value} {sz n : Nat} {cs : List Value} (h : o.op = .binOp .eql t x y u) (hs : cN w1 v sz n cs) (ht : c8 P t = some e) (hx : ev σ x = v) (hy : ev σ y = .slice none 0 0) : PV P σ o (.bool (IU v)) := fun w => by
 obtain ⟨A, c, rfl, _⟩ := hs
 have h1 : (Op.equal t (.slice A n c) (.slice none 0 0)).run P w = .ok A.isNone w := run_equal_slice_nil w t e A n c (bX ht)
 simp [execOp, h, hx, hy, eqGuard, binOp, h1, IU]
theorem PV.jP {a : Option Addr} (h : o.op = .binOp .eql t x y u) (ht : sC P t = some e) (hx : ev σ x = .pointer a) (hy : ev σ y = .pointer none) : PV P σ o (.bool a.isNone) := fun w => by
 have h1 : (Op.equal t (.pointer a) (.pointer none)).run P w = .ok a.isNone w := by
  show (Op.equalIn (9999 + 1) t _ _).run P w = _
  rw [Op.equalIn]
  simp only [Sem.run_bind, run_underlying (wU ht), Result.andThen]
  cases a <;> rfl
 simp [execOp, h, hx, hy, eqGuard, binOp, h1]
end
theorem XB {X : Nat → Prop} {w w' : World} (hX : ∀ b, X b → b < w.heap.size) {b : Nat} {t : TypeId} {l : List Value} (hb : w.heap.size ≤ b) (h : aN w' b t l) : aJ X (fun w => aN w b t l) w' := fun w2 h2 =>
 h.of_eq (h2 b h.lt fun hx => by have := hX b hx; omega)
theorem mT {X : Nat → Prop} {w w' : World} (hX : ∀ b, X b → b < w.heap.size) {v : Value} {e : TypeId} {sz n : Nat} {l : List Value} (h : w'.ownsRow w.heap.size e sz v n l) : aJ X (fun w2 => w2.ownsRow w.heap.size e sz v n l) w' := fun w2 h2 =>
 nW h fun b hb => h2 b (h.lt b hb).2 fun hx => by have := hX b hx; have := (h.lt b hb).1; omega
section
variable {P : Program} {σ : Env} {o : Oper} {x y z : Operand} {t u e : TypeId}
end
theorem WP.join {r : Option Nat} {P : Program} {N : Nat} {ops : Array Oper} {K : Env → List Deferred → World → Prop} {O : oN} {σ : Env} {ds : List Deferred} {w : World} {t : Tree} {α : Type} (t' : Tree) (D : List Nat) (vars : α → List (Nat × Value)) (I : α → World → Prop)
  (main : (∀ σ' w', (∃ g, bM D σ' σ ∧ Holds σ' (vars g) ∧ I g w') → WP r P N ops K t' O σ' ds w') → WP r P N ops K t O σ ds w)
  (behind : ∀ g γ w, I g w → WP r P N ops K t' O (bY N (forget D γ σ) (vars g)) ds w) : WP r P N ops K t O σ ds w :=
 main fun σ' w' ⟨g, ho, hv, hI⟩ => by
  have h := behind g σ' w' hI
  rwa [← pE (N := N) ho hv] at h
theorem St.uB {X : Nat → Prop} {w0 w : World} {O L : List aP} {Ps : List (World → Prop)} (H : St X w0 w O L Ps) (idx : List Nat) : St X w0 w O L (idx.filterMap fun i => Ps[i]?) :=
 H.drop fun p hp => by
  obtain ⟨i, _, hi⟩ := List.mem_filterMap.1 hp
  exact List.mem_of_getElem? hi
theorem dA.at_ {w : World} {b o o' : Nat} {l : List Value} {v : Value} (h : dA w ⟨b, 0, none⟩ l) (ho : o' = o) (hv : l[o]? = some v) : dA w ⟨b, o', none⟩ [v] := fun j u hu => by
 subst ho
 have h1 := h o' v hv
 rw [mJ, Nat.zero_add] at h1
 cases j with
 | zero => simp at hu; subst hu; rw [mJ]; exact h1
 | succ j => simp at hu
theorem St.Q7 {X : Nat → Prop} {w0 w w' : World} {O L : List aP} {Ps : List (World → Prop)} {p : World → Prop} (H : St X w0 w O L Ps) (h : Out Nil w w') (e : aP) (he : e.ok w') (hn : ∀ b, e.fp b → w.heap.size ≤ b) (hp : aJ (fun c => YY X O L c ∨ e.fp c) p w') : St X w0 w' O (e :: L) (p :: Ps) :=
 (H.push h e he hn).add (hp.mono fun b _ hb => by
  rcases hb with h | h | ⟨x, hx, h⟩
  ·
   exact .inl (.inl h)
  ·
   exact .inl (.inr (.inl h))
  ·
   cases List.mem_cons.1 hx with
   | inl hx => subst hx; exact .inr h
   | inr hx => exact .inl (.inr (.inr ⟨x, hx, h⟩)))
theorem St.aA1 {X : Nat → Prop} {w0 w : World} {e : aP} {Ps : List (World → Prop)} {p : World → Prop} (H : St X w0 w [] [e] Ps) (i : Nat) (hp : Ps[i]? = some p) : aJ (fun c => X c ∨ e.fp c) p w :=
 (H.bK i hp).mono fun b _ hb => hb.elim .inl fun h => .inr (.inr ⟨e, List.mem_cons_self, h⟩)
theorem aJ.nil {X : Nat → Prop} {p : World → Prop} {w : World} (h : aJ X p w) : aJ Nil p w := h.mono fun _ _ h => h.elim
theorem St.XC {X : Nat → Prop} {w0 w : World} {O L : List aP} {Ps : List (World → Prop)} (H : St X w0 w O L Ps) (i : Nat) {e : aP} (hi : L[i]? = some e) : aJ Nil e.ok w := fun w' hw =>
 e.loc w w' (fun b hb => hw b (H.V4 e (List.mem_of_getElem? hi) b hb) id) (H.l i hi)
theorem St.aIn {X : Nat → Prop} {w0 w : World} {O L : List aP} {Ps : List (World → Prop)} (H : St X w0 w O L Ps) (i : Nat) {e : aP} (hi : O[i]? = some e) : aJ Nil e.ok w := fun w' hw =>
 e.loc w w' (fun b hb => hw b (e.lt w (H.o i hi) b hb) id) (H.o i hi)
theorem nZ (w : World) : ∀ b, Nil b → b < w.heap.size := fun _ h => h.elim
def oS (P : Program) (t : TypeId) : Bool := match P.underlying t with | some (.interface _) => false | some (.pointer _) => false | some _ => true | none => false
def qJ (P : Program) (t : TypeId) : Bool := match P.underlying t with | some (.interface _) => true | _ => false
def HK (P : Program) (t : TypeId) (name : String) : Option FuncId := match (P.info? t).bind fun i => i.methods.find? (·.name == name) with
 | some m => if m.path.isEmpty then m.func.bind fun p => if p.2 then none else some p.1 else none
 | none => none
def tZ (P : Program) (t : TypeId) : Option Value := (P.info? t).bind (·.zero)
section
variable {P : Program} {σ : Env} {o : Oper} {x : Operand} {t u : TypeId}
theorem sB (h : oS P t = true) : ∃ d, P.underlying t = some d ∧ (∀ m, d ≠ .interface m) ∧ ∀ e, d ≠ .pointer e := by
 unfold oS at h
 cases hu : P.underlying t with
 | none => rw [hu] at h; cases h
 | some d =>
  rw [hu] at h
  refine ⟨d, rfl, ?_, ?_⟩
  ·
   intro m e; subst e; cases h
  ·
   intro m e; subst e; cases h
theorem PV.K2 (h : o.op = .makeInterface t x) (ht : oS P t = true) : PV P σ o (.iface t (ev σ x)) := fun w => by
 obtain ⟨d, hd, h1, _⟩ := sB ht
 have key : (Instr.makeInterface t (ev σ x)).run P w = .ok (.iface t (ev σ x)) w := by
  unfold Instr.makeInterface
  simp only [Sem.run_bind, run_underlying hd, Result.andThen]
  cases d <;> first | rfl | exact absurd rfl (h1 _)
 simp [execOp, h, key]
theorem uC {z : Value} (h : tZ P t = some z) (w : World) : (zeroValue t).run P w = .ok z w := by
 unfold tZ at h
 cases hi : P.info? t with
 | none => rw [hi] at h; cases h
 | some i =>
  rw [hi] at h
  simp only [Option.bind_some] at h
  simp [zeroValue, typeInfo, hi, h]
theorem PV.yU {tx : TypeId} {v z : Value} (h : o.op = .typeAssert x tx u true) (hu : oS P u = true) (hz : tZ P u = some z) (hx : ev σ x = .iface t v) : PV P σ o (.tuple [cond (Nat.beq t u) v z, .bool (Nat.beq t u)].toArray) := fun w => by
 obtain ⟨d, hd, h1, _⟩ := sB hu
 have key : (Instr.typeAssert (.iface t v) tx u true).run P w = .ok (.tuple #[cond (Nat.beq t u) v z, .bool (Nat.beq t u)]) w := by
  unfold Instr.typeAssert
  simp only [Sem.run_bind, run_underlying hd, Result.andThen]
  by_cases e : t = u
  ·
   subst e
   have hb : Nat.beq t t = true := Nat.beq_refl t
   cases d <;> first | exact absurd rfl (h1 _) | simp [hb]
  ·
   have hb : Nat.beq t u = false := by rw [Bool.eq_false_iff]; intro hb; exact e (Nat.eq_of_beq_eq_true hb)
   cases d <;> first | exact absurd rfl (h1 _) | simp [hb, e, uC hz w]
 simp [execOp, h, hx, key]
theorem PV.MB {tx : TypeId} {v : Value} (h : o.op = .typeAssert x tx u false) (hu : oS P u = true) (hx : ev σ x = .iface u v) : PV P σ o v := fun w => by
 obtain ⟨d, hd, h1, _⟩ := sB hu
 have key : (Instr.typeAssert (.iface u v) tx u false).run P w = .ok v w := by
  unfold Instr.typeAssert
  simp only [Sem.run_bind, run_underlying hd, Result.andThen]
  cases d <;> first | exact absurd rfl (h1 _) | simp
 simp [execOp, h, hx, key]
theorem PV.lK {s ft : TypeId} {f off n : Nat} {l : List Value} {v : Value} (h : o.op = .field s x f) (hf : cI P s f = some (off, ft, n)) (hx : ev σ x = .agg l.toArray) (hp : eG P ft l off v) : PV P σ o v := fun w => by
 obtain ⟨fs, fl, i, hu, FC, h1, h2, _, _⟩ := oR hf
 have key : (Instr.field s (.agg l.toArray) f).run P w = .ok v w := by
  unfold Instr.field
  simp only [Sem.run_bind, run_underlying hu, Result.andThen, FC]
  subst h1; subst h2
  simp only [asAgg, Sem.run_bind, Sem.run_pure, Result.andThen]
  exact hp w
 simp [execOp, h, hx, key]
theorem PV.rQ {e : TypeId} {n sz : Nat} {y : Operand} {k : IntKind} {l : List Value} {i : Nat} {v : Value} (h : o.op = .index t x y) (ht : eV P t = some (n, e)) (he : cB P e = some sz) (hx : ev σ x = .agg l.toArray) (hy : ev σ y = .int k (i : Int)) (hi : i < n) (hp : eG P e l (i * sz) v) : PV P σ o v := fun w => by
 have key : (Instr.index t (.agg l.toArray) (.int k (i : Int))).run P w = .ok v w := by
  unfold Instr.index
  simp only [Sem.run_bind, asIntOf, Sem.run_pure, Result.andThen, run_underlying (eR ht)]
  rw [if_pos (by omega)]
  simp only [Sem.run_bind, cU he, Result.andThen]
  simpa using hp w
 simp [execOp, h, hx, hy, key]
end
section
variable {r : Option Nat} {P : Program} {N : Nat} {σ : Env} {ds : List Deferred} {w : World} {ops : Array Oper} {rest : List Oper} {K : Env → List Deferred → World → Prop}
theorem HR {t : TypeId} {v : Value} {name : String} {f : FuncId} (hm : HK P t name = some f) (ht : oS P t = true) (n : Nat) (w : World) : (method (n + 1) t v name).run P w = .ok (f, v) w := by
 obtain ⟨d, hd, _, h2⟩ := sB ht
 unfold HK at hm
 cases hi : P.info? t with
 | none => rw [hi] at hm; cases hm
 | some i =>
  rw [hi] at hm
  simp only [Option.bind_some] at hm
  cases hf : i.methods.find? (·.name == name) with
  | none => rw [hf] at hm; cases hm
  | some m =>
   rw [hf] at hm
   simp only at hm
   by_cases hp : m.path.isEmpty = true
   ·
    rw [if_pos hp] at hm
    cases hmf : m.func with
    | none => rw [hmf] at hm; cases hm
    | some p =>
     rw [hmf] at hm
     obtain ⟨g, b⟩ := p
     simp only [Option.bind_some] at hm
     cases b with
     | true => simp at hm
     | false =>
      simp at hm
      subst hm
      have vS : m.path.toList = [] := by simpa using hp
      rw [method]
      simp only [Sem.run_bind, typeInfo]
      simp [hi, hf, vS, follow, hmf]
      unfold receiverAt
      simp only [Sem.run_bind, run_underlying hd, Result.andThen]
      cases d <;> first | exact absurd rfl (h2 _) | simp [Place.get]
   ·
    rw [if_neg hp] at hm; cases hm
theorem WL.invoke {dst : Option Tmp} {x : Operand} {name : String} {t : TypeId} {v : Value} {f : FuncId} {fn : Func} {xs : List Operand} {qV : Array TypeId} {ty : TypeId} {pos : String} {after : Array Edge} {guard : Option (Nat × Bool)} {R : Value → World → Prop}
  (hx : ev σ x = .iface t v) (hm : HK P t name = some f) (ht : oS P t = true) (hb : Body P f fn) (hw : cH ops σ ⟨dst, .call ⟨.invoke x name, xs.toArray, qV⟩, ty, pos, after, guard⟩ = true)
  (hc : bC P f (v :: xs.map (ev σ)).toArray w R)
  (k : ∀ v w'', R v w'' → WL r P N ops rest K (dD N σ dst v) ds w'') : WL r P N ops (⟨dst, .call ⟨.invoke x name, xs.toArray, qV⟩, ty, pos, after, guard⟩ :: rest) K σ ds w := by
 refine WL.enter (R := R) hw rfl ?_ hc k
 have e1 : (#[ev σ x] ++ xs.toArray.map (ev σ)).extract 1 (#[ev σ x] ++ xs.toArray.map (ev σ)).size = (xs.map (ev σ)).toArray := by
  apply Array.ext'
  simp
  exact List.take_of_length_le (by simp)
 obtain ⟨n, hn⟩ : ∃ n, P.types.size + Made.depth = n + 1 := ⟨P.types.size + Made.depth - 1, (Nat.sub_add_cancel (Nat.le_trans (show 1 ≤ Made.depth by decide) (Nat.le_add_left _ _))).symm⟩
 have hcf : (callFunc f (#[v] ++ (xs.map (ev σ)).toArray)).run P w = .ok (.enter f (v :: xs.map (ev σ)).toArray) w := by
  have := fW hb (v :: xs.map (ev σ)).toArray w
  have e : (#[v] ++ (xs.map (ev σ)).toArray) = (v :: xs.map (ev σ)).toArray := by simp
  rw [e]; exact this
 have key : (callMethod (.iface t v) name (xs.map (ev σ)).toArray).run P w = .ok (.enter f (v :: xs.map (ev σ)).toArray) w := by
  unfold callMethod
  have hpr : (program : Sem Program).run P w = .ok P w := rfl
  show ((program : Sem Program) >>= _).run P w = _
  rw [Sem.run_bind, hpr]
  simp only [Result.andThen]
  rw [Sem.run_bind, hn, HR hm ht n w]
  simp only [Result.andThen]
  exact hcf
 simp only [execOp, resolve]
 simp only [Sem.run_bind, Sem.run_pure, Result.andThen]
 unfold Go.invoke
 have e2 : (#[ev σ x] ++ xs.toArray.map (ev σ))[0]? = some (ev σ x) := by simp
 simp only [e2, e1]
 rw [hx]
 exact key
end
theorem St.mZ {X : Nat → Prop} {w0 w w' : World} {O L : List aP} {Ps : List (World → Prop)} {p : World → Prop} (H : St X w0 w O L Ps) (j : Nat) {b : Nat} {t : TypeId} {l l' : List Value} (hj : L[j]? = some (aP.blk b t l)) (h : Out (· = b) w w') (hb : aN w' b t l') (hp : aJ (fun c => YY X O L c ∨ c = b) p w') : St X w0 w' O (L.set j (aP.blk b t l')) (p :: Ps) :=
 (H.called j hj h hb).add (hp.mono fun c _ hc => by
  rcases hc with h | h | ⟨e, he, h⟩
  ·
   exact .inl (.inl h)
  ·
   exact .inl (.inr (.inl h))
  ·
   rcases eO he with rfl | ⟨i, hne, hi⟩
   ·
    exact .inr h
   ·
    exact .inl (.inr (.inr ⟨e, List.mem_of_getElem? hi, h⟩)))
theorem St.fV {X : Nat → Prop} {w0 w : World} {L : List aP} {b : Nat} {t : TypeId} {l : List Value} {Ps : List (World → Prop)} {p : World → Prop} (_ : St X w0 w [aP.blk b t l] L Ps) (h : aJ (YY X [aP.blk b t l] L) p w) : aJ (fun c => X c ∨ c = b) p w :=
 h.mono fun c _ hc => hc.elim .inl fun h => .inr (.inl ⟨_, List.mem_cons_self, h⟩)
theorem cN.fX {w : World} {v : Value} {sz n : Nat} {cs : List Value} (h : cN w v sz n cs) : v.oneCell' = true := by
 obtain ⟨A, c, rfl, _⟩ := h; rfl
theorem St.fA {X : Nat → Prop} {w0 w w' : World} {O L : List aP} {Ps : List (World → Prop)} (H : St X w0 w O L Ps) (j : Nat) {b : Nat} {t : TypeId} {l l' : List Value} (hj : O[j]? = some (aP.blk b t l)) (h : Out (· = b) w w') (hb : aN w' b t l') : St X w0 w' (O.set j (aP.blk b t l')) L Ps :=
 H.vP hj h _ hb fun _ => Iff.rfl
theorem St.aO {X : Nat → Prop} {w0 w : World} {O L : List aP} {Ps : List (World → Prop)} {p : World → Prop} (H : St X w0 w O L Ps) (j : Nat) {b : Nat} {t : TypeId} {l : List Value} (hj : O[j]? = some (aP.blk b t l)) (i : Nat) (hp : Ps[i]? = some p) : aJ (fun c => YY X O L c ∨ c = b) p w :=
 (H.bK i hp).mono fun _ _ h => h.elim id fun e => .inr (.inl ⟨_, List.mem_of_getElem? hj, e⟩)
theorem St.dH {X : Nat → Prop} {w0 w w' : World} {O L : List aP} {Ps : List (World → Prop)} {p : World → Prop} (H : St X w0 w O L Ps) (j : Nat) {b : Nat} {t : TypeId} {l l' : List Value} (hj : O[j]? = some (aP.blk b t l)) (h : Out (· = b) w w') (hb : aN w' b t l') (hp : aJ (fun c => YY X O L c ∨ c = b) p w') : St X w0 w' (O.set j (aP.blk b t l')) L (p :: Ps) :=
 (H.fA j hj h hb).add (hp.mono fun c _ hc => by
  rcases hc with h | ⟨e, he, h⟩ | h
  ·
   exact .inl (.inl h)
  ·
   rcases eO he with rfl | ⟨i, hne, hi⟩
   ·
    exact .inr h
   ·
    exact .inl (.inr (.inl ⟨e, List.mem_of_getElem? hi, h⟩))
  ·
   exact .inl (.inr (.inr h)))
end Go.Sp
