/- Part of the proof of this claim: walks through the program's functions and the plain laws that they need, printed by a program of this session. -/
import Derived.Test.YthkombhebdjamaaGreatDoorMade
namespace Go.Sp
open Go.RowKit
def kw (l : List UInt32) : List Value := l.map fun x => .int .u32 (x.toNat : Int)
theorem aQ (l : List UInt32) : (kw l).length = l.length := by simp [kw]
theorem aS : (∀ l : List UInt8, (kc l).length = l.length) ∧ (∀ l : List UInt32, (kw l).length = l.length) ∧ (∀ (α : Type) (n : Nat) (a : α), (List.replicate n a).length = n) ∧ (∀ (α : Type) (a b : List α), (a ++ b).length = a.length + b.length) ∧ (∀ (α : Type) (a : α) (l : List α), (a :: l).length = l.length + 1) ∧ (∀ α : Type, ([] : List α).length = 0) := ⟨aI, aQ, fun _ _ _ => List.length_replicate, fun _ _ _ => List.length_append, fun _ _ _ => rfl, fun _ => rfl⟩
theorem cK {a : Option Nat} {n m : Nat} (h : a = some n) (e : n = m) : a = some m := h.trans (congrArg some e)
theorem A2 (l m : List UInt32) : kw (l ++ m) = kw l ++ kw m := by simp [kw]
theorem uK (l : List UInt32) : eN (kw l) := fun v hv => by
 simp only [kw, List.mem_map] at hv
 obtain ⟨x, _, rfl⟩ := hv
 rfl
theorem aK.word {l : List UInt32} (i : Nat) (hi : i < l.length) : aK (kw l) i [.int .u32 (l[i].toNat : Int)] := by
 have := aK.one (l := kw l) i (by rw [aQ]; exact hi)
 simpa [kw] using this
theorem Laid.fE {l : List UInt32} {x : UInt32} (i : Nat) (hi : i < l.length) : Laid (kw l) i [.int .u32 (x.toNat : Int)] (kw (l.set i x)) := by
 have := Laid.aB3 (l := kw l) (v := .int .u32 (x.toNat : Int)) i (by rw [aQ]; exact hi)
 have e : (kw l).set i (.int .u32 (x.toNat : Int)) = kw (l.set i x) := by simp [kw, List.map_set]
 rwa [e] at this
theorem wrap32 (n : Int) : IntKind.u32.wrap n = n % 4294967296 := by simp [IntKind.wrap, IntKind.bits, IntKind.signed]
theorem KD (n : Int) : IntKind.u8.wrap n = n % 256 := by simp [IntKind.wrap, IntKind.bits, IntKind.signed]
theorem oP (n : Int) : IntKind.u64.wrap n = n % 18446744073709551616 := by simp [IntKind.wrap, IntKind.bits, IntKind.signed]
theorem GA (a : UInt32) : BitVec.ofInt IntKind.u32.bits (a.toNat : Int) = a.toBitVec := by
 apply BitVec.eq_of_toNat_eq
 show (BitVec.ofInt 32 (a.toNat : Int)).toNat = a.toNat
 rw [BitVec.toNat_ofInt]
 have := a.toNat_lt
 omega
section
variable {P : Program} {σ : Env} {o : Oper} {t u : TypeId} {x y : Operand} {a b : UInt32}
theorem PV.hZ (h : o.op = .binOp .add t x y u) (hx : ev σ x = .int .u32 (a.toNat : Int)) (hy : ev σ y = .int .u32 (b.toNat : Int)) : PV P σ o (.int .u32 ((a + b).toNat : Int)) :=
 (PV.JV h hx hy).eq (by rw [wrap32, UInt32.toNat_add]; congr 1)
theorem PV.jW (h : o.op = .binOp .xor t x y u) (hx : ev σ x = .int .u32 (a.toNat : Int)) (hy : ev σ y = .int .u32 (b.toNat : Int)) : PV P σ o (.int .u32 ((a ^^^ b).toNat : Int)) :=
 (PV.aBA h hx hy).eq (by
  have := (a ^^^ b).toNat_lt
  have e : (BitVec.ofInt IntKind.u32.bits (a.toNat : Int) ^^^ BitVec.ofInt IntKind.u32.bits (b.toNat : Int)).toNat = (a ^^^ b).toNat := by rw [GA, GA]; rfl
  rw [e, wrap32]; congr 1; omega)
theorem PV.rG (h : o.op = .binOp .and t x y u) (hx : ev σ x = .int .u32 (a.toNat : Int)) (hy : ev σ y = .int .u32 (b.toNat : Int)) : PV P σ o (.int .u32 ((a &&& b).toNat : Int)) :=
 (PV.JT h hx hy).eq (by
  have := (a &&& b).toNat_lt
  have e : (BitVec.ofInt IntKind.u32.bits (a.toNat : Int) &&& BitVec.ofInt IntKind.u32.bits (b.toNat : Int)).toNat = (a &&& b).toNat := by rw [GA, GA]; rfl
  rw [e, wrap32]; congr 1; omega)
theorem PV.ET (h : o.op = .binOp .or t x y u) (hx : ev σ x = .int .u32 (a.toNat : Int)) (hy : ev σ y = .int .u32 (b.toNat : Int)) : PV P σ o (.int .u32 ((a ||| b).toNat : Int)) :=
 (PV.orw h hx hy).eq (by
  have := (a ||| b).toNat_lt
  have e : (BitVec.ofInt IntKind.u32.bits (a.toNat : Int) ||| BitVec.ofInt IntKind.u32.bits (b.toNat : Int)).toNat = (a ||| b).toNat := by rw [GA, GA]; rfl
  rw [e, wrap32]; congr 1; omega)
theorem toNat_ofNat32 {n : Nat} (hn : n < 32) : (UInt32.ofNat n).toNat % 32 = n := by
 simp; omega
theorem PV.AG {k : IntKind} {n : Nat} (h : o.op = .binOp .shl t x y u) (hx : ev σ x = .int .u32 (a.toNat : Int)) (hy : ev σ y = .int k (n : Int)) (hn : n < 32) : PV P σ o (.int .u32 ((a <<< UInt32.ofNat n).toNat : Int)) :=
 (PV.W8 h hx hy (by omega)).eq (by
  rw [wrap32]
  have e1 : min (n : Int).toNat IntKind.u32.bits = n := by simp [IntKind.bits]; omega
  rw [e1, UInt32.toNat_shiftLeft, toNat_ofNat32 hn, Nat.shiftLeft_eq]
  congr 1)
theorem PV.u9 {k : IntKind} {n : Nat} (h : o.op = .binOp .shr t x y u) (hx : ev σ x = .int .u32 (a.toNat : Int)) (hy : ev σ y = .int k (n : Int)) (hn : n < 32) : PV P σ o (.int .u32 ((a >>> UInt32.ofNat n).toNat : Int)) :=
 (PV.W7 h hx hy (by omega)).eq (by
  have e1 : min (n : Int).toNat IntKind.u32.bits = n := by simp [IntKind.bits]; omega
  rw [e1, UInt32.toNat_shiftRight, toNat_ofNat32 hn, Nat.shiftRight_eq_div_pow]
  congr 1
  rw [Int.fdiv_eq_ediv_of_nonneg _ (Int.le_of_lt (Int.pow_pos (by decide)))]
  push_cast; rfl)
theorem PV.aEA (h : o.op = .unOp .xor t x) (hx : ev σ x = .int .u32 (a.toNat : Int)) : PV P σ o (.int .u32 ((~~~a).toNat : Int)) := fun w => by
 have e0 : ((4294967295 : UInt32).toNat : Int) = IntKind.u32.max := by decide
 have e : (BitVec.ofInt IntKind.u32.bits IntKind.u32.max ^^^ BitVec.ofInt IntKind.u32.bits (a.toNat : Int)).toNat = (~~~a).toNat := by
  rw [← e0, GA, GA]
  have h1 : ~~~a = 4294967295 ^^^ a := by
   apply UInt32.toBitVec_inj.1
   simp [BitVec.not_def]
  rw [h1]; rfl
 have := (~~~a).toNat_lt
 have key : (Op.intBits .xor .u32 IntKind.u32.max (a.toNat : Int)).run P w = .ok (.int .u32 ((~~~a).toNat : Int)) w := by
  unfold Op.intBits
  simp only [Sem.run_pure]
  rw [e, wrap32]
  congr 2
  omega
 simp [execOp, h, hx, Op.unary, IntKind.signed, key]
theorem PV.F9 {c : UInt8} {k : IntKind} (h : o.op = .convert t u x) (ht : fR P t = some k) (hu : fR P u = some .u32) (hx : ev σ x = .int k (c.toNat : Int)) : PV P σ o (.int .u32 (c.toUInt32.toNat : Int)) :=
 (PV.conv h ht hu hx).eq (by
  rw [wrap32]
  have := c.toNat_lt
  have e : c.toUInt32.toNat = c.toNat := by simp
  rw [e]; congr 1; omega)
theorem PV.aBl (h : o.op = .convert t u x) (ht : fR P t = some .u32) (hu : fR P u = some .u8) (hx : ev σ x = .int .u32 (a.toNat : Int)) : PV P σ o (.int .u8 (a.toUInt8.toNat : Int)) :=
 (PV.conv h ht hu hx).eq (by
  rw [KD]
  have e : a.toUInt8.toNat = a.toNat % 256 := by simp
  rw [e]; congr 1)
theorem PV.JJ {k : IntKind} {n : Nat} (h : o.op = .convert t u x) (ht : fR P t = some k) (hu : fR P u = some .u8) (hx : ev σ x = .int k (n : Int)) : PV P σ o (.int .u8 ((UInt8.ofNat n).toNat : Int)) :=
 (PV.conv h ht hu hx).eq (by
  rw [KD]
  have e : (UInt8.ofNat n).toNat = n % 256 := by simp
  rw [e]; congr 1)
theorem PV.BJ {k : IntKind} {n : Nat} {z : Int} (h : o.op = .convert t u x) (ht : fR P t = some k) (hu : fR P u = some .u64) (hx : ev σ x = .int k z) (hz : z = (n : Int)) (hn : n < 18446744073709551616) : PV P σ o (.int .u64 (n : Int)) :=
 (PV.conv h ht hu hx).eq (by rw [oP, hz]; congr 1; omega)
theorem PV.IJ {m n q : Nat} (h : o.op = .binOp .mul t x y u) (hx : ev σ x = .int .u64 (m : Int)) (hy : ev σ y = .int .u64 (n : Int)) (hq : q = m * n) (hn : q < 18446744073709551616) : PV P σ o (.int .u64 (q : Int)) :=
 (PV.aEE h hx hy).eq (by
  rw [oP, hq]; congr 1
  have e : (m : Int) * (n : Int) = ((m * n : Nat) : Int) := by push_cast; rfl
  rw [e]; omega)
theorem PV.B3 {k k' : IntKind} {m n : Nat} (h : o.op = .binOp .shr t x y u) (hx : ev σ x = .int k (m : Int)) (hy : ev σ y = .int k' (n : Int)) (hn : n < k.bits) : PV P σ o (.int k ((m / 2 ^ n : Nat) : Int)) :=
 (PV.W7 h hx hy (by omega)).eq (by
  have e1 : min (n : Int).toNat k.bits = n := by simp; omega
  rw [e1, Int.fdiv_eq_ediv_of_nonneg _ (Int.le_of_lt (Int.pow_pos (by decide)))]
  push_cast; rfl)
theorem PV.IX {e : TypeId} {n : Nat} {l : List Value} {v : Value} {i : Nat} {k : IntKind} (h : o.op = .index t x y) (ht : eV P t = some (n, e)) (he : cB P e = some 1) (ha : dK P e = some false) (hx : ev σ x = .agg l.toArray) (hy : ev σ y = .int k (i : Int)) (hi : i < n) (hv : l[i]? = some v) : PV P σ o v := fun w => by
 have key : (Instr.index t (.agg l.toArray) (.int k (i : Int))).run P w = .ok v w := by
  unfold Instr.index
  simp only [Sem.run_bind, asIntOf, Sem.run_pure, Result.andThen, run_underlying (eR ht)]
  rw [if_pos (by omega)]
  simp only [Sem.run_bind, cU he, Result.andThen]
  unfold part
  simp [kQ ha, hv]
 simp [execOp, h, hx, hy, key]
end
theorem St.kS {X : Nat → Prop} {w0 w : World} {O L : List aP} {Ps : List (World → Prop)} (H : St X w0 w O L Ps) (e : TypeId) (sz : Nat) : St X w0 w O (aP.hU w0.heap.size (.slice none 0 0) e sz 0 [] :: L) Ps :=
 H.push (Out.refl Nil w) (aP.hU w0.heap.size (.slice none 0 0) e sz 0 []) (World.ownsRow_nil _ _ _ _) fun b hb => by cases hb
theorem X2 (x : List UInt32) (y : UInt32) : kw (x ++ [y]) = kw x ++ [.int .u32 (y.toNat : Int)] := by rw [A2]; rfl
def U8 (v : Value) (l : List UInt32) (w : World) : Prop := cN w v 1 l.length (kw l)
theorem cN.rdw {w : World} {v : Value} {n : Nat} {l : List UInt32} (h : cN w v 1 n (kw l)) (i : Nat) (hi : i < l.length) : dA w (jN v (i * 1)) [.int .u32 (l[i].toNat : Int)] := by
 have hn : n = l.length := by have := h.len; rw [aQ] at this; omega
 have := h.rd i (by omega)
 rw [k5 (kw l) i (by rw [aQ]; exact hi)] at this
 simpa [kw] using this
theorem cN.slw {w : World} {v : Value} {n : Nat} {l : List UInt32} (h : cN w v 1 n (kw l)) : U8 v l w := by
 have hn : n = l.length := by have := h.len; rw [aQ] at this; omega
 subst hn; exact h
theorem Fl.rows {z : Value} : ∀ (vs pre : List Value), (∀ v ∈ vs, v.cells = [v].toArray) →
  Fl (fun i => some (i * 1, 1)) (pre ++ List.replicate vs.length z) ((vs.zipIdx pre.length).map fun p => (p.2, p.1)) (pre ++ vs) := by
 intro vs
 induction vs with
 | nil => intro pre _; simpa using Fl.nil
 | cons v vs ih =>
  intro pre h
  refine Fl.cons (off := pre.length) (sz := 1) (new := [v]) (l1 := (pre ++ [v]) ++ List.replicate vs.length z) (by simp) (h v (List.mem_cons_self ..)) rfl ?_ ?_
  ·
   have := Laid.right (a := pre) (Laid.head (x := z) (v := v) (b := List.replicate vs.length z)) (p := pre.length) (by simp)
   simpa [List.replicate_succ] using this
  ·
   have := ih (pre ++ [v]) fun u hu => h u (List.mem_cons_of_mem _ hu)
   simpa using this
section
variable {r : Option Nat} {P : Program} {N : Nat} {σ : Env} {ds : List Deferred} {w : World} {ops : Array Oper} {o : Oper} {rest : List Oper} {K : Env → List Deferred → World → Prop}
variable {X : Nat → Prop} {w0 : World} {O L : List aP} {Ps : List (World → Prop)}
theorem WL.makeSlice {t e : TypeId} {zl : List Value} {bytes n : Nat} {x : Operand} {k : IntKind} (H : St X w0 w O L Ps) (h : o.op = .makeSlice t x x) (ht : lZ P t e zl bytes)
  (hx : ev σ x = .int k (n : Int)) (hb : bytes * n ≤ 140737488355328) (hn : n ≤ 9223372036854775807) (hw : cH ops σ o = true)
  (k : ∀ b w', St X w0 w' O (aP.blk b e (jM n zl) :: L) Ps → WL r P N ops rest K (dD N σ o.dst (.slice (some ⟨b, 0, none⟩) n n)) ds w') : WL r P N ops (o :: rest) K σ ds w := by
 obtain ⟨z, hz, hc⟩ := gD ht.cells w
 obtain ⟨inf, z', h1, _, _, h2, h3⟩ := ht.info
 refine WL.val (v := .slice (some ⟨w.heap.size, 0, none⟩) n n) (w' := w.alloc (.cells (jM n zl).toArray e)) hw (by unfold eW; rw [h]) ?_ (k _ _ ?_)
 ·
  have key : (Instr.makeSlice t (.int ‹IntKind› (n : Int)) (.int ‹IntKind› (n : Int))).run P w = .ok (.slice (some ⟨w.heap.size, 0, none⟩) n n) (w.alloc (.cells (jM n zl).toArray e)) := by
   unfold Instr.makeSlice
   have YF : (typeInfo e).run P w = .ok inf w := by simp [typeInfo, h1]
   have hr : (askRoom (n * bytes)).run P w = .ok () w := by
    unfold askRoom
    rw [if_neg]
    ·
     rfl
    ·
     have : roomBytes = 140737488355328 := rfl
     rw [this, Nat.mul_comm]; omega
   have hwr : IntKind.i64.wrap (n : Int) = n := wrap64_in (by omega) (by omega)
   have hai : ∀ kk : IntKind, (asInt (.int kk (n : Int))).run P w = .ok (n : Int) w := fun kk => by simp [asInt, asIntOf]
   simp only [Sem.run_bind, run_underlying (bX ht.und), Result.andThen, hai, YF, h3, hwr]
   rw [if_neg (by
    simp
    have e : (bytes : Int) * (n : Int) = ((bytes * n : Nat) : Int) := by push_cast; rfl
    rw [e]; omega)]
   simp only [Sem.run_bind, Int.toNat_natCast, hr, Result.andThen, cU ht.size]
   by_cases h0 : n * zl.length = 0
   ·
    rw [if_pos h0]
    have e1 : jM n zl = [] := List.eq_nil_of_length_eq_zero (by simp [jM, h0])
    have e3 : ∀ f : Nat → Value, (Array.range 0).map f = [].toArray := fun f => Array.eq_empty_of_size_eq_zero (by simp)
    simp only [h0, Sem.run_pure, Result.andThen, Sem.run_bind, e3, kP, e1]
   ·
    rw [if_neg h0]
    simp only [Sem.run_bind, hz, Result.andThen, Sem.run_pure, hc, vZ]
    simp only [kP]
  simp [execOp, h, hx, key]
 ·
  exact H.push (Out.alloc w _) _ (heap_alloc_new w _) fun b hb => by (cases hb; exact Nat.le_refl _)
end
theorem cC {X : Nat → Prop} {p : World → Prop} {w : World} {b : Nat} {t : TypeId} {l : List Value} (h : aJ (fun c => X c ∨ c = b) p w) : aJ (YY X [aP.blk b t l] []) p w :=
 h.mono (by
  rintro c _ (h | ⟨e, h, hf⟩ | ⟨_, h, _⟩)
  ·
   exact .inl h
  ·
   simp at h; subst h; exact .inr hf
  ·
   cases h)
theorem St.dG {X : Nat → Prop} {w : World} {b : Nat} {t : TypeId} {l : List Value} (hX : ∀ b, X b → b < w.heap.size) (hb : aN w b t l) : St X w w [aP.blk b t l] [] [] :=
 St.start hX (by intro e he; simp at he; subst he; exact hb) (by simp) (fun _ h => by cases h)
theorem St.cR {X : Nat → Prop} {w0 w : World} {b : Nat} {t : TypeId} {l : List Value} {L : List aP} {Ps : List (World → Prop)} (H : St X w0 w [aP.blk b t l] L Ps) : Out (· = b) w0 w :=
 H.mS.mono fun _ _ ⟨e, he, hc⟩ => by simp at he; subst he; exact hc
theorem St.gM {X : Nat → Prop} {w0 w : World} {O L : List aP} {Ps : List (World → Prop)} {p : World → Prop} (H : St X w0 w O L Ps) (j : Nat) {b : Nat} {t : TypeId} {l : List Value} (hj : L[j]? = some (aP.blk b t l)) (i : Nat) (hp : Ps[i]? = some p) : aJ (fun c => YY X O L c ∨ c = b) p w :=
 (H.bK i hp).mono fun _ _ h => h.elim id fun e => .inr (.inr ⟨_, List.mem_of_getElem? hj, e⟩)
theorem St.called {X : Nat → Prop} {w0 w w' : World} {O L : List aP} {Ps : List (World → Prop)} (H : St X w0 w O L Ps) (j : Nat) {b : Nat} {t : TypeId} {l l' : List Value} (hj : L[j]? = some (aP.blk b t l)) (h : Out (· = b) w w') (hb : aN w' b t l') : St X w0 w' O (L.set j (aP.blk b t l')) Ps :=
 H.oX hj h _ hb fun _ h => .inl h
end Go.Sp
