/- Part of the proof of this claim: walks through the program's functions and the plain laws that they need, printed by a program of this session. -/
import Derived.Test.YthkombhebdjamaaGreatDoorMade
namespace Go.Sp
open Go.RowKit
def kw (l : List UInt32) : List Value := l.map fun x => .int .u32 (x.toNat : Int)
theorem bA (l : List UInt32) : (kw l).length = l.length := by simp [kw]
theorem aR : (∀ l : List UInt8, (kc l).length = l.length) ∧ (∀ l : List UInt32, (kw l).length = l.length) ∧ (∀ (α : Type) (n : Nat) (a : α), (List.replicate n a).length = n) ∧ (∀ (α : Type) (a b : List α), (a ++ b).length = a.length + b.length) ∧ (∀ (α : Type) (a : α) (l : List α), (a :: l).length = l.length + 1) ∧ (∀ α : Type, ([] : List α).length = 0) := ⟨aO, bA, fun _ _ _ => List.length_replicate, fun _ _ _ => List.length_append, fun _ _ _ => rfl, fun _ => rfl⟩
theorem cH {a : Option Nat} {n m : Nat} (h : a = some n) (e : n = m) : a = some m := h.trans (congrArg some e)
theorem PX (l : List UInt32) : eF (kw l) := fun v hv => by
 simp only [kw, List.mem_map] at hv
 obtain ⟨x, _, rfl⟩ := hv
 rfl
theorem aJ.word {l : List UInt32} (i : Nat) (hi : i < l.length) : aJ (kw l) i [.int .u32 (l[i].toNat : Int)] := by
 have := aJ.one (l := kw l) i (by rw [bA]; exact hi)
 simpa [kw] using this
theorem Laid.iV {l : List UInt32} {x : UInt32} (i : Nat) (hi : i < l.length) : Laid (kw l) i [.int .u32 (x.toNat : Int)] (kw (l.set i x)) := by
 have := Laid.aAZ (l := kw l) (v := .int .u32 (x.toNat : Int)) i (by rw [bA]; exact hi)
 have e : (kw l).set i (.int .u32 (x.toNat : Int)) = kw (l.set i x) := by simp [kw, List.map_set]
 rwa [e] at this
theorem wrap32 (n : Int) : IntKind.u32.wrap n = n % 4294967296 := by simp [IntKind.wrap, IntKind.bits, IntKind.signed]
theorem IL (n : Int) : IntKind.u8.wrap n = n % 256 := by simp [IntKind.wrap, IntKind.bits, IntKind.signed]
theorem nR (n : Int) : IntKind.u64.wrap n = n % 18446744073709551616 := by simp [IntKind.wrap, IntKind.bits, IntKind.signed]
theorem MP (a : UInt32) : BitVec.ofInt IntKind.u32.bits (a.toNat : Int) = a.toBitVec := by
 apply BitVec.eq_of_toNat_eq
 show (BitVec.ofInt 32 (a.toNat : Int)).toNat = a.toNat
 rw [BitVec.toNat_ofInt]
 have := a.toNat_lt
 omega
section
variable {P : Program} {σ : Env} {o : Oper} {t u : TypeId} {x y : Operand} {a b : UInt32}
theorem PV.kX (h : o.op = .binOp .add t x y u) (hx : ev σ x = .int .u32 (a.toNat : Int)) (hy : ev σ y = .int .u32 (b.toNat : Int)) : PV P σ o (.int .u32 ((a + b).toNat : Int)) :=
 (PV.HT h hx hy).eq (by rw [wrap32, UInt32.toNat_add]; congr 1)
theorem PV.rN (h : o.op = .binOp .xor t x y u) (hx : ev σ x = .int .u32 (a.toNat : Int)) (hy : ev σ y = .int .u32 (b.toNat : Int)) : PV P σ o (.int .u32 ((a ^^^ b).toNat : Int)) :=
 (PV.aAz h hx hy).eq (by
  have := (a ^^^ b).toNat_lt
  have e : (BitVec.ofInt IntKind.u32.bits (a.toNat : Int) ^^^ BitVec.ofInt IntKind.u32.bits (b.toNat : Int)).toNat = (a ^^^ b).toNat := by rw [MP, MP]; rfl
  rw [e, wrap32]; congr 1; omega)
theorem PV.E9 (h : o.op = .binOp .and t x y u) (hx : ev σ x = .int .u32 (a.toNat : Int)) (hy : ev σ y = .int .u32 (b.toNat : Int)) : PV P σ o (.int .u32 ((a &&& b).toNat : Int)) :=
 (PV.HP h hx hy).eq (by
  have := (a &&& b).toNat_lt
  have e : (BitVec.ofInt IntKind.u32.bits (a.toNat : Int) &&& BitVec.ofInt IntKind.u32.bits (b.toNat : Int)).toNat = (a &&& b).toNat := by rw [MP, MP]; rfl
  rw [e, wrap32]; congr 1; omega)
theorem PV.PC (h : o.op = .binOp .or t x y u) (hx : ev σ x = .int .u32 (a.toNat : Int)) (hy : ev σ y = .int .u32 (b.toNat : Int)) : PV P σ o (.int .u32 ((a ||| b).toNat : Int)) :=
 (PV.orw h hx hy).eq (by
  have := (a ||| b).toNat_lt
  have e : (BitVec.ofInt IntKind.u32.bits (a.toNat : Int) ||| BitVec.ofInt IntKind.u32.bits (b.toNat : Int)).toNat = (a ||| b).toNat := by rw [MP, MP]; rfl
  rw [e, wrap32]; congr 1; omega)
theorem toNat_ofNat32 {n : Nat} (hn : n < 32) : (UInt32.ofNat n).toNat % 32 = n := by
 simp; omega
theorem PV.OD {k : IntKind} {n : Nat} (h : o.op = .binOp .shl t x y u) (hx : ev σ x = .int .u32 (a.toNat : Int)) (hy : ev σ y = .int k (n : Int)) (hn : n < 32) : PV P σ o (.int .u32 ((a <<< UInt32.ofNat n).toNat : Int)) :=
 (PV.UW h hx hy (by omega)).eq (by
  rw [wrap32]
  have e1 : min (n : Int).toNat IntKind.u32.bits = n := by simp [IntKind.bits]; omega
  rw [e1, UInt32.toNat_shiftLeft, toNat_ofNat32 hn, Nat.shiftLeft_eq]
  congr 1)
theorem PV.C6 {k : IntKind} {n : Nat} (h : o.op = .binOp .shr t x y u) (hx : ev σ x = .int .u32 (a.toNat : Int)) (hy : ev σ y = .int k (n : Int)) (hn : n < 32) : PV P σ o (.int .u32 ((a >>> UInt32.ofNat n).toNat : Int)) :=
 (PV.UU h hx hy (by omega)).eq (by
  have e1 : min (n : Int).toNat IntKind.u32.bits = n := by simp [IntKind.bits]; omega
  rw [e1, UInt32.toNat_shiftRight, toNat_ofNat32 hn, Nat.shiftRight_eq_div_pow]
  congr 1
  rw [Int.fdiv_eq_ediv_of_nonneg _ (Int.le_of_lt (Int.pow_pos (by decide)))]
  push_cast; rfl)
theorem PV.aF4 {c : UInt8} {k : IntKind} (h : o.op = .convert t u x) (ht : fC P t = some k) (hu : fC P u = some .u32) (hx : ev σ x = .int k (c.toNat : Int)) : PV P σ o (.int .u32 (c.toUInt32.toNat : Int)) :=
 (PV.conv h ht hu hx).eq (by
  rw [wrap32]
  have := c.toNat_lt
  have e : c.toUInt32.toNat = c.toNat := by simp
  rw [e]; congr 1; omega)
theorem PV.aF5 (h : o.op = .convert t u x) (ht : fC P t = some .u32) (hu : fC P u = some .u8) (hx : ev σ x = .int .u32 (a.toNat : Int)) : PV P σ o (.int .u8 (a.toUInt8.toNat : Int)) :=
 (PV.conv h ht hu hx).eq (by
  rw [IL]
  have e : a.toUInt8.toNat = a.toNat % 256 := by simp
  rw [e]; congr 1)
theorem PV.XG {k : IntKind} {n : Nat} (h : o.op = .convert t u x) (ht : fC P t = some k) (hu : fC P u = some .u8) (hx : ev σ x = .int k (n : Int)) : PV P σ o (.int .u8 ((UInt8.ofNat n).toNat : Int)) :=
 (PV.conv h ht hu hx).eq (by
  rw [IL]
  have e : (UInt8.ofNat n).toNat = n % 256 := by simp
  rw [e]; congr 1)
theorem PV.RZ {k : IntKind} {n : Nat} {z : Int} (h : o.op = .convert t u x) (ht : fC P t = some k) (hu : fC P u = some .u64) (hx : ev σ x = .int k z) (hz : z = (n : Int)) (hn : n < 18446744073709551616) : PV P σ o (.int .u64 (n : Int)) :=
 (PV.conv h ht hu hx).eq (by rw [nR, hz]; congr 1; omega)
theorem PV.LM {m n q : Nat} (h : o.op = .binOp .mul t x y u) (hx : ev σ x = .int .u64 (m : Int)) (hy : ev σ y = .int .u64 (n : Int)) (hq : q = m * n) (hn : q < 18446744073709551616) : PV P σ o (.int .u64 (q : Int)) :=
 (PV.aDr h hx hy).eq (by
  rw [nR, hq]; congr 1
  have e : (m : Int) * (n : Int) = ((m * n : Nat) : Int) := by push_cast; rfl
  rw [e]; omega)
theorem PV.C5 {k k' : IntKind} {m n : Nat} (h : o.op = .binOp .shr t x y u) (hx : ev σ x = .int k (m : Int)) (hy : ev σ y = .int k' (n : Int)) (hn : n < k.bits) : PV P σ o (.int k ((m / 2 ^ n : Nat) : Int)) :=
 (PV.UU h hx hy (by omega)).eq (by
  have e1 : min (n : Int).toNat k.bits = n := by simp; omega
  rw [e1, Int.fdiv_eq_ediv_of_nonneg _ (Int.le_of_lt (Int.pow_pos (by decide)))]
  push_cast; rfl)
theorem PV.GO {e : TypeId} {n : Nat} {l : List Value} {v : Value} {i : Nat} {k : IntKind} (h : o.op = .index t x y) (ht : eC P t = some (n, e)) (he : bW P e = some 1) (ha : cW P e = some false) (hx : ev σ x = .agg l.toArray) (hy : ev σ y = .int k (i : Int)) (hi : i < n) (hv : l[i]? = some v) : PV P σ o v := fun w => by
 have key : (Instr.index t (.agg l.toArray) (.int k (i : Int))).run P w = .ok v w := by
  unfold Instr.index
  simp only [Sem.run_bind, asIntOf, Sem.run_pure, Result.andThen, run_underlying (dU ht)]
  rw [if_pos (by omega)]
  simp only [Sem.run_bind, cI he, Result.andThen]
  unfold part
  simp [j5 ha, hv]
 simp [execOp, h, hx, hy, key]
end
theorem St.lK {X : Nat → Prop} {w0 w : World} {O L : List aN} {Ps : List (World → Prop)} (H : St X w0 w O L Ps) (e : TypeId) (sz : Nat) : St X w0 w O (aN.iA w0.heap.size (.slice none 0 0) e sz 0 [] :: L) Ps :=
 H.push (Out.refl Nil w) (aN.iA w0.heap.size (.slice none 0 0) e sz 0 []) (World.ownsRow_nil _ _ _ _) fun b hb => by cases hb
section
variable {r : Option Nat} {P : Program} {N : Nat} {σ : Env} {ds : List Deferred} {w : World} {ops : Array Oper} {o : Oper} {rest : List Oper} {K : Env → List Deferred → World → Prop}
variable {X : Nat → Prop} {w0 : World} {O L : List aN} {Ps : List (World → Prop)}
theorem WL.makeSlice {t e : TypeId} {zl : List Value} {bytes n : Nat} {x : Operand} {k : IntKind} (H : St X w0 w O L Ps) (h : o.op = .makeSlice t x x) (ht : lU P t e zl bytes)
  (hx : ev σ x = .int k (n : Int)) (hb : bytes * n ≤ 140737488355328) (hn : n ≤ 9223372036854775807) (hw : cD ops σ o = true)
  (k : ∀ b w', St X w0 w' O (aN.blk b e (jC n zl) :: L) Ps → WL r P N ops rest K (dG N σ o.dst (.slice (some ⟨b, 0, none⟩) n n)) ds w') : WL r P N ops (o :: rest) K σ ds w := by
 obtain ⟨z, hz, hc⟩ := fP ht.cells w
 obtain ⟨inf, z', h1, _, _, h2, h3⟩ := ht.info
 refine WL.val (v := .slice (some ⟨w.heap.size, 0, none⟩) n n) (w' := w.alloc (.cells (jC n zl).toArray e)) hw (by unfold eL; rw [h]) ?_ (k _ _ ?_)
 ·
  have key : (Instr.makeSlice t (.int ‹IntKind› (n : Int)) (.int ‹IntKind› (n : Int))).run P w = .ok (.slice (some ⟨w.heap.size, 0, none⟩) n n) (w.alloc (.cells (jC n zl).toArray e)) := by
   unfold Instr.makeSlice
   have VZ : (typeInfo e).run P w = .ok inf w := by simp [typeInfo, h1]
   have hr : (askRoom (n * bytes)).run P w = .ok () w := by
    unfold askRoom
    rw [if_neg]
    ·
     rfl
    ·
     have : roomBytes = 140737488355328 := rfl
     rw [this, Nat.mul_comm]; omega
   have hwr : IntKind.i64.wrap (n : Int) = n := wrap64_in (by omega) (by omega)
   have hai : ∀ kk : IntKind, (asInt (.int kk (n : Int))).run P w = .ok (n : Int) w := fun kk => by simp [asInt, asIntOf]
   simp only [Sem.run_bind, run_underlying (bS ht.YR), Result.andThen, hai, VZ, h3, hwr]
   rw [if_neg (by
    simp
    have e : (bytes : Int) * (n : Int) = ((bytes * n : Nat) : Int) := by push_cast; rfl
    rw [e]; omega)]
   simp only [Sem.run_bind, Int.toNat_natCast, hr, Result.andThen, cI ht.size]
   by_cases h0 : n * zl.length = 0
   ·
    rw [if_pos h0]
    have e1 : jC n zl = [] := List.eq_nil_of_length_eq_zero (by simp [jC, h0])
    have e3 : ∀ f : Nat → Value, (Array.range 0).map f = [].toArray := fun f => Array.eq_empty_of_size_eq_zero (by simp)
    simp only [h0, Sem.run_pure, Result.andThen, Sem.run_bind, e3, j4, e1]
   ·
    rw [if_neg h0]
    simp only [Sem.run_bind, hz, Result.andThen, Sem.run_pure, hc, u5]
    simp only [j4]
  simp [execOp, h, hx, key]
 ·
  exact H.push (Out.alloc w _) _ (heap_alloc_new w _) fun b hb => by (cases hb; exact Nat.le_refl _)
end
theorem bX {X : Nat → Prop} {p : World → Prop} {w : World} {b : Nat} {t : TypeId} {l : List Value} (h : aH (fun c => X c ∨ c = b) p w) : aH (YY X [aN.blk b t l] []) p w :=
 h.mono (by
  rintro c _ (h | ⟨e, h, hf⟩ | ⟨_, h, _⟩)
  ·
   exact .inl h
  ·
   simp at h; subst h; exact .inr hf
  ·
   cases h)
theorem St.c7 {X : Nat → Prop} {w : World} {b : Nat} {t : TypeId} {l : List Value} (hX : ∀ b, X b → b < w.heap.size) (hb : aM w b t l) : St X w w [aN.blk b t l] [] [] :=
 St.start hX (by intro e he; simp at he; subst he; exact hb) (by simp) (fun _ h => by cases h)
theorem St.cL {X : Nat → Prop} {w0 w : World} {b : Nat} {t : TypeId} {l : List Value} {L : List aN} {Ps : List (World → Prop)} (H : St X w0 w [aN.blk b t l] L Ps) : Out (· = b) w0 w :=
 H.l5.mono fun _ _ ⟨e, he, hc⟩ => by simp at he; subst he; exact hc
theorem St.fM {X : Nat → Prop} {w0 w : World} {O L : List aN} {Ps : List (World → Prop)} {p : World → Prop} (H : St X w0 w O L Ps) (j : Nat) {b : Nat} {t : TypeId} {l : List Value} (hj : L[j]? = some (aN.blk b t l)) (i : Nat) (hp : Ps[i]? = some p) : aH (fun c => YY X O L c ∨ c = b) p w :=
 (H.bK i hp).mono fun _ _ h => h.elim id fun e => .inr (.inr ⟨_, List.mem_of_getElem? hj, e⟩)
theorem St.called {X : Nat → Prop} {w0 w w' : World} {O L : List aN} {Ps : List (World → Prop)} (H : St X w0 w O L Ps) (j : Nat) {b : Nat} {t : TypeId} {l l' : List Value} (hj : L[j]? = some (aN.blk b t l)) (h : Out (· = b) w w') (hb : aM w' b t l') : St X w0 w' O (L.set j (aN.blk b t l')) Ps :=
 H.nY hj h _ hb fun _ h => .inl h
end Go.Sp
