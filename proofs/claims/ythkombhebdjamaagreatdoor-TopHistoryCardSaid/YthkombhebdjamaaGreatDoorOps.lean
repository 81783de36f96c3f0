/- Part of the proof of this claim: walks through the program's functions and the plain laws that they need, printed by a program of this session. -/
import Derived.Test.YthkombhebdjamaaGreatDoorMem
namespace Go.Sp
open Go.RowKit
def dK (P : Program) (t : TypeId) : Option Bool := (P.underlying t).map fun | .struct _ | .array _ _ => true | _ => false
def cB (P : Program) (t : TypeId) : Option Nat := (P.info? t).map (·.size)
def KM (P : Program) (t : TypeId) : Option Nat := (P.info? t).map (·.bytes)
def cM (P : Program) (t : TypeId) : Option (List Value) := (P.info? t).bind fun i => i.zero.map fun z => z.cells.toList
def fR (P : Program) (t : TypeId) : Option IntKind := match P.underlying t with | some (.int k) => some k | _ => none
def wV (P : Program) (t : TypeId) : Bool := match P.underlying t with | some .bool => true | _ => false
def c8 (P : Program) (t : TypeId) : Option TypeId := match P.underlying t with | some (.slice e) => some e | _ => none
def eV (P : Program) (t : TypeId) : Option (Nat × TypeId) := match P.underlying t with | some (.array n e) => some (n, e) | _ => none
def sC (P : Program) (t : TypeId) : Option TypeId := match P.underlying t with | some (.pointer e) => some e | _ => none
def cI (P : Program) (s : TypeId) (f : Nat) : Option (Nat × TypeId × Nat) := match P.underlying s with
 | some (.struct fs) => (fs[f]?).bind fun fl => (P.info? fl.type).map fun i => (fl.offset, fl.type, i.size)
 | _ => none
section
variable {P : Program} {σ : Env} {o : Oper}
theorem gB {t : TypeId} {k : IntKind} (h : fR P t = some k) : P.underlying t = some (.int k) := by
 unfold fR at h; split at h <;> simp_all
theorem mR {t : TypeId} (h : wV P t = true) : P.underlying t = some .bool := by
 unfold wV at h; split at h <;> simp_all
theorem bX {t e : TypeId} (h : c8 P t = some e) : P.underlying t = some (.slice e) := by
 unfold c8 at h; split at h <;> simp_all
theorem eR {t e : TypeId} {n : Nat} (h : eV P t = some (n, e)) : P.underlying t = some (.array n e) := by
 unfold eV at h; split at h <;> simp_all
theorem wU {t e : TypeId} (h : sC P t = some e) : P.underlying t = some (.pointer e) := by
 unfold sC at h; split at h <;> simp_all
theorem oR {s ft : TypeId} {f off n : Nat} (h : cI P s f = some (off, ft, n)) :
  ∃ fs fl i, P.underlying s = some (.struct fs) ∧ fs[f]? = some fl ∧ fl.offset = off ∧ fl.type = ft ∧ P.info? ft = some i ∧ i.size = n := by
 unfold cI at h
 split at h
 ·
  rename_i fs hu
  cases hf : fs[f]? with
  | none => rw [hf] at h; simp at h
  | some fl =>
   rw [hf] at h
   simp only [Option.bind_some] at h
   cases hi : P.info? fl.type with
   | none => rw [hi] at h; simp at h
   | some i =>
    rw [hi] at h
    simp only [Option.map_some, Option.some.injEq, Prod.mk.injEq] at h
    obtain ⟨h1, h2, h3⟩ := h
    subst h2
    exact ⟨fs, fl, i, hu, hf, h1, rfl, hi, h3⟩
 ·
  cases h
theorem sX {t : TypeId} {n : Nat} (h : cB P t = some n) : ∃ i, P.info? t = some i ∧ i.size = n := by
 unfold cB at h
 cases hi : P.info? t with
 | none => rw [hi] at h; cases h
 | some i => rw [hi] at h; exact ⟨i, rfl, by simpa using h⟩
theorem cU {t : TypeId} {n : Nat} (h : cB P t = some n) (w : World) : (sizeOf t).run P w = .ok n w := by
 obtain ⟨i, hi, hn⟩ := sX h
 simp [sizeOf, typeInfo, hi, hn]
theorem kQ {t : TypeId} {b : Bool} (h : dK P t = some b) (w : World) : (isAgg t).run P w = .ok b w := by
 unfold dK at h
 cases hu : P.underlying t with
 | none => rw [hu] at h; cases h
 | some d =>
  rw [hu] at h
  simp only [Option.map_some, Option.some.injEq] at h
  unfold isAgg
  simp only [Sem.run_bind, run_underlying hu, Result.andThen]
  cases d <;> simp_all
def PV (P : Program) (σ : Env) (o : Oper) (v : Value) : Prop := ∀ w, (execOp (ev σ) o).run P w = .ok (.value v) w
theorem PV.eq {v v' : Value} (h : PV P σ o v) (he : v = v') : PV P σ o v' := he ▸ h
theorem PV.move {x : Operand} (h : o.op = .move x) : PV P σ o (ev σ x) := fun w => by simp [execOp, h]
theorem PV.assign {x : Operand} (h : o.op = .assign x) : PV P σ o (ev σ x) := fun w => by simp [execOp, h]
theorem PV.pick {c x y : Operand} {b : Bool} (h : o.op = .pick c x y) (hc : ev σ c = .bool b) : PV P σ o (cond b (ev σ x) (ev σ y)) := fun w => by
 cases b <;> simp [execOp, h, hc, asBool]
theorem PV.not {x : Operand} {t : TypeId} {b : Bool} (h : o.op = .unOp .not t x) (hx : ev σ x = .bool b) : PV P σ o (.bool !b) := fun w => by
 simp [execOp, h, hx, Op.unary]
theorem PV.extract {x : Operand} {i : Nat} {vs : List Value} {v : Value} (h : o.op = .extract x i) (hx : ev σ x = .tuple vs.toArray) (hv : vs[i]? = some v) : PV P σ o v := fun w => by
 simp [execOp, h, hx, Instr.extract, hv]
theorem PV.makeFunc {fn : Fn} {first captured : List Operand} (h : o.op = .makeFunc fn first.toArray captured.toArray) : PV P σ o (.func fn (first.map (ev σ)).toArray (captured.map (ev σ)).toArray) := fun w => by
 simp [execOp, h, Instr.makeFunc]
theorem PV.nilCheck {x : Operand} {a : Addr} (h : o.op = .nilCheck x) (hx : ev σ x = .pointer (some a)) : PV P σ o (.pointer (some a)) := fun w => by
 simp [execOp, h, hx]
section ints
variable {x y : Operand} {t u : TypeId} {k : IntKind} {a b : Int}
theorem PV.JV (h : o.op = .binOp .add t x y u) (hx : ev σ x = .int k a) (hy : ev σ y = .int k b) : PV P σ o (.int k (k.wrap (a + b))) := fun w => by
 simp [execOp, h, hx, hy, eqGuard, binOp, Op.intArith]
theorem PV.aBM (h : o.op = .binOp .sub t x y u) (hx : ev σ x = .int k a) (hy : ev σ y = .int k b) : PV P σ o (.int k (k.wrap (a - b))) := fun w => by
 simp [execOp, h, hx, hy, eqGuard, binOp, Op.intArith]
theorem PV.aEE (h : o.op = .binOp .mul t x y u) (hx : ev σ x = .int k a) (hy : ev σ y = .int k b) : PV P σ o (.int k (k.wrap (a * b))) := fun w => by
 simp [execOp, h, hx, hy, eqGuard, binOp, Op.intArith]
theorem wrap64_in {n : Int} (h : -9223372036854775808 ≤ n) (h' : n ≤ 9223372036854775807) : IntKind.i64.wrap n = n := IntWalk.i64_in n ⟨h, h'⟩
theorem PV.bT (h : o.op = .binOp .add t x y u) (hx : ev σ x = .int .i64 a) (hy : ev σ y = .int .i64 b) (h1 : -9223372036854775808 ≤ a + b) (h2 : a + b ≤ 9223372036854775807) : PV P σ o (.int .i64 (a + b)) :=
 (PV.JV h hx hy).eq (by rw [wrap64_in h1 h2])
theorem PV.gC (h : o.op = .binOp .sub t x y u) (hx : ev σ x = .int .i64 a) (hy : ev σ y = .int .i64 b) (h1 : -9223372036854775808 ≤ a - b) (h2 : a - b ≤ 9223372036854775807) : PV P σ o (.int .i64 (a - b)) :=
 (PV.aBM h hx hy).eq (by rw [wrap64_in h1 h2])
theorem PV.mA (h : o.op = .binOp .mul t x y u) (hx : ev σ x = .int .i64 a) (hy : ev σ y = .int .i64 b) (h1 : -9223372036854775808 ≤ a * b) (h2 : a * b ≤ 9223372036854775807) : PV P σ o (.int .i64 (a * b)) :=
 (PV.aEE h hx hy).eq (by rw [wrap64_in h1 h2])
theorem PV.lss (h : o.op = .binOp .lss t x y u) (hx : ev σ x = .int k a) (hy : ev σ y = .int k b) : PV P σ o (.bool (decide (a < b))) := fun w => by
 simp [execOp, h, hx, hy, eqGuard, binOp, Op.intCmp]
theorem PV.leq (h : o.op = .binOp .leq t x y u) (hx : ev σ x = .int k a) (hy : ev σ y = .int k b) : PV P σ o (.bool (decide (a ≤ b))) := fun w => by
 simp [execOp, h, hx, hy, eqGuard, binOp, Op.intCmp]
theorem PV.gtr (h : o.op = .binOp .gtr t x y u) (hx : ev σ x = .int k a) (hy : ev σ y = .int k b) : PV P σ o (.bool (decide (b < a))) := fun w => by
 simp [execOp, h, hx, hy, eqGuard, binOp, Op.intCmp]
theorem PV.geq (h : o.op = .binOp .geq t x y u) (hx : ev σ x = .int k a) (hy : ev σ y = .int k b) : PV P σ o (.bool (decide (b ≤ a))) := fun w => by
 simp [execOp, h, hx, hy, eqGuard, binOp, Op.intCmp]
theorem PV.eql (h : o.op = .binOp .eql t x y u) (hx : ev σ x = .int k a) (hy : ev σ y = .int k b) : PV P σ o (.bool (decide (a = b))) := fun w => by
 have e : (a == b) = decide (a = b) := by by_cases h : a = b <;> simp [h]
 simp [execOp, h, hx, hy, eqGuard, binOp, Op.intCmp, e]
theorem PV.neq (h : o.op = .binOp .neq t x y u) (hx : ev σ x = .int k a) (hy : ev σ y = .int k b) : PV P σ o (.bool (decide (a ≠ b))) := fun w => by
 have e : (a != b) = decide (a ≠ b) := by by_cases h : a = b <;> simp [h]
 simp only [execOp, h, hx, hy, eqGuard, binOp, Op.intCmp, e]
 simp
theorem HT (w : World) {t : TypeId} (ht : wV P t = true) (p q : Bool) : (Op.equal t (.bool p) (.bool q)).run P w = .ok (p == q) w := by
 show (Op.equalIn (9999 + 1) t (.bool p) (.bool q)).run P w = _
 rw [Op.equalIn]
 simp only [Sem.run_bind, run_underlying (mR ht), Result.andThen]
 rfl
theorem PV.aEC {p q : Bool} (h : o.op = .binOp .neq t x y u) (ht : wV P t = true) (hx : ev σ x = .bool p) (hy : ev σ y = .bool q) : PV P σ o (.bool (p != q)) := fun w => by
 simp only [execOp, h, hx, hy]
 simp [eqGuard, binOp, HT w ht, bne]
theorem PV.aIq (h : o.op = .binOp .quo t x y u) (hx : ev σ x = .int k a) (hy : ev σ y = .int k b) (hb : b ≠ 0) : PV P σ o (.int k (k.wrap (a.tdiv b))) := fun w => by
 simp [execOp, h, hx, hy, eqGuard, binOp, Op.intDiv, hb]
theorem PV.aEo (h : o.op = .binOp .rem t x y u) (hx : ev σ x = .int k a) (hy : ev σ y = .int k b) (hb : b ≠ 0) : PV P σ o (.int k (a.tmod b)) := fun w => by
 simp [execOp, h, hx, hy, eqGuard, binOp, Op.intDiv, hb]
theorem PV.p6 (h : o.op = .binOp .quo t x y u) (hx : ev σ x = .int .i64 a) (hy : ev σ y = .int .i64 b) (ha : 0 ≤ a) (ha' : a ≤ 9223372036854775807) (hb : 0 < b) : PV P σ o (.int .i64 (a / b)) :=
 (PV.aIq h hx hy (by omega)).eq (by
  rw [Int.tdiv_eq_ediv_of_nonneg ha, wrap64_in (by have := Int.ediv_nonneg ha (Int.le_of_lt hb); omega) (by have := Int.ediv_le_self b ha; omega)])
theorem PV.p5 (h : o.op = .binOp .rem t x y u) (hx : ev σ x = .int .i64 a) (hy : ev σ y = .int .i64 b) (ha : 0 ≤ a) (hb : 0 < b) : PV P σ o (.int .i64 (a % b)) :=
 (PV.aEo h hx hy (by omega)).eq (by rw [Int.tmod_eq_emod_of_nonneg ha])
theorem PV.JT (h : o.op = .binOp .and t x y u) (hx : ev σ x = .int k a) (hy : ev σ y = .int k b) : PV P σ o (.int k (k.wrap (BitVec.ofInt k.bits a &&& BitVec.ofInt k.bits b).toNat)) := fun w => by
 simp only [execOp, h, hx, hy, eqGuard, binOp, Op.intBits]; simp
theorem PV.orw (h : o.op = .binOp .or t x y u) (hx : ev σ x = .int k a) (hy : ev σ y = .int k b) : PV P σ o (.int k (k.wrap (BitVec.ofInt k.bits a ||| BitVec.ofInt k.bits b).toNat)) := fun w => by
 simp only [execOp, h, hx, hy, eqGuard, binOp, Op.intBits]; simp
theorem PV.aBA (h : o.op = .binOp .xor t x y u) (hx : ev σ x = .int k a) (hy : ev σ y = .int k b) : PV P σ o (.int k (k.wrap (BitVec.ofInt k.bits a ^^^ BitVec.ofInt k.bits b).toNat)) := fun w => by
 simp only [execOp, h, hx, hy, eqGuard, binOp, Op.intBits]; simp
theorem PV.W8 {k' : IntKind} (h : o.op = .binOp .shl t x y u) (hx : ev σ x = .int k a) (hy : ev σ y = .int k' b) (hb : 0 ≤ b) : PV P σ o (.int k (k.wrap (a * 2 ^ (min b.toNat k.bits)))) := fun w => by
 have : ¬ b < 0 := by omega
 simp [execOp, h, hx, hy, eqGuard, binOp, Op.shift, this]
theorem PV.W7 {k' : IntKind} (h : o.op = .binOp .shr t x y u) (hx : ev σ x = .int k a) (hy : ev σ y = .int k' b) (hb : 0 ≤ b) : PV P σ o (.int k (a.fdiv (2 ^ (min b.toNat k.bits)))) := fun w => by
 have : ¬ b < 0 := by omega
 simp [execOp, h, hx, hy, eqGuard, binOp, Op.shift, this]
theorem PV.aIu (h : o.op = .unOp .neg t x) (hx : ev σ x = .int k a) : PV P σ o (.int k (k.wrap (0 - a))) := fun w => by
 simp [execOp, h, hx, Op.unary, Op.intArith]
theorem PV.conv {k' : IntKind} (h : o.op = .convert t u x) (ht : fR P t = some k') (hu : fR P u = some k) (hx : ev σ x = .int k' a) : PV P σ o (.int k (k.wrap a)) := fun w => by
 simp [execOp, h, hx, convert, run_underlying (gB ht), run_underlying (gB hu), Conv.intToInt]
theorem PV.lM {k' : IntKind} (h : o.op = .convert t u x) (ht : fR P t = some k') (hu : fR P u = some .i64) (hx : ev σ x = .int k' a) (h1 : -9223372036854775808 ≤ a) (h2 : a ≤ 9223372036854775807) : PV P σ o (.int .i64 a) :=
 (PV.conv h ht hu hx).eq (by rw [wrap64_in h1 h2])
end ints
theorem p3 {ft : TypeId} {fl : Field} {off n : Nat} {i : TypeInfo} (hi : P.info? ft = some i) (hn : i.size = n) (h0 : n ≠ 0) (hf : fl.type = ft) (ho : fl.offset = off) (a : Addr) (w : World) :
  (fieldPlace a fl).run P w = .ok (a.add off) w := by
 subst hf; subst ho
 simp [fieldPlace, sizeOf, typeInfo, hi, hn, h0]
theorem PV.fieldAddr {s ft : TypeId} {x : Operand} {f off n b oo : Nat} (h : o.op = .fieldAddr s x f) (hf : cI P s f = some (off, ft, n + 1)) (hx : ev σ x = .pointer (some ⟨b, oo, none⟩)) :
  PV P σ o (.pointer (some ⟨b, oo + off, none⟩)) := fun w => by
 obtain ⟨fs, fl, i, hu, FC, h1, h2, hi, hn⟩ := oR hf
 have h3 := p3 hi hn (by omega) h2 h1 ⟨b, oo, none⟩ w
 rw [mJ] at h3
 simp [execOp, h, hx, Instr.fieldAt, run_underlying hu, FC, Instr.sureAddr, h3]
theorem PV.bF {t e : TypeId} {x y : Operand} {m n b oo : Nat} {i : Int} {k : IntKind} (h : o.op = .indexAddr t x y) (ht : eV P t = some (m, e)) (he : cB P e = some n) (hx : ev σ x = .pointer (some ⟨b, oo, none⟩))
  (hy : ev σ y = .int k i) (h0 : 0 ≤ i) (h1 : i < m) : PV P σ o (.pointer (some ⟨b, oo + i.toNat * n, none⟩)) := fun w => by
 have h3 := mJ b oo (i.toNat * n)
 simp [execOp, h, hx, hy, Instr.indexAt, asIntOf, run_underlying (eR ht), Instr.sureAddr, h0, h1, cU he, h3]
theorem PV.sY {t e : TypeId} {x y : Operand} {n b oo len cap : Nat} {i : Int} {k : IntKind} (h : o.op = .indexAddr t x y) (ht : c8 P t = some e) (he : cB P e = some n) (hx : ev σ x = .slice (some ⟨b, oo, none⟩) len cap)
  (hy : ev σ y = .int k i) (h0 : 0 ≤ i) (h1 : i < len) : PV P σ o (.pointer (some ⟨b, oo + i.toNat * n, none⟩)) := fun w => by
 have h3 := mJ b oo (i.toNat * n)
 simp [execOp, h, hx, hy, Instr.indexAt, asIntOf, run_underlying (bX ht), h0, h1, cU he, h3]
theorem PV.A0 {t : TypeId} {dst : Option Tmp} {x : Operand} {qV : List TypeId} {ty e : TypeId} {pos : String} {after : Array Edge} {guard : Option (Nat × Bool)} {A : Option Addr} {n c : Nat}
  (ht : c8 P t = some e) (hx : ev σ x = .slice A n c) :
  PV P σ ⟨dst, .call ⟨.builtin .len, [x].toArray, (t :: qV).toArray⟩, ty, pos, after, guard⟩ (.int .i64 n) := fun w => by
 simp [execOp, resolve, invoke, builtin, Builtin.len_, hx, run_underlying (bX ht), goInt]
theorem PV.L2 {t : TypeId} {dst : Option Tmp} {x : Operand} {qV : List TypeId} {ty e : TypeId} {pos : String} {after : Array Edge} {guard : Option (Nat × Bool)} {A : Option Addr} {n c : Nat}
  (ht : c8 P t = some e) (hx : ev σ x = .slice A n c) :
  PV P σ ⟨dst, .call ⟨.builtin .cap, [x].toArray, (t :: qV).toArray⟩, ty, pos, after, guard⟩ (.int .i64 c) := fun w => by
 simp [execOp, resolve, invoke, builtin, Builtin.cap_, hx, run_underlying (bX ht), goInt]
end
section
variable {r : Option Nat} {P : Program} {N : Nat} {σ : Env} {ds : List Deferred} {w : World} {ops : Array Oper} {rest : List Oper} {o : Oper} {K : Env → List Deferred → World → Prop} {v : Value}
theorem xR (h : PV P σ o v) : eW o = true := by
 unfold eW
 split
 ·
  rename_i c hc
  exfalso
  have h1 := h default
  simp only [execOp, hc] at h1
  generalize resolve (ev σ) c o.type = m at h1
  rw [Sem.run_bind] at h1
  cases hm : m.run P default with
  | ok d w' => rw [hm] at h1; simp [Result.andThen] at h1
  | halt x w' => rw [hm] at h1; simp [Result.andThen] at h1
 ·
  rfl
theorem WL.pv (h : PV P σ o v) (hw : cH ops σ o = true) (k : WL r P N ops rest K (dD N σ o.dst v) ds w) : WL r P N ops (o :: rest) K σ ds w :=
 WL.val hw (xR h) (h w) k
end
end Go.Sp
