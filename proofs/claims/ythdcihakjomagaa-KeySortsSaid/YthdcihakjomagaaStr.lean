/- Strings; clear; slices to array pointers. -/
import Derived.Test.YthdcihakjomagaaRng
import Derived.Test.YthdcihakjomagaaMore
import Derived.Laws.Strings
import Derived.Laws.RangeAny
import Derived.Lib.OthersKept
import Derived.Lib.Builder
namespace Go.Sp
open Go.RowKit
def strV (l : List UInt8) : Value := .string ⟨l.toArray⟩
theorem baSize (l : List UInt8) : (⟨l.toArray⟩ : ByteArray).size = l.length := rfl
section
variable {P : Program} {σ : Env} {o : Oper} {t u : TypeId} {x y z : Operand}
theorem PV.lenStr {dst : Option Tmp} {x : Operand} {ats : List TypeId} {ty : TypeId} {pos : String} {after : Array Edge} {guard : Option (Nat × Bool)} {l : List UInt8}
    (ht : P.underlying t = some .string) (hx : ev σ x = strV l) :
    PV P σ ⟨dst, .call ⟨.builtin .len, [x].toArray, (t :: ats).toArray⟩, ty, pos, after, guard⟩ (.int .i64 (l.length : Int)) := fun w => by
  simp [execOp, resolve, invoke, builtin, Builtin.len_, hx, strV, run_underlying ht, goInt, baSize]
theorem PV.eqlStr {l m : List UInt8} (h : o.op = .binOp .eql t x y u) (hx : ev σ x = strV l) (hy : ev σ y = strV m) : PV P σ o (.bool (l == m)) := fun w => by
  simp [execOp, h, hx, hy, strV, eqGuard, binOp, Op.stringOp]
theorem PV.addStr {l m : List UInt8} (h : o.op = .binOp .add t x y u) (hx : ev σ x = strV l) (hy : ev σ y = strV m) (hb : l.length + m.length ≤ 9223372036854775807) : PV P σ o (strV (l ++ m)) := fun w => by
  have e : (⟨l.toArray⟩ : ByteArray) ++ ⟨m.toArray⟩ = ⟨(l ++ m).toArray⟩ := by
    apply ByteArray.ext
    simp
  have h2 : ¬ (9223372036854775807 : Int) < ((⟨l.toArray⟩ : ByteArray).size : Int) + ((⟨m.toArray⟩ : ByteArray).size : Int) := by rw [baSize, baSize]; omega
  simp [execOp, h, hx, hy, strV, binOp, Op.stringOp, eqGuard, h2, e]
theorem PV.idxStr {l : List UInt8} {i : Nat} {k : IntKind} (h : o.op = .index t x y) (ht : P.underlying t = some .string) (hx : ev σ x = strV l) (hy : ev σ y = .int k (i : Int)) (hi : i < l.length) : PV P σ o (.int .u8 (l[i].toNat : Int)) :=
  PV.indexStr h ht hx hy (by show (⟨l.toArray⟩ : ByteArray)[i]? = some l[i]; exact ByteArray.getElem?_lt' _ _ (show i < (⟨l.toArray⟩ : ByteArray).size from hi))
theorem PV.subStr {l : List UInt8} {i j : Nat} {k k' : IntKind} (h : o.op = .slice t x (some y) (some z) none) (ht : P.underlying t = some .string) (hx : ev σ x = strV l) (hy : ev σ y = .int k (i : Int)) (hz : ev σ z = .int k' (j : Int)) (hij : i ≤ j) (hj : j ≤ l.length) :
    PV P σ o (strV ((l.drop i).take (j - i))) := fun w => by
  have e : (⟨l.toArray⟩ : ByteArray).extract i j = ⟨((l.drop i).take (j - i)).toArray⟩ := by
    apply ByteArray.ext
    rw [ByteArray.data_extract]
    apply Array.ext'
    simp [List.extract_eq_take_drop]
  have h1 := run_sliceBound (P := P) (code := .sliceAlen) (x := .int k' (j : Int)) (y := (⟨l.toArray⟩ : ByteArray).size) rfl (by omega) (by rw [baSize]; omega) w
  have h2 := run_sliceBound (P := P) (code := .sliceB) (x := .int k (i : Int)) (y := j) rfl (by omega) (by omega) w
  rw [Int.toNat_natCast] at h1 h2
  simp [execOp, h, hx, hy, hz, strV, Instr.sliceAt, Instr.slice, run_underlying ht, Instr.sliceBounds, h1, h2, e]
end
section
variable {r : Option Nat} {P : Program} {N : Nat} {σ : Env} {ds : List Deferred} {w : World} {ops : Array Oper} {o : Oper} {rest : List Oper} {K : Env → List Deferred → World → Prop}
variable {X : Nat → Prop} {w0 : World} {O L : List Ent} {Ps : List (World → Prop)}
theorem WL.rangeStr {t : TypeId} {x : Operand} {l : List UInt8} (H : St X w0 w O L Ps) (h : o.op = .range t x) (ht : P.underlying t = some .string) (hx : ev σ x = strV l) (hw : wantedE ops σ o = true)
    (k : ∀ b w', St X w0 w' O (Ent.obj b (.stringIter ⟨l.toArray⟩ 0) :: L) Ps → WL r P N ops rest K (upd N σ o.dst (.pointer (some ⟨b, 0, none⟩))) ds w') : WL r P N ops (o :: rest) K σ ds w := by
  refine WL.val (v := .pointer (some ⟨w.heap.size, 0, none⟩)) (w' := w.iter ⟨l.toArray⟩ 0) hw (by unfold noDefer; rw [h]) ?_ (k _ _ ?_)
  · simp [execOp, h, hx, strV, run_range_string w t _ ht]
  · exact H.push (Out.alloc w _) _ (World.iter_heap w _ 0) fun b hb => by (cases hb; exact Nat.le_refl _)
theorem iterAt_out {w : World} {b : Nat} {s : ByteArray} {p : Nat} : Out (· = b) w (w.iterAt b s p) := ⟨rfl, rfl, rfl, by rw [Lib.iterAt_size]; exact Nat.le_refl _, fun c _ hm => Lib.iterAt_other w b c s p hm⟩
theorem WL.nextEnd {x : Operand} {b pos : Nat} {l : List UInt8} (H : St X w0 w O L Ps) (i : Nat) (h : o.op = .next x true) (hx : ev σ x = .pointer (some ⟨b, 0, none⟩)) (hi : L[i]? = some (Ent.obj b (.stringIter ⟨l.toArray⟩ pos))) (hp : l.length ≤ pos) (hw : wantedE ops σ o = true)
    (k : WL r P N ops rest K (upd N σ o.dst (.tuple [.bool false].toArray)) ds w) : WL r P N ops (o :: rest) K σ ds w := by
  have hb : w.heap[b]? = some (.stringIter ⟨l.toArray⟩ pos) := H.l i hi
  refine WL.val (v := .tuple [.bool false].toArray) (w' := w) hw (by unfold noDefer; rw [h]) ?_ k
  have := Lib.run_next_end_at (P := P) w b ⟨l.toArray⟩ pos o.type hb (by rw [baSize]; omega)
  simp [execOp, h, hx, this]
theorem WL.nextStr {x : Operand} {b pos : Nat} {l : List UInt8} (H : St X w0 w O L Ps) (i : Nat) (h : o.op = .next x true) (hx : ev σ x = .pointer (some ⟨b, 0, none⟩)) (hi : L[i]? = some (Ent.obj b (.stringIter ⟨l.toArray⟩ pos))) (hp : pos < l.length) (hw : wantedE ops σ o = true)
    (k : ∀ w', St X w0 w' O (L.set i (Ent.obj b (.stringIter ⟨l.toArray⟩ (pos + (Utf8.decode ⟨l.toArray⟩ pos).2)))) Ps → WL r P N ops rest K (upd N σ o.dst (.tuple [.bool true, .int .i64 (pos : Int), .int .i32 ((Utf8.decode ⟨l.toArray⟩ pos).1 : Int)].toArray)) ds w') : WL r P N ops (o :: rest) K σ ds w := by
  have hb : w.heap[b]? = some (.stringIter ⟨l.toArray⟩ pos) := H.l i hi
  have := Lib.run_next_any_at (P := P) w b ⟨l.toArray⟩ pos o.type hb (by rw [baSize]; exact hp)
  refine WL.val (v := .tuple [.bool true, .int .i64 (pos : Int), .int .i32 ((Utf8.decode ⟨l.toArray⟩ pos).1 : Int)].toArray) (w' := w.iterAt b ⟨l.toArray⟩ (pos + (Utf8.decode ⟨l.toArray⟩ pos).2)) hw (by unfold noDefer; rw [h]) ?_ (k _ ?_)
  · simp [execOp, h, hx, this]
  · exact H.setL hi iterAt_out _ (Lib.iterAt_heap w b _ pos _ hb) fun _ h => .inl h
theorem decode_lt {l : List UInt8} {pos : Nat} (h : pos < l.length) (ha : l[pos].toNat < 128) : Utf8.decode ⟨l.toArray⟩ pos = (l[pos].toNat, 1) := by
  have := decode_ascii ⟨l.toArray⟩ pos (by rw [baSize]; exact h) ha
  exact this
theorem decode_ge {l : List UInt8} {pos : Nat} (h : pos < l.length) (ha : 128 ≤ l[pos].toNat) : 128 ≤ (Utf8.decode ⟨l.toArray⟩ pos).1 ∧ (Utf8.decode ⟨l.toArray⟩ pos).1 ≤ 2147483647 := ⟨(decode_high ⟨l.toArray⟩ pos (by rw [baSize]; exact h) ha).1, decode_le _ _⟩
/-- the rest of a row is cleared -/
theorem WL.clearO {dst : Option Tmp} {t e ty : TypeId} {x : Operand} {pos : String} {after : Array Edge} {guard : Option (Nat × Bool)} {b oo n c sz : Nat} {et : TypeId} {l zl : List Value}
    (H : St X w0 w O L Ps) (i : Nat) (ht : tySlice P t = some e) (hz : tyCells P e = some zl) (h1 : oneAll zl) (hzs : zl.length = sz) (hx : ev σ x = .slice (some ⟨b, oo, none⟩) n c) (hi : O[i]? = some (Ent.blk b et l)) (hn : 0 < n) (hl : oo + n * sz ≤ l.length)
    (hw : wantedE ops σ ⟨dst, .call ⟨.builtin .clear, [x].toArray, [t].toArray⟩, ty, pos, after, guard⟩ = true)
    (k : ∀ w' new, new.length = n * sz → St X w0 w' (O.set i (Ent.blk b et (l.take oo ++ new ++ l.drop (oo + n * sz)))) L Ps → WL r P N ops rest K (upd N σ dst (.tuple [].toArray)) ds w') : WL r P N ops (⟨dst, .call ⟨.builtin .clear, [x].toArray, [t].toArray⟩, ty, pos, after, guard⟩ :: rest) K σ ds w := by
  obtain ⟨z, hzv, hzc⟩ := run_zeroValue' hz w
  obtain ⟨new, hnew⟩ : ∃ new, new = (Builtin.zeroCells z.cells n).toList := ⟨_, rfl⟩
  have hnl : new.length = n * sz := by rw [hnew, hzc]; simp [Builtin.zeroCells, hzs]
  have hno : oneAll new := fun v hv => by
    rw [hnew, hzc] at hv
    simp only [Builtin.zeroCells, Array.toList_map, List.mem_map] at hv
    obtain ⟨j, _, rfl⟩ := hv
    by_cases hj : j % zl.toArray.size < zl.toArray.size
    · rw [getElem!_pos zl.toArray _ hj]
      exact h1 _ (by simp)
    · have h0 : zl.toArray.size = 0 := by
        rcases Nat.eq_zero_or_pos zl.toArray.size with h | h
        · exact h
        · exact absurd (Nat.mod_lt _ h) hj
      rw [getElem!_neg zl.toArray _ hj]; rfl
  have hb := H.o i hi
  have hla : Laid l oo new (l.take oo ++ new ++ l.drop (oo + n * sz)) := ⟨by rw [hnl]; exact hl, by rw [hnl]⟩
  have hst := run_storeCells_at P b oo et new 0 l.toArray w hb (by simpa using hla.1) hno
  obtain ⟨m, rfl⟩ : ∃ m, n = m + 1 := ⟨n - 1, by omega⟩
  have hr : (Builtin.clear_ #[t] ty #[.slice (some ⟨b, oo, none⟩) (m + 1) c]).run P w = .ok (.tuple #[]) (w.setRow b (l.take oo ++ new ++ l.drop (oo + (m + 1) * sz)).toArray) := by
    simp only [Builtin.clear_]
    simp [run_underlying (und_of_slice ht), hzv, ← hnew, hst, hnl]
  have e : ([x].toArray.map (ev σ)) = #[Value.slice (some ⟨b, oo, none⟩) (m + 1) c] := by simp [hx]
  refine WL.val (v := .tuple [].toArray) (w' := w.setRow b (l.take oo ++ new ++ l.drop (oo + (m + 1) * sz)).toArray) hw rfl ?_ (k _ new hnl ?_)
  · have e2 : ∀ cs, (Go.invoke (Target.builtin .clear #[t] ty cs) #[Value.slice (some ⟨b, oo, none⟩) (m + 1) c]).run P w = .ok (.value (.tuple #[])) (w.setRow b (l.take oo ++ new ++ l.drop (oo + (m + 1) * sz)).toArray) := fun cs => by
      show (do pure (Next.value (← Builtin.clear_ #[t] ty #[Value.slice (some ⟨b, oo, none⟩) (m + 1) c])) : Sem Next).run P w = _
      rw [Sem.run_bind, hr]; rfl
    simpa [execOp, resolve, hx] using e2 _
  · exact H.setO hi Out.setRow _ (setRow_heap w b _ _ et _ hb) fun _ => Iff.rfl
end
theorem PV.arrAt {P : Program} {σ : Env} {o : Oper} {t e : TypeId} {x : Operand} {a : Addr} {n c : Nat} (h : o.op = .sliceToArrayPointer t x) (ht : tyArray P t = some (n, e)) (hx : ev σ x = .slice (some a) n c) : PV P σ o (.pointer (some a)) := fun w => by
  simp [execOp, h, hx, Instr.arrayAt, run_underlying (und_of_array ht)]
section
variable {r : Option Nat} {P : Program} {N : Nat} {σ : Env} {ds : List Deferred} {w : World} {ops : Array Oper} {o : Oper} {rest : List Oper} {K : Env → List Deferred → World → Prop}
theorem shape_of_blk {b : Nat} {e : TypeId} {l : List Value} (hb : Blk w b e l) : w.shape? b = some (e, l.length) := by
  unfold Blk at hb
  simp [World.shape?, hb]
/-- a pointer is turned to unsafe.Pointer -/
theorem WL.toUnsafe {t u te e : TypeId} {x : Operand} {b n : Nat} {l : List Value} (h : o.op = .convert t u x) (ht : P.underlying t = some (.pointer te)) (hu : P.underlying u = some .unsafePointer) (hs : tySize P te = some n) (hn : n ≠ 0)
    (hx : ev σ x = .pointer (some ⟨b, 0, none⟩)) (hb : Blk w b e l) (hl : 0 < l.length) (hw : wantedE ops σ o = true)
    (k : WL r P N ops rest K (upd N σ o.dst (.pointer (some ⟨b, 0, none⟩))) ds w) : WL r P N ops (o :: rest) K σ ds w := by
  obtain ⟨j, hj, hjn⟩ : ∃ j, P.info? te = some j ∧ j.size = n := by
    unfold tySize at hs
    cases hi : P.info? te with
    | none => rw [hi] at hs; cases hs
    | some j => rw [hi] at hs; injection hs with hs; exact ⟨j, rfl, hs⟩
  refine WL.val (v := .pointer (some ⟨b, 0, none⟩)) (w' := w) hw (by unfold noDefer; rw [h]) ?_ k
  have := Lib.run_to_unsafe (P := P) w (src := t) (dst := u) ⟨b, 0, none⟩ ht hu hj (by omega) (shape_of_blk hb) hl
  simp [execOp, h, hx, this]
theorem WL.fromUnsafe {t u te e : TypeId} {x : Operand} {b n : Nat} {l : List Value} (h : o.op = .convert t u x) (ht : P.underlying t = some .unsafePointer) (hu : P.underlying u = some (.pointer te)) (hs : tySize P te = some n)
    (hx : ev σ x = .pointer (some ⟨b, 0, none⟩)) (hb : Blk w b e l) (hl : liesAt P P.depth e (l.length / P.cellsOf e) 0 te 1 = true) (hw : wantedE ops σ o = true)
    (k : WL r P N ops rest K (upd N σ o.dst (.pointer (some ⟨b, 0, none⟩))) ds w) : WL r P N ops (o :: rest) K σ ds w := by
  obtain ⟨j, hj, hjn⟩ : ∃ j, P.info? te = some j ∧ j.size = n := by
    unfold tySize at hs
    cases hi : P.info? te with
    | none => rw [hi] at hs; cases hs
    | some j => rw [hi] at hs; injection hs with hs; exact ⟨j, rfl, hs⟩
  refine WL.val (v := .pointer (some ⟨b, 0, none⟩)) (w' := w) hw (by unfold noDefer; rw [h]) ?_ k
  have := Lib.run_from_unsafe (P := P) w (src := t) (dst := u) ⟨b, 0, none⟩ ht hu hj (shape_of_blk hb) hl
  simp [execOp, h, hx, this]
end
end Go.Sp
