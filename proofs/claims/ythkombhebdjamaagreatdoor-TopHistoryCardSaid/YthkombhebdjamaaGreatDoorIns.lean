/- Part of the proof of this claim: walks through the program's functions and the plain laws that they need, printed by a program of this session. -/
import Derived.Test.YthkombhebdjamaaGreatDoorStr
import Derived.Lib.AppendZerosOnto
import Derived.Lib.Overlaps
import Derived.Lib.BufferRead
import Derived.Laws.IdiomStrings
namespace Go.Sp
open Go.RowKit
theorem zN {P : Program} (w : World) (dT sT ty elem : TypeId) (g o dLen dCap : Nat) (a : Addr) (sLen sCap sz : Nat) (cur : Array Value) (t : TypeId) (cs : List Value)
  (hu : P.underlying dT = some (.slice elem)) (hs : cB P elem = some sz)
  (hg : w.heap[g]? = some (.cells cur t (0, 0))) (hn : cs.length = Nat.min sLen dLen * sz)
  (hsrc : ∀ j v, cs[j]? = some v → w.cell? (a.add j) = some v) (hfit : o + cs.length ≤ cur.size) (h1 : ∀ v ∈ cs, v.oneCell' = true) :
  (Builtin.copy_ #[dT, sT] ty #[.slice (some ⟨g, o, none⟩) dLen dCap, .slice (some a) sLen sCap]).run P w =
   .ok (goInt (Nat.min sLen dLen)) (w.setRow g (cur.toList.take o ++ cs ++ cur.toList.drop (o + cs.length)).toArray) := by
 have hl := run_loadCells_list (P := P) w a cs hsrc
 have hst := run_storeCells_at P g o t cs 0 cur w hg (by simpa using hfit) h1
 unfold cB at hs
 cases hq : P.info? elem with
 | none => simp [hq] at hs
 | some i =>
  have hi : i.size = sz := by simpa [hq] using hs
  simp [Builtin.copy_, run_underlying hu, Builtin.lenOf, Builtin.firstCells, sizeOf, typeInfo, hq, hi, ← hn, hl, hst]
section
variable {r : Option Nat} {P : Program} {N : Nat} {σ : Env} {ds : List Deferred} {w : World} {ops : Array Oper} {rest : List Oper} {K : Env → List Deferred → World → Prop}
variable {X : Nat → Prop} {w0 : World} {O L : List aP} {Ps : List (World → Prop)}
theorem F3 {dst : Option Tmp} {t t' ty e u : TypeId} {x y : Operand} {pos : String} {after : Array Edge} {guard : Option (Nat × Bool)} {b oo n c m sz : Nat} {v : Value} {cs l l' : List Value}
  (hb : aN w b u l) (ht : c8 P t = some e) (hs : cB P e = some sz) (hx : ev σ x = .slice (some ⟨b, oo, none⟩) n c) (hy : ev σ y = v) (hv : cN w v sz m cs)
  (h1 : eN (cs.take (min m n * sz))) (hl : Laid l oo (cs.take (min m n * sz)) l') (hw : cH ops σ ⟨dst, .call ⟨.builtin .copy, [x, y].toArray, [t, t'].toArray⟩, ty, pos, after, guard⟩ = true)
  (k : ∀ w', Out (· = b) w w' → aN w' b u l' → WL r P N ops rest K (dD N σ dst (.int .i64 (min m n : Nat))) ds w') :
  WL r P N ops (⟨dst, .call ⟨.builtin .copy, [x, y].toArray, [t, t'].toArray⟩, ty, pos, after, guard⟩ :: rest) K σ ds w := by
 subst hy
 obtain ⟨A, c', hA, hl2, hc, hn, hr⟩ := hv
 obtain ⟨hle, rfl⟩ := hl
 have YJ : (cs.take (min m n * sz)).length = min m n * sz := by
  rw [List.length_take, hl2]
  have : min m n * sz ≤ m * sz := Nat.mul_le_mul_right _ (Nat.min_le_left _ _)
  omega
 cases A with
 | none =>
  obtain ⟨rfl, rfl⟩ := hn rfl
  have e0 : cs = [] := List.eq_nil_of_length_eq_zero (by simpa using hl2)
  subst e0
  refine WL.val (v := .int .i64 0) (w' := w) hw rfl ?_ ?_
  ·
   have := run_copy_nil (P := P) w t t' ty e ⟨b, oo, none⟩ n c (bX ht) (by unfold cB at hs; rw [hs]; rfl)
   simp [execOp, resolve, invoke, builtin, hx, hA, this, goInt]
  ·
   have := k w (Out.refl _ w) (by
    have e1 : l.take oo ++ ([] : List Value).take (min 0 n * sz) ++ l.drop (oo + (([] : List Value).take (min 0 n * sz)).length) = l := by simp
    rw [e1]
    exact hb)
   simpa using this
 | some a =>
  have hrun := zN (P := P) w t t' ty e b oo n c a m c' sz l.toArray u (cs.take (min m n * sz)) (bX ht) hs hb YJ
   (fun j v hv => hr a rfl j v (by
    rw [List.getElem?_take] at hv
    split at hv
    ·
     exact hv
    ·
     cases hv)) (by simpa using hle) (fun v hv => h1 v hv)
  refine WL.val (v := .int .i64 (min m n : Nat)) (w' := w.setRow b (l.take oo ++ cs.take (min m n * sz) ++ l.drop (oo + (cs.take (min m n * sz)).length)).toArray) hw rfl ?_ (k _ Out.setRow (setRow_heap w b _ _ u _ hb))
  ·
   have aER : (Builtin.copy_ [t, t'].toArray ty #[ev σ x, ev σ y]).run P w = .ok (goInt (Nat.min m n)) (w.setRow b (l.take oo ++ cs.take (min m n * sz) ++ l.drop (oo + (cs.take (min m n * sz)).length)).toArray) := by
    rw [hx, hA]; exact hrun
   simp only [execOp, resolve, invoke, builtin, List.map_toArray, List.map_cons, List.map_nil]
   simp [aER, goInt, Nat.min_def]
theorem p9 {l : List Value} (h : eN l) (k : Nat) : eN (l.take k) := fun v hv => h v (List.mem_of_mem_take hv)
theorem WL.LX {dst : Option Tmp} {t t' ty e u : TypeId} {x y : Operand} {pos : String} {after : Array Edge} {guard : Option (Nat × Bool)} {b oo n c m sz : Nat} {v : Value} {cs l l' : List Value}
  (H : St X w0 w O L Ps) (i : Nat) (ht : c8 P t = some e) (hs : cB P e = some sz) (hx : ev σ x = .slice (some ⟨b, oo, none⟩) n c) (hi : L[i]? = some (aP.blk b u l)) (hy : ev σ y = v) (hv : cN w v sz m cs)
  (h1 : eN (cs.take (min m n * sz))) (hl : Laid l oo (cs.take (min m n * sz)) l') (hw : cH ops σ ⟨dst, .call ⟨.builtin .copy, [x, y].toArray, [t, t'].toArray⟩, ty, pos, after, guard⟩ = true)
  (k : ∀ w', St X w0 w' O (L.set i (aP.blk b u l')) Ps → WL r P N ops rest K (dD N σ dst (.int .i64 (min m n : Nat))) ds w') :
  WL r P N ops (⟨dst, .call ⟨.builtin .copy, [x, y].toArray, [t, t'].toArray⟩, ty, pos, after, guard⟩ :: rest) K σ ds w :=
 F3 (H.l i hi) ht hs hx hy hv h1 hl hw fun w' hO hB => k w' (H.oX hi hO (aP.blk b u l') hB fun _ h => .inl h)
theorem WL.aBj {dst : Option Tmp} {t t' ty e u : TypeId} {x y : Operand} {pos : String} {after : Array Edge} {guard : Option (Nat × Bool)} {b oo n c m sz : Nat} {v : Value} {cs l l' : List Value}
  (H : St X w0 w O L Ps) (i : Nat) (ht : c8 P t = some e) (hs : cB P e = some sz) (hx : ev σ x = .slice (some ⟨b, oo, none⟩) n c) (hi : O[i]? = some (aP.blk b u l)) (hy : ev σ y = v) (hv : cN w v sz m cs)
  (h1 : eN (cs.take (min m n * sz))) (hl : Laid l oo (cs.take (min m n * sz)) l') (hw : cH ops σ ⟨dst, .call ⟨.builtin .copy, [x, y].toArray, [t, t'].toArray⟩, ty, pos, after, guard⟩ = true)
  (k : ∀ w', St X w0 w' (O.set i (aP.blk b u l')) L Ps → WL r P N ops rest K (dD N σ dst (.int .i64 (min m n : Nat))) ds w') :
  WL r P N ops (⟨dst, .call ⟨.builtin .copy, [x, y].toArray, [t, t'].toArray⟩, ty, pos, after, guard⟩ :: rest) K σ ds w :=
 F3 (H.o i hi) ht hs hx hy hv h1 hl hw fun w' hO hB => k w' (H.vP hi hO (aP.blk b u l') hB fun _ => Iff.rfl)
theorem WL.aFN {dst : Option Tmp} {t tn ty e : TypeId} {zl : List Value} {bytes : Nat} {kn kq : IntKind} {x y : Operand} {pos : String} {after : Array Edge} {guard : Option (Nat × Bool)} {g i q c : Nat} {olds : List Value}
  (H : St X w0 w O L Ps) (ht : lZ P t e zl bytes) (hz : 0 < zl.length) (htn : P.underlying tn = some (.int kn)) (hx : ev σ x = .slice (some ⟨g, 0, none⟩) i c) (hy : ev σ y = .int kq ((q : Nat) : Int)) (hu : dA w ⟨g, 0, none⟩ olds) (hl : olds.length = i * zl.length)
  (hq : 0 < q) (hg : c < i + q) (hb : (i + q) * bytes ≤ 140737488355328) (h63 : i + q ≤ 9223372036854775807) (hw : cH ops σ ⟨dst, .call ⟨.builtin .append, [x, y].toArray, [t, tn].toArray⟩, ty, pos, after, guard⟩ = true)
  (k : ∀ b cap w' more, i + q ≤ cap → cap ≤ maxLen → more.length = (cap - (i + q)) * zl.length → St X w0 w' O (aP.blk b e (olds ++ jM q zl ++ more) :: L) Ps → WL r P N ops rest K (dD N σ dst (.slice (some ⟨b, 0, none⟩) (i + q) cap)) ds w') :
  WL r P N ops (⟨dst, .call ⟨.builtin .append, [x, y].toArray, [t, tn].toArray⟩, ty, pos, after, guard⟩ :: rest) K σ ds w := by
 obtain ⟨inf, z, hi, hiz, V5, his, hib⟩ := ht.info
 have hold : (Builtin.firstCells inf.size i (.slice (some ⟨g, 0, none⟩) i c)).run P w.drew = .ok olds.toArray w.drew := by
  rw [his]
  exact run_firstCells_some w.drew zl.length i ⟨g, 0, none⟩ i c olds hl (fun j v hj => hu j v hj)
 have hqb : q * bytes ≤ 281474976710656 := by
  have : q * bytes ≤ (i + q) * bytes := Nat.mul_le_mul_right _ (by omega)
  omega
 have h := Lib.run_append_grow_zeros w t tn ty e inf z kq kn (bX ht.und) htn hi hiz (some ⟨g, 0, none⟩) i c olds hold q hq (by omega) hg (by omega) (by rw [hib]; exact hqb) (by rw [hib]; exact growslice_fits hg hb)
 have hge := grownCap_ge w (i + q) c e
 have CT := grownCap_le_maxLen w (i + q) c e (by unfold maxLen; omega)
 have hzs : z.cells.size = zl.length := by rw [V5]; simp
 obtain ⟨more, aAP⟩ : ∃ more, more = (Builtin.zeroCells z.cells (grownCap w (i + q) c e - (i + q))).toList := ⟨_, rfl⟩
 have zS : more.length = (grownCap w (i + q) c e - (i + q)) * zl.length := by rw [aAP]; simp [Builtin.zeroCells, hzs]
 have aCy : (olds.toArray ++ Builtin.zeroCells z.cells q ++ Builtin.zeroCells z.cells (grownCap w (i + q) c e - (i + q))) = (olds ++ jM q zl ++ more).toArray := by
  apply Array.ext'
  rw [aAP]
  simp only [Array.toList_append]
  congr 2
  unfold Builtin.zeroCells
  rw [V5, List.size_toArray]
  have := congrArg Array.toList (vZ q zl)
  simpa using this
 rw [aCy] at h
 refine WL.val (v := .slice (some ⟨w.heap.size, 0, none⟩) (i + q) (grownCap w (i + q) c e)) (w' := w.drew.alloc (.cells (olds ++ jM q zl ++ more).toArray e)) hw rfl ?_ (k _ _ _ more hge CT zS ?_)
 ·
  have e2 : ∀ cs, (Go.invoke (Target.builtin .append #[t, tn] ty cs) #[Value.slice (some ⟨g, 0, none⟩) i c, Value.int kq ((q : Nat) : Int)]).run P w = .ok (.value (.slice (some ⟨w.heap.size, 0, none⟩) (i + q) (grownCap w (i + q) c e))) (w.drew.alloc (.cells (olds ++ jM q zl ++ more).toArray e)) := fun cs => by
   show (do pure (Next.value (← Builtin.append_ #[t, tn] ty #[Value.slice (some ⟨g, 0, none⟩) i c, Value.int kq ((q : Nat) : Int)])) : Sem Next).run P w = _
   rw [Sem.run_bind, h]; rfl
  simpa [execOp, resolve, hx, hy] using e2 _
 ·
  exact H.push ((Out.drew w).trans (Out.alloc _ _)) (aP.blk w.heap.size e (olds ++ jM q zl ++ more)) (heap_alloc_new w.drew _) (fun b hb => by cases hb; exact Nat.le_refl _)
theorem rB {b : Nat} {e : TypeId} {l : List Value} {o : Nat} (hb : aN w b e l) : w.frozen? ⟨b, o, none⟩ = false := by
 unfold aN at hb
 simp [World.frozen?, hb]
theorem zL {tS tR e : TypeId} {sz : Nat} {b g oa ob la ca lb cb : Nat} {u t : TypeId} {l m : List Value} (ht : c8 P tS = some e) (hs : cB P e = some sz) (hb : aN w b u l) (hg : aN w g t m) (hne : b ≠ g) (hm : m ≠ []) :
  (Extern.SlicesOverlaps.overlaps #[tS, tS] #[tR] [.slice (some ⟨b, oa, none⟩) la ca, .slice (some ⟨g, ob, none⟩) lb cb].toArray).run P w = .ok (.bool false) w :=
 Lib.run_overlaps_apart w tS tR e (bX ht) sz (fun w => cU hs w) ⟨b, oa, none⟩ ⟨g, ob, none⟩ la ca lb cb hne u t l.length m.length (sH hb) (sH hg) (fun h => hm (List.eq_nil_of_length_eq_zero h)) (rB hb) (rB hb)
end
theorem PV.aD5 {P : Program} {σ : Env} {o : Oper} {t e : TypeId} {x y : Operand} {b n c sz j : Nat} {k : IntKind} (h : o.op = .slice t x none (some y) none) (ht : c8 P t = some e) (he : cB P e = some sz)
  (hx : ev σ x = .slice (some ⟨b, 0, none⟩) n c) (hy : ev σ y = .int k ((j : Nat) : Int)) (h1 : j ≤ c) : PV P σ o (.slice (some ⟨b, 0, none⟩) j c) := fun w => by
 have h5 : ∀ a : Addr, a.add 0 = a := fun a => by unfold Addr.add; simp
 have h6 := run_sliceBound (P := P) (code := .sliceAcap) (x := .int k (j : Int)) (y := c) rfl (by omega) (by omega) w
 simp [execOp, h, hx, hy, Instr.sliceAt, run_underlying (bX ht), Instr.slice, Instr.sliceBounds, run_sliceBound rfl (show (0:Int) ≤ j by omega) (show (j:Int) ≤ c by omega), cU he]
 exact fun _ => h5 _
section
variable {r : Option Nat} {P : Program} {N : Nat} {σ : Env} {ds : List Deferred} {w : World} {ops : Array Oper} {o : Oper} {rest : List Oper} {K : Env → List Deferred → World → Prop}
end
theorem PV.aD6 {P : Program} {σ : Env} {o : Oper} {t e : TypeId} {x z u : Operand} {w1 : World} {v : Value} {sz n : Nat} {cs : List Value} {j : Int} {k' k'' : IntKind} (h : o.op = .slice t x none (some z) (some u)) (hs : cN w1 v sz n cs) (ht : c8 P t = some e) (he : cB P e = some sz)
  (hx : ev σ x = v) (hz : ev σ z = .int k' j) (hu : ev σ u = .int k'' j) (h0 : 0 ≤ j) (h1 : j ≤ n) : PV P σ o (nE v sz 0 j.toNat) := fun w => by
 obtain ⟨A, c, rfl, h2, h3, _⟩ := hs
 have h4 : j ≤ (c : Int) := by omega
 have h6 : j ≤ (j.toNat : Int) := by omega
 have h5 : ∀ a : Addr, a.add 0 = a := fun a => by unfold Addr.add; simp
 have h7 : A.map (fun a : Addr => a) = A := by cases A <;> rfl
 by_cases h8 : j = 0
 ·
  subst h8
  simp [execOp, h, hx, hz, hu, Instr.sliceAt, run_underlying (bX ht), Instr.slice, Instr.sliceBounds, run_sliceBound rfl (show (0:Int) ≤ 0 by omega) (show (0:Int) ≤ c by omega), run_sliceBound rfl (show (0:Int) ≤ 0 by omega) (show (0:Int) ≤ (0:Nat) by omega), cU he, nE]
 ·
  have h9 : ¬ j.toNat = 0 := by omega
  simp [execOp, h, hx, hz, hu, Instr.sliceAt, run_underlying (bX ht), Instr.slice, Instr.sliceBounds, run_sliceBound rfl h0 h4, run_sliceBound rfl h0 h6, cU he, nE, h5, h7]
end Go.Sp
