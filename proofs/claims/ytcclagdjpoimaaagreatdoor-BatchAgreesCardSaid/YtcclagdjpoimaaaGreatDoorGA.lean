/- Walks of functions, printed by a program of this session (gen.py) from notes on each function. -/
import Derived.Test.YtcclagdjpoimaaaGreatDoorG9
import Derived.Test.YtcclagdjpoimaaaGreatDoorExt
set_option maxRecDepth 100000
set_option maxHeartbeats 1000000
set_option linter.unusedVariables false
set_option linter.unusedSimpArgs false
namespace Go.Sp.Tryz
open Go.Proofs Go.RowKit Go.Sp

structure Ong (C : Nat → Prop) (W0 w : World) : Prop where
  os : w.os = W0.os
  tape : w.tape = W0.tape
  output : w.output = W0.output
  size : W0.heap.size ≤ w.heap.size
  old : ∀ b, b < W0.heap.size → ¬ C b → w.heap[b]? = W0.heap[b]?
theorem Ong.refl (C : Nat → Prop) (w : World) : Ong C w w := ⟨rfl, rfl, rfl, Nat.le_refl _, fun _ _ _ => rfl⟩
theorem Ong.of_out {C : Nat → Prop} {W0 w : World} (h : Out Nil W0 w) : Ong C W0 w := ⟨h.os, h.tape, h.output, h.size, fun b hb _ => h.block b hb id⟩
theorem Ong.out {C : Nat → Prop} {W0 w w' : World} (h : Ong C W0 w) (ho : Out Nil w w') : Ong C W0 w' :=
  ⟨ho.os.trans h.os, ho.tape.trans h.tape, ho.output.trans h.output, Nat.le_trans h.size ho.size, fun b hb hc => (ho.block b (Nat.lt_of_lt_of_le hb h.size) id).trans (h.old b hb hc)⟩
theorem Ong.kept {T C : Nat → Prop} {W0 W w : World} (h : Kept T C W0 W w) (hT : ∀ b, T b → W0.heap.size ≤ b) : Ong C W0 w :=
  ⟨h.os, h.tape, h.output, h.size, fun b hb hc => h.old b hb hc fun ht => by have := hT b ht; omega⟩
theorem Ong.rob {C : Nat → Prop} {W0 w : World} {p : World → Prop} (h : Ong C W0 w) (hp : Rob C p W0) : Rob C p w := fun w' hw =>
  hp w' fun b hb hc => (hw b (Nat.lt_of_lt_of_le hb h.size) hc).trans (h.old b hb hc)
def SeqN (P : Program) (g : FuncId) (fs cs : List Value) (n : Nat) (V : Nat → List Value → World → Prop) (C : Nat → Prop) (W0 : World) : Prop :=
  ∀ (f : Value) (J : Nat → World → Prop) (Jx : World → Prop), J 0 W0 → (∀ i W W', J i W → Out Nil W W' → J i W') → (∀ W W', Jx W → Out Nil W W' → Jx W') →
    (∀ i xs W W2, i < n → J i W → Out Nil W W2 → Rob (· < W.heap.size) (V i xs) W2 → CallV P f xs W2 fun v W' => Kept Nil C W0 W2 W' ∧ ((v = .bool true ∧ J (i + 1) W') ∨ (v = .bool false ∧ Jx W'))) → IsFn f →
    Ret P g (fs ++ [f] ++ cs).toArray W0 fun v W' => v = .tuple #[] ∧ (J n W' ∨ Jx W')
theorem SeqN.seqV {P : Program} {g : FuncId} {fs cs : List Value} {n : Nat} {V : Nat → List Value → World → Prop} {C : Nat → Prop} {W0 : World} (h : SeqN P g fs cs n V C W0) : SeqV P g fs cs n V Nil C W0 := by
  intro f J Jx hst hsta hstx hround hf
  refine (h f (J Nil) (Jx Nil) (hst Nil W0 (Out.refl _ _) (fun _ h => h.elim) (fun _ h => h.elim)) (fun i W W' => hsta Nil i W W') (fun W W' => hstx Nil W W') (fun i xs W W2 h1 h2 h3 h4 => hround Nil i xs W W2 h1 h2 h3 h4) hf).mono ?_
  rintro v W' ⟨h1, h2⟩
  exact ⟨h1, Nil, h2⟩
structure KeptS (C : Nat → Prop) (w : World) (l : Nat) (W W' : World) : Prop where
  os : W'.os = W.os
  tape : W'.tape = W.tape
  output : W'.output = W.output
  size : w.heap.size + 2 ≤ W'.heap.size
  old : ∀ b, b < w.heap.size → ¬ C b → W'.heap[b]? = W.heap[b]?
  loop : W'.heap[l]? = W.heap[l]?
def roundS (C : Nat → Prop) (w : World) (l : Nat) (W : World) (S : World → Prop) (Sx : Exit → World → Prop) : EPost
  | .normal, _, _, W' => KeptS C w l W W' ∧ S W'
  | .ret, _, _, W' => KeptS C w l W W' ∧ Sx .ret W'
  | .exit id, _, _, W' => KeptS C w l W W' ∧ Sx (.exit id) W'
  | _, _, _, _ => False
end Go.Sp.Tryz

set_option maxRecDepth 100000
set_option maxHeartbeats 1000000
set_option linter.unusedVariables false
set_option linter.unusedSimpArgs false
namespace Go.Sp.Tryz
open Go.Proofs Go.RowKit Go.Sp

def lvV (L : List (Tr × Nat)) (i : Nat) (xs : List Value) (_ : World) : Prop := ∃ p, L[i]? = some p ∧ xs = [p.1.ptr, .int .i64 (p.2 : Int)]
theorem lvV_len {L : List (Tr × Nat)} (i : Nat) (xs : List Value) (W : World) (h : lvV L i xs W) : xs.length = 2 := by obtain ⟨p, _, rfl⟩ := h; rfl
def LvOK (T : Tr) : Prop := ∀ {X : Nat → Prop} {w W0 : World} {bits : Int} {d i : Nat} {L : List (Tr × Nat)} {f : Value} {J : Nat → World → Prop} {Jx : World → Prop}, (∀ b, X b → b < w.heap.size) → (∀ b, X b → b < W0.heap.size) → Rob X (TrA bits T) W0 → Ong X W0 w → T.er.fit d →
  (∀ j, j < (T.lvs d).length → L[i + j]? = (T.lvs d)[j]?) → (∀ i W W', J i W → Out Nil W W' → J i W') →
  (∀ i xs W W2, i < L.length → J i W → Out Nil W W2 → Rob (· < W.heap.size) (lvV L i xs) W2 → CallV Tryz.prog f xs W2 fun v W' => Kept Nil X W0 W2 W' ∧ ((v = .bool true ∧ J (i + 1) W') ∨ (v = .bool false ∧ Jx W'))) → IsFn f → J i w →
  Ret Tryz.prog 110 [T.ptr, .int .i64 (d : Int), f].toArray w fun v w' => ∃ b, v = .bool b ∧ Ong X W0 w' ∧ (b = true → J (i + (T.lvs d).length) w') ∧ (b = false → Jx w')
def eachF (b : Nat) : Value := .func (.func 109) [].toArray [.pointer (some ⟨b, 0, none⟩)].toArray
def allV (L : List (Tr × Nat)) (i : Nat) (xs : List Value) (W : World) : Prop := ∃ p s, L[i]? = some p ∧ xs = [.agg (kc p.1.key).toArray, s] ∧ SlB s p.1.val W
theorem LvNil_c {X : Nat → Prop} {w : World} {W0 : World} {bits : Int} {d i : Nat} {L : List (Tr × Nat)} {f : Value} {J : Nat → World → Prop} {Jx : World → Prop}  (hX : ∀ b, X b → b < w.heap.size) (hX0 : ∀ b, X b → b < W0.heap.size) (hA : Rob X (TrA bits Tr.nil) W0) (hOng : Ong X W0 w) (hfit : Tr.nil.er.fit d) (hL : ∀ j, j < (Tr.nil.lvs d).length → L[i + j]? = (Tr.nil.lvs d)[j]?) (hsta : ∀ i W W', J i W → Out Nil W W' → J i W') (hround : ∀ i xs W W2, i < L.length → J i W → Out Nil W W2 → Rob (· < W.heap.size) (lvV L i xs) W2 → CallV Tryz.prog f xs W2 fun v W' => Kept Nil X W0 W2 W' ∧ ((v = .bool true ∧ J (i + 1) W') ∨ (v = .bool false ∧ Jx W'))) (hf : IsFn f) (hJ : J i w) :
    Ret Tryz.prog 110 [Tr.nil.ptr, .int .i64 (d : Int), f].toArray w fun v w' => ∃ b, v = .bool b ∧ Ong X W0 w' ∧ (b = true → J (i + (Tr.nil.lvs d).length) w') ∧ (b = false → Jx w') := by
  refine Ret.of_body (N := 31) Tryz.func110 rfl rfl (by simp) ?_
  have H := (St.begin hX).add (rob0 (hOng.rob hA))
  refine WE.seq_reg ?_
  refine WL.as rfl rfl ?_
  refine WL.nil ?_
  refine WE.seq ?_
  refine WE.seq_reg ?_
  refine WL.mv rfl rfl ?_
  refine WL.call TryzT.fb56 rfl (NKind_c (T := .nil) (bits := bits) H.yylt (by exact H.rob 0 rfl) ) ?_
  rintro _ w1 ⟨rfl, hO⟩
  replace H := H.out hO
  refine WL.nil ?_
  refine WE.block ?_
  refine WE.seq_reg ?_
  refine WL.pv (PV.eql rfl rfl rfl) rfl ?_
  refine WL.as rfl rfl ?_
  refine WL.nil ?_
  refine WE.cond_f' rfl rfl ?_
  refine WE.seq_reg ?_
  refine WL.pv (PV.eql rfl rfl rfl) rfl ?_
  refine WL.as rfl rfl ?_
  refine WL.nil ?_
  refine WE.cond_f' rfl rfl ?_
  refine WE.skip ?_
  refine WE.seq_reg ?_
  refine WL.as rfl rfl ?_
  refine WL.nil ?_
  refine WE.ret ?_
  refine ⟨[_], _, .nil _, ⟨rfl, trivial⟩, ?_⟩
  exact ⟨true, rfl, hOng.out H.toOut0, (fun _ => hsta _ _ _ hJ H.toOut0), fun h => by cases h⟩

theorem LvLeaf_c {X : Nat → Prop} {w : World} {W0 : World} {bits : Int} {d i : Nat} {L : List (Tr × Nat)} {f : Value} {J : Nat → World → Prop} {Jx : World → Prop} {a : Nat} {q u : List UInt8} {s : Value} (hX : ∀ b, X b → b < w.heap.size) (hX0 : ∀ b, X b → b < W0.heap.size) (hA : Rob X (TrA bits (Tr.leaf a q u s)) W0) (hOng : Ong X W0 w) (hfit : (Tr.leaf a q u s).er.fit d) (hL : ∀ j, j < ((Tr.leaf a q u s).lvs d).length → L[i + j]? = ((Tr.leaf a q u s).lvs d)[j]?) (hsta : ∀ i W W', J i W → Out Nil W W' → J i W') (hround : ∀ i xs W W2, i < L.length → J i W → Out Nil W W2 → Rob (· < W.heap.size) (lvV L i xs) W2 → CallV Tryz.prog f xs W2 fun v W' => Kept Nil X W0 W2 W' ∧ ((v = .bool true ∧ J (i + 1) W') ∨ (v = .bool false ∧ Jx W'))) (hf : IsFn f) (hJ : J i w) :
    Ret Tryz.prog 110 [(Tr.leaf a q u s).ptr, .int .i64 (d : Int), f].toArray w fun v w' => ∃ b, v = .bool b ∧ Ong X W0 w' ∧ (b = true → J (i + ((Tr.leaf a q u s).lvs d).length) w') ∧ (b = false → Jx w') := by
  refine Ret.of_body (N := 31) Tryz.func110 rfl rfl (by simp) ?_
  have H := (St.begin hX).add (rob0 (hOng.rob hA))
  have hLi : L[i]? = some ((Tr.leaf a q u s), d) := hL 0 (Nat.succ_pos _)
  have hiL := (List.getElem?_eq_some_iff.1 hLi).1
  refine WE.seq_reg ?_
  refine WL.as rfl rfl ?_
  refine WL.nil ?_
  refine WE.seq ?_
  refine WE.seq_reg ?_
  refine WL.mv rfl rfl ?_
  refine WL.call TryzT.fb56 rfl (NKind_c (T := (Tr.leaf a q u s)) (bits := bits) H.yylt (by exact H.rob 0 rfl) ) ?_
  rintro _ w1 ⟨rfl, hO⟩
  replace H := H.out hO
  refine WL.nil ?_
  refine WE.block ?_
  refine WE.seq_reg ?_
  refine WL.pv (PV.eql rfl rfl rfl) rfl ?_
  refine WL.as rfl rfl ?_
  refine WL.nil ?_
  refine WE.cond_t' rfl rfl ?_
  refine WE.seq_reg ?_
  refine WL.mv rfl rfl ?_
  refine WL.mv rfl rfl ?_
  refine WL.mv rfl rfl ?_
  refine WL.callV rfl rfl (hround i _ w _ hiL hJ H.toOut0 (Rob.pure ⟨_, hLi, rfl⟩)) ?_
  rintro _ w2 ⟨hk, ⟨rfl, hJ⟩ | ⟨rfl, hJ⟩⟩
  · skip
    have hOn2 := Ong.kept hk (fun _ h => h.elim)
    refine WL.as rfl rfl ?_
    refine WL.nil ?_
    refine WE.ret ?_
    refine ⟨[_], _, .nil _, ⟨rfl, trivial⟩, ?_⟩
    exact ⟨true, rfl, hOn2, (fun _ => hJ), fun h => by cases h⟩
  · skip
    have hOn2 := Ong.kept hk (fun _ h => h.elim)
    refine WL.as rfl rfl ?_
    refine WL.nil ?_
    refine WE.ret ?_
    refine ⟨[_], _, .nil _, ⟨rfl, trivial⟩, ?_⟩
    exact ⟨false, rfl, hOn2, (fun h => by cases h), fun _ => hJ⟩

theorem LvInner_s {X : Nat → Prop} {w : World} {W0 : World} {bits : Int} {d i : Nat} {L : List (Tr × Nat)} {f : Value} {J : Nat → World → Prop} {Jx : World → Prop} {a : Nat} {l r : Tr} (hX : ∀ b, X b → b < w.heap.size) (hX0 : ∀ b, X b → b < W0.heap.size) (hA : Rob X (TrA bits (Tr.inner a l r)) W0) (hOng : Ong X W0 w) (hfit : (Tr.inner a l r).er.fit d) (hL : ∀ j, j < ((Tr.inner a l r).lvs d).length → L[i + j]? = ((Tr.inner a l r).lvs d)[j]?) (hsta : ∀ i W W', J i W → Out Nil W W' → J i W') (hround : ∀ i xs W W2, i < L.length → J i W → Out Nil W W2 → Rob (· < W.heap.size) (lvV L i xs) W2 → CallV Tryz.prog f xs W2 fun v W' => Kept Nil X W0 W2 W' ∧ ((v = .bool true ∧ J (i + 1) W') ∨ (v = .bool false ∧ Jx W'))) (hf : IsFn f) (hJ : J i w) (ihl : LvOK l) (ihr : LvOK r) :
    Ret Tryz.prog 110 [(Tr.inner a l r).ptr, .int .i64 (d : Int), f].toArray w fun v w' => ∃ b, v = .bool b ∧ Ong X W0 w' ∧ (b = true → J (i + ((Tr.inner a l r).lvs d).length) w') ∧ (b = false → Jx w') := by
  refine Ret.of_body (N := 31) Tryz.func110 rfl rfl (by simp) ?_
  have H := (St.begin hX).add (rob0 (hOng.rob hA))
  have hll : (Tr.lvs d (Tr.inner a l r)).length = (l.lvs (d + 1)).length + (r.lvs (d + 1)).length := List.length_append
  have hd256 : d < 256 := hfit.1
  have hLl : ∀ j, j < (l.lvs (d + 1)).length → L[i + j]? = (l.lvs (d + 1))[j]? := fun j hj => (hL j (by rw [hll]; omega)).trans (List.getElem?_append_left hj)
  have hLr : ∀ j, j < (r.lvs (d + 1)).length → L[i + (l.lvs (d + 1)).length + j]? = (r.lvs (d + 1))[j]? := fun j hj => by rw [Nat.add_assoc]; refine (hL ((l.lvs (d + 1)).length + j) (by rw [hll]; omega)).trans ?_; show (l.lvs (d + 1) ++ r.lvs (d + 1))[_]? = _; rw [List.getElem?_append_right (by omega)]; congr 1; omega
  refine WE.seq_reg ?_
  refine WL.as rfl rfl ?_
  refine WL.nil ?_
  refine WE.seq ?_
  refine WE.seq_reg ?_
  refine WL.mv rfl rfl ?_
  refine WL.call TryzT.fb56 rfl (NKind_c (T := (Tr.inner a l r)) (bits := bits) H.yylt (by exact H.rob 0 rfl) ) ?_
  rintro _ w1 ⟨rfl, hO⟩
  replace H := H.out hO
  refine WL.nil ?_
  refine WE.block ?_
  refine WE.seq_reg ?_
  refine WL.pv (PV.eql rfl rfl rfl) rfl ?_
  refine WL.as rfl rfl ?_
  refine WL.nil ?_
  refine WE.cond_f' rfl rfl ?_
  refine WE.seq_reg ?_
  refine WL.pv (PV.eql rfl rfl rfl) rfl ?_
  refine WL.as rfl rfl ?_
  refine WL.nil ?_
  refine WE.cond_t' rfl rfl ?_
  refine WE.seq_reg ?_
  refine WL.mv rfl rfl ?_
  refine WL.call TryzT.fb85 rfl (Left_c (T := (Tr.inner a l r)) (bits := bits) H.yylt (by exact H.rob 0 rfl) ) ?_
  rintro _ w2 ⟨rfl, hO⟩
  replace H := H.out hO
  refine WL.mv rfl rfl ?_
  refine WL.pv (PV.eq (v' := .int .i64 ((d + 1 : Nat) : Int)) (PV.add64 rfl rfl rfl (by omega) (by omega)) (by rfl)) rfl ?_
  refine WL.mv rfl rfl ?_
  refine WL.call TryzT.fb110 rfl (ihl (X := X) (W0 := W0) (bits := bits) (d := d + 1) (i := i) (L := L) (J := J) (Jx := Jx) (fun b hb => H.yylt b (.inl hb)) hX0 (hA.imp fun _ h => h.left) (hOng.out H.toOut0) hfit.2.1 hLl hsta hround hf (hsta _ _ _ hJ H.toOut0)) ?_
  rintro _ w3 ⟨b22, rfl, hOn2, ht22, hf22⟩
  replace H := (St.begin (fun b hb => Nat.lt_of_lt_of_le (hX0 b hb) hOn2.size)).add (rob0 (hOn2.rob hA))
  refine WL.mv rfl rfl ?_
  refine WL.split (t := 23) rfl (fun hg23 => ?_) (fun hg23 => ?_)
  · skip
    refine WL.known (t := 22) (c := true) rfl hg23 ?_
    try simp only [decide_eq_true_eq, decide_eq_false_iff_not, ne_eq, Decidable.not_not, Bool.not_eq_true', Bool.not_eq_false', Bool.and_eq_true, Bool.or_eq_true, Bool.not_not, Bool.and_eq_false_iff, Bool.or_eq_false_iff, Int.not_lt, Int.not_le] at hg23
    subst hg23
    refine WL.mv rfl rfl ?_
    refine WL.call TryzT.fb86 rfl (Right2_c (T := (Tr.inner a l r)) (bits := bits) H.yylt (by exact H.rob 0 rfl) ) ?_
    rintro _ w4 ⟨rfl, hO⟩
    replace H := H.out hO
    refine WL.mv rfl rfl ?_
    refine WL.pv (PV.eq (v' := .int .i64 ((d + 1 : Nat) : Int)) (PV.add64 rfl rfl rfl (by omega) (by omega)) (by rfl)) rfl ?_
    refine WL.mv rfl rfl ?_
    refine WL.call TryzT.fb110 rfl (ihr (X := X) (W0 := W0) (bits := bits) (d := d + 1) (i := i + (l.lvs (d + 1)).length) (L := L) (J := J) (Jx := Jx) (fun b hb => H.yylt b (.inl hb)) hX0 (hA.imp fun _ h => h.right) (hOn2.out H.toOut0) hfit.2.2 hLr hsta hround hf (hsta _ _ _ (ht22 rfl) H.toOut0)) ?_
    rintro _ w5 ⟨b29, rfl, hOn3, ht29, hf29⟩
    refine WL.pv (PV.pick_t rfl rfl rfl) rfl ?_
    refine WL.as rfl rfl ?_
    refine WL.nil ?_
    refine WE.ret ?_
    refine ⟨[_], _, .nil _, ⟨rfl, trivial⟩, ?_⟩
    exact ⟨b29, rfl, hOn3, (fun h => by have h_ := ht29 h; rw [hll, ← Nat.add_assoc]; exact h_), hf29⟩
  · skip
    refine WL.known (t := 22) (c := false) rfl hg23 ?_
    try simp only [decide_eq_true_eq, decide_eq_false_iff_not, ne_eq, Decidable.not_not, Bool.not_eq_true', Bool.not_eq_false', Bool.and_eq_true, Bool.or_eq_true, Bool.not_not, Bool.and_eq_false_iff, Bool.or_eq_false_iff, Int.not_lt, Int.not_le] at hg23
    subst hg23
    refine WL.off rfl ?_
    refine WL.off rfl ?_
    refine WL.off rfl ?_
    refine WL.off rfl ?_
    refine WL.off rfl ?_
    refine WL.off rfl ?_
    refine WL.pv (PV.pick_f rfl rfl rfl) rfl ?_
    refine WL.as rfl rfl ?_
    refine WL.nil ?_
    refine WE.ret ?_
    refine ⟨[_], _, .nil _, ⟨rfl, trivial⟩, ?_⟩
    exact ⟨false, rfl, hOn2, (fun h => by cases h), fun _ => hf22 rfl⟩

theorem Lv_ok : ∀ T : Tr, LvOK T
  | .nil => fun hX h0 h1 h2 h3 h4 h5 h6 h7 h8 => LvNil_c hX h0 h1 h2 h3 h4 h5 h6 h7 h8
  | .leaf a q u s => fun hX h0 h1 h2 h3 h4 h5 h6 h7 h8 => LvLeaf_c hX h0 h1 h2 h3 h4 h5 h6 h7 h8
  | .inner a l r => fun hX h0 h1 h2 h3 h4 h5 h6 h7 h8 => LvInner_s hX h0 h1 h2 h3 h4 h5 h6 h7 h8 (Lv_ok l) (Lv_ok r)

theorem each1_seq {C : Nat → Prop} {w : World} {b1 : Nat} {bits : Int} {T : Tr} (hC : ∀ b, C b → b < w.heap.size) (hf0 : Rob C (fun w => RdA w ⟨b1, 0, none⟩ [T.ptr]) w) (hf1 : Rob C (TrA bits T) w) (hfit : T.er.fit 0) : SeqN Tryz.prog 109 [] [.pointer (some ⟨b1, 0, none⟩)] ((T.lvs 0).length) (lvV (T.lvs 0)) C w := by
  intro f J Jx hJ0 hsta hstx hround hf
  show Ret Tryz.prog 109 ([f, .pointer (some ⟨b1, 0, none⟩)] : List Value).toArray w _
  refine Ret.of_body (N := 6) Tryz.func109 rfl rfl (by simp) ?_
  have H := St.begin (X := C) hC
  replace H := H.add (rob0 hf1)
  replace H := H.add (rob0 hf0)
  refine WE.reg ?_
  refine WL.load1 rfl TryzT.ag23 rfl rfl (H.p 0 rfl) ?_
  refine WL.mv rfl rfl ?_
  refine WL.call TryzT.fb110 rfl (Lv_ok T (X := C) (W0 := w) (bits := bits) (d := 0) (i := 0) (L := T.lvs 0) (J := J) (Jx := Jx) (fun b hb => H.yylt b (.inl hb)) hC hf1 (Ong.of_out H.toOut0) hfit (fun j _ => by rw [Nat.zero_add]) hsta hround hf (hsta _ _ _ hJ0 H.toOut0)) ?_
  rintro _ w1 ⟨b5, rfl, hOn, ht, hfl⟩
  refine WL.nil ?_
  refine ⟨[], _, .nil _, trivial, ?_⟩
  cases b5 with
  | true => exact ⟨rfl, .inl (by have h_ := ht rfl; rwa [Nat.zero_add] at h_)⟩
  | false => exact ⟨rfl, .inr (hfl rfl)⟩

theorem each_c {X : Nat → Prop} {w : World} {T : Tr} (hX : ∀ b, X b → b < w.heap.size) :
    Ret Tryz.prog 78 [T.ptr].toArray w fun v w' => ∃ b, v = eachF b ∧ Out Nil w w' ∧ Rob X (fun w => RdA w ⟨b, 0, none⟩ [T.ptr]) w' := by
  refine Ret.of_body (N := 4) Tryz.func78 rfl rfl (by simp) ?_
  have H := St.begin hX
  refine WE.seq_reg ?_
  refine WL.box (l := [T.ptr]) H rfl (rfl) rfl ?_
  intro b1 w1 H
  refine WL.as rfl rfl ?_
  refine WL.nil ?_
  refine WE.seq_reg ?_
  refine WL.pv (PV.makeFunc rfl) rfl ?_
  refine WL.as rfl rfl ?_
  refine WL.nil ?_
  refine WE.ret ?_
  refine ⟨[_], _, .nil _, ⟨rfl, trivial⟩, ?_⟩
  replace H := H.freeze (i := 0) rfl
  exact ⟨_, rfl, H.toOut0, (H.give (H.rob 0 rfl)).imp fun _ h => h.rd⟩

end Go.Sp.Tryz

set_option maxRecDepth 100000
set_option maxHeartbeats 1000000
set_option linter.unusedVariables false
set_option linter.unusedSimpArgs false
namespace Go.Sp.Tryz
open Go.Proofs Go.RowKit Go.Sp
end Go.Sp.Tryz

set_option maxRecDepth 100000
set_option maxHeartbeats 1000000
set_option linter.unusedVariables false
set_option linter.unusedSimpArgs false
namespace Go.Sp.Tryz
open Go.Proofs Go.RowKit Go.Sp

theorem cmpI_cons (x : UInt8) (a b : List UInt8) (h : a.length = b.length) : cmpI (x :: a) (x :: b) = cmpI a b := by
  unfold cmpI
  rw [num_cons, num_cons, h]
  simp only [Nat.add_lt_add_iff_left]
theorem compareBytes_num : ∀ (a b : List UInt8), a.length = b.length → Lib.compareBytes a b = cmpI a b
  | [], [], _ => by simp [Lib.compareBytes, cmpI]
  | [], _ :: _, h => by cases h
  | _ :: _, [], h => by cases h
  | x :: a, y :: b, h => by
    have hl : a.length = b.length := by simpa using h
    unfold Lib.compareBytes
    by_cases h1 : x < y
    · rw [if_pos h1]
      have := num_lt_of (a := x :: a) (b := y :: b) h 0 (by simp) rfl (UInt8.lt_iff_toNat_lt.1 h1)
      rw [cmpI, if_pos this]
    · rw [if_neg h1]
      by_cases h2 : y < x
      · rw [if_pos h2]
        have := num_lt_of (a := y :: b) (b := x :: a) h.symm 0 (by simp) rfl (UInt8.lt_iff_toNat_lt.1 h2)
        rw [cmpI, if_neg (by omega), if_pos this]
      · rw [if_neg h2]
        have e : x = y := by
          have h3 : ¬ x.toNat < y.toNat := fun h => h1 (UInt8.lt_iff_toNat_lt.2 h)
          have h4 : ¬ y.toNat < x.toNat := fun h => h2 (UInt8.lt_iff_toNat_lt.2 h)
          exact UInt8.toNat_inj.1 (by omega)
        subst e
        rw [compareBytes_num a b hl, cmpI_cons _ _ _ hl]

theorem bytesCompare_c {X : Nat → Prop} {w : World} {a b : Value} {la lb : List UInt8} (hX : ∀ b, X b → b < w.heap.size) (hf0 : Rob X (SlB a la) w) (hf1 : Rob X (SlB b lb) w) :
    Ret Tryz.prog 108 [a, b].toArray w fun v w' => v = .int .i64 (Lib.compareBytes la lb) ∧ Out Nil w w' := by
  refine Ret.of_body (N := 8) Tryz.func108 rfl rfl (by simp) ?_
  have H := St.begin hX
  replace H := H.add (rob0 hf1)
  replace H := H.add (rob0 hf0)
  refine WE.seq_reg ?_
  refine WL.as rfl rfl ?_
  refine WL.nil ?_
  refine WE.seq_reg ?_
  refine WL.mv rfl rfl ?_
  refine WL.mv rfl rfl ?_
  refine WL.extern (e := Extern.BytealgCompare.compare) (v := .int .i64 (Lib.compareBytes la lb)) Tryz.func126 (by kernel_rfl) (by kernel_rfl) (by kernel_rfl) (by kernel_rfl) rfl (run_compareB (H.p 0 rfl) (H.p 1 rfl)) ?_
  refine WL.as rfl rfl ?_
  refine WL.nil ?_
  refine WE.ret ?_
  refine ⟨[_], _, .nil _, ⟨rfl, trivial⟩, ?_⟩
  exact ⟨rfl, H.toOut0⟩

theorem bitsCompare_c {X : Nat → Prop} {w : World} {k l : List UInt8} (hX : ∀ b, X b → b < w.heap.size) (hk : k.length = 32) (hl : l.length = 32) :
    Ret Tryz.prog 77 [.agg (kc k).toArray, .agg (kc l).toArray].toArray w fun v w' => v = .int .i64 (cmpI k l) ∧ Out Nil w w' := by
  refine Ret.of_body (N := 8) Tryz.func77 rfl rfl (by simp) ?_
  have H := St.begin hX
  refine WE.seq_reg ?_
  refine WL.box (l := kc k) H rfl (by rfl) rfl ?_
  intro b2 w1 H
  refine WL.box (l := kc l) H rfl (by rfl) rfl ?_
  intro b3 w2 H
  refine WL.as rfl rfl ?_
  refine WL.nil ?_
  refine WE.seq_draw (.take 0 (.take 1 (.pick1 2 (.take 3 .done)))) TryzT.mixed (by kernel_rfl) ?_
  replace H := H.out (Out.drew _)
  replace H := H.freeze (i := 0) rfl
  replace H := H.freeze (i := 0) rfl
  replace H := H.sel [1, 0]
  refine WP.take_pure rfl rfl (PV.sliceArr rfl TryzT.ar31 (by rw [TryzT.sz5]; rfl) rfl) ?_
  refine WP.take_pure rfl rfl (PV.sliceArr rfl TryzT.ar31 (by rw [TryzT.sz5]; rfl) rfl) ?_
  refine WP.pick1 rfl ?_
  refine WL.call TryzT.fb108 rfl (bytesCompare_c (la := k) (lb := l) H.yylt ((H.rob 1 rfl).imp fun _ h => SlB.of_blk h hk) ((H.rob 0 rfl).imp fun _ h => SlB.of_blk h hl)) ?_
  rintro _ w3 ⟨rfl, hO⟩
  replace H := H.out hO
  rw [compareBytes_num k l (by rw [hk, hl])]
  refine WL.nil ⟨(fun _ h => by cases h), ?_⟩
  refine WP.as rfl rfl rfl ?_
  refine WP.done ?_
  refine WE.ret ?_
  refine ⟨[_], _, .nil _, ⟨rfl, trivial⟩, ?_⟩
  exact ⟨rfl, H.toOut0⟩

end Go.Sp.Tryz

set_option maxRecDepth 100000
set_option maxHeartbeats 1000000
set_option linter.unusedVariables false
set_option linter.unusedSimpArgs false
namespace Go.Sp.Tryz
open Go.Proofs Go.RowKit Go.Sp

def kvL (m : List En) : List (List UInt8 × List UInt8) := m.map fun e => (e.k, e.v)
def kvT (L : List (Tr × Nat)) : List (List UInt8 × List UInt8) := L.map fun p => (p.1.key, p.1.val)
theorem kvT_snoc {L : List (Tr × Nat)} {i : Nat} {p : Tr × Nat} (h : L[i]? = some p) : kvT (L.take (i + 1)) = kvT (L.take i) ++ [(p.1.key, p.1.val)] := by
  unfold kvT
  rw [List.take_add_one, h, List.map_append]; rfl
theorem kvT_map {T : Tr} {m : List En} (hT : T.er = grow 0 m) (hp : Pm 0 m) (hs : Srt m) : kvT (T.lvs 0) = kvL m := lvs_map hT hp hs
def Tr.nth : Tr → Nat → Tr
  | .inner _ l r, i => if i < l.er.cnt then Tr.nth l i else Tr.nth r (i - l.er.cnt)
  | T, _ => T
def Tr.sz : Tr → Nat
  | .inner _ l r => l.sz + r.sz + 1
  | _ => 0
def rkB (T : Tr) (k : List UInt8) : Nat → Nat
  | 0 => 0
  | d + 1 => rkB T k d + if bitN k d = 0 then 0 else (T.atN k 0 d).left.er.cnt
end Go.Sp.Tryz

set_option maxRecDepth 100000
set_option maxHeartbeats 1000000
set_option linter.unusedVariables false
set_option linter.unusedSimpArgs false
namespace Go.Sp.Tryz
open Go.Proofs Go.RowKit Go.Sp

theorem one_en {q : List UInt8} {s : Value} (h : s.oneCell' = true) : oneAll (kc q ++ [s]) := one_append (kc_one _) (one_lit _ (by simp [h]))
theorem kvL_snoc (es : List En) (q u : List UInt8) (s : Value) : kvL (es ++ [⟨q, s, u⟩]) = kvL es ++ [(q, u)] := by simp [kvL]
theorem vals_snoc {es : List En} {e : En} {w : World} (h : Vals es w) (he : SlB e.s e.v w) : Vals (es ++ [e]) w := fun x hx => by
  rcases List.mem_append.1 hx with hx | hx
  · exact h x hx
  · rw [List.mem_singleton.1 hx]; exact he
theorem flat_snoc (es : List En) (e : En) : (es ++ [e]).flatMap enC = es.flatMap enC ++ (kc e.k ++ [e.s]) := by rw [List.flatMap_append, List.flatMap_singleton]; rfl
theorem Entries_c {X : Nat → Prop} {w : World} {bits : Int} {T : Tr} (hX : ∀ b, X b → b < w.heap.size) (hf0 : Rob X (TrA bits T) w) (hfit : T.er.fit 0) (hcn : T.er.cnt ≤ 1000000) :
    Ret Tryz.prog 44 [T.ptr].toArray w fun v w' => ∃ es : List En, Out Nil w w' ∧ Rob X (SlE v es) w' ∧ Rob X (Vals es) w' ∧ kvL es = kvT (T.lvs 0) := by
  refine Ret.of_body (N := 15) Tryz.func44 rfl rfl (by simp) ?_
  have H := St.begin hX
  replace H := H.add (rob0 hf0)
  have hln := lvs_len T 0
  refine WE.seq_reg ?_
  refine WL.as rfl rfl ?_
  refine WL.nil ?_
  refine WE.seq_reg ?_
  refine WL.alloc H rfl TryzT.ze22 rfl ?_
  intro b3 w1 H
  refine WL.nil ?_
  refine WE.seq ?_
  refine WE.seq_reg ?_
  refine WL.mv rfl rfl ?_
  refine WL.call TryzT.fb78 rfl (each_c (T := T) H.yylt  ) ?_
  rintro _ w2 ⟨bev6, rfl, hO, hR⟩
  replace H := (H.out hO).add hR
  refine WL.nil ?_
  refine WE.block ?_
  replace H := H.nilOsl 34 33
  replace H := H.add (show Rob _ (Vals []) _ from fun _ _ e he => by cases he)
  replace H := H.pushNil
  refine WE.rangeF (α := Value × List En) (fun i x => kvL x.2 = kvT ((T.lvs 0).take i) ∧ x.2.length = i) (fun i x => []) (fun i x => [Ent.osl w.heap.size x.1 34 33 i (x.2.flatMap enC), Ent.blk b3 22 [x.1]]) (fun i x => [Vals x.2, fun w => RdA w ⟨bev6, 0, none⟩ [T.ptr], TrA bits T]) (fun _ _ => False) (fun _ _ => []) (fun _ _ => []) (fun _ _ => []) (.slice none 0 0, []) H rfl TryzT.fb109 (fun W0 hO => (each1_seq (T := T) (bits := bits) (H.ccLt hO) (H.ccRob0 hO 1 rfl) (H.ccRob0 hO 2 rfl) hfit).seqV) (lvV_len) ⟨⟨rfl, rfl⟩, rfl, rfl, rfl⟩ ?_ ?_ ?_
  · skip
    intro i ⟨v, es⟩ xs_ l_ d_ o_ T_ sc_ w3 hi_ hR_ hV_
    obtain ⟨p, hLp, rfl⟩ := hV_
    have hpm := List.mem_of_getElem? hLp
    refine WE.reg ?_
    refine WL.as rfl rfl ?_
    refine WL.nil ?_
    refine ⟨rfl, rfl, rfl, ?_⟩
    intro w4 H
    have hkp := TrA.key_length (lvs_A T 0 (H.p 3 rfl) p hpm)
    have hil := (List.getElem?_eq_some_iff.1 hLp).1
    have hE : ∀ s11 : Value, (kc p.1.key ++ [s11]).length = 1 * 33 := fun s => by simp [kc_length, hkp]
    have hE2 : ∀ s11 : Value, (kc p.1.key ++ [s11]).length = 33 := hE
    refine WE.block ?_
    refine WE.draw (.take 0 (.take 1 (.pick1 2 (.pick1 3 (.pick1 4 (.pick1 5 .done)))))) TryzT.mixed (by kernel_rfl) ?_
    replace H := H.out (Out.drew _)
    refine WP.take_read rfl rfl (RV.loadOne rfl TryzT.ag22 rfl) (by exact Blk.segAt (H.l 1 rfl) (Seg.all _) (by rfl)) ?_
    refine WP.mv rfl rfl rfl ?_
    refine WP.pick1 rfl ?_
    refine WL.call TryzT.fb63 rfl (Entry_c (T := p.1) (bits := bits) H.yylt ((H.rob 3 rfl).imp fun _ h => lvs_A T 0 h p hpm)) ?_
    rintro _ w5 ⟨s11, rfl, hO, hOwn⟩
    have hs11 := SlC.one1 (SlB.of_own hOwn)
    have hr_ := (rob_own H.yylt hOwn).imp fun _ h => SlB.of_own h
    replace H := (H.out hO).add hr_
    refine WL.nil ⟨(List.forall_mem_cons.2 ⟨(fun _ _ => (by exact Blk.segAt (H.l 1 rfl) (Seg.all _) (by rfl))), (fun _ h => by cases h)⟩), ?_⟩
    refine WP.pick1 rfl ?_
    refine WL.buildSliceF (l0 := ((kc (List.replicate 32 0) ++ ([.slice none 0 0])))) H rfl TryzT.st22 (by decide) (by rfl) (Fl.cons rfl (by rfl) (by (simp only [kc_length, kw_length, List.length_replicate, List.length_append, List.length_cons, List.length_nil, cutI_length, shaOf_length, dig_length, valD_length, rootM_length]; omega)) (Laid.all (by (simp only [kc_length, kw_length, List.length_replicate, List.length_append, List.length_cons, List.length_nil, cutI_length, shaOf_length, dig_length, valD_length, rootM_length]; omega))) Fl.nil) rfl ?_
    intro b12 w6 H
    refine WL.nil ⟨(List.forall_mem_cons.2 ⟨(fun _ _ => (by exact Blk.segAt (H.l 2 rfl) (Seg.all _) (by rfl))), (fun _ h => by cases h)⟩), ?_⟩
    refine WP.pick1 rfl ?_
    refine WL.append (m := 1) H 1 TryzT.st22 (by decide) rfl rfl rfl (SlC.of_blk (n := 1) (H.l 0 rfl) (hE s11)) (one_en hs11) (by omega) (by decide) rfl ?_
    intro v13 w7 H
    replace H := H.forget 0
    have hv13 := own_one (H.l 0 rfl)
    refine WL.nil ⟨(List.forall_mem_cons.2 ⟨(by exact (fun h => absurd (show waits _ 4 0 = false from h) (by decide +kernel))), (fun _ h => by cases h)⟩), ?_⟩
    refine WP.pick1 rfl ?_
    refine WL.storeL H 1 rfl rfl rfl (new := [v13]) (cells_one hv13) (by exact TryzT.sz22) (one_sing hv13) (Laid.at (Laid.all (by (simp only [kc_length, kw_length, List.length_replicate, List.length_append, List.length_cons, List.length_nil, cutI_length, shaOf_length, dig_length, valD_length, rootM_length]; done))) (by rfl)) rfl ?_
    intro w8 H
    refine WL.nil ⟨(List.forall_mem_cons.2 ⟨(by exact (fun h => absurd (show waits _ 5 0 = false from h) (by decide +kernel))), (fun _ h => by cases h)⟩), ?_⟩
    refine WP.done ?_
    let e11 : En := ⟨p.1.key, s11, p.1.val⟩
    replace H := H.add (show Rob _ (Vals (es ++ [e11])) _ from ((H.rob 2 rfl).and (H.rob 0 rfl)).imp fun _ h => vals_snoc h.1 h.2)
    replace H := H.conv (L' := [Ent.osl w.heap.size v13 34 33 (i + 1) ((es ++ [e11]).flatMap enC), Ent.blk b3 22 [v13], Ent.obj l_ o_, Ent.obj d_ (.deferred (some [])), Ent.sn T_ w4]) (by rw [flat_snoc]; rfl)
    replace H := H.sel [0, 4, 5, 6]
    exact ⟨(v13, es ++ [e11]), ⟨by rw [kvL_snoc, kvT_snoc hLp, hR_.1], by rw [List.length_append, hR_.2]; rfl⟩, H⟩
  · skip
    intro ⟨v, es⟩ d_0 w9 hR_ H
    refine WE.seq_reg ?_
    refine WL.load1 rfl TryzT.ag22 rfl rfl (by exact Blk.segAt (H.l 2 rfl) (Seg.all _) (by rfl)) ?_
    refine WL.as rfl rfl ?_
    refine WL.nil ?_
    refine WE.ret ?_
    (obtain ⟨w10, hl_0, H⟩ := H.unmark 0 rfl)
    refine ⟨[_], _, (hl_0 _ (.nil _)), ⟨rfl, trivial⟩, ?_⟩
    rw [List.take_of_length_le (Nat.le_refl _)] at hR_
    refine ⟨es, H.toOut0, (by exact (rob_own hX (H.l 0 rfl)).imp fun _ h => (by have h_ := SlC.of_own h; rw [← hR_.2] at h_; exact h_)), H.give (H.rob 0 rfl), hR_.1⟩
  · skip
    intro e_ ⟨v, es⟩ d_0 w11 he_ hR_ H
    exact hR_.elim

end Go.Sp.Tryz

