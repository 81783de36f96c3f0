/- Walks of functions, printed by a program of this session (gen.py) from notes on each function. -/
import Derived.Test.YthdcihakjomagaaDoorG9
import Derived.Test.YthdcihakjomagaaDoorExt
import Derived.Test.YthdcihakjomagaaDoorG8
set_option maxRecDepth 100000
set_option maxHeartbeats 1000000
set_option linter.unusedVariables false
set_option linter.unusedSimpArgs false
namespace Go.Sp.Tryd
open Go.Proofs Go.RowKit Go.Sp

structure Ong (C : Nat → Prop) (W0 w : World) : Prop where
  os : w.os = W0.os
  tape : w.tape = W0.tape
  output : w.output = W0.output
  size : W0.heap.size ≤ w.heap.size
  old : ∀ b, b < W0.heap.size → ¬ C b → w.heap[b]? = W0.heap[b]?
theorem Ong.refl (C : Nat → Prop) (w : World) : Ong C w w := ⟨rfl, rfl, rfl, Nat.le_refl _, fun _ _ _ => rfl⟩
theorem Ong.of_out {C : Nat → Prop} {W0 w : World} (h : Out Nil W0 w) : Ong C W0 w := ⟨h.os, h.tape, h.output, h.size, fun b hb _ => h.block b hb id⟩
theorem Ong.out {C : Nat → Prop} {W0 w w' : World} (h : Ong C W0 w) (ho : Out Nil w w') : Ong C W0 w' :=
  ⟨ho.os.trans h.os, ho.tape.trans h.tape, ho.output.trans h.output, Nat.le_trans h.size ho.size, fun b hb hc => (ho.block b (Nat.lt_of_lt_of_le hb h.size) id).trans (h.old b hb hc)⟩
theorem Ong.kept {T C : Nat → Prop} {W0 W w : World} (h : Kept T C W0 W w) (hT : ∀ b, T b → W0.heap.size ≤ b) : Ong C W0 w :=
  ⟨h.os, h.tape, h.output, h.size, fun b hb hc => h.old b hb hc fun ht => by have := hT b ht; omega⟩
theorem Ong.rob {C : Nat → Prop} {W0 w : World} {p : World → Prop} (h : Ong C W0 w) (hp : Rob C p W0) : Rob C p w := fun w' hw =>
  hp w' fun b hb hc => (hw b (Nat.lt_of_lt_of_le hb h.size) hc).trans (h.old b hb hc)
def SeqN (P : Program) (g : FuncId) (fs cs : List Value) (n : Nat) (V : Nat → List Value → World → Prop) (C : Nat → Prop) (W0 : World) : Prop :=
  ∀ (f : Value) (J : Nat → World → Prop) (Jx : World → Prop), J 0 W0 → (∀ i W W', J i W → Out Nil W W' → J i W') → (∀ W W', Jx W → Out Nil W W' → Jx W') →
    (∀ i xs W W2, i < n → J i W → Out Nil W W2 → Rob (· < W.heap.size) (V i xs) W2 → CallV P f xs W2 fun v W' => Kept Nil C W0 W2 W' ∧ ((v = .bool true ∧ J (i + 1) W') ∨ (v = .bool false ∧ Jx W'))) → IsFn f →
    Ret P g (fs ++ [f] ++ cs).toArray W0 fun v W' => v = .tuple #[] ∧ (J n W' ∨ Jx W')
theorem SeqN.seqV {P : Program} {g : FuncId} {fs cs : List Value} {n : Nat} {V : Nat → List Value → World → Prop} {C : Nat → Prop} {W0 : World} (h : SeqN P g fs cs n V C W0) : SeqV P g fs cs n V Nil C W0 := by
  intro f J Jx hst hsta hstx hround hf
  refine (h f (J Nil) (Jx Nil) (hst Nil W0 (Out.refl _ _) (fun _ h => h.elim) (fun _ h => h.elim)) (fun i W W' => hsta Nil i W W') (fun W W' => hstx Nil W W') (fun i xs W W2 h1 h2 h3 h4 => hround Nil i xs W W2 h1 h2 h3 h4) hf).mono ?_
  rintro v W' ⟨h1, h2⟩
  exact ⟨h1, Nil, h2⟩
structure KeptS (C : Nat → Prop) (w : World) (l : Nat) (W W' : World) : Prop where
  os : W'.os = W.os
  tape : W'.tape = W.tape
  output : W'.output = W.output
  size : w.heap.size + 2 ≤ W'.heap.size
  old : ∀ b, b < w.heap.size → ¬ C b → W'.heap[b]? = W.heap[b]?
  loop : W'.heap[l]? = W.heap[l]?
def roundS (C : Nat → Prop) (w : World) (l : Nat) (W : World) (S : World → Prop) (Sx : Exit → World → Prop) : EPost
  | .normal, _, _, W' => KeptS C w l W W' ∧ S W'
  | .ret, _, _, W' => KeptS C w l W W' ∧ Sx .ret W'
  | .exit id, _, _, W' => KeptS C w l W W' ∧ Sx (.exit id) W'
  | _, _, _, _ => False
theorem WE.rangeS {P : Program} {N : Nat} {σ : Env} {ds : List Deferred} {w : World} {g : Operand} {ps : List Tmp} {assign body : Code} {Q : EPost}
    {gf : FuncId} {gfn : Func} {fs cs : List Value} {n : Nat} {V : Nat → List Value → World → Prop} {C : Nat → Prop} (S : Nat → World → Prop) (Sx : Exit → World → Prop)
    (hg : ev σ g = .func (.func gf) fs.toArray cs.toArray) (hb : Body P gf gfn) (hC : ∀ b, C b → b < w.heap.size)
    (hseq : ∀ W0, Out Nil w W0 → SeqN P gf fs cs n V (fun b => C b ∨ (w.heap.size ≤ b ∧ b < W0.heap.size)) W0) (hV : ∀ i xs W, V i xs W → xs.length = ps.length)
    (start : ∀ W1, Out Nil w W1 → w.heap.size + 2 ≤ W1.heap.size → W1.heap[w.heap.size]? = some (.deferred (some [])) → S 0 W1)
    (calm : ∀ i W W', S i W → Out (· = w.heap.size + 1) W W' → S i W') (calmx : ∀ e W W', Sx e W → Out (· = w.heap.size + 1) W W' → Sx e W')
    (round : ∀ (i : Nat) (xs : List Value) (W : World), i < n → S i W → V i xs W → w.heap.size + 2 ≤ W.heap.size →
      WE (some (w.heap.size + 1)) P N assign (fun e σ1 ds1 W' => e = .normal ∧ ds1 = [] ∧ W' = W ∧ ∀ Wb, S i Wb → V i xs Wb → w.heap.size + 2 ≤ Wb.heap.size → WE (some (w.heap.size + 1)) P N body (roundS C w (w.heap.size + 1) Wb (S (i + 1)) Sx) σ1 [] Wb) (setP N σ ps xs) [] W)
    (done : ∀ W', S n W' → Q .normal σ ({ target := .collected w.heap.size, args := #[] } :: ds) W')
    (stop : ∀ e W', (e = .ret ∨ ∃ id, e = .exit id) → Sx e W' → Q e σ ({ target := .collected w.heap.size, args := #[] } :: ds) W') :
    WE none P N (.rangeFunc g ps.toArray assign body) Q σ ds w := fun a ha => by
  refine wpIn_rangeFunc ?_
  intro fn _
  obtain ⟨rec, hrec⟩ : ∃ rec : LoopState → Option Code → Loop, rec = fun st pe => { state := st, pending := pe, fn, tmps := a.tmps, params := ps.toArray, assign, body, defers := w.heap.size } := ⟨_, rfl⟩
  obtain ⟨W1, hW1⟩ : ∃ W1, (w.alloc (.deferred (some []))).alloc (.loop (rec .ready none)) = W1 := ⟨_, rfl⟩
  have hO1 : Out Nil w W1 := by rw [← hW1]; exact (Out.alloc _ _).trans (Out.alloc _ _)
  have hsz : W1.heap.size = w.heap.size + 2 := by rw [← hW1]; simp
  have hL1 : W1.heap[w.heap.size + 1]? = some (.loop (rec .ready none)) := by
    rw [← hW1]; have := World.alloc_heap_new (w.alloc (.deferred (some []))) (.loop (rec .ready none)); rwa [World.size_alloc] at this
  have hK1 : W1.heap[w.heap.size]? = some (.deferred (some [])) := by
    rw [← hW1]; exact (Below.heap_alloc _ _ _ (by simp)).trans (World.alloc_heap_new w _)
  refine ⟨w.heap.size + 1, [{ target := .collected w.heap.size, args := #[] }], W1, { target := .fn (.func gf) cs.toArray, args := (fs ++ [Value.func (.yield (w.heap.size + 1)) #[] #[]]).toArray }, W1, gf,
    (fs ++ [Value.func (.yield (w.heap.size + 1)) #[] #[]] ++ cs).toArray, W1, ?_, ?_, ?_, ?_, (fun h => (by cases h)), ?_⟩
  · rw [← hW1, hrec]; exact run_enterLoop_outer _ _ _ _ _
  · have e : a.eval g = .func (.func gf) fs.toArray cs.toArray := by rw [ha.eval]; exact hg
    simp only [resolve, e]
    simp [Deferred.ofValue]
    rfl
  · intro _ _; trivial
  · have := run_callFunc hb (fs ++ [Value.func (.yield (w.heap.size + 1)) #[] #[]] ++ cs).toArray W1
    simp only [invoke, List.append_toArray]
    exact this
  obtain ⟨B, hB⟩ : ∃ B : World → Prop, B = fun W => W.os = w.os ∧ W.tape = w.tape ∧ W.output = w.output ∧ w.heap.size + 2 ≤ W.heap.size ∧ ∀ b, b < w.heap.size → ¬ C b → W.heap[b]? = w.heap[b]? := ⟨_, rfl⟩
  have hBo : ∀ M W W', B W → Out M W W' → (∀ b, b < w.heap.size → ¬ M b) → B W' := fun M W W' h ho hM => by
    rw [hB] at h ⊢
    obtain ⟨h1, h2, h3, h4, h5⟩ := h
    exact ⟨ho.os.trans h1, ho.tape.trans h2, ho.output.trans h3, Nat.le_trans h4 ho.size, fun b hb hc => (ho.block b (by omega) (hM b hb)).trans (h5 b hb hc)⟩
  have hB1 : B W1 := by rw [hB]; exact ⟨hO1.os, hO1.tape, hO1.output, by omega, fun b hb _ => hO1.block b hb id⟩
  have hcall := hseq W1 hO1 (.func (.yield (w.heap.size + 1)) #[] #[]) (fun i W => S i W ∧ W.heap[w.heap.size + 1]? = some (.loop (rec .ready none)) ∧ B W)
    (fun W => ∃ e, (e = .ret ∨ ∃ id, e = .exit id) ∧ Sx e W ∧ W.heap[w.heap.size + 1]? = some (.loop (rec .done (some (codeE e)))))
    ⟨start W1 hO1 (by omega) hK1, hL1, hB1⟩
    (by
      rintro i W W' ⟨h1, h2, h3⟩ ho
      have h4 : w.heap.size + 2 ≤ W.heap.size := by rw [hB] at h3; exact h3.2.2.2.1
      exact ⟨calm i W W' h1 (ho.mono fun _ _ h => h.elim), (ho.block _ (by omega) id).trans h2, hBo _ W W' h3 ho (fun _ _ h => h)⟩)
    (by
      rintro W W' ⟨e, h1, h2, h3⟩ ho
      have h4 := (Array.getElem?_eq_some_iff.1 h3).1
      exact ⟨e, h1, calmx e W W' h2 (ho.mono fun _ _ h => h.elim), (ho.block _ h4 id).trans h3⟩)
    (by
      rintro i xs W W2 hi ⟨hS0, hl0, hB0⟩ hout hrob
      have h40 : w.heap.size + 2 ≤ W.heap.size := by rw [hB] at hB0; exact hB0.2.2.2.1
      have hS2 := calm i W W2 hS0 (hout.mono fun _ _ h => h.elim)
      have hl : W2.heap[w.heap.size + 1]? = some (.loop (rec .ready none)) := (hout.block _ (by omega) id).trans hl0
      have hB2 := hBo _ W W2 hB0 hout (fun _ _ h => h)
      have h42 : w.heap.size + 2 ≤ W2.heap.size := by rw [hB] at hB2; exact hB2.2.2.2.1
      have hv : V i xs W2 := hrob.here
      have hlt := (Array.getElem?_eq_some_iff.1 hl).1
      refine .inr ⟨w.heap.size + 1, fn, (ps.toArray.zip xs.toArray).foldl (fun tmps (p : Tmp × Value) => tmps.setIfInBounds p.1 p.2) a.tmps, assign, body, rfl, ?_, ?_⟩
      · have := run_yield (P := P) (args := xs.toArray) hl (by rw [hrec]; simpa using hV i xs W2 hv)
        rw [this, hrec]
      · refine roundIn_of_wpIn trivial ?_
        obtain ⟨Wb, hWb⟩ : ∃ Wb, W2.putObj (w.heap.size + 1) (.loop { rec .ready none with state := .busy }) = Wb := ⟨_, rfl⟩
        have hob : Out (· = w.heap.size + 1) W2 Wb := by rw [← hWb]; exact putObj_out _
        have hlb : Wb.heap[w.heap.size + 1]? = some (.loop { rec .ready none with state := .busy }) := by rw [← hWb]; exact World.putObj_heap_same hlt
        have hSb := calm i W2 Wb hS2 hob
        have hBb := hBo _ W2 Wb hB2 hob (fun b hb h => by omega)
        have h4b : w.heap.size + 2 ≤ Wb.heap.size := by rw [hB] at hBb; exact hBb.2.2.2.1
        have hVb : V i xs Wb := hrob Wb fun b hb hn => hob.block b hb fun h => hn (by rw [h]; omega)
        have ez : ((ps.toArray.zip xs.toArray).foldl (fun tmps (p : Tmp × Value) => tmps.setIfInBounds p.1 p.2) a.tmps) = ((ps.zip xs).foldl (fun tmps (p : Tmp × Value) => tmps.setIfInBounds p.1 p.2) a.tmps) := by
          rw [← Array.foldl_toList]; simp
        show Code.wpIn _ _ _ _ _ { tmps := ((ps.toArray.zip xs.toArray).foldl (fun tmps (p : Tmp × Value) => tmps.setIfInBounds p.1 p.2) a.tmps), defers := [] } _
        rw [ez]
        have hro2 := round i xs W2 hi hS2 hv h42
        have hh := hro2 _ (Here.setP ps xs σ [] { tmps := a.tmps, defers := [] } ⟨ha.size, ha.env, rfl⟩)
        refine wpIn_mono (F := FW (some (w.heap.size + 1))) hh ?_
        rintro e a1 W3 ⟨hs1, rfl, hd1, hW3, hbody⟩
        subst hW3
        refine ⟨_, run_beginRound hl (by rw [hrec]), ?_⟩
        rw [hWb]
        have hbd := hbody Wb hSb hVb h4b a1 ⟨hs1, rfl, hd1⟩
        refine wpIn_mono (F := FW (some (w.heap.size + 1))) hbd ?_
        have fin : ∀ (jump : Option Code) (W4 : World), KeptS C w (w.heap.size + 1) Wb W4 → ∃ W5, (Instr.endRound (w.heap.size + 1) jump).run P W4 = .ok (.bool jump.isNone) W5 ∧ Kept Nil (fun b => C b ∨ (w.heap.size ≤ b ∧ b < W1.heap.size)) W1 W3 W5 ∧
            Out (· = w.heap.size + 1) W4 W5 ∧ W5.heap[w.heap.size + 1]? = some (.loop (rec (if jump.isNone then .ready else .done) jump)) ∧ B W5 := by
          intro jump W4 hk
          have hl4 : W4.heap[w.heap.size + 1]? = some (.loop { rec .ready none with state := .busy }) := hk.loop.trans hlb
          have hlt4 := (Array.getElem?_eq_some_iff.1 hl4).1
          have ho5 : Out (· = w.heap.size + 1) W4 (W4.putObj (w.heap.size + 1) (.loop (rec (if jump.isNone then .ready else .done) jump))) := putObj_out _
          have hB4 : B W4 := by
            rw [hB] at hBb ⊢
            obtain ⟨h1, h2, h3, h4, h5⟩ := hBb
            exact ⟨hk.os.trans h1, hk.tape.trans h2, hk.output.trans h3, hk.size, fun b hb hc => (hk.old b hb hc).trans (h5 b hb hc)⟩
          have hB5 := hBo _ W4 _ hB4 ho5 (fun b hb h => by omega)
          refine ⟨W4.putObj (w.heap.size + 1) (.loop (rec (if jump.isNone then .ready else .done) jump)), ?_, ?_, ho5, World.putObj_heap_same hlt4, hB5⟩
          · have := run_endRound (P := P) jump hl4
            rw [hrec] at this ⊢
            exact this
          · rw [hB] at hB5
            obtain ⟨h1, h2, h3, h4, h5⟩ := hB5
            refine ⟨h1.trans hO1.os.symm, h2.trans hO1.tape.symm, h3.trans hO1.output.symm, by omega, fun b hb => hb.elim, fun b hb hc _ => ?_⟩
            rcases Nat.lt_or_ge b w.heap.size with hlt' | hge
            · exact (h5 b hlt' fun h => hc (.inl h)).trans (hO1.block b hlt' id).symm
            · exact absurd (show C b ∨ (w.heap.size ≤ b ∧ b < W1.heap.size) from .inr ⟨hge, hb⟩) hc
        rintro e a4 W4 ⟨hs4, hq⟩
        cases e with
        | normal =>
          obtain ⟨hk4, hS4⟩ := hq
          obtain ⟨W5, hr, hk, ho, hl5, hB5⟩ := fin none W4 hk4
          exact ⟨_, W5, hr, _, rfl, hk, .inl ⟨rfl, calm _ _ _ hS4 ho, hl5, hB5⟩⟩
        | ret =>
          obtain ⟨hk4, hS4⟩ := hq
          obtain ⟨W5, hr, hk, ho, hl5, hB5⟩ := fin (some .ret) W4 hk4
          exact ⟨_, W5, hr, _, rfl, hk, .inr ⟨rfl, .ret, .inl rfl, calmx _ _ _ hS4 ho, hl5⟩⟩
        | exit id =>
          obtain ⟨hk4, hS4⟩ := hq
          obtain ⟨W5, hr, hk, ho, hl5, hB5⟩ := fin (some (.exit id)) W4 hk4
          exact ⟨_, W5, hr, _, rfl, hk, .inr ⟨rfl, .exit id, .inr ⟨id, rfl⟩, calmx _ _ _ hS4 ho, hl5⟩⟩
        | goto t => exact hq.elim
        | panic c => exact hq.elim
        | outgrown => exact hq.elim)
    (.inr ⟨_, _, _, rfl⟩)
  refine CallsIn.mono (F := FW none) (n := 0) hcall ?_
  rintro e W2 ⟨v, rfl, _, ⟨hS, hl, _⟩ | ⟨e, he, hS, hl⟩⟩
  · refine ⟨none, _, by have := run_endLoop (P := P) hl (by rw [hrec]; simp); rw [hrec] at this; exact this, ?_⟩
    have hd := done _ (calm _ _ _ hS (putObj_out (W := W2) (l := w.heap.size + 1) (.loop { rec .ready none with state := .exhausted })))
    refine ⟨ha.size, ?_⟩
    rw [hrec] at hd
    have e1 : envOf { a with defers := [{ target := .collected w.heap.size, args := #[] }] ++ a.defers } = σ := ha.env
    show Q .normal (envOf _) _ _
    rw [e1]
    simp only [ha.defers, List.singleton_append]
    exact hd
  · refine ⟨some (codeE e), _, by have := run_endLoop (P := P) hl (by rw [hrec]; simp); rw [hrec] at this; exact this, ?_⟩
    have hd := stop e _ he (calmx _ _ _ hS (putObj_out (W := W2) (l := w.heap.size + 1) (.loop { rec .done (some (codeE e)) with state := .exhausted })))
    rw [hrec] at hd
    have e1 : envOf { a with defers := [{ target := .collected w.heap.size, args := #[] }] ++ a.defers } = σ := ha.env
    have e2 : ({ a with defers := [{ target := .collected w.heap.size, args := #[] }] ++ a.defers } : Act).defers = { target := .collected w.heap.size, args := #[] } :: ds := by simp [ha.defers]
    rcases he with rfl | ⟨id, rfl⟩
    · refine wpIn_ret ⟨ha.size, ?_⟩
      rw [e1, e2]; exact hd
    · refine wpIn_exit ⟨ha.size, ?_⟩
      rw [e1, e2]; exact hd

end Go.Sp.Tryd

set_option maxRecDepth 100000
set_option maxHeartbeats 1000000
set_option linter.unusedVariables false
set_option linter.unusedSimpArgs false
namespace Go.Sp.Tryd
open Go.Proofs Go.RowKit Go.Sp

def lvV (L : List (Tr × Nat)) (i : Nat) (xs : List Value) (_ : World) : Prop := ∃ p, L[i]? = some p ∧ xs = [p.1.ptr, .int .i64 (p.2 : Int)]
theorem lvV_len {L : List (Tr × Nat)} (i : Nat) (xs : List Value) (W : World) (h : lvV L i xs W) : xs.length = 2 := by obtain ⟨p, _, rfl⟩ := h; rfl
def LvOK (T : Tr) : Prop := ∀ {X : Nat → Prop} {w W0 : World} {bits : Int} {d i : Nat} {L : List (Tr × Nat)} {f : Value} {J : Nat → World → Prop} {Jx : World → Prop}, (∀ b, X b → b < w.heap.size) → (∀ b, X b → b < W0.heap.size) → Rob X (TrA bits T) W0 → Ong X W0 w → T.er.fit d →
  (∀ j, j < (T.lvs d).length → L[i + j]? = (T.lvs d)[j]?) → (∀ i W W', J i W → Out Nil W W' → J i W') →
  (∀ i xs W W2, i < L.length → J i W → Out Nil W W2 → Rob (· < W.heap.size) (lvV L i xs) W2 → CallV Tryd.prog f xs W2 fun v W' => Kept Nil X W0 W2 W' ∧ ((v = .bool true ∧ J (i + 1) W') ∨ (v = .bool false ∧ Jx W'))) → IsFn f → J i w →
  Ret Tryd.prog 61 [T.ptr, .int .i64 (d : Int), f].toArray w fun v w' => ∃ b, v = .bool b ∧ Ong X W0 w' ∧ (b = true → J (i + (T.lvs d).length) w') ∧ (b = false → Jx w')
def eachF (b : Nat) : Value := .func (.func 60) [].toArray [.pointer (some ⟨b, 0, none⟩)].toArray
def allF (b : Nat) : Value := .func (.func 35) [].toArray [.pointer (some ⟨b, 0, none⟩)].toArray
def allV (L : List (Tr × Nat)) (i : Nat) (xs : List Value) (W : World) : Prop := ∃ p s, L[i]? = some p ∧ xs = [.agg (kc p.1.key).toArray, s] ∧ SlB s p.1.val W
theorem allV_len {L : List (Tr × Nat)} (i : Nat) (xs : List Value) (W : World) (h : allV L i xs W) : xs.length = 2 := by obtain ⟨p, s, _, rfl, _⟩ := h; rfl

theorem LvNil_c {X : Nat → Prop} {w : World} {W0 : World} {bits : Int} {d i : Nat} {L : List (Tr × Nat)} {f : Value} {J : Nat → World → Prop} {Jx : World → Prop}  (hX : ∀ b, X b → b < w.heap.size) (hX0 : ∀ b, X b → b < W0.heap.size) (hA : Rob X (TrA bits Tr.nil) W0) (hOng : Ong X W0 w) (hfit : Tr.nil.er.fit d) (hL : ∀ j, j < (Tr.nil.lvs d).length → L[i + j]? = (Tr.nil.lvs d)[j]?) (hsta : ∀ i W W', J i W → Out Nil W W' → J i W') (hround : ∀ i xs W W2, i < L.length → J i W → Out Nil W W2 → Rob (· < W.heap.size) (lvV L i xs) W2 → CallV Tryd.prog f xs W2 fun v W' => Kept Nil X W0 W2 W' ∧ ((v = .bool true ∧ J (i + 1) W') ∨ (v = .bool false ∧ Jx W'))) (hf : IsFn f) (hJ : J i w) :
    Ret Tryd.prog 61 [Tr.nil.ptr, .int .i64 (d : Int), f].toArray w fun v w' => ∃ b, v = .bool b ∧ Ong X W0 w' ∧ (b = true → J (i + (Tr.nil.lvs d).length) w') ∧ (b = false → Jx w') := by
  refine Ret.of_body (N := 31) Tryd.func61 rfl rfl (by simp) ?_
  have H := (St.begin hX).add (rob0 (hOng.rob hA))
  refine WE.seq_reg ?_
  refine WL.as rfl rfl ?_
  refine WL.nil ?_
  refine WE.seq ?_
  refine WE.seq_reg ?_
  refine WL.mv rfl rfl ?_
  refine WL.call TrydT.fb39 rfl (NKind_c (T := .nil) (bits := bits) H.yylt (by exact H.rob 0 rfl) ) ?_
  rintro _ w1 ⟨rfl, hO⟩
  replace H := H.out hO
  refine WL.nil ?_
  refine WE.block ?_
  refine WE.seq_reg ?_
  refine WL.pv (PV.eql rfl rfl rfl) rfl ?_
  refine WL.as rfl rfl ?_
  refine WL.nil ?_
  refine WE.cond_f' rfl rfl ?_
  refine WE.seq_reg ?_
  refine WL.pv (PV.eql rfl rfl rfl) rfl ?_
  refine WL.as rfl rfl ?_
  refine WL.nil ?_
  refine WE.cond_f' rfl rfl ?_
  refine WE.skip ?_
  refine WE.seq_reg ?_
  refine WL.as rfl rfl ?_
  refine WL.nil ?_
  refine WE.ret ?_
  refine ⟨[_], _, .nil _, ⟨rfl, trivial⟩, ?_⟩
  exact ⟨true, rfl, hOng.out H.toOut0, (fun _ => hsta _ _ _ hJ H.toOut0), fun h => by cases h⟩

theorem LvLeaf_c {X : Nat → Prop} {w : World} {W0 : World} {bits : Int} {d i : Nat} {L : List (Tr × Nat)} {f : Value} {J : Nat → World → Prop} {Jx : World → Prop} {a : Nat} {q u : List UInt8} {s : Value} (hX : ∀ b, X b → b < w.heap.size) (hX0 : ∀ b, X b → b < W0.heap.size) (hA : Rob X (TrA bits (Tr.leaf a q u s)) W0) (hOng : Ong X W0 w) (hfit : (Tr.leaf a q u s).er.fit d) (hL : ∀ j, j < ((Tr.leaf a q u s).lvs d).length → L[i + j]? = ((Tr.leaf a q u s).lvs d)[j]?) (hsta : ∀ i W W', J i W → Out Nil W W' → J i W') (hround : ∀ i xs W W2, i < L.length → J i W → Out Nil W W2 → Rob (· < W.heap.size) (lvV L i xs) W2 → CallV Tryd.prog f xs W2 fun v W' => Kept Nil X W0 W2 W' ∧ ((v = .bool true ∧ J (i + 1) W') ∨ (v = .bool false ∧ Jx W'))) (hf : IsFn f) (hJ : J i w) :
    Ret Tryd.prog 61 [(Tr.leaf a q u s).ptr, .int .i64 (d : Int), f].toArray w fun v w' => ∃ b, v = .bool b ∧ Ong X W0 w' ∧ (b = true → J (i + ((Tr.leaf a q u s).lvs d).length) w') ∧ (b = false → Jx w') := by
  refine Ret.of_body (N := 31) Tryd.func61 rfl rfl (by simp) ?_
  have H := (St.begin hX).add (rob0 (hOng.rob hA))
  have hLi : L[i]? = some ((Tr.leaf a q u s), d) := hL 0 (Nat.succ_pos _)
  have hiL := (List.getElem?_eq_some_iff.1 hLi).1
  refine WE.seq_reg ?_
  refine WL.as rfl rfl ?_
  refine WL.nil ?_
  refine WE.seq ?_
  refine WE.seq_reg ?_
  refine WL.mv rfl rfl ?_
  refine WL.call TrydT.fb39 rfl (NKind_c (T := (Tr.leaf a q u s)) (bits := bits) H.yylt (by exact H.rob 0 rfl) ) ?_
  rintro _ w1 ⟨rfl, hO⟩
  replace H := H.out hO
  refine WL.nil ?_
  refine WE.block ?_
  refine WE.seq_reg ?_
  refine WL.pv (PV.eql rfl rfl rfl) rfl ?_
  refine WL.as rfl rfl ?_
  refine WL.nil ?_
  refine WE.cond_t' rfl rfl ?_
  refine WE.seq_reg ?_
  refine WL.mv rfl rfl ?_
  refine WL.mv rfl rfl ?_
  refine WL.mv rfl rfl ?_
  refine WL.callV rfl rfl (hround i _ w _ hiL hJ H.toOut0 (Rob.pure ⟨_, hLi, rfl⟩)) ?_
  rintro _ w2 ⟨hk, ⟨rfl, hJ⟩ | ⟨rfl, hJ⟩⟩
  · skip
    have hOn2 := Ong.kept hk (fun _ h => h.elim)
    refine WL.as rfl rfl ?_
    refine WL.nil ?_
    refine WE.ret ?_
    refine ⟨[_], _, .nil _, ⟨rfl, trivial⟩, ?_⟩
    exact ⟨true, rfl, hOn2, (fun _ => hJ), fun h => by cases h⟩
  · skip
    have hOn2 := Ong.kept hk (fun _ h => h.elim)
    refine WL.as rfl rfl ?_
    refine WL.nil ?_
    refine WE.ret ?_
    refine ⟨[_], _, .nil _, ⟨rfl, trivial⟩, ?_⟩
    exact ⟨false, rfl, hOn2, (fun h => by cases h), fun _ => hJ⟩

theorem LvInner_s {X : Nat → Prop} {w : World} {W0 : World} {bits : Int} {d i : Nat} {L : List (Tr × Nat)} {f : Value} {J : Nat → World → Prop} {Jx : World → Prop} {a : Nat} {l r : Tr} (hX : ∀ b, X b → b < w.heap.size) (hX0 : ∀ b, X b → b < W0.heap.size) (hA : Rob X (TrA bits (Tr.inner a l r)) W0) (hOng : Ong X W0 w) (hfit : (Tr.inner a l r).er.fit d) (hL : ∀ j, j < ((Tr.inner a l r).lvs d).length → L[i + j]? = ((Tr.inner a l r).lvs d)[j]?) (hsta : ∀ i W W', J i W → Out Nil W W' → J i W') (hround : ∀ i xs W W2, i < L.length → J i W → Out Nil W W2 → Rob (· < W.heap.size) (lvV L i xs) W2 → CallV Tryd.prog f xs W2 fun v W' => Kept Nil X W0 W2 W' ∧ ((v = .bool true ∧ J (i + 1) W') ∨ (v = .bool false ∧ Jx W'))) (hf : IsFn f) (hJ : J i w) (ihl : LvOK l) (ihr : LvOK r) :
    Ret Tryd.prog 61 [(Tr.inner a l r).ptr, .int .i64 (d : Int), f].toArray w fun v w' => ∃ b, v = .bool b ∧ Ong X W0 w' ∧ (b = true → J (i + ((Tr.inner a l r).lvs d).length) w') ∧ (b = false → Jx w') := by
  refine Ret.of_body (N := 31) Tryd.func61 rfl rfl (by simp) ?_
  have H := (St.begin hX).add (rob0 (hOng.rob hA))
  have hll : (Tr.lvs d (Tr.inner a l r)).length = (l.lvs (d + 1)).length + (r.lvs (d + 1)).length := List.length_append
  have hd256 : d < 256 := hfit.1
  have hLl : ∀ j, j < (l.lvs (d + 1)).length → L[i + j]? = (l.lvs (d + 1))[j]? := fun j hj => (hL j (by rw [hll]; omega)).trans (List.getElem?_append_left hj)
  have hLr : ∀ j, j < (r.lvs (d + 1)).length → L[i + (l.lvs (d + 1)).length + j]? = (r.lvs (d + 1))[j]? := fun j hj => by rw [Nat.add_assoc]; refine (hL ((l.lvs (d + 1)).length + j) (by rw [hll]; omega)).trans ?_; show (l.lvs (d + 1) ++ r.lvs (d + 1))[_]? = _; rw [List.getElem?_append_right (by omega)]; congr 1; omega
  refine WE.seq_reg ?_
  refine WL.as rfl rfl ?_
  refine WL.nil ?_
  refine WE.seq ?_
  refine WE.seq_reg ?_
  refine WL.mv rfl rfl ?_
  refine WL.call TrydT.fb39 rfl (NKind_c (T := (Tr.inner a l r)) (bits := bits) H.yylt (by exact H.rob 0 rfl) ) ?_
  rintro _ w1 ⟨rfl, hO⟩
  replace H := H.out hO
  refine WL.nil ?_
  refine WE.block ?_
  refine WE.seq_reg ?_
  refine WL.pv (PV.eql rfl rfl rfl) rfl ?_
  refine WL.as rfl rfl ?_
  refine WL.nil ?_
  refine WE.cond_f' rfl rfl ?_
  refine WE.seq_reg ?_
  refine WL.pv (PV.eql rfl rfl rfl) rfl ?_
  refine WL.as rfl rfl ?_
  refine WL.nil ?_
  refine WE.cond_t' rfl rfl ?_
  refine WE.seq_reg ?_
  refine WL.mv rfl rfl ?_
  refine WL.call TrydT.fb41 rfl (Left_c (T := (Tr.inner a l r)) (bits := bits) H.yylt (by exact H.rob 0 rfl) ) ?_
  rintro _ w2 ⟨rfl, hO⟩
  replace H := H.out hO
  refine WL.mv rfl rfl ?_
  refine WL.pv (PV.eq (v' := .int .i64 ((d + 1 : Nat) : Int)) (PV.add64 rfl rfl rfl (by omega) (by omega)) (by rfl)) rfl ?_
  refine WL.mv rfl rfl ?_
  refine WL.call TrydT.fb61 rfl (ihl (X := X) (W0 := W0) (bits := bits) (d := d + 1) (i := i) (L := L) (J := J) (Jx := Jx) (fun b hb => H.yylt b (.inl hb)) hX0 (hA.imp fun _ h => h.left) (hOng.out H.toOut0) hfit.2.1 hLl hsta hround hf (hsta _ _ _ hJ H.toOut0)) ?_
  rintro _ w3 ⟨b22, rfl, hOn2, ht22, hf22⟩
  replace H := (St.begin (fun b hb => Nat.lt_of_lt_of_le (hX0 b hb) hOn2.size)).add (rob0 (hOn2.rob hA))
  refine WL.mv rfl rfl ?_
  refine WL.split (t := 23) rfl (fun hg23 => ?_) (fun hg23 => ?_)
  · skip
    refine WL.known (t := 22) (c := true) rfl hg23 ?_
    try simp only [decide_eq_true_eq, decide_eq_false_iff_not, ne_eq, Decidable.not_not, Bool.not_eq_true', Bool.not_eq_false', Bool.and_eq_true, Bool.or_eq_true, Bool.not_not, Bool.and_eq_false_iff, Bool.or_eq_false_iff, Int.not_lt, Int.not_le] at hg23
    subst hg23
    refine WL.mv rfl rfl ?_
    refine WL.call TrydT.fb43 rfl (Right2_c (T := (Tr.inner a l r)) (bits := bits) H.yylt (by exact H.rob 0 rfl) ) ?_
    rintro _ w4 ⟨rfl, hO⟩
    replace H := H.out hO
    refine WL.mv rfl rfl ?_
    refine WL.pv (PV.eq (v' := .int .i64 ((d + 1 : Nat) : Int)) (PV.add64 rfl rfl rfl (by omega) (by omega)) (by rfl)) rfl ?_
    refine WL.mv rfl rfl ?_
    refine WL.call TrydT.fb61 rfl (ihr (X := X) (W0 := W0) (bits := bits) (d := d + 1) (i := i + (l.lvs (d + 1)).length) (L := L) (J := J) (Jx := Jx) (fun b hb => H.yylt b (.inl hb)) hX0 (hA.imp fun _ h => h.right) (hOn2.out H.toOut0) hfit.2.2 hLr hsta hround hf (hsta _ _ _ (ht22 rfl) H.toOut0)) ?_
    rintro _ w5 ⟨b29, rfl, hOn3, ht29, hf29⟩
    refine WL.pv (PV.pick_t rfl rfl rfl) rfl ?_
    refine WL.as rfl rfl ?_
    refine WL.nil ?_
    refine WE.ret ?_
    refine ⟨[_], _, .nil _, ⟨rfl, trivial⟩, ?_⟩
    exact ⟨b29, rfl, hOn3, (fun h => by have h_ := ht29 h; rw [hll, ← Nat.add_assoc]; exact h_), hf29⟩
  · skip
    refine WL.known (t := 22) (c := false) rfl hg23 ?_
    try simp only [decide_eq_true_eq, decide_eq_false_iff_not, ne_eq, Decidable.not_not, Bool.not_eq_true', Bool.not_eq_false', Bool.and_eq_true, Bool.or_eq_true, Bool.not_not, Bool.and_eq_false_iff, Bool.or_eq_false_iff, Int.not_lt, Int.not_le] at hg23
    subst hg23
    refine WL.off rfl ?_
    refine WL.off rfl ?_
    refine WL.off rfl ?_
    refine WL.off rfl ?_
    refine WL.off rfl ?_
    refine WL.off rfl ?_
    refine WL.pv (PV.pick_f rfl rfl rfl) rfl ?_
    refine WL.as rfl rfl ?_
    refine WL.nil ?_
    refine WE.ret ?_
    refine ⟨[_], _, .nil _, ⟨rfl, trivial⟩, ?_⟩
    exact ⟨false, rfl, hOn2, (fun h => by cases h), fun _ => hf22 rfl⟩


theorem Lv_ok : ∀ T : Tr, LvOK T
  | .nil => fun hX h0 h1 h2 h3 h4 h5 h6 h7 h8 => LvNil_c hX h0 h1 h2 h3 h4 h5 h6 h7 h8
  | .leaf a q u s => fun hX h0 h1 h2 h3 h4 h5 h6 h7 h8 => LvLeaf_c hX h0 h1 h2 h3 h4 h5 h6 h7 h8
  | .inner a l r => fun hX h0 h1 h2 h3 h4 h5 h6 h7 h8 => LvInner_s hX h0 h1 h2 h3 h4 h5 h6 h7 h8 (Lv_ok l) (Lv_ok r)

theorem each1_seq {C : Nat → Prop} {w : World} {b1 : Nat} {bits : Int} {T : Tr} (hC : ∀ b, C b → b < w.heap.size) (hf0 : Rob C (fun w => RdA w ⟨b1, 0, none⟩ [T.ptr]) w) (hf1 : Rob C (TrA bits T) w) (hfit : T.er.fit 0) : SeqN Tryd.prog 60 [] [.pointer (some ⟨b1, 0, none⟩)] ((T.lvs 0).length) (lvV (T.lvs 0)) C w := by
  intro f J Jx hJ0 hsta hstx hround hf
  show Ret Tryd.prog 60 ([f, .pointer (some ⟨b1, 0, none⟩)] : List Value).toArray w _
  refine Ret.of_body (N := 6) Tryd.func60 rfl rfl (by simp) ?_
  have H := St.begin (X := C) hC
  replace H := H.add (rob0 hf1)
  replace H := H.add (rob0 hf0)
  refine WE.reg ?_
  refine WL.load1 rfl TrydT.ag23 rfl rfl (H.p 0 rfl) ?_
  refine WL.mv rfl rfl ?_
  refine WL.call TrydT.fb61 rfl (Lv_ok T (X := C) (W0 := w) (bits := bits) (d := 0) (i := 0) (L := T.lvs 0) (J := J) (Jx := Jx) (fun b hb => H.yylt b (.inl hb)) hC hf1 (Ong.of_out H.toOut0) hfit (fun j _ => by rw [Nat.zero_add]) hsta hround hf (hsta _ _ _ hJ0 H.toOut0)) ?_
  rintro _ w1 ⟨b5, rfl, hOn, ht, hfl⟩
  refine WL.nil ?_
  refine ⟨[], _, .nil _, trivial, ?_⟩
  cases b5 with
  | true => exact ⟨rfl, .inl (by have h_ := ht rfl; rwa [Nat.zero_add] at h_)⟩
  | false => exact ⟨rfl, .inr (hfl rfl)⟩

theorem each_c {X : Nat → Prop} {w : World} {T : Tr} (hX : ∀ b, X b → b < w.heap.size) :
    Ret Tryd.prog 36 [T.ptr].toArray w fun v w' => ∃ b, v = eachF b ∧ Out Nil w w' ∧ Rob X (fun w => RdA w ⟨b, 0, none⟩ [T.ptr]) w' := by
  refine Ret.of_body (N := 4) Tryd.func36 rfl rfl (by simp) ?_
  have H := St.begin hX
  refine WE.seq_reg ?_
  refine WL.box (l := [T.ptr]) H rfl (rfl) rfl ?_
  intro b1 w1 H
  refine WL.as rfl rfl ?_
  refine WL.nil ?_
  refine WE.seq_reg ?_
  refine WL.pv (PV.makeFunc rfl) rfl ?_
  refine WL.as rfl rfl ?_
  refine WL.nil ?_
  refine WE.ret ?_
  refine ⟨[_], _, .nil _, ⟨rfl, trivial⟩, ?_⟩
  replace H := H.freeze (i := 0) rfl
  exact ⟨_, rfl, H.toOut0, (H.give (H.rob 0 rfl)).imp fun _ h => h.rd⟩

theorem All_c {X : Nat → Prop} {w : World} {T : Tr} (hX : ∀ b, X b → b < w.heap.size) :
    Ret Tryd.prog 12 [T.ptr].toArray w fun v w' => ∃ b, v = allF b ∧ Out Nil w w' ∧ Rob X (fun w => RdA w ⟨b, 0, none⟩ [T.ptr]) w' := by
  refine Ret.of_body (N := 4) Tryd.func12 rfl rfl (by simp) ?_
  have H := St.begin hX
  refine WE.seq_reg ?_
  refine WL.box (l := [T.ptr]) H rfl (rfl) rfl ?_
  intro b1 w1 H
  refine WL.as rfl rfl ?_
  refine WL.nil ?_
  refine WE.seq_reg ?_
  refine WL.pv (PV.makeFunc rfl) rfl ?_
  refine WL.as rfl rfl ?_
  refine WL.nil ?_
  refine WE.ret ?_
  refine ⟨[_], _, .nil _, ⟨rfl, trivial⟩, ?_⟩
  replace H := H.freeze (i := 0) rfl
  exact ⟨_, rfl, H.toOut0, (H.give (H.rob 0 rfl)).imp fun _ h => h.rd⟩

end Go.Sp.Tryd

set_option maxRecDepth 100000
set_option maxHeartbeats 1000000
set_option linter.unusedVariables false
set_option linter.unusedSimpArgs false
namespace Go.Sp.Tryd
open Go.Proofs Go.RowKit Go.Sp
theorem all1_seq {C : Nat → Prop} {w : World} {b1 : Nat} {bits : Int} {T : Tr} (hC : ∀ b, C b → b < w.heap.size) (hf0 : Rob C (fun w => RdA w ⟨b1, 0, none⟩ [T.ptr]) w) (hf1 : Rob C (TrA bits T) w) (hfit : T.er.fit 0) : SeqV Tryd.prog 35 [] [.pointer (some ⟨b1, 0, none⟩)] ((T.lvs 0).length) (allV (T.lvs 0)) Nil C w := by
  intro f J Jx hst hsta hstx hround hf
  show Ret Tryd.prog 35 ([f, .pointer (some ⟨b1, 0, none⟩)] : List Value).toArray w _
  refine Ret.of_body (N := 18) Tryd.func35 rfl rfl (by simp) ?_
  have H := St.begin (X := C) hC
  replace H := H.add (rob0 hf1)
  replace H := H.add (rob0 hf0)
  have hf1c : f.oneCell' = true := by rcases hf with ⟨g, a, b, rfl⟩ | ⟨g, a, b, rfl⟩ <;> rfl
  refine WE.seq_reg ?_
  refine WL.box (l := [f]) H rfl (cells_one hf1c) rfl ?_
  intro b2 w1 H
  refine WL.nil ?_
  refine WE.seq_reg ?_
  refine WL.load1 rfl TrydT.ag23 rfl rfl ((by exact H.p 0 rfl)) ?_
  refine WL.call TrydT.fb36 rfl (each_c (T := T) H.yylt) ?_
  rintro _ w2 ⟨be, rfl, hO, hR⟩
  replace H := (H.out hO).add hR
  replace H := H.freeze (i := 0) rfl
  refine WL.nil ?_
  refine WE.block ?_
  have hsz0 := H.size
  have hOw := H.toOut0
  have hRf := (H.give (H.rob 0 rfl)).imp fun _ h => h.rd
  have hA2 := H.give (H.rob 3 rfl)
  refine WE.rangeS (C := C) (fun i W => J (fun b => w.heap.size ≤ b ∧ b < w2.heap.size + 2) i W ∧ Ong C w2 W ∧ W.heap[w2.heap.size]? = some (.deferred (some []))) (fun e W => e = .ret ∧ Jx (fun b => w.heap.size ≤ b ∧ b < w2.heap.size + 2) W ∧ Ong C w2 W ∧ W.heap[w2.heap.size]? = some (.deferred (some []))) rfl TrydT.fb60 (fun b hb => H.yylt b (.inl hb)) (fun W0 hO => each1_seq (T := T) (bits := bits) (fun b hb => hb.elim (fun h => Nat.lt_of_lt_of_le (H.yylt b (.inl h)) hO.size) (fun h => h.2)) ((H.rob 1 rfl).out hO (fun _ _ h => h.elim) (fun b hb h => h.elim .inl (fun h => absurd hb (by omega)))) ((H.rob 3 rfl).out hO (fun _ _ h => h.elim) (fun b hb h => h.elim .inl (fun h => absurd hb (by omega)))) hfit) (lvV_len) (fun W1 hO hsz hd => ⟨hst (fun b => w.heap.size ≤ b ∧ b < w2.heap.size + 2) W1 (H.toOut0.trans hO) (fun b h => .inr ⟨h.1, by omega⟩) (fun _ h => h.elim), Ong.of_out hO, hd⟩) (fun i W W' ⟨h1_, h2_, h3_⟩ ho_ => ⟨hsta (fun b => w.heap.size ≤ b ∧ b < w2.heap.size + 2) i W W' h1_ (ho_.mono fun b _ hb => by cases hb; exact ⟨by omega, by omega⟩), ⟨ho_.os.trans h2_.os, ho_.tape.trans h2_.tape, ho_.output.trans h2_.output, Nat.le_trans h2_.size ho_.size, fun b hb hc => (ho_.block b (Nat.lt_of_lt_of_le hb h2_.size) (by omega)).trans (h2_.old b hb hc)⟩, (ho_.block _ (Array.getElem?_eq_some_iff.1 h3_).1 (by omega)).trans h3_⟩) (fun e W W' ⟨he_, h1_, h2_, h3_⟩ ho_ => ⟨he_, hstx (fun b => w.heap.size ≤ b ∧ b < w2.heap.size + 2) W W' h1_ (ho_.mono fun b _ hb => by cases hb; exact ⟨by omega, by omega⟩), ⟨ho_.os.trans h2_.os, ho_.tape.trans h2_.tape, ho_.output.trans h2_.output, Nat.le_trans h2_.size ho_.size, fun b hb hc => (ho_.block b (Nat.lt_of_lt_of_le hb h2_.size) (by omega)).trans (h2_.old b hb hc)⟩, (ho_.block _ (Array.getElem?_eq_some_iff.1 h3_).1 (by omega)).trans h3_⟩) ?_ ?_ ?_
  · skip
    intro i xs_ Wa_ hi_ hSa_ hV_ hsza_
    obtain ⟨p, hLp, rfl⟩ := hV_
    have hpm := List.mem_of_getElem? hLp
    refine WE.reg ?_
    refine WL.as rfl rfl ?_
    refine WL.nil ?_
    refine ⟨rfl, rfl, rfl, ?_⟩
    intro Wb hS_ hV2_ hsz_
    have hOb0 := hS_.2.1
    have hkp := TrA.key_length (lvs_A T 0 (hOb0.rob hA2).here p hpm)
    replace H := St.begin (X := C) (w := Wb) (fun b hb => Nat.lt_of_lt_of_le (hC b hb) (Nat.le_trans hsz0 hOb0.size))
    replace H := H.add (rob0 (hOb0.rob (hA2.imp fun _ h => lvs_A T 0 h p hpm)))
    replace H := H.add (rob0 (hOb0.rob hRf))
    refine WE.block ?_
    refine WE.seq_reg ?_
    refine WL.mv rfl rfl ?_
    refine WL.call TrydT.fb37 rfl (Entry_c (T := p.1) (bits := bits) H.yylt (H.rob 1 rfl)) ?_
    rintro _ w3 ⟨s10, rfl, hO, hOwn⟩
    have hs10 := SlC.one1 (SlB.of_own hOwn)
    replace H := H.push hO (Ent.osl Wb.heap.size s10 5 1 _ _) (ownsRow_base hOwn H.size) (fun b hb => (hOwn.lt b hb).1)
    refine WL.alloc H rfl TrydT.ze34 rfl ?_
    intro b4 w4 H
    refine WL.storeL H 0 rfl rfl rfl (new := kc p.1.key ++ [s10]) rfl (by (rw [TrydT.sz34]; refine congrArg some ?_; (simp only [kc_length, kw_length, List.length_replicate, List.length_append, List.length_cons, List.length_nil, cutI_length, shaOf_length, dig_length, valD_length, rootM_length]; omega))) (one_append (kc_one _) (one_lit _ (by simp [hs10]))) (Laid.at (Laid.all (by (simp only [kc_length, kw_length, List.length_replicate, List.length_append, List.length_cons, List.length_nil, cutI_length, shaOf_length, dig_length, valD_length, rootM_length]; omega))) (by rfl)) rfl ?_
    intro w5 H
    refine WL.nil ?_
    refine WE.seq_reg ?_
    refine WL.load1 rfl TrydT.ag70 rfl rfl (H.p 0 rfl) ?_
    refine WL.pv (PV.fieldAddr rfl TrydT.fd34_0 rfl) rfl ?_
    refine WL.loadR rfl TrydT.ag31 rfl rfl (by exact Blk.segAt (H.l 0 rfl) (Seg.l (Seg.all _)) (by rfl)) (by (rw [TrydT.sz31]; refine congrArg some ?_; (simp only [kc_length, kw_length, List.length_replicate, List.length_append, List.length_cons, List.length_nil, cutI_length, shaOf_length, dig_length, valD_length, rootM_length]; omega))) ?_
    refine WL.pv (PV.fieldAddr rfl TrydT.fd34_1 rfl) rfl ?_
    refine WL.load1 rfl TrydT.ag32 rfl rfl (by exact Blk.segAt (H.l 0 rfl) (Seg.r (Seg.all _) (by with_reducible rfl)) (by (simp [kc_length, kw_length, *]; done))) ?_
    refine WL.callV rfl rfl (hround _ i _ Wb _ hi_ hS_.1 (H.toOut0.mono fun _ _ h => h.elim) ((rob_own (fun _ h => h) (H.l 1 rfl)).imp fun _ h => ⟨p, s10, hLp, rfl, SlB.of_own h⟩)) ?_
    rintro _ w6 ⟨hk, ⟨rfl, hJ⟩ | ⟨rfl, hJ⟩⟩
    · skip
      have hOb := H.toOut0
      refine WL.pv (PV.not rfl rfl) rfl ?_
      refine WL.nil ?_
      refine WE.cond_f rfl ?_
      refine WE.skip ?_
      have hKS : KeptS C w2 (w2.heap.size + 1) Wb w6 := ⟨hk.os.trans (hOw.os.symm.trans hS_.2.1.os.symm), hk.tape.trans (hOw.tape.symm.trans hS_.2.1.tape.symm), hk.output.trans (hOw.output.symm.trans hS_.2.1.output.symm), (hk.blk (w2.heap.size + 1) ⟨by omega, by omega⟩).1, (fun b hb hc => by
        rcases Nat.lt_or_ge b w.heap.size with hlt | hge
        · exact (hk.old b hlt hc (fun h => by have := h.1; omega)).trans ((hS_.2.1.old b hb hc).trans (hOw.block b hlt id)).symm
        · exact ((hk.blk b ⟨hge, by omega⟩).2).trans (hOb.block b (by omega) id)), ((hk.blk (w2.heap.size + 1) ⟨by omega, by omega⟩).2).trans (hOb.block _ (by omega) id)⟩
      have hOn3 : Ong C w2 w6 := ⟨hKS.os.trans hS_.2.1.os, hKS.tape.trans hS_.2.1.tape, hKS.output.trans hS_.2.1.output, by have := hKS.size; omega, fun b hb hc => (hKS.old b hb hc).trans (hS_.2.1.old b hb hc)⟩
      have hd3 : w6.heap[w2.heap.size]? = some (.deferred (some [])) := (((hk.blk w2.heap.size ⟨by omega, by omega⟩).2).trans (hOb.block _ (by omega) id)).trans hS_.2.2
      exact ⟨hKS, hJ, hOn3, hd3⟩
    · skip
      have hOb := H.toOut0
      refine WL.pv (PV.not rfl rfl) rfl ?_
      refine WL.nil ?_
      refine WE.cond_t rfl ?_
      refine WE.ret ?_
      have hKS : KeptS C w2 (w2.heap.size + 1) Wb w6 := ⟨hk.os.trans (hOw.os.symm.trans hS_.2.1.os.symm), hk.tape.trans (hOw.tape.symm.trans hS_.2.1.tape.symm), hk.output.trans (hOw.output.symm.trans hS_.2.1.output.symm), (hk.blk (w2.heap.size + 1) ⟨by omega, by omega⟩).1, (fun b hb hc => by
        rcases Nat.lt_or_ge b w.heap.size with hlt | hge
        · exact (hk.old b hlt hc (fun h => by have := h.1; omega)).trans ((hS_.2.1.old b hb hc).trans (hOw.block b hlt id)).symm
        · exact ((hk.blk b ⟨hge, by omega⟩).2).trans (hOb.block b (by omega) id)), ((hk.blk (w2.heap.size + 1) ⟨by omega, by omega⟩).2).trans (hOb.block _ (by omega) id)⟩
      have hOn3 : Ong C w2 w6 := ⟨hKS.os.trans hS_.2.1.os, hKS.tape.trans hS_.2.1.tape, hKS.output.trans hS_.2.1.output, by have := hKS.size; omega, fun b hb hc => (hKS.old b hb hc).trans (hS_.2.1.old b hb hc)⟩
      have hd3 : w6.heap[w2.heap.size]? = some (.deferred (some [])) := (((hk.blk w2.heap.size ⟨by omega, by omega⟩).2).trans (hOb.block _ (by omega) id)).trans hS_.2.2
      exact ⟨hKS, rfl, hJ, hOn3, hd3⟩
  · skip
    rintro W' ⟨hJ, _, hd⟩
    exact ⟨[], _, .mark rfl (run_takeDeferred hd) (.nil _), trivial, rfl, _, .inl (hsta _ _ _ _ hJ ((putObj_out _).mono fun b _ hb => by cases hb; exact ⟨by omega, by omega⟩))⟩
  · skip
    rintro e W' _ ⟨rfl, hJ, _, hd⟩
    exact ⟨[], _, .mark rfl (run_takeDeferred hd) (.nil _), trivial, rfl, _, .inr (hstx _ _ _ hJ ((putObj_out _).mono fun b _ hb => by cases hb; exact ⟨by omega, by omega⟩))⟩

end Go.Sp.Tryd

set_option maxRecDepth 100000
set_option maxHeartbeats 1000000
set_option linter.unusedVariables false
set_option linter.unusedSimpArgs false
namespace Go.Sp.Tryd
open Go.Proofs Go.RowKit Go.Sp

theorem cmpI_cons (x : UInt8) (a b : List UInt8) (h : a.length = b.length) : cmpI (x :: a) (x :: b) = cmpI a b := by
  unfold cmpI
  rw [num_cons, num_cons, h]
  simp only [Nat.add_lt_add_iff_left]
theorem compareBytes_num : ∀ (a b : List UInt8), a.length = b.length → Lib.compareBytes a b = cmpI a b
  | [], [], _ => by simp [Lib.compareBytes, cmpI]
  | [], _ :: _, h => by cases h
  | _ :: _, [], h => by cases h
  | x :: a, y :: b, h => by
    have hl : a.length = b.length := by simpa using h
    unfold Lib.compareBytes
    by_cases h1 : x < y
    · rw [if_pos h1]
      have := num_lt_of (a := x :: a) (b := y :: b) h 0 (by simp) rfl (UInt8.lt_iff_toNat_lt.1 h1)
      rw [cmpI, if_pos this]
    · rw [if_neg h1]
      by_cases h2 : y < x
      · rw [if_pos h2]
        have := num_lt_of (a := y :: b) (b := x :: a) h.symm 0 (by simp) rfl (UInt8.lt_iff_toNat_lt.1 h2)
        rw [cmpI, if_neg (by omega), if_pos this]
      · rw [if_neg h2]
        have e : x = y := by
          have h3 : ¬ x.toNat < y.toNat := fun h => h1 (UInt8.lt_iff_toNat_lt.2 h)
          have h4 : ¬ y.toNat < x.toNat := fun h => h2 (UInt8.lt_iff_toNat_lt.2 h)
          exact UInt8.toNat_inj.1 (by omega)
        subst e
        rw [compareBytes_num a b hl, cmpI_cons _ _ _ hl]

theorem bytesCompare_c {X : Nat → Prop} {w : World} {a b : Value} {la lb : List UInt8} (hX : ∀ b, X b → b < w.heap.size) (hf0 : Rob X (SlB a la) w) (hf1 : Rob X (SlB b lb) w) :
    Ret Tryd.prog 65 [a, b].toArray w fun v w' => v = .int .i64 (Lib.compareBytes la lb) ∧ Out Nil w w' := by
  refine Ret.of_body (N := 8) Tryd.func65 rfl rfl (by simp) ?_
  have H := St.begin hX
  replace H := H.add (rob0 hf1)
  replace H := H.add (rob0 hf0)
  refine WE.seq_reg ?_
  refine WL.as rfl rfl ?_
  refine WL.nil ?_
  refine WE.seq_reg ?_
  refine WL.mv rfl rfl ?_
  refine WL.mv rfl rfl ?_
  refine WL.extern (e := Extern.BytealgCompare.compare) (v := .int .i64 (Lib.compareBytes la lb)) Tryd.func81 (by kernel_rfl) (by kernel_rfl) (by kernel_rfl) (by kernel_rfl) rfl (run_compareB (H.p 0 rfl) (H.p 1 rfl)) ?_
  refine WL.as rfl rfl ?_
  refine WL.nil ?_
  refine WE.ret ?_
  refine ⟨[_], _, .nil _, ⟨rfl, trivial⟩, ?_⟩
  exact ⟨rfl, H.toOut0⟩

theorem bitsCompare_c {X : Nat → Prop} {w : World} {k l : List UInt8} (hX : ∀ b, X b → b < w.heap.size) (hk : k.length = 32) (hl : l.length = 32) :
    Ret Tryd.prog 44 [.agg (kc k).toArray, .agg (kc l).toArray].toArray w fun v w' => v = .int .i64 (cmpI k l) ∧ Out Nil w w' := by
  refine Ret.of_body (N := 8) Tryd.func44 rfl rfl (by simp) ?_
  have H := St.begin hX
  refine WE.seq_reg ?_
  refine WL.box (l := kc k) H rfl (by rfl) rfl ?_
  intro b2 w1 H
  refine WL.box (l := kc l) H rfl (by rfl) rfl ?_
  intro b3 w2 H
  refine WL.as rfl rfl ?_
  refine WL.nil ?_
  refine WE.seq_draw (.take 0 (.take 1 (.pick1 2 (.take 3 .done)))) TrydT.mixed (by kernel_rfl) ?_
  replace H := H.out (Out.drew _)
  replace H := H.freeze (i := 0) rfl
  replace H := H.freeze (i := 0) rfl
  replace H := H.sel [1, 0]
  refine WP.take_pure rfl rfl (PV.sliceArr rfl TrydT.ar31 (by rw [TrydT.sz5]; rfl) rfl) ?_
  refine WP.take_pure rfl rfl (PV.sliceArr rfl TrydT.ar31 (by rw [TrydT.sz5]; rfl) rfl) ?_
  refine WP.pick1 rfl ?_
  refine WL.call TrydT.fb65 rfl (bytesCompare_c (la := k) (lb := l) H.yylt ((H.rob 1 rfl).imp fun _ h => SlB.of_blk h hk) ((H.rob 0 rfl).imp fun _ h => SlB.of_blk h hl)) ?_
  rintro _ w3 ⟨rfl, hO⟩
  replace H := H.out hO
  rw [compareBytes_num k l (by rw [hk, hl])]
  refine WL.nil ⟨(fun _ h => by cases h), ?_⟩
  refine WP.as rfl rfl rfl ?_
  refine WP.done ?_
  refine WE.ret ?_
  refine ⟨[_], _, .nil _, ⟨rfl, trivial⟩, ?_⟩
  exact ⟨rfl, H.toOut0⟩

end Go.Sp.Tryd

set_option maxRecDepth 100000
set_option maxHeartbeats 1000000
set_option linter.unusedVariables false
set_option linter.unusedSimpArgs false
namespace Go.Sp.Tryd
open Go.Proofs Go.RowKit Go.Sp

def kvL (m : List En) : List (List UInt8 × List UInt8) := m.map fun e => (e.k, e.v)
def kvT (L : List (Tr × Nat)) : List (List UInt8 × List UInt8) := L.map fun p => (p.1.key, p.1.val)
theorem kvL_len (m : List En) : (kvL m).length = m.length := List.length_map _
theorem kvT_snoc {L : List (Tr × Nat)} {i : Nat} {p : Tr × Nat} (h : L[i]? = some p) : kvT (L.take (i + 1)) = kvT (L.take i) ++ [(p.1.key, p.1.val)] := by
  unfold kvT
  rw [List.take_add_one, h, List.map_append]; rfl
theorem kvT_map {T : Tr} {m : List En} (hT : T.er = grow 0 m) (hp : Pm 0 m) (hs : Srt m) : kvT (T.lvs 0) = kvL m := lvs_map hT hp hs
theorem kvL_kl {es : List En} {l : List (List UInt8 × List UInt8)} (h : kvL es = l) (hl : ∀ p ∈ l, p.1.length = 32) : KL es := fun e he => by
  subst h
  exact hl _ (List.mem_map_of_mem (f := fun e : En => (e.k, e.v)) he)
theorem kvL_eq {es m : List En} (h : kvL es = kvL m) : es.length = m.length ∧ ∀ i (h1 : i < es.length) (h2 : i < m.length), es[i].k = m[i].k ∧ es[i].v = m[i].v := by
  have hl : es.length = m.length := by simpa [kvL] using congrArg List.length h
  refine ⟨hl, fun i h1 h2 => ?_⟩
  have := congrArg (fun l => l[i]?) h
  simp [kvL, List.getElem?_map, List.getElem?_eq_getElem h1, List.getElem?_eq_getElem h2] at this
  exact this
theorem kvL_keys {es m : List En} (h : kvL es = kvL m) : es.map En.k = m.map En.k := by
  have := congrArg (List.map Prod.fst) h
  simpa [kvL, List.map_map, Function.comp_def] using this
def Tr.nth : Tr → Nat → Tr
  | .inner _ l r, i => if i < l.er.cnt then Tr.nth l i else Tr.nth r (i - l.er.cnt)
  | T, _ => T
def Tr.sz : Tr → Nat
  | .inner _ l r => l.sz + r.sz + 1
  | _ => 0
theorem nth_lvs : ∀ (T : Tr) (d i : Nat), i < T.er.cnt → ∃ p, (T.lvs d)[i]? = some p ∧ p.1 = T.nth i
  | .nil, _, _, h => by cases h
  | .leaf a k v s, d, i, h => by
    have : i = 0 := by have h_ : i < 1 := h; omega
    subst this
    exact ⟨_, rfl, rfl⟩
  | .inner a l r, d, i, h => by
    have hc : (Tr.inner a l r).er.cnt = l.er.cnt + r.er.cnt := rfl
    show ∃ p, (Tr.lvs (d + 1) l ++ Tr.lvs (d + 1) r)[i]? = some p ∧ p.1 = if i < l.er.cnt then Tr.nth l i else Tr.nth r (i - l.er.cnt)
    by_cases hi : i < l.er.cnt
    · obtain ⟨p, h1, h2⟩ := nth_lvs l (d + 1) i hi
      exact ⟨p, by rw [List.getElem?_append_left (by rw [lvs_len]; exact hi), h1], by rw [if_pos hi, h2]⟩
    · obtain ⟨p, h1, h2⟩ := nth_lvs r (d + 1) (i - l.er.cnt) (by omega)
      exact ⟨p, by rw [List.getElem?_append_right (by rw [lvs_len]; omega), lvs_len, h1], by rw [if_neg hi, h2]⟩
theorem nth_get {T : Tr} {m : List En} (hT : T.er = grow 0 m) (hp : Pm 0 m) (hs : Srt m) {i : Nat} (h : i < m.length) : (T.nth i).key = m[i].k ∧ (T.nth i).val = m[i].v := by
  have hc : T.er.cnt = m.length := by rw [hT]; exact grow_cnt hp
  obtain ⟨p, h1, h2⟩ := nth_lvs T 0 i (by omega)
  have h3 := List.getElem?_eq_some_iff.1 h1
  obtain ⟨h4, h5⟩ := h3
  have := lvs_get hT hp hs i h4 h
  rw [h5, h2] at this
  exact this
theorem nth_leaf {T : Tr} {i : Nat} (h : i < T.er.cnt) : (T.nth i).er.kind = 1 := by
  obtain ⟨p, h1, h2⟩ := nth_lvs T 0 i h
  rw [← h2]
  exact lvs_leaf T 0 p (List.mem_of_getElem? h1)
def rkB (T : Tr) (k : List UInt8) : Nat → Nat
  | 0 => 0
  | d + 1 => rkB T k d + if bitN k d = 0 then 0 else (T.atN k 0 d).left.er.cnt
theorem atM_srt {k : List UInt8} {d : Nat} {m : List En} (h : Srt m) : ∀ i, Srt (atM k d m i)
  | 0 => h
  | i + 1 => (atM_srt h i).filter _
theorem left_cnt {S : Tr} {d : Nat} {M : List En} (hS : S.er = grow d M) (hp : Pm d M) (h2 : S.er.kind = 2) : d < 256 ∧ S.left.er.cnt = (partM M d 0).length ∧ S.right.er.cnt = (partM M d 1).length := by
  have hm := (grow_kind hp).1 (hS ▸ h2)
  have hd := hp.lt hm
  rw [grow_many d M hd hm] at hS
  obtain ⟨x, l, r, rfl, h3, h4⟩ := Tr.inner_of hS
  refine ⟨hd, ?_, ?_⟩
  · show l.er.cnt = _; rw [h3]; exact grow_cnt (hp.part hd 0)
  · show r.er.cnt = _; rw [h4]; exact grow_cnt (hp.part hd 1)
theorem rkB_eq {T : Tr} {m : List En} {k : List UInt8} (hT : T.er = grow 0 m) (hp : Pm 0 m) (hs : Srt m) (hk : k.length = 32) : ∀ d, d ≤ T.dp k 0 → rkB T k d + rankM (atM k 0 m d) k = rankM m k
  | 0, _ => by show 0 + _ = _; rw [Nat.zero_add]; rfl
  | d + 1, h => by
    have ih := rkB_eq hT hp hs hk d (by omega)
    have he := at_er (k := k) hT hp d (by omega)
    have h2 := Tr.atN_in (k := k) d 0 T (by omega)
    have hl := left_cnt he.1 he.2 h2
    have hst := rank_step he.2 (atM_srt hs d) hl.1 hk (fun e hm => by
      rw [at_under d (by omega)] at hm
      rw [Nat.add_zero]
      exact (underM_mem.1 hm).2)
    show rkB T k d + (if bitN k d = 0 then 0 else (T.atN k 0 d).left.er.cnt) + rankM (partM (atM k 0 m d) (d + 0) (bitN k (d + 0))) k = _
    rw [hl.2.1]
    rw [Nat.add_zero] at hst ⊢
    omega
theorem rankM_le (m : List En) (k : List UInt8) : rankM m k ≤ m.length := List.length_filter_le _ _
theorem fin_rank {T : Tr} {m : List En} {k : List UInt8} (hT : T.er = grow 0 m) (hp : Pm 0 m) : rankM (atM k 0 m (T.dp k 0)) k = if (T.atN k 0 (T.dp k 0)).er.kind = 1 ∧ num (T.atN k 0 (T.dp k 0)).key < num k then 1 else 0 := by
  have he := (at_er (k := k) hT hp _ (Nat.le_refl _)).1
  have hl := at_end (k := k) hT hp
  match hm : atM k 0 m (T.dp k 0), hl with
  | [], _ =>
    rw [hm, grow_nil] at he
    rw [Tr.nil_er he, if_neg (by rintro ⟨h, _⟩; simp [Tr.er, Sh.kind] at h)]
    rfl
  | [e], _ =>
    rw [hm, grow_one] at he
    obtain ⟨a, s, e2⟩ := Tr.leaf_of he
    rw [e2]
    by_cases hn : num e.k < num k
    · rw [if_pos ⟨rfl, hn⟩]; simp [rankM, hn]
    · rw [if_neg (fun h => hn h.2)]; simp [rankM, hn]
  | _ :: _ :: _, h => simp at h
theorem at_cnt {T : Tr} {m : List En} {k : List UInt8} (hT : T.er = grow 0 m) (hp : Pm 0 m) {d : Nat} (hd : d < T.dp k 0) : (T.atN k 0 d).left.er.cnt ≤ m.length := by
  have he := at_er (k := k) hT hp d (by omega)
  have h2 := Tr.atN_in (k := k) d 0 T (by omega)
  rw [(left_cnt he.1 he.2 h2).2.1]
  exact Nat.le_trans (List.length_filter_le _ _) (atM_len k 0 m d)

theorem Rank_c {X : Nat → Prop} {w : World} {bits : Int} {T : Tr} {k : List UInt8} {m : List En} (hX : ∀ b, X b → b < w.heap.size) (hf0 : Rob X (TrA bits T) w) (hT : T.er = grow 0 m) (hpm : Pm 0 m) (hs : Srt m) (hk : k.length = 32) (hlen : m.length ≤ 1000000) :
    Ret Tryd.prog 18 [T.ptr, .agg (kc k).toArray].toArray w fun v w' => v = .int .i64 (rankM m k : Int) ∧ Out Nil w w' := by
  refine Ret.of_body (N := 39) Tryd.func18 rfl rfl (by simp) ?_
  have H := St.begin hX
  replace H := H.add (rob0 hf0)
  have hfit : T.er.fit 0 := hT ▸ grow_fit hpm
  have hdp := Tr.dp_fit (k := k) _ 0 T rfl hfit (by omega)
  have hrk := rankM_le m k
  refine WE.seq_reg ?_
  refine WL.box (l := kc k) H rfl (by rfl) rfl ?_
  intro b3 w1 H
  refine WL.as rfl rfl ?_
  refine WL.nil ?_
  refine WE.seq_reg ?_
  refine WL.as rfl rfl ?_
  refine WL.nil ?_
  refine WE.seq_reg ?_
  refine WL.as rfl rfl ?_
  refine WL.nil ?_
  refine WE.seq ?_
  refine WE.block ?_
  refine WE.loop (α := Nat) [0, 5, 6, 7, 8, 9, 10, 11, 12, 13, 14, 15, 16, 17, 18, 19, 20, 21, 22, 23, 24] (fun d => [(0, (T.atN k 0 d).ptr), (5, .int .i64 ((rkB T k d : Nat) : Int)), (6, .int .i64 (d : Int))]) (fun d wl => d ≤ T.dp k 0 ∧ St X w wl [] [Ent.blk b3 31 (kc k)] [TrA bits T]) (fun d => T.dp k 0 - d) 0 ⟨rfl, rfl, rfl, trivial⟩ ⟨Nat.zero_le _, H⟩ ?_
  intro d γ0 w2 hI
  try dsimp only at hI
  obtain ⟨hd, H⟩ := hI
  refine WE.seq ?_
  refine WE.seq_reg ?_
  refine WL.mv rfl rfl ?_
  refine WL.call TrydT.fb39 rfl (NKind_c (T := T.atN k 0 d) (bits := bits) H.yylt (by exact (H.rob 0 rfl).imp fun _ h => h.atN d) ) ?_
  rintro _ w3 ⟨rfl, hO⟩
  replace H := H.out hO
  refine WL.pv (PV.eql rfl rfl rfl) rfl ?_
  refine WL.nil ?_
  refine WE.cond rfl (fun hc9 => ?_) (fun hc9 => ?_)
  · skip
    try simp only [decide_eq_true_eq, decide_eq_false_iff_not, ne_eq, Decidable.not_not, Bool.not_eq_true', Bool.not_eq_false', Bool.and_eq_true, Bool.or_eq_true, Bool.not_not, Bool.and_eq_false_iff, Bool.or_eq_false_iff, Int.not_lt, Int.not_le] at hc9
    have hlt : d < T.dp k 0 := by rcases Nat.lt_or_ge d (T.dp k 0) with h | h; exact h; exact absurd (show (T.atN k 0 d).er.kind = 2 by exact hc9) (by rw [show d = T.dp k 0 by omega]; exact Tr.atN_out _ 0 T rfl)
    have hcl := at_cnt hT hpm hlt
    have hrb := rkB_eq hT hpm hs hk d hd
    refine WE.skip ?_
    refine WE.seq ?_
    refine WE.block ?_
    refine WE.seq ?_
    refine WE.seq_reg ?_
    refine WL.loadR rfl TrydT.ag31 rfl rfl (by exact Blk.segAt (H.l 0 rfl) (Seg.all _) (by rfl)) (by (rw [TrydT.sz31]; refine congrArg some ?_; (simp only [kc_length, kw_length, List.length_replicate, List.length_append, List.length_cons, List.length_nil, cutI_length, shaOf_length, dig_length, valD_length, rootM_length]; omega))) ?_
    refine WL.mv rfl rfl ?_
    refine WL.call TrydT.fb40 rfl (bitsBit_c (k := k) (d := d) H.yylt  (by assumption) (by omega)) ?_
    rintro _ w4 ⟨rfl, hO⟩
    replace H := H.out hO
    refine WL.pv (PV.eql rfl rfl rfl) rfl ?_
    refine WL.nil ?_
    refine WE.cond rfl (fun hc15 => ?_) (fun hc15 => ?_)
    · skip
      try simp only [decide_eq_true_eq, decide_eq_false_iff_not, ne_eq, Decidable.not_not, Bool.not_eq_true', Bool.not_eq_false', Bool.and_eq_true, Bool.or_eq_true, Bool.not_not, Bool.and_eq_false_iff, Bool.or_eq_false_iff, Int.not_lt, Int.not_le] at hc15
      have hb0 : bitN k d = 0 := by omega
      have hP : (T.atN k 0 d).left.ptr = (T.atN k 0 (d + 1)).ptr := by show _ = (Tr.child _ (bitN k (d + 0))).ptr; rw [Nat.add_zero, hb0]; rfl
      have hQ : Value.int .i64 ((rkB T k d : Nat) : Int) = .int .i64 ((rkB T k (d + 1) : Nat) : Int) := by show _ = Value.int .i64 ((rkB T k d + (if bitN k d = 0 then 0 else _) : Nat) : Int); rw [if_pos hb0]; rfl
      refine WE.seq_reg ?_
      refine WL.mv rfl rfl ?_
      refine WL.call TrydT.fb41 rfl (Left_c (T := T.atN k 0 d) (bits := bits) H.yylt (by exact (H.rob 0 rfl).imp fun _ h => h.atN d) ) ?_
      rintro _ w5 ⟨rfl, hO⟩
      replace H := H.out hO
      refine WL.as rfl rfl ?_
      refine WL.nil ?_
      refine WE.exit ?_
      refine WE.reg ?_
      refine WL.mv rfl rfl ?_
      refine WL.pv (PV.eq (v' := .int .i64 ((d + 1 : Nat) : Int)) (PV.add64 rfl rfl rfl (by omega) (by omega)) (by rfl)) rfl ?_
      refine WL.as rfl rfl ?_
      refine WL.nil ?_
      exact ⟨d + 1, (by repeat (first | with_reducible exact Off.refl _ _ | refine Off.upd rfl ?_ | refine Off.setAll rfl ?_ | refine Off.forget' rfl ?_)), ⟨hP, hQ, rfl, trivial⟩, rfl, ⟨by omega, H⟩, (by omega)⟩
    · skip
      try simp only [decide_eq_true_eq, decide_eq_false_iff_not, ne_eq, Decidable.not_not, Bool.not_eq_true', Bool.not_eq_false', Bool.and_eq_true, Bool.or_eq_true, Bool.not_not, Bool.and_eq_false_iff, Bool.or_eq_false_iff, Int.not_lt, Int.not_le] at hc15
      have hb1 : bitN k d ≠ 0 := by omega
      have hP : (T.atN k 0 d).right.ptr = (T.atN k 0 (d + 1)).ptr := by show _ = (Tr.child _ (bitN k (d + 0))).ptr; rw [Nat.add_zero, Tr.child, if_neg hb1]
      have hQ : Value.int .i64 ((rkB T k d + (T.atN k 0 d).left.er.cnt : Nat) : Int) = .int .i64 ((rkB T k (d + 1) : Nat) : Int) := by show _ = Value.int .i64 ((rkB T k d + (if bitN k d = 0 then 0 else _) : Nat) : Int); rw [if_neg hb1]
      refine WE.skip ?_
      refine WE.seq_reg ?_
      refine WL.mv rfl rfl ?_
      refine WL.mv rfl rfl ?_
      refine WL.call TrydT.fb41 rfl (Left_c (T := T.atN k 0 d) (bits := bits) H.yylt (by exact (H.rob 0 rfl).imp fun _ h => h.atN d) ) ?_
      rintro _ w6 ⟨rfl, hO⟩
      replace H := H.out hO
      refine WL.call TrydT.fb42 rfl (Len_c (T := (T.atN k 0 d).left) (bits := bits) H.yylt (by exact (H.rob 0 rfl).imp fun _ h => (h.atN d).left) ) ?_
      rintro _ w7 ⟨rfl, hO⟩
      replace H := H.out hO
      refine WL.pv (PV.eq (v' := .int .i64 ((rkB T k d + (T.atN k 0 d).left.er.cnt : Nat) : Int)) (PV.add64 rfl rfl rfl (by omega) (by omega)) (by rfl)) rfl ?_
      refine WL.as rfl rfl ?_
      refine WL.nil ?_
      refine WE.reg ?_
      refine WL.mv rfl rfl ?_
      refine WL.call TrydT.fb43 rfl (Right2_c (T := T.atN k 0 d) (bits := bits) H.yylt (by exact (H.rob 0 rfl).imp fun _ h => h.atN d) ) ?_
      rintro _ w8 ⟨rfl, hO⟩
      replace H := H.out hO
      refine WL.as rfl rfl ?_
      refine WL.nil ?_
      refine WE.reg ?_
      refine WL.mv rfl rfl ?_
      refine WL.pv (PV.eq (v' := .int .i64 ((d + 1 : Nat) : Int)) (PV.add64 rfl rfl rfl (by omega) (by omega)) (by rfl)) rfl ?_
      refine WL.as rfl rfl ?_
      refine WL.nil ?_
      exact ⟨d + 1, (by repeat (first | with_reducible exact Off.refl _ _ | refine Off.upd rfl ?_ | refine Off.setAll rfl ?_ | refine Off.forget' rfl ?_)), ⟨hP, hQ, rfl, trivial⟩, rfl, ⟨by omega, H⟩, (by omega)⟩
  · skip
    try simp only [decide_eq_true_eq, decide_eq_false_iff_not, ne_eq, Decidable.not_not, Bool.not_eq_true', Bool.not_eq_false', Bool.and_eq_true, Bool.or_eq_true, Bool.not_not, Bool.and_eq_false_iff, Bool.or_eq_false_iff, Int.not_lt, Int.not_le] at hc9
    have hge_ : d = T.dp k 0 := by rcases Nat.lt_or_ge d (T.dp k 0) with h | h; exact absurd (Tr.atN_in (k := k) d 0 T h) (by exact hc9); omega
    subst hge_
    have hkl : (T.atN k 0 (T.dp k 0)).key.length = 32 := TrA.key_length ((hf0.here).atN _)
    have hvdl := Tr.vd_length bits (T.atN k 0 (T.dp k 0))
    have hrb := rkB_eq hT hpm hs hk _ hd
    have hfr := fin_rank (k := k) hT hpm
    refine WE.exit ?_
    refine WE.seq ?_
    refine WE.seq_draw (.take 0 (.pick1 1 (.take 2 (.take 3 (.take 4 (.take 7 (.pick1 5 (.take 6 (.pick1 8 (.take 9 (.take 10 .done))))))))))) TrydT.mixed (by kernel_rfl) ?_
    replace H := H.out (Out.drew _)
    refine WP.mv rfl rfl rfl ?_
    refine WP.pick1 rfl ?_
    refine WL.call TrydT.fb39 rfl (NKind_c (T := T.atN k 0 (T.dp k 0)) (bits := bits) H.yylt (by exact (H.rob 0 rfl).imp fun _ h => h.atN _) ) ?_
    rintro _ w9 ⟨rfl, hO⟩
    replace H := H.out hO
    refine WL.nil ⟨(fun _ h => by cases h), ?_⟩
    refine WP.take_pure rfl rfl (PV.eql rfl rfl rfl) ?_
    refine WP.mv rfl rfl rfl ?_
    refine WP.split (t := 28) rfl (fun hg28 => ?_) (fun hg28 => ?_)
    · skip
      refine WP.known (t := 27) (c := true) rfl hg28 ?_
      try simp only [decide_eq_true_eq, decide_eq_false_iff_not, ne_eq, Decidable.not_not, Bool.not_eq_true', Bool.not_eq_false', Bool.and_eq_true, Bool.or_eq_true, Bool.not_not, Bool.and_eq_false_iff, Bool.or_eq_false_iff, Int.not_lt, Int.not_le] at hg28
      have hk1 : (T.atN k 0 (T.dp k 0)).er.kind = 1 := by omega
      refine WP.mv rfl rfl rfl ?_
      refine WP.readA rfl rfl rfl TrydT.ag31 rfl (by exact Blk.segAt (H.l 0 rfl) (Seg.all _) (by rfl)) (by (rw [TrydT.sz31]; refine congrArg some ?_; (simp only [kc_length, kw_length, List.length_replicate, List.length_append, List.length_cons, List.length_nil, cutI_length, shaOf_length, dig_length, valD_length, rootM_length]; omega))) ?_
      refine WP.pick1 rfl ?_
      refine WL.call TrydT.fb45 rfl (show Ret _ _ _ _ (fun v w' => v = .agg (kc (T.atN k 0 (T.dp k 0)).key ++ kc ((T.atN k 0 (T.dp k 0)).vd bits)).toArray ∧ Out Nil _ w') from Leaf2_c (T := T.atN k 0 (T.dp k 0)) (bits := bits) H.yylt (by exact (H.rob 0 rfl).imp fun _ h => h.atN _)) ?_
      rintro _ w10 ⟨rfl, hO⟩
      replace H := H.out hO
      refine WL.nil ⟨(List.forall_mem_cons.2 ⟨(fun _ _ => (by exact Blk.segAt (H.l 0 rfl) (Seg.all _) (by rfl))), (fun _ h => by cases h)⟩), ?_⟩
      refine WP.take_pure rfl rfl (PV.fieldV rfl TrydT.fd81_0 rfl (PartAt.agg TrydT.ag31 (by (rw [TrydT.sz31]; refine congrArg some ?_; (simp only [kc_length, kw_length, List.length_replicate, List.length_append, List.length_cons, List.length_nil, cutI_length, shaOf_length, dig_length, valD_length, rootM_length]; omega))) (Seg.l (Seg.all _)))) ?_
      refine WP.pick1 rfl ?_
      refine WL.call TrydT.fb44 rfl (bitsCompare_c (k := (T.atN k 0 (T.dp k 0)).key) (l := k) H.yylt  hkl hk) ?_
      rintro _ w11 ⟨rfl, hO⟩
      replace H := H.out hO
      refine WL.nil ⟨(List.forall_mem_cons.2 ⟨(by exact (fun h => absurd (show waits _ 8 7 = false from h) (by decide +kernel))), (fun _ h => by cases h)⟩), ?_⟩
      refine WP.take_pure rfl rfl (PV.lss rfl rfl rfl) ?_
      refine WP.take_pure rfl rfl (PV.pick_t rfl rfl rfl) ?_
      refine WP.done ?_
      refine WE.cond rfl (fun hc35 => ?_) (fun hc35 => ?_)
      · skip
        try simp only [decide_eq_true_eq, decide_eq_false_iff_not, ne_eq, Decidable.not_not, Bool.not_eq_true', Bool.not_eq_false', Bool.and_eq_true, Bool.or_eq_true, Bool.not_not, Bool.and_eq_false_iff, Bool.or_eq_false_iff, Int.not_lt, Int.not_le] at hc35
        have hnl := cmpI_neg.1 (by exact hc35)
        rw [if_pos ⟨hk1, hnl⟩] at hfr
        refine WE.reg ?_
        refine WL.mv rfl rfl ?_
        refine WL.pv (PV.add64 rfl rfl rfl (by omega) (by omega)) rfl ?_
        refine WL.as rfl rfl ?_
        refine WL.nil ?_
        refine WE.seq_reg ?_
        refine WL.mv rfl rfl ?_
        refine WL.as rfl rfl ?_
        refine WL.nil ?_
        refine WE.ret ?_
        refine ⟨[_], _, .nil _, ⟨rfl, trivial⟩, ?_⟩
        refine ⟨?_, H.toOut0⟩
        show Value.int .i64 _ = Value.int .i64 _
        congr 1
        omega
      · skip
        try simp only [decide_eq_true_eq, decide_eq_false_iff_not, ne_eq, Decidable.not_not, Bool.not_eq_true', Bool.not_eq_false', Bool.and_eq_true, Bool.or_eq_true, Bool.not_not, Bool.and_eq_false_iff, Bool.or_eq_false_iff, Int.not_lt, Int.not_le] at hc35
        have hnl : ¬ num (T.atN k 0 (T.dp k 0)).key < num k := fun h => by have h_ := cmpI_neg.2 h; omega
        rw [if_neg (fun h => hnl h.2)] at hfr
        refine WE.skip ?_
        refine WE.seq_reg ?_
        refine WL.mv rfl rfl ?_
        refine WL.as rfl rfl ?_
        refine WL.nil ?_
        refine WE.ret ?_
        refine ⟨[_], _, .nil _, ⟨rfl, trivial⟩, ?_⟩
        refine ⟨?_, H.toOut0⟩
        show Value.int .i64 _ = Value.int .i64 _
        congr 1
        omega
    · skip
      refine WP.known (t := 27) (c := false) rfl hg28 ?_
      try simp only [decide_eq_true_eq, decide_eq_false_iff_not, ne_eq, Decidable.not_not, Bool.not_eq_true', Bool.not_eq_false', Bool.and_eq_true, Bool.or_eq_true, Bool.not_not, Bool.and_eq_false_iff, Bool.or_eq_false_iff, Int.not_lt, Int.not_le] at hg28
      have hk1 : ¬ (T.atN k 0 (T.dp k 0)).er.kind = 1 := by omega
      rw [if_neg (fun h => hk1 h.1)] at hfr
      refine WP.take_off rfl rfl ?_
      refine WP.take_off rfl rfl ?_
      refine WP.pick1 rfl ?_
      refine WL.off rfl ?_
      refine WL.nil ⟨(fun _ h => by cases h), ?_⟩
      refine WP.take_off rfl rfl ?_
      refine WP.pick1 rfl ?_
      refine WL.off rfl ?_
      refine WL.nil ⟨(fun _ h => by cases h), ?_⟩
      refine WP.take_off rfl rfl ?_
      refine WP.take_pure rfl rfl (PV.pick_f rfl rfl rfl) ?_
      refine WP.done ?_
      refine WE.cond_f rfl ?_
      refine WE.skip ?_
      refine WE.seq_reg ?_
      refine WL.mv rfl rfl ?_
      refine WL.as rfl rfl ?_
      refine WL.nil ?_
      refine WE.ret ?_
      refine ⟨[_], _, .nil _, ⟨rfl, trivial⟩, ?_⟩
      refine ⟨?_, H.toOut0⟩
      show Value.int .i64 _ = Value.int .i64 _
      congr 1
      omega

theorem NthNo_c {X : Nat → Prop} {w : World} {bits : Int} {T : Tr} {z : Int} (hX : ∀ b, X b → b < w.heap.size) (hf0 : Rob X (TrA bits T) w) (hz : z < 0 ∨ (T.er.cnt : Int) ≤ z) :
    Ret Tryd.prog 19 [T.ptr, .int .i64 z].toArray w fun v w' => v = .tuple [.agg (kc (List.replicate 32 0) ++ [Value.slice none 0 0]).toArray, .bool false].toArray ∧ Out Nil w w' := by
  refine Ret.of_body (N := 36) Tryd.func19 rfl rfl (by simp) ?_
  have H := St.begin hX
  replace H := H.add (rob0 hf0)
  refine WE.seq_reg ?_
  refine WL.alloc H rfl TrydT.ze34 rfl ?_
  intro b4 w1 H
  refine WL.as rfl rfl ?_
  refine WL.nil ?_
  refine WE.scope ?_
  refine WE.seq ?_
  refine WE.seq_reg ?_
  refine WL.mv rfl rfl ?_
  refine WL.pv (PV.lss rfl rfl rfl) rfl ?_
  refine WL.mv rfl rfl ?_
  refine WL.split (t := 9) rfl (fun hg9 => ?_) (fun hg9 => ?_)
  · skip
    refine WL.known (t := 8) (c := true) rfl hg9 ?_
    try simp only [decide_eq_true_eq, decide_eq_false_iff_not, ne_eq, Decidable.not_not, Bool.not_eq_true', Bool.not_eq_false', Bool.and_eq_true, Bool.or_eq_true, Bool.not_not, Bool.and_eq_false_iff, Bool.or_eq_false_iff, Int.not_lt, Int.not_le] at hg9
    refine WL.off rfl ?_
    refine WL.off rfl ?_
    refine WL.off rfl ?_
    refine WL.off rfl ?_
    refine WL.pv (PV.pick_t rfl rfl rfl) rfl ?_
    refine WL.nil ?_
    refine WE.cond_t rfl ?_
    refine WE.seq_reg ?_
    refine WL.pv (PV.buildS rfl TrydT.pl34 TrydT.ze34 Fl.nil) rfl ?_
    refine WL.storeL H 0 rfl rfl rfl (new := (kc (List.replicate 32 0) ++ [Value.slice none 0 0])) rfl (by exact TrydT.sz34) (by exact one_lit _ rfl) (Laid.at (Laid.all (by with_reducible rfl)) (by rfl)) rfl ?_
    intro w2 H
    refine WL.as rfl rfl ?_
    refine WL.nil ?_
    refine WE.ret ?_
    refine ⟨[_, _], _, .nil _, ⟨⟨_, rfl, run_loadVar_aggR TrydT.ag34 (by exact Blk.segAt (H.l 0 rfl) (Seg.all _) rfl) (by exact TrydT.sz34)⟩, rfl, trivial⟩, ?_⟩
    exact ⟨rfl, H.toOut0⟩
  · skip
    refine WL.known (t := 8) (c := false) rfl hg9 ?_
    try simp only [decide_eq_true_eq, decide_eq_false_iff_not, ne_eq, Decidable.not_not, Bool.not_eq_true', Bool.not_eq_false', Bool.and_eq_true, Bool.or_eq_true, Bool.not_not, Bool.and_eq_false_iff, Bool.or_eq_false_iff, Int.not_lt, Int.not_le] at hg9
    refine WL.mv rfl rfl ?_
    refine WL.mv rfl rfl ?_
    refine WL.call TrydT.fb42 rfl (Len_c (T := T) (bits := bits) H.yylt (by exact H.rob 0 rfl) ) ?_
    rintro _ w3 ⟨rfl, hO⟩
    replace H := H.out hO
    refine WL.pv (PV.geq rfl rfl rfl) rfl ?_
    refine WL.pv (PV.pick_f rfl rfl rfl) rfl ?_
    refine WL.nil ?_
    refine WE.cond_t' rfl (by (simp; omega)) ?_
    refine WE.seq_reg ?_
    refine WL.pv (PV.buildS rfl TrydT.pl34 TrydT.ze34 Fl.nil) rfl ?_
    refine WL.storeL H 0 rfl rfl rfl (new := (kc (List.replicate 32 0) ++ [Value.slice none 0 0])) rfl (by exact TrydT.sz34) (by exact one_lit _ rfl) (Laid.at (Laid.all (by with_reducible rfl)) (by rfl)) rfl ?_
    intro w4 H
    refine WL.as rfl rfl ?_
    refine WL.nil ?_
    refine WE.ret ?_
    refine ⟨[_, _], _, .nil _, ⟨⟨_, rfl, run_loadVar_aggR TrydT.ag34 (by exact Blk.segAt (H.l 0 rfl) (Seg.all _) rfl) (by exact TrydT.sz34)⟩, rfl, trivial⟩, ?_⟩
    exact ⟨rfl, H.toOut0⟩

theorem NthYes_c {X : Nat → Prop} {w : World} {bits : Int} {T : Tr} {i : Nat} (hX : ∀ b, X b → b < w.heap.size) (hf0 : Rob X (TrA bits T) w) (hi : i < T.er.cnt) (hcn : T.er.cnt ≤ 1000000) :
    Ret Tryd.prog 19 [T.ptr, .int .i64 (i : Int)].toArray w fun v w' => ∃ s, v = .tuple [.agg (kc (T.nth i).key ++ [s]).toArray, .bool true].toArray ∧ Out Nil w w' ∧ w'.ownsRow w.heap.size 5 1 s (T.nth i).val.length (kc (T.nth i).val) := by
  refine Ret.of_body (N := 36) Tryd.func19 rfl rfl (by simp) ?_
  have H := St.begin hX
  replace H := H.add (rob0 hf0)
  refine WE.seq_reg ?_
  refine WL.alloc H rfl TrydT.ze34 rfl ?_
  intro b4 w1 H
  refine WL.as rfl rfl ?_
  refine WL.nil ?_
  refine WE.scope ?_
  refine WE.seq ?_
  refine WE.seq_reg ?_
  refine WL.mv rfl rfl ?_
  refine WL.pv (PV.lss rfl rfl rfl) rfl ?_
  refine WL.mv rfl rfl ?_
  refine WL.known (t := 9) (c := false) rfl (by (simp; done)) ?_
  refine WL.mv rfl rfl ?_
  refine WL.mv rfl rfl ?_
  refine WL.call TrydT.fb42 rfl (Len_c (T := T) (bits := bits) H.yylt (by exact H.rob 0 rfl) ) ?_
  rintro _ w2 ⟨rfl, hO⟩
  replace H := H.out hO
  refine WL.pv (PV.geq rfl rfl rfl) rfl ?_
  refine WL.pv (PV.pick_f rfl rfl rfl) rfl ?_
  refine WL.nil ?_
  refine WE.cond_f' rfl (by simp; omega) ?_
  refine WE.skip ?_
  refine WE.seq ?_
  refine WE.label ?_
  refine WE.seq ?_
  refine WE.block ?_
  refine WE.loop (α := Tr × Nat) [0, 1, 6, 16, 17, 18, 19, 20, 21, 22, 23, 24, 25, 26, 27, 28, 29, 30, 31, 32, 33] (fun p => [(0, p.1.ptr), (1, .int .i64 (p.2 : Int))]) (fun p wl => p.1.nth p.2 = T.nth i ∧ p.2 < p.1.er.cnt ∧ p.1.er.cnt ≤ 1000000 ∧ St X w wl [] [Ent.blk b4 34 (kc (List.replicate 32 0) ++ [Value.slice none 0 0])] [TrA bits p.1]) (fun p => p.1.sz) (T, i) ⟨rfl, rfl, trivial⟩ ⟨rfl, hi, hcn, H⟩ ?_
  intro ⟨S, j⟩ γ0 w3 hI
  try dsimp only at hI
  obtain ⟨hn, hjc, hcn2, H⟩ := hI
  refine WE.block ?_
  refine WE.seq_reg ?_
  refine WL.mv rfl rfl ?_
  refine WL.call TrydT.fb41 rfl (Left_c (T := S) (bits := bits) H.yylt (by exact H.rob 0 rfl) ) ?_
  rintro _ w4 ⟨rfl, hO⟩
  replace H := H.out hO
  refine WL.as rfl rfl ?_
  refine WL.nil ?_
  refine WE.block ?_
  refine WE.seq_reg ?_
  refine WL.mv rfl rfl ?_
  refine WL.call TrydT.fb39 rfl (NKind_c (T := S) (bits := bits) H.yylt (by exact H.rob 0 rfl) ) ?_
  rintro _ w5 ⟨rfl, hO⟩
  replace H := H.out hO
  refine WL.pv (PV.neq rfl rfl rfl) rfl ?_
  refine WL.as rfl rfl ?_
  refine WL.nil ?_
  refine WE.cond rfl (fun hc24 => ?_) (fun hc24 => ?_)
  · skip
    try simp only [decide_eq_true_eq, decide_eq_false_iff_not, ne_eq, Decidable.not_not, Bool.not_eq_true', Bool.not_eq_false', Bool.and_eq_true, Bool.or_eq_true, Bool.not_not, Bool.and_eq_false_iff, Bool.or_eq_false_iff, Int.not_lt, Int.not_le] at hc24
    have hnk : S.er.kind ≠ 2 := by exact hc24
    have hSn : S.nth j = S := by cases S <;> first | rfl | exact absurd rfl hnk
    have hkS : S.key.length = 32 := TrA.key_length (H.p 0 rfl)
    refine WE.exit ?_
    refine WE.seq_reg ?_
    refine WL.mv rfl rfl ?_
    refine WL.call TrydT.fb37 rfl (Entry_c (T := S) (bits := bits) H.yylt (H.rob 0 rfl)) ?_
    rintro _ w6 ⟨s35, rfl, hO, hOwn⟩
    have hs35 := SlC.one1 (SlB.of_own hOwn)
    replace H := H.push hO (Ent.osl w.heap.size s35 5 1 _ _) (ownsRow_base hOwn H.size) (fun b hb => (hOwn.lt b hb).1)
    refine WL.storeL H 1 rfl rfl rfl (new := kc S.key ++ [s35]) rfl (by (rw [TrydT.sz34]; refine congrArg some ?_; (simp only [kc_length, kw_length, List.length_replicate, List.length_append, List.length_cons, List.length_nil, cutI_length, shaOf_length, dig_length, valD_length, rootM_length]; omega))) (one_append (kc_one _) (one_lit _ (by simp [hs35]))) (Laid.at (Laid.all (by (simp only [kc_length, kw_length, List.length_replicate, List.length_append, List.length_cons, List.length_nil, cutI_length, shaOf_length, dig_length, valD_length, rootM_length]; omega))) (by rfl)) rfl ?_
    intro w7 H
    refine WL.as rfl rfl ?_
    refine WL.nil ?_
    refine WE.ret ?_
    refine ⟨[_, _], _, .nil _, ⟨⟨_, rfl, run_loadVar_aggR TrydT.ag34 (by exact Blk.segAt (H.l 1 rfl) (Seg.all _) rfl) (by (rw [TrydT.sz34]; refine congrArg some ?_; (simp only [kc_length, kw_length, List.length_replicate, List.length_append, List.length_cons, List.length_nil, cutI_length, shaOf_length, dig_length, valD_length, rootM_length]; omega)))⟩, rfl, trivial⟩, ?_⟩
    rw [hSn] at hn
    subst hn
    exact ⟨s35, rfl, H.toOut0, H.l 0 rfl⟩
  · skip
    try simp only [decide_eq_true_eq, decide_eq_false_iff_not, ne_eq, Decidable.not_not, Bool.not_eq_true', Bool.not_eq_false', Bool.and_eq_true, Bool.or_eq_true, Bool.not_not, Bool.and_eq_false_iff, Bool.or_eq_false_iff, Int.not_lt, Int.not_le] at hc24
    obtain ⟨a_, l_, r_, rfl⟩ := Tr.kind2 (show S.er.kind = 2 by exact hc24)
    have hcs : (Tr.inner a_ l_ r_).er.cnt = l_.er.cnt + r_.er.cnt := rfl
    have hss : (Tr.inner a_ l_ r_).sz = l_.sz + r_.sz + 1 := rfl
    refine WE.seq_reg ?_
    refine WL.mv rfl rfl ?_
    refine WL.mv rfl rfl ?_
    refine WL.call TrydT.fb42 rfl (Len_c (T := l_) (bits := bits) H.yylt (by exact (H.rob 0 rfl).imp fun _ h => TrA.left h) ) ?_
    rintro _ w8 ⟨rfl, hO⟩
    replace H := H.out hO
    refine WL.pv (PV.lss rfl rfl rfl) rfl ?_
    refine WL.as rfl rfl ?_
    refine WL.nil ?_
    refine WE.cond rfl (fun hc28 => ?_) (fun hc28 => ?_)
    · skip
      try simp only [decide_eq_true_eq, decide_eq_false_iff_not, ne_eq, Decidable.not_not, Bool.not_eq_true', Bool.not_eq_false', Bool.and_eq_true, Bool.or_eq_true, Bool.not_not, Bool.and_eq_false_iff, Bool.or_eq_false_iff, Int.not_lt, Int.not_le] at hc28
      have hjl : j < l_.er.cnt := by (have := hc28; omega)
      have hnx : l_.nth j = T.nth i := by rw [← hn]; exact (if_pos hjl).symm
      let S2 := l_
      let j2 := j
      have hcc : S2.er.cnt ≤ 1000000 := (by omega : l_.er.cnt ≤ 1000000)
      have hcj : j2 < S2.er.cnt := (hjl : j < l_.er.cnt)
      have hsd : S2.sz < (Tr.inner a_ l_ r_).sz := (by omega : l_.sz < (Tr.inner a_ l_ r_).sz)
      replace H := H.add (by exact (H.rob 0 rfl).imp fun _ h => TrA.left h)
      refine WE.reg ?_
      refine WL.mv rfl rfl ?_
      refine WL.as rfl rfl ?_
      refine WL.nil ?_
      exact ⟨(S2, j2), (by repeat (first | with_reducible exact Off.refl _ _ | refine Off.upd rfl ?_ | refine Off.setAll rfl ?_ | refine Off.forget' rfl ?_)), ⟨rfl, rfl, trivial⟩, rfl, ⟨hnx, hcj, hcc, H.drop (fun p hp => by simp at hp; subst hp; exact List.mem_cons_self)⟩, hsd⟩
    · skip
      try simp only [decide_eq_true_eq, decide_eq_false_iff_not, ne_eq, Decidable.not_not, Bool.not_eq_true', Bool.not_eq_false', Bool.and_eq_true, Bool.or_eq_true, Bool.not_not, Bool.and_eq_false_iff, Bool.or_eq_false_iff, Int.not_lt, Int.not_le] at hc28
      have hjl : ¬ j < l_.er.cnt := by (have := hc28; omega)
      have hnx : r_.nth (j - l_.er.cnt) = T.nth i := by rw [← hn]; exact (if_neg hjl).symm
      let S2 := r_
      let j2 := j - l_.er.cnt
      have hcc : S2.er.cnt ≤ 1000000 := (by omega : r_.er.cnt ≤ 1000000)
      have hcj : j2 < S2.er.cnt := (by omega : j - l_.er.cnt < r_.er.cnt)
      have hsd : S2.sz < (Tr.inner a_ l_ r_).sz := (by omega : r_.sz < (Tr.inner a_ l_ r_).sz)
      refine WE.seq_reg ?_
      refine WL.mv rfl rfl ?_
      refine WL.mv rfl rfl ?_
      refine WL.call TrydT.fb42 rfl (Len_c (T := l_) (bits := bits) H.yylt (by exact (H.rob 0 rfl).imp fun _ h => TrA.left h) ) ?_
      rintro _ w9 ⟨rfl, hO⟩
      replace H := H.out hO
      refine WL.pv (PV.eq (v' := .int .i64 ((j - l_.er.cnt : Nat) : Int)) (PV.sub64 rfl rfl rfl (by omega) (by omega)) (by (congr 1; omega))) rfl ?_
      refine WL.as rfl rfl ?_
      refine WL.nil ?_
      refine WE.reg ?_
      refine WL.mv rfl rfl ?_
      refine WL.call TrydT.fb43 rfl (Right2_c (T := .inner a_ l_ r_) (bits := bits) H.yylt (by exact H.rob 0 rfl) ) ?_
      rintro _ w10 ⟨rfl, hO⟩
      replace H := H.out hO
      replace H := H.add (by exact (H.rob 0 rfl).imp fun _ h => TrA.right h)
      refine WL.as rfl rfl ?_
      refine WL.nil ?_
      exact ⟨(S2, j2), (by repeat (first | with_reducible exact Off.refl _ _ | refine Off.upd rfl ?_ | refine Off.setAll rfl ?_ | refine Off.forget' rfl ?_)), ⟨rfl, rfl, trivial⟩, rfl, ⟨hnx, hcj, hcc, H.drop (fun p hp => by simp at hp; subst hp; exact List.mem_cons_self)⟩, hsd⟩

end Go.Sp.Tryd

set_option maxRecDepth 100000
set_option maxHeartbeats 1000000
set_option linter.unusedVariables false
set_option linter.unusedSimpArgs false
namespace Go.Sp.Tryd
open Go.Proofs Go.RowKit Go.Sp

theorem Nth_c {X : Nat → Prop} {w : World} {bits : Int} {T : Tr} {z : Int} (hX : ∀ b, X b → b < w.heap.size) (hf0 : Rob X (TrA bits T) w) (hcn : T.er.cnt ≤ 1000000) :
    Ret Tryd.prog 19 [T.ptr, .int .i64 z].toArray w fun v w' => ∃ (b : Bool) (q u : List UInt8) (s : Value), v = .tuple [.agg (kc q ++ [s]).toArray, .bool b].toArray ∧ q.length = 32 ∧ Out Nil w w' ∧ w'.ownsRow w.heap.size 5 1 s u.length (kc u) ∧ (b = true ↔ 0 ≤ z ∧ z < (T.er.cnt : Int)) ∧ (b = true → q = (T.nth z.toNat).key ∧ u = (T.nth z.toNat).val) ∧ (b = false → q = List.replicate 32 0 ∧ u = []) := by
  by_cases hz : 0 ≤ z ∧ z < (T.er.cnt : Int)
  · obtain ⟨i, rfl⟩ := Int.eq_ofNat_of_zero_le hz.1
    have hi : i < T.er.cnt := by have := hz.2; omega
    refine (NthYes_c (i := i) hX hf0 hi hcn).mono ?_
    rintro v w' ⟨s, rfl, hO, hOwn⟩
    obtain ⟨p, h1, h2⟩ := nth_lvs T 0 i hi
    have hA := lvs_A T 0 (hf0.here) p (List.mem_of_getElem? h1)
    rw [h2] at hA
    exact ⟨true, _, _, s, rfl, hA.key_length, hO, hOwn, ⟨fun _ => hz, fun _ => rfl⟩, (fun _ => ⟨rfl, rfl⟩), fun h => by cases h⟩
  · refine (NthNo_c hX hf0 (by omega)).mono ?_
    rintro v w' ⟨rfl, hO⟩
    exact ⟨false, _, [], _, rfl, by simp, hO, World.ownsRow_nil _ _ _ _, ⟨(fun h => by cases h), fun h => absurd h hz⟩, (fun h => by cases h), fun _ => ⟨rfl, rfl⟩⟩
theorem one_en {q : List UInt8} {s : Value} (h : s.oneCell' = true) : oneAll (kc q ++ [s]) := one_append (kc_one _) (one_lit _ (by simp [h]))
theorem kvL_snoc (es : List En) (q u : List UInt8) (s : Value) : kvL (es ++ [⟨q, s, u⟩]) = kvL es ++ [(q, u)] := by simp [kvL]
theorem vals_snoc {es : List En} {e : En} {w : World} (h : Vals es w) (he : SlB e.s e.v w) : Vals (es ++ [e]) w := fun x hx => by
  rcases List.mem_append.1 hx with hx | hx
  · exact h x hx
  · rw [List.mem_singleton.1 hx]; exact he
theorem flat_snoc (es : List En) (e : En) : (es ++ [e]).flatMap enC = es.flatMap enC ++ (kc e.k ++ [e.s]) := by rw [List.flatMap_append, List.flatMap_singleton]; rfl
theorem kvTake_snoc {m es : List En} {r : Nat} {q u : List UInt8} {s : Value} (h : kvL es = (kvL (m.drop r)).take es.length) (hl : r + es.length < m.length) (hq : q = m[r + es.length].k ∧ u = m[r + es.length].v) :
    kvL (es ++ [⟨q, s, u⟩]) = (kvL (m.drop r)).take (es ++ [(⟨q, s, u⟩ : En)]).length := by
  rw [kvL_snoc, List.length_append, List.length_singleton]
  have h1 : es.length < (kvL (m.drop r)).length := by rw [kvL_len, List.length_drop]; omega
  rw [List.take_succ_eq_append_getElem h1, ← h]
  congr 1
  simp [kvL, hq.1, hq.2]

theorem From_c {X : Nat → Prop} {w : World} {bits : Int} {T : Tr} {k : List UInt8} {m : List En} {z : Int} (hX : ∀ b, X b → b < w.heap.size) (hf0 : Rob X (TrA bits T) w) (hT : T.er = grow 0 m) (hpm : Pm 0 m) (hs : Srt m) (hk : k.length = 32) (hlen : m.length ≤ 1000000) :
    Ret Tryd.prog 17 [T.ptr, .agg (kc k).toArray, .int .i64 z].toArray w fun v w' => ∃ es : List En, Out Nil w w' ∧ Rob X (SlE v es) w' ∧ Rob X (Vals es) w' ∧ kvL es = (kvL (m.drop (rankM m k))).take z.toNat := by
  refine Ret.of_body (N := 35) Tryd.func17 rfl rfl (by simp) ?_
  have H := St.begin hX
  replace H := H.add (rob0 hf0)
  have hcm : T.er.cnt = m.length := by rw [hT]; exact grow_cnt hpm
  have hrk := rankM_le m k
  refine WE.seq_reg ?_
  refine WL.box (l := kc k) H rfl (by rfl) rfl ?_
  intro b4 w1 H
  refine WL.as rfl rfl ?_
  refine WL.nil ?_
  refine WE.seq_reg ?_
  refine WL.as rfl rfl ?_
  refine WL.nil ?_
  refine WE.seq_reg ?_
  refine WL.mv rfl rfl ?_
  refine WL.loadR rfl TrydT.ag31 rfl rfl (by exact Blk.segAt (H.l 0 rfl) (Seg.all _) (by rfl)) (by (rw [TrydT.sz31]; refine congrArg some ?_; (simp only [kc_length, kw_length, List.length_replicate, List.length_append, List.length_cons, List.length_nil, cutI_length, shaOf_length, dig_length, valD_length, rootM_length]; omega))) ?_
  refine WL.call TrydT.fb18 rfl (Rank_c (m := m) (k := k) (bits := bits) H.yylt (by exact H.rob 0 rfl) hT hpm hs hk hlen) ?_
  rintro _ w2 ⟨rfl, hO⟩
  replace H := H.out hO
  refine WL.as rfl rfl ?_
  refine WL.nil ?_
  refine WE.seq ?_
  refine WE.seq_reg ?_
  refine WL.mv rfl rfl ?_
  refine WL.as rfl rfl ?_
  refine WL.nil ?_
  refine WE.block ?_
  replace H := H.nilOsl 34 33
  replace H := H.add (show Rob _ (Vals []) _ from fun _ _ e he => by cases he)
  refine WE.loop (α := Value × List En) [7, 9, 10, 11, 16, 17, 18, 19, 20, 21, 22, 23, 24, 25, 26, 27, 28, 29, 30, 31, 32, 33] (fun p => [(7, p.1), (9, .int .i64 ((rankM m k + p.2.length : Nat) : Int))]) (fun p wl => kvL p.2 = (kvL (m.drop (rankM m k))).take p.2.length ∧ rankM m k + p.2.length ≤ m.length ∧ p.2.length ≤ z.toNat ∧ St X w wl [] [Ent.osl w.heap.size p.1 34 33 (p.2.length) ((p.2).flatMap enC), Ent.blk b4 31 (kc k)] [Vals p.2, TrA bits T]) (fun p => m.length - p.2.length) (.slice none 0 0, []) ⟨rfl, rfl, trivial⟩ ⟨rfl, hrk, Nat.zero_le _, H⟩ ?_
  intro ⟨v, es⟩ γ0 w3 hI
  try dsimp only at hI
  obtain ⟨hkv, hle, hlz, H⟩ := hI
  try dsimp only at hkv hle hlz
  have hpe : ((v, es) : Value × List En).snd.length = es.length := rfl
  refine WE.seq ?_
  refine WE.seq_reg ?_
  refine WL.mv rfl rfl ?_
  refine WL.pv (PV.lenS (SlC.of_own (by exact H.l 0 rfl)) TrydT.sl22 rfl) rfl ?_
  refine WL.mv rfl rfl ?_
  refine WL.pv (PV.lss rfl rfl rfl) rfl ?_
  refine WL.nil ?_
  refine WE.cond rfl (fun hc19 => ?_) (fun hc19 => ?_)
  · skip
    try simp only [decide_eq_true_eq, decide_eq_false_iff_not, ne_eq, Decidable.not_not, Bool.not_eq_true', Bool.not_eq_false', Bool.and_eq_true, Bool.or_eq_true, Bool.not_not, Bool.and_eq_false_iff, Bool.or_eq_false_iff, Int.not_lt, Int.not_le] at hc19
    have hltz : (es.length : Int) < z := by exact hc19
    refine WE.skip ?_
    refine WE.seq ?_
    refine WE.block ?_
    refine WE.seq_reg ?_
    refine WL.mv rfl rfl ?_
    refine WL.mv rfl rfl ?_
    refine WL.call TrydT.fb19 rfl (Nth_c (T := T) (bits := bits) H.yylt (by exact H.rob 1 rfl) (by omega)) ?_
    rintro _ w4 ⟨b25, q25, u25, s25, rfl, hq25, hO, hOwn, hb25, hv25, hz25⟩
    have hs25 := SlC.one1 (SlB.of_own hOwn)
    have hr25 := (rob_own H.yylt hOwn).imp fun _ h => SlB.of_own h
    replace H := (H.out hO).add hr25
    refine WL.mv rfl rfl ?_
    refine WL.pv (PV.extract rfl rfl rfl) rfl ?_
    refine WL.pv (PV.extract rfl rfl rfl) rfl ?_
    refine WL.alloc H rfl TrydT.ze34 rfl ?_
    intro b10 w5 H
    refine WL.storeL H 0 rfl rfl rfl (new := kc q25 ++ [s25]) rfl (by (rw [TrydT.sz34]; refine congrArg some ?_; (simp only [kc_length, kw_length, List.length_replicate, List.length_append, List.length_cons, List.length_nil, cutI_length, shaOf_length, dig_length, valD_length, rootM_length]; omega))) (one_en hs25) (Laid.at (Laid.all (by (simp only [kc_length, kw_length, List.length_replicate, List.length_append, List.length_cons, List.length_nil, cutI_length, shaOf_length, dig_length, valD_length, rootM_length]; omega))) (by rfl)) rfl ?_
    intro w6 H
    refine WL.as rfl rfl ?_
    refine WL.nil ?_
    refine WE.seq ?_
    refine WE.seq_reg ?_
    refine WL.mv rfl rfl ?_
    refine WL.pv (PV.not rfl rfl) rfl ?_
    refine WL.nil ?_
    refine WE.cond rfl (fun hc29 => ?_) (fun hc29 => ?_)
    · skip
      try simp only [decide_eq_true_eq, decide_eq_false_iff_not, ne_eq, Decidable.not_not, Bool.not_eq_true', Bool.not_eq_false', Bool.and_eq_true, Bool.or_eq_true, Bool.not_not, Bool.and_eq_false_iff, Bool.or_eq_false_iff, Int.not_lt, Int.not_le] at hc29
      have hbf : b25 = false := by exact hc29
      have hge_ : m.length ≤ rankM m k + es.length := by rcases Nat.lt_or_ge (rankM m k + es.length) m.length with h | h; exact absurd (hb25.2 ⟨by omega, by omega⟩) (by rw [hbf]; simp); exact h
      refine WE.exit ?_
      refine WE.seq_reg ?_
      refine WL.mv rfl rfl ?_
      refine WL.as rfl rfl ?_
      refine WL.nil ?_
      refine WE.ret ?_
      refine ⟨[_], _, .nil _, ⟨rfl, trivial⟩, ?_⟩
      refine ⟨es, H.toOut0, (by exact (rob_own hX (H.l 1 rfl)).imp fun _ h => SlC.of_own h), (by exact H.give (H.rob 1 rfl)), ?_⟩
      have hml_ : (kvL (m.drop (rankM m k))).length = m.length - rankM m k := by rw [kvL_len, List.length_drop]
      (rw [hkv, List.take_of_length_le (by omega), List.take_of_length_le (by omega)])
    · skip
      try simp only [decide_eq_true_eq, decide_eq_false_iff_not, ne_eq, Decidable.not_not, Bool.not_eq_true', Bool.not_eq_false', Bool.and_eq_true, Bool.or_eq_true, Bool.not_not, Bool.and_eq_false_iff, Bool.or_eq_false_iff, Int.not_lt, Int.not_le] at hc29
      have hbt : b25 = true := by exact hc29
      have hin := hb25.1 hbt
      have hil : rankM m k + es.length < m.length := by omega
      have hvv := hv25 hbt
      have hng := nth_get hT hpm hs hil
      have hqm : q25 = m[rankM m k + es.length].k := by rw [hvv.1, ← hng.1]; rfl
      have hum : u25 = m[rankM m k + es.length].v := by rw [hvv.2, ← hng.2]; rfl
      have hE : (kc q25 ++ [s25]).length = 1 * 33 := by simp [kc_length, hq25]
      have hE2 : (kc q25 ++ [s25]).length = 33 := hE
      refine WE.skip ?_
      refine WE.reg ?_
      refine WL.mv rfl rfl ?_
      refine WL.loadR rfl TrydT.ag34 rfl rfl (by exact Blk.segAt (H.l 0 rfl) (Seg.all _) (by rfl)) (by (rw [TrydT.sz34]; refine congrArg some ?_; (simp only [kc_length, kw_length, List.length_replicate, List.length_append, List.length_cons, List.length_nil, cutI_length, shaOf_length, dig_length, valD_length, rootM_length]; omega))) ?_
      refine WL.buildSliceF (l0 := ((kc (List.replicate 32 0) ++ ([.slice none 0 0])))) H rfl TrydT.st22 (by decide) (by rfl) (Fl.cons rfl (by rfl) (by (simp only [kc_length, kw_length, List.length_replicate, List.length_append, List.length_cons, List.length_nil, cutI_length, shaOf_length, dig_length, valD_length, rootM_length]; omega)) (Laid.all (by (simp only [kc_length, kw_length, List.length_replicate, List.length_append, List.length_cons, List.length_nil, cutI_length, shaOf_length, dig_length, valD_length, rootM_length]; omega))) Fl.nil) rfl ?_
      intro b32 w7 H
      refine WL.append (m := 1) H 2 TrydT.st22 (by decide) rfl rfl rfl (SlC.of_blk (n := 1) (H.l 0 rfl) hE) (one_en hs25) (by omega) (by decide) rfl ?_
      intro v33 w8 H
      replace H := H.forget 0
      let e25 : En := ⟨q25, s25, u25⟩
      replace H := H.add ((show Rob _ (Vals (es ++ [e25])) _ from ((H.rob 1 rfl).and (H.rob 0 rfl)).imp fun _ h => vals_snoc h.1 h.2))
      refine WL.as rfl rfl ?_
      refine WL.nil ?_
      refine WE.reg ?_
      refine WL.mv rfl rfl ?_
      refine WL.pv (PV.eq (v' := .int .i64 ((rankM m k + (es.length + 1) : Nat) : Int)) (PV.add64 rfl rfl rfl (by omega) (by omega)) (by rfl)) rfl ?_
      refine WL.as rfl rfl ?_
      refine WL.nil ?_
      have H2 : St X w w8 [] [Ent.osl w.heap.size v33 34 33 ((es ++ [e25]).length) ((es ++ [e25]).flatMap enC), Ent.blk b4 31 (kc k)] [Vals (es ++ [e25]), TrA bits T] := by rw [flat_snoc, List.length_append, List.length_singleton]; exact ((H.forget 0).sel [0, 3])
      exact ⟨(v33, es ++ [e25]), (by repeat (first | with_reducible exact Off.refl _ _ | refine Off.upd rfl ?_ | refine Off.setAll rfl ?_ | refine Off.forget' rfl ?_)), ⟨rfl, (by dsimp only; rw [List.length_append, List.length_singleton]; rfl), trivial⟩, rfl, ⟨kvTake_snoc hkv hil ⟨hqm, hum⟩, by dsimp only; rw [List.length_append, List.length_singleton]; omega, by dsimp only; rw [List.length_append, List.length_singleton]; omega, H2⟩, (by dsimp only; rw [List.length_append]; simp; omega)⟩
  · skip
    try simp only [decide_eq_true_eq, decide_eq_false_iff_not, ne_eq, Decidable.not_not, Bool.not_eq_true', Bool.not_eq_false', Bool.and_eq_true, Bool.or_eq_true, Bool.not_not, Bool.and_eq_false_iff, Bool.or_eq_false_iff, Int.not_lt, Int.not_le] at hc19
    have hgez : ¬ (es.length : Int) < z := by simpa using hc19
    refine WE.exit ?_
    refine WE.seq_reg ?_
    refine WL.mv rfl rfl ?_
    refine WL.as rfl rfl ?_
    refine WL.nil ?_
    refine WE.ret ?_
    refine ⟨[_], _, .nil _, ⟨rfl, trivial⟩, ?_⟩
    refine ⟨es, H.toOut0, (by exact (rob_own hX (H.l 0 rfl)).imp fun _ h => SlC.of_own h), (by exact H.give (H.rob 0 rfl)), ?_⟩
    have hml_ : (kvL (m.drop (rankM m k))).length = m.length - rankM m k := by rw [kvL_len, List.length_drop]
    (rw [show z.toNat = es.length by omega]; exact hkv)

theorem Entries_c {X : Nat → Prop} {w : World} {bits : Int} {T : Tr} (hX : ∀ b, X b → b < w.heap.size) (hf0 : Rob X (TrA bits T) w) (hfit : T.er.fit 0) (hcn : T.er.cnt ≤ 1000000) :
    Ret Tryd.prog 15 [T.ptr].toArray w fun v w' => ∃ es : List En, Out Nil w w' ∧ Rob X (SlE v es) w' ∧ Rob X (Vals es) w' ∧ kvL es = kvT (T.lvs 0) := by
  refine Ret.of_body (N := 15) Tryd.func15 rfl rfl (by simp) ?_
  have H := St.begin hX
  replace H := H.add (rob0 hf0)
  have hln := lvs_len T 0
  refine WE.seq_reg ?_
  refine WL.as rfl rfl ?_
  refine WL.nil ?_
  refine WE.seq_reg ?_
  refine WL.alloc H rfl TrydT.ze22 rfl ?_
  intro b3 w1 H
  refine WL.nil ?_
  refine WE.seq ?_
  refine WE.seq_reg ?_
  refine WL.mv rfl rfl ?_
  refine WL.call TrydT.fb36 rfl (each_c (T := T) H.yylt  ) ?_
  rintro _ w2 ⟨bev6, rfl, hO, hR⟩
  replace H := (H.out hO).add hR
  refine WL.nil ?_
  refine WE.block ?_
  replace H := H.nilOsl 34 33
  replace H := H.add (show Rob _ (Vals []) _ from fun _ _ e he => by cases he)
  replace H := H.pushNil
  refine WE.rangeF (α := Value × List En) (fun i x => kvL x.2 = kvT ((T.lvs 0).take i) ∧ x.2.length = i) (fun i x => []) (fun i x => [Ent.osl w.heap.size x.1 34 33 i (x.2.flatMap enC), Ent.blk b3 22 [x.1]]) (fun i x => [Vals x.2, fun w => RdA w ⟨bev6, 0, none⟩ [T.ptr], TrA bits T]) (fun _ _ => False) (fun _ _ => []) (fun _ _ => []) (fun _ _ => []) (.slice none 0 0, []) H rfl TrydT.fb60 (fun W0 hO => (each1_seq (T := T) (bits := bits) (H.ccLt hO) (H.ccRob0 hO 1 rfl) (H.ccRob0 hO 2 rfl) hfit).seqV) (lvV_len) ⟨⟨rfl, rfl⟩, rfl, rfl, rfl⟩ ?_ ?_ ?_
  · skip
    intro i ⟨v, es⟩ xs_ l_ d_ o_ T_ sc_ w3 hi_ hR_ hV_
    obtain ⟨p, hLp, rfl⟩ := hV_
    have hpm := List.mem_of_getElem? hLp
    refine WE.reg ?_
    refine WL.as rfl rfl ?_
    refine WL.nil ?_
    refine ⟨rfl, rfl, rfl, ?_⟩
    intro w4 H
    have hkp := TrA.key_length (lvs_A T 0 (H.p 3 rfl) p hpm)
    have hil := (List.getElem?_eq_some_iff.1 hLp).1
    have hE : ∀ s11 : Value, (kc p.1.key ++ [s11]).length = 1 * 33 := fun s => by simp [kc_length, hkp]
    have hE2 : ∀ s11 : Value, (kc p.1.key ++ [s11]).length = 33 := hE
    refine WE.block ?_
    refine WE.draw (.take 0 (.take 1 (.pick1 2 (.pick1 3 (.pick1 4 (.pick1 5 .done)))))) TrydT.mixed (by kernel_rfl) ?_
    replace H := H.out (Out.drew _)
    refine WP.take_read rfl rfl (RV.loadOne rfl TrydT.ag22 rfl) (by exact Blk.segAt (H.l 1 rfl) (Seg.all _) (by rfl)) ?_
    refine WP.mv rfl rfl rfl ?_
    refine WP.pick1 rfl ?_
    refine WL.call TrydT.fb37 rfl (Entry_c (T := p.1) (bits := bits) H.yylt ((H.rob 3 rfl).imp fun _ h => lvs_A T 0 h p hpm)) ?_
    rintro _ w5 ⟨s11, rfl, hO, hOwn⟩
    have hs11 := SlC.one1 (SlB.of_own hOwn)
    have hr_ := (rob_own H.yylt hOwn).imp fun _ h => SlB.of_own h
    replace H := (H.out hO).add hr_
    refine WL.nil ⟨(List.forall_mem_cons.2 ⟨(fun _ _ => (by exact Blk.segAt (H.l 1 rfl) (Seg.all _) (by rfl))), (fun _ h => by cases h)⟩), ?_⟩
    refine WP.pick1 rfl ?_
    refine WL.buildSliceF (l0 := ((kc (List.replicate 32 0) ++ ([.slice none 0 0])))) H rfl TrydT.st22 (by decide) (by rfl) (Fl.cons rfl (by rfl) (by (simp only [kc_length, kw_length, List.length_replicate, List.length_append, List.length_cons, List.length_nil, cutI_length, shaOf_length, dig_length, valD_length, rootM_length]; omega)) (Laid.all (by (simp only [kc_length, kw_length, List.length_replicate, List.length_append, List.length_cons, List.length_nil, cutI_length, shaOf_length, dig_length, valD_length, rootM_length]; omega))) Fl.nil) rfl ?_
    intro b12 w6 H
    refine WL.nil ⟨(List.forall_mem_cons.2 ⟨(fun _ _ => (by exact Blk.segAt (H.l 2 rfl) (Seg.all _) (by rfl))), (fun _ h => by cases h)⟩), ?_⟩
    refine WP.pick1 rfl ?_
    refine WL.append (m := 1) H 1 TrydT.st22 (by decide) rfl rfl rfl (SlC.of_blk (n := 1) (H.l 0 rfl) (hE s11)) (one_en hs11) (by omega) (by decide) rfl ?_
    intro v13 w7 H
    replace H := H.forget 0
    have hv13 := own_one (H.l 0 rfl)
    refine WL.nil ⟨(List.forall_mem_cons.2 ⟨(by exact (fun h => absurd (show waits _ 4 0 = false from h) (by decide +kernel))), (fun _ h => by cases h)⟩), ?_⟩
    refine WP.pick1 rfl ?_
    refine WL.storeL H 1 rfl rfl rfl (new := [v13]) (cells_one hv13) (by exact TrydT.sz22) (one_sing hv13) (Laid.at (Laid.all (by (simp only [kc_length, kw_length, List.length_replicate, List.length_append, List.length_cons, List.length_nil, cutI_length, shaOf_length, dig_length, valD_length, rootM_length]; done))) (by rfl)) rfl ?_
    intro w8 H
    refine WL.nil ⟨(List.forall_mem_cons.2 ⟨(by exact (fun h => absurd (show waits _ 5 0 = false from h) (by decide +kernel))), (fun _ h => by cases h)⟩), ?_⟩
    refine WP.done ?_
    let e11 : En := ⟨p.1.key, s11, p.1.val⟩
    replace H := H.add (show Rob _ (Vals (es ++ [e11])) _ from ((H.rob 2 rfl).and (H.rob 0 rfl)).imp fun _ h => vals_snoc h.1 h.2)
    replace H := H.conv (L' := [Ent.osl w.heap.size v13 34 33 (i + 1) ((es ++ [e11]).flatMap enC), Ent.blk b3 22 [v13], Ent.obj l_ o_, Ent.obj d_ (.deferred (some [])), Ent.sn T_ w4]) (by rw [flat_snoc]; rfl)
    replace H := H.sel [0, 4, 5, 6]
    exact ⟨(v13, es ++ [e11]), ⟨by rw [kvL_snoc, kvT_snoc hLp, hR_.1], by rw [List.length_append, hR_.2]; rfl⟩, H⟩
  · skip
    intro ⟨v, es⟩ d_0 w9 hR_ H
    refine WE.seq_reg ?_
    refine WL.load1 rfl TrydT.ag22 rfl rfl (by exact Blk.segAt (H.l 2 rfl) (Seg.all _) (by rfl)) ?_
    refine WL.as rfl rfl ?_
    refine WL.nil ?_
    refine WE.ret ?_
    (obtain ⟨w10, hl_0, H⟩ := H.unmark 0 rfl)
    refine ⟨[_], _, (hl_0 _ (.nil _)), ⟨rfl, trivial⟩, ?_⟩
    rw [List.take_of_length_le (Nat.le_refl _)] at hR_
    refine ⟨es, H.toOut0, (by exact (rob_own hX (H.l 0 rfl)).imp fun _ h => (by have h_ := SlC.of_own h; rw [← hR_.2] at h_; exact h_)), H.give (H.rob 0 rfl), hR_.1⟩
  · skip
    intro e_ ⟨v, es⟩ d_0 w11 he_ hR_ H
    exact hR_.elim

end Go.Sp.Tryd

set_option maxRecDepth 100000
set_option maxHeartbeats 1000000
set_option linter.unusedVariables false
set_option linter.unusedSimpArgs false
namespace Go.Sp.Tryd
open Go.Proofs Go.RowKit Go.Sp

def intC (d : Nat) : Value := .int .i64 (d : Int)
def SlD (v : Value) (ds : List Nat) (w : World) : Prop := SlC w v 1 ds.length (ds.map intC)
theorem SlD.rd {v : Value} {ds : List Nat} {w : World} (h : SlD v ds w) (i : Nat) (hi : i < ds.length) : RdA w (sAddr v (i * 1)) [.int .i64 (ds[i] : Int)] := by
  have := SlC.rd h i hi
  rwa [drop_take_one (ds.map intC) i (by simpa using hi), List.getElem_map] at this
def depL (T : Tr) : List Nat := (T.lvs 0).map (·.2)
theorem depL_len (T : Tr) : (depL T).length = T.er.cnt := by unfold depL; rw [List.length_map, lvs_len]
theorem depL_snoc {T : Tr} {i : Nat} {p : Tr × Nat} (h : (T.lvs 0)[i]? = some p) : ((depL T).take (i + 1)).map intC = ((depL T).take i).map intC ++ [.int .i64 (p.2 : Int)] := by
  have : (depL T)[i]? = some p.2 := by simp [depL, h]
  rw [List.take_add_one, this, List.map_append]; rfl
theorem lvs_dp : ∀ (T : Tr) (d : Nat) (m : List En) (p : Tr × Nat), T.er = grow d m → Pm d m → Srt m → p ∈ T.lvs d → p.2 = d + T.dp p.1.key d
  | .nil, _, _, _, _, _, _, h => by cases h
  | .leaf _ _ _ _, d, _, p, _, _, _, h => by
    have e : p = _ := List.mem_singleton.1 h
    rw [e]; rfl
  | .inner a l r, d, m, p, hT, hp, hs, h => by
    have h2 : (Tr.inner a l r).er.kind = 2 := rfl
    have hm := (grow_kind hp).1 (hT ▸ h2)
    have hd := hp.lt hm
    have hT2 := hT
    rw [grow_many d m hd hm] at hT2
    have hl : l.er = grow (d + 1) (partM m d 0) := by injection hT2
    have hr : r.er = grow (d + 1) (partM m d 1) := by injection hT2
    have key : ∀ (S : Tr) (b : Nat), S.er = grow (d + 1) (partM m d b) → p ∈ S.lvs (d + 1) → bitN p.1.key d = b := fun S b hS hpS => by
      have h3 := lvs_map hS (hp.part hd b) (hs.filter _)
      have h4 : (p.1.key, p.1.val) ∈ (S.lvs (d + 1)).map (fun p => (p.1.key, p.1.val)) := List.mem_map_of_mem (f := fun p : Tr × Nat => (p.1.key, p.1.val)) hpS
      rw [h3] at h4
      obtain ⟨e, he, h5⟩ := List.mem_map.1 h4
      injection h5 with h5 _
      rw [← h5]
      exact (partM_mem.1 he).2
    rcases List.mem_append.1 h with h | h
    · have hb := key l 0 hl h
      have ih := lvs_dp l (d + 1) _ p hl (hp.part hd 0) (hs.filter _) h
      show p.2 = d + (if bitN p.1.key d = 0 then Tr.dp p.1.key (d + 1) l + 1 else _)
      rw [if_pos hb]; omega
    · have hb := key r 1 hr h
      have ih := lvs_dp r (d + 1) _ p hr (hp.part hd 1) (hs.filter _) h
      show p.2 = d + (if bitN p.1.key d = 0 then _ else Tr.dp p.1.key (d + 1) r + 1)
      rw [if_neg (by omega)]; omega
theorem depL_get {T : Tr} {m : List En} (hT : T.er = grow 0 m) (hp : Pm 0 m) (hs : Srt m) (i : Nat) (h : i < (depL T).length) (h' : i < m.length) : (depL T)[i] = T.dp m[i].k 0 := by
  have hl : i < (T.lvs 0).length := by simpa [depL] using h
  have h1 := lvs_get hT hp hs i hl h'
  have h2 := lvs_dp T 0 m _ hT hp hs (List.getElem_mem hl)
  have e : (depL T)[i] = (T.lvs 0)[i].2 := by simp [depL]
  rw [e, h2, h1.1, Nat.zero_add]
def depR (m : List En) (k : List UInt8) : Nat := m.foldl (fun a e => if e.k ≠ k then max a (comN e.k k + 1) else a) 0
theorem depR_snoc {m : List En} {k : List UInt8} {i : Nat} (h : i < m.length) : depR (m.take (i + 1)) k = if m[i].k ≠ k then max (depR (m.take i) k) (comN m[i].k k + 1) else depR (m.take i) k := by
  unfold depR
  rw [List.take_succ_eq_append_getElem h, List.foldl_append]; rfl
theorem depF_ge : ∀ (m : List En) (k : List UInt8) (a : Nat), a ≤ m.foldl (fun a e => if e.k ≠ k then max a (comN e.k k + 1) else a) a ∧ ∀ e ∈ m, e.k ≠ k → comN e.k k + 1 ≤ m.foldl (fun a e => if e.k ≠ k then max a (comN e.k k + 1) else a) a
  | [], _, a => ⟨Nat.le_refl _, fun _ h => by cases h⟩
  | x :: m, k, a => by
    have ih := depF_ge m k (if x.k ≠ k then max a (comN x.k k + 1) else a)
    rw [List.foldl_cons]
    refine ⟨Nat.le_trans ?_ ih.1, fun e he hne => ?_⟩
    · split
      · omega
      · exact Nat.le_refl _
    · rcases List.mem_cons.1 he with rfl | he
      · refine Nat.le_trans ?_ ih.1
        rw [if_pos hne]; omega
      · exact ih.2 e he hne
theorem depF_le : ∀ (m : List En) (k : List UInt8) (a n : Nat), a ≤ n → (∀ e ∈ m, e.k ≠ k → comN e.k k + 1 ≤ n) → m.foldl (fun a e => if e.k ≠ k then max a (comN e.k k + 1) else a) a ≤ n
  | [], _, a, n, h, _ => h
  | x :: m, k, a, n, h, h2 => by
    rw [List.foldl_cons]
    refine depF_le m k _ n ?_ fun e he => h2 e (List.mem_cons_of_mem _ he)
    split
    · rename_i hne
      have := h2 x List.mem_cons_self hne
      omega
    · exact h
theorem depR_le (m : List En) (k : List UInt8) : depR m k ≤ 257 := depF_le m k 0 257 (by omega) fun e _ _ => by have := comN_le e.k k; omega
theorem comN_self (k : List UInt8) (hk : k.length = 32) : comN k k = 256 := by
  have := (comN_full hk hk).2 rfl
  have := comN_le k k
  omega
theorem depR_eq {T : Tr} {m : List En} (hT : T.er = grow 0 m) (hp : Pm 0 m) {e0 : En} (he0 : e0 ∈ m) : depR m e0.k = T.dp e0.k 0 := by
  have hk := hp.kl e0 he0
  have hfit : T.er.fit 0 := hT ▸ grow_fit hp
  have hdp := Tr.dp_fit (k := e0.k) _ 0 T rfl hfit (by omega)
  have hself := comN_self e0.k hk
  refine Nat.le_antisymm ?_ ?_
  · refine depF_le m e0.k 0 _ (Nat.zero_le _) fun e he hne => ?_
    rcases Nat.lt_or_ge (comN e.k e0.k) (T.dp e0.k 0) with h | h
    · exact h
    · exfalso
      have h1 := at_end (k := e0.k) hT hp
      rw [at_under _ (by omega)] at h1
      have h2 : e ∈ underM m e0.k (T.dp e0.k 0) := underM_mem.2 ⟨he, h⟩
      have h3 : e0 ∈ underM m e0.k (T.dp e0.k 0) := underM_mem.2 ⟨he0, by omega⟩
      match hu : underM m e0.k (T.dp e0.k 0), h1 with
      | [], _ => rw [hu] at h2; cases h2
      | [x], _ =>
        rw [hu] at h2 h3
        rw [List.mem_singleton.1 h2, List.mem_singleton.1 h3] at hne
        exact hne rfl
      | _ :: _ :: _, h => simp at h
  · rcases Nat.eq_zero_or_pos (T.dp e0.k 0) with h0 | h0
    · omega
    · have h1 := at_len (k := e0.k) hT hp (i := T.dp e0.k 0 - 1) (by omega)
      have hpm := (at_er (k := e0.k) hT hp (T.dp e0.k 0 - 1) (by omega)).2
      rw [at_under _ (by omega)] at h1 hpm
      have : ∃ e ∈ underM m e0.k (T.dp e0.k 0 - 1), e.k ≠ e0.k := by
        match hu : underM m e0.k (T.dp e0.k 0 - 1), h1.1 with
        | a :: b :: l, _ =>
          have hd := hpm.dis
          rw [hu] at hd
          have hab := (List.pairwise_cons.1 hd).1 b (by simp)
          by_cases ha : a.k = e0.k
          · exact ⟨b, by simp, fun hb => hab (by rw [ha, hb])⟩
          · exact ⟨a, by simp, ha⟩
      obtain ⟨e, he, hne⟩ := this
      have h2 := underM_mem.1 he
      have h3 := (depF_ge m e0.k 0).2 e h2.1 hne
      have h4 : depR m e0.k = m.foldl (fun a e => if e.k ≠ e0.k then max a (comN e.k e0.k + 1) else a) 0 := rfl
      omega
theorem rankM_snoc {m : List En} {k : List UInt8} {i : Nat} (h : i < m.length) : rankM (m.take (i + 1)) k = rankM (m.take i) k + if num m[i].k < num k then 1 else 0 := by
  rw [List.take_succ_eq_append_getElem h, rankM_append]
  congr 1
  by_cases hn : num m[i].k < num k <;> simp [rankM, hn]

theorem Depths_c {X : Nat → Prop} {w : World} {bits : Int} {T : Tr} (hX : ∀ b, X b → b < w.heap.size) (hf0 : Rob X (TrA bits T) w) (hfit : T.er.fit 0) (hcn : T.er.cnt ≤ 1000000) :
    Ret Tryd.prog 27 [T.ptr].toArray w fun v w' => Out Nil w w' ∧ Rob X (SlD v (depL T)) w' := by
  refine Ret.of_body (N := 15) Tryd.func27 rfl rfl (by simp) ?_
  have H := St.begin hX
  replace H := H.add (rob0 hf0)
  have hln := lvs_len T 0
  refine WE.seq_reg ?_
  refine WL.as rfl rfl ?_
  refine WL.nil ?_
  refine WE.seq_reg ?_
  refine WL.alloc H rfl TrydT.ze61 rfl ?_
  intro b3 w1 H
  refine WL.nil ?_
  refine WE.seq ?_
  refine WE.seq_reg ?_
  refine WL.mv rfl rfl ?_
  refine WL.call TrydT.fb36 rfl (each_c (T := T) H.yylt  ) ?_
  rintro _ w2 ⟨bev7, rfl, hO, hR⟩
  replace H := (H.out hO).add hR
  refine WL.nil ?_
  refine WE.block ?_
  replace H := H.nilOsl 3 1
  replace H := H.pushNil
  refine WE.rangeF (α := Value) (fun i x => True) (fun i x => []) (fun i x => [Ent.osl w.heap.size x 3 1 i (((depL T).take i).map intC), Ent.blk b3 61 [x]]) (fun i x => [fun w => RdA w ⟨bev7, 0, none⟩ [T.ptr], TrA bits T]) (fun _ _ => False) (fun _ _ => []) (fun _ _ => []) (fun _ _ => []) (.slice none 0 0) H rfl TrydT.fb60 (fun W0 hO => (each1_seq (T := T) (bits := bits) (H.ccLt hO) (H.ccRob0 hO 0 rfl) (H.ccRob0 hO 1 rfl) hfit).seqV) (lvV_len) ⟨trivial, rfl, rfl, rfl⟩ ?_ ?_ ?_
  · skip
    intro i v xs_ l_ d_ o_ T_ sc_ w3 hi_ hR_ hV_
    obtain ⟨p, hLp, rfl⟩ := hV_
    refine WE.reg ?_
    refine WL.as rfl rfl ?_
    refine WL.nil ?_
    refine ⟨rfl, rfl, rfl, ?_⟩
    intro w4 H
    have hil := (List.getElem?_eq_some_iff.1 hLp).1
    refine WE.block ?_
    refine WE.reg ?_
    refine WL.load1 rfl TrydT.ag61 rfl rfl (by exact Blk.segAt (H.l 1 rfl) (Seg.all _) (by rfl)) ?_
    refine WL.mv rfl rfl ?_
    refine WL.buildSliceF (l0 := [.int .i64 (0)]) H rfl TrydT.st61 (by decide) (zrow_one _ _) (Fl.cons rfl (by rfl) (by (simp only [kc_length, kw_length, List.length_replicate, List.length_append, List.length_cons, List.length_nil, cutI_length, shaOf_length, dig_length, valD_length, rootM_length]; done)) Laid.head Fl.nil) rfl ?_
    intro b12 w5 H
    refine WL.append (m := 1) H 1 TrydT.st61 (by decide) rfl rfl rfl (SlC.of_blk (n := 1) (H.l 0 rfl) rfl) (one_sing rfl) (by omega) (by decide) rfl ?_
    intro v13 w6 H
    replace H := H.forget 0
    have hv13 := own_one (H.l 0 rfl)
    refine WL.storeL H 1 rfl rfl rfl (new := [v13]) (cells_one hv13) (by exact TrydT.sz61) (one_sing hv13) (Laid.at (Laid.all (by (simp only [kc_length, kw_length, List.length_replicate, List.length_append, List.length_cons, List.length_nil, cutI_length, shaOf_length, dig_length, valD_length, rootM_length]; done))) (by rfl)) rfl ?_
    intro w7 H
    refine WL.nil ?_
    replace H := H.conv (L' := [Ent.osl w.heap.size v13 3 1 (i + 1) (((depL T).take (i + 1)).map intC), Ent.blk b3 61 [v13], Ent.obj l_ o_, Ent.obj d_ (.deferred (some [])), Ent.sn T_ w4]) (by rw [depL_snoc hLp]; rfl)
    replace H := H.drop (fun p hp => List.mem_cons_of_mem _ hp)
    exact ⟨v13, trivial, H⟩
  · skip
    intro v d_0 w8 hR_ H
    refine WE.seq_reg ?_
    refine WL.load1 rfl TrydT.ag61 rfl rfl (by exact Blk.segAt (H.l 2 rfl) (Seg.all _) (by rfl)) ?_
    refine WL.as rfl rfl ?_
    refine WL.nil ?_
    refine WE.ret ?_
    (obtain ⟨w9, hl_0, H⟩ := H.unmark 0 rfl)
    refine ⟨[_], _, (hl_0 _ (.nil _)), ⟨rfl, trivial⟩, ?_⟩
    refine ⟨H.toOut0, (by exact (rob_own hX (H.l 0 rfl)).imp fun _ h => (by have h_ := SlC.of_own h; rw [hln, ← depL_len T, List.take_length] at h_; exact h_))⟩
  · skip
    intro e_ v d_0 w10 he_ hR_ H
    exact hR_.elim

theorem refRank_c {X : Nat → Prop} {w : World} {s : Value} {m : List En} {k : List UInt8} (hX : ∀ b, X b → b < w.heap.size) (hf0 : Rob X (SlE s m) w) (hkl : KL m) (hlen : m.length ≤ 1000000) (hk : k.length = 32) :
    Ret Tryd.prog 16 [s, .agg (kc k).toArray].toArray w fun v w' => v = .int .i64 ((rankM m k : Nat) : Int) ∧ Out Nil w w' := by
  refine Ret.of_body (N := 24) Tryd.func16 rfl rfl (by simp) ?_
  have H := St.begin hX
  replace H := H.add (rob0 hf0)
  refine WE.seq_reg ?_
  refine WL.box (l := kc k) H rfl (by rfl) rfl ?_
  intro b3 w1 H
  refine WL.as rfl rfl ?_
  refine WL.nil ?_
  refine WE.seq_reg ?_
  refine WL.as rfl rfl ?_
  refine WL.nil ?_
  refine WE.seq ?_
  refine WE.seq_reg ?_
  refine WL.as rfl rfl ?_
  refine WL.nil ?_
  refine WE.block ?_
  refine WE.loop (α := Nat) [5, 6, 7, 8, 9, 10, 11, 12, 13, 14, 15, 16, 17, 18, 19, 20, 21, 22] (fun i => [(5, .int .i64 ((rankM (m.take i) k : Nat) : Int)), (6, .int .i64 (i : Int))]) (fun i wl => i ≤ m.length ∧ St X w wl [] [Ent.blk b3 31 (kc k)] [SlE s m]) (fun i => m.length - i) 0 ⟨rfl, rfl, trivial⟩ ⟨Nat.zero_le _, H⟩ ?_
  intro i γ0 w2 hI
  try dsimp only at hI
  obtain ⟨hi, H⟩ := hI
  refine WE.seq ?_
  refine WE.seq_reg ?_
  refine WL.mv rfl rfl ?_
  refine WL.mv rfl rfl ?_
  refine WL.pv (PV.lenS (H.p 0 rfl : SlE s m _) TrydT.sl22 rfl) rfl ?_
  refine WL.pv (PV.lss rfl rfl rfl) rfl ?_
  refine WL.nil ?_
  refine WE.cond rfl (fun hc10 => ?_) (fun hc10 => ?_)
  · skip
    try simp only [decide_eq_true_eq, decide_eq_false_iff_not, ne_eq, Decidable.not_not, Bool.not_eq_true', Bool.not_eq_false', Bool.and_eq_true, Bool.or_eq_true, Bool.not_not, Bool.and_eq_false_iff, Bool.or_eq_false_iff, Int.not_lt, Int.not_le] at hc10
    have hlt : i < m.length := by omega
    have hkk := hkl _ (List.getElem_mem hlt)
    have hS := rankM_snoc (k := k) hlt
    have hrl : rankM (m.take i) k ≤ i := Nat.le_trans (rankM_le _ _) (by simp; omega)
    refine WE.skip ?_
    refine WE.seq ?_
    refine WE.block ?_
    refine WE.seq_draw (.take 0 (.take 1 (.take 2 (.take 3 (.take 4 (.take 5 (.pick1 6 (.take 7 .done)))))))) TrydT.mixed (by kernel_rfl) ?_
    replace H := H.out (Out.drew _)
    refine WP.mv rfl rfl rfl ?_
    refine WP.mv rfl rfl rfl ?_
    refine WP.take_pure rfl rfl (PV.idxS rfl (H.p 0 rfl : SlE s m _) TrydT.sl22 TrydT.sz34 rfl rfl (by omega) (by omega)) ?_
    refine WP.take_pure rfl rfl (PV.fieldAddrA rfl TrydT.fd34_0 rfl) ?_
    refine WP.readA rfl rfl rfl TrydT.ag31 rfl (SlE.rdk (H.p 0 rfl : SlE s m _) hkl i hlt) (by (rw [TrydT.sz31]; refine congrArg some ?_; (simp only [kc_length, kw_length, List.length_replicate, List.length_append, List.length_cons, List.length_nil, cutI_length, shaOf_length, dig_length, valD_length, rootM_length]; omega))) ?_
    refine WP.readA rfl rfl rfl TrydT.ag31 rfl (by exact Blk.segAt (H.l 0 rfl) (Seg.all _) (by rfl)) (by (rw [TrydT.sz31]; refine congrArg some ?_; (simp only [kc_length, kw_length, List.length_replicate, List.length_append, List.length_cons, List.length_nil, cutI_length, shaOf_length, dig_length, valD_length, rootM_length]; omega))) ?_
    refine WP.pick1 rfl ?_
    refine WL.call TrydT.fb38 rfl (refCompare_c (k := m[i].k) (l := k) H.yylt  (by assumption) (by assumption)) ?_
    rintro _ w3 ⟨rfl, hO⟩
    replace H := H.out hO
    refine WL.nil ⟨(List.forall_mem_cons.2 ⟨(by exact (fun h => absurd (show waits _ 6 5 = false from h) (by decide +kernel))), (List.forall_mem_cons.2 ⟨(by exact (fun h => absurd (show waits _ 6 4 = false from h) (by decide +kernel))), (fun _ h => by cases h)⟩)⟩), ?_⟩
    refine WP.take_pure rfl rfl (PV.lss rfl rfl rfl) ?_
    refine WP.done ?_
    refine WE.cond rfl (fun hc20 => ?_) (fun hc20 => ?_)
    · skip
      try simp only [decide_eq_true_eq, decide_eq_false_iff_not, ne_eq, Decidable.not_not, Bool.not_eq_true', Bool.not_eq_false', Bool.and_eq_true, Bool.or_eq_true, Bool.not_not, Bool.and_eq_false_iff, Bool.or_eq_false_iff, Int.not_lt, Int.not_le] at hc20
      have hnl := cmpI_neg.1 (by exact hc20)
      rw [if_pos hnl] at hS
      have hQ : Value.int .i64 ((rankM (m.take i) k + 1 : Nat) : Int) = .int .i64 ((rankM (m.take (i + 1)) k : Nat) : Int) := by rw [hS]
      refine WE.reg ?_
      refine WL.mv rfl rfl ?_
      refine WL.pv (PV.eq (v' := .int .i64 ((rankM (m.take i) k + 1 : Nat) : Int)) (PV.add64 rfl rfl rfl (by omega) (by omega)) (by rfl)) rfl ?_
      refine WL.as rfl rfl ?_
      refine WL.nil ?_
      refine WE.reg ?_
      refine WL.mv rfl rfl ?_
      refine WL.pv (PV.add64 rfl rfl rfl (by omega) (by omega)) rfl ?_
      refine WL.as rfl rfl ?_
      refine WL.nil ?_
      exact ⟨i + 1, (by repeat (first | with_reducible exact Off.refl _ _ | refine Off.upd rfl ?_ | refine Off.setAll rfl ?_ | refine Off.forget' rfl ?_)), ⟨hQ, rfl, trivial⟩, rfl, ⟨by omega, H⟩, (by omega)⟩
    · skip
      try simp only [decide_eq_true_eq, decide_eq_false_iff_not, ne_eq, Decidable.not_not, Bool.not_eq_true', Bool.not_eq_false', Bool.and_eq_true, Bool.or_eq_true, Bool.not_not, Bool.and_eq_false_iff, Bool.or_eq_false_iff, Int.not_lt, Int.not_le] at hc20
      have hnl : ¬ num m[i].k < num k := fun h => by have h_ := cmpI_neg.2 h; omega
      rw [if_neg hnl] at hS
      have hQ : Value.int .i64 ((rankM (m.take i) k : Nat) : Int) = .int .i64 ((rankM (m.take (i + 1)) k : Nat) : Int) := by rw [hS, Nat.add_zero]
      refine WE.skip ?_
      refine WE.reg ?_
      refine WL.mv rfl rfl ?_
      refine WL.pv (PV.add64 rfl rfl rfl (by omega) (by omega)) rfl ?_
      refine WL.as rfl rfl ?_
      refine WL.nil ?_
      exact ⟨i + 1, (by repeat (first | with_reducible exact Off.refl _ _ | refine Off.upd rfl ?_ | refine Off.setAll rfl ?_ | refine Off.forget' rfl ?_)), ⟨hQ, rfl, trivial⟩, rfl, ⟨by omega, H⟩, (by omega)⟩
  · skip
    try simp only [decide_eq_true_eq, decide_eq_false_iff_not, ne_eq, Decidable.not_not, Bool.not_eq_true', Bool.not_eq_false', Bool.and_eq_true, Bool.or_eq_true, Bool.not_not, Bool.and_eq_false_iff, Bool.or_eq_false_iff, Int.not_lt, Int.not_le] at hc10
    have hke : m.take i = m := List.take_of_length_le (by omega)
    refine WE.exit ?_
    refine WE.seq_reg ?_
    refine WL.mv rfl rfl ?_
    refine WL.as rfl rfl ?_
    refine WL.nil ?_
    refine WE.ret ?_
    refine ⟨[_], _, .nil _, ⟨rfl, trivial⟩, ?_⟩
    refine ⟨?_, H.toOut0⟩
    rw [hke]; rfl

theorem refDepth_c {X : Nat → Prop} {w : World} {s : Value} {m : List En} {k : List UInt8} (hX : ∀ b, X b → b < w.heap.size) (hf0 : Rob X (SlE s m) w) (hkl : KL m) (hlen : m.length ≤ 1000000) (hk : k.length = 32) :
    Ret Tryd.prog 29 [s, .agg (kc k).toArray].toArray w fun v w' => v = .int .i64 ((depR m k : Nat) : Int) ∧ Out Nil w w' := by
  refine Ret.of_body (N := 31) Tryd.func29 rfl rfl (by simp) ?_
  have H := St.begin hX
  replace H := H.add (rob0 hf0)
  refine WE.seq_reg ?_
  refine WL.box (l := kc k) H rfl (by rfl) rfl ?_
  intro b3 w1 H
  refine WL.as rfl rfl ?_
  refine WL.nil ?_
  refine WE.seq_reg ?_
  refine WL.as rfl rfl ?_
  refine WL.nil ?_
  refine WE.seq ?_
  refine WE.seq_reg ?_
  refine WL.as rfl rfl ?_
  refine WL.nil ?_
  refine WE.block ?_
  refine WE.loop (α := Nat) [5, 6, 7, 8, 9, 10, 11, 12, 13, 14, 15, 16, 17, 18, 19, 20, 21, 22, 23, 24, 25, 26, 27, 28, 29] (fun i => [(5, .int .i64 ((depR (m.take i) k : Nat) : Int)), (6, .int .i64 (i : Int))]) (fun i wl => i ≤ m.length ∧ St X w wl [] [Ent.blk b3 31 (kc k)] [SlE s m]) (fun i => m.length - i) 0 ⟨rfl, rfl, trivial⟩ ⟨Nat.zero_le _, H⟩ ?_
  intro i γ0 w2 hI
  try dsimp only at hI
  obtain ⟨hi, H⟩ := hI
  refine WE.seq ?_
  refine WE.seq_reg ?_
  refine WL.mv rfl rfl ?_
  refine WL.mv rfl rfl ?_
  refine WL.pv (PV.lenS (H.p 0 rfl : SlE s m _) TrydT.sl22 rfl) rfl ?_
  refine WL.pv (PV.lss rfl rfl rfl) rfl ?_
  refine WL.nil ?_
  refine WE.cond rfl (fun hc10 => ?_) (fun hc10 => ?_)
  · skip
    try simp only [decide_eq_true_eq, decide_eq_false_iff_not, ne_eq, Decidable.not_not, Bool.not_eq_true', Bool.not_eq_false', Bool.and_eq_true, Bool.or_eq_true, Bool.not_not, Bool.and_eq_false_iff, Bool.or_eq_false_iff, Int.not_lt, Int.not_le] at hc10
    have hlt : i < m.length := by omega
    have hkk := hkl _ (List.getElem_mem hlt)
    have hS := depR_snoc (k := k) hlt
    have hcl := comN_le m[i].k k
    refine WE.skip ?_
    refine WE.seq ?_
    refine WE.block ?_
    refine WE.seq_draw (.take 0 (.take 1 (.take 2 (.take 3 (.take 4 (.take 5 (.take 6 .done))))))) TrydT.mixed (by kernel_rfl) ?_
    replace H := H.out (Out.drew _)
    refine WP.mv rfl rfl rfl ?_
    refine WP.mv rfl rfl rfl ?_
    refine WP.take_pure rfl rfl (PV.idxS rfl (H.p 0 rfl : SlE s m _) TrydT.sl22 TrydT.sz34 rfl rfl (by omega) (by omega)) ?_
    refine WP.take_pure rfl rfl (PV.fieldAddrA rfl TrydT.fd34_0 rfl) ?_
    refine WP.readA rfl rfl rfl TrydT.ag31 rfl (SlE.rdk (H.p 0 rfl : SlE s m _) hkl i hlt) (by (rw [TrydT.sz31]; refine congrArg some ?_; (simp only [kc_length, kw_length, List.length_replicate, List.length_append, List.length_cons, List.length_nil, cutI_length, shaOf_length, dig_length, valD_length, rootM_length]; omega))) ?_
    refine WP.readA rfl rfl rfl TrydT.ag31 rfl (by exact Blk.segAt (H.l 0 rfl) (Seg.all _) (by rfl)) (by (rw [TrydT.sz31]; refine congrArg some ?_; (simp only [kc_length, kw_length, List.length_replicate, List.length_append, List.length_cons, List.length_nil, cutI_length, shaOf_length, dig_length, valD_length, rootM_length]; omega))) ?_
    refine WP.take_pure rfl rfl (PV.neqB rfl TrydT.ar31 TrydT.in5 TrydT.sz5 (by kernel_rfl) rfl rfl (by assumption) (by assumption)) ?_
    refine WP.done ?_
    refine WE.cond rfl (fun hc19 => ?_) (fun hc19 => ?_)
    · skip
      try simp only [decide_eq_true_eq, decide_eq_false_iff_not, ne_eq, Decidable.not_not, Bool.not_eq_true', Bool.not_eq_false', Bool.and_eq_true, Bool.or_eq_true, Bool.not_not, Bool.and_eq_false_iff, Bool.or_eq_false_iff, Int.not_lt, Int.not_le] at hc19
      have hne : m[i].k ≠ k := by exact hc19
      rw [if_pos hne] at hS
      have hQ : Value.int .i64 ((max (depR (m.take i) k) (comN m[i].k k + 1) : Nat) : Int) = .int .i64 ((depR (m.take (i + 1)) k : Nat) : Int) := by rw [hS]
      refine WE.draw (.take 0 (.take 1 (.take 2 (.take 3 (.take 4 (.take 5 (.take 6 (.pick1 7 (.take 8 (.take 9 (.take 10 .done))))))))))) TrydT.mixed (by kernel_rfl) ?_
      replace H := H.out (Out.drew _)
      refine WP.mv rfl rfl rfl ?_
      refine WP.mv rfl rfl rfl ?_
      refine WP.mv rfl rfl rfl ?_
      refine WP.take_pure rfl rfl (PV.idxS rfl (H.p 0 rfl : SlE s m _) TrydT.sl22 TrydT.sz34 rfl rfl (by omega) (by omega)) ?_
      refine WP.take_pure rfl rfl (PV.fieldAddrA rfl TrydT.fd34_0 rfl) ?_
      refine WP.readA rfl rfl rfl TrydT.ag31 rfl (SlE.rdk (H.p 0 rfl : SlE s m _) hkl i hlt) (by (rw [TrydT.sz31]; refine congrArg some ?_; (simp only [kc_length, kw_length, List.length_replicate, List.length_append, List.length_cons, List.length_nil, cutI_length, shaOf_length, dig_length, valD_length, rootM_length]; omega))) ?_
      refine WP.readA rfl rfl rfl TrydT.ag31 rfl (by exact Blk.segAt (H.l 0 rfl) (Seg.all _) (by rfl)) (by (rw [TrydT.sz31]; refine congrArg some ?_; (simp only [kc_length, kw_length, List.length_replicate, List.length_append, List.length_cons, List.length_nil, cutI_length, shaOf_length, dig_length, valD_length, rootM_length]; omega))) ?_
      refine WP.pick1 rfl ?_
      refine WL.call TrydT.fb55 rfl (refCommon_c (a := m[i].k) (b := k) H.yylt  (by assumption) (by assumption)) ?_
      rintro _ w3 ⟨rfl, hO⟩
      replace H := H.out hO
      refine WL.nil ⟨(List.forall_mem_cons.2 ⟨(by exact (fun h => absurd (show waits _ 7 6 = false from h) (by decide +kernel))), (List.forall_mem_cons.2 ⟨(by exact (fun h => absurd (show waits _ 7 5 = false from h) (by decide +kernel))), (fun _ h => by cases h)⟩)⟩), ?_⟩
      refine WP.take_pure rfl rfl (PV.eq (v' := .int .i64 ((comN m[i].k k + 1 : Nat) : Int)) (PV.add64 rfl rfl rfl (by omega) (by omega)) (by rfl)) ?_
      refine WP.take_pure rfl rfl (PV.eq (v' := .int .i64 ((max (depR (m.take i) k) (comN m[i].k k + 1) : Nat) : Int)) (PV.maxI rfl rfl) (by (congr 1; omega))) ?_
      refine WP.as rfl rfl rfl ?_
      refine WP.done ?_
      refine WE.reg ?_
      refine WL.mv rfl rfl ?_
      refine WL.pv (PV.add64 rfl rfl rfl (by omega) (by omega)) rfl ?_
      refine WL.as rfl rfl ?_
      refine WL.nil ?_
      exact ⟨i + 1, (by repeat (first | with_reducible exact Off.refl _ _ | refine Off.upd rfl ?_ | refine Off.setAll rfl ?_ | refine Off.forget' rfl ?_)), ⟨hQ, rfl, trivial⟩, rfl, ⟨by omega, H⟩, (by omega)⟩
    · skip
      try simp only [decide_eq_true_eq, decide_eq_false_iff_not, ne_eq, Decidable.not_not, Bool.not_eq_true', Bool.not_eq_false', Bool.and_eq_true, Bool.or_eq_true, Bool.not_not, Bool.and_eq_false_iff, Bool.or_eq_false_iff, Int.not_lt, Int.not_le] at hc19
      have hne : m[i].k = k := by exact hc19
      rw [if_neg (fun h => h hne)] at hS
      have hQ : Value.int .i64 ((depR (m.take i) k : Nat) : Int) = .int .i64 ((depR (m.take (i + 1)) k : Nat) : Int) := by rw [hS]
      refine WE.skip ?_
      refine WE.reg ?_
      refine WL.mv rfl rfl ?_
      refine WL.pv (PV.add64 rfl rfl rfl (by omega) (by omega)) rfl ?_
      refine WL.as rfl rfl ?_
      refine WL.nil ?_
      exact ⟨i + 1, (by repeat (first | with_reducible exact Off.refl _ _ | refine Off.upd rfl ?_ | refine Off.setAll rfl ?_ | refine Off.forget' rfl ?_)), ⟨hQ, rfl, trivial⟩, rfl, ⟨by omega, H⟩, (by omega)⟩
  · skip
    try simp only [decide_eq_true_eq, decide_eq_false_iff_not, ne_eq, Decidable.not_not, Bool.not_eq_true', Bool.not_eq_false', Bool.and_eq_true, Bool.or_eq_true, Bool.not_not, Bool.and_eq_false_iff, Bool.or_eq_false_iff, Int.not_lt, Int.not_le] at hc10
    have hke : m.take i = m := List.take_of_length_le (by omega)
    refine WE.exit ?_
    refine WE.seq_reg ?_
    refine WL.mv rfl rfl ?_
    refine WL.as rfl rfl ?_
    refine WL.nil ?_
    refine WE.ret ?_
    refine ⟨[_], _, .nil _, ⟨rfl, trivial⟩, ?_⟩
    refine ⟨?_, H.toOut0⟩
    rw [hke]; rfl

end Go.Sp.Tryd

