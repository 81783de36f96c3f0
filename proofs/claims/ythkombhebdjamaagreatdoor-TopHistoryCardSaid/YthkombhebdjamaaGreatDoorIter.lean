/- Part of the proof of this claim: walks through the program's functions and the plain laws that they need, printed by a program of this session. -/
import Derived.Test.YthkombhebdjamaaGreatDoorWords
import Derived.RangeFuncIn
import Derived.RangeFuncRecord
namespace Go.Sp
open Go.RowKit
def eQ (P : Program) (f : Value) (xs : List Value) (w : World) (R : Value → World → Prop) : Prop :=
 (∃ (g : FuncId) (fn : Func) (fs cs : List Value), f = .func (.func g) fs.toArray cs.toArray ∧ Body P g fn ∧ bC P g (fs ++ xs ++ cs).toArray w R) ∨
 (∃ (l : Nat) (fn : FuncId) (tmps : Array Value) (assign body : Code), f = .func (.yield l) #[] #[] ∧ (Instr.yield l xs.toArray).run P w = .ok (.round l fn tmps assign body) w ∧
  RoundIn (FW none) 0 P l fn tmps assign body w (fun e w' => ∃ v, e = .returned v ∧ R v w'))
section
variable {P : Program} {w : World} {R R' : Value → World → Prop}
theorem eQ.jL {g : FuncId} {fn : Func} {fs cs xs : List Value} (hb : Body P g fn) (h : bC P g (fs ++ xs ++ cs).toArray w R) : eQ P (.func (.func g) fs.toArray cs.toArray) xs w R :=
 .inl ⟨g, fn, fs, cs, rfl, hb, h⟩
def z7 (f : Value) : Prop := (∃ g a b, f = .func (.func g) a b) ∨ ∃ l a b, f = .func (.yield l) a b
end
section
variable {r : Option Nat} {P : Program} {N : Nat} {σ : Env} {ds : List Deferred} {w : World} {ops : Array Oper} {rest : List Oper} {K : Env → List Deferred → World → Prop}
theorem WL.iW {dst : Option Tmp} {x : Operand} {f : Value} {xs : List Operand} {qV : Array TypeId} {ty : TypeId} {pos : String} {after : Array Edge} {guard : Option (Nat × Bool)} {R : Value → World → Prop}
  (hx : ev σ x = f) (hw : cH ops σ ⟨dst, .call ⟨.value x, xs.toArray, qV⟩, ty, pos, after, guard⟩ = true)
  (hc : eQ P f (xs.map (ev σ)) w R)
  (k : ∀ v w'', R v w'' → WL r P N ops rest K (dD N σ dst v) ds w'') : WL r P N ops (⟨dst, .call ⟨.value x, xs.toArray, qV⟩, ty, pos, after, guard⟩ :: rest) K σ ds w := by
 rcases hc with ⟨g, fn, fs, cs, h1, h2, h3⟩ | ⟨l, fn, tmps, assign, body, h1, h2, h3⟩
 ·
  exact WL.rD h2 (hx.trans h1) hw h3 k
 ·
  intro a ha
  unfold wpListIn
  rw [kN ha, hw]
  refine ⟨fun _ _ => trivial, ?_⟩
  have hrun : (execOp (ev σ) ⟨dst, .call ⟨.value x, xs.toArray, qV⟩, ty, pos, after, guard⟩).run P w = .ok (.round l fn tmps assign body) w := by
   have e : (xs.toArray.map (ev σ)) = (xs.map (ev σ)).toArray := by simp
   simp only [execOp, resolve]
   simp [Deferred.ofValue, hx, h1, invoke, h2]
  rw [gX rfl, ha.eval, hrun]
  refine ⟨fun h => (by cases h), ?_⟩
  refine RoundIn.mono (F := FW r) (n := 0) (show RoundIn (FW r) 0 P l fn tmps assign body w _ from h3) ?_
  rintro e w'' ⟨v, rfl, hR⟩
  exact k v w'' hR _ (ha.put _ _)
end
def aP.set (C : Nat → Prop) : aP where
 fp := C
 ok := fun w => ∀ b, C b → b < w.heap.size
 loc := fun w w' h hb b hc => by
  have h1 := hb b hc
  have h2 := h b hc
  rcases Nat.lt_or_ge b w'.heap.size with h3 | h3
  ·
   exact h3
  ·
   rw [Array.getElem?_eq_none h3, Array.getElem?_eq_getElem h1] at h2; cases h2
 lt := fun _ h => h
def aP.sn (T : Nat → Prop) (W : World) : aP where
 fp := T
 ok := fun w => ∀ b, T b → b < w.heap.size ∧ w.heap[b]? = W.heap[b]?
 loc := fun w w' h hb b hc => by
  have h1 := hb b hc
  have h2 := h b hc
  rcases Nat.lt_or_ge b w'.heap.size with h3 | h3
  ·
   exact ⟨h3, h2.trans h1.2⟩
  ·
   rw [Array.getElem?_eq_none h3, Array.getElem?_eq_getElem h1.1] at h2; cases h2
 lt := fun _ h b hb => (h b hb).1
section
variable {X : Nat → Prop} {w0 w w' : World} {O L : List aP} {Ps : List (World → Prop)}
theorem YY.perm {L' : List aP} (h : L.Perm L') (b : Nat) : YY X O L b ↔ YY X O L' b := by
 unfold YY
 constructor
 ·
  rintro (h1 | h1 | ⟨e, he, h1⟩)
  ·
   exact .inl h1
  ·
   exact .inr (.inl h1)
  ·
   exact .inr (.inr ⟨e, h.mem_iff.1 he, h1⟩)
 ·
  rintro (h1 | h1 | ⟨e, he, h1⟩)
  ·
   exact .inl h1
  ·
   exact .inr (.inl h1)
  ·
   exact .inr (.inr ⟨e, h.mem_iff.2 he, h1⟩)
theorem St.perm {L' : List aP} (H : St X w0 w O L Ps) (h : L.Perm L') : St X w0 w O L' Ps :=
 { H with
  sR := fun e he => H.sR e (h.mem_iff.2 he)
  kF := fun e he => H.kF e (h.mem_iff.2 he)
  iM := (h.pairwise_iff (fun {_ _} hab x hx => hab x hx.symm)).1 H.iM
  iZ := fun p hp => (H.iZ p hp).mono fun b _ hb => (YY.perm h b).2 hb }
theorem St.aAC {J1 : List (World → Prop)} (H : St X w0 w O L Ps) (h : Ps.Perm J1) : St X w0 w O L J1 :=
 { H with iZ := fun p hp => H.iZ p (h.mem_iff.2 hp) }
theorem St.xA {e : aP} (H : St X w0 w O (e :: L) Ps) (h : Out e.fp w w') (e' : aP) (he : e'.ok w') (hf : ∀ b, e'.fp b → e.fp b ∨ w.heap.size ≤ b) : St X w0 w' O (e' :: L) Ps :=
 H.oX (i := 0) rfl h e' he hf
theorem St.yL {e : aP} (H : St X w0 w O (e :: L) Ps) : St X w0 w O L Ps := H.forget 0
end
structure Kept (T C : Nat → Prop) (W0 W W' : World) : Prop where
 os : W'.os = W0.os
 tape : W'.tape = W0.tape
 output : W'.output = W0.output
 size : W0.heap.size ≤ W'.heap.size
 blk : ∀ b, T b → b < W'.heap.size ∧ W'.heap[b]? = W.heap[b]?
 old : ∀ b, b < W0.heap.size → ¬ C b → ¬ T b → W'.heap[b]? = W0.heap[b]?
def U9 (P : Program) (g : FuncId) (fs cs : List Value) (n : Nat) (V : Nat → List Value → World → Prop) (It C : Nat → Prop) (W0 : World) : Prop :=
 ∀ (f : Value) (J : (Nat → Prop) → Nat → World → Prop) (Jx : (Nat → Prop) → World → Prop),
  (∀ T W1, Out It W0 W1 → (∀ b, T b → It b ∨ (W0.heap.size ≤ b ∧ b < W1.heap.size)) → (∀ b, It b → T b) → J T 0 W1) →
  (∀ T i W W', J T i W → Out T W W' → J T i W') →
  (∀ T W W', Jx T W → Out T W W' → Jx T W') →
  (∀ T i xs W W2, i < n → J T i W → Out T W W2 → aJ (· < W.heap.size) (V i xs) W2 →
   eQ P f xs W2 fun v W' => Kept T C W0 W2 W' ∧ ((v = .bool true ∧ J T (i + 1) W') ∨ (v = .bool false ∧ Jx T W'))) →
  z7 f →
  bC P g (fs ++ [f] ++ cs).toArray W0 fun v W' => v = .tuple #[] ∧ ∃ T, J T n W' ∨ Jx T W'
def CC (X : Nat → Prop) (O L : List aP) (w W0 : World) : Nat → Prop := fun b => YY X O L b ∨ (w.heap.size ≤ b ∧ b < W0.heap.size)
def uA (N : Nat) (σ : Env) : List Tmp → List Value → Env
 | t :: ps, v :: vs => uA N (dD N σ (some t) v) ps vs
 | _, _ => σ
theorem mL.uA {N : Nat} : ∀ (ps : List Tmp) (vs : List Value) (σ : Env) (ds : List Deferred) (a : Act), mL N σ ds a →
  mL N (Sp.uA N σ ps vs) ds { tmps := ((ps.zip vs).foldl (fun tmps (p : Tmp × Value) => tmps.setIfInBounds p.1 p.2) a.tmps), defers := a.defers }
 | [], vs, σ, ds, a, h => by simpa [Sp.uA] using h
 | t :: ps, [], σ, ds, a, h => by simpa [Sp.uA] using h
 | t :: ps, v :: vs, σ, ds, a, h => by
  have h1 := mL.uA ps vs _ ds _ (h.put (some t) v)
  simpa [Sp.uA, Act.put] using h1
def aBR (X : Nat → Prop) (w0 : World) {α : Type} (R : α → Prop) (Rx : Exit → α → Prop) (Of : α → List aP) (Lf : α → List aP) (Pf : α → List (World → Prop)) (Ox Lx : Exit → α → List aP) (Px : Exit → α → List (World → Prop)) (bk : List aP) (sc : World → Prop) : EPost
 | .normal, _, _, W' => ∃ x, R x ∧ St X w0 W' (Of x) (Lf x ++ bk) (Pf x ++ [sc])
 | .ret, _, _, W' => ∃ x, Rx .ret x ∧ St X w0 W' (Ox .ret x) (Lx .ret x ++ bk) (Px .ret x ++ [sc])
 | .exit id, _, _, W' => ∃ x, Rx (.exit id) x ∧ St X w0 W' (Ox (.exit id) x) (Lx (.exit id) x ++ bk) (Px (.exit id) x ++ [sc])
 | _, _, _, _ => False
def LZ : Exit → Code
 | .exit id => .exit id
 | _ => .ret
theorem fM {W : World} {l : Nat} (o : Obj) : Out (· = l) W (W.putObj l o) :=
 ⟨rfl, rfl, rfl, by simp, fun b _ hb => World.putObj_heap_other hb⟩
theorem WE.xF {P : Program} {N : Nat} {σ : Env} {ds : List Deferred} {w : World} {α : Type} {g : Operand} {ps : List Tmp} {assign body : Code} {Q : EPost} {X : Nat → Prop} {w0 : World} {O Lr : List aP} {Ps : List (World → Prop)}
  {gf : FuncId} {gfn : Func} {fs cs : List Value} {n : Nat} {V : Nat → List Value → World → Prop} {It : Nat → Prop}
  (R : Nat → α → Prop) (Of Lf : Nat → α → List aP) (Pf : Nat → α → List (World → Prop)) (Rx : Exit → α → Prop) (Ox Lx : Exit → α → List aP) (Px : Exit → α → List (World → Prop)) (x0 : α)
  (H : St X w0 w O (aP.set It :: Lr) Ps) (hg : ev σ g = .func (.func gf) fs.toArray cs.toArray) (hb : Body P gf gfn)
  (R6 : ∀ W0, Out Nil w W0 → U9 P gf fs cs n V It (CC X O Lr w W0) W0) (hV : ∀ i xs W, V i xs W → xs.length = ps.length)
  (h0 : R 0 x0 ∧ O = Of 0 x0 ∧ Lr = Lf 0 x0 ∧ Ps = Pf 0 x0)
  (round : ∀ (i : Nat) (x : α) (xs : List Value) (l d : Nat) (o : Obj) (T : Nat → Prop) (sc : World → Prop) (W : World), i < n → R i x → V i xs W →
   WE (some l) P N assign (fun e σ1 ds1 W' => e = .normal ∧ ds1 = [] ∧ W' = W ∧ ∀ W4, St X w0 W4 (Of i x) (Lf i x ++ [aP.obj l o, aP.obj d (.deferred (some [])), aP.sn T W4]) (V i xs :: (Pf i x ++ [sc])) →
    WE (some l) P N body (aBR X w0 (R (i + 1)) Rx (Of (i + 1)) (Lf (i + 1)) (Pf (i + 1)) Ox Lx Px [aP.obj l o, aP.obj d (.deferred (some [])), aP.sn T W4] sc) σ1 [] W4) (uA N σ ps xs) [] W)
  (done : ∀ x d W', R n x → St X w0 W' (Of n x) (aP.obj d (.deferred (some [])) :: Lf n x) (Pf n x) → Q .normal σ ({ target := .collected d, args := #[] } :: ds) W')
  (stop : ∀ e x d W', (e = .ret ∨ ∃ id, e = .exit id) → Rx e x → St X w0 W' (Ox e x) (aP.obj d (.deferred (some [])) :: Lx e x) (Px e x) → Q e σ ({ target := .collected d, args := #[] } :: ds) W') :
  WE none P N (.rangeFunc g ps.toArray assign body) Q σ ds w := fun a ha => by
 refine wpIn_rangeFunc ?_
 intro fn _
 obtain ⟨rec, kE⟩ : ∃ rec : LoopState → Option Code → Loop, rec = fun st pe => { state := st, pending := pe, fn, tmps := a.tmps, params := ps.toArray, assign, body, defers := w.heap.size } := ⟨_, rfl⟩
 obtain ⟨W1, FI⟩ : ∃ W1, (w.alloc (.deferred (some []))).alloc (.loop (rec .ready none)) = W1 := ⟨_, rfl⟩
 have DT : Out Nil w W1 := by rw [← FI]; exact (Out.alloc _ _).trans (Out.alloc _ _)
 have hsz : W1.heap.size = w.heap.size + 2 := by rw [← FI]; simp
 have hL1 : W1.heap[w.heap.size + 1]? = some (.loop (rec .ready none)) := by
  rw [← FI]; have := World.alloc_heap_new (w.alloc (.deferred (some []))) (.loop (rec .ready none)); rwa [World.size_alloc] at this
 have hK1 : W1.heap[w.heap.size]? = some (.deferred (some [])) := by
  rw [← FI]; exact (Below.heap_alloc _ _ _ (by simp)).trans (World.alloc_heap_new w _)
 have aAY : ∀ b, It b → b < w.heap.size := H.l 0 rfl
 -- what is since the begin
 obtain ⟨sc, hsc⟩ : ∃ sc : World → Prop, sc = fun W => ∀ b, b < w.heap.size → ¬ YY X O Lr b → ¬ It b → W.heap[b]? = w.heap[b]? := ⟨_, rfl⟩
 have hYI : ∀ b, YY X O (aP.set It :: Lr) b ↔ (YY X O Lr b ∨ It b) := fun b => by
  constructor
  ·
   rintro (h | h | ⟨e, he, h⟩)
   ·
    exact .inl (.inl h)
   ·
    exact .inl (.inr (.inl h))
   ·
    cases List.mem_cons.1 he with
    | inl he => subst he; exact .inr h
    | inr he => exact .inl (.inr (.inr ⟨e, he, h⟩))
  ·
   rintro ((h | h | ⟨e, he, h⟩) | h)
   ·
    exact .inl h
   ·
    exact .inr (.inl h)
   ·
    exact .inr (.inr ⟨e, List.mem_cons_of_mem _ he, h⟩)
   ·
    exact .inr (.inr ⟨_, List.mem_cons_self, h⟩)
 have H1 : St X w0 W1 O (aP.set It :: aP.obj (w.heap.size + 1) (.loop (rec .ready none)) :: aP.obj w.heap.size (.deferred (some [])) :: Lr) (Ps ++ [sc]) := by
  have Ha := H.add (p := sc) (by
   rw [hsc]
   intro w' hw' b hb hn hi
   exact hw' b hb fun h => by rcases (hYI b).1 h with h | h <;> contradiction)
  have Hb := Ha.push (Out.alloc w (.deferred (some []))) (aP.obj w.heap.size (.deferred (some []))) (World.alloc_heap_new w _) (fun b hb => by cases hb; exact Nat.le_refl _)
  have Hc := Hb.push (Out.alloc (w.alloc (.deferred (some []))) (.loop (rec .ready none))) (aP.obj (w.heap.size + 1) (.loop (rec .ready none))) (by
   have := World.alloc_heap_new (w.alloc (.deferred (some []))) (.loop (rec .ready none)); rwa [World.size_alloc] at this) (fun b hb => by cases hb; simp)
  rw [FI] at Hc
  refine (Hc.perm ?_).aAC ?_
  ·
   exact (List.Perm.cons _ (List.Perm.swap _ _ _)).trans (List.Perm.swap _ _ _)
  ·
   exact (List.perm_append_singleton sc Ps).symm
 refine ⟨w.heap.size + 1, [{ target := .collected w.heap.size, args := #[] }], W1, { target := .fn (.func gf) cs.toArray, args := (fs ++ [Value.func (.yield (w.heap.size + 1)) #[] #[]]).toArray }, W1, gf,
  (fs ++ [Value.func (.yield (w.heap.size + 1)) #[] #[]] ++ cs).toArray, W1, ?_, ?_, ?_, ?_, (fun h => (by cases h)), ?_⟩
 ·
  rw [← FI, kE]; exact run_enterLoop_outer _ _ _ _ _
 ·
  have e : a.eval g = .func (.func gf) fs.toArray cs.toArray := by rw [ha.eval]; exact hg
  simp only [resolve, e]
  simp [Deferred.ofValue]
  rfl
 ·
  intro _ _; trivial
 ·
  have := fW hb (fs ++ [Value.func (.yield (w.heap.size + 1)) #[] #[]] ++ cs).toArray W1
  simp only [invoke, List.append_toArray]
  exact this
 obtain ⟨J, hJ⟩ : ∃ J : (Nat → Prop) → Nat → World → Prop, J = fun T i W => (∀ b, T b → It b ∨ w.heap.size + 2 ≤ b) ∧ (∀ b, It b → T b) ∧ ∃ x, R i x ∧ St X w0 W (Of i x) (aP.sn T W :: aP.obj (w.heap.size + 1) (.loop (rec .ready none)) :: aP.obj w.heap.size (.deferred (some [])) :: Lf i x) (Pf i x ++ [sc]) := ⟨_, rfl⟩
 obtain ⟨Jx, hJx⟩ : ∃ Jx : (Nat → Prop) → World → Prop, Jx = fun T W => ∃ e x, (e = .ret ∨ ∃ id, e = .exit id) ∧ Rx e x ∧ St X w0 W (Ox e x) (aP.sn T W :: aP.obj (w.heap.size + 1) (.loop (rec .done (some (LZ e)))) :: aP.obj w.heap.size (.deferred (some [])) :: Lx e x) (Px e x ++ [sc]) := ⟨_, rfl⟩
 have x8 := R6 W1 DT (.func (.yield (w.heap.size + 1)) #[] #[]) J Jx
  (by
   intro T Wp hop hT hIT
   rw [hJ]
   refine ⟨fun b hb => (hT b hb).imp id fun h => by omega, hIT, x0, h0.1, ?_⟩
   obtain ⟨_, e1, e2, e3⟩ := h0
   rw [← e1, ← e2, ← e3]
   exact H1.xA hop (aP.sn T Wp) (fun b hb => ⟨by
    rcases hT b hb with h | h
    ·
     exact Nat.lt_of_lt_of_le (aAY b h) (Nat.le_trans DT.size hop.size)
    ·
     exact h.2, rfl⟩) (fun b hb => (hT b hb).imp id fun h => h.1))
  (by
   intro T i W W' h hout
   rw [hJ] at h ⊢
   obtain ⟨h1, h2, x, hR, HS⟩ := h
   exact ⟨h1, h2, x, hR, HS.xA hout (aP.sn T W') (fun b hb => ⟨Nat.lt_of_lt_of_le ((HS.l 0 rfl) b hb).1 hout.size, rfl⟩) fun b hb => .inl hb⟩)
  (by
   intro T W W' h hout
   rw [hJx] at h ⊢
   obtain ⟨e, x, he, hR, HS⟩ := h
   exact ⟨e, x, he, hR, HS.xA hout (aP.sn T W') (fun b hb => ⟨Nat.lt_of_lt_of_le ((HS.l 0 rfl) b hb).1 hout.size, rfl⟩) fun b hb => .inl hb⟩)
  (by
   intro T i xs W W2 hi h hout IZ
   rw [hJ] at h
   obtain ⟨YQ, DS, x, hR, HS0⟩ := h
   have HS := HS0.xA hout (aP.sn T W2) (fun b hb => ⟨Nat.lt_of_lt_of_le ((HS0.l 0 rfl) b hb).1 hout.size, rfl⟩) fun b hb => .inl hb
   have hv : V i xs W2 := IZ.here
   have hl : W2.heap[w.heap.size + 1]? = some (.loop (rec .ready none)) := HS.l 1 rfl
   have hlt := (Array.getElem?_eq_some_iff.1 hl).1
   have hTl : ∀ b, T b → b ≠ w.heap.size + 1 := fun b hb he => by
    rcases YQ b hb with h | h
    ·
     have := aAY b h; omega
    ·
     omega
   refine .inr ⟨w.heap.size + 1, fn, (ps.toArray.zip xs.toArray).foldl (fun tmps (p : Tmp × Value) => tmps.setIfInBounds p.1 p.2) a.tmps, assign, body, rfl, ?_, ?_⟩
   ·
    have := run_yield (P := P) (args := xs.toArray) hl (by rw [kE]; simpa using hV i xs W2 hv)
    rw [this, kE]
   ·
    refine roundIn_of_wpIn trivial ?_
    have hro := round i x xs (w.heap.size + 1) w.heap.size (.loop { rec .ready none with state := .busy }) T sc W2 hi hR hv
    have hh := hro _ (mL.uA ps xs σ [] { tmps := a.tmps, defers := [] } ⟨ha.size, ha.env, rfl⟩)
    have ez : ((ps.toArray.zip xs.toArray).foldl (fun tmps (p : Tmp × Value) => tmps.setIfInBounds p.1 p.2) a.tmps) = ((ps.zip xs).foldl (fun tmps (p : Tmp × Value) => tmps.setIfInBounds p.1 p.2) a.tmps) := by
     rw [← Array.foldl_toList]; simp
    show Code.wpIn _ _ _ _ _ { tmps := ((ps.toArray.zip xs.toArray).foldl (fun tmps (p : Tmp × Value) => tmps.setIfInBounds p.1 p.2) a.tmps), defers := [] } _
    rw [ez]
    refine wpIn_mono (F := FW (some (w.heap.size + 1))) hh ?_
    rintro e a1 W3 ⟨hs1, rfl, DR, hW3, FH⟩
    subst hW3
    refine ⟨_, run_beginRound hl (by rw [kE]), ?_⟩
    obtain ⟨Wb, tQ⟩ : ∃ Wb, W3.putObj (w.heap.size + 1) (.loop { rec .ready none with state := .busy }) = Wb := ⟨_, rfl⟩
    rw [tQ]
    have NP : Out (· = w.heap.size + 1) W3 Wb := by rw [← tQ]; exact fM _
    have FA : Wb.heap[w.heap.size + 1]? = some (.loop { rec .ready none with state := .busy }) := by rw [← tQ]; exact World.putObj_heap_same hlt
    have hTb : ∀ b, T b → Wb.heap[b]? = W3.heap[b]? := fun b hb => NP.block b ((HS.l 0 rfl) b hb).1 (hTl b hb)
    have HB : St X w0 Wb (Of i x) (Lf i x ++ [aP.obj (w.heap.size + 1) (.loop { rec .ready none with state := .busy }), aP.obj w.heap.size (.deferred (some [])), aP.sn T Wb]) (V i xs :: (Pf i x ++ [sc])) := by
     have HA := HS.add (p := V i xs) (IZ.mono fun b _ hb => by
      have := HS0.aR b (by
       rcases hb with h | h | ⟨e, he, h⟩
       ·
        exact .inl h
       ·
        exact .inr (.inl h)
       ·
        refine .inr (.inr ?_)
        cases List.mem_cons.1 he with
        | inl he => subst he; exact ⟨_, List.mem_cons_self, h⟩
        | inr he => exact ⟨e, List.mem_cons_of_mem _ he, h⟩)
      exact this)
     have HC := (HA.oX (i := 1) rfl NP (aP.obj (w.heap.size + 1) (.loop { rec .ready none with state := .busy })) FA (fun b hb => .inl hb)).xA (Out.refl _ Wb) (aP.sn T Wb) (fun b hb => ⟨Nat.lt_of_lt_of_le ((HS.l 0 rfl) b hb).1 NP.size, rfl⟩) (fun b hb => .inl hb)
     refine HC.perm ?_
     show (aP.sn T Wb :: aP.obj (w.heap.size + 1) _ :: aP.obj w.heap.size _ :: Lf i x).Perm _
     refine List.Perm.trans ?_ List.perm_append_comm
     exact ((List.Perm.swap _ _ _).trans ((List.Perm.swap _ _ _).cons _)).trans (List.Perm.refl _)
    have hbd := FH Wb HB a1 ⟨hs1, rfl, DR⟩
    refine wpIn_mono (F := FW (some (w.heap.size + 1))) hbd ?_
    have fin : ∀ (jump : Option Code) (W4 : World) (Of4 L4 : List aP) (P4 : List (World → Prop)), St X w0 W4 Of4 (L4 ++ [aP.obj (w.heap.size + 1) (.loop { rec .ready none with state := .busy }), aP.obj w.heap.size (.deferred (some [])), aP.sn T Wb]) (P4 ++ [sc]) →
      ∃ W5, (Instr.endRound (w.heap.size + 1) jump).run P W4 = .ok (.bool jump.isNone) W5 ∧ Kept T (CC X O Lr w W1) W1 W3 W5 ∧
       St X w0 W5 Of4 (aP.sn T W5 :: aP.obj (w.heap.size + 1) (.loop (rec (if jump.isNone then .ready else .done) jump)) :: aP.obj w.heap.size (.deferred (some [])) :: L4) (P4 ++ [sc]) := by
     intro jump W4 Of4 L4 P4 H4
     have H5 : St X w0 W4 Of4 (aP.obj (w.heap.size + 1) (.loop { rec .ready none with state := .busy }) :: aP.obj w.heap.size (.deferred (some [])) :: aP.sn T Wb :: L4) (P4 ++ [sc]) := H4.perm List.perm_append_comm
     have V9 : W4.heap[w.heap.size + 1]? = some (.loop { rec .ready none with state := .busy }) := H5.l 0 rfl
     have I3 := (Array.getElem?_eq_some_iff.1 V9).1
     have DO := H5.l 2 (e := aP.sn T Wb) rfl
     have R7 : sc W4 := (H5.iZ sc (by simp)).here
     refine ⟨W4.putObj (w.heap.size + 1) (.loop (rec (if jump.isNone then .ready else .done) jump)), ?_, ?_, ?_⟩
     ·
      have := run_endRound (P := P) jump V9
      rw [kE] at this ⊢
      exact this
     ·
      have zF := H1.os
      have ho2 := H1.tape
      have ho3 := H1.output
      refine ⟨H4.os.trans zF.symm, H4.tape.trans ho2.symm, H4.output.trans ho3.symm, by simp; omega, ?_, ?_⟩
      ·
       intro b hb
       have h1 := DO b hb
       refine ⟨by simpa using h1.1, ?_⟩
       rw [World.putObj_heap_other (hTl b hb), h1.2, hTb b hb]
      ·
       intro b hb hC hTn
       rcases Nat.lt_or_ge b w.heap.size with E9 | hge
       ·
        rw [World.putObj_heap_other (by omega)]
        rw [hsc] at R7
        rw [R7 b E9 (fun h => hC (.inl h)) (fun h => hTn (DS b h))]
        exact (DT.block b E9 id).symm
       ·
        exact absurd (show CC X O Lr w W1 b from .inr ⟨hge, hb⟩) hC
     ·
      have H6 := (H5.xA (w' := W4.putObj (w.heap.size + 1) (.loop (rec (if jump.isNone then .ready else .done) jump))) (fM _) (aP.obj (w.heap.size + 1) (.loop (rec (if jump.isNone then .ready else .done) jump))) (World.putObj_heap_same I3) (fun b hb => .inl hb))
      have H7 := H6.oX (i := 2) (e := aP.sn T Wb) rfl (Out.refl _ _) (aP.sn T (W4.putObj (w.heap.size + 1) (.loop (rec (if jump.isNone then .ready else .done) jump)))) (fun b hb => ⟨by simpa using (DO b hb).1, rfl⟩) (fun b hb => .inl hb)
      refine H7.perm ?_
      exact ((List.Perm.swap _ _ _).cons _).trans (List.Perm.swap _ _ _)
    rintro e a4 W4 ⟨hs4, hq⟩
    cases e with
    | normal =>
     obtain ⟨x', hR', H4⟩ := hq
     obtain ⟨W5, hr, hk, H5⟩ := fin none W4 _ _ _ H4
     exact ⟨_, W5, hr, _, rfl, hk, .inl ⟨rfl, by rw [hJ]; exact ⟨YQ, DS, x', hR', H5⟩⟩⟩
    | ret =>
     obtain ⟨x', hR', H4⟩ := hq
     obtain ⟨W5, hr, hk, H5⟩ := fin (some .ret) W4 _ _ _ H4
     exact ⟨_, W5, hr, _, rfl, hk, .inr ⟨rfl, by rw [hJx]; exact ⟨.ret, x', .inl rfl, hR', H5⟩⟩⟩
    | exit id =>
     obtain ⟨x', hR', H4⟩ := hq
     obtain ⟨W5, hr, hk, H5⟩ := fin (some (.exit id)) W4 _ _ _ H4
     exact ⟨_, W5, hr, _, rfl, hk, .inr ⟨rfl, by rw [hJx]; exact ⟨.exit id, x', .inr ⟨id, rfl⟩, hR', H5⟩⟩⟩
    | goto t => exact hq.elim
    | panic c => exact hq.elim
    | outgrown => exact hq.elim)
  (.inr ⟨_, _, _, rfl⟩)
 refine CallsIn.mono (F := FW none) (n := 0) x8 ?_
 rintro e W2 ⟨v, rfl, _, T, hJ2 | hJ2⟩
 ·
  rw [hJ] at hJ2
  obtain ⟨YQ, DS, x, hR, HS⟩ := hJ2
  have hl : W2.heap[w.heap.size + 1]? = some (.loop (rec .ready none)) := HS.l 1 rfl
  refine ⟨none, _, by have := run_endLoop (P := P) hl (by rw [kE]; simp); rw [kE] at this; exact this, ?_⟩
  have HE := (HS.yL).xA (fM (W := W2) (l := w.heap.size + 1) (.loop { rec .ready none with state := .exhausted })) (aP.set Nil) (fun b hb => hb.elim) (fun b hb => hb.elim)
  have HF := (HE.yL).drop (J1 := Pf n x) (fun p hp => List.mem_append_left _ hp)
  have hd := done x _ _ hR HF
  refine ⟨ha.size, ?_⟩
  rw [kE] at hd
  have e1 : gL { a with defers := [{ target := .collected w.heap.size, args := #[] }] ++ a.defers } = σ := ha.env
  show Q .normal (gL _) _ _
  rw [e1]
  simp only [ha.defers, List.singleton_append]
  exact hd
 ·
  rw [hJx] at hJ2
  obtain ⟨e, x, he, hR, HS⟩ := hJ2
  have hl : W2.heap[w.heap.size + 1]? = some (.loop (rec .done (some (LZ e)))) := HS.l 1 rfl
  refine ⟨some (LZ e), _, by have := run_endLoop (P := P) hl (by rw [kE]; simp); rw [kE] at this; exact this, ?_⟩
  have HE := (HS.yL).xA (fM (W := W2) (l := w.heap.size + 1) (.loop { rec .done (some (LZ e)) with state := .exhausted })) (aP.set Nil) (fun b hb => hb.elim) (fun b hb => hb.elim)
  have HF := (HE.yL).drop (J1 := Px e x) (fun p hp => List.mem_append_left _ hp)
  have hd := stop e x _ _ he hR HF
  rw [kE] at hd
  have e1 : gL { a with defers := [{ target := .collected w.heap.size, args := #[] }] ++ a.defers } = σ := ha.env
  have e2 : ({ a with defers := [{ target := .collected w.heap.size, args := #[] }] ++ a.defers } : Act).defers = { target := .collected w.heap.size, args := #[] } :: ds := by simp [ha.defers]
  rcases he with rfl | ⟨id, rfl⟩
  ·
   refine wpIn_ret ⟨ha.size, ?_⟩
   rw [e1, e2]; exact hd
  ·
   refine wpIn_exit ⟨ha.size, ?_⟩
   rw [e1, e2]; exact hd
end Go.Sp
