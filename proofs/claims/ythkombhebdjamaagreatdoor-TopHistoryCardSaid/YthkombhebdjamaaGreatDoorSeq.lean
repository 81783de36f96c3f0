/- Part of the proof of this claim: walks through the program's functions and the plain laws that they need, printed by a program of this session. -/
import Derived.Test.YthkombhebdjamaaGreatDoorMk
import Derived.Test.YthkombhebdjamaaGreatDoorRng
import Derived.RangeFuncIn
import Derived.RangeFuncRecord
namespace Go.Sp
open Go.RowKit
theorem St.chg {X : Nat → Prop} {w0 w w' : World} {O L : List aP} {Ps : List (World → Prop)} {e1 e2 : aP} (H : St X w0 w (e1 :: O) (e2 :: L) Ps) (h : Out (fun b => e1.fp b ∨ e2.fp b) w w') (e1' e2' : aP) (h1 : e1'.ok w') (h2 : e2'.ok w')
  (f1 : ∀ b, e1'.fp b ↔ e1.fp b) (f2 : ∀ b, e2'.fp b → e2.fp b ∨ w.heap.size ≤ b) : St X w0 w' (e1' :: O) (e2' :: L) Ps where
 os := h.os.trans H.os
 tape := h.tape.trans H.tape
 output := h.output.trans H.output
 size := Nat.le_trans H.size h.size
 old := fun b hb hn => by
  have V8 : ¬ e1.fp b := fun hm => hn e1' List.mem_cons_self ((f1 b).2 hm)
  have hn2 : ¬ e2.fp b := fun hm => by have := H.kF e2 List.mem_cons_self b hm; omega
  refine (h.block b (Nat.lt_of_lt_of_le hb H.size) (fun hc => hc.elim V8 hn2)).trans (H.old b hb fun x hx hb' => ?_)
  rcases List.mem_cons.1 hx with rfl | hx
  ·
   exact V8 hb'
  ·
   exact hn x (List.mem_cons_of_mem _ hx) hb'
 zP := fun x hx => by
  rcases List.mem_cons.1 hx with rfl | hx
  ·
   exact h1
  ·
   have hx' := H.zP x (List.mem_cons_of_mem _ hx)
   refine x.loc w w' (fun b hb => h.block b (x.lt w hx' b hb) fun hm => ?_) hx'
   rcases hm with hm | hm
   ·
    exact (List.pairwise_cons.1 H.pF).1 x hx b ⟨hm, hb⟩
   ·
    have h3 := H.kF e2 List.mem_cons_self b hm
    have h4 := H.uI x (List.mem_cons_of_mem _ hx) b hb
    omega
 sR := fun x hx => by
  rcases List.mem_cons.1 hx with rfl | hx
  ·
   exact h2
  ·
   have hx' := H.sR x (List.mem_cons_of_mem _ hx)
   refine x.loc w w' (fun b hb => h.block b (x.lt w hx' b hb) fun hm => ?_) hx'
   rcases hm with hm | hm
   ·
    have h3 := H.kF x (List.mem_cons_of_mem _ hx) b hb
    have h4 := H.uI e1 List.mem_cons_self b hm
    omega
   ·
    exact (List.pairwise_cons.1 H.iM).1 x hx b ⟨hm, hb⟩
 uI := fun x hx b hb => by
  rcases List.mem_cons.1 hx with rfl | hx
  ·
   exact H.uI e1 List.mem_cons_self b ((f1 b).1 hb)
  ·
   exact H.uI x (List.mem_cons_of_mem _ hx) b hb
 kF := fun x hx b hb => by
  rcases List.mem_cons.1 hx with rfl | hx
  ·
   rcases f2 b hb with h3 | h3
   ·
    exact H.kF e2 List.mem_cons_self b h3
   ·
    exact Nat.le_trans H.size h3
  ·
   exact H.kF x (List.mem_cons_of_mem _ hx) b hb
 pF := List.pairwise_cons.2 ⟨fun x hx b hb => (List.pairwise_cons.1 H.pF).1 x hx b ⟨(f1 b).1 hb.1, hb.2⟩, (List.pairwise_cons.1 H.pF).2⟩
 iM := List.pairwise_cons.2 ⟨fun x hx b hb => by
  rcases f2 b hb.1 with h3 | h3
  ·
   exact (List.pairwise_cons.1 H.iM).1 x hx b ⟨h3, hb.2⟩
  ·
   have := H.V4 x (List.mem_cons_of_mem _ hx) b hb.2; omega, (List.pairwise_cons.1 H.iM).2⟩
 AA := H.AA
 iZ := fun p hp => (H.iZ p hp).out h (fun b _ hm => by
  rcases hm with hm | hm
  ·
   exact .inr (.inl ⟨e1, List.mem_cons_self, hm⟩)
  ·
   exact .inr (.inr ⟨e2, List.mem_cons_self, hm⟩)) (fun b hb hx => by
  rcases hx with hx | ⟨x, hx, hb'⟩ | ⟨x, hx, hb'⟩
  ·
   exact .inl hx
  ·
   rcases List.mem_cons.1 hx with rfl | hx
   ·
    exact .inr (.inl ⟨e1, List.mem_cons_self, (f1 b).1 hb'⟩)
   ·
    exact .inr (.inl ⟨x, List.mem_cons_of_mem _ hx, hb'⟩)
  ·
   rcases List.mem_cons.1 hx with rfl | hx
   ·
    rcases f2 b hb' with h3 | h3
    ·
     exact .inr (.inr ⟨e2, List.mem_cons_self, h3⟩)
    ·
     omega
   ·
    exact .inr (.inr ⟨x, List.mem_cons_of_mem _ hx, hb'⟩))
theorem St.WQ {P : Program} {X : Nat → Prop} {w0 w : World} {O L : List aP} {Ps : List (World → Prop)} {d : Nat} {ds : List Deferred} (H : St X w0 w O L Ps) (i : Nat) (hi : O[i]? = some (aP.obj d (.deferred (some [])))) :
  ∃ w', (∀ w'', rJ P ds w' w'' → rJ P ({ target := .collected d, args := #[] } :: ds) w w'') ∧ St X w0 w' (O.set i (aP.set (· = d))) L Ps := by
 have h : w.heap[d]? = some (.deferred (some [])) := H.o i hi
 have hlt := (Array.getElem?_eq_some_iff.1 h).1
 refine ⟨w.putObj d (.deferred none), fun w'' hl => .mark rfl (run_takeDeferred h) hl, ?_⟩
 exact H.vP hi (fM (W := w) (l := d) (.deferred none)) (aP.set (· = d)) (fun b hb => by cases hb; simpa using hlt) fun b => Iff.rfl
def aHR (P : Program) (g : FuncId) (fs cs : List Value) (n : Nat) (V : Nat → List Value → World → Prop) (bc : Nat) (t : TypeId) (C : Nat → Prop) (W0 : World) : Prop :=
 ∀ (f : Value) (J : (Nat → Prop) → Nat → World → Prop),
  (∀ T W1, Out (· = bc) W0 W1 → (∀ b, T b → b = bc ∨ (W0.heap.size ≤ b ∧ b < W1.heap.size)) → T bc → J T 0 W1) →
  (∀ T T' i W W', J T i W → Out T W W' → (∀ b, T b → T' b) → (∀ b, T' b → T b ∨ (W.heap.size ≤ b ∧ b < W'.heap.size)) → J T' i W') →
  (∀ T i xs W W2, i < n → J T i W → Out T W W2 → aJ (· < W.heap.size) (V i xs) W2 →
   eQ P f xs W2 fun v W' => Kept T C W0 W2 W' ∧ v = .bool true ∧ J T (i + 1) W') →
  z7 f →
  bC P g (fs ++ [f] ++ cs).toArray W0 fun v W' => v = .tuple #[] ∧ (∃ m : Int, aN W' bc t [.int .i64 m]) ∧ ∃ T, J T n W'
section
variable {X : Nat → Prop} {w0 w W0 : World} {O L : List aP} {Ps : List (World → Prop)} {bc : Nat} {t : TypeId} {lc : List Value} {p : World → Prop}
theorem St.aHn (H : St X w0 w (aP.blk bc t lc :: O) L Ps) (hO : Out Nil w W0) : ∀ b, CC X O L w W0 b → b < W0.heap.size := fun b hb => by
 rcases hb with (h | ⟨e, he, h⟩ | h) | h
 ·
  exact Nat.lt_of_lt_of_le (H.aR b (.inl h)) hO.size
 ·
  exact Nat.lt_of_lt_of_le (H.aR b (.inr (.inl ⟨e, List.mem_cons_of_mem _ he, h⟩))) hO.size
 ·
  exact Nat.lt_of_lt_of_le (H.aR b (.inr (.inr h))) hO.size
 ·
  exact h.2
theorem St.rY (H : St X w0 w (aP.blk bc t lc :: O) L Ps) (hO : Out Nil w W0) (i : Nat) (hp : Ps[i]? = some p) : aJ (fun b => CC X O L w W0 b ∨ b = bc) p W0 :=
 (H.bK i hp).out hO (fun _ _ h => h.elim) fun b hb h => by
  rcases h with ((h | ⟨e, he, h⟩ | h) | h) | h
  ·
   exact .inl h
  ·
   exact .inr (.inl ⟨e, List.mem_cons_of_mem _ he, h⟩)
  ·
   exact .inr (.inr h)
  ·
   omega
  ·
   exact .inr (.inl ⟨_, List.mem_cons_self, h⟩)
end
def aBQ (X : Nat → Prop) (w0 : World) {α : Type} (R : α → Prop) (Of Lf : α → List aP) (Pf : α → List (World → Prop)) (bk : List aP) (sc : World → Prop) : EPost
 | .normal, _, _, W' => ∃ x, R x ∧ St X w0 W' (Of x) (Lf x ++ bk) (Pf x ++ [sc])
 | _, _, _, _ => False
theorem WE.aBV {P : Program} {N : Nat} {σ : Env} {ds : List Deferred} {w : World} {α : Type} {g : Operand} {ps : List Tmp} {assign body : Code} {Q : EPost} {X : Nat → Prop} {w0 : World} {O Lr : List aP} {Ps : List (World → Prop)}
  {gf : FuncId} {gfn : Func} {fs cs : List Value} {n : Nat} {V : Nat → List Value → World → Prop} {bc : Nat} {t : TypeId} {lc : List Value}
  (R : Nat → α → Prop) (Of Lf : Nat → α → List aP) (Pf : Nat → α → List (World → Prop)) (x0 : α)
  (H : St X w0 w (aP.blk bc t lc :: O) Lr Ps) (hg : ev σ g = .func (.func gf) fs.toArray cs.toArray) (hb : Body P gf gfn)
  (R6 : ∀ W0, Out Nil w W0 → aHR P gf fs cs n V bc t (CC X O Lr w W0) W0) (hV : ∀ i xs W, V i xs W → xs.length = ps.length)
  (h0 : R 0 x0 ∧ O = Of 0 x0 ∧ Lr = Lf 0 x0 ∧ Ps = Pf 0 x0)
  (round : ∀ (i : Nat) (x : α) (xs : List Value) (l d : Nat) (o o' : Obj) (T : Nat → Prop) (sc : World → Prop) (W : World), i < n → R i x → V i xs W →
   St X w0 W (aP.sn (· = bc) W :: Of i x) (Lf i x ++ [aP.obj l o, aP.obj d (.deferred (some [])), aP.sn T W]) (V i xs :: (Pf i x ++ [sc])) →
   WE (some l) P N assign (fun e σ1 ds1 W' => e = .normal ∧ ds1 = [] ∧ ∃ O' L' P', St X w0 W' (aP.sn (· = bc) W :: O') (L' ++ [aP.obj l o, aP.obj d (.deferred (some [])), aP.sn T W]) P' ∧ ∀ W4, St X w0 W4 (aP.sn (· = bc) W4 :: O') (L' ++ [aP.obj l o', aP.obj d (.deferred (some [])), aP.sn T W4]) P' →
    WE (some l) P N body (aBQ X w0 (R (i + 1)) (fun x => aP.sn (· = bc) W4 :: Of (i + 1) x) (Lf (i + 1)) (Pf (i + 1)) [aP.obj l o', aP.obj d (.deferred (some [])), aP.sn T W4] sc) σ1 [] W4) (uA N σ ps xs) [] W)
  (done : ∀ x d W' (m : Int), R n x → St X w0 W' (aP.blk bc t [.int .i64 m] :: Of n x) (aP.obj d (.deferred (some [])) :: Lf n x) (Pf n x) → Q .normal σ ({ target := .collected d, args := #[] } :: ds) W') :
  WE none P N (.rangeFunc g ps.toArray assign body) Q σ ds w := fun a ha => by
 refine wpIn_rangeFunc ?_
 intro fn _
 obtain ⟨rec, kE⟩ : ∃ rec : LoopState → Option Code → Loop, rec = fun st pe => { state := st, pending := pe, fn, tmps := a.tmps, params := ps.toArray, assign, body, defers := w.heap.size } := ⟨_, rfl⟩
 obtain ⟨W1, FI⟩ : ∃ W1, (w.alloc (.deferred (some []))).alloc (.loop (rec .ready none)) = W1 := ⟨_, rfl⟩
 have DT : Out Nil w W1 := by rw [← FI]; exact (Out.alloc _ _).trans (Out.alloc _ _)
 have hsz : W1.heap.size = w.heap.size + 2 := by rw [← FI]; simp
 have hbc : bc < w.heap.size := (H.o 0 rfl : aN w bc t lc).lt
 -- what is since the begin
 obtain ⟨sc, hsc⟩ : ∃ sc : World → Prop, sc = fun W => ∀ b, b < w.heap.size → ¬ YY X (aP.blk bc t lc :: O) Lr b → W.heap[b]? = w.heap[b]? := ⟨_, rfl⟩
 have H1 : St X w0 W1 (aP.blk bc t lc :: O) (aP.set Nil :: aP.obj (w.heap.size + 1) (.loop (rec .ready none)) :: aP.obj w.heap.size (.deferred (some [])) :: Lr) (Ps ++ [sc]) := by
  have Ha := H.add (p := sc) (by
   rw [hsc]
   intro w' hw' b hb hn
   exact hw' b hb hn)
  have Hb := Ha.push (Out.alloc w (.deferred (some []))) (aP.obj w.heap.size (.deferred (some []))) (World.alloc_heap_new w _) (fun b hb => by cases hb; exact Nat.le_refl _)
  have Hc := Hb.push (Out.alloc (w.alloc (.deferred (some []))) (.loop (rec .ready none))) (aP.obj (w.heap.size + 1) (.loop (rec .ready none))) (by
   have := World.alloc_heap_new (w.alloc (.deferred (some []))) (.loop (rec .ready none)); rwa [World.size_alloc] at this) (fun b hb => by cases hb; simp)
  rw [FI] at Hc
  exact (Hc.aAC (List.perm_append_singleton sc Ps).symm).wD
 refine ⟨w.heap.size + 1, [{ target := .collected w.heap.size, args := #[] }], W1, { target := .fn (.func gf) cs.toArray, args := (fs ++ [Value.func (.yield (w.heap.size + 1)) #[] #[]]).toArray }, W1, gf,
  (fs ++ [Value.func (.yield (w.heap.size + 1)) #[] #[]] ++ cs).toArray, W1, ?_, ?_, ?_, ?_, (fun h => (by cases h)), ?_⟩
 ·
  rw [← FI, kE]; exact run_enterLoop_outer _ _ _ _ _
 ·
  have e : a.eval g = .func (.func gf) fs.toArray cs.toArray := by rw [ha.eval]; exact hg
  simp only [resolve, e]
  simp [Deferred.ofValue]
  rfl
 ·
  intro _ _; trivial
 ·
  have := fW hb (fs ++ [Value.func (.yield (w.heap.size + 1)) #[] #[]] ++ cs).toArray W1
  simp only [invoke, List.append_toArray]
  exact this
 obtain ⟨J, hJ⟩ : ∃ J : (Nat → Prop) → Nat → World → Prop, J = fun T i W => (∀ b, T b → b = bc ∨ w.heap.size + 2 ≤ b) ∧ T bc ∧ ∃ x, R i x ∧ St X w0 W (aP.sn (· = bc) W :: Of i x) (aP.sn (fun b => T b ∧ b ≠ bc) W :: aP.obj (w.heap.size + 1) (.loop (rec .ready none)) :: aP.obj w.heap.size (.deferred (some [])) :: Lf i x) (Pf i x ++ [sc]) := ⟨_, rfl⟩
 have aII : ∀ {T : Nat → Prop} {W W' : World} {O' L' : List aP} {P' : List (World → Prop)}, T bc → St X w0 W (aP.sn (· = bc) W :: O') (aP.sn (fun b => T b ∧ b ≠ bc) W :: L') P' → Out T W W' → St X w0 W' (aP.sn (· = bc) W' :: O') (aP.sn (fun b => T b ∧ b ≠ bc) W' :: L') P' := by
  intro T W W' O' L' P' hTb HS hout
  have aCr : bc < W.heap.size := (HS.o 0 (e := aP.sn (· = bc) W) rfl bc rfl).1
  have x7 : ∀ b, T b ∧ b ≠ bc → b < W.heap.size := fun b hb => (HS.l 0 (e := aP.sn (fun b => T b ∧ b ≠ bc) W) rfl b hb).1
  refine HS.chg (hout.mono fun b _ hb => ?_) _ _ (fun b hb => ⟨by cases hb; exact Nat.lt_of_lt_of_le aCr hout.size, rfl⟩) (fun b hb => ⟨Nat.lt_of_lt_of_le (x7 b hb) hout.size, rfl⟩) (fun b => Iff.rfl) (fun b hb => .inl hb)
  rcases Nat.decEq b bc with h | h
  ·
   exact .inr ⟨hb, h⟩
  ·
   exact .inl h
 have aIJ : ∀ {T T' : Nat → Prop} {W W' : World} {O' L' : List aP} {P' : List (World → Prop)}, T bc → St X w0 W (aP.sn (· = bc) W :: O') (aP.sn (fun b => T b ∧ b ≠ bc) W :: L') P' → Out T W W' → (∀ b, T' b → T b ∨ (W.heap.size ≤ b ∧ b < W'.heap.size)) → St X w0 W' (aP.sn (· = bc) W' :: O') (aP.sn (fun b => T' b ∧ b ≠ bc) W' :: L') P' := by
  intro T T' W W' O' L' P' hTb HS hout hT'
  have aCr : bc < W.heap.size := (HS.o 0 (e := aP.sn (· = bc) W) rfl bc rfl).1
  have x7 : ∀ b, T b ∧ b ≠ bc → b < W.heap.size := fun b hb => (HS.l 0 (e := aP.sn (fun b => T b ∧ b ≠ bc) W) rfl b hb).1
  refine HS.chg (hout.mono fun b _ hb => ?_) _ _ (fun b hb => ⟨by cases hb; exact Nat.lt_of_lt_of_le aCr hout.size, rfl⟩) (fun b hb => ⟨by
   rcases hT' b hb.1 with h | h
   ·
    exact Nat.lt_of_lt_of_le (x7 b ⟨h, hb.2⟩) hout.size
   ·
    exact h.2, rfl⟩) (fun b => Iff.rfl) (fun b hb => by
   rcases hT' b hb.1 with h | h
   ·
    exact .inl ⟨h, hb.2⟩
   ·
    exact .inr h.1)
  rcases Nat.decEq b bc with h | h
  ·
   exact .inr ⟨hb, h⟩
  ·
   exact .inl h
 have x8 := R6 W1 DT (.func (.yield (w.heap.size + 1)) #[] #[]) J
  (by
   intro T Wp hop hT hTb
   rw [hJ]
   refine ⟨fun b hb => (hT b hb).imp id fun h => by omega, hTb, x0, h0.1, ?_⟩
   obtain ⟨_, e1, e2, e3⟩ := h0
   rw [← e1, ← e2, ← e3]
   refine H1.chg (hop.mono fun b _ hb => .inl hb) _ _ (fun b hb => ⟨by cases hb; exact Nat.lt_of_lt_of_le hbc (Nat.le_trans DT.size hop.size), rfl⟩) (fun b hb => ⟨by
    rcases hT b hb.1 with h | h
    ·
     exact absurd h hb.2
    ·
     exact h.2, rfl⟩) (fun b => Iff.rfl) (fun b hb => by
    rcases hT b hb.1 with h | h
    ·
     exact absurd h hb.2
    ·
     exact .inr h.1))
  (by
   intro T T' i W W' h hout hTT hT'
   rw [hJ] at h ⊢
   obtain ⟨h1, h2, x, hR, HS⟩ := h
   have hlw : w.heap.size + 1 < W.heap.size := (Array.getElem?_eq_some_iff.1 (show W.heap[w.heap.size + 1]? = some (.loop (rec .ready none)) from HS.l 1 rfl)).1
   refine ⟨fun b hb => ?_, hTT _ h2, x, hR, aIJ h2 HS hout hT'⟩
   rcases hT' b hb with h | h
   ·
    exact h1 b h
   ·
    exact .inr (by omega))
  (by
   intro T i xs W W2 hi h hout IZ
   rw [hJ] at h
   obtain ⟨YQ, DS, x, hR, HS0⟩ := h
   have HS := aII DS HS0 hout
   have hv : V i xs W2 := IZ.here
   have hl : W2.heap[w.heap.size + 1]? = some (.loop (rec .ready none)) := HS.l 1 rfl
   have hlt := (Array.getElem?_eq_some_iff.1 hl).1
   have hTl : ∀ b, T b → b ≠ w.heap.size + 1 := fun b hb he => by
    rcases YQ b hb with h | h
    ·
     omega
    ·
     omega
   refine .inr ⟨w.heap.size + 1, fn, (ps.toArray.zip xs.toArray).foldl (fun tmps (p : Tmp × Value) => tmps.setIfInBounds p.1 p.2) a.tmps, assign, body, rfl, ?_, ?_⟩
   ·
    have := run_yield (P := P) (args := xs.toArray) hl (by rw [kE]; simpa using hV i xs W2 hv)
    rw [this, kE]
   ·
    refine roundIn_of_wpIn trivial ?_
    have HV0 : St X w0 W2 (aP.sn (· = bc) W2 :: Of i x) (Lf i x ++ [aP.obj (w.heap.size + 1) (.loop (rec .ready none)), aP.obj w.heap.size (.deferred (some [])), aP.sn (fun b => T b ∧ b ≠ bc) W2]) (V i xs :: (Pf i x ++ [sc])) := by
     have HA := HS.add (p := V i xs) (IZ.mono fun b _ hb => by
      have := HS0.aR b (by
       rcases hb with h | ⟨e, he, h⟩ | ⟨e, he, h⟩
       ·
        exact .inl h
       ·
        refine .inr (.inl ?_)
        cases List.mem_cons.1 he with
        | inl he => subst he; exact ⟨_, List.mem_cons_self, h⟩
        | inr he => exact ⟨e, List.mem_cons_of_mem _ he, h⟩
       ·
        refine .inr (.inr ?_)
        cases List.mem_cons.1 he with
        | inl he => subst he; exact ⟨_, List.mem_cons_self, h⟩
        | inr he => exact ⟨e, List.mem_cons_of_mem _ he, h⟩)
      exact this)
     refine HA.perm ?_
     show (aP.sn (fun b => T b ∧ b ≠ bc) W2 :: aP.obj (w.heap.size + 1) _ :: aP.obj w.heap.size _ :: Lf i x).Perm _
     refine List.Perm.trans ?_ List.perm_append_comm
     exact ((List.Perm.swap _ _ _).trans ((List.Perm.swap _ _ _).cons _)).trans (List.Perm.refl _)
    have hro := round i x xs (w.heap.size + 1) w.heap.size (.loop (rec .ready none)) (.loop { rec .ready none with state := .busy }) (fun b => T b ∧ b ≠ bc) sc W2 hi hR hv HV0
    have hh := hro _ (mL.uA ps xs σ [] { tmps := a.tmps, defers := [] } ⟨ha.size, ha.env, rfl⟩)
    have ez : ((ps.toArray.zip xs.toArray).foldl (fun tmps (p : Tmp × Value) => tmps.setIfInBounds p.1 p.2) a.tmps) = ((ps.zip xs).foldl (fun tmps (p : Tmp × Value) => tmps.setIfInBounds p.1 p.2) a.tmps) := by
     rw [← Array.foldl_toList]; simp
    show Code.wpIn _ _ _ _ _ { tmps := ((ps.toArray.zip xs.toArray).foldl (fun tmps (p : Tmp × Value) => tmps.setIfInBounds p.1 p.2) a.tmps), defers := [] } _
    rw [ez]
    refine wpIn_mono (F := FW (some (w.heap.size + 1))) hh ?_
    rintro e a1 W3 ⟨hs1, rfl, DR, O3, L3, P3, H3, FH⟩
    have H3p := H3.perm (L' := aP.obj (w.heap.size + 1) (.loop (rec .ready none)) :: aP.obj w.heap.size (.deferred (some [])) :: aP.sn (fun b => T b ∧ b ≠ bc) W2 :: L3) List.perm_append_comm
    have hl3 : W3.heap[w.heap.size + 1]? = some (.loop (rec .ready none)) := H3p.l 0 rfl
    have hlt3 := (Array.getElem?_eq_some_iff.1 hl3).1
    have hT3 : ∀ b, T b → b < W3.heap.size ∧ W3.heap[b]? = W2.heap[b]? := fun b hb => by
     rcases Nat.decEq b bc with h | h
     ·
      exact H3p.l 2 (e := aP.sn (fun b => T b ∧ b ≠ bc) W2) rfl b ⟨hb, h⟩
     ·
      exact H3p.o 0 (e := aP.sn (· = bc) W2) rfl b h
    refine ⟨_, run_beginRound hl3 (by rw [kE]), ?_⟩
    obtain ⟨Wb, tQ⟩ : ∃ Wb, W3.putObj (w.heap.size + 1) (.loop { rec .ready none with state := .busy }) = Wb := ⟨_, rfl⟩
    rw [tQ]
    have NP : Out (· = w.heap.size + 1) W3 Wb := by rw [← tQ]; exact fM _
    have FA : Wb.heap[w.heap.size + 1]? = some (.loop { rec .ready none with state := .busy }) := by rw [← tQ]; exact World.putObj_heap_same hlt3
    have hTb : ∀ b, T b → Wb.heap[b]? = W2.heap[b]? := fun b hb => (NP.block b (hT3 b hb).1 (hTl b hb)).trans (hT3 b hb).2
    have HB : St X w0 Wb (aP.sn (· = bc) Wb :: O3) (L3 ++ [aP.obj (w.heap.size + 1) (.loop { rec .ready none with state := .busy }), aP.obj w.heap.size (.deferred (some [])), aP.sn (fun b => T b ∧ b ≠ bc) Wb]) P3 := by
     have HC := (H3p.xA NP (aP.obj (w.heap.size + 1) (.loop { rec .ready none with state := .busy })) FA (fun b hb => .inl hb)).oX (i := 2) (e := aP.sn (fun b => T b ∧ b ≠ bc) W2) rfl (Out.refl _ Wb) (aP.sn (fun b => T b ∧ b ≠ bc) Wb) (fun b hb => ⟨Nat.lt_of_lt_of_le (hT3 b hb.1).1 NP.size, rfl⟩) (fun b hb => .inl hb)
     have HD := HC.vP (i := 0) (e := aP.sn (· = bc) W2) rfl (Out.refl _ Wb) (aP.sn (· = bc) Wb) (fun b hb => ⟨by cases hb; exact Nat.lt_of_lt_of_le (hT3 bc DS).1 NP.size, rfl⟩) (fun b => Iff.rfl)
     refine HD.perm ?_
     show (aP.obj (w.heap.size + 1) _ :: aP.obj w.heap.size _ :: aP.sn (fun b => T b ∧ b ≠ bc) Wb :: L3).Perm _
     exact List.perm_append_comm (l₁ := [_, _, _])
    have hbd := FH Wb HB a1 ⟨hs1, rfl, DR⟩
    refine wpIn_mono (F := FW (some (w.heap.size + 1))) hbd ?_
    rintro e a4 W4 ⟨hs4, hq⟩
    cases e with
    | normal =>
     obtain ⟨x', hR', H4⟩ := hq
     have H5 : St X w0 W4 (aP.sn (· = bc) Wb :: Of (i + 1) x') (aP.obj (w.heap.size + 1) (.loop { rec .ready none with state := .busy }) :: aP.obj w.heap.size (.deferred (some [])) :: aP.sn (fun b => T b ∧ b ≠ bc) Wb :: Lf (i + 1) x') (Pf (i + 1) x' ++ [sc]) := H4.perm List.perm_append_comm
     have V9 : W4.heap[w.heap.size + 1]? = some (.loop { rec .ready none with state := .busy }) := H5.l 0 rfl
     have I3 := (Array.getElem?_eq_some_iff.1 V9).1
     have DO : ∀ b, T b → b < W4.heap.size ∧ W4.heap[b]? = Wb.heap[b]? := fun b hb => by
      rcases Nat.decEq b bc with h | h
      ·
       exact H5.l 2 (e := aP.sn (fun b => T b ∧ b ≠ bc) Wb) rfl b ⟨hb, h⟩
      ·
       exact H5.o 0 (e := aP.sn (· = bc) Wb) rfl b h
     have R7 : sc W4 := (H5.iZ sc (by simp)).here
     refine ⟨_, W4.putObj (w.heap.size + 1) (.loop (rec .ready none)), ?_, _, rfl, ?_, rfl, ?_⟩
     ·
      have := run_endRound (P := P) none V9
      rw [kE] at this ⊢
      exact this
     ·
      have zF := H1.os
      have ho2 := H1.tape
      have ho3 := H1.output
      refine ⟨H4.os.trans zF.symm, H4.tape.trans ho2.symm, H4.output.trans ho3.symm, by simp; omega, ?_, ?_⟩
      ·
       intro b hb
       have h1 := DO b hb
       refine ⟨by simpa using h1.1, ?_⟩
       rw [World.putObj_heap_other (hTl b hb), h1.2, hTb b hb]
      ·
       intro b hb hC hTn
       rcases Nat.lt_or_ge b w.heap.size with E9 | hge
       ·
        rw [World.putObj_heap_other (by omega)]
        rw [hsc] at R7
        rw [R7 b E9 (fun h => by
         rcases h with h | ⟨e, he, h⟩ | h
         ·
          exact hC (.inl (.inl h))
         ·
          rcases List.mem_cons.1 he with rfl | he
          ·
           have hbb : b = bc := h
           exact hTn (hbb ▸ DS)
          ·
           exact hC (.inl (.inr (.inl ⟨e, he, h⟩)))
         ·
          exact hC (.inl (.inr (.inr h))))]
        exact (DT.block b E9 id).symm
       ·
        exact absurd (show CC X O Lr w W1 b from .inr ⟨hge, hb⟩) hC
     ·
      rw [hJ]
      refine ⟨YQ, DS, x', hR', ?_⟩
      have H6 := (H5.xA (w' := W4.putObj (w.heap.size + 1) (.loop (rec .ready none))) (fM _) (aP.obj (w.heap.size + 1) (.loop (rec .ready none))) (World.putObj_heap_same I3) (fun b hb => .inl hb))
      have H7 := H6.oX (i := 2) (e := aP.sn (fun b => T b ∧ b ≠ bc) Wb) rfl (Out.refl _ _) (aP.sn (fun b => T b ∧ b ≠ bc) (W4.putObj (w.heap.size + 1) (.loop (rec .ready none)))) (fun b hb => ⟨by simpa using (DO b hb.1).1, rfl⟩) (fun b hb => .inl hb)
      have H8 := H7.vP (i := 0) (e := aP.sn (· = bc) Wb) rfl (Out.refl _ _) (aP.sn (· = bc) (W4.putObj (w.heap.size + 1) (.loop (rec .ready none)))) (fun b hb => ⟨by cases hb; simpa using (DO bc DS).1, rfl⟩) (fun b => Iff.rfl)
      refine H8.perm ?_
      exact ((List.Perm.swap _ _ _).cons _).trans (List.Perm.swap _ _ _)
    | ret => exact hq.elim
    | exit id => exact hq.elim
    | goto t => exact hq.elim
    | panic c => exact hq.elim
    | outgrown => exact hq.elim)
  (.inr ⟨_, _, _, rfl⟩)
 refine CallsIn.mono (F := FW none) (n := 0) x8 ?_
 rintro e W2 ⟨v, rfl, _, ⟨m, hBm⟩, T, hJ2⟩
 rw [hJ] at hJ2
 obtain ⟨YQ, DS, x, hR, HS⟩ := hJ2
 have hl : W2.heap[w.heap.size + 1]? = some (.loop (rec .ready none)) := HS.l 1 rfl
 refine ⟨none, _, by have := run_endLoop (P := P) hl (by rw [kE]; simp); rw [kE] at this; exact this, ?_⟩
 have HM := HS.vP (i := 0) (e := aP.sn (· = bc) W2) rfl (Out.refl _ W2) (aP.blk bc t [.int .i64 m]) hBm (fun b => Iff.rfl)
 have HE := (HM.yL).xA (fM (W := W2) (l := w.heap.size + 1) (.loop { rec .ready none with state := .exhausted })) (aP.set Nil) (fun b hb => hb.elim) (fun b hb => hb.elim)
 have HF := (HE.yL).drop (J1 := Pf n x) (fun p hp => List.mem_append_left _ hp)
 have hd := done x _ _ m hR HF
 refine ⟨ha.size, ?_⟩
 rw [kE] at hd
 have e1 : gL { a with defers := [{ target := .collected w.heap.size, args := #[] }] ++ a.defers } = σ := ha.env
 show Q .normal (gL _) _ _
 rw [e1]
 simp only [ha.defers, List.singleton_append]
 exact hd
end Go.Sp
