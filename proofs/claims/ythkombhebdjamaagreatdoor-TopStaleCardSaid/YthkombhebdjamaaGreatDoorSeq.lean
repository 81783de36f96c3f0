/- Part of the proof of this claim: walks through the program's functions and the plain laws that they need, printed by a program of this session. -/
import Derived.Test.YthkombhebdjamaaGreatDoorMk
import Derived.Test.YthkombhebdjamaaGreatDoorRng
import Derived.RangeFuncIn
import Derived.RangeFuncRecord
namespace Go.Sp
open Go.RowKit
theorem St.chg {X : Nat → Prop} {w0 w w' : World} {O L : List aN} {Ps : List (World → Prop)} {e1 e2 : aN} (H : St X w0 w (e1 :: O) (e2 :: L) Ps) (h : Out (fun b => e1.fp b ∨ e2.fp b) w w') (e1' e2' : aN) (h1 : e1'.ok w') (h2 : e2'.ok w')
  (f1 : ∀ b, e1'.fp b ↔ e1.fp b) (f2 : ∀ b, e2'.fp b → e2.fp b ∨ w.heap.size ≤ b) : St X w0 w' (e1' :: O) (e2' :: L) Ps where
 os := h.os.trans H.os
 tape := h.tape.trans H.tape
 output := h.output.trans H.output
 size := Nat.le_trans H.size h.size
 old := fun b hb hn => by
  have T2 : ¬ e1.fp b := fun hm => hn e1' List.mem_cons_self ((f1 b).2 hm)
  have hn2 : ¬ e2.fp b := fun hm => by have := H.jU e2 List.mem_cons_self b hm; omega
  refine (h.block b (Nat.lt_of_lt_of_le hb H.size) (fun hc => hc.elim T2 hn2)).trans (H.old b hb fun x hx hb' => ?_)
  rcases List.mem_cons.1 hx with rfl | hx
  ·
   exact T2 hb'
  ·
   exact hn x (List.mem_cons_of_mem _ hx) hb'
 yP := fun x hx => by
  rcases List.mem_cons.1 hx with rfl | hx
  ·
   exact h1
  ·
   have hx' := H.yP x (List.mem_cons_of_mem _ hx)
   refine x.loc w w' (fun b hb => h.block b (x.lt w hx' b hb) fun hm => ?_) hx'
   rcases hm with hm | hm
   ·
    exact (List.pairwise_cons.1 H.oK).1 x hx b ⟨hm, hb⟩
   ·
    have h3 := H.jU e2 List.mem_cons_self b hm
    have h4 := H.tI x (List.mem_cons_of_mem _ hx) b hb
    omega
 r7 := fun x hx => by
  rcases List.mem_cons.1 hx with rfl | hx
  ·
   exact h2
  ·
   have hx' := H.r7 x (List.mem_cons_of_mem _ hx)
   refine x.loc w w' (fun b hb => h.block b (x.lt w hx' b hb) fun hm => ?_) hx'
   rcases hm with hm | hm
   ·
    have h3 := H.jU x (List.mem_cons_of_mem _ hx) b hb
    have h4 := H.tI e1 List.mem_cons_self b hm
    omega
   ·
    exact (List.pairwise_cons.1 H.gW).1 x hx b ⟨hm, hb⟩
 tI := fun x hx b hb => by
  rcases List.mem_cons.1 hx with rfl | hx
  ·
   exact H.tI e1 List.mem_cons_self b ((f1 b).1 hb)
  ·
   exact H.tI x (List.mem_cons_of_mem _ hx) b hb
 jU := fun x hx b hb => by
  rcases List.mem_cons.1 hx with rfl | hx
  ·
   rcases f2 b hb with h3 | h3
   ·
    exact H.jU e2 List.mem_cons_self b h3
   ·
    exact Nat.le_trans H.size h3
  ·
   exact H.jU x (List.mem_cons_of_mem _ hx) b hb
 oK := List.pairwise_cons.2 ⟨fun x hx b hb => (List.pairwise_cons.1 H.oK).1 x hx b ⟨(f1 b).1 hb.1, hb.2⟩, (List.pairwise_cons.1 H.oK).2⟩
 gW := List.pairwise_cons.2 ⟨fun x hx b hb => by
  rcases f2 b hb.1 with h3 | h3
  ·
   exact (List.pairwise_cons.1 H.gW).1 x hx b ⟨h3, hb.2⟩
  ·
   have := H.TX x (List.mem_cons_of_mem _ hx) b hb.2; omega, (List.pairwise_cons.1 H.gW).2⟩
 y6 := H.y6
 iH := fun p hp => (H.iH p hp).out h (fun b _ hm => by
  rcases hm with hm | hm
  ·
   exact .inr (.inl ⟨e1, List.mem_cons_self, hm⟩)
  ·
   exact .inr (.inr ⟨e2, List.mem_cons_self, hm⟩)) (fun b hb hx => by
  rcases hx with hx | ⟨x, hx, hb'⟩ | ⟨x, hx, hb'⟩
  ·
   exact .inl hx
  ·
   rcases List.mem_cons.1 hx with rfl | hx
   ·
    exact .inr (.inl ⟨e1, List.mem_cons_self, (f1 b).1 hb'⟩)
   ·
    exact .inr (.inl ⟨x, List.mem_cons_of_mem _ hx, hb'⟩)
  ·
   rcases List.mem_cons.1 hx with rfl | hx
   ·
    rcases f2 b hb' with h3 | h3
    ·
     exact .inr (.inr ⟨e2, List.mem_cons_self, h3⟩)
    ·
     omega
   ·
    exact .inr (.inr ⟨x, List.mem_cons_of_mem _ hx, hb'⟩))
theorem St.UI {P : Program} {X : Nat → Prop} {w0 w : World} {O L : List aN} {Ps : List (World → Prop)} {d : Nat} {ds : List Deferred} (H : St X w0 w O L Ps) (i : Nat) (hi : O[i]? = some (aN.obj d (.deferred (some [])))) :
  ∃ w', (∀ w'', qQ P ds w' w'' → qQ P ({ target := .collected d, args := #[] } :: ds) w w'') ∧ St X w0 w' (O.set i (aN.set (· = d))) L Ps := by
 have h : w.heap[d]? = some (.deferred (some [])) := H.o i hi
 have hlt := (Array.getElem?_eq_some_iff.1 h).1
 refine ⟨w.putObj d (.deferred none), fun w'' hl => .mark rfl (run_takeDeferred h) hl, ?_⟩
 exact H.uX hi (fE (W := w) (l := d) (.deferred none)) (aN.set (· = d)) (fun b hb => by cases hb; simpa using hlt) fun b => Iff.rfl
def aGx (P : Program) (g : FuncId) (fs cs : List Value) (n : Nat) (V : Nat → List Value → World → Prop) (bc : Nat) (t : TypeId) (C : Nat → Prop) (W0 : World) : Prop :=
 ∀ (f : Value) (J : (Nat → Prop) → Nat → World → Prop),
  (∀ T W1, Out (· = bc) W0 W1 → (∀ b, T b → b = bc ∨ (W0.heap.size ≤ b ∧ b < W1.heap.size)) → T bc → J T 0 W1) →
  (∀ T T' i W W', J T i W → Out T W W' → (∀ b, T b → T' b) → (∀ b, T' b → T b ∨ (W.heap.size ≤ b ∧ b < W'.heap.size)) → J T' i W') →
  (∀ T i xs W W2, i < n → J T i W → Out T W W2 → aH (· < W.heap.size) (V i xs) W2 →
   eV P f xs W2 fun v W' => Kept T C W0 W2 W' ∧ v = .bool true ∧ J T (i + 1) W') →
  M8 f →
  bF P g (fs ++ [f] ++ cs).toArray W0 fun v W' => v = .tuple #[] ∧ (∃ m : Int, aM W' bc t [.int .i64 m]) ∧ ∃ T, J T n W'
section
variable {X : Nat → Prop} {w0 w W0 : World} {O L : List aN} {Ps : List (World → Prop)} {bc : Nat} {t : TypeId} {lc : List Value} {p : World → Prop}
theorem St.aF3 (H : St X w0 w (aN.blk bc t lc :: O) L Ps) (hO : Out Nil w W0) : ∀ b, CC X O L w W0 b → b < W0.heap.size := fun b hb => by
 rcases hb with (h | ⟨e, he, h⟩ | h) | h
 ·
  exact Nat.lt_of_lt_of_le (H.aS b (.inl h)) hO.size
 ·
  exact Nat.lt_of_lt_of_le (H.aS b (.inr (.inl ⟨e, List.mem_cons_of_mem _ he, h⟩))) hO.size
 ·
  exact Nat.lt_of_lt_of_le (H.aS b (.inr (.inr h))) hO.size
 ·
  exact h.2
theorem St.rB (H : St X w0 w (aN.blk bc t lc :: O) L Ps) (hO : Out Nil w W0) (i : Nat) (hp : Ps[i]? = some p) : aH (fun b => CC X O L w W0 b ∨ b = bc) p W0 :=
 (H.bK i hp).out hO (fun _ _ h => h.elim) fun b hb h => by
  rcases h with ((h | ⟨e, he, h⟩ | h) | h) | h
  ·
   exact .inl h
  ·
   exact .inr (.inl ⟨e, List.mem_cons_of_mem _ he, h⟩)
  ·
   exact .inr (.inr h)
  ·
   omega
  ·
   exact .inr (.inl ⟨_, List.mem_cons_self, h⟩)
end
def aAO (X : Nat → Prop) (w0 : World) {α : Type} (R : α → Prop) (Of Lf : α → List aN) (Pf : α → List (World → Prop)) (bk : List aN) (sc : World → Prop) : EPost
 | .normal, _, _, W' => ∃ x, R x ∧ St X w0 W' (Of x) (Lf x ++ bk) (Pf x ++ [sc])
 | _, _, _, _ => False
theorem WE.aAT {P : Program} {N : Nat} {σ : Env} {ds : List Deferred} {w : World} {α : Type} {g : Operand} {ps : List Tmp} {assign body : Code} {Q : EPost} {X : Nat → Prop} {w0 : World} {O Lr : List aN} {Ps : List (World → Prop)}
  {gf : FuncId} {gfn : Func} {fs cs : List Value} {n : Nat} {V : Nat → List Value → World → Prop} {bc : Nat} {t : TypeId} {lc : List Value}
  (R : Nat → α → Prop) (Of Lf : Nat → α → List aN) (Pf : Nat → α → List (World → Prop)) (x0 : α)
  (H : St X w0 w (aN.blk bc t lc :: O) Lr Ps) (hg : ev σ g = .func (.func gf) fs.toArray cs.toArray) (hb : Body P gf gfn)
  (P6 : ∀ W0, Out Nil w W0 → aGx P gf fs cs n V bc t (CC X O Lr w W0) W0) (hV : ∀ i xs W, V i xs W → xs.length = ps.length)
  (h0 : R 0 x0 ∧ O = Of 0 x0 ∧ Lr = Lf 0 x0 ∧ Ps = Pf 0 x0)
  (round : ∀ (i : Nat) (x : α) (xs : List Value) (l d : Nat) (o o' : Obj) (T : Nat → Prop) (sc : World → Prop) (W : World), i < n → R i x → V i xs W →
   St X w0 W (aN.sn (· = bc) W :: Of i x) (Lf i x ++ [aN.obj l o, aN.obj d (.deferred (some [])), aN.sn T W]) (V i xs :: (Pf i x ++ [sc])) →
   WE (some l) P N assign (fun e σ1 ds1 W' => e = .normal ∧ ds1 = [] ∧ ∃ O' L' P', St X w0 W' (aN.sn (· = bc) W :: O') (L' ++ [aN.obj l o, aN.obj d (.deferred (some [])), aN.sn T W]) P' ∧ ∀ W4, St X w0 W4 (aN.sn (· = bc) W4 :: O') (L' ++ [aN.obj l o', aN.obj d (.deferred (some [])), aN.sn T W4]) P' →
    WE (some l) P N body (aAO X w0 (R (i + 1)) (fun x => aN.sn (· = bc) W4 :: Of (i + 1) x) (Lf (i + 1)) (Pf (i + 1)) [aN.obj l o', aN.obj d (.deferred (some [])), aN.sn T W4] sc) σ1 [] W4) (s8 N σ ps xs) [] W)
  (done : ∀ x d W' (m : Int), R n x → St X w0 W' (aN.blk bc t [.int .i64 m] :: Of n x) (aN.obj d (.deferred (some [])) :: Lf n x) (Pf n x) → Q .normal σ ({ target := .collected d, args := #[] } :: ds) W') :
  WE none P N (.rangeFunc g ps.toArray assign body) Q σ ds w := fun a ha => by
 refine wpIn_rangeFunc ?_
 intro fn _
 obtain ⟨rec, jS⟩ : ∃ rec : LoopState → Option Code → Loop, rec = fun st pe => { state := st, pending := pe, fn, tmps := a.tmps, params := ps.toArray, assign, body, defers := w.heap.size } := ⟨_, rfl⟩
 obtain ⟨W1, EC⟩ : ∃ W1, (w.alloc (.deferred (some []))).alloc (.loop (rec .ready none)) = W1 := ⟨_, rfl⟩
 have CO : Out Nil w W1 := by rw [← EC]; exact (Out.alloc _ _).trans (Out.alloc _ _)
 have hsz : W1.heap.size = w.heap.size + 2 := by rw [← EC]; simp
 have hbc : bc < w.heap.size := (H.o 0 rfl : aM w bc t lc).lt
 -- what is since the begin
 obtain ⟨sc, hsc⟩ : ∃ sc : World → Prop, sc = fun W => ∀ b, b < w.heap.size → ¬ YY X (aN.blk bc t lc :: O) Lr b → W.heap[b]? = w.heap[b]? := ⟨_, rfl⟩
 have H1 : St X w0 W1 (aN.blk bc t lc :: O) (aN.set Nil :: aN.obj (w.heap.size + 1) (.loop (rec .ready none)) :: aN.obj w.heap.size (.deferred (some [])) :: Lr) (Ps ++ [sc]) := by
  have Ha := H.add (p := sc) (by
   rw [hsc]
   intro w' hw' b hb hn
   exact hw' b hb hn)
  have Hb := Ha.push (Out.alloc w (.deferred (some []))) (aN.obj w.heap.size (.deferred (some []))) (World.alloc_heap_new w _) (fun b hb => by cases hb; exact Nat.le_refl _)
  have Hc := Hb.push (Out.alloc (w.alloc (.deferred (some []))) (.loop (rec .ready none))) (aN.obj (w.heap.size + 1) (.loop (rec .ready none))) (by
   have := World.alloc_heap_new (w.alloc (.deferred (some []))) (.loop (rec .ready none)); rwa [World.size_alloc] at this) (fun b hb => by cases hb; simp)
  rw [EC] at Hc
  exact (Hc.Y2 (List.perm_append_singleton sc Ps).symm).A8
 refine ⟨w.heap.size + 1, [{ target := .collected w.heap.size, args := #[] }], W1, { target := .fn (.func gf) cs.toArray, args := (fs ++ [Value.func (.yield (w.heap.size + 1)) #[] #[]]).toArray }, W1, gf,
  (fs ++ [Value.func (.yield (w.heap.size + 1)) #[] #[]] ++ cs).toArray, W1, ?_, ?_, ?_, ?_, (fun h => (by cases h)), ?_⟩
 ·
  rw [← EC, jS]; exact run_enterLoop_outer _ _ _ _ _
 ·
  have e : a.eval g = .func (.func gf) fs.toArray cs.toArray := by rw [ha.eval]; exact hg
  simp only [resolve, e]
  simp [Deferred.ofValue]
  rfl
 ·
  intro _ _; trivial
 ·
  have := fJ hb (fs ++ [Value.func (.yield (w.heap.size + 1)) #[] #[]] ++ cs).toArray W1
  simp only [invoke, List.append_toArray]
  exact this
 obtain ⟨J, hJ⟩ : ∃ J : (Nat → Prop) → Nat → World → Prop, J = fun T i W => (∀ b, T b → b = bc ∨ w.heap.size + 2 ≤ b) ∧ T bc ∧ ∃ x, R i x ∧ St X w0 W (aN.sn (· = bc) W :: Of i x) (aN.sn (fun b => T b ∧ b ≠ bc) W :: aN.obj (w.heap.size + 1) (.loop (rec .ready none)) :: aN.obj w.heap.size (.deferred (some [])) :: Lf i x) (Pf i x ++ [sc]) := ⟨_, rfl⟩
 have aHl : ∀ {T : Nat → Prop} {W W' : World} {O' L' : List aN} {P' : List (World → Prop)}, T bc → St X w0 W (aN.sn (· = bc) W :: O') (aN.sn (fun b => T b ∧ b ≠ bc) W :: L') P' → Out T W W' → St X w0 W' (aN.sn (· = bc) W' :: O') (aN.sn (fun b => T b ∧ b ≠ bc) W' :: L') P' := by
  intro T W W' O' L' P' hTb HS hout
  have aBk : bc < W.heap.size := (HS.o 0 (e := aN.sn (· = bc) W) rfl bc rfl).1
  have BP : ∀ b, T b ∧ b ≠ bc → b < W.heap.size := fun b hb => (HS.l 0 (e := aN.sn (fun b => T b ∧ b ≠ bc) W) rfl b hb).1
  refine HS.chg (hout.mono fun b _ hb => ?_) _ _ (fun b hb => ⟨by cases hb; exact Nat.lt_of_lt_of_le aBk hout.size, rfl⟩) (fun b hb => ⟨Nat.lt_of_lt_of_le (BP b hb) hout.size, rfl⟩) (fun b => Iff.rfl) (fun b hb => .inl hb)
  rcases Nat.decEq b bc with h | h
  ·
   exact .inr ⟨hb, h⟩
  ·
   exact .inl h
 have aHm : ∀ {T T' : Nat → Prop} {W W' : World} {O' L' : List aN} {P' : List (World → Prop)}, T bc → St X w0 W (aN.sn (· = bc) W :: O') (aN.sn (fun b => T b ∧ b ≠ bc) W :: L') P' → Out T W W' → (∀ b, T' b → T b ∨ (W.heap.size ≤ b ∧ b < W'.heap.size)) → St X w0 W' (aN.sn (· = bc) W' :: O') (aN.sn (fun b => T' b ∧ b ≠ bc) W' :: L') P' := by
  intro T T' W W' O' L' P' hTb HS hout hT'
  have aBk : bc < W.heap.size := (HS.o 0 (e := aN.sn (· = bc) W) rfl bc rfl).1
  have BP : ∀ b, T b ∧ b ≠ bc → b < W.heap.size := fun b hb => (HS.l 0 (e := aN.sn (fun b => T b ∧ b ≠ bc) W) rfl b hb).1
  refine HS.chg (hout.mono fun b _ hb => ?_) _ _ (fun b hb => ⟨by cases hb; exact Nat.lt_of_lt_of_le aBk hout.size, rfl⟩) (fun b hb => ⟨by
   rcases hT' b hb.1 with h | h
   ·
    exact Nat.lt_of_lt_of_le (BP b ⟨h, hb.2⟩) hout.size
   ·
    exact h.2, rfl⟩) (fun b => Iff.rfl) (fun b hb => by
   rcases hT' b hb.1 with h | h
   ·
    exact .inl ⟨h, hb.2⟩
   ·
    exact .inr h.1)
  rcases Nat.decEq b bc with h | h
  ·
   exact .inr ⟨hb, h⟩
  ·
   exact .inl h
 have wX := P6 W1 CO (.func (.yield (w.heap.size + 1)) #[] #[]) J
  (by
   intro T Wp hop hT hTb
   rw [hJ]
   refine ⟨fun b hb => (hT b hb).imp id fun h => by omega, hTb, x0, h0.1, ?_⟩
   obtain ⟨_, e1, e2, e3⟩ := h0
   rw [← e1, ← e2, ← e3]
   refine H1.chg (hop.mono fun b _ hb => .inl hb) _ _ (fun b hb => ⟨by cases hb; exact Nat.lt_of_lt_of_le hbc (Nat.le_trans CO.size hop.size), rfl⟩) (fun b hb => ⟨by
    rcases hT b hb.1 with h | h
    ·
     exact absurd h hb.2
    ·
     exact h.2, rfl⟩) (fun b => Iff.rfl) (fun b hb => by
    rcases hT b hb.1 with h | h
    ·
     exact absurd h hb.2
    ·
     exact .inr h.1))
  (by
   intro T T' i W W' h hout hTT hT'
   rw [hJ] at h ⊢
   obtain ⟨h1, h2, x, hR, HS⟩ := h
   have hlw : w.heap.size + 1 < W.heap.size := (Array.getElem?_eq_some_iff.1 (show W.heap[w.heap.size + 1]? = some (.loop (rec .ready none)) from HS.l 1 rfl)).1
   refine ⟨fun b hb => ?_, hTT _ h2, x, hR, aHm h2 HS hout hT'⟩
   rcases hT' b hb with h | h
   ·
    exact h1 b h
   ·
    exact .inr (by omega))
  (by
   intro T i xs W W2 hi h hout GQ
   rw [hJ] at h
   obtain ⟨V9, FU, x, hR, HS0⟩ := h
   have HS := aHl FU HS0 hout
   have hv : V i xs W2 := GQ.here
   have hl : W2.heap[w.heap.size + 1]? = some (.loop (rec .ready none)) := HS.l 1 rfl
   have hlt := (Array.getElem?_eq_some_iff.1 hl).1
   have hTl : ∀ b, T b → b ≠ w.heap.size + 1 := fun b hb he => by
    rcases V9 b hb with h | h
    ·
     omega
    ·
     omega
   refine .inr ⟨w.heap.size + 1, fn, (ps.toArray.zip xs.toArray).foldl (fun tmps (p : Tmp × Value) => tmps.setIfInBounds p.1 p.2) a.tmps, assign, body, rfl, ?_, ?_⟩
   ·
    have := run_yield (P := P) (args := xs.toArray) hl (by rw [jS]; simpa using hV i xs W2 hv)
    rw [this, jS]
   ·
    refine roundIn_of_wpIn trivial ?_
    have HV0 : St X w0 W2 (aN.sn (· = bc) W2 :: Of i x) (Lf i x ++ [aN.obj (w.heap.size + 1) (.loop (rec .ready none)), aN.obj w.heap.size (.deferred (some [])), aN.sn (fun b => T b ∧ b ≠ bc) W2]) (V i xs :: (Pf i x ++ [sc])) := by
     have HA := HS.add (p := V i xs) (GQ.mono fun b _ hb => by
      have := HS0.aS b (by
       rcases hb with h | ⟨e, he, h⟩ | ⟨e, he, h⟩
       ·
        exact .inl h
       ·
        refine .inr (.inl ?_)
        cases List.mem_cons.1 he with
        | inl he => subst he; exact ⟨_, List.mem_cons_self, h⟩
        | inr he => exact ⟨e, List.mem_cons_of_mem _ he, h⟩
       ·
        refine .inr (.inr ?_)
        cases List.mem_cons.1 he with
        | inl he => subst he; exact ⟨_, List.mem_cons_self, h⟩
        | inr he => exact ⟨e, List.mem_cons_of_mem _ he, h⟩)
      exact this)
     refine HA.perm ?_
     show (aN.sn (fun b => T b ∧ b ≠ bc) W2 :: aN.obj (w.heap.size + 1) _ :: aN.obj w.heap.size _ :: Lf i x).Perm _
     refine List.Perm.trans ?_ List.perm_append_comm
     exact ((List.Perm.swap _ _ _).trans ((List.Perm.swap _ _ _).cons _)).trans (List.Perm.refl _)
    have hro := round i x xs (w.heap.size + 1) w.heap.size (.loop (rec .ready none)) (.loop { rec .ready none with state := .busy }) (fun b => T b ∧ b ≠ bc) sc W2 hi hR hv HV0
    have hh := hro _ (lV.s8 ps xs σ [] { tmps := a.tmps, defers := [] } ⟨ha.size, ha.env, rfl⟩)
    have ez : ((ps.toArray.zip xs.toArray).foldl (fun tmps (p : Tmp × Value) => tmps.setIfInBounds p.1 p.2) a.tmps) = ((ps.zip xs).foldl (fun tmps (p : Tmp × Value) => tmps.setIfInBounds p.1 p.2) a.tmps) := by
     rw [← Array.foldl_toList]; simp
    show Code.wpIn _ _ _ _ _ { tmps := ((ps.toArray.zip xs.toArray).foldl (fun tmps (p : Tmp × Value) => tmps.setIfInBounds p.1 p.2) a.tmps), defers := [] } _
    rw [ez]
    refine wpIn_mono (F := FW (some (w.heap.size + 1))) hh ?_
    rintro e a1 W3 ⟨hs1, rfl, CN, O3, L3, P3, H3, EB⟩
    have H3p := H3.perm (L' := aN.obj (w.heap.size + 1) (.loop (rec .ready none)) :: aN.obj w.heap.size (.deferred (some [])) :: aN.sn (fun b => T b ∧ b ≠ bc) W2 :: L3) List.perm_append_comm
    have hl3 : W3.heap[w.heap.size + 1]? = some (.loop (rec .ready none)) := H3p.l 0 rfl
    have hlt3 := (Array.getElem?_eq_some_iff.1 hl3).1
    have hT3 : ∀ b, T b → b < W3.heap.size ∧ W3.heap[b]? = W2.heap[b]? := fun b hb => by
     rcases Nat.decEq b bc with h | h
     ·
      exact H3p.l 2 (e := aN.sn (fun b => T b ∧ b ≠ bc) W2) rfl b ⟨hb, h⟩
     ·
      exact H3p.o 0 (e := aN.sn (· = bc) W2) rfl b h
    refine ⟨_, run_beginRound hl3 (by rw [jS]), ?_⟩
    obtain ⟨Wb, sV⟩ : ∃ Wb, W3.putObj (w.heap.size + 1) (.loop { rec .ready none with state := .busy }) = Wb := ⟨_, rfl⟩
    rw [sV]
    have LY : Out (· = w.heap.size + 1) W3 Wb := by rw [← sV]; exact fE _
    have D5 : Wb.heap[w.heap.size + 1]? = some (.loop { rec .ready none with state := .busy }) := by rw [← sV]; exact World.putObj_heap_same hlt3
    have hTb : ∀ b, T b → Wb.heap[b]? = W2.heap[b]? := fun b hb => (LY.block b (hT3 b hb).1 (hTl b hb)).trans (hT3 b hb).2
    have HB : St X w0 Wb (aN.sn (· = bc) Wb :: O3) (L3 ++ [aN.obj (w.heap.size + 1) (.loop { rec .ready none with state := .busy }), aN.obj w.heap.size (.deferred (some [])), aN.sn (fun b => T b ∧ b ≠ bc) Wb]) P3 := by
     have HC := (H3p.vY LY (aN.obj (w.heap.size + 1) (.loop { rec .ready none with state := .busy })) D5 (fun b hb => .inl hb)).nY (i := 2) (e := aN.sn (fun b => T b ∧ b ≠ bc) W2) rfl (Out.refl _ Wb) (aN.sn (fun b => T b ∧ b ≠ bc) Wb) (fun b hb => ⟨Nat.lt_of_lt_of_le (hT3 b hb.1).1 LY.size, rfl⟩) (fun b hb => .inl hb)
     have HD := HC.uX (i := 0) (e := aN.sn (· = bc) W2) rfl (Out.refl _ Wb) (aN.sn (· = bc) Wb) (fun b hb => ⟨by cases hb; exact Nat.lt_of_lt_of_le (hT3 bc FU).1 LY.size, rfl⟩) (fun b => Iff.rfl)
     refine HD.perm ?_
     show (aN.obj (w.heap.size + 1) _ :: aN.obj w.heap.size _ :: aN.sn (fun b => T b ∧ b ≠ bc) Wb :: L3).Perm _
     exact List.perm_append_comm (l₁ := [_, _, _])
    have hbd := EB Wb HB a1 ⟨hs1, rfl, CN⟩
    refine wpIn_mono (F := FW (some (w.heap.size + 1))) hbd ?_
    rintro e a4 W4 ⟨hs4, hq⟩
    cases e with
    | normal =>
     obtain ⟨x', hR', H4⟩ := hq
     have H5 : St X w0 W4 (aN.sn (· = bc) Wb :: Of (i + 1) x') (aN.obj (w.heap.size + 1) (.loop { rec .ready none with state := .busy }) :: aN.obj w.heap.size (.deferred (some [])) :: aN.sn (fun b => T b ∧ b ≠ bc) Wb :: Lf (i + 1) x') (Pf (i + 1) x' ++ [sc]) := H4.perm List.perm_append_comm
     have T3 : W4.heap[w.heap.size + 1]? = some (.loop { rec .ready none with state := .busy }) := H5.l 0 rfl
     have L2 := (Array.getElem?_eq_some_iff.1 T3).1
     have zR : ∀ b, T b → b < W4.heap.size ∧ W4.heap[b]? = Wb.heap[b]? := fun b hb => by
      rcases Nat.decEq b bc with h | h
      ·
       exact H5.l 2 (e := aN.sn (fun b => T b ∧ b ≠ bc) Wb) rfl b ⟨hb, h⟩
      ·
       exact H5.o 0 (e := aN.sn (· = bc) Wb) rfl b h
     have P7 : sc W4 := (H5.iH sc (by simp)).here
     refine ⟨_, W4.putObj (w.heap.size + 1) (.loop (rec .ready none)), ?_, _, rfl, ?_, rfl, ?_⟩
     ·
      have := run_endRound (P := P) none T3
      rw [jS] at this ⊢
      exact this
     ·
      have yE := H1.os
      have ho2 := H1.tape
      have ho3 := H1.output
      refine ⟨H4.os.trans yE.symm, H4.tape.trans ho2.symm, H4.output.trans ho3.symm, by simp; omega, ?_, ?_⟩
      ·
       intro b hb
       have h1 := zR b hb
       refine ⟨by simpa using h1.1, ?_⟩
       rw [World.putObj_heap_other (hTl b hb), h1.2, hTb b hb]
      ·
       intro b hb hC hTn
       rcases Nat.lt_or_ge b w.heap.size with D4 | hge
       ·
        rw [World.putObj_heap_other (by omega)]
        rw [hsc] at P7
        rw [P7 b D4 (fun h => by
         rcases h with h | ⟨e, he, h⟩ | h
         ·
          exact hC (.inl (.inl h))
         ·
          rcases List.mem_cons.1 he with rfl | he
          ·
           have hbb : b = bc := h
           exact hTn (hbb ▸ FU)
          ·
           exact hC (.inl (.inr (.inl ⟨e, he, h⟩)))
         ·
          exact hC (.inl (.inr (.inr h))))]
        exact (CO.block b D4 id).symm
       ·
        exact absurd (show CC X O Lr w W1 b from .inr ⟨hge, hb⟩) hC
     ·
      rw [hJ]
      refine ⟨V9, FU, x', hR', ?_⟩
      have H6 := (H5.vY (w' := W4.putObj (w.heap.size + 1) (.loop (rec .ready none))) (fE _) (aN.obj (w.heap.size + 1) (.loop (rec .ready none))) (World.putObj_heap_same L2) (fun b hb => .inl hb))
      have H7 := H6.nY (i := 2) (e := aN.sn (fun b => T b ∧ b ≠ bc) Wb) rfl (Out.refl _ _) (aN.sn (fun b => T b ∧ b ≠ bc) (W4.putObj (w.heap.size + 1) (.loop (rec .ready none)))) (fun b hb => ⟨by simpa using (zR b hb.1).1, rfl⟩) (fun b hb => .inl hb)
      have H8 := H7.uX (i := 0) (e := aN.sn (· = bc) Wb) rfl (Out.refl _ _) (aN.sn (· = bc) (W4.putObj (w.heap.size + 1) (.loop (rec .ready none)))) (fun b hb => ⟨by cases hb; simpa using (zR bc FU).1, rfl⟩) (fun b => Iff.rfl)
      refine H8.perm ?_
      exact ((List.Perm.swap _ _ _).cons _).trans (List.Perm.swap _ _ _)
    | ret => exact hq.elim
    | exit id => exact hq.elim
    | goto t => exact hq.elim
    | panic c => exact hq.elim
    | outgrown => exact hq.elim)
  (.inr ⟨_, _, _, rfl⟩)
 refine CallsIn.mono (F := FW none) (n := 0) wX ?_
 rintro e W2 ⟨v, rfl, _, ⟨m, hBm⟩, T, ZW⟩
 rw [hJ] at ZW
 obtain ⟨V9, FU, x, hR, HS⟩ := ZW
 have hl : W2.heap[w.heap.size + 1]? = some (.loop (rec .ready none)) := HS.l 1 rfl
 refine ⟨none, _, by have := run_endLoop (P := P) hl (by rw [jS]; simp); rw [jS] at this; exact this, ?_⟩
 have HM := HS.uX (i := 0) (e := aN.sn (· = bc) W2) rfl (Out.refl _ W2) (aN.blk bc t [.int .i64 m]) hBm (fun b => Iff.rfl)
 have HE := (HM.xK).vY (fE (W := W2) (l := w.heap.size + 1) (.loop { rec .ready none with state := .exhausted })) (aN.set Nil) (fun b hb => hb.elim) (fun b hb => hb.elim)
 have HF := (HE.xK).drop (IA := Pf n x) (fun p hp => List.mem_append_left _ hp)
 have hd := done x _ _ m hR HF
 refine ⟨ha.size, ?_⟩
 rw [jS] at hd
 have e1 : fT { a with defers := [{ target := .collected w.heap.size, args := #[] }] ++ a.defers } = σ := ha.env
 show Q .normal (fT _) _ _
 rw [e1]
 simp only [ha.defers, List.singleton_append]
 exact hd
end Go.Sp
