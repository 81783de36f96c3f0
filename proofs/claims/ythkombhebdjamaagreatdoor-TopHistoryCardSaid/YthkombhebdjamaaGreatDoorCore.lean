/- Part of the proof of this claim: walks through the program's functions and the plain laws that they need, printed by a program of this session. -/
import Derived.CallsIn
import Derived.OrdersIn
import Derived.OrdersHeld
import Derived.TacticsIn
import Derived.RangeFuncLeaves
import Derived.WalkKit
namespace Go.Sp
theorem bW : (∀ (p : Prop) [Decidable p], (decide p = true) = p) ∧ (∀ (p : Prop) [Decidable p], decide p = false ↔ ¬p) ∧ (∀ (α : Type) (a b : α), (a ≠ b) = ¬(a = b)) ∧ (∀ (p : Prop) [Decidable p], ¬¬p ↔ p) ∧ (∀ b, ((!b) = true) = (b = false)) ∧ (∀ b, ((!b) = false) = (b = true)) ∧ (∀ a b, ((a && b) = true) = (a = true ∧ b = true)) ∧ (∀ a b, ((a || b) = true) = (a = true ∨ b = true)) ∧ (∀ b, (!!b) = b) ∧ (∀ x y, (x && y) = false ↔ x = false ∨ y = false) ∧ (∀ x y, (x || y) = false ↔ x = false ∧ y = false) ∧ (∀ a b : Int, ¬a < b ↔ b ≤ a) ∧ (∀ a b : Int, ¬a ≤ b ↔ b < a) := ⟨fun _ _ => decide_eq_true_eq, fun _ _ => decide_eq_false_iff_not, fun _ a b => ne_eq a b, fun _ _ => Decidable.not_not, fun _ => Bool.not_eq_true' .., fun _ => Bool.not_eq_false' .., Bool.and_eq_true, Bool.or_eq_true, Bool.not_not, fun _ _ => Bool.and_eq_false_iff, fun _ _ => Bool.or_eq_false_iff, fun _ _ => Int.not_lt, fun _ _ => Int.not_le⟩
theorem fa {α : Type} {p : α → Prop} {a : α} {l : List α} (h : p a) (k : ∀ x ∈ l, p x) : ∀ x ∈ a :: l, p x := List.forall_mem_cons.2 ⟨h, k⟩
theorem c5 {α : Type} {p : α → Prop} : ∀ x ∈ ([] : List α), p x := fun _ h => by cases h
def rg : List (Nat × Nat) → List Nat
 | [] => []
 | (a, n) :: r => List.range' a n ++ rg r
abbrev cY (X : Nat → Prop) (w : World) : Prop := ∀ b, X b → b < w.heap.size
abbrev Env := Nat → Value
abbrev EPost := Exit → Env → List Deferred → World → Prop
abbrev FW (r : Option Nat) : Fence := { fn := fun _ => True, depth := none, alive := false, round := r }
def ev (σ : Env) : Operand → Value
 | .tmp t => σ t
 | .const v => v
 | .global g => .pointer (some ⟨g, 0, none⟩)
 | .func f => .func (.func f) #[] #[]
def dD (N : Nat) (σ : Env) (d : Option Nat) (v : Value) : Env :=
 match d with
 | none => σ
 | some d => fun t => cond (Nat.beq t d && Nat.blt d N) v (σ t)
def gL (a : Act) : Env := fun t => a.tmps.getD t undef
structure mL (N : Nat) (σ : Env) (ds : List Deferred) (a : Act) : Prop where
 size : a.tmps.size = N
 env : gL a = σ
 defers : a.defers = ds
theorem ZC (a : Act) : a.eval = ev (gL a) := by
 funext x; cases x <;> rfl
theorem mL.eval {N : Nat} {σ : Env} {ds : List Deferred} {a : Act} (h : mL N σ ds a) : a.eval = ev σ := by
 rw [ZC, h.env]
theorem N6 (a : Act) (d : Option Nat) (v : Value) : gL (a.put d v) = dD a.tmps.size (gL a) d v := by
 cases d with
 | none => rfl
 | some d =>
  funext t
  simp only [gL, Act.put, dD, Array.getD_eq_getD_getElem?]
  by_cases h : t = d
  ·
   subst h
   by_cases hl : t < a.tmps.size
   ·
    have : Nat.blt t a.tmps.size = true := by simpa [Nat.blt_eq] using hl
    simp [this, hl]
   ·
    have : Nat.blt t a.tmps.size = false := by
     rw [Bool.eq_false_iff]; intro hb; exact hl (by simpa [Nat.blt_eq] using hb)
    simp [this, Array.setIfInBounds, hl]
  ·
   have hb : Nat.beq t d = false := by
    rw [Bool.eq_false_iff]; intro hb; exact h (Nat.eq_of_beq_eq_true hb)
   rw [hb, Bool.false_and, cond_false, Array.getElem?_setIfInBounds_ne (Ne.symm h)]
theorem mL.put {N : Nat} {σ : Env} {ds : List Deferred} {a : Act} (h : mL N σ ds a) (d : Option Nat) (v : Value) : mL N (dD N σ d v) ds (a.put d v) := by
 refine ⟨?_, ?_, ?_⟩
 ·
  cases d with
  | none => exact h.size
  | some d => simpa [Act.put] using h.size
 ·
  rw [N6, h.size, h.env]
 ·
  cases d <;> exact h.defers
def HH (ops : Array Oper) (σ : Env) (j : Nat) : Option Bool :=
 match (ops[j]?).bind (·.dst) with
 | some t => match σ t with
  | .bool b => some b
  | _ => none
 | none => none
theorem mL.yielded {N : Nat} {σ : Env} {ds : List Deferred} {a : Act} (h : mL N σ ds a) (ops : Array Oper) : Go.yielded ops a.tmps = HH ops σ := by
 funext j
 unfold Go.yielded HH
 cases (ops[j]?).bind (·.dst) with
 | none => rfl
 | some t =>
  simp only [Option.bind_some, ← h.env, gL, Array.getD_eq_getD_getElem?]
  cases a.tmps[t]? with
  | none => rfl
  | some v => cases v <;> rfl
def low (N : Nat) (Q : EPost) : Exit → Act → World → Prop := fun e a w => a.tmps.size = N ∧ Q e (gL a) a.defers w
def WE (r : Option Nat) (P : Program) (N : Nat) (c : Code) (Q : EPost) (σ : Env) (ds : List Deferred) (w : World) : Prop :=
 ∀ a, mL N σ ds a → c.wpIn (FW r) 0 P (low N Q) a w
def u6 (K : Env → List Deferred → World → Prop) (Q : EPost) : EPost
 | .normal, σ, ds, w => K σ ds w
 | .exit i, σ, ds, w => Q (.exit i) σ ds w
 | .goto l, σ, ds, w => Q (.goto l) σ ds w
 | .ret, σ, ds, w => Q .ret σ ds w
 | .panic c, σ, ds, w => Q (.panic c) σ ds w
 | .outgrown, σ, ds, w => Q .outgrown σ ds w
def JM (id : Nat) (Q : EPost) : EPost
 | .normal, σ, ds, w => Q .normal σ ds w
 | .exit i, σ, ds, w => cond (Nat.beq i id) (Q .normal σ ds w) (Q (.exit i) σ ds w)
 | .goto l, σ, ds, w => Q (.goto l) σ ds w
 | .ret, σ, ds, w => Q .ret σ ds w
 | .panic c, σ, ds, w => Q (.panic c) σ ds w
 | .outgrown, σ, ds, w => Q .outgrown σ ds w
def WL (r : Option Nat) (P : Program) (N : Nat) (ops : Array Oper) (l : List Oper) (K : Env → List Deferred → World → Prop) (σ : Env) (ds : List Deferred) (w : World) : Prop :=
 ∀ a, mL N σ ds a → wpListIn (FW r) 0 P ops (low N (fun e σ ds w => e = .normal ∧ K σ ds w)) l a w
section
variable {r : Option Nat} {P : Program} {N : Nat} {Q : EPost} {σ : Env} {ds : List Deferred} {w : World}
theorem WE.mono {c : Code} {Q' : EPost} (h : WE r P N c Q σ ds w) (hq : ∀ e σ ds w, Q e σ ds w → Q' e σ ds w) : WE r P N c Q' σ ds w :=
 fun a ha => wpIn_mono (h a ha) fun _ _ _ hh => ⟨hh.1, hq _ _ _ _ hh.2⟩
theorem WE.seq {x y : Code} (h : WE r P N x (u6 (WE r P N y Q) Q) σ ds w) : WE r P N (.seq x y) Q σ ds w := fun a ha => by
 refine wpIn_seq (wpIn_mono (h a ha) ?_)
 rintro e a' w' ⟨hs, hq⟩
 cases e with
 | normal => exact hq a' ⟨hs, rfl, rfl⟩
 | _ => exact ⟨hs, hq⟩
theorem WE.skip (h : Q .normal σ ds w) : WE r P N .skip Q σ ds w := fun a ha => wpIn_skip ⟨ha.size, by rw [ha.env, ha.defers]; exact h⟩
theorem WE.exit {id : Nat} (h : Q (.exit id) σ ds w) : WE r P N (.exit id) Q σ ds w := fun a ha => wpIn_exit ⟨ha.size, by rw [ha.env, ha.defers]; exact h⟩
theorem WE.ret (h : Q .ret σ ds w) : WE r P N .ret Q σ ds w := fun a ha => wpIn_ret ⟨ha.size, by rw [ha.env, ha.defers]; exact h⟩
theorem WE.block {id : Nat} {c : Code} (h : WE r P N c (JM id Q) σ ds w) : WE r P N (.block id c) Q σ ds w := fun a ha => by
 refine wpIn_block (wpIn_mono (h a ha) ?_)
 rintro e a' w' ⟨hs, hq⟩
 cases e with
 | exit i =>
  by_cases hi : i = id
  ·
   subst hi
   have hb : Nat.beq i i = true := by simp
   simp only [JM, hb, cond_true] at hq
   simp only [Exit.inBlock, if_true]
   exact ⟨hs, hq⟩
  ·
   have hb : Nat.beq i id = false := by rw [Bool.eq_false_iff]; intro hb; exact hi (Nat.eq_of_beq_eq_true hb)
   simp only [JM, hb, cond_false] at hq
   simp only [Exit.inBlock, hi, if_false]
   exact ⟨hs, hq⟩
 | _ => exact ⟨hs, hq⟩
theorem WE.lN {c : Operand} {x y : Code} (hc : ev σ c = .bool true) (h : WE r P N x Q σ ds w) : WE r P N (.cond c x y) Q σ ds w :=
 fun a ha => wpIn_cond_true (by rw [ha.eval]; exact hc) (h a ha)
theorem WE.jB {c : Operand} {x y : Code} (hc : ev σ c = .bool false) (h : WE r P N y Q σ ds w) : WE r P N (.cond c x y) Q σ ds w :=
 fun a ha => wpIn_cond_false (by rw [ha.eval]; exact hc) (h a ha)
theorem WE.cond {c : Operand} {x y : Code} {t : Bool} (hc : ev σ c = .bool t) (ht : t = true → WE r P N x Q σ ds w) (hf : t = false → WE r P N y Q σ ds w) :
  WE r P N (.cond c x y) Q σ ds w := by
 cases t with
 | true => exact WE.lN hc (ht rfl)
 | false => exact WE.jB hc (hf rfl)
theorem WE.dY {id : Nat} {l : List Oper} (h : WL r P N l.toArray l (Q .normal) σ ds w) : WE r P N (.region id l.toArray false) Q σ ds w := fun a ha => by
 refine wpIn_mono (wpIn_region_lit (h a ha)) ?_
 rintro e a' w' ⟨hs, he, hq⟩
 subst he
 exact ⟨hs, hq⟩
theorem WE.aA {id : Nat} {l : List Oper} {y : Code} (h : WL r P N l.toArray l (WE r P N y Q) σ ds w) : WE r P N (.seq (.region id l.toArray false) y) Q σ ds w :=
 WE.seq (WE.dY (Q := u6 (WE r P N y Q) Q) h)
def rP (t : Nat) : List Nat → Bool
 | [] => false
 | d :: D => Nat.beq t d || rP t D
def forget (D : List Nat) (γ σ : Env) : Env := fun t => cond (rP t D) (γ t) (σ t)
def bY (N : Nat) (σ : Env) : List (Nat × Value) → Env
 | [] => σ
 | (d, v) :: l => dD N (bY N σ l) (some d) v
def bM (D : List Nat) (σ σ' : Env) : Prop := ∀ t, rP t D = false → σ t = σ' t
theorem bM.refl (D : List Nat) (σ : Env) : bM D σ σ := fun _ _ => rfl
theorem bM.dD {D : List Nat} {σ σ' : Env} {d : Nat} {v : Value} (hd : rP d D = true) (h : bM D σ σ') : bM D (dD N σ (some d) v) σ' := fun t ht => by
 show cond (Nat.beq t d && Nat.blt d N) v (σ t) = _
 by_cases e : t = d
 ·
  subst e; rw [hd] at ht; cases ht
 ·
  have hb : Nat.beq t d = false := by rw [Bool.eq_false_iff]; intro hb; exact e (Nat.eq_of_beq_eq_true hb)
  rw [hb, Bool.false_and]; exact h t ht
theorem bM.forget {D E : List Nat} {γ σ σ' : Env} (hE : ∀ t, rP t E = true → rP t D = true) (h : bM D σ σ') : bM D (forget E γ σ) σ' := fun t ht => by
 show cond (rP t E) (γ t) (σ t) = _
 have : rP t E = false := by
  rw [Bool.eq_false_iff]; intro hb; rw [hE t hb] at ht; cases ht
 rw [this]; exact h t ht
theorem RR {t : Nat} {D : List Nat} : rP t D = true ↔ t ∈ D := by
 induction D with
 | nil => simp [rP]
 | cons d D ih => simp [rP, ih]
theorem bM.bV {D E : List Nat} {γ σ σ' : Env} (hE : (E.all fun t => rP t D) = true) (h : bM D σ σ') : bM D (Sp.forget E γ σ) σ' :=
 h.forget fun t ht => (List.all_eq_true.1 hE) t (RR.1 ht)
theorem bM.bY {D : List Nat} {σ σ' : Env} {l : List (Nat × Value)} (hl : (l.all fun p => rP p.1 D) = true) (h : bM D σ σ') : bM D (Sp.bY N σ l) σ' := by
 induction l with
 | nil => exact h
 | cons p l ih =>
  simp only [List.all_cons, Bool.and_eq_true] at hl
  exact bM.dD hl.1 (ih hl.2)
def Holds (σ : Env) : List (Nat × Value) → Prop
 | [] => True
 | (d, v) :: l => σ d = v ∧ Holds σ l
theorem ED {σ : Env} {l : List (Nat × Value)} (h : Holds σ l) : bY N σ l = σ := by
 induction l with
 | nil => rfl
 | cons p l ih =>
  obtain ⟨d, v⟩ := p
  obtain ⟨h1, h2⟩ := h
  have e : bY N σ ((d, v) :: l) = dD N (bY N σ l) (some d) v := rfl
  rw [e, ih h2]
  funext t
  show cond (Nat.beq t d && Nat.blt d N) v (σ t) = σ t
  by_cases e : t = d
  ·
   subst e
   cases (Nat.beq t t && Nat.blt t N) <;> simp [h1]
  ·
   have hb : Nat.beq t d = false := by rw [Bool.eq_false_iff]; intro hb; exact e (Nat.eq_of_beq_eq_true hb)
   rw [hb]; rfl
theorem pE {D : List Nat} {σ σ' : Env} {l : List (Nat × Value)} (h : bM D σ' σ) (hl : Holds σ' l) : σ' = bY N (forget D σ' σ) l := by
 have e : forget D σ' σ = σ' := by
  funext t
  show cond (rP t D) (σ' t) (σ t) = σ' t
  cases ht : rP t D with
  | true => rfl
  | false => exact (h t ht).symm
 rw [e, ED hl]
theorem exists_least {p : Nat → Prop} : ∀ n, p n → ∃ m, p m ∧ ∀ k, p k → m ≤ k := fun n => by
 induction n using Nat.strongRecOn with
 | _ n ih =>
  intro hn
  by_cases h : ∃ k, k < n ∧ p k
  ·
   obtain ⟨k, hk, hp⟩ := h; exact ih k hk hp
  ·
   exact ⟨n, hn, fun k hk => Nat.le_of_not_lt fun hlt => h ⟨k, hlt, hk⟩⟩
open Classical in
noncomputable def leastOf (p : Nat → Prop) : Nat := if h : ∃ m, p m ∧ ∀ k, p k → m ≤ k then Classical.choose h else 0
theorem leastOf_spec {p : Nat → Prop} {n : Nat} (h : p n) : p (leastOf p) ∧ leastOf p ≤ n := by
 have hex := exists_least n h
 unfold leastOf
 rw [dif_pos hex]
 exact ⟨(Classical.choose_spec hex).1, (Classical.choose_spec hex).2 n h⟩
theorem WE.loop {α : Type} {c : Code} (D : List Nat) (vars : α → List (Nat × Value)) (I : α → World → Prop) (μ : α → Nat) (x0 : α)
  (h0 : Holds σ (vars x0)) (i0 : I x0 w)
  (round : ∀ x γ w, I x w → WE r P N c (u6 (fun σ' ds' w' => ∃ x', bM D σ' σ ∧ Holds σ' (vars x') ∧ ds' = ds ∧ I x' w' ∧ μ x' < μ x) Q) (bY N (forget D γ σ) (vars x)) ds w) :
  WE r P N (.loop c) Q σ ds w := fun a ha => by
 refine wpIn_loop (fun a' w' => a'.tmps.size = N ∧ a'.defers = ds ∧ bM D (gL a') σ ∧ ∃ x, Holds (gL a') (vars x) ∧ I x w')
  (fun a' w' => leastOf fun m => ∃ x, Holds (gL a') (vars x) ∧ I x w' ∧ μ x = m) ?_ ?_
 ·
  exact ⟨ha.size, ha.defers, by rw [ha.env]; exact bM.refl _ _, x0, by rw [ha.env]; exact h0, i0⟩
 ·
  rintro a' w' ⟨hs, hd, ho, x1, hx1, hx2⟩
  obtain ⟨⟨x, h1, h2, h3⟩, _⟩ := leastOf_spec (p := fun m => ∃ x, Holds (gL a') (vars x) ∧ I x w' ∧ μ x = m) ⟨x1, hx1, hx2, rfl⟩
  have he : gL a' = bY N (forget D (gL a') σ) (vars x) := pE ho h1
  refine wpIn_mono (round x (gL a') w' h2 a' ⟨hs, he, hd⟩) ?_
  rintro e a₂ w₂ ⟨hs₂, hq⟩
  cases e with
  | normal =>
   obtain ⟨x', o', h1', YM, h2', hlt⟩ := hq
   refine ⟨⟨hs₂, YM, o', x', h1', h2'⟩, ?_⟩
   have := (leastOf_spec (p := fun m => ∃ x, Holds (gL a₂) (vars x) ∧ I x w₂ ∧ μ x = m) ⟨x', h1', h2', rfl⟩).2
   omega
  | _ => exact ⟨hs₂, hq⟩
theorem WE.cut {α : Type} {x y : Code} (D : List Nat) (vars : α → List (Nat × Value)) (I : α → World → Prop)
  (first : WE r P N x (u6 (fun σ' ds' w' => ∃ g, bM D σ' σ ∧ Holds σ' (vars g) ∧ ds' = ds ∧ I g w') Q) σ ds w)
  (behind : ∀ g γ w, I g w → WE r P N y Q (bY N (forget D γ σ) (vars g)) ds w) : WE r P N (.seq x y) Q σ ds w := by
 refine WE.seq (WE.mono first ?_)
 intro e σ' ds' w' hq
 cases e with
 | normal =>
  obtain ⟨g, ho, hv, hd, hI⟩ := hq
  subst hd
  have := behind g σ' w' hI
  rw [← pE (N := N) ho hv] at this
  exact this
 | _ => exact hq
theorem WE.norm {c : Code} {σ0 : Env} (D : List Nat) (vars : List (Nat × Value)) (ho : bM D σ σ0) (hl : Holds σ vars) (k : ∀ γ, WE r P N c Q (bY N (forget D γ σ0) vars) ds w) : WE r P N c Q σ ds w := by
 have h := k σ
 rwa [← pE (N := N) ho hl] at h
variable {ops : Array Oper} {rest : List Oper} {o : Oper} {K : Env → List Deferred → World → Prop}
theorem WL.nil (h : K σ ds w) : WL r P N ops [] K σ ds w := fun a ha => ⟨ha.size, rfl, by rw [ha.env, ha.defers]; exact h⟩
def cH (ops : Array Oper) (σ : Env) (o : Oper) : Bool :=
 match o.guard with
 | none => true
 | some (j, want) => HH ops σ j == some want
theorem kN {a : Act} (ha : mL N σ ds a) : Region.wanted o (yielded ops a.tmps) = cH ops σ o := by
 unfold Region.wanted cH
 rw [ha.yielded]
 cases o.guard <;> rfl
def eW (o : Oper) : Bool := match o.op with | .defer _ => false | _ => true
theorem gX (h : eW o = true) (ro : Option Nat) (ρ : Operand → Value) : o.semAt ro ρ = execOp ρ o :=
 Oper.semAt_eq ro ρ o fun c hc => by rw [eW, hc] at h; cases h
theorem WL.val {v : Value} {w' : World} (hw : cH ops σ o = true) (hd : eW o = true) (h : (execOp (ev σ) o).run P w = .ok (.value v) w')
  (k : WL r P N ops rest K (dD N σ o.dst v) ds w') : WL r P N ops (o :: rest) K σ ds w := fun a ha => by
 unfold wpListIn
 rw [kN ha, hw]
 refine ⟨fun _ _ => trivial, ?_⟩
 rw [gX hd, ha.eval, h]
 exact k _ (ha.put _ _)
theorem WL.unit {w' : World} (hw : cH ops σ o = true) (hd : eW o = true) (h : (execOp (ev σ) o).run P w = .ok .skip w')
  (k : WL r P N ops rest K (dD N σ o.dst undef) ds w') : WL r P N ops (o :: rest) K σ ds w := fun a ha => by
 unfold wpListIn
 rw [kN ha, hw]
 refine ⟨fun _ _ => trivial, ?_⟩
 rw [gX hd, ha.eval, h]
 exact k _ (ha.put _ _)
theorem WL.off (hw : cH ops σ o = false) (k : WL r P N ops rest K (dD N σ o.dst undef) ds w) : WL r P N ops (o :: rest) K σ ds w := fun a ha => by
 unfold wpListIn
 rw [kN ha, hw]
 exact ⟨fun _ _ => trivial, k _ (ha.put _ _)⟩
def bC (P : Program) (f : FuncId) (args : Array Value) (w : World) (R : Value → World → Prop) : Prop :=
 CallsIn (FW none) 0 P f args w fun e w' => ∃ v, e = .returned v ∧ R v w'
theorem bC.mono {f : FuncId} {args : Array Value} {R R' : Value → World → Prop} (h : bC P f args w R) (hr : ∀ v w', R v w' → R' v w') : bC P f args w R' :=
 CallsIn.mono h fun _ _ ⟨v, he, hR⟩ => ⟨v, he, hr _ _ hR⟩
theorem bC.calls {f : FuncId} {args : Array Value} {R : Value → World → Prop} (h : bC P f args w R) : Calls P f args w (fun e w' => ∃ v, e = .returned v ∧ R v w') :=
 (callsIn_wide (n := 0)).1 h
theorem bC.RK {f : FuncId} {args : Array Value} {R : Value → World → Prop} (h : Calls P f args w (fun e w' => ∃ v, e = .returned v ∧ R v w')) : bC P f args w R :=
 (callsIn_wide (n := 0)).2 h
theorem WL.enter {f : FuncId} {args : Array Value} {w' : World} {R : Value → World → Prop} (hw : cH ops σ o = true) (hd : eW o = true)
  (h : (execOp (ev σ) o).run P w = .ok (.enter f args) w') (hc : bC P f args w' R)
  (k : ∀ v w'', R v w'' → WL r P N ops rest K (dD N σ o.dst v) ds w'') : WL r P N ops (o :: rest) K σ ds w := fun a ha => by
 unfold wpListIn
 rw [kN ha, hw]
 refine ⟨fun _ _ => trivial, ?_⟩
 rw [gX hd, ha.eval, h]
 refine ⟨fun h => (by cases h), ?_⟩
 refine CallsIn.mono (F := FW r) (n := 0) (show CallsIn (FW r) 0 P f args w' _ from hc) ?_
 rintro e w'' ⟨v, rfl, hR⟩
 exact k v w'' hR _ (ha.put _ _)
structure Body (P : Program) (f : FuncId) (fn : Func) : Prop where
 at_ : P.funcs[f]? = some fn
 name : fn.name ≠ "runtime.NumGoroutine"
 body : fn.body.isSome = true
theorem fW {f : FuncId} {fn : Func} (hb : Body P f fn) (args : Array Value) (w : World) : (callFunc f args).run P w = .ok (.enter f args) w := by
 obtain ⟨h1, h2, h3⟩ := hb
 have h4 : fn.body ≠ none := fun e => by rw [e] at h3; cases h3
 simp [callFunc, program, Sem.run, h1, h2, h4]
theorem WL.call {dst : Option Tmp} {f : FuncId} {fn : Func} {xs : List Operand} {qV : Array TypeId} {ty : TypeId} {pos : String} {after : Array Edge} {guard : Option (Nat × Bool)} {R : Value → World → Prop}
  (hb : Body P f fn) (hw : cH ops σ ⟨dst, .call ⟨.value (.func f), xs.toArray, qV⟩, ty, pos, after, guard⟩ = true)
  (hc : bC P f (xs.map (ev σ)).toArray w R)
  (k : ∀ v w'', R v w'' → WL r P N ops rest K (dD N σ dst v) ds w'') : WL r P N ops (⟨dst, .call ⟨.value (.func f), xs.toArray, qV⟩, ty, pos, after, guard⟩ :: rest) K σ ds w := by
 refine WL.enter (R := R) hw rfl ?_ hc k
 simp only [execOp, resolve, ev]
 simp [Deferred.ofValue, invoke, fW hb]
theorem WL.rD {dst : Option Tmp} {x : Operand} {f : FuncId} {fn : Func} {fs cs : List Value} {xs : List Operand} {qV : Array TypeId} {ty : TypeId} {pos : String} {after : Array Edge} {guard : Option (Nat × Bool)} {R : Value → World → Prop}
  (hb : Body P f fn) (hx : ev σ x = .func (.func f) fs.toArray cs.toArray) (hw : cH ops σ ⟨dst, .call ⟨.value x, xs.toArray, qV⟩, ty, pos, after, guard⟩ = true)
  (hc : bC P f (fs ++ xs.map (ev σ) ++ cs).toArray w R)
  (k : ∀ v w'', R v w'' → WL r P N ops rest K (dD N σ dst v) ds w'') : WL r P N ops (⟨dst, .call ⟨.value x, xs.toArray, qV⟩, ty, pos, after, guard⟩ :: rest) K σ ds w := by
 refine WL.enter (R := R) hw rfl ?_ hc k
 simp only [execOp, resolve]
 simp [Deferred.ofValue, hx, invoke, fW hb]
def xD (P : Program) (σ : Env) (w : World) : List ResultVar → List Value → Prop
 | [], [] => True
 | .tmp t :: l, v :: vs => σ t = v ∧ xD P σ w l vs
 | .cell a t :: l, v :: vs => (∃ p, σ a = .pointer (some p) ∧ (loadVar t p).run P w = .ok v w) ∧ xD P σ w l vs
 | _, _ => False
def B6 (vs : List Value) : Value := match vs with | [v] => v | vs => .tuple vs.toArray
def oY (tmps : Array Value) : ResultVar → Sem Value
 | .tmp t => pure (tmps.getD t undef)
 | .cell x t => do loadVar t (← asAddr (tmps.getD x undef))
theorem results_eq (fn : Func) (tmps : Array Value) : results fn tmps = (do
  let vs ← fn.results.mapM (oY tmps)
  pure (if h : vs.size = 1 then vs[0] else .tuple vs)) := by
 unfold results
 congr 1
theorem kO {a : Act} (ha : mL N σ ds a) : ∀ (l : List ResultVar) (vs : List Value), xD P σ w l vs →
  (l.mapM (oY a.tmps)).run P w = .ok vs w
 | [], [], _ => by simp
 | .tmp t :: l, v :: vs, h => by
  obtain ⟨h1, h2⟩ := h
  have e : a.tmps.getD t undef = v := by rw [← h1, ← ha.env]; rfl
  have ih := kO ha l vs h2
  have e1 : (oY a.tmps (.tmp t)).run P w = .ok v w := by simp only [oY, e]; rfl
  rw [List.mapM_cons]
  simp only [Sem.run_bind, e1, Result.andThen, ih]
  rfl
 | .cell x t :: l, v :: vs, h => by
  obtain ⟨⟨p, h1, h3⟩, h2⟩ := h
  have e : a.tmps.getD x undef = .pointer (some p) := by rw [← h1, ← ha.env]; rfl
  have ih := kO ha l vs h2
  have e1 : (oY a.tmps (.cell x t)).run P w = .ok v w := by
   simp only [oY, e, asAddr]
   exact h3
  rw [List.mapM_cons]
  simp only [Sem.run_bind, e1, Result.andThen, ih]
  rfl
 | [], _ :: _, h => h.elim
 | .tmp _ :: _, [], h => h.elim
 | .cell _ _ :: _, [], h => h.elim
theorem k9 {a : Act} (ha : mL N σ ds a) {fn : Func} {vs : List Value} (h : xD P σ w fn.results.toList vs) : (results fn a.tmps).run P w = .ok (B6 vs) w := by
 rw [results_eq]
 have h1 := kO (N := N) ha fn.results.toList vs h
 rw [← Array.toArray_toList (xs := fn.results)]
 generalize fn.results.toList = l at h1
 rw [List.mapM_toArray]
 have h2 : (List.toArray <$> l.mapM (oY a.tmps)).run P w = .ok vs.toArray w := by
  rw [map_eq_pure_bind, Sem.run_bind, h1]
  rfl
 rw [Sem.run_bind, h2]
 match vs with
 | [] => rfl
 | [v] => rfl
 | v :: u :: vs => 
  simp only [Result.andThen, List.size_toArray, List.length_cons]
  rw [dif_neg (by omega)]
  rfl
inductive rJ (P : Program) : List Deferred → World → World → Prop
 | nil (w : World) : rJ P [] w w
 | mark {d : Deferred} {ds : List Deferred} {b : Nat} {w w' w'' : World} (ht : d.target = .collected b) (hr : (Instr.takeDeferred b).run P w = .ok [] w')
   (h : rJ P ds w' w'') : rJ P (d :: ds) w w''
def aHp (P : Program) (fn : Func) (R : Value → World → Prop) : EPost
 | .normal, σ, ds, w => ∃ vs w', rJ P ds w w' ∧ xD P σ w' fn.results.toList vs ∧ R (B6 vs) w'
 | .ret, σ, ds, w => ∃ vs w', rJ P ds w w' ∧ xD P σ w' fn.results.toList vs ∧ R (B6 vs) w'
 | _, _, _, _ => False
def u2 : List Value → Env
 | [], _ => undef
 | v :: _, 0 => v
 | _ :: vs, t + 1 => u2 vs t
theorem rX (args : List Value) (k : Nat) : gL { tmps := args.toArray ++ Array.replicate k undef, defers := [] } = u2 args := by
 funext t
 simp only [gL, Array.getD_eq_getD_getElem?, Array.getElem?_append, Array.getElem?_replicate, List.getElem?_toArray, List.size_toArray]
 have e : (if t < args.length then args[t]? else if t - args.length < k then some undef else none).getD undef = args[t]?.getD undef := by
  by_cases h : t < args.length
  ·
   rw [if_pos h]
  ·
   rw [if_neg h, List.getElem?_eq_none (by omega)]
   split <;> rfl
 rw [e]
 clear e
 induction args generalizing t with
 | nil => rfl
 | cons v vs ih =>
  cases t with
  | zero => rfl
  | succ t => simpa [u2] using ih t
theorem o7 {F : Fence} {n : Nat} {fn : Func} {a : Act} {R : Ending → World → Prop} {v : Value} : ∀ {ds : List Deferred} {w w' : World}, rJ P ds w w' → (results fn a.tmps).run P w' = .ok v w' → R (.returned v) w' →
  LeavesInM F n P fn a.tmps R ds .returning w
 | _, _, _, .nil w, hr, hR => by
  simp only [LeavesInM, LeavesIn]
  exact ⟨v, hr, hR⟩
 | _, _, _, .mark ht hk h, hr, hR => ⟨by simp, .inl ⟨_, _, ht, hk, o7 h hr hR⟩⟩
theorem bC.aH {f : FuncId} {fn : Func} {c : Code} {args : List Value} {R : Value → World → Prop} (hf : P.funcs[f]? = some fn) (hb : fn.body = some c) (hN : fn.ntmps = N) (hle : args.length ≤ N)
  (h : WE none P N c (aHp P fn R) (u2 args) [] w) : bC P f args.toArray w R := by
 refine callsIn_of_wp_marks hf hb trivial (wpIn_mono (h _ ⟨?_, rX args _, rfl⟩) ?_)
 ·
  simp [hN]; omega
 ·
  rintro e a' w' ⟨hs, hq⟩
  cases e with
  | normal =>
   obtain ⟨vs, w'', hl, hr, hR⟩ := hq
   exact o7 hl (k9 (N := N) (σ := gL a') (ds := a'.defers) ⟨hs, rfl, rfl⟩ hr) ⟨_, rfl, hR⟩
  | ret =>
   obtain ⟨vs, w'', hl, hr, hR⟩ := hq
   exact o7 hl (k9 (N := N) (σ := gL a') (ds := a'.defers) ⟨hs, rfl, rfl⟩ hr) ⟨_, rfl, hR⟩
  | _ => exact hq.elim
end
end Go.Sp
