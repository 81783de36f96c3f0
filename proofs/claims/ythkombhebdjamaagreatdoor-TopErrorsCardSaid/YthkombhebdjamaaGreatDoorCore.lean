/- Part of the proof of this claim: walks through the program's functions and the plain laws that they need, printed by a program of this session. -/
import Derived.CallsIn
import Derived.OrdersIn
import Derived.OrdersHeld
import Derived.TacticsIn
import Derived.RangeFuncLeaves
import Derived.WalkKit
namespace Go.Sp
theorem bP : (∀ (p : Prop) [Decidable p], (decide p = true) = p) ∧ (∀ (p : Prop) [Decidable p], decide p = false ↔ ¬p) ∧ (∀ (α : Type) (a b : α), (a ≠ b) = ¬(a = b)) ∧ (∀ (p : Prop) [Decidable p], ¬¬p ↔ p) ∧ (∀ b, ((!b) = true) = (b = false)) ∧ (∀ b, ((!b) = false) = (b = true)) ∧ (∀ a b, ((a && b) = true) = (a = true ∧ b = true)) ∧ (∀ a b, ((a || b) = true) = (a = true ∨ b = true)) ∧ (∀ b, (!!b) = b) ∧ (∀ x y, (x && y) = false ↔ x = false ∨ y = false) ∧ (∀ x y, (x || y) = false ↔ x = false ∧ y = false) ∧ (∀ a b : Int, ¬a < b ↔ b ≤ a) ∧ (∀ a b : Int, ¬a ≤ b ↔ b < a) := ⟨fun _ _ => decide_eq_true_eq, fun _ _ => decide_eq_false_iff_not, fun _ a b => ne_eq a b, fun _ _ => Decidable.not_not, fun _ => Bool.not_eq_true' .., fun _ => Bool.not_eq_false' .., Bool.and_eq_true, Bool.or_eq_true, Bool.not_not, fun _ _ => Bool.and_eq_false_iff, fun _ _ => Bool.or_eq_false_iff, fun _ _ => Int.not_lt, fun _ _ => Int.not_le⟩
theorem fa {α : Type} {p : α → Prop} {a : α} {l : List α} (h : p a) (k : ∀ x ∈ l, p x) : ∀ x ∈ a :: l, p x := List.forall_mem_cons.2 ⟨h, k⟩
theorem c8 {α : Type} {p : α → Prop} : ∀ x ∈ ([] : List α), p x := fun _ h => by cases h
def rg : List (Nat × Nat) → List Nat
 | [] => []
 | (a, n) :: r => List.range' a n ++ rg r
abbrev c6 (X : Nat → Prop) (w : World) : Prop := ∀ b, X b → b < w.heap.size
abbrev Env := Nat → Value
abbrev EPost := Exit → Env → List Deferred → World → Prop
abbrev FW (r : Option Nat) : Fence := { fn := fun _ => True, depth := none, alive := false, round := r }
def ev (σ : Env) : Operand → Value
 | .tmp t => σ t
 | .const v => v
 | .global g => .pointer (some ⟨g, 0, none⟩)
 | .func f => .func (.func f) #[] #[]
def dG (N : Nat) (σ : Env) (d : Option Nat) (v : Value) : Env :=
 match d with
 | none => σ
 | some d => fun t => cond (Nat.beq t d && Nat.blt d N) v (σ t)
def gL (a : Act) : Env := fun t => a.tmps.getD t undef
structure mT (N : Nat) (σ : Env) (ds : List Deferred) (a : Act) : Prop where
 size : a.tmps.size = N
 env : gL a = σ
 defers : a.defers = ds
theorem Z6 (a : Act) : a.eval = ev (gL a) := by
 funext x; cases x <;> rfl
theorem mT.eval {N : Nat} {σ : Env} {ds : List Deferred} {a : Act} (h : mT N σ ds a) : a.eval = ev σ := by
 rw [Z6, h.env]
theorem ON (a : Act) (d : Option Nat) (v : Value) : gL (a.put d v) = dG a.tmps.size (gL a) d v := by
 cases d with
 | none => rfl
 | some d =>
  funext t
  simp only [gL, Act.put, dG, Array.getD_eq_getD_getElem?]
  by_cases h : t = d
  ·
   subst h
   by_cases hl : t < a.tmps.size
   ·
    have : Nat.blt t a.tmps.size = true := by simpa [Nat.blt_eq] using hl
    simp [this, hl]
   ·
    have : Nat.blt t a.tmps.size = false := by
     rw [Bool.eq_false_iff]; intro hb; exact hl (by simpa [Nat.blt_eq] using hb)
    simp [this, Array.setIfInBounds, hl]
  ·
   have hb : Nat.beq t d = false := by
    rw [Bool.eq_false_iff]; intro hb; exact h (Nat.eq_of_beq_eq_true hb)
   rw [hb, Bool.false_and, cond_false, Array.getElem?_setIfInBounds_ne (Ne.symm h)]
theorem mT.put {N : Nat} {σ : Env} {ds : List Deferred} {a : Act} (h : mT N σ ds a) (d : Option Nat) (v : Value) : mT N (dG N σ d v) ds (a.put d v) := by
 refine ⟨?_, ?_, ?_⟩
 ·
  cases d with
  | none => exact h.size
  | some d => simpa [Act.put] using h.size
 ·
  rw [ON, h.size, h.env]
 ·
  cases d <;> exact h.defers
def HX (ops : Array Oper) (σ : Env) (j : Nat) : Option Bool :=
 match (ops[j]?).bind (·.dst) with
 | some t => match σ t with
  | .bool b => some b
  | _ => none
 | none => none
theorem mT.yielded {N : Nat} {σ : Env} {ds : List Deferred} {a : Act} (h : mT N σ ds a) (ops : Array Oper) : Go.yielded ops a.tmps = HX ops σ := by
 funext j
 unfold Go.yielded HX
 cases (ops[j]?).bind (·.dst) with
 | none => rfl
 | some t =>
  simp only [Option.bind_some, ← h.env, gL, Array.getD_eq_getD_getElem?]
  cases a.tmps[t]? with
  | none => rfl
  | some v => cases v <;> rfl
def low (N : Nat) (Q : EPost) : Exit → Act → World → Prop := fun e a w => a.tmps.size = N ∧ Q e (gL a) a.defers w
def WE (r : Option Nat) (P : Program) (N : Nat) (c : Code) (Q : EPost) (σ : Env) (ds : List Deferred) (w : World) : Prop :=
 ∀ a, mT N σ ds a → c.wpIn (FW r) 0 P (low N Q) a w
def vG (K : Env → List Deferred → World → Prop) (Q : EPost) : EPost
 | .normal, σ, ds, w => K σ ds w
 | .exit i, σ, ds, w => Q (.exit i) σ ds w
 | .goto l, σ, ds, w => Q (.goto l) σ ds w
 | .ret, σ, ds, w => Q .ret σ ds w
 | .panic c, σ, ds, w => Q (.panic c) σ ds w
 | .outgrown, σ, ds, w => Q .outgrown σ ds w
def J2 (id : Nat) (Q : EPost) : EPost
 | .normal, σ, ds, w => Q .normal σ ds w
 | .exit i, σ, ds, w => cond (Nat.beq i id) (Q .normal σ ds w) (Q (.exit i) σ ds w)
 | .goto l, σ, ds, w => Q (.goto l) σ ds w
 | .ret, σ, ds, w => Q .ret σ ds w
 | .panic c, σ, ds, w => Q (.panic c) σ ds w
 | .outgrown, σ, ds, w => Q .outgrown σ ds w
def WL (r : Option Nat) (P : Program) (N : Nat) (ops : Array Oper) (l : List Oper) (K : Env → List Deferred → World → Prop) (σ : Env) (ds : List Deferred) (w : World) : Prop :=
 ∀ a, mT N σ ds a → wpListIn (FW r) 0 P ops (low N (fun e σ ds w => e = .normal ∧ K σ ds w)) l a w
section
variable {r : Option Nat} {P : Program} {N : Nat} {Q : EPost} {σ : Env} {ds : List Deferred} {w : World}
theorem WE.mono {c : Code} {Q' : EPost} (h : WE r P N c Q σ ds w) (hq : ∀ e σ ds w, Q e σ ds w → Q' e σ ds w) : WE r P N c Q' σ ds w :=
 fun a ha => wpIn_mono (h a ha) fun _ _ _ hh => ⟨hh.1, hq _ _ _ _ hh.2⟩
theorem WE.seq {x y : Code} (h : WE r P N x (vG (WE r P N y Q) Q) σ ds w) : WE r P N (.seq x y) Q σ ds w := fun a ha => by
 refine wpIn_seq (wpIn_mono (h a ha) ?_)
 rintro e a' w' ⟨hs, hq⟩
 cases e with
 | normal => exact hq a' ⟨hs, rfl, rfl⟩
 | _ => exact ⟨hs, hq⟩
theorem WE.skip (h : Q .normal σ ds w) : WE r P N .skip Q σ ds w := fun a ha => wpIn_skip ⟨ha.size, by rw [ha.env, ha.defers]; exact h⟩
theorem WE.exit {id : Nat} (h : Q (.exit id) σ ds w) : WE r P N (.exit id) Q σ ds w := fun a ha => wpIn_exit ⟨ha.size, by rw [ha.env, ha.defers]; exact h⟩
theorem WE.ret (h : Q .ret σ ds w) : WE r P N .ret Q σ ds w := fun a ha => wpIn_ret ⟨ha.size, by rw [ha.env, ha.defers]; exact h⟩
theorem WE.block {id : Nat} {c : Code} (h : WE r P N c (J2 id Q) σ ds w) : WE r P N (.block id c) Q σ ds w := fun a ha => by
 refine wpIn_block (wpIn_mono (h a ha) ?_)
 rintro e a' w' ⟨hs, hq⟩
 cases e with
 | exit i =>
  by_cases hi : i = id
  ·
   subst hi
   have hb : Nat.beq i i = true := by simp
   simp only [J2, hb, cond_true] at hq
   simp only [Exit.inBlock, if_true]
   exact ⟨hs, hq⟩
  ·
   have hb : Nat.beq i id = false := by rw [Bool.eq_false_iff]; intro hb; exact hi (Nat.eq_of_beq_eq_true hb)
   simp only [J2, hb, cond_false] at hq
   simp only [Exit.inBlock, hi, if_false]
   exact ⟨hs, hq⟩
 | _ => exact ⟨hs, hq⟩
theorem WE.kZ {c : Operand} {x y : Code} (hc : ev σ c = .bool true) (h : WE r P N x Q σ ds w) : WE r P N (.cond c x y) Q σ ds w :=
 fun a ha => wpIn_cond_true (by rw [ha.eval]; exact hc) (h a ha)
theorem WE.jF {c : Operand} {x y : Code} (hc : ev σ c = .bool false) (h : WE r P N y Q σ ds w) : WE r P N (.cond c x y) Q σ ds w :=
 fun a ha => wpIn_cond_false (by rw [ha.eval]; exact hc) (h a ha)
theorem WE.cond {c : Operand} {x y : Code} {t : Bool} (hc : ev σ c = .bool t) (ht : t = true → WE r P N x Q σ ds w) (hf : t = false → WE r P N y Q σ ds w) :
  WE r P N (.cond c x y) Q σ ds w := by
 cases t with
 | true => exact WE.kZ hc (ht rfl)
 | false => exact WE.jF hc (hf rfl)
theorem WE.dW {id : Nat} {l : List Oper} (h : WL r P N l.toArray l (Q .normal) σ ds w) : WE r P N (.region id l.toArray false) Q σ ds w := fun a ha => by
 refine wpIn_mono (wpIn_region_lit (h a ha)) ?_
 rintro e a' w' ⟨hs, he, hq⟩
 subst he
 exact ⟨hs, hq⟩
theorem WE.aA {id : Nat} {l : List Oper} {y : Code} (h : WL r P N l.toArray l (WE r P N y Q) σ ds w) : WE r P N (.seq (.region id l.toArray false) y) Q σ ds w :=
 WE.seq (WE.dW (Q := vG (WE r P N y Q) Q) h)
def rW (t : Nat) : List Nat → Bool
 | [] => false
 | d :: D => Nat.beq t d || rW t D
def forget (D : List Nat) (γ σ : Env) : Env := fun t => cond (rW t D) (γ t) (σ t)
def bZ (N : Nat) (σ : Env) : List (Nat × Value) → Env
 | [] => σ
 | (d, v) :: l => dG N (bZ N σ l) (some d) v
def bK (D : List Nat) (σ σ' : Env) : Prop := ∀ t, rW t D = false → σ t = σ' t
theorem bK.refl (D : List Nat) (σ : Env) : bK D σ σ := fun _ _ => rfl
theorem bK.dG {D : List Nat} {σ σ' : Env} {d : Nat} {v : Value} (hd : rW d D = true) (h : bK D σ σ') : bK D (dG N σ (some d) v) σ' := fun t ht => by
 show cond (Nat.beq t d && Nat.blt d N) v (σ t) = _
 by_cases e : t = d
 ·
  subst e; rw [hd] at ht; cases ht
 ·
  have hb : Nat.beq t d = false := by rw [Bool.eq_false_iff]; intro hb; exact e (Nat.eq_of_beq_eq_true hb)
  rw [hb, Bool.false_and]; exact h t ht
theorem bK.forget {D E : List Nat} {γ σ σ' : Env} (hE : ∀ t, rW t E = true → rW t D = true) (h : bK D σ σ') : bK D (forget E γ σ) σ' := fun t ht => by
 show cond (rW t E) (γ t) (σ t) = _
 have : rW t E = false := by
  rw [Bool.eq_false_iff]; intro hb; rw [hE t hb] at ht; cases ht
 rw [this]; exact h t ht
theorem R6 {t : Nat} {D : List Nat} : rW t D = true ↔ t ∈ D := by
 induction D with
 | nil => simp [rW]
 | cons d D ih => simp [rW, ih]
theorem bK.bX {D E : List Nat} {γ σ σ' : Env} (hE : (E.all fun t => rW t D) = true) (h : bK D σ σ') : bK D (Sp.forget E γ σ) σ' :=
 h.forget fun t ht => (List.all_eq_true.1 hE) t (R6.1 ht)
theorem bK.bZ {D : List Nat} {σ σ' : Env} {l : List (Nat × Value)} (hl : (l.all fun p => rW p.1 D) = true) (h : bK D σ σ') : bK D (Sp.bZ N σ l) σ' := by
 induction l with
 | nil => exact h
 | cons p l ih =>
  simp only [List.all_cons, Bool.and_eq_true] at hl
  exact bK.dG hl.1 (ih hl.2)
def Holds (σ : Env) : List (Nat × Value) → Prop
 | [] => True
 | (d, v) :: l => σ d = v ∧ Holds σ l
theorem EL {σ : Env} {l : List (Nat × Value)} (h : Holds σ l) : bZ N σ l = σ := by
 induction l with
 | nil => rfl
 | cons p l ih =>
  obtain ⟨d, v⟩ := p
  obtain ⟨h1, h2⟩ := h
  have e : bZ N σ ((d, v) :: l) = dG N (bZ N σ l) (some d) v := rfl
  rw [e, ih h2]
  funext t
  show cond (Nat.beq t d && Nat.blt d N) v (σ t) = σ t
  by_cases e : t = d
  ·
   subst e
   cases (Nat.beq t t && Nat.blt t N) <;> simp [h1]
  ·
   have hb : Nat.beq t d = false := by rw [Bool.eq_false_iff]; intro hb; exact e (Nat.eq_of_beq_eq_true hb)
   rw [hb]; rfl
theorem pJ {D : List Nat} {σ σ' : Env} {l : List (Nat × Value)} (h : bK D σ' σ) (hl : Holds σ' l) : σ' = bZ N (forget D σ' σ) l := by
 have e : forget D σ' σ = σ' := by
  funext t
  show cond (rW t D) (σ' t) (σ t) = σ' t
  cases ht : rW t D with
  | true => rfl
  | false => exact (h t ht).symm
 rw [e, EL hl]
theorem exists_least {p : Nat → Prop} : ∀ n, p n → ∃ m, p m ∧ ∀ k, p k → m ≤ k := fun n => by
 induction n using Nat.strongRecOn with
 | _ n ih =>
  intro hn
  by_cases h : ∃ k, k < n ∧ p k
  ·
   obtain ⟨k, hk, hp⟩ := h; exact ih k hk hp
  ·
   exact ⟨n, hn, fun k hk => Nat.le_of_not_lt fun hlt => h ⟨k, hlt, hk⟩⟩
open Classical in
noncomputable def leastOf (p : Nat → Prop) : Nat := if h : ∃ m, p m ∧ ∀ k, p k → m ≤ k then Classical.choose h else 0
theorem leastOf_spec {p : Nat → Prop} {n : Nat} (h : p n) : p (leastOf p) ∧ leastOf p ≤ n := by
 have hex := exists_least n h
 unfold leastOf
 rw [dif_pos hex]
 exact ⟨(Classical.choose_spec hex).1, (Classical.choose_spec hex).2 n h⟩
theorem WE.loop {α : Type} {c : Code} (D : List Nat) (vars : α → List (Nat × Value)) (I : α → World → Prop) (μ : α → Nat) (x0 : α)
  (h0 : Holds σ (vars x0)) (i0 : I x0 w)
  (round : ∀ x γ w, I x w → WE r P N c (vG (fun σ' ds' w' => ∃ x', bK D σ' σ ∧ Holds σ' (vars x') ∧ ds' = ds ∧ I x' w' ∧ μ x' < μ x) Q) (bZ N (forget D γ σ) (vars x)) ds w) :
  WE r P N (.loop c) Q σ ds w := fun a ha => by
 refine wpIn_loop (fun a' w' => a'.tmps.size = N ∧ a'.defers = ds ∧ bK D (gL a') σ ∧ ∃ x, Holds (gL a') (vars x) ∧ I x w')
  (fun a' w' => leastOf fun m => ∃ x, Holds (gL a') (vars x) ∧ I x w' ∧ μ x = m) ?_ ?_
 ·
  exact ⟨ha.size, ha.defers, by rw [ha.env]; exact bK.refl _ _, x0, by rw [ha.env]; exact h0, i0⟩
 ·
  rintro a' w' ⟨hs, hd, ho, x1, hx1, hx2⟩
  obtain ⟨⟨x, h1, h2, h3⟩, _⟩ := leastOf_spec (p := fun m => ∃ x, Holds (gL a') (vars x) ∧ I x w' ∧ μ x = m) ⟨x1, hx1, hx2, rfl⟩
  have he : gL a' = bZ N (forget D (gL a') σ) (vars x) := pJ ho h1
  refine wpIn_mono (round x (gL a') w' h2 a' ⟨hs, he, hd⟩) ?_
  rintro e a₂ w₂ ⟨hs₂, hq⟩
  cases e with
  | normal =>
   obtain ⟨x', o', h1', ZG, h2', hlt⟩ := hq
   refine ⟨⟨hs₂, ZG, o', x', h1', h2'⟩, ?_⟩
   have := (leastOf_spec (p := fun m => ∃ x, Holds (gL a₂) (vars x) ∧ I x w₂ ∧ μ x = m) ⟨x', h1', h2', rfl⟩).2
   omega
  | _ => exact ⟨hs₂, hq⟩
theorem WE.cut {α : Type} {x y : Code} (D : List Nat) (vars : α → List (Nat × Value)) (I : α → World → Prop)
  (first : WE r P N x (vG (fun σ' ds' w' => ∃ g, bK D σ' σ ∧ Holds σ' (vars g) ∧ ds' = ds ∧ I g w') Q) σ ds w)
  (behind : ∀ g γ w, I g w → WE r P N y Q (bZ N (forget D γ σ) (vars g)) ds w) : WE r P N (.seq x y) Q σ ds w := by
 refine WE.seq (WE.mono first ?_)
 intro e σ' ds' w' hq
 cases e with
 | normal =>
  obtain ⟨g, ho, hv, hd, hI⟩ := hq
  subst hd
  have := behind g σ' w' hI
  rw [← pJ (N := N) ho hv] at this
  exact this
 | _ => exact hq
theorem WE.norm {c : Code} {σ0 : Env} (D : List Nat) (vars : List (Nat × Value)) (ho : bK D σ σ0) (hl : Holds σ vars) (k : ∀ γ, WE r P N c Q (bZ N (forget D γ σ0) vars) ds w) : WE r P N c Q σ ds w := by
 have h := k σ
 rwa [← pJ (N := N) ho hl] at h
variable {ops : Array Oper} {rest : List Oper} {o : Oper} {K : Env → List Deferred → World → Prop}
theorem WL.nil (h : K σ ds w) : WL r P N ops [] K σ ds w := fun a ha => ⟨ha.size, rfl, by rw [ha.env, ha.defers]; exact h⟩
def cK (ops : Array Oper) (σ : Env) (o : Oper) : Bool :=
 match o.guard with
 | none => true
 | some (j, want) => HX ops σ j == some want
theorem kP {a : Act} (ha : mT N σ ds a) : Region.wanted o (yielded ops a.tmps) = cK ops σ o := by
 unfold Region.wanted cK
 rw [ha.yielded]
 cases o.guard <;> rfl
def eY (o : Oper) : Bool := match o.op with | .defer _ => false | _ => true
theorem gX (h : eY o = true) (ro : Option Nat) (ρ : Operand → Value) : o.semAt ro ρ = execOp ρ o :=
 Oper.semAt_eq ro ρ o fun c hc => by rw [eY, hc] at h; cases h
theorem WL.val {v : Value} {w' : World} (hw : cK ops σ o = true) (hd : eY o = true) (h : (execOp (ev σ) o).run P w = .ok (.value v) w')
  (k : WL r P N ops rest K (dG N σ o.dst v) ds w') : WL r P N ops (o :: rest) K σ ds w := fun a ha => by
 unfold wpListIn
 rw [kP ha, hw]
 refine ⟨fun _ _ => trivial, ?_⟩
 rw [gX hd, ha.eval, h]
 exact k _ (ha.put _ _)
theorem WL.unit {w' : World} (hw : cK ops σ o = true) (hd : eY o = true) (h : (execOp (ev σ) o).run P w = .ok .skip w')
  (k : WL r P N ops rest K (dG N σ o.dst undef) ds w') : WL r P N ops (o :: rest) K σ ds w := fun a ha => by
 unfold wpListIn
 rw [kP ha, hw]
 refine ⟨fun _ _ => trivial, ?_⟩
 rw [gX hd, ha.eval, h]
 exact k _ (ha.put _ _)
theorem WL.off (hw : cK ops σ o = false) (k : WL r P N ops rest K (dG N σ o.dst undef) ds w) : WL r P N ops (o :: rest) K σ ds w := fun a ha => by
 unfold wpListIn
 rw [kP ha, hw]
 exact ⟨fun _ _ => trivial, k _ (ha.put _ _)⟩
def bC (P : Program) (f : FuncId) (args : Array Value) (w : World) (R : Value → World → Prop) : Prop :=
 CallsIn (FW none) 0 P f args w fun e w' => ∃ v, e = .returned v ∧ R v w'
theorem bC.mono {f : FuncId} {args : Array Value} {R R' : Value → World → Prop} (h : bC P f args w R) (hr : ∀ v w', R v w' → R' v w') : bC P f args w R' :=
 CallsIn.mono h fun _ _ ⟨v, he, hR⟩ => ⟨v, he, hr _ _ hR⟩
theorem bC.calls {f : FuncId} {args : Array Value} {R : Value → World → Prop} (h : bC P f args w R) : Calls P f args w (fun e w' => ∃ v, e = .returned v ∧ R v w') :=
 (callsIn_wide (n := 0)).1 h
theorem bC.RZ {f : FuncId} {args : Array Value} {R : Value → World → Prop} (h : Calls P f args w (fun e w' => ∃ v, e = .returned v ∧ R v w')) : bC P f args w R :=
 (callsIn_wide (n := 0)).2 h
theorem WL.enter {f : FuncId} {args : Array Value} {w' : World} {R : Value → World → Prop} (hw : cK ops σ o = true) (hd : eY o = true)
  (h : (execOp (ev σ) o).run P w = .ok (.enter f args) w') (hc : bC P f args w' R)
  (k : ∀ v w'', R v w'' → WL r P N ops rest K (dG N σ o.dst v) ds w'') : WL r P N ops (o :: rest) K σ ds w := fun a ha => by
 unfold wpListIn
 rw [kP ha, hw]
 refine ⟨fun _ _ => trivial, ?_⟩
 rw [gX hd, ha.eval, h]
 refine ⟨fun h => (by cases h), ?_⟩
 refine CallsIn.mono (F := FW r) (n := 0) (show CallsIn (FW r) 0 P f args w' _ from hc) ?_
 rintro e w'' ⟨v, rfl, hR⟩
 exact k v w'' hR _ (ha.put _ _)
structure Body (P : Program) (f : FuncId) (fn : Func) : Prop where
 at_ : P.funcs[f]? = some fn
 name : fn.name ≠ "runtime.NumGoroutine"
 body : fn.body.isSome = true
theorem fV {f : FuncId} {fn : Func} (hb : Body P f fn) (args : Array Value) (w : World) : (callFunc f args).run P w = .ok (.enter f args) w := by
 obtain ⟨h1, h2, h3⟩ := hb
 have h4 : fn.body ≠ none := fun e => by rw [e] at h3; cases h3
 simp [callFunc, program, Sem.run, h1, h2, h4]
theorem WL.call {dst : Option Tmp} {f : FuncId} {fn : Func} {xs : List Operand} {q4 : Array TypeId} {ty : TypeId} {pos : String} {after : Array Edge} {guard : Option (Nat × Bool)} {R : Value → World → Prop}
  (hb : Body P f fn) (hw : cK ops σ ⟨dst, .call ⟨.value (.func f), xs.toArray, q4⟩, ty, pos, after, guard⟩ = true)
  (hc : bC P f (xs.map (ev σ)).toArray w R)
  (k : ∀ v w'', R v w'' → WL r P N ops rest K (dG N σ dst v) ds w'') : WL r P N ops (⟨dst, .call ⟨.value (.func f), xs.toArray, q4⟩, ty, pos, after, guard⟩ :: rest) K σ ds w := by
 refine WL.enter (R := R) hw rfl ?_ hc k
 simp only [execOp, resolve, ev]
 simp [Deferred.ofValue, invoke, fV hb]
theorem WL.rK {dst : Option Tmp} {x : Operand} {f : FuncId} {fn : Func} {fs cs : List Value} {xs : List Operand} {q4 : Array TypeId} {ty : TypeId} {pos : String} {after : Array Edge} {guard : Option (Nat × Bool)} {R : Value → World → Prop}
  (hb : Body P f fn) (hx : ev σ x = .func (.func f) fs.toArray cs.toArray) (hw : cK ops σ ⟨dst, .call ⟨.value x, xs.toArray, q4⟩, ty, pos, after, guard⟩ = true)
  (hc : bC P f (fs ++ xs.map (ev σ) ++ cs).toArray w R)
  (k : ∀ v w'', R v w'' → WL r P N ops rest K (dG N σ dst v) ds w'') : WL r P N ops (⟨dst, .call ⟨.value x, xs.toArray, q4⟩, ty, pos, after, guard⟩ :: rest) K σ ds w := by
 refine WL.enter (R := R) hw rfl ?_ hc k
 simp only [execOp, resolve]
 simp [Deferred.ofValue, hx, invoke, fV hb]
def xQ (P : Program) (σ : Env) (w : World) : List ResultVar → List Value → Prop
 | [], [] => True
 | .tmp t :: l, v :: vs => σ t = v ∧ xQ P σ w l vs
 | .cell a t :: l, v :: vs => (∃ p, σ a = .pointer (some p) ∧ (loadVar t p).run P w = .ok v w) ∧ xQ P σ w l vs
 | _, _ => False
def CG (vs : List Value) : Value := match vs with | [v] => v | vs => .tuple vs.toArray
def o7 (tmps : Array Value) : ResultVar → Sem Value
 | .tmp t => pure (tmps.getD t undef)
 | .cell x t => do loadVar t (← asAddr (tmps.getD x undef))
theorem results_eq (fn : Func) (tmps : Array Value) : results fn tmps = (do
  let vs ← fn.results.mapM (o7 tmps)
  pure (if h : vs.size = 1 then vs[0] else .tuple vs)) := by
 unfold results
 congr 1
theorem kQ {a : Act} (ha : mT N σ ds a) : ∀ (l : List ResultVar) (vs : List Value), xQ P σ w l vs →
  (l.mapM (o7 a.tmps)).run P w = .ok vs w
 | [], [], _ => by simp
 | .tmp t :: l, v :: vs, h => by
  obtain ⟨h1, h2⟩ := h
  have e : a.tmps.getD t undef = v := by rw [← h1, ← ha.env]; rfl
  have ih := kQ ha l vs h2
  have e1 : (o7 a.tmps (.tmp t)).run P w = .ok v w := by simp only [o7, e]; rfl
  rw [List.mapM_cons]
  simp only [Sem.run_bind, e1, Result.andThen, ih]
  rfl
 | .cell x t :: l, v :: vs, h => by
  obtain ⟨⟨p, h1, h3⟩, h2⟩ := h
  have e : a.tmps.getD x undef = .pointer (some p) := by rw [← h1, ← ha.env]; rfl
  have ih := kQ ha l vs h2
  have e1 : (o7 a.tmps (.cell x t)).run P w = .ok v w := by
   simp only [o7, e, asAddr]
   exact h3
  rw [List.mapM_cons]
  simp only [Sem.run_bind, e1, Result.andThen, ih]
  rfl
 | [], _ :: _, h => h.elim
 | .tmp _ :: _, [], h => h.elim
 | .cell _ _ :: _, [], h => h.elim
theorem lF {a : Act} (ha : mT N σ ds a) {fn : Func} {vs : List Value} (h : xQ P σ w fn.results.toList vs) : (results fn a.tmps).run P w = .ok (CG vs) w := by
 rw [results_eq]
 have h1 := kQ (N := N) ha fn.results.toList vs h
 rw [← Array.toArray_toList (xs := fn.results)]
 generalize fn.results.toList = l at h1
 rw [List.mapM_toArray]
 have h2 : (List.toArray <$> l.mapM (o7 a.tmps)).run P w = .ok vs.toArray w := by
  rw [map_eq_pure_bind, Sem.run_bind, h1]
  rfl
 rw [Sem.run_bind, h2]
 match vs with
 | [] => rfl
 | [v] => rfl
 | v :: u :: vs => 
  simp only [Result.andThen, List.size_toArray, List.length_cons]
  rw [dif_neg (by omega)]
  rfl
inductive rP (P : Program) : List Deferred → World → World → Prop
 | nil (w : World) : rP P [] w w
 | mark {d : Deferred} {ds : List Deferred} {b : Nat} {w w' w'' : World} (ht : d.target = .collected b) (hr : (Instr.takeDeferred b).run P w = .ok [] w')
   (h : rP P ds w' w'') : rP P (d :: ds) w w''
def aHN (P : Program) (fn : Func) (R : Value → World → Prop) : EPost
 | .normal, σ, ds, w => ∃ vs w', rP P ds w w' ∧ xQ P σ w' fn.results.toList vs ∧ R (CG vs) w'
 | .ret, σ, ds, w => ∃ vs w', rP P ds w w' ∧ xQ P σ w' fn.results.toList vs ∧ R (CG vs) w'
 | _, _, _, _ => False
def vC : List Value → Env
 | [], _ => undef
 | v :: _, 0 => v
 | _ :: vs, t + 1 => vC vs t
theorem r8 (args : List Value) (k : Nat) : gL { tmps := args.toArray ++ Array.replicate k undef, defers := [] } = vC args := by
 funext t
 simp only [gL, Array.getD_eq_getD_getElem?, Array.getElem?_append, Array.getElem?_replicate, List.getElem?_toArray, List.size_toArray]
 have e : (if t < args.length then args[t]? else if t - args.length < k then some undef else none).getD undef = args[t]?.getD undef := by
  by_cases h : t < args.length
  ·
   rw [if_pos h]
  ·
   rw [if_neg h, List.getElem?_eq_none (by omega)]
   split <;> rfl
 rw [e]
 clear e
 induction args generalizing t with
 | nil => rfl
 | cons v vs ih =>
  cases t with
  | zero => rfl
  | succ t => simpa [vC] using ih t
theorem pB {F : Fence} {n : Nat} {fn : Func} {a : Act} {R : Ending → World → Prop} {v : Value} : ∀ {ds : List Deferred} {w w' : World}, rP P ds w w' → (results fn a.tmps).run P w' = .ok v w' → R (.returned v) w' →
  LeavesInM F n P fn a.tmps R ds .returning w
 | _, _, _, .nil w, hr, hR => by
  simp only [LeavesInM, LeavesIn]
  exact ⟨v, hr, hR⟩
 | _, _, _, .mark ht hk h, hr, hR => ⟨by simp, .inl ⟨_, _, ht, hk, pB h hr hR⟩⟩
theorem bC.aI {f : FuncId} {fn : Func} {c : Code} {args : List Value} {R : Value → World → Prop} (hf : P.funcs[f]? = some fn) (hb : fn.body = some c) (hN : fn.ntmps = N) (hle : args.length ≤ N)
  (h : WE none P N c (aHN P fn R) (vC args) [] w) : bC P f args.toArray w R := by
 refine callsIn_of_wp_marks hf hb trivial (wpIn_mono (h _ ⟨?_, r8 args _, rfl⟩) ?_)
 ·
  simp [hN]; omega
 ·
  rintro e a' w' ⟨hs, hq⟩
  cases e with
  | normal =>
   obtain ⟨vs, w'', hl, hr, hR⟩ := hq
   exact pB hl (lF (N := N) (σ := gL a') (ds := a'.defers) ⟨hs, rfl, rfl⟩ hr) ⟨_, rfl, hR⟩
  | ret =>
   obtain ⟨vs, w'', hl, hr, hR⟩ := hq
   exact pB hl (lF (N := N) (σ := gL a') (ds := a'.defers) ⟨hs, rfl, rfl⟩ hr) ⟨_, rfl, hR⟩
  | _ => exact hq.elim
end
end Go.Sp
