/- Part of the proof of this claim: walks through the program's functions and the plain laws that they need, printed by a program of this session. -/
import Derived.Test.YthkombhebdjamaaGreatDoorCore
namespace Go.Sp
section
variable {r : Option Nat} {P : Program} {ops : Array Oper} {Q : Exit → Act → World → Prop} {md : Region.Mode}
def wS (ops : Array Oper) : Nat → Nat → Nat → Bool
 | 0, _, _ => false
 | n + 1, j, i =>
  match ops[j]? with
  | some o => o.after.any fun e => Region.binds .any e && (e.on == i || wS ops n e.on i)
  | none => false
def waits (ops : Array Oper) (j i : Nat) : Bool := wS ops ops.size j i
theorem nw {ops : Array Oper} (j i : Nat) {P : Prop} (h : ¬waits ops j i = false := by decide +kernel) : waits ops j i = false → P := fun e => absurd e h
def mM (ops : Array Oper) (listed : Array Bool) : Prop := ∀ (k : Nat) (ok : Oper), ops[k]? = some ok → listed.getD k false = true → ∀ e ∈ ok.after, Region.binds .any e = true → listed.getD e.on false = true
def Yv (P : Program) (ops : Array Oper) (o : Oper) (v : Value) (Y : World → Prop) (a : Act) : Prop :=
 (Region.wanted o (yielded ops a.tmps) = true ∧ ∀ w, Y w → (execOp a.eval o).run P w = .ok (.value v) w) ∨
 (Region.wanted o (yielded ops a.tmps) = false ∧ v = undef)
theorem Yv.of_same {o : Oper} {v : Value} {Y : World → Prop} {a a' : Act} (hy : Yv P ops o v Y a) (he : execOp a'.eval o = execOp a.eval o)
  (hw : Region.wanted o (yielded ops a'.tmps) = Region.wanted o (yielded ops a.tmps)) : Yv P ops o v Y a' := by
 unfold Yv at *
 rw [he, hw]
 exact hy
theorem Yv.wpOpIn {i : Nat} {o : Oper} {v : Value} {Y : World → Prop} {a : Act} {w : World} (hi : ops[i]? = some o) (hd : eW o = true) (hy : Yv P ops o v Y a) (hY : Y w)
  {K : Act → World → Prop} (h : K (a.put o.dst v) w) : wpOpIn (FW r) 0 P ops Q i K a w := by
 unfold Go.wpOpIn
 simp only [hi]
 rcases hy with ⟨hw, hv⟩ | ⟨hw, rfl⟩
 ·
  rw [if_pos hw]
  refine ⟨fun _ _ => trivial, ?_⟩
  rw [gX hd, hv w hY]
  exact h
 ·
  rw [if_neg (by simp [hw])]
  exact ⟨fun _ _ => trivial, h⟩
theorem DY {j : Nat} {oi oj : Oper} {v : Value} {Y : World → Prop} (hj : ops[j]? = some oj) (hap : oi.apart ops oj = true) (hdj : eW oj = true)
  (hsi : ∀ cs b, oi.op ≠ .select cs b) (hsj : ∀ cs b, oj.op ≠ .select cs b)
  (hQ : ∀ c a w, ¬ Q (.panic c) a w) {K : Act → World → Prop} {a : Act} {w : World}
  (hy : Yv P ops oi v Y a) (h : wpOpIn (FW r) 0 P ops Q j K (a.put oi.dst v) w) :
  wpOpIn (FW r) 0 P ops Q j (fun a' w' => Yv P ops oi v Y a' ∧ K (a'.put oi.dst v) w') a w := by
 obtain ⟨h1, h2, h3⟩ := Oper.apart_spec hap
 have keep : ∀ (a : Act), Yv P ops oi v Y a → ∀ u, Yv P ops oi v Y (a.put oj.dst u) := fun a hy u =>
  hy.of_same (execOp_put oi hsi a oj.dst u h3) (wanted_put oi a oj.dst u h3)
 unfold Go.wpOpIn at *
 simp only [hj] at *
 rw [wanted_put oj a oi.dst v h1] at h
 split
 ·
  rename_i hw
  simp only [hw, if_true] at h
  unfold Oper.wpIn at *
  refine ⟨fun _ _ => trivial, ?_⟩
  have h := h.2
  rw [gX hdj, execOp_put oj hsj a oi.dst v h1] at h
  rw [gX hdj]
  generalize (execOp a.eval oj).run P w = q at *
  cases q with
  | ok x w' =>
   cases x <;> simp only [Oper.uponIn] at h ⊢
   case value u => exact ⟨keep a hy u, by rw [← Act.put_comm a v u h2]; exact h⟩
   case skip => exact ⟨keep a hy _, by rw [← Act.put_comm a v undef h2]; exact h⟩
   case defer d =>
    refine ⟨keep { a with defers := d :: a.defers } (hy.of_same rfl rfl) _, ?_⟩
    rw [← Act.put_comm _ v undef h2, ← Act.put_defers]
    exact h
   case enter f args =>
    refine ⟨h.1, CallsIn.mono h.2 fun e w'' he => ?_⟩
    cases e with
    | returned u => exact ⟨keep a hy u, by rw [← Act.put_comm a v u h2]; exact he⟩
    | panicked c => exact absurd he (hQ _ _ _)
    | outgrown => exact he
   case row row args => exact ⟨h.1, RowsIn.mono h.2 fun u w'' he => ⟨keep a hy u, by rw [← Act.put_comm a v u h2]; exact he⟩⟩
   case round l f tmps assign body =>
    refine ⟨h.1, RoundIn.mono h.2 fun e w'' he => ?_⟩
    cases e with
    | returned u => exact ⟨keep a hy u, by rw [← Act.put_comm a v u h2]; exact he⟩
    | panicked c => exact absurd he (hQ _ _ _)
    | outgrown => exact he
  | halt x w' =>
   cases x <;> simp only [Oper.uponIn] at h ⊢
   case panic u => exact absurd h (hQ _ _ _)
 ·
  rename_i hw
  simp only [hw] at h
  exact ⟨fun _ _ => trivial, keep a hy _, by rw [← Act.put_comm a v undef h2]; exact h.2⟩
abbrev oN := List (Nat × (World → Prop))
def mQ (r : Option Nat) (P : Program) (ops : Array Oper) (Q : Exit → Act → World → Prop) (O : oN) : Nat → Array Bool → Act → World → Prop
 | 0, listed, a, w => Region.ready .any ops listed = [] ∧ Q .normal a w
 | fuel + 1, listed, a, w =>
  (Region.ready .any ops listed = [] → Q .normal a w) ∧
  ∀ j ∈ Region.ready .any ops listed, wpOpIn (FW r) 0 P ops Q j (fun a' w' => (∀ p ∈ O, waits ops j p.1 = false → p.2 w → p.2 w') ∧ mQ r P ops Q O fuel (listed.setIfInBounds j true) a' w') a w
theorem mQ.D1 {O O' : oN} (hO : ∀ p ∈ O', p ∈ O) : ∀ (fuel : Nat) (listed : Array Bool) (a : Act) (w : World), mQ r P ops Q O fuel listed a w → mQ r P ops Q O' fuel listed a w
 | 0, _, _, _, h => h
 | fuel + 1, _, _, _, h => ⟨h.1, fun j hj => wpOpIn_mono (fun a' w' h' => ⟨fun p hp => h'.1 p (hO p hp), mQ.D1 hO fuel _ a' w' h'.2⟩) (h.2 j hj)⟩
theorem mQ.any : ∀ (fuel : Nat) (listed : Array Bool) (a : Act) (w : World), mQ r P ops Q [] fuel listed a w → wpAnyIn (FW r) 0 P .any ops Q fuel listed a w
 | 0, _, _, _, h => h
 | fuel + 1, _, _, _, h => ⟨h.1, fun j hj => wpOpIn_mono (fun a' w' h' => mQ.any fuel _ a' w' h'.2) (h.2 j hj)⟩
def calm (ops : Array Oper) : Bool := ops.all fun o => eW o && (match o.op with | .select .. => false | _ => true)
theorem oG (h : calm ops = true) {j : Nat} {o : Oper} (ho : ops[j]? = some o) : eW o = true ∧ ∀ cs b, o.op ≠ .select cs b := by
 have := Array.all_eq_true_iff_forall_mem.1 h o (Array.mem_of_getElem? ho)
 simp only [Bool.and_eq_true] at this
 refine ⟨this.1, fun cs b hcs => ?_⟩
 rw [hcs] at this
 simp at this
theorem zI {listed : Array Bool} (hc : mM ops listed) : ∀ (n j i : Nat), (∀ (oj : Oper), ops[j]? = some oj → ∀ e ∈ oj.after, Region.binds .any e = true → listed.getD e.on false = true) →
  wS ops n j i = true → listed.getD i false = true := by
 intro n
 induction n with
 | zero => intro j i _ h; simp [wS] at h
 | succ n ih =>
  intro j i hj h
  unfold wS at h
  cases ho : ops[j]? with
  | none => rw [ho] at h; simp at h
  | some oj =>
   rw [ho] at h
   simp only at h
   obtain ⟨e, he, hb⟩ := Array.any_eq_true'.1 h
   simp only [Bool.and_eq_true, Bool.or_eq_true, beq_iff_eq] at hb
   have h1 := hj oj ho e he hb.1
   rcases hb.2 with h2 | h2
   ·
    rw [← h2]; exact h1
   ·
    exact ih e.on i (fun ok hok => hc e.on ok hok h1) h2
theorem IK {listed : Array Bool} {i : Nat} : listed.getD i false = true → listed.getD i true = true := by
 rcases Nat.lt_or_ge i listed.size with h' | h'
 ·
  simp [h']
 ·
  simp [Array.getElem?_eq_none h']
theorem vB {j : Nat} {listed : Array Bool} (hj : j ∈ Region.ready .any ops listed) {oj : Oper} (ho : ops[j]? = some oj) : ∀ e ∈ oj.after, Region.binds .any e = true → listed.getD e.on false = true := fun e he hb => by
 obtain ⟨_, oj', SA, hall⟩ := mem_ready.1 hj
 rw [ho] at SA; cases SA
 have h1 := hall e he hb
 rcases Nat.lt_or_ge e.on listed.size with h' | h'
 ·
  simp [h'] at h1 ⊢; exact h1
 ·
  simp [Array.getElem?_eq_none h'] at h1
theorem rO {i j : Nat} {listed : Array Bool} (hc : mM ops listed) (hj : j ∈ Region.ready .any ops listed) (hi : i ∈ Region.ready .any ops listed) : waits ops j i = false := by
 rw [Bool.eq_false_iff]
 intro h
 have h2 := IK (zI hc _ j i (fun ok hok => vB hj hok) h)
 rw [(mem_ready.1 hi).1] at h2; cases h2
theorem mM.none (ops : Array Oper) (n : Nat) : mM ops (Array.replicate n false) := by
 intro k ok _ hk
 rcases Nat.lt_or_ge k n with h' | h'
 ·
  simp [h'] at hk
 ·
  rw [Array.getD_eq_getD_getElem?, Array.getElem?_eq_none (by simpa using h')] at hk
  simp at hk
theorem mM.set {j : Nat} {listed : Array Bool} (hc : mM ops listed) (hj : j ∈ Region.ready .any ops listed) : mM ops (listed.setIfInBounds j true) := by
 intro k ok hok hk e he hb
 have mono : ∀ m, listed.getD m false = true → (listed.setIfInBounds j true).getD m false = true := by
  intro m hm
  rcases Nat.lt_or_ge m listed.size with h' | h'
  ·
   by_cases hjm : j = m
   ·
    subst hjm; simp [h']
   ·
    simp [h'] at hm ⊢; rw [Array.getElem_setIfInBounds_ne h' hjm]; exact hm
  ·
   simp [Array.getElem?_eq_none h'] at hm
 by_cases hkj : k = j
 ·
  subst hkj
  exact mono _ (vB hj hok e he hb)
 ·
  refine mono _ (hc k ok hok ?_ e he hb)
  rcases Nat.lt_or_ge k listed.size with h' | h'
  ·
   simp [h'] at hk ⊢
   rw [Array.getElem_setIfInBounds_ne h' (Ne.symm hkj)] at hk; exact hk
  ·
   rw [Array.getD_eq_getD_getElem?, Array.getElem?_eq_none (by simpa using h')] at hk
   simp at hk
theorem mQ.first {i : Nat} {oi : Oper} {v : Value} {Y : World → Prop} (hi : ops[i]? = some oi) (FF : calm ops = true) (hQ : ∀ c a w, ¬ Q (.panic c) a w) :
  ∀ (fuel : Nat) (listed : Array Bool) (a : Act) (w : World) (O : oN), mM ops listed →
   (∀ j oj, ops[j]? = some oj → j ≠ i → listed.getD j true = false → (∀ e ∈ oj.after, Region.binds .any e = true → e.on ≠ i) → oi.apart ops oj = true) →
   i ∈ Region.ready .any ops listed → Yv P ops oi v Y a → Y w →
   mQ r P ops Q ((i, Y) :: O) fuel (listed.setIfInBounds i true) (a.put oi.dst v) w → mQ r P ops Q O (fuel + 1) listed a w := by
 intro fuel
 induction fuel with
 | zero =>
  intro listed a w O _ _ hr hy hY H
  refine ⟨fun h => (by rw [h] at hr; cases hr), fun j hj => ?_⟩
  by_cases hji : j = i
  ·
   subst hji
   exact hy.wpOpIn hi (oG FF hi).1 hY ⟨fun _ _ _ h => h, mQ.D1 (fun p hp => List.mem_cons_of_mem _ hp) _ _ _ _ H⟩
  ·
   have := ready_mono hj hji
   rw [H.1] at this
   cases this
 | succ fuel ih =>
  intro listed a w O qC aAV hr hy hY H
  refine ⟨fun h => (by rw [h] at hr; cases hr), fun j hj => ?_⟩
  by_cases hji : j = i
  ·
   subst hji
   exact hy.wpOpIn hi (oG FF hi).1 hY ⟨fun _ _ _ h => h, mQ.D1 (fun p hp => List.mem_cons_of_mem _ hp) _ _ _ _ H⟩
  ·
   have h1 := H.2 j (ready_mono hj hji)
   obtain ⟨aE0, oj, SA, hall⟩ := mem_ready.1 hj
   have NQ : ∀ e ∈ oj.after, Region.binds .any e = true → e.on ≠ i := fun e he hb heq => by
    have h1 := hall e he hb
    have h0 := (mem_ready.1 hr).1
    rw [heq] at h1
    rcases Nat.lt_or_ge i listed.size with h' | h'
    ·
     simp [h'] at h0 h1; rw [h0] at h1; cases h1
    ·
     simp [Array.getElem?_eq_none h'] at h1
   have h2 := DY SA (aAV j oj SA hji aE0 NQ) (oG FF SA).1 (oG FF hi).2 (oG FF SA).2 hQ hy h1
   have aCv : ∀ k ok, ops[k]? = some ok → k ≠ i → (listed.setIfInBounds j true).getD k true = false →
     (∀ e ∈ ok.after, Region.binds .any e = true → e.on ≠ i) → oi.apart ops ok = true := fun k ok hk hki hun hno => by
    refine aAV k ok hk hki ?_ hno
    by_cases hjk : j = k
    ·
     subst hjk; exact aE0
    ·
     rw [getD_set_ne true hjk] at hun; exact hun
   have hw := rO qC hj hr
   refine wpOpIn_mono (fun a' w' h3 => ⟨fun p hp => h3.2.1 p (List.mem_cons_of_mem _ hp), ?_⟩) h2
   refine ih (listed.setIfInBounds j true) a' w' O (qC.set hj) aCv (ready_mono hr (Ne.symm hji)) h3.1 (h3.2.1 (i, Y) List.mem_cons_self hw hY) ?_
   rw [Array.setIfInBounds_comm _ _ hji]
   exact h3.2.2
end
inductive Tree where
 | done
 | take (i : Nat) (t : Tree)
 | aG (i : Nat) (t : Tree)
 | jO (i : Nat) (s : Tree) (j : Nat) (t : Tree)
 | EN (i : Nat) (s : Tree) (j : Nat) (t : Tree) (k : Nat) (u : Tree)
def Tree.ok (ops : Array Oper) : Tree → Nat → Array Bool → Bool
 | .done, _, l => Region.ready .any ops l == []
 | .take i t, n + 1, l => (Region.ready .any ops l).contains i && Region.free .any ops l i && t.ok ops n (l.setIfInBounds i true)
 | .aG i t, n + 1, l => Region.ready .any ops l == [i] && t.ok ops n (l.setIfInBounds i true)
 | .jO i s j t, n + 1, l => Region.ready .any ops l == [i, j] && s.ok ops n (l.setIfInBounds i true) && t.ok ops n (l.setIfInBounds j true)
 | .EN i s j t k u, n + 1, l => Region.ready .any ops l == [i, j, k] && s.ok ops n (l.setIfInBounds i true) && t.ok ops n (l.setIfInBounds j true) && u.ok ops n (l.setIfInBounds k true)
 | _, 0, _ => false
section
variable {r : Option Nat} {P : Program} {N : Nat} {ops : Array Oper} {K : Env → List Deferred → World → Prop} {O : oN} {σ : Env} {ds : List Deferred} {w : World}
def Kn (N : Nat) (K : Env → List Deferred → World → Prop) : Exit → Act → World → Prop := low N (fun e σ ds w => e = .normal ∧ K σ ds w)
def WP (r : Option Nat) (P : Program) (N : Nat) (ops : Array Oper) (K : Env → List Deferred → World → Prop) (t : Tree) (O : oN) (σ : Env) (ds : List Deferred) (w : World) : Prop :=
 ∀ n l a, t.ok ops n l = true → calm ops = true → mM ops l → mL N σ ds a → mQ r P ops (Kn N K) O n l a w
theorem WP.done (h : K σ ds w) : WP r P N ops K .done O σ ds w := fun n l a ht _ _ ha => by
 have hr : Region.ready .any ops l = [] := by
  cases n <;> simpa [Tree.ok] using ht
 have hk : Kn N K .normal a w := ⟨ha.size, rfl, by rw [ha.env, ha.defers]; exact h⟩
 cases n with
 | zero => exact ⟨hr, hk⟩
 | succ n => exact ⟨fun _ => hk, fun j hj => by rw [hr] at hj; cases hj⟩
theorem WP.take {i : Nat} {t : Tree} {o : Oper} {v : Value} {Y : World → Prop} (hi : ops[i]? = some o)
  (hy : (cH ops σ o = true ∧ ∀ w, Y w → (execOp (ev σ) o).run P w = .ok (.value v) w) ∨ (cH ops σ o = false ∧ v = undef)) (hY : Y w)
  (k : WP r P N ops K t ((i, Y) :: O) (dD N σ o.dst v) ds w) : WP r P N ops K (.take i t) O σ ds w := fun n l a ht hc qC ha => by
 cases n with
 | zero => simp [Tree.ok] at ht
 | succ n =>
  simp only [Tree.ok, Bool.and_eq_true] at ht
  obtain ⟨⟨h1, h2⟩, h3⟩ := ht
  refine mQ.first (Y := Y) (v := v) hi hc ?_ n l a w O qC (Region.free_spec hi h2) (by simpa using h1) ?_ hY (k n _ _ h3 hc (qC.set (by simpa using h1)) (ha.put _ _))
  ·
   rintro c a w ⟨_, h, _⟩; cases h
  ·
   unfold Yv
   rw [kN ha, ha.eval]
   exact hy
theorem WP.aC {i : Nat} {t : Tree} {o : Oper} {v : Value} (hi : ops[i]? = some o) (hw : cH ops σ o = true) (hy : ∀ w, (execOp (ev σ) o).run P w = .ok (.value v) w)
  (k : WP r P N ops K t O (dD N σ o.dst v) ds w) : WP r P N ops K (.take i t) O σ ds w :=
 WP.take (Y := fun _ => True) hi (.inl ⟨hw, fun w _ => hy w⟩) trivial fun n l a ht hc qC ha => by
  have h := k n l a ht hc qC ha
  have add : ∀ (n : Nat) (l : Array Bool) (a : Act) (w : World), mQ r P ops (Kn N K) O n l a w → mQ r P ops (Kn N K) ((i, fun _ => True) :: O) n l a w := by
   intro n
   induction n with
   | zero => exact fun _ _ _ h => h
   | succ n ih => exact fun l a w h => ⟨h.1, fun j hj => wpOpIn_mono (fun a' w' h' => ⟨fun p hp => by
     cases List.mem_cons.1 hp with
     | inl e => subst e; exact fun _ _ => trivial
     | inr e => exact h'.1 p e, ih _ _ _ h'.2⟩) (h.2 j hj)⟩
  exact add _ _ _ _ h
theorem WP.eD {i : Nat} {t : Tree} {o : Oper} (hi : ops[i]? = some o) (hw : cH ops σ o = false)
  (k : WP r P N ops K t O (dD N σ o.dst undef) ds w) : WP r P N ops K (.take i t) O σ ds w :=
 WP.take (Y := fun _ => True) hi (.inr ⟨hw, rfl⟩) trivial fun n l a ht hc qC ha => by
  have h := k n l a ht hc qC ha
  have add : ∀ (n : Nat) (l : Array Bool) (a : Act) (w : World), mQ r P ops (Kn N K) O n l a w → mQ r P ops (Kn N K) ((i, fun _ => True) :: O) n l a w := by
   intro n
   induction n with
   | zero => exact fun _ _ _ h => h
   | succ n ih => exact fun l a w h => ⟨h.1, fun j hj => wpOpIn_mono (fun a' w' h' => ⟨fun p hp => by
     cases List.mem_cons.1 hp with
     | inl e => subst e; exact fun _ _ => trivial
     | inr e => exact h'.1 p e, ih _ _ _ h'.2⟩) (h.2 j hj)⟩
  exact add _ _ _ _ h
def nA (r : Option Nat) (P : Program) (N : Nat) (ops : Array Oper) (K : Env → List Deferred → World → Prop) (O : oN) (i : Nat) (o : Oper) (t : Tree) (σ : Env) (ds : List Deferred) (w : World) : Prop :=
 WL r P N ops [o] (fun σ' ds' w' => (∀ p ∈ O, waits ops i p.1 = false → p.2 w → p.2 w') ∧ WP r P N ops K t O σ' ds' w') σ ds w
theorem nA.op {i : Nat} {o : Oper} {t : Tree} (hi : ops[i]? = some o) (h : nA r P N ops K O i o t σ ds w) {n : Nat} {l : Array Bool} {a : Act} (ht : t.ok ops n l = true) (hc : calm ops = true) (qC : mM ops l) (ha : mL N σ ds a) :
  wpOpIn (FW r) 0 P ops (Kn N K) i (fun a' w' => (∀ p ∈ O, waits ops i p.1 = false → p.2 w → p.2 w') ∧ mQ r P ops (Kn N K) O n l a' w') a w := by
 have h1 := h a ha
 unfold wpListIn at h1
 unfold wpOpIn
 simp only [hi]
 split
 ·
  rename_i hw
  rw [if_pos hw] at h1
  refine ⟨fun _ _ => trivial, ?_⟩
  have h2 := h1.2
  generalize (o.semAt (FW r).round a.eval).run P w = q at *
  have fin : ∀ a' w', wpListIn (FW r) 0 P ops (low N fun e σ ds w_1 => e = Exit.normal ∧ (∀ p ∈ O, waits ops i p.1 = false → p.2 w → p.2 w_1) ∧ WP r P N ops K t O σ ds w_1) [] a' w' →
    (∀ p ∈ O, waits ops i p.1 = false → p.2 w → p.2 w') ∧ mQ r P ops (Kn N K) O n l a' w' := by
   rintro a' w' ⟨hs, _, hp, hk⟩
   exact ⟨hp, hk n l a' ht hc qC ⟨hs, rfl, rfl⟩⟩
  cases q with
  | ok x w' =>
   cases x <;> simp only [Oper.uponIn] at h2 ⊢
   case value u => exact fin _ _ h2
   case skip => exact fin _ _ h2
   case defer d => exact fin _ _ h2
   case enter f args =>
    refine ⟨h2.1, CallsIn.mono h2.2 fun e w'' he => ?_⟩
    cases e with
    | returned u => exact fin _ _ he
    | panicked c => obtain ⟨_, he, _⟩ := he; cases he
    | outgrown => obtain ⟨_, _, _, he, _⟩ := he; cases he
   case row row args => exact ⟨h2.1, RowsIn.mono h2.2 fun u w'' he => fin _ _ he⟩
   case round l f tmps assign body =>
    refine ⟨h2.1, RoundIn.mono h2.2 fun e w'' he => ?_⟩
    cases e with
    | returned u => exact fin _ _ he
    | panicked c => obtain ⟨_, he, _⟩ := he; cases he
    | outgrown => obtain ⟨_, _, _, he, _⟩ := he; cases he
  | halt x w' =>
   cases x <;> simp only [Oper.uponIn] at h2 ⊢
   case panic u => obtain ⟨_, he, _⟩ := h2; cases he
 ·
  rename_i hw
  rw [if_neg hw] at h1
  obtain ⟨hs, _, hp, hk⟩ := h1.2
  exact ⟨fun _ _ => trivial, hp, hk n l _ ht hc qC ⟨hs, rfl, rfl⟩⟩
theorem WP.aG {i : Nat} {t : Tree} {o : Oper} (hi : ops[i]? = some o) (h : nA r P N ops K O i o t σ ds w) : WP r P N ops K (.aG i t) O σ ds w := fun n l a ht hc qC ha => by
 cases n with
 | zero => simp [Tree.ok] at ht
 | succ n =>
  simp only [Tree.ok, Bool.and_eq_true, beq_iff_eq] at ht
  obtain ⟨h1, h2⟩ := ht
  refine ⟨fun h => by (rw [h1] at h; cases h), fun j hj => ?_⟩
  rw [h1] at hj
  obtain rfl : j = i := by simpa using hj
  exact nA.op hi h h2 hc (qC.set (by rw [h1]; simp)) ha
theorem WP.jO {i j : Nat} {s t : Tree} {oi oj : Oper} (hi : ops[i]? = some oi) (hj : ops[j]? = some oj) (h : nA r P N ops K O i oi s σ ds w) (h' : nA r P N ops K O j oj t σ ds w) :
  WP r P N ops K (.jO i s j t) O σ ds w := fun n l a ht hc qC ha => by
 cases n with
 | zero => simp [Tree.ok] at ht
 | succ n =>
  simp only [Tree.ok, Bool.and_eq_true, beq_iff_eq] at ht
  obtain ⟨⟨h1, h2⟩, h3⟩ := ht
  refine ⟨fun h => by (rw [h1] at h; cases h), fun k hk => ?_⟩
  rw [h1] at hk
  simp only [List.mem_cons, List.not_mem_nil, or_false] at hk
  rcases hk with rfl | rfl
  ·
   exact nA.op hi h h2 hc (qC.set (by rw [h1]; simp)) ha
  ·
   exact nA.op hj h' h3 hc (qC.set (by rw [h1]; simp)) ha
theorem WP.EN {i j k : Nat} {s t u : Tree} {oi oj ok : Oper} (hi : ops[i]? = some oi) (hj : ops[j]? = some oj) (hk : ops[k]? = some ok) (h : nA r P N ops K O i oi s σ ds w) (h' : nA r P N ops K O j oj t σ ds w)
  (h'' : nA r P N ops K O k ok u σ ds w) :
  WP r P N ops K (.EN i s j t k u) O σ ds w := fun n l a ht hc qC ha => by
 cases n with
 | zero => simp [Tree.ok] at ht
 | succ n =>
  simp only [Tree.ok, Bool.and_eq_true, beq_iff_eq] at ht
  obtain ⟨⟨⟨h1, h2⟩, h3⟩, h4⟩ := ht
  refine ⟨fun h => by (rw [h1] at h; cases h), fun k hk => ?_⟩
  rw [h1] at hk
  simp only [List.mem_cons, List.not_mem_nil, or_false] at hk
  rcases hk with rfl | rfl | rfl
  ·
   exact nA.op hi h h2 hc (qC.set (by rw [h1]; simp)) ha
  ·
   exact nA.op hj h' h3 hc (qC.set (by rw [h1]; simp)) ha
  ·
   exact nA.op hk h'' h4 hc (qC.set (by rw [h1]; simp)) ha
theorem WE.draw {id : Nat} {l : List Oper} {Q : EPost} (t : Tree) (hm : P.follows .mixedOrders = true) (hok : (calm l.toArray && t.ok l.toArray l.length (Array.replicate l.length false)) = true)
  (h : WP r P N l.toArray (Q .normal) t [] σ ds w.drew) : WE r P N (.region id l.toArray true) Q σ ds w := fun a ha => by
 simp only [Bool.and_eq_true] at hok
 have h1 := h l.length (Array.replicate l.length false) a hok.2 hok.1 (mM.none _ _) ha
 refine wpIn_mono (wpIn_region_any (F := FW r) (n := 0) (Q := Kn N (Q .normal)) hm ?_) ?_
 ·
  have := mQ.any _ _ _ _ h1
  simpa using this
 ·
  rintro e a' w' ⟨hs, he, hq⟩
  subst he
  exact ⟨hs, hq⟩
theorem WE.bH {id : Nat} {l : List Oper} {y : Code} {Q : EPost} (t : Tree) (hm : P.follows .mixedOrders = true) (hok : (calm l.toArray && t.ok l.toArray l.length (Array.replicate l.length false)) = true)
  (h : WP r P N l.toArray (WE r P N y Q) t [] σ ds w.drew) : WE r P N (.seq (.region id l.toArray true) y) Q σ ds w :=
 WE.seq (WE.draw (Q := u6 (WE r P N y Q) Q) t hm hok h)
end
end Go.Sp
