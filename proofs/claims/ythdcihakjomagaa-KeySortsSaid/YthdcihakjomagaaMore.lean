/- More: labels, characters of a text, equal pointers, own slices that are written. -/
import Derived.Test.YthdcihakjomagaaRules
import Derived.Scope
import Derived.LaidEql
import Derived.ControlIn
namespace Go.Sp
open Go.RowKit

section
variable {P : Program} {a : Act} {w : World} {F : Fence} {n : Nat} {Q : Exit → Act → World → Prop}
theorem stepR_scope {b : Frame} {k : List Item} {cs : List Frame} {c : Code} : step P (lone (b.atR a (.code (.scope c) :: k)) cs w) = .next (lone (b.atR a (.code c :: .inScope c :: k)) cs w) :=
  step_lone_go (by simp [stepG, stepG.exec, Frame.atR])
theorem stepR_inScope {b : Frame} {k : List Item} {cs : List Frame} {c : Code} : step P (lone (b.atR a (.inScope c :: k)) cs w) = .next (lone (b.atR a k) cs w) :=
  step_lone_go (by simp [stepG, stepG.exec, Frame.atR])
theorem wpIn_scope {c : Code} (h : c.wpIn F n P (Exit.noGoto Q) a w) : (Code.scope c).wpIn F n P Q a w := by
  intro b k cs hro hb hr
  have h0 : (lone (b.atR a (.code (.scope c) :: k)) cs w).fenced P F := fenced_calm hb hr rfl
  obtain ⟨e, a₁, w₁, hq, harr⟩ := h b (.inScope c :: k) cs hro hb hr
  cases e with
  | normal => exact ⟨.normal, a₁, w₁, hq, .head h0 stepR_scope (StepsIn.trans harr (.one (fenced_calm hb hr rfl) stepR_inScope))⟩
  | exit id' =>
    have hx : exitTo id' (.inScope c :: k) = exitTo id' k := by simp [exitTo]
    exact ⟨.exit id', a₁, w₁, hq, fun k' hk => .head h0 stepR_scope (harr.1 k' (by rw [hx]; exact hk)),
      fun hr' hk => let ⟨k₁, h1, h2⟩ := harr.2 hr' (by rw [hx]; exact hk); ⟨k₁, h1, .head h0 stepR_scope h2⟩⟩
  | goto l => exact hq.elim
  | ret => exact ⟨_, a₁, w₁, hq, .of_steps (.one h0 stepR_scope) harr⟩
  | panic ch => exact ⟨_, a₁, w₁, hq, .of_steps (.one h0 stepR_scope) harr⟩
  | outgrown => exact ⟨_, a₁, w₁, hq, .of_steps (.one h0 stepR_scope) harr⟩
end

def noGotoE (Q : EPost) : EPost
  | .goto _, _, _, _ => False
  | e, σ, ds, w => Q e σ ds w
section
variable {r : Option Nat} {P : Program} {N : Nat} {σ : Env} {ds : List Deferred} {w : World} {Q : EPost}
theorem WE.scope {c : Code} (h : WE r P N c (noGotoE Q) σ ds w) : WE r P N (.scope c) Q σ ds w := fun a ha => by
  refine wpIn_scope (wpIn_mono (h a ha) ?_)
  intro e a' w' hq
  obtain ⟨h1, h2⟩ := hq
  cases e <;> first | exact ⟨h1, h2⟩ | exact h2
theorem WE.label {l : Nat} (h : Q .normal σ ds w) : WE r P N (.label l) Q σ ds w := fun a ha => wpIn_label ⟨ha.size, by rw [ha.env, ha.defers]; exact h⟩
end

section
variable {P : Program} {σ : Env} {o : Oper} {t u e : TypeId} {x y : Operand}
/-- equal pointers -/
theorem run_eq_ptr {a : Option Addr} (ht : tyPtr P t = some e) (hs : (tySize P e).isSome = true) (w : World) : (Op.equal t (.pointer a) (.pointer a)).run P w = .ok true w := by
  show (Op.equalIn (9999 + 1) t _ _).run P w = _
  rw [Op.equalIn]
  simp only [Sem.run_bind, run_underlying (und_of_ptr ht), Result.andThen]
  cases a with
  | none => rfl
  | some a =>
    obtain ⟨n, hn⟩ := Option.isSome_iff_exists.1 hs
    simp only [Sem.run_bind, run_sizeOf' hn, Result.andThen]
    split
    · exact run_sameAddr_same w a
    · simp
theorem PV.eqlPP {a : Option Addr} (h : o.op = .binOp .eql t x y u) (ht : tyPtr P t = some e) (hs : (tySize P e).isSome = true) (hx : ev σ x = .pointer a) (hy : ev σ y = .pointer a) : PV P σ o (.bool true) := fun w => by
  simp [execOp, h, hx, hy, eqGuard, binOp, run_eq_ptr ht hs w]
theorem PV.neqPP {a : Option Addr} (h : o.op = .binOp .neq t x y u) (ht : tyPtr P t = some e) (hs : (tySize P e).isSome = true) (hx : ev σ x = .pointer a) (hy : ev σ y = .pointer a) : PV P σ o (.bool false) := fun w => by
  simp [execOp, h, hx, hy, eqGuard, binOp, run_eq_ptr ht hs w]
/-- a character of a text -/
theorem PV.indexStr {s : ByteArray} {i : Nat} {b : UInt8} {k : IntKind} (h : o.op = .index t x y) (ht : P.underlying t = some .string) (hx : ev σ x = .string s) (hy : ev σ y = .int k (i : Int)) (hb : s[i]? = some b) : PV P σ o (.int .u8 (b.toNat : Int)) := fun w => by
  have key : (Instr.index t (.string s) (.int k (i : Int))).run P w = .ok (.int .u8 (b.toNat : Int)) w := by
    unfold Instr.index
    simp only [Sem.run_bind, asIntOf, Sem.run_pure, Result.andThen, run_underlying ht]
    rw [if_pos (by omega)]
    simp [hb]
  simp [execOp, h, hx, hy, key]
end

theorem one_sing {v : Value} (h : v.oneCell' = true) : oneAll [v] := one_lit _ (by simp [h])

/-- an own slice that is not empty is a block with more behind -/
theorem ownsRow_blk {w : World} {base : Nat} {e : TypeId} {sz n : Nat} {v : Value} {xs : List Value} (h : w.ownsRow base e sz v n xs) (hn : 0 < n) :
    ∃ g cap rest, v = .slice (some ⟨g, 0, none⟩) n cap ∧ base ≤ g ∧ n ≤ cap ∧ Blk w g e (xs ++ rest) := by
  obtain ⟨hl, h | ⟨g, cap, cur, rfl, hb, hg, h1, h2, h3, h4⟩⟩ := h
  · omega
  · refine ⟨g, cap, cur.toList.drop (n * sz), rfl, hb, h1, ?_⟩
    unfold Blk
    rw [hg, ← h4, List.take_append_drop]
theorem Laid.append {l o' new l' : List Value} {p : Nat} (h : Laid l p new l') : Laid (l ++ o') p new (l' ++ o') := Laid.left h
/-- a store into an own slice -/
theorem WL.storeS {r : Option Nat} {P : Program} {N : Nat} {ops : Array Oper} {rest : List Oper} {K : Env → List Deferred → World → Prop} {σ : Env} {ds : List Deferred} {o : Oper} {X : Nat → Prop} {w0 w : World} {O L : List Ent} {Ps : List (World → Prop)}
    {u e : TypeId} {x y : Operand} {base sz n p : Nat} {v : Value} {xs xs' new : List Value} (H : St X w0 w O L Ps) (i : Nat) (h : o.op = .store u x y) (hx : ev σ x = .pointer (some (sAddr v p))) (hi : L[i]? = some (Ent.osl base v e sz n xs))
    (hv : (ev σ y).cells = new.toArray) (hs : tySize P u = some new.length) (h1 : oneAll new) (h0 : 0 < new.length) (hl : Laid xs p new xs') (hw : wantedE ops σ o = true)
    (k : ∀ w', St X w0 w' O (L.set i (Ent.osl base v e sz n xs')) Ps → WL r P N ops rest K (upd N σ o.dst undef) ds w') : WL r P N ops (o :: rest) K σ ds w := by
  have hown := H.l i hi
  have hlen : xs'.length = xs.length := by
    obtain ⟨h2, rfl⟩ := hl
    simp; omega
  obtain ⟨hxl, h2 | ⟨g, cap, cur, rfl, hb, hg, hc, hm, hcs, ht⟩⟩ := hown
  · obtain ⟨_, rfl⟩ := h2
    have := hl.1
    rw [hxl] at this
    omega
  have hB : Blk w g e (xs ++ cur.toList.drop (n * sz)) := by unfold Blk; rw [hg, ← ht, List.take_append_drop]
  have hl' := hl.append (o' := cur.toList.drop (n * sz))
  have hx' : ev σ x = .pointer (some ⟨g, p, none⟩) := by
    rw [hx]
    show Value.pointer (some (Addr.add ⟨g, 0, none⟩ p)) = _
    rw [add_mk, Nat.zero_add]
  refine WL.unit (w' := w.setRow g (xs' ++ cur.toList.drop (n * sz)).toArray) hw (by unfold noDefer; rw [h]) ?_ (k _ ?_)
  · simp only [execOp, h, Instr.storeAt, hx', Instr.sureAddr]
    simp [run_storeVar_blk hB hv hs h1 hl']
  · refine H.setL hi (Out.setRow.mono fun b _ hb => by subst hb; rfl) _ ?_ fun b hb => .inl hb
    refine ⟨hlen.trans hxl, .inr ⟨g, cap, (xs' ++ cur.toList.drop (n * sz)).toArray, rfl, hb, setRow_heap w g _ _ e _ hB, hc, hm, ?_, ?_⟩⟩
    · simp only [List.size_toArray, List.length_append, List.length_drop, Array.length_toList]
      have : n * sz ≤ cap * sz := Nat.mul_le_mul_right _ hc
      omega
    · rw [List.take_append_of_le_length (by omega), List.take_of_length_le (by omega)]
section
variable {X : Nat → Prop} {w0 w : World} {O L : List Ent} {Ps : List (World → Prop)}
/-- .. and may be written -/
theorem St.toBlk (H : St X w0 w O L Ps) (i : Nat) {base : Nat} {v : Value} {e : TypeId} {sz n : Nat} {xs : List Value} (hi : L[i]? = some (Ent.osl base v e sz n xs)) (hn : 0 < n) :
    ∃ g cap rest, v = .slice (some ⟨g, 0, none⟩) n cap ∧ n ≤ cap ∧ St X w0 w O (L.set i (Ent.blk g e (xs ++ rest))) Ps := by
  obtain ⟨g, cap, rest, rfl, _, hc, hB⟩ := ownsRow_blk (H.l i hi) hn
  exact ⟨g, cap, rest, rfl, hc, H.setL hi (Out.refl _ w) _ hB fun b hb => .inl (by cases hb; rfl)⟩
/-- an own entry's fact abides while another one is written -/
theorem St.robLL (H : St X w0 w O L Ps) (i j : Nat) {b : Nat} {t : TypeId} {l : List Value} {e : Ent} (hi : L[i]? = some (Ent.blk b t l)) (hj : L[j]? = some e) (hij : i ≠ j) : Rob (fun c => c = b) e.ok w := fun w' hw =>
  e.loc w w' (fun x hx => hw x (e.lt w (H.l j hj) x hx) fun hxb => pair_apart H.disL hij hi hj x ⟨hxb, hx⟩) (H.l j hj)
/-- a fact that abides against what this call changes -/
theorem St.weak (_ : St X w0 w O L Ps) {b : Nat} {t : TypeId} {l : List Value} {p : World → Prop} (hO : Out (fun c => ∃ e ∈ O, e.fp c) w0 w) (hp : Rob (fun c => c = b) p w0) (hOb : O = [Ent.blk b t l]) : Rob (fun c => c = b) p w :=
  hp.out hO (fun c _ ⟨e, he, h⟩ => by subst hOb; cases List.mem_singleton.1 he; exact h) fun _ _ h => h
theorem St.rebase (H : St X w0 w O [] Ps) : St X w w O [] Ps :=
  St.start (fun b hb => Nat.lt_of_lt_of_le (H.xlt b hb) H.size) H.okO H.disO H.pers
end
theorem Rob.wk {X : Nat → Prop} {b : Nat} {p : World → Prop} {w : World} (h : Rob (fun c => X c ∨ c = b) p w) : Rob (fun c => Nil c ∨ c = b) p w := h.mono fun _ _ h => h.elim (fun h => h.elim) .inr
theorem Rob.wk2 {b : Nat} {p : World → Prop} {w : World} (h : Rob (fun c => c = b) p w) : Rob (fun c => Nil c ∨ c = b) p w := h.mono fun _ _ h => h.elim (fun h => h.elim) id
theorem Rob.wk0 {X : Nat → Prop} {p : World → Prop} {w : World} (h : Rob X p w) : Rob Nil p w := h.mono fun _ _ h => h.elim
theorem own_one {w : World} {base : Nat} {e : TypeId} {sz n : Nat} {v : Value} {xs : List Value} (h : w.ownsRow base e sz v n xs) : v.oneCell' = true := by
  obtain ⟨_, ⟨rfl, _⟩ | ⟨g, cap, cur, rfl, _⟩⟩ := h <;> rfl
end Go.Sp
