/- Walks of functions, printed by a program of this session (gen.py) from notes on each function. -/
import Derived.Test.YtcclagdjpoimaaaGreatDoorY1
import Derived.LaidEqlPtr
set_option maxRecDepth 100000
set_option maxHeartbeats 1000000
set_option linter.unusedVariables false
set_option linter.unusedSimpArgs false
namespace Go.Sp.Tryz
open Go.Proofs Go.RowKit Go.Sp

theorem St.setOp {X : Nat → Prop} {w0 w w' : World} {O L : List Ent} {Ps : List (World → Prop)} (H : St X w0 w O L Ps) {i : Nat} {e : Ent} (hi : O[i]? = some e) (h : Out e.fp w w') (e' : Ent) (he : e'.ok w') (hf : ∀ b, e'.fp b ↔ e.fp b) (e2 : Ent) (he2 : e2.ok w') (hn : ∀ b, e2.fp b → w.heap.size ≤ b) :
    St X w0 w' (O.set i e') (e2 :: L) Ps :=
  let H' := H.setO hi h e' he hf
  { H' with
    okL := fun x hx => by
      cases List.mem_cons.1 hx with
      | inl hx => subst hx; exact he2
      | inr hx => exact H'.okL x hx
    geL := fun x hx => by
      cases List.mem_cons.1 hx with
      | inl hx => subst hx; exact fun b hb => Nat.le_trans H.size (hn b hb)
      | inr hx => exact H'.geL x hx
    disL := List.pairwise_cons.2 ⟨fun x hx b hb => by
      have h1 := hn b hb.1
      have h2 := H.ltL x hx b hb.2
      omega, H'.disL⟩
    pers := fun p hp => (H.pers p hp).out h (fun b _ hm => .inr (.inl ⟨e, List.mem_of_getElem? hi, hm⟩)) (fun b hb hx => by
      rcases hx with hx | ⟨x, hx, hb'⟩ | ⟨x, hx, hb'⟩
      · exact .inl hx
      · rcases mem_set_cases hx with rfl | ⟨j, hne, hj⟩
        · exact .inr (.inl ⟨e, List.mem_of_getElem? hi, (hf b).1 hb'⟩)
        · exact .inr (.inl ⟨x, List.mem_of_getElem? hj, hb'⟩)
      · cases List.mem_cons.1 hx with
        | inl hx => subst hx; have := hn b hb'; omega
        | inr hx => exact .inr (.inr ⟨x, hx, hb'⟩)) }
section
variable {r : Option Nat} {P : Program} {N : Nat} {σ : Env} {ds : List Deferred} {w : World} {ops : Array Oper} {rest : List Oper} {K : Env → List Deferred → World → Prop}
variable {X : Nat → Prop} {w0 : World} {O L : List Ent} {Ps : List (World → Prop)}
theorem WL.appendO {dst : Option Tmp} {t ty e : TypeId} {zl : List Value} {bytes base : Nat} {x y : Operand} {pos : String} {after : Array Edge} {guard : Option (Nat × Bool)} {v u : Value} {n m : Nat} {xs news : List Value}
    (H : St X w0 w O L Ps) (i : Nat) (hbase : base ≤ w0.heap.size) (ht : SlTy P t e zl bytes) (hz : 0 < zl.length) (hi : O[i]? = some (Ent.osl base v e zl.length n xs)) (hx : ev σ x = v) (hy : ev σ y = u) (hu : SlC w u zl.length m news)
    (h1 : oneAll news) (hb : (n + m) * bytes ≤ 140737488355328) (hb0 : 0 < bytes) (hw : wantedE ops σ ⟨dst, .call ⟨.builtin .append, [x, y].toArray, [t, t].toArray⟩, ty, pos, after, guard⟩ = true)
    (k1 : ∀ v' w', (∀ b, v'.ownBlock = some b → v.ownBlock = some b) → St X w0 w' (O.set i (Ent.osl base v' e zl.length (n + m) (xs ++ news))) L Ps → WL r P N ops rest K (upd N σ dst v') ds w')
    (k2 : ∀ v' w', (∀ b, v'.ownBlock = some b → w0.heap.size ≤ b) → St X w0 w' (O.set i (Ent.set fun b => v.ownBlock = some b)) (Ent.osl base v' e zl.length (n + m) (xs ++ news) :: L) Ps → WL r P N ops rest K (upd N σ dst v') ds w') :
    WL r P N ops (⟨dst, .call ⟨.builtin .append, [x, y].toArray, [t, t].toArray⟩, ty, pos, after, guard⟩ :: rest) K σ ds w := by
  subst hx; subst hy
  have h63 : n + m ≤ maxLen := by
    have : (n + m) * 1 ≤ (n + m) * bytes := Nat.mul_le_mul_left _ hb0
    unfold maxLen
    omega
  obtain ⟨v', w', hrun, hown', hg, hblk⟩ := run_append_rd (P := P) (ty := ty) base ht hz (H.o i hi) hu h1 h63 hb (Nat.le_trans hbase H.size)
  by_cases hc : ∃ b, v'.ownBlock = some b ∧ (ev σ x).ownBlock = some b
  · obtain ⟨b0, h1', h2'⟩ := hc
    refine WL.val (v := v') (w' := w') hw rfl ?_ (k1 v' w' (fun b hb => by rw [h1'] at hb; rw [h2']; exact hb) ?_)
    · simp [execOp, resolve, invoke, builtin, hrun]
    · exact St.setO H hi (Out.grown hg) _ hown' (fun b => by show v'.ownBlock = some b ↔ (ev σ x).ownBlock = some b; rw [h1', h2'])
  · have hn : ∀ b, v'.ownBlock = some b → w.heap.size ≤ b := fun b hb => by
      rcases hblk b hb with h | h
      · exact absurd ⟨b, hb, h⟩ hc
      · exact h
    refine WL.val (v := v') (w' := w') hw rfl ?_ (k2 v' w' (fun b hb => Nat.le_trans H.size (hn b hb)) ?_)
    · simp [execOp, resolve, invoke, builtin, hrun]
    · exact St.setOp H hi (Out.grown hg) (Ent.set fun b => (ev σ x).ownBlock = some b) (fun b hb => Nat.lt_of_lt_of_le ((Ent.osl base (ev σ x) e zl.length n xs).lt w (H.o i hi) b hb) (Out.grown hg).size) (fun b => Iff.rfl) (Ent.osl base v' e zl.length (n + m) (xs ++ news)) hown' hn
end
end Go.Sp.Tryz

set_option maxRecDepth 100000
set_option maxHeartbeats 1000000
set_option linter.unusedVariables false
set_option linter.unusedSimpArgs false
namespace Go.Sp.Tryz
open Go.Proofs Go.RowKit Go.Sp

theorem RdA.inj {w : World} {a : Addr} {l m : List Value} (h1 : RdA w a l) (h2 : RdA w a m) (h : l.length = m.length) : l = m :=
  List.ext_getElem h fun j h3 h4 => by
    have e1 := h1 j l[j] (List.getElem?_eq_getElem h3)
    have e2 := h2 j m[j] (List.getElem?_eq_getElem h4)
    rw [e1] at e2
    injection e2
theorem SlB.inj {s : Value} {l m : List UInt8} {w : World} (h1 : SlB s l w) (h2 : SlB s m w) : l = m := by
  obtain ⟨A, c, rfl, hl, hc, hn, hr⟩ := h1
  obtain ⟨A', c', e, hl', hc', hn', hr'⟩ := h2
  injection e with e1 e2 e3
  subst e1
  cases A with
  | none =>
    have h3 := (hn rfl).1
    have h4 := (hn' rfl).1
    rw [List.eq_nil_of_length_eq_zero h3, List.eq_nil_of_length_eq_zero h4]
  | some a => exact kc_inj (RdA.inj (hr a rfl) (hr' a rfl) (by rw [kc_length, kc_length, e2]))
theorem Blk.inj {w : World} {b : Nat} {t t' : TypeId} {l m : List Value} (h1 : Blk w b t l) (h2 : Blk w b t' m) : l = m := by
  unfold Blk at h1 h2
  rw [h1] at h2
  injection h2 with h2
  injection h2 with h3 h4 h5
  simpa using h3
theorem addr_inj {a b : Nat} (h : (some ⟨a, 0, none⟩ : Option Addr) = some ⟨b, 0, none⟩) : a = b := by
  injection h with h
  injection h
theorem ptr_inj {T S : Tr} (h : T.ptr = S.ptr) : T.addr = S.addr := by
  unfold Tr.ptr at h
  injection h
theorem NodeAt.inj {a : Nat} {t t' : TypeId} {L L' : List Value} {D D' : List UInt8} {w : World} (h1 : NodeAt a t L D w) (h2 : NodeAt a t' L' D' w) : t = t' ∧ L = L' := by
  have e := Blk.inj h1 h2
  rw [List.singleton_append, List.singleton_append] at e
  injection e with e1 e2
  injection e1 with e3 e4
  injection e4 with e5
  exact ⟨e3, by simpa using e5⟩
theorem TrA.inj {bits : Int} {w : World} : ∀ {T S : Tr}, TrA bits T w → TrA bits S w → T.addr = S.addr → T.er = S.er
  | .nil, .nil, _, _, _ => rfl
  | .nil, .leaf .., _, _, h => by cases h
  | .nil, .inner .., _, _, h => by cases h
  | .leaf .., .nil, _, _, h => by cases h
  | .inner .., .nil, _, _, h => by cases h
  | .leaf a k v s, .inner b l r, h1, h2, h => by
    obtain rfl := addr_inj h
    have := (NodeAt.inj h1.2.2.2 h2.2.2).1
    exact absurd this (by decide)
  | .inner b l r, .leaf a k v s, h1, h2, h => by
    obtain rfl := addr_inj h
    have := (NodeAt.inj h1.2.2 h2.2.2.2).1
    exact absurd this (by decide)
  | .leaf a k v s, .leaf b k' v' s', h1, h2, h => by
    obtain rfl := addr_inj h
    have e := (NodeAt.inj h1.2.2.2 h2.2.2.2).2
    unfold leafC at e
    have e1 := List.append_inj' e rfl
    have e2 := List.append_inj e1.1 (by rw [kc_length, kc_length, h1.1, h2.1])
    have hs : s = s' := by injection e1.2
    subst hs
    have hk := kc_inj e2.1
    have hv := SlB.inj h1.2.1 h2.2.1
    show Sh.leaf k v = Sh.leaf k' v'
    rw [hk, hv]
  | .inner a l r, .inner b l' r', h1, h2, h => by
    obtain rfl := addr_inj h
    have e := (NodeAt.inj h1.2.2 h2.2.2).2
    unfold innerC at e
    have e1 := (List.append_inj e rfl).1
    injection e1 with e2 e3
    injection e3 with e4 e5
    show Sh.inner l.er r.er = Sh.inner l'.er r'.er
    rw [TrA.inj h1.1 h2.1 (ptr_inj e2), TrA.inj h1.2.1 h2.2.1 (ptr_inj e4)]
theorem TrA.blk {bits : Int} {w : World} : ∀ {T : Tr} {a : Addr}, TrA bits T w → T.addr = some a → ∃ c t, w.heap[a.block]? = some (.cells c t (0, 0))
  | .nil, _, _, h => by cases h
  | .leaf a k v s, _, h, e => by
    injection e with e; subst e
    exact ⟨_, _, h.2.2.2⟩
  | .inner a l r, _, h, e => by
    injection e with e; subst e
    exact ⟨_, _, h.2.2⟩
theorem run_eql_tr {bits : Int} {w : World} {T S : Tr} (h1 : TrA bits T w) (h2 : TrA bits S w) : (binOp .eql 23 T.ptr S.ptr).run Tryz.prog w = .ok (.bool (decide (T.addr = S.addr))) w := by
  by_cases h : T.addr = S.addr
  · unfold Tr.ptr
    rw [h]
    simp [binOp, run_eq_ptr TryzT.pt23 rfl]
  · rw [decide_eq_false h]
    unfold Tr.ptr
    have h0 : ∀ p q : Option Addr, p.isNone ≠ q.isNone → (Op.equal 23 (.pointer p) (.pointer q)).run Tryz.prog w = .ok false w := fun p q hpq => by
      show (Op.equalIn (9999 + 1) _ _ _).run Tryz.prog w = _
      rw [Op.equalIn]
      simp only [Sem.run_bind, run_underlying (und_of_ptr TryzT.pt23), Result.andThen]
      cases p <;> cases q <;> first | rfl | exact absurd rfl hpq
    cases ha : T.addr with
    | none =>
      cases hb : S.addr with
      | none => rw [ha, hb] at h; exact absurd rfl h
      | some b => simp [binOp, h0 none (some b) (by simp)]
    | some a =>
      cases hb : S.addr with
      | none => simp [binOp, h0 (some a) none (by simp)]
      | some b =>
        obtain ⟨ca, ta, hha⟩ := TrA.blk h1 ha
        obtain ⟨cb, tb, hhb⟩ := TrA.blk h2 hb
        obtain ⟨j, hj, hs⟩ := info_of_size TryzT.sz80
        exact run_eql_ptr_other w (und_of_ptr TryzT.pt23) hj (by rw [hs]; decide) (fun e => h (by rw [ha, hb, e])) hha hhb

end Go.Sp.Tryz

