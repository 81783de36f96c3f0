/- Part of the proof of this claim: walks through the program's functions and the plain laws that they need, printed by a program of this session. -/
import Derived.Test.YthkombhebdjamaaGreatDoorIns
namespace Go.Sp
section
variable {X : Nat → Prop} {w0 w w' : World} {b1 b2 : Nat} {t1 t2 : TypeId} {l1 l2 DN E0 : List Value} {O L : List aP} {Ps : List (World → Prop)} {p : World → Prop}
theorem St.r5 (hX : ∀ b, X b → b < w.heap.size) (h1 : aN w b1 t1 l1) (h2 : aN w b2 t2 l2) (hne : b1 ≠ b2) : St X w w [aP.blk b1 t1 l1, aP.blk b2 t2 l2] [] [] :=
 St.start hX (by
  intro e he
  rcases List.mem_cons.1 he with rfl | he
  ·
   exact h1
  ·
   rw [List.mem_singleton.1 he]; exact h2) (by
  refine List.pairwise_cons.2 ⟨fun e he x hx => ?_, List.pairwise_singleton _ _⟩
  rw [List.mem_singleton.1 he] at hx
  exact hne (hx.1.symm.trans hx.2)) (fun _ h => by cases h)
theorem iA (h : aJ (fun c => X c ∨ c = b1 ∨ c = b2) p w) : aJ (YY X [aP.blk b1 t1 l1, aP.blk b2 t2 l2] []) p w :=
 h.mono fun c _ hc => by
  rcases hc with h | ⟨e, he, h⟩ | ⟨e, he, _⟩
  ·
   exact .inl h
  ·
   rcases List.mem_cons.1 he with rfl | he
   ·
    exact .inr (.inl h)
   ·
    rw [List.mem_singleton.1 he] at h; exact .inr (.inr h)
  ·
   cases he
theorem St.lG (H : St X w0 w [aP.blk b1 t1 l1, aP.blk b2 t2 l2] L Ps) : Out (fun c => c = b1 ∨ c = b2) w0 w :=
 H.mS.mono fun _ _ ⟨e, he, hc⟩ => by
  rcases List.mem_cons.1 he with rfl | he
  ·
   exact .inl hc
  ·
   rw [List.mem_singleton.1 he] at hc; exact .inr hc
theorem St.gE (_ : St X w0 w [aP.blk b1 t1 l1, aP.blk b2 t2 l2] L Ps) (h : aJ (YY X [aP.blk b1 t1 l1, aP.blk b2 t2 l2] L) p w) : aJ (fun c => X c ∨ c = b1 ∨ c = b2) p w :=
 h.mono fun c _ hc => by
  rcases hc with h | h | h
  ·
   exact .inl h
  ·
   exact .inr (.inl ⟨_, List.mem_cons_self, h⟩)
  ·
   exact .inr (.inl ⟨_, List.mem_cons_of_mem _ List.mem_cons_self, h⟩)
theorem St.ZL (H : St X w0 w O L Ps) (i j : Nat) (hi : L[i]? = some (aP.blk b1 t1 l1)) (hj : L[j]? = some (aP.blk b2 t2 l2)) (hij : i ≠ j) (h : Out (fun c => c = b1 ∨ c = b2) w w') (h1 : aN w' b1 t1 DN) (h2 : aN w' b2 t2 E0) :
    St X w0 w' O ((L.set i (aP.blk b1 t1 DN)).set j (aP.blk b2 t2 E0)) Ps :=
  have g1 : w0.heap.size ≤ b1 := H.kF _ (List.mem_of_getElem? hi) b1 rfl
  have g2 : w0.heap.size ≤ b2 := H.kF _ (List.mem_of_getElem? hj) b2 rfl
  have hj' : (L.set i (aP.blk b1 t1 DN))[j]? = some (aP.blk b2 t2 l2) := by rw [List.getElem?_set_ne hij]; exact hj
  have cs : ∀ x ∈ (L.set i (aP.blk b1 t1 DN)).set j (aP.blk b2 t2 E0), x = aP.blk b1 t1 DN ∨ x = aP.blk b2 t2 E0 ∨ (∃ k, k ≠ i ∧ k ≠ j ∧ L[k]? = some x) := fun x hx => by
    rcases eO hx with rfl | ⟨k, hk, G6⟩
    · exact .inr (.inl rfl)
    · by_cases hki : i = k
      · subst hki
        rw [List.getElem?_set] at G6
        rw [if_pos rfl] at G6
        split at G6
        · exact .inl (Option.some.inj G6).symm
        · cases G6
      · rw [List.getElem?_set_ne hki] at G6
        exact .inr (.inr ⟨k, fun e => hki e.symm, hk, G6⟩)
  have fps : ∀ x ∈ (L.set i (aP.blk b1 t1 DN)).set j (aP.blk b2 t2 E0), ∀ b, x.fp b → ∃ y ∈ L, y.fp b := fun x hx b hb => by
    rcases cs x hx with rfl | rfl | ⟨k, _, _, hk⟩
    · exact ⟨_, List.mem_of_getElem? hi, hb⟩
    · exact ⟨_, List.mem_of_getElem? hj, hb⟩
    · exact ⟨x, List.mem_of_getElem? hk, hb⟩
  { os := h.os.trans H.os
    tape := h.tape.trans H.tape
    output := h.output.trans H.output
    size := Nat.le_trans H.size h.size
    old := fun b hb hn => (h.block b (Nat.lt_of_lt_of_le hb H.size) fun hm => by rcases hm with hm | hm <;> omega).trans (H.old b hb hn)
    zP := fun x hx => x.loc w w' (fun b hb => h.block b (x.lt w (H.zP x hx) b hb) fun hm => by
      have := H.uI x hx b hb
      rcases hm with hm | hm <;> omega) (H.zP x hx)
    sR := fun x hx => by
      rcases cs x hx with rfl | rfl | ⟨k, hki, hkj, hk⟩
      · exact h1
      · exact h2
      · have hm := List.mem_of_getElem? hk
        refine x.loc w w' (fun b hb => h.block b (H.V4 x hm b hb) fun hmm => ?_) (H.sR x hm)
        rcases hmm with e | e
        · exact e8 H.iM (Ne.symm hki) hi hk b ⟨e, hb⟩
        · exact e8 H.iM (Ne.symm hkj) hj hk b ⟨e, hb⟩
    uI := H.uI
    kF := fun x hx b hb => by
      obtain ⟨y, hy, hb'⟩ := fps x hx b hb
      exact H.kF y hy b hb'
    pF := H.pF
    iM := sQ (e := aP.blk b2 t2 E0) (sQ (e := aP.blk b1 t1 DN) H.iM hi fun x hx => .inl hx) hj' fun x hx => .inl hx
    AA := H.AA
    iZ := fun q hq => (H.iZ q hq).out h (fun b _ hm => by
      rcases hm with rfl | rfl
      · exact .inr (.inr ⟨_, List.mem_of_getElem? hi, rfl⟩)
      · exact .inr (.inr ⟨_, List.mem_of_getElem? hj, rfl⟩)) (fun b _ hx => by
      rcases hx with hx | hx | ⟨x, hx, hb⟩
      · exact .inl hx
      · exact .inr (.inl hx)
      · obtain ⟨y, hy, hb'⟩ := fps x hx b hb
        exact .inr (.inr ⟨y, hy, hb'⟩)) }
theorem St.pI (H : St X w0 w O L Ps) (i j : Nat) (hi : L[i]? = some (aP.blk b1 t1 l1)) (hj : L[j]? = some (aP.blk b2 t2 l2)) (n : Nat) (hp : Ps[n]? = some p) : aJ (fun c => YY X O L c ∨ c = b1 ∨ c = b2) p w :=
 (H.bK n hp).mono fun c _ h => by
  rcases h with h | h | h
  ·
   exact h
  ·
   exact .inr (.inr ⟨_, List.mem_of_getElem? hi, h⟩)
  ·
   exact .inr (.inr ⟨_, List.mem_of_getElem? hj, h⟩)
theorem St.F8 (H : St X w0 w O L Ps) (i j : Nat) (hi : L[i]? = some (aP.blk b1 t1 l1)) (hj : L[j]? = some (aP.blk b2 t2 l2)) (hij : i ≠ j) (h : Out (fun c => c = b1 ∨ c = b2) w w') (h1 : aN w' b1 t1 DN) (h2 : aN w' b2 t2 E0) (hp : aJ (fun c => YY X O L c ∨ c = b1 ∨ c = b2) p w') :
  St X w0 w' O ((L.set i (aP.blk b1 t1 DN)).set j (aP.blk b2 t2 E0)) (p :: Ps) :=
 (H.ZL i j hi hj hij h h1 h2).add (hp.mono fun c _ hc => by
  rcases hc with hc | hc | ⟨x, hx, hb⟩
  ·
   exact .inl (.inl hc)
  ·
   exact .inl (.inr (.inl hc))
  ·
   rcases eO hx with rfl | ⟨k, hk, G6⟩
   ·
    exact .inr (.inr hb)
   ·
    by_cases hki : i = k
    ·
     subst hki
     rw [List.getElem?_set, if_pos rfl] at G6
     split at G6
     ·
      rw [← Option.some.inj G6] at hb; exact .inr (.inl hb)
     ·
      cases G6
    ·
     rw [List.getElem?_set_ne hki] at G6
     exact .inl (.inr (.inr ⟨x, List.mem_of_getElem? G6, hb⟩)))
theorem St.UG (H : St X w0 w [aP.blk b1 t1 l1, aP.blk b2 t2 l2] L Ps) (h : Out (fun c => c = b1 ∨ c = b2) w w') (h1 : aN w' b1 t1 DN) (h2 : aN w' b2 t2 E0) : St X w0 w' [aP.blk b1 t1 DN, aP.blk b2 t2 E0] L Ps :=
  have q1 : b1 < w0.heap.size := H.uI _ List.mem_cons_self b1 rfl
  have q2 : b2 < w0.heap.size := H.uI _ (List.mem_cons_of_mem _ List.mem_cons_self) b2 rfl
  have yy : ∀ c, YY X [aP.blk b1 t1 DN, aP.blk b2 t2 E0] L c → YY X [aP.blk b1 t1 l1, aP.blk b2 t2 l2] L c := fun c hc => by
    rcases hc with hc | ⟨e, he, hb⟩ | hc
    · exact .inl hc
    · rcases List.mem_cons.1 he with rfl | he
      · exact .inr (.inl ⟨_, List.mem_cons_self, hb⟩)
      · rw [List.mem_singleton.1 he] at hb; exact .inr (.inl ⟨_, List.mem_cons_of_mem _ List.mem_cons_self, hb⟩)
    · exact .inr (.inr hc)
  { os := h.os.trans H.os
    tape := h.tape.trans H.tape
    output := h.output.trans H.output
    size := Nat.le_trans H.size h.size
    old := fun b hb hn => (h.block b (Nat.lt_of_lt_of_le hb H.size) fun hm => by
      rcases hm with hm | hm
      · exact hn _ List.mem_cons_self hm
      · exact hn _ (List.mem_cons_of_mem _ List.mem_cons_self) hm).trans (H.old b hb fun e he => by
        rcases List.mem_cons.1 he with rfl | he
        · exact fun hb' => hn (aP.blk b1 t1 DN) List.mem_cons_self hb'
        · rw [List.mem_singleton.1 he]; exact fun hb' => hn (aP.blk b2 t2 E0) (List.mem_cons_of_mem _ List.mem_cons_self) hb')
    zP := fun x hx => by
      rcases List.mem_cons.1 hx with rfl | hx
      · exact h1
      · rw [List.mem_singleton.1 hx]; exact h2
    sR := fun x hx => x.loc w w' (fun b hb => h.block b (H.V4 x hx b hb) fun hm => by
      have := H.kF x hx b hb
      rcases hm with hm | hm <;> omega) (H.sR x hx)
    uI := fun x hx b hb => by
      rcases List.mem_cons.1 hx with rfl | hx
      · rw [show b = b1 from hb]; exact q1
      · rw [List.mem_singleton.1 hx] at hb; rw [show b = b2 from hb]; exact q2
    kF := H.kF
    pF := by
      have hd := (List.pairwise_cons.1 H.pF).1 _ List.mem_cons_self
      refine List.pairwise_cons.2 ⟨fun e he x hx => ?_, List.pairwise_singleton _ _⟩
      rw [List.mem_singleton.1 he] at hx
      exact hd x hx
    iM := H.iM
    AA := H.AA
    iZ := fun q hq => (H.iZ q hq).out h (fun b _ hm => by
      rcases hm with rfl | rfl
      · exact .inr (.inl ⟨_, List.mem_cons_self, rfl⟩)
      · exact .inr (.inl ⟨_, List.mem_cons_of_mem _ List.mem_cons_self, rfl⟩)) (fun b _ hx => yy b hx) }
theorem St.mU (H : St X w0 w [aP.blk b1 t1 l1, aP.blk b2 t2 l2] L Ps) (n : Nat) (hp : Ps[n]? = some p) : aJ (fun c => YY X [aP.blk b1 t1 l1, aP.blk b2 t2 l2] L c ∨ c = b1 ∨ c = b2) p w :=
 (H.bK n hp).mono fun c _ h => by
  rcases h with h | h | h
  ·
   exact h
  ·
   exact .inr (.inl ⟨_, List.mem_cons_self, h⟩)
  ·
   exact .inr (.inl ⟨_, List.mem_cons_of_mem _ List.mem_cons_self, h⟩)
theorem St.uV (H : St X w0 w [aP.blk b1 t1 l1, aP.blk b2 t2 l2] L Ps) (h : Out (fun c => c = b1 ∨ c = b2) w w') (h1 : aN w' b1 t1 DN) (h2 : aN w' b2 t2 E0) (hp : aJ (fun c => YY X [aP.blk b1 t1 l1, aP.blk b2 t2 l2] L c ∨ c = b1 ∨ c = b2) p w') : St X w0 w' [aP.blk b1 t1 DN, aP.blk b2 t2 E0] L (p :: Ps) :=
 (H.UG h h1 h2).add (hp.mono fun c _ hc => by
  rcases hc with hc | ⟨e, he, hb⟩ | hc
  ·
   exact .inl (.inl hc)
  ·
   rcases List.mem_cons.1 he with rfl | he
   ·
    exact .inr (.inl hb)
   ·
    rw [List.mem_singleton.1 he] at hb; exact .inr (.inr hb)
  ·
   exact .inl (.inr (.inr hc)))
theorem St.HZ (H : St X w0 w O L Ps) (h : Out Nil w w') (e1 e2 : aP) (h1 : e1.ok w') (h2 : e2.ok w') (n1 : ∀ b, e1.fp b → w.heap.size ≤ b) (n2 : ∀ b, e2.fp b → w.heap.size ≤ b) (ha : aP.rK e1 e2) (hp : aJ (fun c => YY X O L c ∨ e1.fp c ∨ e2.fp c) p w') : St X w0 w' O (e1 :: e2 :: L) (p :: Ps) :=
 let H' := H.out h
 have yy : ∀ b, b < w.heap.size → YY X O (e1 :: e2 :: L) b → YY X O L b := fun b hb hx => by
  rcases hx with hx | hx | ⟨x, hx, hb'⟩
  ·
   exact .inl hx
  ·
   exact .inr (.inl hx)
  ·
   rcases List.mem_cons.1 hx with rfl | hx
   ·
    have := n1 b hb'; omega
   ·
    rcases List.mem_cons.1 hx with rfl | hx
    ·
     have := n2 b hb'; omega
    ·
     exact .inr (.inr ⟨x, hx, hb'⟩)
 { H' with
  sR := fun x hx => by
   rcases List.mem_cons.1 hx with rfl | hx
   ·
    exact h1
   ·
    rcases List.mem_cons.1 hx with rfl | hx
    ·
     exact h2
    ·
     exact H'.sR x hx
  kF := fun x hx => by
   rcases List.mem_cons.1 hx with rfl | hx
   ·
    exact fun b hb => Nat.le_trans H.size (n1 b hb)
   ·
    rcases List.mem_cons.1 hx with rfl | hx
    ·
     exact fun b hb => Nat.le_trans H.size (n2 b hb)
    ·
     exact H'.kF x hx
  iM := List.pairwise_cons.2 ⟨fun x hx b hb => by
    rcases List.mem_cons.1 hx with rfl | hx
    ·
     exact ha b hb
    ·
     have q1 := n1 b hb.1
     have q2 := H.V4 x hx b hb.2
     omega, List.pairwise_cons.2 ⟨fun x hx b hb => by
    have q1 := n2 b hb.1
    have q2 := H.V4 x hx b hb.2
    omega, H'.iM⟩⟩
  iZ := fun q hq => by
   rcases List.mem_cons.1 hq with rfl | hq
   ·
    exact hp.mono fun b _ hb => by
     rcases hb with hb | hb | ⟨x, hx, hb⟩
     ·
      exact .inl (.inl hb)
     ·
      exact .inl (.inr (.inl hb))
     ·
      rcases List.mem_cons.1 hx with rfl | hx
      ·
       exact .inr (.inl hb)
      ·
       rcases List.mem_cons.1 hx with rfl | hx
       ·
        exact .inr (.inr hb)
       ·
        exact .inl (.inr (.inr ⟨x, hx, hb⟩))
   ·
    exact (H.iZ q hq).out h (fun _ _ hm => hm.elim) yy }
theorem St.aA0 {e1 e2 : aP} (H : St X w0 w [] [e1, e2] Ps) (i : Nat) (hp : Ps[i]? = some p) : aJ (fun c => X c ∨ e1.fp c ∨ e2.fp c) p w :=
 (H.bK i hp).mono fun b _ hb => by
  rcases hb with h | h | h
  ·
   exact .inl h
  ·
   exact .inr (.inr ⟨e1, List.mem_cons_self, h⟩)
  ·
   exact .inr (.inr ⟨e2, List.mem_cons_of_mem _ List.mem_cons_self, h⟩)
theorem St.KZ (H : St X w0 w [aP.blk b1 t1 l1] L Ps) (h0 : aN w0 b1 t1 l1) : Out Nil w0 w :=
 ⟨H.os, H.tape, H.output, H.size, fun c hc _ => by
  by_cases e : c = b1
  ·
   subst e
   exact (show aN w c t1 l1 from H.zP _ List.mem_cons_self).trans h0.symm
  ·
   exact H.old c hc fun x hx hf => by
    rw [List.mem_singleton.1 hx] at hf
    exact e hf⟩
theorem uW (h : b1 ≠ b2) : aP.rK (aP.blk b1 t1 l1) (aP.blk b2 t2 l2) := fun _ hx => h (hx.1.symm.trans hx.2)
end
end Go.Sp
