/- Part of the proof of this claim: walks through the program's functions and the plain laws that they need, printed by a program of this session. -/
import Derived.Test.YthkombhebdjamaaGreatDoorIns
namespace Go.Sp
section
variable {X : Nat → Prop} {w0 w w' : World} {b1 b2 : Nat} {t1 t2 : TypeId} {l1 l2 CK DV : List Value} {O L : List aN} {Ps : List (World → Prop)} {p : World → Prop}
theorem St.rD (hX : ∀ b, X b → b < w.heap.size) (h1 : aM w b1 t1 l1) (h2 : aM w b2 t2 l2) (hne : b1 ≠ b2) : St X w w [aN.blk b1 t1 l1, aN.blk b2 t2 l2] [] [] :=
 St.start hX (by
  intro e he
  rcases List.mem_cons.1 he with rfl | he
  ·
   exact h1
  ·
   rw [List.mem_singleton.1 he]; exact h2) (by
  refine List.pairwise_cons.2 ⟨fun e he x hx => ?_, List.pairwise_singleton _ _⟩
  rw [List.mem_singleton.1 he] at hx
  exact hne (hx.1.symm.trans hx.2)) (fun _ h => by cases h)
theorem gI (h : aH (fun c => X c ∨ c = b1 ∨ c = b2) p w) : aH (YY X [aN.blk b1 t1 l1, aN.blk b2 t2 l2] []) p w :=
 h.mono fun c _ hc => by
  rcases hc with h | ⟨e, he, h⟩ | ⟨e, he, _⟩
  ·
   exact .inl h
  ·
   rcases List.mem_cons.1 he with rfl | he
   ·
    exact .inr (.inl h)
   ·
    rw [List.mem_singleton.1 he] at h; exact .inr (.inr h)
  ·
   cases he
theorem St.kY (H : St X w0 w [aN.blk b1 t1 l1, aN.blk b2 t2 l2] L Ps) : Out (fun c => c = b1 ∨ c = b2) w0 w :=
 H.l5.mono fun _ _ ⟨e, he, hc⟩ => by
  rcases List.mem_cons.1 he with rfl | he
  ·
   exact .inl hc
  ·
   rw [List.mem_singleton.1 he] at hc; exact .inr hc
theorem St.fQ (_ : St X w0 w [aN.blk b1 t1 l1, aN.blk b2 t2 l2] L Ps) (h : aH (YY X [aN.blk b1 t1 l1, aN.blk b2 t2 l2] L) p w) : aH (fun c => X c ∨ c = b1 ∨ c = b2) p w :=
 h.mono fun c _ hc => by
  rcases hc with h | h | h
  ·
   exact .inl h
  ·
   exact .inr (.inl ⟨_, List.mem_cons_self, h⟩)
  ·
   exact .inr (.inl ⟨_, List.mem_cons_of_mem _ List.mem_cons_self, h⟩)
theorem St.XF (H : St X w0 w O L Ps) (i j : Nat) (hi : L[i]? = some (aN.blk b1 t1 l1)) (hj : L[j]? = some (aN.blk b2 t2 l2)) (hij : i ≠ j) (h : Out (fun c => c = b1 ∨ c = b2) w w') (h1 : aM w' b1 t1 CK) (h2 : aM w' b2 t2 DV) :
    St X w0 w' O ((L.set i (aN.blk b1 t1 CK)).set j (aN.blk b2 t2 DV)) Ps :=
  have g1 : w0.heap.size ≤ b1 := H.jU _ (List.mem_of_getElem? hi) b1 rfl
  have g2 : w0.heap.size ≤ b2 := H.jU _ (List.mem_of_getElem? hj) b2 rfl
  have hj' : (L.set i (aN.blk b1 t1 CK))[j]? = some (aN.blk b2 t2 l2) := by rw [List.getElem?_set_ne hij]; exact hj
  have cs : ∀ x ∈ (L.set i (aN.blk b1 t1 CK)).set j (aN.blk b2 t2 DV), x = aN.blk b1 t1 CK ∨ x = aN.blk b2 t2 DV ∨ (∃ k, k ≠ i ∧ k ≠ j ∧ L[k]? = some x) := fun x hx => by
    rcases eA hx with rfl | ⟨k, hk, CL⟩
    · exact .inr (.inl rfl)
    · by_cases hki : i = k
      · subst hki
        rw [List.getElem?_set] at CL
        rw [if_pos rfl] at CL
        split at CL
        · exact .inl (Option.some.inj CL).symm
        · cases CL
      · rw [List.getElem?_set_ne hki] at CL
        exact .inr (.inr ⟨k, fun e => hki e.symm, hk, CL⟩)
  have fps : ∀ x ∈ (L.set i (aN.blk b1 t1 CK)).set j (aN.blk b2 t2 DV), ∀ b, x.fp b → ∃ y ∈ L, y.fp b := fun x hx b hb => by
    rcases cs x hx with rfl | rfl | ⟨k, _, _, hk⟩
    · exact ⟨_, List.mem_of_getElem? hi, hb⟩
    · exact ⟨_, List.mem_of_getElem? hj, hb⟩
    · exact ⟨x, List.mem_of_getElem? hk, hb⟩
  { os := h.os.trans H.os
    tape := h.tape.trans H.tape
    output := h.output.trans H.output
    size := Nat.le_trans H.size h.size
    old := fun b hb hn => (h.block b (Nat.lt_of_lt_of_le hb H.size) fun hm => by rcases hm with hm | hm <;> omega).trans (H.old b hb hn)
    yP := fun x hx => x.loc w w' (fun b hb => h.block b (x.lt w (H.yP x hx) b hb) fun hm => by
      have := H.tI x hx b hb
      rcases hm with hm | hm <;> omega) (H.yP x hx)
    r7 := fun x hx => by
      rcases cs x hx with rfl | rfl | ⟨k, hki, hkj, hk⟩
      · exact h1
      · exact h2
      · have hm := List.mem_of_getElem? hk
        refine x.loc w w' (fun b hb => h.block b (H.TX x hm b hb) fun hmm => ?_) (H.r7 x hm)
        rcases hmm with e | e
        · exact eS H.gW (Ne.symm hki) hi hk b ⟨e, hb⟩
        · exact eS H.gW (Ne.symm hkj) hj hk b ⟨e, hb⟩
    tI := H.tI
    jU := fun x hx b hb => by
      obtain ⟨y, hy, hb'⟩ := fps x hx b hb
      exact H.jU y hy b hb'
    oK := H.oK
    gW := r5 (e := aN.blk b2 t2 DV) (r5 (e := aN.blk b1 t1 CK) H.gW hi fun x hx => .inl hx) hj' fun x hx => .inl hx
    y6 := H.y6
    iH := fun q hq => (H.iH q hq).out h (fun b _ hm => by
      rcases hm with rfl | rfl
      · exact .inr (.inr ⟨_, List.mem_of_getElem? hi, rfl⟩)
      · exact .inr (.inr ⟨_, List.mem_of_getElem? hj, rfl⟩)) (fun b _ hx => by
      rcases hx with hx | hx | ⟨x, hx, hb⟩
      · exact .inl hx
      · exact .inr (.inl hx)
      · obtain ⟨y, hy, hb'⟩ := fps x hx b hb
        exact .inr (.inr ⟨y, hy, hb'⟩)) }
theorem St.jQ (H : St X w0 w O L Ps) (i j : Nat) (hi : L[i]? = some (aN.blk b1 t1 l1)) (hj : L[j]? = some (aN.blk b2 t2 l2)) (n : Nat) (hp : Ps[n]? = some p) : aH (fun c => YY X O L c ∨ c = b1 ∨ c = b2) p w :=
 (H.bK n hp).mono fun c _ h => by
  rcases h with h | h | h
  ·
   exact h
  ·
   exact .inr (.inr ⟨_, List.mem_of_getElem? hi, h⟩)
  ·
   exact .inr (.inr ⟨_, List.mem_of_getElem? hj, h⟩)
theorem St.xN (H : St X w0 w O L Ps) (i j : Nat) (hi : L[i]? = some (aN.blk b1 t1 l1)) (hj : L[j]? = some (aN.blk b2 t2 l2)) (hij : i ≠ j) (h : Out (fun c => c = b1 ∨ c = b2) w w') (h1 : aM w' b1 t1 CK) (h2 : aM w' b2 t2 DV) (hp : aH (fun c => YY X O L c ∨ c = b1 ∨ c = b2) p w') :
  St X w0 w' O ((L.set i (aN.blk b1 t1 CK)).set j (aN.blk b2 t2 DV)) (p :: Ps) :=
 (H.XF i j hi hj hij h h1 h2).add (hp.mono fun c _ hc => by
  rcases hc with hc | hc | ⟨x, hx, hb⟩
  ·
   exact .inl (.inl hc)
  ·
   exact .inl (.inr (.inl hc))
  ·
   rcases eA hx with rfl | ⟨k, hk, CL⟩
   ·
    exact .inr (.inr hb)
   ·
    by_cases hki : i = k
    ·
     subst hki
     rw [List.getElem?_set, if_pos rfl] at CL
     split at CL
     ·
      rw [← Option.some.inj CL] at hb; exact .inr (.inl hb)
     ·
      cases CL
    ·
     rw [List.getElem?_set_ne hki] at CL
     exact .inl (.inr (.inr ⟨x, List.mem_of_getElem? CL, hb⟩)))
theorem St.R8 (H : St X w0 w [aN.blk b1 t1 l1, aN.blk b2 t2 l2] L Ps) (h : Out (fun c => c = b1 ∨ c = b2) w w') (h1 : aM w' b1 t1 CK) (h2 : aM w' b2 t2 DV) : St X w0 w' [aN.blk b1 t1 CK, aN.blk b2 t2 DV] L Ps :=
  have q1 : b1 < w0.heap.size := H.tI _ List.mem_cons_self b1 rfl
  have q2 : b2 < w0.heap.size := H.tI _ (List.mem_cons_of_mem _ List.mem_cons_self) b2 rfl
  have yy : ∀ c, YY X [aN.blk b1 t1 CK, aN.blk b2 t2 DV] L c → YY X [aN.blk b1 t1 l1, aN.blk b2 t2 l2] L c := fun c hc => by
    rcases hc with hc | ⟨e, he, hb⟩ | hc
    · exact .inl hc
    · rcases List.mem_cons.1 he with rfl | he
      · exact .inr (.inl ⟨_, List.mem_cons_self, hb⟩)
      · rw [List.mem_singleton.1 he] at hb; exact .inr (.inl ⟨_, List.mem_cons_of_mem _ List.mem_cons_self, hb⟩)
    · exact .inr (.inr hc)
  { os := h.os.trans H.os
    tape := h.tape.trans H.tape
    output := h.output.trans H.output
    size := Nat.le_trans H.size h.size
    old := fun b hb hn => (h.block b (Nat.lt_of_lt_of_le hb H.size) fun hm => by
      rcases hm with hm | hm
      · exact hn _ List.mem_cons_self hm
      · exact hn _ (List.mem_cons_of_mem _ List.mem_cons_self) hm).trans (H.old b hb fun e he => by
        rcases List.mem_cons.1 he with rfl | he
        · exact fun hb' => hn (aN.blk b1 t1 CK) List.mem_cons_self hb'
        · rw [List.mem_singleton.1 he]; exact fun hb' => hn (aN.blk b2 t2 DV) (List.mem_cons_of_mem _ List.mem_cons_self) hb')
    yP := fun x hx => by
      rcases List.mem_cons.1 hx with rfl | hx
      · exact h1
      · rw [List.mem_singleton.1 hx]; exact h2
    r7 := fun x hx => x.loc w w' (fun b hb => h.block b (H.TX x hx b hb) fun hm => by
      have := H.jU x hx b hb
      rcases hm with hm | hm <;> omega) (H.r7 x hx)
    tI := fun x hx b hb => by
      rcases List.mem_cons.1 hx with rfl | hx
      · rw [show b = b1 from hb]; exact q1
      · rw [List.mem_singleton.1 hx] at hb; rw [show b = b2 from hb]; exact q2
    jU := H.jU
    oK := by
      have hd := (List.pairwise_cons.1 H.oK).1 _ List.mem_cons_self
      refine List.pairwise_cons.2 ⟨fun e he x hx => ?_, List.pairwise_singleton _ _⟩
      rw [List.mem_singleton.1 he] at hx
      exact hd x hx
    gW := H.gW
    y6 := H.y6
    iH := fun q hq => (H.iH q hq).out h (fun b _ hm => by
      rcases hm with rfl | rfl
      · exact .inr (.inl ⟨_, List.mem_cons_self, rfl⟩)
      · exact .inr (.inl ⟨_, List.mem_cons_of_mem _ List.mem_cons_self, rfl⟩)) (fun b _ hx => yy b hx) }
theorem St.l8 (H : St X w0 w [aN.blk b1 t1 l1, aN.blk b2 t2 l2] L Ps) (n : Nat) (hp : Ps[n]? = some p) : aH (fun c => YY X [aN.blk b1 t1 l1, aN.blk b2 t2 l2] L c ∨ c = b1 ∨ c = b2) p w :=
 (H.bK n hp).mono fun c _ h => by
  rcases h with h | h | h
  ·
   exact h
  ·
   exact .inr (.inl ⟨_, List.mem_cons_self, h⟩)
  ·
   exact .inr (.inl ⟨_, List.mem_cons_of_mem _ List.mem_cons_self, h⟩)
theorem St.tW (H : St X w0 w [aN.blk b1 t1 l1, aN.blk b2 t2 l2] L Ps) (h : Out (fun c => c = b1 ∨ c = b2) w w') (h1 : aM w' b1 t1 CK) (h2 : aM w' b2 t2 DV) (hp : aH (fun c => YY X [aN.blk b1 t1 l1, aN.blk b2 t2 l2] L c ∨ c = b1 ∨ c = b2) p w') : St X w0 w' [aN.blk b1 t1 CK, aN.blk b2 t2 DV] L (p :: Ps) :=
 (H.R8 h h1 h2).add (hp.mono fun c _ hc => by
  rcases hc with hc | ⟨e, he, hb⟩ | hc
  ·
   exact .inl (.inl hc)
  ·
   rcases List.mem_cons.1 he with rfl | he
   ·
    exact .inr (.inl hb)
   ·
    rw [List.mem_singleton.1 he] at hb; exact .inr (.inr hb)
  ·
   exact .inl (.inr (.inr hc)))
theorem St.F9 (H : St X w0 w O L Ps) (h : Out Nil w w') (e1 e2 : aN) (h1 : e1.ok w') (h2 : e2.ok w') (n1 : ∀ b, e1.fp b → w.heap.size ≤ b) (n2 : ∀ b, e2.fp b → w.heap.size ≤ b) (ha : aN.qR e1 e2) (hp : aH (fun c => YY X O L c ∨ e1.fp c ∨ e2.fp c) p w') : St X w0 w' O (e1 :: e2 :: L) (p :: Ps) :=
 let H' := H.out h
 have yy : ∀ b, b < w.heap.size → YY X O (e1 :: e2 :: L) b → YY X O L b := fun b hb hx => by
  rcases hx with hx | hx | ⟨x, hx, hb'⟩
  ·
   exact .inl hx
  ·
   exact .inr (.inl hx)
  ·
   rcases List.mem_cons.1 hx with rfl | hx
   ·
    have := n1 b hb'; omega
   ·
    rcases List.mem_cons.1 hx with rfl | hx
    ·
     have := n2 b hb'; omega
    ·
     exact .inr (.inr ⟨x, hx, hb'⟩)
 { H' with
  r7 := fun x hx => by
   rcases List.mem_cons.1 hx with rfl | hx
   ·
    exact h1
   ·
    rcases List.mem_cons.1 hx with rfl | hx
    ·
     exact h2
    ·
     exact H'.r7 x hx
  jU := fun x hx => by
   rcases List.mem_cons.1 hx with rfl | hx
   ·
    exact fun b hb => Nat.le_trans H.size (n1 b hb)
   ·
    rcases List.mem_cons.1 hx with rfl | hx
    ·
     exact fun b hb => Nat.le_trans H.size (n2 b hb)
    ·
     exact H'.jU x hx
  gW := List.pairwise_cons.2 ⟨fun x hx b hb => by
    rcases List.mem_cons.1 hx with rfl | hx
    ·
     exact ha b hb
    ·
     have q1 := n1 b hb.1
     have q2 := H.TX x hx b hb.2
     omega, List.pairwise_cons.2 ⟨fun x hx b hb => by
    have q1 := n2 b hb.1
    have q2 := H.TX x hx b hb.2
    omega, H'.gW⟩⟩
  iH := fun q hq => by
   rcases List.mem_cons.1 hq with rfl | hq
   ·
    exact hp.mono fun b _ hb => by
     rcases hb with hb | hb | ⟨x, hx, hb⟩
     ·
      exact .inl (.inl hb)
     ·
      exact .inl (.inr (.inl hb))
     ·
      rcases List.mem_cons.1 hx with rfl | hx
      ·
       exact .inr (.inl hb)
      ·
       rcases List.mem_cons.1 hx with rfl | hx
       ·
        exact .inr (.inr hb)
       ·
        exact .inl (.inr (.inr ⟨x, hx, hb⟩))
   ·
    exact (H.iH q hq).out h (fun _ _ hm => hm.elim) yy }
theorem St.ZZ {e1 e2 : aN} (H : St X w0 w [] [e1, e2] Ps) (i : Nat) (hp : Ps[i]? = some p) : aH (fun c => X c ∨ e1.fp c ∨ e2.fp c) p w :=
 (H.bK i hp).mono fun b _ hb => by
  rcases hb with h | h | h
  ·
   exact .inl h
  ·
   exact .inr (.inr ⟨e1, List.mem_cons_self, h⟩)
  ·
   exact .inr (.inr ⟨e2, List.mem_cons_of_mem _ List.mem_cons_self, h⟩)
theorem St.JA (H : St X w0 w [aN.blk b1 t1 l1] L Ps) (h0 : aM w0 b1 t1 l1) : Out Nil w0 w :=
 ⟨H.os, H.tape, H.output, H.size, fun c hc _ => by
  by_cases e : c = b1
  ·
   subst e
   exact (show aM w c t1 l1 from H.yP _ List.mem_cons_self).trans h0.symm
  ·
   exact H.old c hc fun x hx hf => by
    rw [List.mem_singleton.1 hx] at hf
    exact e hf⟩
theorem tX (h : b1 ≠ b2) : aN.qR (aN.blk b1 t1 l1) (aN.blk b2 t2 l2) := fun _ hx => h (hx.1.symm.trans hx.2)
end
end Go.Sp
