/- Part of the proof of this claim: walks through the program's functions and the plain laws that they need, printed by a program of this session. -/
import Derived.Test.YthkombhebdjamaaGreatDoorIns
namespace Go.Sp
section
variable {X : Nat → Prop} {w0 w w' : World} {b1 b2 : Nat} {t1 t2 : TypeId} {l1 l2 DX FC : List Value} {O L : List aP} {Ps : List (World → Prop)} {p : World → Prop}
theorem St.sF (hX : ∀ b, X b → b < w.heap.size) (h1 : aN w b1 t1 l1) (h2 : aN w b2 t2 l2) (hne : b1 ≠ b2) : St X w w [aP.blk b1 t1 l1, aP.blk b2 t2 l2] [] [] :=
 St.start hX (by
  intro e he
  rcases List.mem_cons.1 he with rfl | he
  ·
   exact h1
  ·
   rw [List.mem_singleton.1 he]; exact h2) (by
  refine List.pairwise_cons.2 ⟨fun e he x hx => ?_, List.pairwise_singleton _ _⟩
  rw [List.mem_singleton.1 he] at hx
  exact hne (hx.1.symm.trans hx.2)) (fun _ h => by cases h)
theorem iB (h : aH (fun c => X c ∨ c = b1 ∨ c = b2) p w) : aH (YY X [aP.blk b1 t1 l1, aP.blk b2 t2 l2] []) p w :=
 h.mono fun c _ hc => by
  rcases hc with h | ⟨e, he, h⟩ | ⟨e, he, _⟩
  ·
   exact .inl h
  ·
   rcases List.mem_cons.1 he with rfl | he
   ·
    exact .inr (.inl h)
   ·
    rw [List.mem_singleton.1 he] at h; exact .inr (.inr h)
  ·
   cases he
theorem St.lP (H : St X w0 w [aP.blk b1 t1 l1, aP.blk b2 t2 l2] L Ps) : Out (fun c => c = b1 ∨ c = b2) w0 w :=
 H.nA.mono fun _ _ ⟨e, he, hc⟩ => by
  rcases List.mem_cons.1 he with rfl | he
  ·
   exact .inl hc
  ·
   rw [List.mem_singleton.1 he] at hc; exact .inr hc
theorem St.gH (_ : St X w0 w [aP.blk b1 t1 l1, aP.blk b2 t2 l2] L Ps) (h : aH (YY X [aP.blk b1 t1 l1, aP.blk b2 t2 l2] L) p w) : aH (fun c => X c ∨ c = b1 ∨ c = b2) p w :=
 h.mono fun c _ hc => by
  rcases hc with h | h | h
  ·
   exact .inl h
  ·
   exact .inr (.inl ⟨_, List.mem_cons_self, h⟩)
  ·
   exact .inr (.inl ⟨_, List.mem_cons_of_mem _ List.mem_cons_self, h⟩)
theorem St.aAd (H : St X w0 w O L Ps) (i j : Nat) (hi : L[i]? = some (aP.blk b1 t1 l1)) (hj : L[j]? = some (aP.blk b2 t2 l2)) (hij : i ≠ j) (h : Out (fun c => c = b1 ∨ c = b2) w w') (h1 : aN w' b1 t1 DX) (h2 : aN w' b2 t2 FC) :
    St X w0 w' O ((L.set i (aP.blk b1 t1 DX)).set j (aP.blk b2 t2 FC)) Ps :=
  have g1 : w0.heap.size ≤ b1 := H.kI _ (List.mem_of_getElem? hi) b1 rfl
  have g2 : w0.heap.size ≤ b2 := H.kI _ (List.mem_of_getElem? hj) b2 rfl
  have hj' : (L.set i (aP.blk b1 t1 DX))[j]? = some (aP.blk b2 t2 l2) := by rw [List.getElem?_set_ne hij]; exact hj
  have cs : ∀ x ∈ (L.set i (aP.blk b1 t1 DX)).set j (aP.blk b2 t2 FC), x = aP.blk b1 t1 DX ∨ x = aP.blk b2 t2 FC ∨ (∃ k, k ≠ i ∧ k ≠ j ∧ L[k]? = some x) := fun x hx => by
    rcases eP hx with rfl | ⟨k, hk, HQ⟩
    · exact .inr (.inl rfl)
    · by_cases hki : i = k
      · subst hki
        rw [List.getElem?_set] at HQ
        rw [if_pos rfl] at HQ
        split at HQ
        · exact .inl (Option.some.inj HQ).symm
        · cases HQ
      · rw [List.getElem?_set_ne hki] at HQ
        exact .inr (.inr ⟨k, fun e => hki e.symm, hk, HQ⟩)
  have fps : ∀ x ∈ (L.set i (aP.blk b1 t1 DX)).set j (aP.blk b2 t2 FC), ∀ b, x.fp b → ∃ y ∈ L, y.fp b := fun x hx b hb => by
    rcases cs x hx with rfl | rfl | ⟨k, _, _, hk⟩
    · exact ⟨_, List.mem_of_getElem? hi, hb⟩
    · exact ⟨_, List.mem_of_getElem? hj, hb⟩
    · exact ⟨x, List.mem_of_getElem? hk, hb⟩
  { os := h.os.trans H.os
    tape := h.tape.trans H.tape
    output := h.output.trans H.output
    size := Nat.le_trans H.size h.size
    old := fun b hb hn => (h.block b (Nat.lt_of_lt_of_le hb H.size) fun hm => by rcases hm with hm | hm <;> omega).trans (H.old b hb hn)
    z7 := fun x hx => x.loc w w' (fun b hb => h.block b (x.lt w (H.z7 x hx) b hb) fun hm => by
      have := H.uP x hx b hb
      rcases hm with hm | hm <;> omega) (H.z7 x hx)
    s7 := fun x hx => by
      rcases cs x hx with rfl | rfl | ⟨k, hki, hkj, hk⟩
      · exact h1
      · exact h2
      · have hm := List.mem_of_getElem? hk
        refine x.loc w w' (fun b hb => h.block b (H.WW x hm b hb) fun hmm => ?_) (H.s7 x hm)
        rcases hmm with e | e
        · exact fC H.iR (Ne.symm hki) hi hk b ⟨e, hb⟩
        · exact fC H.iR (Ne.symm hkj) hj hk b ⟨e, hb⟩
    uP := H.uP
    kI := fun x hx b hb => by
      obtain ⟨y, hy, hb'⟩ := fps x hx b hb
      exact H.kI y hy b hb'
    pL := H.pL
    iR := s5 (e := aP.blk b2 t2 FC) (s5 (e := aP.blk b1 t1 DX) H.iR hi fun x hx => .inl hx) hj' fun x hx => .inl hx
    AM := H.AM
    jC := fun q hq => (H.jC q hq).out h (fun b _ hm => by
      rcases hm with rfl | rfl
      · exact .inr (.inr ⟨_, List.mem_of_getElem? hi, rfl⟩)
      · exact .inr (.inr ⟨_, List.mem_of_getElem? hj, rfl⟩)) (fun b _ hx => by
      rcases hx with hx | hx | ⟨x, hx, hb⟩
      · exact .inl hx
      · exact .inr (.inl hx)
      · obtain ⟨y, hy, hb'⟩ := fps x hx b hb
        exact .inr (.inr ⟨y, hy, hb'⟩)) }
theorem St.iN (H : St X w0 w O L Ps) (i j : Nat) (hi : L[i]? = some (aP.blk b1 t1 l1)) (hj : L[j]? = some (aP.blk b2 t2 l2)) (n : Nat) (hp : Ps[n]? = some p) : aH (fun c => YY X O L c ∨ c = b1 ∨ c = b2) p w :=
 (H.bJ n hp).mono fun c _ h => by
  rcases h with h | h | h
  ·
   exact h
  ·
   exact .inr (.inr ⟨_, List.mem_of_getElem? hi, h⟩)
  ·
   exact .inr (.inr ⟨_, List.mem_of_getElem? hj, h⟩)
theorem St.qM (H : St X w0 w O L Ps) (i j : Nat) (hi : L[i]? = some (aP.blk b1 t1 l1)) (hj : L[j]? = some (aP.blk b2 t2 l2)) (hij : i ≠ j) (h : Out (fun c => c = b1 ∨ c = b2) w w') (h1 : aN w' b1 t1 DX) (h2 : aN w' b2 t2 FC) (hp : aH (fun c => YY X O L c ∨ c = b1 ∨ c = b2) p w') :
  St X w0 w' O ((L.set i (aP.blk b1 t1 DX)).set j (aP.blk b2 t2 FC)) (p :: Ps) :=
 (H.aAd i j hi hj hij h h1 h2).add (hp.mono fun c _ hc => by
  rcases hc with hc | hc | ⟨x, hx, hb⟩
  ·
   exact .inl (.inl hc)
  ·
   exact .inl (.inr (.inl hc))
  ·
   rcases eP hx with rfl | ⟨k, hk, HQ⟩
   ·
    exact .inr (.inr hb)
   ·
    by_cases hki : i = k
    ·
     subst hki
     rw [List.getElem?_set, if_pos rfl] at HQ
     split at HQ
     ·
      rw [← Option.some.inj HQ] at hb; exact .inr (.inl hb)
     ·
      cases HQ
    ·
     rw [List.getElem?_set_ne hki] at HQ
     exact .inl (.inr (.inr ⟨x, List.mem_of_getElem? HQ, hb⟩)))
theorem St.U3 (H : St X w0 w [aP.blk b1 t1 l1, aP.blk b2 t2 l2] L Ps) (h : Out (fun c => c = b1 ∨ c = b2) w w') (h1 : aN w' b1 t1 DX) (h2 : aN w' b2 t2 FC) : St X w0 w' [aP.blk b1 t1 DX, aP.blk b2 t2 FC] L Ps :=
  have q1 : b1 < w0.heap.size := H.uP _ List.mem_cons_self b1 rfl
  have q2 : b2 < w0.heap.size := H.uP _ (List.mem_cons_of_mem _ List.mem_cons_self) b2 rfl
  have yy : ∀ c, YY X [aP.blk b1 t1 DX, aP.blk b2 t2 FC] L c → YY X [aP.blk b1 t1 l1, aP.blk b2 t2 l2] L c := fun c hc => by
    rcases hc with hc | ⟨e, he, hb⟩ | hc
    · exact .inl hc
    · rcases List.mem_cons.1 he with rfl | he
      · exact .inr (.inl ⟨_, List.mem_cons_self, hb⟩)
      · rw [List.mem_singleton.1 he] at hb; exact .inr (.inl ⟨_, List.mem_cons_of_mem _ List.mem_cons_self, hb⟩)
    · exact .inr (.inr hc)
  { os := h.os.trans H.os
    tape := h.tape.trans H.tape
    output := h.output.trans H.output
    size := Nat.le_trans H.size h.size
    old := fun b hb hn => (h.block b (Nat.lt_of_lt_of_le hb H.size) fun hm => by
      rcases hm with hm | hm
      · exact hn _ List.mem_cons_self hm
      · exact hn _ (List.mem_cons_of_mem _ List.mem_cons_self) hm).trans (H.old b hb fun e he => by
        rcases List.mem_cons.1 he with rfl | he
        · exact fun hb' => hn (aP.blk b1 t1 DX) List.mem_cons_self hb'
        · rw [List.mem_singleton.1 he]; exact fun hb' => hn (aP.blk b2 t2 FC) (List.mem_cons_of_mem _ List.mem_cons_self) hb')
    z7 := fun x hx => by
      rcases List.mem_cons.1 hx with rfl | hx
      · exact h1
      · rw [List.mem_singleton.1 hx]; exact h2
    s7 := fun x hx => x.loc w w' (fun b hb => h.block b (H.WW x hx b hb) fun hm => by
      have := H.kI x hx b hb
      rcases hm with hm | hm <;> omega) (H.s7 x hx)
    uP := fun x hx b hb => by
      rcases List.mem_cons.1 hx with rfl | hx
      · rw [show b = b1 from hb]; exact q1
      · rw [List.mem_singleton.1 hx] at hb; rw [show b = b2 from hb]; exact q2
    kI := H.kI
    pL := by
      have hd := (List.pairwise_cons.1 H.pL).1 _ List.mem_cons_self
      refine List.pairwise_cons.2 ⟨fun e he x hx => ?_, List.pairwise_singleton _ _⟩
      rw [List.mem_singleton.1 he] at hx
      exact hd x hx
    iR := H.iR
    AM := H.AM
    jC := fun q hq => (H.jC q hq).out h (fun b _ hm => by
      rcases hm with rfl | rfl
      · exact .inr (.inl ⟨_, List.mem_cons_self, rfl⟩)
      · exact .inr (.inl ⟨_, List.mem_cons_of_mem _ List.mem_cons_self, rfl⟩)) (fun b _ hx => yy b hx) }
theorem St.nC (H : St X w0 w [aP.blk b1 t1 l1, aP.blk b2 t2 l2] L Ps) (n : Nat) (hp : Ps[n]? = some p) : aH (fun c => YY X [aP.blk b1 t1 l1, aP.blk b2 t2 l2] L c ∨ c = b1 ∨ c = b2) p w :=
 (H.bJ n hp).mono fun c _ h => by
  rcases h with h | h | h
  ·
   exact h
  ·
   exact .inr (.inl ⟨_, List.mem_cons_self, h⟩)
  ·
   exact .inr (.inl ⟨_, List.mem_cons_of_mem _ List.mem_cons_self, h⟩)
theorem St.u5 (H : St X w0 w [aP.blk b1 t1 l1, aP.blk b2 t2 l2] L Ps) (h : Out (fun c => c = b1 ∨ c = b2) w w') (h1 : aN w' b1 t1 DX) (h2 : aN w' b2 t2 FC) (hp : aH (fun c => YY X [aP.blk b1 t1 l1, aP.blk b2 t2 l2] L c ∨ c = b1 ∨ c = b2) p w') : St X w0 w' [aP.blk b1 t1 DX, aP.blk b2 t2 FC] L (p :: Ps) :=
 (H.U3 h h1 h2).add (hp.mono fun c _ hc => by
  rcases hc with hc | ⟨e, he, hb⟩ | hc
  ·
   exact .inl (.inl hc)
  ·
   rcases List.mem_cons.1 he with rfl | he
   ·
    exact .inr (.inl hb)
   ·
    rw [List.mem_singleton.1 he] at hb; exact .inr (.inr hb)
  ·
   exact .inl (.inr (.inr hc)))
theorem St.IU (H : St X w0 w O L Ps) (h : Out Nil w w') (e1 e2 : aP) (h1 : e1.ok w') (h2 : e2.ok w') (n1 : ∀ b, e1.fp b → w.heap.size ≤ b) (n2 : ∀ b, e2.fp b → w.heap.size ≤ b) (ha : aP.rQ e1 e2) (hp : aH (fun c => YY X O L c ∨ e1.fp c ∨ e2.fp c) p w') : St X w0 w' O (e1 :: e2 :: L) (p :: Ps) :=
 let H' := H.out h
 have yy : ∀ b, b < w.heap.size → YY X O (e1 :: e2 :: L) b → YY X O L b := fun b hb hx => by
  rcases hx with hx | hx | ⟨x, hx, hb'⟩
  ·
   exact .inl hx
  ·
   exact .inr (.inl hx)
  ·
   rcases List.mem_cons.1 hx with rfl | hx
   ·
    have := n1 b hb'; omega
   ·
    rcases List.mem_cons.1 hx with rfl | hx
    ·
     have := n2 b hb'; omega
    ·
     exact .inr (.inr ⟨x, hx, hb'⟩)
 { H' with
  s7 := fun x hx => by
   rcases List.mem_cons.1 hx with rfl | hx
   ·
    exact h1
   ·
    rcases List.mem_cons.1 hx with rfl | hx
    ·
     exact h2
    ·
     exact H'.s7 x hx
  kI := fun x hx => by
   rcases List.mem_cons.1 hx with rfl | hx
   ·
    exact fun b hb => Nat.le_trans H.size (n1 b hb)
   ·
    rcases List.mem_cons.1 hx with rfl | hx
    ·
     exact fun b hb => Nat.le_trans H.size (n2 b hb)
    ·
     exact H'.kI x hx
  iR := List.pairwise_cons.2 ⟨fun x hx b hb => by
    rcases List.mem_cons.1 hx with rfl | hx
    ·
     exact ha b hb
    ·
     have q1 := n1 b hb.1
     have q2 := H.WW x hx b hb.2
     omega, List.pairwise_cons.2 ⟨fun x hx b hb => by
    have q1 := n2 b hb.1
    have q2 := H.WW x hx b hb.2
    omega, H'.iR⟩⟩
  jC := fun q hq => by
   rcases List.mem_cons.1 hq with rfl | hq
   ·
    exact hp.mono fun b _ hb => by
     rcases hb with hb | hb | ⟨x, hx, hb⟩
     ·
      exact .inl (.inl hb)
     ·
      exact .inl (.inr (.inl hb))
     ·
      rcases List.mem_cons.1 hx with rfl | hx
      ·
       exact .inr (.inl hb)
      ·
       rcases List.mem_cons.1 hx with rfl | hx
       ·
        exact .inr (.inr hb)
       ·
        exact .inl (.inr (.inr ⟨x, hx, hb⟩))
   ·
    exact (H.jC q hq).out h (fun _ _ hm => hm.elim) yy }
theorem St.aBs {e1 e2 : aP} (H : St X w0 w [] [e1, e2] Ps) (i : Nat) (hp : Ps[i]? = some p) : aH (fun c => X c ∨ e1.fp c ∨ e2.fp c) p w :=
 (H.bJ i hp).mono fun b _ hb => by
  rcases hb with h | h | h
  ·
   exact .inl h
  ·
   exact .inr (.inr ⟨e1, List.mem_cons_self, h⟩)
  ·
   exact .inr (.inr ⟨e2, List.mem_cons_of_mem _ List.mem_cons_self, h⟩)
theorem St.LH (H : St X w0 w [aP.blk b1 t1 l1] L Ps) (h0 : aN w0 b1 t1 l1) : Out Nil w0 w :=
 ⟨H.os, H.tape, H.output, H.size, fun c hc _ => by
  by_cases e : c = b1
  ·
   subst e
   exact (show aN w c t1 l1 from H.z7 _ List.mem_cons_self).trans h0.symm
  ·
   exact H.old c hc fun x hx hf => by
    rw [List.mem_singleton.1 hx] at hf
    exact e hf⟩
theorem u6 (h : b1 ≠ b2) : aP.rQ (aP.blk b1 t1 l1) (aP.blk b2 t2 l2) := fun _ hx => h (hx.1.symm.trans hx.2)
end
end Go.Sp
