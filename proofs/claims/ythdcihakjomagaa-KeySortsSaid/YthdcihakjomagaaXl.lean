/- Walks of functions, printed by a program of this session (gen.py) from notes on each function. -/
import Derived.Test.YthdcihakjomagaaXk
set_option maxRecDepth 100000
set_option maxHeartbeats 1000000
set_option linter.unusedVariables false
set_option linter.unusedSimpArgs false
namespace Go.Sp.Try
open Go.Proofs Go.RowKit Go.Sp
theorem St.setOp {X : Nat → Prop} {w0 w w' : World} {O L : List Ent} {Ps : List (World → Prop)} (H : St X w0 w O L Ps) {i : Nat} {e : Ent} (hi : O[i]? = some e) (h : Out e.fp w w') (e' : Ent) (he : e'.ok w') (hf : ∀ b, e'.fp b ↔ e.fp b) (e2 : Ent) (he2 : e2.ok w') (hn : ∀ b, e2.fp b → w.heap.size ≤ b) :
    St X w0 w' (O.set i e') (e2 :: L) Ps :=
  let H' := H.setO hi h e' he hf
  { H' with
    okL := fun x hx => by
      cases List.mem_cons.1 hx with
      | inl hx => subst hx; exact he2
      | inr hx => exact H'.okL x hx
    geL := fun x hx => by
      cases List.mem_cons.1 hx with
      | inl hx => subst hx; exact fun b hb => Nat.le_trans H.size (hn b hb)
      | inr hx => exact H'.geL x hx
    disL := List.pairwise_cons.2 ⟨fun x hx b hb => by
      have h1 := hn b hb.1
      have h2 := H.ltL x hx b hb.2
      omega, H'.disL⟩
    pers := fun p hp => (H.pers p hp).out h (fun b _ hm => .inr (.inl ⟨e, List.mem_of_getElem? hi, hm⟩)) (fun b hb hx => by
      rcases hx with hx | ⟨x, hx, hb'⟩ | ⟨x, hx, hb'⟩
      · exact .inl hx
      · rcases mem_set_cases hx with rfl | ⟨j, hne, hj⟩
        · exact .inr (.inl ⟨e, List.mem_of_getElem? hi, (hf b).1 hb'⟩)
        · exact .inr (.inl ⟨x, List.mem_of_getElem? hj, hb'⟩)
      · cases List.mem_cons.1 hx with
        | inl hx => subst hx; have := hn b hb'; omega
        | inr hx => exact .inr (.inr ⟨x, hx, hb'⟩)) }
section
variable {r : Option Nat} {P : Program} {N : Nat} {σ : Env} {ds : List Deferred} {w : World} {ops : Array Oper} {rest : List Oper} {K : Env → List Deferred → World → Prop}
variable {X : Nat → Prop} {w0 : World} {O L : List Ent} {Ps : List (World → Prop)}
theorem WL.appendO {dst : Option Tmp} {t ty e : TypeId} {zl : List Value} {bytes base : Nat} {x y : Operand} {pos : String} {after : Array Edge} {guard : Option (Nat × Bool)} {v u : Value} {n m : Nat} {xs news : List Value}
    (H : St X w0 w O L Ps) (i : Nat) (hbase : base ≤ w0.heap.size) (ht : SlTy P t e zl bytes) (hz : 0 < zl.length) (hi : O[i]? = some (Ent.osl base v e zl.length n xs)) (hx : ev σ x = v) (hy : ev σ y = u) (hu : SlC w u zl.length m news)
    (h1 : oneAll news) (hb : (n + m) * bytes ≤ 140737488355328) (hb0 : 0 < bytes) (hw : wantedE ops σ ⟨dst, .call ⟨.builtin .append, [x, y].toArray, [t, t].toArray⟩, ty, pos, after, guard⟩ = true)
    (k1 : ∀ v' w', (∀ b, v'.ownBlock = some b → v.ownBlock = some b) → St X w0 w' (O.set i (Ent.osl base v' e zl.length (n + m) (xs ++ news))) L Ps → WL r P N ops rest K (upd N σ dst v') ds w')
    (k2 : ∀ v' w', (∀ b, v'.ownBlock = some b → w0.heap.size ≤ b) → St X w0 w' (O.set i (Ent.set fun b => v.ownBlock = some b)) (Ent.osl base v' e zl.length (n + m) (xs ++ news) :: L) Ps → WL r P N ops rest K (upd N σ dst v') ds w') :
    WL r P N ops (⟨dst, .call ⟨.builtin .append, [x, y].toArray, [t, t].toArray⟩, ty, pos, after, guard⟩ :: rest) K σ ds w := by
  subst hx; subst hy
  have h63 : n + m ≤ maxLen := by
    have : (n + m) * 1 ≤ (n + m) * bytes := Nat.mul_le_mul_left _ hb0
    unfold maxLen
    omega
  obtain ⟨v', w', hrun, hown', hg, hblk⟩ := run_append_rd (P := P) (ty := ty) base ht hz (H.o i hi) hu h1 h63 hb (Nat.le_trans hbase H.size)
  by_cases hc : ∃ b, v'.ownBlock = some b ∧ (ev σ x).ownBlock = some b
  · obtain ⟨b0, h1', h2'⟩ := hc
    refine WL.val (v := v') (w' := w') hw rfl ?_ (k1 v' w' (fun b hb => by rw [h1'] at hb; rw [h2']; exact hb) ?_)
    · simp [execOp, resolve, invoke, builtin, hrun]
    · exact St.setO H hi (Out.grown hg) _ hown' (fun b => by show v'.ownBlock = some b ↔ (ev σ x).ownBlock = some b; rw [h1', h2'])
  · have hn : ∀ b, v'.ownBlock = some b → w.heap.size ≤ b := fun b hb => by
      rcases hblk b hb with h | h
      · exact absurd ⟨b, hb, h⟩ hc
      · exact h
    refine WL.val (v := v') (w' := w') hw rfl ?_ (k2 v' w' (fun b hb => Nat.le_trans H.size (hn b hb)) ?_)
    · simp [execOp, resolve, invoke, builtin, hrun]
    · exact St.setOp H hi (Out.grown hg) (Ent.set fun b => (ev σ x).ownBlock = some b) (fun b hb => Nat.lt_of_lt_of_le ((Ent.osl base (ev σ x) e zl.length n xs).lt w (H.o i hi) b hb) (Out.grown hg).size) (fun b => Iff.rfl) (Ent.osl base v' e zl.length (n + m) (xs ++ news)) hown' hn
end

theorem St.begin2 {X : Nat → Prop} {w : World} {b base sz n : Nat} {t e : TypeId} {l xs : List Value} {v : Value} (hX : ∀ b, X b → b < w.heap.size) (ho : Blk w b t l) (hrow : w.ownsRow base e sz v n xs) (hnb : ¬ v.ownBlock = some b) :
    St X w w [Ent.blk b t l, Ent.osl base v e sz n xs] [] [] :=
  St.start hX (fun x hx => by
    rcases List.mem_cons.1 hx with rfl | hx
    · exact ho
    · rcases List.mem_cons.1 hx with rfl | hx
      · exact hrow
      · cases hx)
    (List.pairwise_cons.2 ⟨(fun x hx c hc => by
        rcases List.mem_cons.1 hx with rfl | hx
        · exact hnb (by have h1 := hc.1; have h2 := hc.2; subst h1; exact h2)
        · cases hx), List.pairwise_cons.2 ⟨(fun _ hx => by cases hx), List.Pairwise.nil⟩⟩) (fun _ hp => by cases hp)
theorem rob2 {X : Nat → Prop} {w : World} {p : World → Prop} {b base sz n : Nat} {t e : TypeId} {l xs : List Value} {v : Value} (h : Rob (fun c => X c ∨ c = b ∨ v.ownBlock = some c) p w) : Rob (YY X [Ent.blk b t l, Ent.osl base v e sz n xs] []) p w :=
  h.mono fun c _ hc => by
    rcases hc with hc | ⟨x, hx, hc⟩ | ⟨x, hx, _⟩
    · exact .inl hc
    · rcases List.mem_cons.1 hx with rfl | hx
      · exact .inr (.inl hc)
      · rcases List.mem_cons.1 hx with rfl | hx
        · exact .inr (.inr hc)
        · cases hx
    · cases hx

theorem St.callP {X : Nat → Prop} {w0 w w' : World} {O L : List Ent} {Ps : List (World → Prop)} {e1 e2 : Ent} (H : St X w0 w O (e1 :: e2 :: L) Ps) (h : Out (fun b => e1.fp b ∨ e2.fp b) w w') (e1' e2' : Ent) (h1 : e1'.ok w') (h2 : e2'.ok w') (hf1 : ∀ b, e1'.fp b → e1.fp b) (hf2 : ∀ b, e2'.fp b → e2.fp b ∨ w.heap.size ≤ b) :
    St X w0 w' O (e1' :: e2' :: L) Ps :=
  have hd := List.pairwise_cons.1 H.disL
  have hd2 := List.pairwise_cons.1 hd.2
  have hge : ∀ b, e1.fp b ∨ e2.fp b → w0.heap.size ≤ b := fun b hb => hb.elim (fun h => H.geL e1 List.mem_cons_self b h) (fun h => H.geL e2 (List.mem_cons_of_mem _ List.mem_cons_self) b h)
  have hL : ∀ x ∈ L, x ∈ e1 :: e2 :: L := fun x hx => List.mem_cons_of_mem _ (List.mem_cons_of_mem _ hx)
  { os := h.os.trans H.os
    tape := h.tape.trans H.tape
    output := h.output.trans H.output
    size := Nat.le_trans H.size h.size
    old := fun b hb hn => (h.block b (Nat.lt_of_lt_of_le hb H.size) fun hm => by have := hge b hm; omega).trans (H.old b hb hn)
    okO := fun x hx => x.loc w w' (fun b hb => h.block b (x.lt w (H.okO x hx) b hb) fun hm => by
      have := hge b hm
      have := H.ltO x hx b hb
      omega) (H.okO x hx)
    okL := fun x hx => by
      rcases List.mem_cons.1 hx with rfl | hx
      · exact h1
      · rcases List.mem_cons.1 hx with rfl | hx
        · exact h2
        · refine x.loc w w' (fun b hb => h.block b (H.ltL x (hL x hx) b hb) fun hm => ?_) (H.okL x (hL x hx))
          rcases hm with hm | hm
          · exact hd.1 x (List.mem_cons_of_mem _ hx) b ⟨hm, hb⟩
          · exact hd2.1 x hx b ⟨hm, hb⟩
    ltO := H.ltO
    geL := fun x hx b hb => by
      rcases List.mem_cons.1 hx with rfl | hx
      · exact hge b (.inl (hf1 b hb))
      · rcases List.mem_cons.1 hx with rfl | hx
        · rcases hf2 b hb with h' | h'
          · exact hge b (.inr h')
          · exact Nat.le_trans H.size h'
        · exact H.geL x (hL x hx) b hb
    disO := H.disO
    disL := List.pairwise_cons.2 ⟨(fun x hx b hb => by
        have hb1 := hf1 b hb.1
        rcases List.mem_cons.1 hx with rfl | hx
        · rcases hf2 b hb.2 with h' | h'
          · exact hd.1 e2 List.mem_cons_self b ⟨hb1, h'⟩
          · have := H.ltL e1 List.mem_cons_self b hb1
            omega
        · exact hd.1 x (List.mem_cons_of_mem _ hx) b ⟨hb1, hb.2⟩), List.pairwise_cons.2 ⟨(fun x hx b hb => by
        rcases hf2 b hb.1 with h' | h'
        · exact hd2.1 x hx b ⟨h', hb.2⟩
        · have := H.ltL x (hL x hx) b hb.2
          omega), hd2.2⟩⟩
    xlt := H.xlt
    pers := fun p hp => (H.pers p hp).out h (fun b _ hm => .inr (.inr (hm.elim (fun h => ⟨e1, List.mem_cons_self, h⟩) fun h => ⟨e2, List.mem_cons_of_mem _ List.mem_cons_self, h⟩))) (fun b hb hx => by
      rcases hx with hx | hx | ⟨x, hx, hb'⟩
      · exact .inl hx
      · exact .inr (.inl hx)
      · rcases List.mem_cons.1 hx with rfl | hx
        · exact .inr (.inr ⟨e1, List.mem_cons_self, hf1 b hb'⟩)
        · rcases List.mem_cons.1 hx with rfl | hx
          · rcases hf2 b hb' with h' | h'
            · exact .inr (.inr ⟨e2, List.mem_cons_of_mem _ List.mem_cons_self, h'⟩)
            · omega
          · exact .inr (.inr ⟨x, hL x hx, hb'⟩)) }
theorem copyNil_c {X : Nat → Prop} {w : World} {b : Nat} {v : Value} (hX : ∀ b, X b → b < w.heap.size) (ho0 : Blk w b 50 ([.pointer none, v])) :
    Ret Try.prog 38 [.pointer (some ⟨b, 0, none⟩)].toArray w fun r w' => Out (· = b) w w' ∧ Blk w' b 50 [.pointer (some ⟨b, 0, none⟩), v] := by
  refine Ret.of_body (N := 20) Try.func38 rfl rfl (by simp) ?_
  have H := St.begin1 (b := b) (t := 50) (l := [.pointer none, v]) hX ho0
  refine WE.seq_reg ?_
  refine WL.mv rfl rfl ?_
  refine WL.pv (PV.nilCheck rfl rfl) rfl ?_
  refine WL.pv (PV.fieldAddr rfl TryT.fd50_0 rfl) rfl ?_
  refine WL.load1 rfl TryT.ag48 rfl rfl (by exact Blk.segAt (H.o 0 rfl) Seg.hd (by rfl)) ?_
  refine WL.pv (PV.eqlPn rfl TryT.pt48 rfl rfl) rfl ?_
  refine WL.nil ?_
  refine WE.cond_t' rfl rfl ?_
  refine WE.reg ?_
  refine WL.mv rfl rfl ?_
  refine WL.mv rfl rfl ?_
  refine WL.toUnsafe (l := [.pointer none, v]) rfl Try.underlying48 (by exact Try.underlying69) TryT.sz50 (by decide) rfl (H.o 0 rfl) (Nat.succ_pos _) rfl ?_
  refine WL.extern (e := Extern.AbiNoEscape.same) Try.func43 (by kernel_rfl) (by kernel_rfl) (by kernel_rfl) (by kernel_rfl) rfl (Lib.run_noEscape _ _) ?_
  refine WL.fromUnsafe (l := [.pointer none, v]) rfl (by exact Try.underlying69) Try.underlying48 TryT.sz50 rfl (H.o 0 rfl) (by kernel_rfl) rfl ?_
  refine WL.pv (PV.nilCheck rfl rfl) rfl ?_
  refine WL.pv (PV.fieldAddr rfl TryT.fd50_0 rfl) rfl ?_
  refine WL.storeO H 0 rfl rfl rfl (new := [.pointer (some ⟨b, 0, none⟩)]) rfl (by exact TryT.sz48) (one_lit _ rfl) (Laid.at Laid.head (by rfl)) rfl ?_
  intro w4 H
  refine WL.nil ?_
  refine ⟨[], _, .nil _, trivial, ?_⟩
  exact ⟨H.toOut.mono fun c _ ⟨e, he, hc⟩ => (by cases List.mem_singleton.1 he; exact hc), H.o 0 rfl⟩

theorem copySelf_c {X : Nat → Prop} {w : World} {b : Nat} {v : Value} (hX : ∀ b, X b → b < w.heap.size) (ho0 : Blk w b 50 ([.pointer (some ⟨b, 0, none⟩), v])) :
    Ret Try.prog 38 [.pointer (some ⟨b, 0, none⟩)].toArray w fun r w' => Out (· = b) w w' ∧ Blk w' b 50 [.pointer (some ⟨b, 0, none⟩), v] := by
  refine Ret.of_body (N := 20) Try.func38 rfl rfl (by simp) ?_
  have H := St.begin1 (b := b) (t := 50) (l := [.pointer (some ⟨b, 0, none⟩), v]) hX ho0
  refine WE.seq_reg ?_
  refine WL.mv rfl rfl ?_
  refine WL.pv (PV.nilCheck rfl rfl) rfl ?_
  refine WL.pv (PV.fieldAddr rfl TryT.fd50_0 rfl) rfl ?_
  refine WL.load1 rfl TryT.ag48 rfl rfl (by exact Blk.segAt (H.o 0 rfl) Seg.hd (by rfl)) ?_
  refine WL.pv (PV.eqlPn rfl TryT.pt48 rfl rfl) rfl ?_
  refine WL.nil ?_
  refine WE.cond_f' rfl rfl ?_
  refine WE.seq_reg ?_
  refine WL.mv rfl rfl ?_
  refine WL.pv (PV.nilCheck rfl rfl) rfl ?_
  refine WL.pv (PV.fieldAddr rfl TryT.fd50_0 rfl) rfl ?_
  refine WL.load1 rfl TryT.ag48 rfl rfl (by exact Blk.segAt (H.o 0 rfl) Seg.hd (by rfl)) ?_
  refine WL.mv rfl rfl ?_
  refine WL.pv (PV.neqPP rfl TryT.pt48 (by rw [TryT.sz50]; rfl) rfl rfl) rfl ?_
  refine WL.nil ?_
  refine WE.cond_f' rfl (by simp) ?_
  refine WE.skip ?_
  refine ⟨[], _, .nil _, trivial, ?_⟩
  exact ⟨H.toOut.mono fun c _ ⟨e, he, hc⟩ => (by cases List.mem_singleton.1 he; exact hc), H.o 0 rfl⟩


theorem copyCheck_c {w : World} {b : Nat} {p v : Value} (hb : Blk w b 50 [p, v]) (hp : p = .pointer none ∨ p = .pointer (some ⟨b, 0, none⟩)) :
    Ret Try.prog 38 [.pointer (some ⟨b, 0, none⟩)].toArray w fun r w' => Out (· = b) w w' ∧ Blk w' b 50 [.pointer (some ⟨b, 0, none⟩), v] := by
  rcases hp with rfl | rfl
  · exact copyNil_c (X := Nil) (fun _ h => h.elim) hb
  · exact copySelf_c (X := Nil) (fun _ h => h.elim) hb

theorem WriteByte_c {X : Nat → Prop} {w : World} {b base : Nat} {p v : Value} {l : List UInt8} {x : UInt8} (hX : ∀ b, X b → b < w.heap.size) (ho0 : Blk w b 50 ([p, v])) (hrow : w.ownsRow base 5 1 v (l.length) (kc l)) (hbase : base ≤ w.heap.size) (hnb : ¬ v.ownBlock = some b) (hp : p = .pointer none ∨ p = .pointer (some ⟨b, 0, none⟩)) (hll : l.length ≤ 10000000) :
    Ret Try.prog 26 [.pointer (some ⟨b, 0, none⟩), .int .u8 (x.toNat : Int)].toArray w fun r w' => ∃ v', Out (fun c => c = b ∨ v.ownBlock = some c) w w' ∧ Blk w' b 50 [.pointer (some ⟨b, 0, none⟩), v'] ∧ w'.ownsRow base 5 1 v' (l.length + 1) (kc (l ++ [x])) ∧ ∀ b, v'.ownBlock = some b → v.ownBlock = some b ∨ w.heap.size ≤ b := by
  refine Ret.of_body (N := 17) Try.func26 rfl rfl (by simp) ?_
  have H := St.begin2 hX ho0 hrow hnb
  refine WE.seq_reg ?_
  refine WL.as rfl rfl ?_
  refine WL.nil ?_
  refine WE.seq_reg ?_
  refine WL.mv rfl rfl ?_
  refine WL.call TryT.fb38 rfl (copyCheck_c (H.o 0 rfl) hp) ?_
  rintro _ w1 ⟨hO, hB⟩
  replace H := H.calledO 0 rfl hO hB
  refine WL.nil ?_
  refine WE.seq_reg ?_
  refine WL.mv rfl rfl ?_
  refine WL.mv rfl rfl ?_
  refine WL.pv (PV.nilCheck rfl rfl) rfl ?_
  refine WL.pv (PV.fieldAddr rfl TryT.fd50_1 rfl) rfl ?_
  refine WL.load1 rfl TryT.ag22 rfl rfl (by exact Blk.segAt (H.o 0 rfl) (Seg.tl Seg.hd rfl) (by rfl)) ?_
  refine WL.mv rfl rfl ?_
  refine WL.buildSliceF (l0 := [.int .u8 (0)]) H rfl TryT.st22 (by decide) (zrow_one _ _) (Fl.cons rfl (by rfl) (by (simp only [kc_length, kw_length, List.length_replicate, List.length_append, List.length_cons, List.length_nil]; done)) Laid.head Fl.nil) rfl ?_
  intro b13 w2 H
  refine WL.appendO (m := 1) H 1 hbase TryT.st22 (by decide) rfl rfl rfl (SlC.of_blk (n := 1) (H.l 0 rfl) rfl) (one_lit _ rfl) (by omega) (by decide) rfl ?_ ?_
  · skip
    intro v14 w3 hgr H
    have hv1 : v14.oneCell' = true := own_one (H.o 1 rfl)
    refine WL.pv (PV.nilCheck rfl rfl) rfl ?_
    refine WL.pv (PV.fieldAddr rfl TryT.fd50_1 rfl) rfl ?_
    refine WL.storeO H 0 rfl rfl rfl (new := [v14]) (cells_one hv1) (by exact TryT.sz22) (one_sing hv1) (Laid.at (Laid.tail Laid.head rfl) (by rfl)) rfl ?_
    intro w4 H
    refine WL.nil ?_
    refine WE.seq_reg ?_
    refine WL.as rfl rfl ?_
    refine WL.nil ?_
    refine WE.ret ?_
    refine ⟨[_], _, .nil _, ⟨rfl, trivial⟩, ?_⟩
    have hks : kc (l ++ [x]) = kc l ++ [.int .u8 (x.toNat : Int)] := kc_append l [x]
    rw [hks]
    exact ⟨v14, (H.toOut.mono fun c _ ⟨e, he, hc⟩ => by rcases List.mem_cons.1 he with rfl | he; exact .inl hc; (rcases List.mem_cons.1 he with rfl | he; (exact .inr (hgr _ hc)); cases he)), H.o 0 rfl, H.o 1 rfl, fun b hb => .inl (hgr b hb)⟩
  · skip
    intro v14 w5 hgr H
    have hv1 : v14.oneCell' = true := own_one (H.l 0 rfl)
    refine WL.pv (PV.nilCheck rfl rfl) rfl ?_
    refine WL.pv (PV.fieldAddr rfl TryT.fd50_1 rfl) rfl ?_
    refine WL.storeO H 0 rfl rfl rfl (new := [v14]) (cells_one hv1) (by exact TryT.sz22) (one_sing hv1) (Laid.at (Laid.tail Laid.head rfl) (by rfl)) rfl ?_
    intro w6 H
    refine WL.nil ?_
    refine WE.seq_reg ?_
    refine WL.as rfl rfl ?_
    refine WL.nil ?_
    refine WE.ret ?_
    refine ⟨[_], _, .nil _, ⟨rfl, trivial⟩, ?_⟩
    have hks : kc (l ++ [x]) = kc l ++ [.int .u8 (x.toNat : Int)] := kc_append l [x]
    rw [hks]
    exact ⟨v14, (H.toOut.mono fun c _ ⟨e, he, hc⟩ => by rcases List.mem_cons.1 he with rfl | he; exact .inl hc; (rcases List.mem_cons.1 he with rfl | he; (exact .inr hc); cases he)), H.o 0 rfl, H.l 0 rfl, fun b hb => .inr (hgr b hb)⟩


theorem String_c {w : World} {b base : Nat} {p v : Value} {l : List UInt8} (hb : Blk w b 50 [p, v]) (hp : p = .pointer none ∨ p = .pointer (some ⟨b, 0, none⟩)) (hrow : w.ownsRow base 5 1 v l.length (kc l)) (hbb : base ≤ b) (hnb : ¬ v.ownBlock = some b) (hbw : base ≤ w.heap.size) :
    Ret Try.prog 27 [.pointer (some ⟨b, 0, none⟩)].toArray w fun r w' => r = strV l ∧ Below base w w' := by
  have hlen : (Lib.byteCells l).length = l.length := by simp [Lib.byteCells]
  have hr : w.ownsRowF base 5 1 v (Lib.byteCells l).length (Lib.byteCells l) := by rw [hlen]; exact World.ownsRowF_of hrow
  have hB : Lib.IsBuilderF 50 5 base b (Lib.byteCells l) w := by
    rcases hp with rfl | rfl
    · exact .inl ⟨hbb, v, hb, hr, hnb⟩
    · exact .inr ⟨hbb, v, hb, hr, hnb⟩
  refine Ret.of_calls ((Try.Builder_String_any_k base b l w hB hbw).mono ?_)
  rintro e w' ⟨rfl, _, h, _⟩
  exact ⟨_, rfl, rfl, h⟩
theorem len_snoc {l : List UInt8} {x : UInt8} : (l ++ [x]).length = l.length + 1 := by simp
theorem and15 : ∀ x < 256, IntKind.u8.wrap ((BitVec.ofInt IntKind.u8.bits ((x : Nat) : Int) &&& BitVec.ofInt IntKind.u8.bits 15).toNat : Int) = ((x % 16 : Nat) : Int) := by decide +kernel

theorem Hex_c {X : Nat → Prop} {w : World} {s : Value} {la : List UInt8} (hX : ∀ b, X b → b < w.heap.size) (hf0 : Rob X (SlB s la) w) (hla : la.length ≤ 1000000) :
    Ret Try.prog 12 [s].toArray w fun v w' => v = strV (hexL la) ∧ Out Nil w w' := by
  refine Ret.of_body (N := 22) Try.func12 rfl rfl (by simp) ?_
  have H := St.begin hX
  replace H := H.add (rob0 hf0)
  refine WE.seq_reg ?_
  refine WL.as rfl rfl ?_
  refine WL.nil ?_
  refine WE.seq_reg ?_
  refine WL.alloc H rfl TryT.ze50 rfl ?_
  intro b3 w1 H
  refine WL.nil ?_
  refine WE.seq ?_
  refine WE.seq_reg ?_
  refine WL.mv rfl rfl ?_
  refine WL.pv (PV.lenS (H.p 0 rfl : SlB s la _) TryT.sl22 rfl) rfl ?_
  refine WL.mv rfl rfl ?_
  refine WL.nil ?_
  refine WE.block ?_
  replace H := H.nilOsl 5 1
  replace H := H.perm (List.Perm.swap _ _ _)
  refine WE.loop (α := Nat × Value × Value) [5, 8, 9, 10, 11, 12, 13, 14, 15, 16, 17, 18, 19, 20] (fun p => [(8, .int .i64 (p.1 : Int))]) (fun p wl => p.1 ≤ la.length ∧ (p.2.1 = .pointer none ∨ p.2.1 = .pointer (some ⟨b3, 0, none⟩)) ∧ St X w wl [] [Ent.blk b3 50 [p.2.1, p.2.2], Ent.osl w.heap.size p.2.2 5 1 ((hexL (la.take p.1)).length) (kc (hexL (la.take p.1)))] [SlB s la]) (fun p => la.length - p.1) (0, .pointer none, .slice none 0 0) ⟨rfl, trivial⟩ ⟨Nat.zero_le _, .inl rfl, H⟩ ?_
  intro ⟨i, pv_, v_⟩ γ0 w2 hI
  try dsimp only at hI
  obtain ⟨hi, hp, H⟩ := hI
  try dsimp only at hi hp
  refine WE.seq_reg ?_
  refine WL.pv (PV.lss rfl rfl rfl) rfl ?_
  refine WL.nil ?_
  refine WE.seq ?_
  refine WE.cond rfl (fun hc9 => ?_) (fun hc9 => ?_)
  · skip
    try simp only [decide_eq_true_eq, decide_eq_false_iff_not, ne_eq, Decidable.not_not, Bool.not_eq_true', Bool.not_eq_false', Bool.and_eq_true, Bool.or_eq_true, Bool.not_not, Bool.and_eq_false_iff, Bool.or_eq_false_iff, Int.not_lt, Int.not_le] at hc9
    have hlt : i < la.length := by omega
    have hx : la[i].toNat < 256 := la[i].toNat_lt
    have hxl := hexL_len (la.take i)
    have htl : (la.take i).length = i := by rw [List.length_take]; omega
    have hS := hexL_snoc hlt
    refine WE.skip ?_
    refine WE.seq ?_
    refine WE.block ?_
    refine WE.seq_reg ?_
    refine WL.pv (PV.idxS rfl (H.p 0 rfl : SlB s la _) TryT.sl22 TryT.sz5 rfl rfl (by omega) (by omega)) rfl ?_
    refine WL.load1 rfl TryT.ag5 rfl rfl (SlB.rd (H.p 0 rfl) i hlt) ?_
    refine WL.as rfl rfl ?_
    refine WL.nil ?_
    refine WE.seq_reg ?_
    refine WL.mv rfl rfl ?_
    refine WL.pv (PV.eq (v' := .int .u8 (((la[i].toNat / 16) : Nat) : Int)) (PV.shrw rfl rfl rfl (by omega)) (by (congr 1; show Int.fdiv _ 16 = _; rw [Int.fdiv_eq_ediv_of_nonneg _ (by omega)]; omega))) rfl ?_
    refine WL.pv (PV.eq (v' := .int .u8 ((hd (la[i].toNat / 16)).toNat : Int)) (PV.idxStr (l := digL) (i := (la[i].toNat / 16)) rfl Try.underlying9 rfl rfl (by show _ < 16; omega)) (congrArg (fun z : UInt8 => Value.int .u8 (z.toNat : Int)) (hd_get _ (by omega)))) rfl ?_
    have hnb1 : ¬ (v_).ownBlock = some b3 := fun h => (List.pairwise_cons.1 H.disL).1 _ List.mem_cons_self b3 ⟨rfl, h⟩
    refine WL.call TryT.fb26 rfl (WriteByte_c (X := X) (b := b3) (base := w.heap.size) (p := pv_) (v := v_) (l := hexL (la.take i)) (x := hd (la[i].toNat / 16)) (fun b hb => H.yylt b (.inl hb)) (H.l 0 rfl) (H.l 1 rfl) H.size hnb1 hp (by omega)) ?_
    rintro _ w3 ⟨v1, hO, hB, hRow, hown⟩
    replace H := St.callP H hO (Ent.blk b3 50 [.pointer (some ⟨b3, 0, none⟩), v1]) (Ent.osl w.heap.size v1 5 1 _ _) hB hRow (fun b h => h) hown
    replace H := H.conv (L' := [Ent.blk b3 50 [.pointer (some ⟨b3, 0, none⟩), v1], Ent.osl w.heap.size v1 5 1 ((hexL (la.take i) ++ [hd (la[i].toNat / 16)]).length) (kc (hexL (la.take i) ++ [hd (la[i].toNat / 16)]))]) (by rw [len_snoc (l := hexL (la.take i))])
    refine WL.nil ?_
    refine WE.reg ?_
    refine WL.mv rfl rfl ?_
    refine WL.pv (PV.eq (v' := .int .u8 (((la[i].toNat % 16) : Nat) : Int)) (PV.andw rfl rfl rfl) (by (rw [and15 _ hx]))) rfl ?_
    refine WL.pv (PV.eq (v' := .int .u8 ((hd (la[i].toNat % 16)).toNat : Int)) (PV.idxStr (l := digL) (i := (la[i].toNat % 16)) rfl Try.underlying9 rfl rfl (by show _ < 16; omega)) (congrArg (fun z : UInt8 => Value.int .u8 (z.toNat : Int)) (hd_get _ (by omega)))) rfl ?_
    have hnb2 : ¬ (v1).ownBlock = some b3 := fun h => (List.pairwise_cons.1 H.disL).1 _ List.mem_cons_self b3 ⟨rfl, h⟩
    refine WL.call TryT.fb26 rfl (WriteByte_c (X := X) (b := b3) (base := w.heap.size) (p := .pointer (some ⟨b3, 0, none⟩)) (v := v1) (l := hexL (la.take i) ++ [hd (la[i].toNat / 16)]) (x := hd (la[i].toNat % 16)) (fun b hb => H.yylt b (.inl hb)) (H.l 0 rfl) (H.l 1 rfl) H.size hnb2 (.inr rfl) (by (rw [List.length_append]; simp; omega))) ?_
    rintro _ w4 ⟨v2, hO, hB, hRow, hown⟩
    replace H := St.callP H hO (Ent.blk b3 50 [.pointer (some ⟨b3, 0, none⟩), v2]) (Ent.osl w.heap.size v2 5 1 _ _) hB hRow (fun b h => h) hown
    replace H := H.conv (L' := [Ent.blk b3 50 [.pointer (some ⟨b3, 0, none⟩), v2], Ent.osl w.heap.size v2 5 1 ((hexL (la.take i) ++ [hd (la[i].toNat / 16)] ++ [hd (la[i].toNat % 16)]).length) (kc (hexL (la.take i) ++ [hd (la[i].toNat / 16)] ++ [hd (la[i].toNat % 16)]))]) (by rw [len_snoc (l := hexL (la.take i) ++ [hd (la[i].toNat / 16)])])
    refine WL.nil ?_
    refine WE.reg ?_
    refine WL.pv (PV.eq (v' := .int .i64 ((i + 1 : Nat) : Int)) (PV.add64 rfl rfl rfl (by omega) (by omega)) (by rfl)) rfl ?_
    refine WL.mv rfl rfl ?_
    refine WL.nil ?_
    exact ⟨(i + 1, .pointer (some ⟨b3, 0, none⟩), v2), (by repeat (first | with_reducible exact Off.refl _ _ | refine Off.upd rfl ?_ | refine Off.setAll rfl ?_ | refine Off.forget' rfl ?_)), ⟨rfl, trivial⟩, rfl, ⟨by dsimp only; omega, .inr rfl, H.conv (by dsimp only; rw [hS]; rw [List.append_assoc]; rfl)⟩, (by dsimp only; omega)⟩
  · skip
    try simp only [decide_eq_true_eq, decide_eq_false_iff_not, ne_eq, Decidable.not_not, Bool.not_eq_true', Bool.not_eq_false', Bool.and_eq_true, Bool.or_eq_true, Bool.not_not, Bool.and_eq_false_iff, Bool.or_eq_false_iff, Int.not_lt, Int.not_le] at hc9
    have hie : la.take i = la := List.take_of_length_le (by omega)
    refine WE.exit ?_
    refine WE.seq_reg ?_
    rw [hie] at H
    have hnb3 : ¬ (v_).ownBlock = some b3 := fun h => (List.pairwise_cons.1 H.disL).1 _ List.mem_cons_self b3 ⟨rfl, h⟩
    have hge3 : w.heap.size ≤ b3 := H.geL _ (List.mem_of_getElem? (i := 0) rfl) b3 rfl
    have hOut := H.toOut0
    refine WL.call TryT.fb27 rfl (String_c (base := w.heap.size) (H.l 0 rfl) hp (H.l 1 rfl) hge3 hnb3 H.size) ?_
    rintro _ w5 ⟨rfl, hBl⟩
    refine WL.as rfl rfl ?_
    refine WL.nil ?_
    refine WE.ret ?_
    refine ⟨[_], _, .nil _, ⟨rfl, trivial⟩, ?_⟩
    exact ⟨rfl, ⟨hBl.os.trans hOut.os, hBl.tape.trans hOut.tape, hBl.output.trans hOut.output, Nat.le_trans hOut.size hBl.size, fun b hb hn => (hBl.block b hb).trans (hOut.block b hb hn)⟩⟩

end Go.Sp.Try
