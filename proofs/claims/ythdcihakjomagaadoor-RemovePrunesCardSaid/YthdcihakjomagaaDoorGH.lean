/- Walks of functions, printed by a program of this session (gen.py) from notes on each function. -/
import Derived.Test.YthdcihakjomagaaDoorRg
import Derived.LaidEqlPtr
import Derived.Test.YthdcihakjomagaaDoorG9
set_option maxRecDepth 100000
set_option maxHeartbeats 1000000
set_option linter.unusedVariables false
set_option linter.unusedSimpArgs false
namespace Go.Sp.Tryd
open Go.Proofs Go.RowKit Go.Sp

theorem St.setOp {X : Nat → Prop} {w0 w w' : World} {O L : List Ent} {Ps : List (World → Prop)} (H : St X w0 w O L Ps) {i : Nat} {e : Ent} (hi : O[i]? = some e) (h : Out e.fp w w') (e' : Ent) (he : e'.ok w') (hf : ∀ b, e'.fp b ↔ e.fp b) (e2 : Ent) (he2 : e2.ok w') (hn : ∀ b, e2.fp b → w.heap.size ≤ b) :
    St X w0 w' (O.set i e') (e2 :: L) Ps :=
  let H' := H.setO hi h e' he hf
  { H' with
    okL := fun x hx => by
      cases List.mem_cons.1 hx with
      | inl hx => subst hx; exact he2
      | inr hx => exact H'.okL x hx
    geL := fun x hx => by
      cases List.mem_cons.1 hx with
      | inl hx => subst hx; exact fun b hb => Nat.le_trans H.size (hn b hb)
      | inr hx => exact H'.geL x hx
    disL := List.pairwise_cons.2 ⟨fun x hx b hb => by
      have h1 := hn b hb.1
      have h2 := H.ltL x hx b hb.2
      omega, H'.disL⟩
    pers := fun p hp => (H.pers p hp).out h (fun b _ hm => .inr (.inl ⟨e, List.mem_of_getElem? hi, hm⟩)) (fun b hb hx => by
      rcases hx with hx | ⟨x, hx, hb'⟩ | ⟨x, hx, hb'⟩
      · exact .inl hx
      · rcases mem_set_cases hx with rfl | ⟨j, hne, hj⟩
        · exact .inr (.inl ⟨e, List.mem_of_getElem? hi, (hf b).1 hb'⟩)
        · exact .inr (.inl ⟨x, List.mem_of_getElem? hj, hb'⟩)
      · cases List.mem_cons.1 hx with
        | inl hx => subst hx; have := hn b hb'; omega
        | inr hx => exact .inr (.inr ⟨x, hx, hb'⟩)) }
section
variable {r : Option Nat} {P : Program} {N : Nat} {σ : Env} {ds : List Deferred} {w : World} {ops : Array Oper} {rest : List Oper} {K : Env → List Deferred → World → Prop}
variable {X : Nat → Prop} {w0 : World} {O L : List Ent} {Ps : List (World → Prop)}
theorem WL.appendO {dst : Option Tmp} {t ty e : TypeId} {zl : List Value} {bytes base : Nat} {x y : Operand} {pos : String} {after : Array Edge} {guard : Option (Nat × Bool)} {v u : Value} {n m : Nat} {xs news : List Value}
    (H : St X w0 w O L Ps) (i : Nat) (hbase : base ≤ w0.heap.size) (ht : SlTy P t e zl bytes) (hz : 0 < zl.length) (hi : O[i]? = some (Ent.osl base v e zl.length n xs)) (hx : ev σ x = v) (hy : ev σ y = u) (hu : SlC w u zl.length m news)
    (h1 : oneAll news) (hb : (n + m) * bytes ≤ 140737488355328) (hb0 : 0 < bytes) (hw : wantedE ops σ ⟨dst, .call ⟨.builtin .append, [x, y].toArray, [t, t].toArray⟩, ty, pos, after, guard⟩ = true)
    (k1 : ∀ v' w', (∀ b, v'.ownBlock = some b → v.ownBlock = some b) → St X w0 w' (O.set i (Ent.osl base v' e zl.length (n + m) (xs ++ news))) L Ps → WL r P N ops rest K (upd N σ dst v') ds w')
    (k2 : ∀ v' w', (∀ b, v'.ownBlock = some b → w0.heap.size ≤ b) → St X w0 w' (O.set i (Ent.set fun b => v.ownBlock = some b)) (Ent.osl base v' e zl.length (n + m) (xs ++ news) :: L) Ps → WL r P N ops rest K (upd N σ dst v') ds w') :
    WL r P N ops (⟨dst, .call ⟨.builtin .append, [x, y].toArray, [t, t].toArray⟩, ty, pos, after, guard⟩ :: rest) K σ ds w := by
  subst hx; subst hy
  have h63 : n + m ≤ maxLen := by
    have : (n + m) * 1 ≤ (n + m) * bytes := Nat.mul_le_mul_left _ hb0
    unfold maxLen
    omega
  obtain ⟨v', w', hrun, hown', hg, hblk⟩ := run_append_rd (P := P) (ty := ty) base ht hz (H.o i hi) hu h1 h63 hb (Nat.le_trans hbase H.size)
  by_cases hc : ∃ b, v'.ownBlock = some b ∧ (ev σ x).ownBlock = some b
  · obtain ⟨b0, h1', h2'⟩ := hc
    refine WL.val (v := v') (w' := w') hw rfl ?_ (k1 v' w' (fun b hb => by rw [h1'] at hb; rw [h2']; exact hb) ?_)
    · simp [execOp, resolve, invoke, builtin, hrun]
    · exact St.setO H hi (Out.grown hg) _ hown' (fun b => by show v'.ownBlock = some b ↔ (ev σ x).ownBlock = some b; rw [h1', h2'])
  · have hn : ∀ b, v'.ownBlock = some b → w.heap.size ≤ b := fun b hb => by
      rcases hblk b hb with h | h
      · exact absurd ⟨b, hb, h⟩ hc
      · exact h
    refine WL.val (v := v') (w' := w') hw rfl ?_ (k2 v' w' (fun b hb => Nat.le_trans H.size (hn b hb)) ?_)
    · simp [execOp, resolve, invoke, builtin, hrun]
    · exact St.setOp H hi (Out.grown hg) (Ent.set fun b => (ev σ x).ownBlock = some b) (fun b hb => Nat.lt_of_lt_of_le ((Ent.osl base (ev σ x) e zl.length n xs).lt w (H.o i hi) b hb) (Out.grown hg).size) (fun b => Iff.rfl) (Ent.osl base v' e zl.length (n + m) (xs ++ news)) hown' hn
end
theorem St.begin2 {X : Nat → Prop} {w : World} {b base sz n : Nat} {t e : TypeId} {l xs : List Value} {v : Value} (hX : ∀ b, X b → b < w.heap.size) (ho : Blk w b t l) (hrow : w.ownsRow base e sz v n xs) (hnb : ¬ v.ownBlock = some b) :
    St X w w [Ent.blk b t l, Ent.osl base v e sz n xs] [] [] :=
  St.start hX (fun x hx => by
    rcases List.mem_cons.1 hx with rfl | hx
    · exact ho
    · rcases List.mem_cons.1 hx with rfl | hx
      · exact hrow
      · cases hx)
    (List.pairwise_cons.2 ⟨(fun x hx c hc => by
        rcases List.mem_cons.1 hx with rfl | hx
        · exact hnb (by have h1 := hc.1; have h2 := hc.2; subst h1; exact h2)
        · cases hx), List.pairwise_cons.2 ⟨(fun _ hx => by cases hx), List.Pairwise.nil⟩⟩) (fun _ hp => by cases hp)
theorem rob2 {X : Nat → Prop} {w : World} {p : World → Prop} {b base sz n : Nat} {t e : TypeId} {l xs : List Value} {v : Value} (h : Rob (fun c => X c ∨ c = b ∨ v.ownBlock = some c) p w) : Rob (YY X [Ent.blk b t l, Ent.osl base v e sz n xs] []) p w :=
  h.mono fun c _ hc => by
    rcases hc with hc | ⟨x, hx, hc⟩ | ⟨x, hx, _⟩
    · exact .inl hc
    · rcases List.mem_cons.1 hx with rfl | hx
      · exact .inr (.inl hc)
      · rcases List.mem_cons.1 hx with rfl | hx
        · exact .inr (.inr hc)
        · cases hx
    · cases hx

theorem keepNo_c {X : Nat → Prop} {w : World} {b11 b13 base : Nat} {sk sv : Value} {ks : List (List UInt8)} {k : List UInt8} {M : List En} (hX : ∀ b, X b → b < w.heap.size) (ho0 : Blk w b11 53 ([sk])) (hrow : w.ownsRow base 31 32 sk (ks.length) (ks.flatMap kc)) (hbase : base ≤ w.heap.size) (hnb : ¬ sk.ownBlock = some b11) (hf0 : Rob (fun c_ => X c_ ∨ c_ = b11 ∨ sk.ownBlock = some c_) (fun w => RdA w ⟨b13, 0, none⟩ [sv]) w) (hf1 : Rob (fun c_ => X c_ ∨ c_ = b11 ∨ sk.ownBlock = some c_) (SlE sv M) w) (hkl : KL M) (hlen : M.length ≤ 1000000) (hk : k.length = 32) (hg : getM M k = none) (hml : ks.length ≤ 1000000) :
    Ret Tryd.prog 23 [.agg (kc k).toArray, .pointer (some ⟨b11, 0, none⟩), .pointer (some ⟨b13, 0, none⟩)].toArray w fun r w' => ∃ v', r = .bool false ∧ Out (fun c => c = b11 ∨ sk.ownBlock = some c) w w' ∧ Blk w' b11 53 [v'] ∧ w'.ownsRow base 31 32 v' (ks.length + 1) (ks.flatMap kc ++ kc k) ∧ ∀ b, v'.ownBlock = some b → sk.ownBlock = some b ∨ w.heap.size ≤ b := by
  refine Ret.of_body (N := 18) Tryd.func23 rfl rfl (by simp) ?_
  have H := St.begin2 hX ho0 hrow hnb
  replace H := H.add (rob2 hf1)
  replace H := H.add (rob2 hf0)
  refine WE.seq_reg ?_
  refine WL.box (l := kc k) H rfl (by rfl) rfl ?_
  intro b3 w1 H
  refine WL.as rfl rfl ?_
  refine WL.nil ?_
  refine WE.seq_reg ?_
  refine WL.load1 rfl TrydT.ag53 rfl rfl (by exact Blk.segAt (H.o 0 rfl) (Seg.all _) (by rfl)) ?_
  refine WL.loadR rfl TrydT.ag31 rfl rfl (by exact Blk.segAt (H.l 0 rfl) (Seg.all _) (by rfl)) (by (rw [TrydT.sz31]; refine congrArg some ?_; (simp only [kc_length, kw_length, List.length_replicate, List.length_append, List.length_cons, List.length_nil, cutI_length, shaOf_length, dig_length, valD_length, rootM_length]; omega))) ?_
  refine WL.buildSliceF (l0 := (kc (List.replicate 32 0))) H rfl TrydT.st53 (by decide) (by rfl) (Fl.cons rfl (by rfl) (by (simp only [kc_length, kw_length, List.length_replicate, List.length_append, List.length_cons, List.length_nil, cutI_length, shaOf_length, dig_length, valD_length, rootM_length]; omega)) (Laid.all (by (simp only [kc_length, kw_length, List.length_replicate, List.length_append, List.length_cons, List.length_nil, cutI_length, shaOf_length, dig_length, valD_length, rootM_length]; omega))) Fl.nil) rfl ?_
  intro b9 w2 H
  refine WL.appendO (m := 1) H 1 hbase TrydT.st53 (by decide) rfl rfl rfl (SlC.of_blk (n := 1) (H.l 0 rfl) (by rw [kc_length, hk]; simp [kc_length])) (kc_one _) (by omega) (by decide) rfl ?_ ?_
  · skip
    intro v10 w3 hgr H
    have hv1 : v10.oneCell' = true := own_one (H.o 1 rfl)
    refine WL.storeO H 0 rfl rfl rfl (new := [v10]) (cells_one hv1) (by exact TrydT.sz53) (one_sing hv1) (Laid.at (Laid.all (by (simp only [kc_length, kw_length, List.length_replicate, List.length_append, List.length_cons, List.length_nil, cutI_length, shaOf_length, dig_length, valD_length, rootM_length]; done))) (by rfl)) rfl ?_
    intro w4 H
    refine WL.nil ?_
    refine WE.seq_reg ?_
    refine WL.load1 rfl TrydT.ag22 rfl rfl ((by exact H.p 0 rfl)) ?_
    refine WL.loadR rfl TrydT.ag31 rfl rfl (by exact Blk.segAt (H.l 1 rfl) (Seg.all _) (by rfl)) (by (rw [TrydT.sz31]; refine congrArg some ?_; (simp only [kc_length, kw_length, List.length_replicate, List.length_append, List.length_cons, List.length_nil, cutI_length, shaOf_length, dig_length, valD_length, rootM_length]; omega))) ?_
    refine WL.call TrydT.fb24 rfl (refGetNo_c (m := M) (k := k) H.yylt (by exact H.rob 1 rfl) hkl hlen hk hg) ?_
    rintro _ w5 ⟨rfl, hO⟩
    replace H := H.out hO
    refine WL.mv rfl rfl ?_
    refine WL.pv (PV.extract rfl rfl rfl) rfl ?_
    refine WL.pv (PV.extract rfl rfl rfl) rfl ?_
    refine WL.as rfl rfl ?_
    refine WL.as rfl rfl ?_
    refine WL.nil ?_
    refine WE.seq_reg ?_
    refine WL.mv rfl rfl ?_
    refine WL.as rfl rfl ?_
    refine WL.nil ?_
    refine WE.ret ?_
    refine ⟨[_], _, .nil _, ⟨rfl, trivial⟩, ?_⟩
    exact ⟨v10, rfl, (H.toOut.mono fun c _ ⟨e, he, hc⟩ => by rcases List.mem_cons.1 he with rfl | he; exact .inl hc; (rcases List.mem_cons.1 he with rfl | he; (exact .inr (hgr _ hc)); cases he)), H.o 0 rfl, H.o 1 rfl, fun b hb => .inl (hgr b hb)⟩
  · skip
    intro v10 w6 hgr H
    have hv1 : v10.oneCell' = true := own_one (H.l 0 rfl)
    refine WL.storeO H 0 rfl rfl rfl (new := [v10]) (cells_one hv1) (by exact TrydT.sz53) (one_sing hv1) (Laid.at (Laid.all (by (simp only [kc_length, kw_length, List.length_replicate, List.length_append, List.length_cons, List.length_nil, cutI_length, shaOf_length, dig_length, valD_length, rootM_length]; done))) (by rfl)) rfl ?_
    intro w7 H
    refine WL.nil ?_
    refine WE.seq_reg ?_
    refine WL.load1 rfl TrydT.ag22 rfl rfl ((by exact H.p 0 rfl)) ?_
    refine WL.loadR rfl TrydT.ag31 rfl rfl (by exact Blk.segAt (H.l 2 rfl) (Seg.all _) (by rfl)) (by (rw [TrydT.sz31]; refine congrArg some ?_; (simp only [kc_length, kw_length, List.length_replicate, List.length_append, List.length_cons, List.length_nil, cutI_length, shaOf_length, dig_length, valD_length, rootM_length]; omega))) ?_
    refine WL.call TrydT.fb24 rfl (refGetNo_c (m := M) (k := k) H.yylt (by exact H.rob 1 rfl) hkl hlen hk hg) ?_
    rintro _ w8 ⟨rfl, hO⟩
    replace H := H.out hO
    refine WL.mv rfl rfl ?_
    refine WL.pv (PV.extract rfl rfl rfl) rfl ?_
    refine WL.pv (PV.extract rfl rfl rfl) rfl ?_
    refine WL.as rfl rfl ?_
    refine WL.as rfl rfl ?_
    refine WL.nil ?_
    refine WE.seq_reg ?_
    refine WL.mv rfl rfl ?_
    refine WL.as rfl rfl ?_
    refine WL.nil ?_
    refine WE.ret ?_
    refine ⟨[_], _, .nil _, ⟨rfl, trivial⟩, ?_⟩
    exact ⟨v10, rfl, (H.toOut.mono fun c _ ⟨e, he, hc⟩ => by rcases List.mem_cons.1 he with rfl | he; exact .inl hc; (rcases List.mem_cons.1 he with rfl | he; (exact .inr hc); cases he)), H.o 0 rfl, H.l 0 rfl, fun b hb => .inr (hgr b hb)⟩

theorem keepYes_c {X : Nat → Prop} {w : World} {b11 b13 base : Nat} {sk sv : Value} {ks : List (List UInt8)} {k : List UInt8} {M : List En} {e : En} (hX : ∀ b, X b → b < w.heap.size) (ho0 : Blk w b11 53 ([sk])) (hrow : w.ownsRow base 31 32 sk (ks.length) (ks.flatMap kc)) (hbase : base ≤ w.heap.size) (hnb : ¬ sk.ownBlock = some b11) (hf0 : Rob (fun c_ => X c_ ∨ c_ = b11 ∨ sk.ownBlock = some c_) (fun w => RdA w ⟨b13, 0, none⟩ [sv]) w) (hf1 : Rob (fun c_ => X c_ ∨ c_ = b11 ∨ sk.ownBlock = some c_) (SlE sv M) w) (hkl : KL M) (hlen : M.length ≤ 1000000) (hk : k.length = 32) (hg : getM M k = some e) (hml : ks.length ≤ 1000000) :
    Ret Tryd.prog 23 [.agg (kc k).toArray, .pointer (some ⟨b11, 0, none⟩), .pointer (some ⟨b13, 0, none⟩)].toArray w fun r w' => ∃ v', r = .bool true ∧ Out (fun c => c = b11 ∨ sk.ownBlock = some c) w w' ∧ Blk w' b11 53 [v'] ∧ w'.ownsRow base 31 32 v' (ks.length + 1) (ks.flatMap kc ++ kc k) ∧ ∀ b, v'.ownBlock = some b → sk.ownBlock = some b ∨ w.heap.size ≤ b := by
  refine Ret.of_body (N := 18) Tryd.func23 rfl rfl (by simp) ?_
  have H := St.begin2 hX ho0 hrow hnb
  replace H := H.add (rob2 hf1)
  replace H := H.add (rob2 hf0)
  refine WE.seq_reg ?_
  refine WL.box (l := kc k) H rfl (by rfl) rfl ?_
  intro b3 w1 H
  refine WL.as rfl rfl ?_
  refine WL.nil ?_
  refine WE.seq_reg ?_
  refine WL.load1 rfl TrydT.ag53 rfl rfl (by exact Blk.segAt (H.o 0 rfl) (Seg.all _) (by rfl)) ?_
  refine WL.loadR rfl TrydT.ag31 rfl rfl (by exact Blk.segAt (H.l 0 rfl) (Seg.all _) (by rfl)) (by (rw [TrydT.sz31]; refine congrArg some ?_; (simp only [kc_length, kw_length, List.length_replicate, List.length_append, List.length_cons, List.length_nil, cutI_length, shaOf_length, dig_length, valD_length, rootM_length]; omega))) ?_
  refine WL.buildSliceF (l0 := (kc (List.replicate 32 0))) H rfl TrydT.st53 (by decide) (by rfl) (Fl.cons rfl (by rfl) (by (simp only [kc_length, kw_length, List.length_replicate, List.length_append, List.length_cons, List.length_nil, cutI_length, shaOf_length, dig_length, valD_length, rootM_length]; omega)) (Laid.all (by (simp only [kc_length, kw_length, List.length_replicate, List.length_append, List.length_cons, List.length_nil, cutI_length, shaOf_length, dig_length, valD_length, rootM_length]; omega))) Fl.nil) rfl ?_
  intro b9 w2 H
  refine WL.appendO (m := 1) H 1 hbase TrydT.st53 (by decide) rfl rfl rfl (SlC.of_blk (n := 1) (H.l 0 rfl) (by rw [kc_length, hk]; simp [kc_length])) (kc_one _) (by omega) (by decide) rfl ?_ ?_
  · skip
    intro v10 w3 hgr H
    have hv1 : v10.oneCell' = true := own_one (H.o 1 rfl)
    refine WL.storeO H 0 rfl rfl rfl (new := [v10]) (cells_one hv1) (by exact TrydT.sz53) (one_sing hv1) (Laid.at (Laid.all (by (simp only [kc_length, kw_length, List.length_replicate, List.length_append, List.length_cons, List.length_nil, cutI_length, shaOf_length, dig_length, valD_length, rootM_length]; done))) (by rfl)) rfl ?_
    intro w4 H
    refine WL.nil ?_
    refine WE.seq_reg ?_
    refine WL.load1 rfl TrydT.ag22 rfl rfl ((by exact H.p 0 rfl)) ?_
    refine WL.loadR rfl TrydT.ag31 rfl rfl (by exact Blk.segAt (H.l 1 rfl) (Seg.all _) (by rfl)) (by (rw [TrydT.sz31]; refine congrArg some ?_; (simp only [kc_length, kw_length, List.length_replicate, List.length_append, List.length_cons, List.length_nil, cutI_length, shaOf_length, dig_length, valD_length, rootM_length]; omega))) ?_
    refine WL.call TrydT.fb24 rfl (refGetYes_c (m := M) (k := k) H.yylt (by exact H.rob 1 rfl) hkl hlen hk hg) ?_
    rintro _ w5 ⟨rfl, hO⟩
    replace H := H.out hO
    refine WL.mv rfl rfl ?_
    refine WL.pv (PV.extract rfl rfl rfl) rfl ?_
    refine WL.pv (PV.extract rfl rfl rfl) rfl ?_
    refine WL.as rfl rfl ?_
    refine WL.as rfl rfl ?_
    refine WL.nil ?_
    refine WE.seq_reg ?_
    refine WL.mv rfl rfl ?_
    refine WL.as rfl rfl ?_
    refine WL.nil ?_
    refine WE.ret ?_
    refine ⟨[_], _, .nil _, ⟨rfl, trivial⟩, ?_⟩
    exact ⟨v10, rfl, (H.toOut.mono fun c _ ⟨e, he, hc⟩ => by rcases List.mem_cons.1 he with rfl | he; exact .inl hc; (rcases List.mem_cons.1 he with rfl | he; (exact .inr (hgr _ hc)); cases he)), H.o 0 rfl, H.o 1 rfl, fun b hb => .inl (hgr b hb)⟩
  · skip
    intro v10 w6 hgr H
    have hv1 : v10.oneCell' = true := own_one (H.l 0 rfl)
    refine WL.storeO H 0 rfl rfl rfl (new := [v10]) (cells_one hv1) (by exact TrydT.sz53) (one_sing hv1) (Laid.at (Laid.all (by (simp only [kc_length, kw_length, List.length_replicate, List.length_append, List.length_cons, List.length_nil, cutI_length, shaOf_length, dig_length, valD_length, rootM_length]; done))) (by rfl)) rfl ?_
    intro w7 H
    refine WL.nil ?_
    refine WE.seq_reg ?_
    refine WL.load1 rfl TrydT.ag22 rfl rfl ((by exact H.p 0 rfl)) ?_
    refine WL.loadR rfl TrydT.ag31 rfl rfl (by exact Blk.segAt (H.l 2 rfl) (Seg.all _) (by rfl)) (by (rw [TrydT.sz31]; refine congrArg some ?_; (simp only [kc_length, kw_length, List.length_replicate, List.length_append, List.length_cons, List.length_nil, cutI_length, shaOf_length, dig_length, valD_length, rootM_length]; omega))) ?_
    refine WL.call TrydT.fb24 rfl (refGetYes_c (m := M) (k := k) H.yylt (by exact H.rob 1 rfl) hkl hlen hk hg) ?_
    rintro _ w8 ⟨rfl, hO⟩
    replace H := H.out hO
    refine WL.mv rfl rfl ?_
    refine WL.pv (PV.extract rfl rfl rfl) rfl ?_
    refine WL.pv (PV.extract rfl rfl rfl) rfl ?_
    refine WL.as rfl rfl ?_
    refine WL.as rfl rfl ?_
    refine WL.nil ?_
    refine WE.seq_reg ?_
    refine WL.mv rfl rfl ?_
    refine WL.as rfl rfl ?_
    refine WL.nil ?_
    refine WE.ret ?_
    refine ⟨[_], _, .nil _, ⟨rfl, trivial⟩, ?_⟩
    exact ⟨v10, rfl, (H.toOut.mono fun c _ ⟨e, he, hc⟩ => by rcases List.mem_cons.1 he with rfl | he; exact .inl hc; (rcases List.mem_cons.1 he with rfl | he; (exact .inr hc); cases he)), H.o 0 rfl, H.l 0 rfl, fun b hb => .inr (hgr b hb)⟩

end Go.Sp.Tryd

set_option maxRecDepth 100000
set_option maxHeartbeats 1000000
set_option linter.unusedVariables false
set_option linter.unusedSimpArgs false
namespace Go.Sp.Tryd
open Go.Proofs Go.RowKit Go.Sp

theorem RdA.inj {w : World} {a : Addr} {l m : List Value} (h1 : RdA w a l) (h2 : RdA w a m) (h : l.length = m.length) : l = m :=
  List.ext_getElem h fun j h3 h4 => by
    have e1 := h1 j l[j] (List.getElem?_eq_getElem h3)
    have e2 := h2 j m[j] (List.getElem?_eq_getElem h4)
    rw [e1] at e2
    injection e2
theorem SlB.inj {s : Value} {l m : List UInt8} {w : World} (h1 : SlB s l w) (h2 : SlB s m w) : l = m := by
  obtain ⟨A, c, rfl, hl, hc, hn, hr⟩ := h1
  obtain ⟨A', c', e, hl', hc', hn', hr'⟩ := h2
  injection e with e1 e2 e3
  subst e1
  cases A with
  | none =>
    have h3 := (hn rfl).1
    have h4 := (hn' rfl).1
    rw [List.eq_nil_of_length_eq_zero h3, List.eq_nil_of_length_eq_zero h4]
  | some a => exact kc_inj (RdA.inj (hr a rfl) (hr' a rfl) (by rw [kc_length, kc_length, e2]))
theorem Blk.inj {w : World} {b : Nat} {t t' : TypeId} {l m : List Value} (h1 : Blk w b t l) (h2 : Blk w b t' m) : l = m := by
  unfold Blk at h1 h2
  rw [h1] at h2
  injection h2 with h2
  injection h2 with h3 h4 h5
  simpa using h3
theorem addr_inj {a b : Nat} (h : (some ⟨a, 0, none⟩ : Option Addr) = some ⟨b, 0, none⟩) : a = b := by
  injection h with h
  injection h
theorem ptr_inj {T S : Tr} (h : T.ptr = S.ptr) : T.addr = S.addr := by
  unfold Tr.ptr at h
  injection h
theorem NodeAt.inj {a : Nat} {t t' : TypeId} {L L' : List Value} {D D' : List UInt8} {w : World} (h1 : NodeAt a t L D w) (h2 : NodeAt a t' L' D' w) : t = t' ∧ L = L' := by
  have e := Blk.inj h1 h2
  rw [List.singleton_append, List.singleton_append] at e
  injection e with e1 e2
  injection e1 with e3 e4
  injection e4 with e5
  exact ⟨e3, by simpa using e5⟩
theorem TrA.inj {bits : Int} {w : World} : ∀ {T S : Tr}, TrA bits T w → TrA bits S w → T.addr = S.addr → T.er = S.er
  | .nil, .nil, _, _, _ => rfl
  | .nil, .leaf .., _, _, h => by cases h
  | .nil, .inner .., _, _, h => by cases h
  | .leaf .., .nil, _, _, h => by cases h
  | .inner .., .nil, _, _, h => by cases h
  | .leaf a k v s, .inner b l r, h1, h2, h => by
    obtain rfl := addr_inj h
    have := (NodeAt.inj h1.2.2.2 h2.2.2).1
    exact absurd this (by decide)
  | .inner b l r, .leaf a k v s, h1, h2, h => by
    obtain rfl := addr_inj h
    have := (NodeAt.inj h1.2.2 h2.2.2.2).1
    exact absurd this (by decide)
  | .leaf a k v s, .leaf b k' v' s', h1, h2, h => by
    obtain rfl := addr_inj h
    have e := (NodeAt.inj h1.2.2.2 h2.2.2.2).2
    unfold leafC at e
    have e1 := List.append_inj' e rfl
    have e2 := List.append_inj e1.1 (by rw [kc_length, kc_length, h1.1, h2.1])
    have hs : s = s' := by injection e1.2
    subst hs
    have hk := kc_inj e2.1
    have hv := SlB.inj h1.2.1 h2.2.1
    show Sh.leaf k v = Sh.leaf k' v'
    rw [hk, hv]
  | .inner a l r, .inner b l' r', h1, h2, h => by
    obtain rfl := addr_inj h
    have e := (NodeAt.inj h1.2.2 h2.2.2).2
    unfold innerC at e
    have e1 := (List.append_inj e rfl).1
    injection e1 with e2 e3
    injection e3 with e4 e5
    show Sh.inner l.er r.er = Sh.inner l'.er r'.er
    rw [TrA.inj h1.1 h2.1 (ptr_inj e2), TrA.inj h1.2.1 h2.2.1 (ptr_inj e4)]
theorem TrA.blk {bits : Int} {w : World} : ∀ {T : Tr} {a : Addr}, TrA bits T w → T.addr = some a → ∃ c t, w.heap[a.block]? = some (.cells c t (0, 0))
  | .nil, _, _, h => by cases h
  | .leaf a k v s, _, h, e => by
    injection e with e; subst e
    exact ⟨_, _, h.2.2.2⟩
  | .inner a l r, _, h, e => by
    injection e with e; subst e
    exact ⟨_, _, h.2.2⟩
theorem run_eql_tr {bits : Int} {w : World} {T S : Tr} (h1 : TrA bits T w) (h2 : TrA bits S w) : (binOp .eql 23 T.ptr S.ptr).run Tryd.prog w = .ok (.bool (decide (T.addr = S.addr))) w := by
  by_cases h : T.addr = S.addr
  · unfold Tr.ptr
    rw [h]
    simp [binOp, run_eq_ptr TrydT.pt23 rfl]
  · rw [decide_eq_false h]
    unfold Tr.ptr
    have h0 : ∀ p q : Option Addr, p.isNone ≠ q.isNone → (Op.equal 23 (.pointer p) (.pointer q)).run Tryd.prog w = .ok false w := fun p q hpq => by
      show (Op.equalIn (9999 + 1) _ _ _).run Tryd.prog w = _
      rw [Op.equalIn]
      simp only [Sem.run_bind, run_underlying (und_of_ptr TrydT.pt23), Result.andThen]
      cases p <;> cases q <;> first | rfl | exact absurd rfl hpq
    cases ha : T.addr with
    | none =>
      cases hb : S.addr with
      | none => rw [ha, hb] at h; exact absurd rfl h
      | some b => simp [binOp, h0 none (some b) (by simp)]
    | some a =>
      cases hb : S.addr with
      | none => simp [binOp, h0 (some a) none (by simp)]
      | some b =>
        obtain ⟨ca, ta, hha⟩ := TrA.blk h1 ha
        obtain ⟨cb, tb, hhb⟩ := TrA.blk h2 hb
        obtain ⟨j, hj, hs⟩ := info_of_size TrydT.sz109
        exact run_eql_ptr_other w (und_of_ptr TrydT.pt23) hj (by rw [hs]; decide) (fun e => h (by rw [ha, hb, e])) hha hhb

end Go.Sp.Tryd

set_option maxRecDepth 100000
set_option maxHeartbeats 1000000
set_option linter.unusedVariables false
set_option linter.unusedSimpArgs false
namespace Go.Sp.Tryd
open Go.Proofs Go.RowKit Go.Sp

structure Seen (b11 base : Nat) (F : Nat → Prop) (ks : List (List UInt8)) (w : World) : Prop where
  row : ∃ sk, Blk w b11 53 [sk] ∧ w.ownsRow base 31 32 sk ks.length (ks.flatMap kc) ∧ (¬ sk.ownBlock = some b11) ∧ ∀ b, sk.ownBlock = some b → F b
  cell : F b11
  base_le : base ≤ b11
  lt : ∀ b, F b → b < w.heap.size
theorem Seen.out {b11 base : Nat} {F M : Nat → Prop} {ks : List (List UInt8)} {w w' : World} (h : Seen b11 base F ks w) (ho : Out M w w') (hM : ∀ b, F b → ¬ M b) : Seen b11 base F ks w' where
  row := by
    obtain ⟨sk, h1, h2, h3, h4⟩ := h.row
    refine ⟨sk, ?_, ?_, h3, h4⟩
    · exact (Ent.blk b11 53 [sk]).loc w w' (fun b hb => ho.block b (by obtain rfl := hb; exact h.lt _ h.cell) (by obtain rfl := hb; exact hM _ h.cell)) h1
    · exact (Ent.osl base sk 31 32 ks.length (ks.flatMap kc)).loc w w' (fun b hb => ho.block b (h.lt _ (h4 _ hb)) (hM _ (h4 _ hb))) h2
  cell := h.cell
  base_le := h.base_le
  lt := fun b hb => Nat.lt_of_lt_of_le (h.lt b hb) ho.size
theorem keepS_c {X F : Nat → Prop} {w : World} {b11 b13 base : Nat} {sv : Value} {ks : List (List UInt8)} {k : List UInt8} {M : List En} (hX : ∀ b, X b → b < w.heap.size) (hJ : Seen b11 base F ks w)
    (hf0 : Rob (fun c => X c ∨ F c) (fun w => RdA w ⟨b13, 0, none⟩ [sv]) w) (hf1 : Rob (fun c => X c ∨ F c) (SlE sv M) w) (hkl : KL M) (hlen : M.length ≤ 1000000) (hk : k.length = 32) (hml : ks.length ≤ 1000000) :
    Ret Tryd.prog 23 [.agg (kc k).toArray, .pointer (some ⟨b11, 0, none⟩), .pointer (some ⟨b13, 0, none⟩)].toArray w fun r w' => ∃ F', r = .bool (hasM M k) ∧ Out F w w' ∧ Seen b11 base F' (ks ++ [k]) w' ∧ ∀ b, F' b → F b ∨ w.heap.size ≤ b := by
  obtain ⟨sk, h1, h2, h3, h4⟩ := hJ.row
  have hx : ∀ b, (X b ∨ b = b11 ∨ sk.ownBlock = some b) → X b ∨ F b := fun b hb => by
    rcases hb with h | h | h
    · exact .inl h
    · subst h; exact .inr hJ.cell
    · exact .inr (h4 _ h)
  have fin : ∀ (r : Value) (w' : World), (∃ v', r = .bool (hasM M k) ∧ Out (fun c => c = b11 ∨ sk.ownBlock = some c) w w' ∧ Blk w' b11 53 [v'] ∧ w'.ownsRow base 31 32 v' (ks.length + 1) (ks.flatMap kc ++ kc k) ∧ ∀ b, v'.ownBlock = some b → sk.ownBlock = some b ∨ w.heap.size ≤ b) →
      ∃ F', r = .bool (hasM M k) ∧ Out F w w' ∧ Seen b11 base F' (ks ++ [k]) w' ∧ ∀ b, F' b → F b ∨ w.heap.size ≤ b := fun r w' ⟨v', e, ho, hb, hr, hg⟩ => by
    have hc := hJ.lt _ hJ.cell
    refine ⟨fun b => b = b11 ∨ v'.ownBlock = some b, e, ho.mono fun b _ hb => (hb.elim (fun h => by subst h; exact hJ.cell) fun h => h4 _ h), ⟨⟨v', hb, ?_, ?_, fun b hb => .inr hb⟩, .inl rfl, hJ.base_le, fun b hb => ?_⟩, fun b hb => ?_⟩
    · rw [List.length_append, List.flatMap_append, show [k].flatMap kc = kc k by simp]; exact hr
    · intro h
      rcases hg _ h with h | h
      · exact h3 h
      · omega
    · rcases hb with h | h
      · subst h; exact Nat.lt_of_lt_of_le hc ho.size
      · exact (Ent.osl base v' 31 32 _ _).lt w' hr b h
    · rcases hb with h | h
      · subst h; exact .inl hJ.cell
      · rcases hg _ h with h | h
        · exact .inl (h4 _ h)
        · exact .inr h
  cases hg : getM M k with
  | none =>
    refine (keepNo_c hX h1 h2 (Nat.le_trans hJ.base_le (Nat.le_of_lt (hJ.lt _ hJ.cell))) h3 (hf0.mono fun b _ => hx b) (hf1.mono fun b _ => hx b) hkl hlen hk hg hml).mono fun r w' h => fin r w' ?_
    rw [show hasM M k = false by simp [hasM, hg]]
    exact h
  | some e =>
    refine (keepYes_c hX h1 h2 (Nat.le_trans hJ.base_le (Nat.le_of_lt (hJ.lt _ hJ.cell))) h3 (hf0.mono fun b _ => hx b) (hf1.mono fun b _ => hx b) hkl hlen hk hg hml).mono fun r w' h => fin r w' ?_
    rw [show hasM M k = true by simp [hasM, hg]]
    exact h
section
variable {X F F1 F2 G : Nat → Prop} {w0 w w' : World} {bc : Nat} {t : TypeId} {l l' : List Value} {Ps : List (World → Prop)} {p : World → Prop}
theorem St.begin3 (hX : ∀ b, X b → b < w.heap.size) (ho : Blk w bc t l) (hF : ∀ b, F b → b < w.heap.size) (hFb : ¬ F bc) : St X w w [Ent.blk bc t l, Ent.set F] [Ent.set Nil] [] :=
  St.pushNil (St.start hX (fun x hx => by
    rcases List.mem_cons.1 hx with rfl | hx
    · exact ho
    · rcases List.mem_cons.1 hx with rfl | hx
      · exact hF
      · cases hx)
    (List.pairwise_cons.2 ⟨(fun x hx c hc => by
        rcases List.mem_cons.1 hx with rfl | hx
        · exact hFb (by have h1 := hc.1; have h2 := hc.2; subst h1; exact h2)
        · cases hx), List.pairwise_cons.2 ⟨(fun _ hx => by cases hx), List.Pairwise.nil⟩⟩) (fun _ hp => by cases hp))
theorem yy3 {b : Nat} (h : YY X [Ent.blk bc t l, Ent.set F] [Ent.set G] b) : X b ∨ b = bc ∨ F b ∨ G b := by
  rcases h with h | ⟨x, hx, h⟩ | ⟨x, hx, h⟩
  · exact .inl h
  · rcases List.mem_cons.1 hx with rfl | hx
    · exact .inr (.inl h)
    · rcases List.mem_cons.1 hx with rfl | hx
      · exact .inr (.inr (.inl h))
      · cases hx
  · rcases List.mem_cons.1 hx with rfl | hx
    · exact .inr (.inr (.inr h))
    · cases hx
theorem yy3' {b : Nat} (h : X b ∨ b = bc ∨ F b ∨ G b) : YY X [Ent.blk bc t l, Ent.set F] [Ent.set G] b := by
  rcases h with h | h | h | h
  · exact .inl h
  · exact .inr (.inl ⟨_, List.mem_cons_self, h⟩)
  · exact .inr (.inl ⟨_, List.mem_cons_of_mem _ List.mem_cons_self, h⟩)
  · exact .inr (.inr ⟨_, List.mem_cons_self, h⟩)
theorem rob3 (h : Rob (fun c => X c ∨ c = bc ∨ F c) p w) : Rob (YY X [Ent.blk bc t l, Ent.set F] [Ent.set Nil]) p w := h.mono fun c _ hc => by
  rcases yy3 hc with h | h | h | h
  · exact .inl h
  · exact .inr (.inl h)
  · exact .inr (.inr h)
  · exact h.elim
theorem St.calledS (H : St X w0 w [Ent.blk bc t l, Ent.set F] [Ent.set G] Ps) (hC : ∀ b, F1 b → F b ∨ G b) (h : Out (fun b => b = bc ∨ F1 b) w w') (hb : Blk w' bc t l') (hF2 : ∀ b, F2 b → F1 b ∨ w.heap.size ≤ b) (hlt : ∀ b, F2 b → b < w'.heap.size) :
    St X w0 w' [Ent.blk bc t l', Ent.set F] [Ent.set fun b => G b ∨ (F2 b ∧ ¬ F b)] Ps where
  os := h.os.trans H.os
  tape := h.tape.trans H.tape
  output := h.output.trans H.output
  size := Nat.le_trans H.size h.size
  old := fun b hb hn => by
    have h1 : b ≠ bc := fun e => hn (Ent.blk bc t l') List.mem_cons_self e
    have h2 : ¬ F b := fun e => hn (Ent.set F) (List.mem_cons_of_mem _ List.mem_cons_self) e
    refine (h.block b (Nat.lt_of_lt_of_le hb H.size) fun hm => ?_).trans (H.old b hb fun x hx => ?_)
    · rcases hm with hm | hm
      · exact h1 hm
      · rcases hC b hm with hm | hm
        · exact h2 hm
        · have := H.geL (Ent.set G) List.mem_cons_self b hm
          omega
    · rcases List.mem_cons.1 hx with rfl | hx
      · exact h1
      · rcases List.mem_cons.1 hx with rfl | hx
        · exact h2
        · cases hx
  okO := fun x hx => by
    rcases List.mem_cons.1 hx with rfl | hx
    · exact hb
    · rcases List.mem_cons.1 hx with rfl | hx
      · exact fun b hb => Nat.lt_of_lt_of_le (H.okO (Ent.set F) (List.mem_cons_of_mem _ List.mem_cons_self) b hb) h.size
      · cases hx
  okL := fun x hx => by
    rcases List.mem_cons.1 hx with rfl | hx
    · intro b hb
      rcases hb with hb | hb
      · exact Nat.lt_of_lt_of_le (H.okL (Ent.set G) List.mem_cons_self b hb) h.size
      · exact hlt b hb.1
    · cases hx
  ltO := fun x hx b hb => by
    rcases List.mem_cons.1 hx with rfl | hx
    · exact H.ltO (Ent.blk bc t l) List.mem_cons_self b hb
    · rcases List.mem_cons.1 hx with rfl | hx
      · exact H.ltO (Ent.set F) (List.mem_cons_of_mem _ List.mem_cons_self) b hb
      · cases hx
  geL := fun x hx b hb => by
    rcases List.mem_cons.1 hx with rfl | hx
    · rcases hb with hb | ⟨hb, hn⟩
      · exact H.geL (Ent.set G) List.mem_cons_self b hb
      · rcases hF2 b hb with h1 | h1
        · rcases hC b h1 with h1 | h1
          · exact absurd h1 hn
          · exact H.geL (Ent.set G) List.mem_cons_self b h1
        · exact Nat.le_trans H.size h1
    · cases hx
  disO := List.pairwise_cons.2 ⟨(fun x hx => (List.pairwise_cons.1 H.disO).1 x hx), (List.pairwise_cons.1 H.disO).2⟩
  disL := List.pairwise_singleton _ _
  xlt := H.xlt
  pers := fun p hp => (H.pers p hp).out h (fun b _ hm => by
      refine yy3' ?_
      rcases hm with hm | hm
      · exact .inr (.inl hm)
      · rcases hC b hm with hm | hm
        · exact .inr (.inr (.inl hm))
        · exact .inr (.inr (.inr hm))) (fun b hb hx => by
      refine yy3' ?_
      rcases yy3 hx with h1 | h1 | h1 | h1
      · exact .inl h1
      · exact .inr (.inl h1)
      · exact .inr (.inr (.inl h1))
      · rcases h1 with h1 | ⟨h1, h2⟩
        · exact .inr (.inr (.inr h1))
        · rcases hF2 b h1 with h1 | h1
          · rcases hC b h1 with h1 | h1
            · exact absurd h1 h2
            · exact .inr (.inr (.inr h1))
          · omega)
theorem St.robS (H : St X w0 w [Ent.blk bc t l, Ent.set F] [Ent.set G] Ps) (hC : ∀ b, F1 b → F b ∨ G b) (i : Nat) (hp : Ps[i]? = some p) : Rob (fun c => YY X [Ent.blk bc t l, Ent.set F] [Ent.set G] c ∨ c = bc ∨ F1 c) p w :=
  (H.rob i hp).mono fun c _ hc => by
    rcases hc with h | h | h
    · exact h
    · exact yy3' (.inr (.inl h))
    · rcases hC c h with h | h
      · exact yy3' (.inr (.inr (.inl h)))
      · exact yy3' (.inr (.inr (.inr h)))
end

end Go.Sp.Tryd

set_option maxRecDepth 100000
set_option maxHeartbeats 1000000
set_option linter.unusedVariables false
set_option linter.unusedSimpArgs false
namespace Go.Sp.Tryd
open Go.Proofs Go.RowKit Go.Sp

def kpM (K : List En) (m : List En) : List En := m.filter fun e => hasM K e.k
theorem kp_pm {d : Nat} {m K : List En} (h : Pm d m) : Pm d (kpM K m) where
  le := h.le
  kl := fun e he => h.kl e (List.mem_filter.1 he).1
  dis := h.dis.filter _
  com := fun a ha b hb => h.com a (List.mem_filter.1 ha).1 b (List.mem_filter.1 hb).1
theorem kp_part {K m : List En} {d b : Nat} : partM (kpM K m) d b = kpM K (partM m d b) := by
  unfold partM kpM
  rw [List.filter_filter, List.filter_filter]
  congr 1
  funext e
  exact Bool.and_comm _ _
theorem kp_join {m K : List En} {d : Nat} (h : Pm d m) (hd : d < 256) : joinS (grow (d + 1) (kpM K (partM m d 0))) (grow (d + 1) (kpM K (partM m d 1))) = grow d (kpM K m) := by
  have e := joinS_grow (kp_pm (K := K) h) hd
  rwa [kp_part, kp_part] at e
theorem kp_len (K m : List En) : (kpM K m).length ≤ m.length := List.length_filter_le _ _
section
variable {r : Option Nat} {N : Nat} {σ : Env} {ds : List Deferred} {w : World} {ops : Array Oper} {rest : List Oper} {K : Env → List Deferred → World → Prop}
theorem WL.eqlT {o : Oper} {u : TypeId} {x y : Operand} {T S : Tr} {bits : Int} (h : o.op = .binOp .eql 23 x y u) (h1 : TrA bits T w) (h2 : TrA bits S w) (hx : ev σ x = T.ptr) (hy : ev σ y = S.ptr) (hw : wantedE ops σ o = true) (hd : noDefer o = true)
    (k : WL r Tryd.prog N ops rest K (upd N σ o.dst (.bool (decide (T.addr = S.addr)))) ds w) : WL r Tryd.prog N ops (o :: rest) K σ ds w :=
  WL.val (v := .bool (decide (T.addr = S.addr))) (w' := w) hw hd (by
    have hr := run_eql_tr h1 h2
    unfold Tr.ptr at hr hx hy
    simp [execOp, h, hx, hy, eqGuard, hr]) k
end
section
variable {X F F1 F2 F' G : Nat → Prop} {w0 w w' : World} {bc : Nat} {t : TypeId} {l l' : List Value} {Ps : List (World → Prop)} {p : World → Prop}
theorem St.toOut3 (H : St X w0 w [Ent.blk bc t l, Ent.set F] [Ent.set G] Ps) : Out (fun b => b = bc ∨ F b) w0 w := H.toOut.mono fun c _ ⟨e, he, hc⟩ => by
  rcases List.mem_cons.1 he with rfl | he
  · exact .inl hc
  · rcases List.mem_cons.1 he with rfl | he
    · exact .inr hc
    · cases he
theorem St.give3 (_ : St X w0 w [Ent.blk bc t l, Ent.set F] [Ent.set G] Ps) (hC : ∀ b, F' b → F b ∨ G b) (h : Rob (YY X [Ent.blk bc t l, Ent.set F] [Ent.set G]) p w) : Rob (fun b => X b ∨ b = bc ∨ F' b) p w := h.mono fun c _ hc => by
  refine yy3' ?_
  rcases hc with h | h | h
  · exact .inl h
  · exact .inr (.inl h)
  · exact .inr (.inr (hC c h))
theorem St.new3 (H : St X w0 w [Ent.blk bc t l, Ent.set F] [Ent.set G] Ps) (hC : ∀ b, F' b → F b ∨ G b) : ∀ b, F' b → F b ∨ w0.heap.size ≤ b := fun b hb => by
  rcases hC b hb with h | h
  · exact .inl h
  · exact .inr (H.geL (Ent.set G) List.mem_cons_self b h)
theorem robA (h : Rob (fun c => YY X [Ent.blk bc t l, Ent.set F] [Ent.set G] c ∨ c = bc ∨ F2 c) p w) : Rob (YY X [Ent.blk bc t l', Ent.set F] [Ent.set fun b => G b ∨ (F2 b ∧ ¬ F b)]) p w := h.mono fun c _ hc => by
  rcases yy3 hc with h | h | h | h | h
  · exact .inl (yy3' (.inl h))
  · exact .inr (.inl h)
  · exact .inl (yy3' (.inr (.inr (.inl h))))
  · exact .inl (yy3' (.inr (.inr (.inr h))))
  · exact .inr (.inr h.1)
theorem hcS : ∀ b, F2 b → F b ∨ (G b ∨ (F2 b ∧ ¬ F b)) := fun b hb => by
  by_cases h : F b
  · exact .inl h
  · exact .inr (.inr ⟨hb, h⟩)
theorem St.blkS (H : St X w0 w [Ent.blk bc t l, Ent.set F] [Ent.set G] Ps) (h : Out F1 w w') (hC : ∀ b, F1 b → F b ∨ G b) : Blk w' bc t l := by
  have hb := H.okO (Ent.blk bc t l) List.mem_cons_self
  have hlt : bc < w.heap.size := (Ent.blk bc t l).lt w hb bc rfl
  have hlt0 : bc < w0.heap.size := H.ltO (Ent.blk bc t l) List.mem_cons_self bc rfl
  refine (Ent.blk bc t l).loc w w' (fun b hb => ?_) hb
  obtain rfl := hb
  refine h.block _ hlt fun hm => ?_
  rcases hC _ hm with hm | hm
  · exact (List.pairwise_cons.1 H.disO).1 (Ent.set F) List.mem_cons_self _ ⟨rfl, hm⟩
  · have := H.geL (Ent.set G) List.mem_cons_self _ hm
    omega
theorem St.notbc (H : St X w0 w [Ent.blk bc t l, Ent.set F] [Ent.set G] Ps) (hC : ∀ b, F1 b → F b ∨ G b) : ∀ b, F1 b → ¬ b = bc := fun b hb e => by
  subst e
  rcases hC _ hb with hm | hm
  · exact (List.pairwise_cons.1 H.disO).1 (Ent.set F) List.mem_cons_self _ ⟨rfl, hm⟩
  · have h1 := H.geL (Ent.set G) List.mem_cons_self _ hm
    have h2 := H.ltO (Ent.blk b t l) List.mem_cons_self b rfl
    omega
end
def KV (b11 b13 : Nat) : Value := .func (.func 23) [].toArray [.pointer (some ⟨b11, 0, none⟩), .pointer (some ⟨b13, 0, none⟩)].toArray
def PrOK (T : Tr) : Prop := ∀ {X F : Nat → Prop} {w : World} {bh bc b11 b13 base : Nat} {bits c0 : Int} {sv : Value} {ks : List (List UInt8)} {M K : List En} {d : Nat}, (∀ b, X b → b < w.heap.size) → Blk w bc 118 [.int .i64 c0] →
  Rob (fun c => X c ∨ c = bc ∨ F c) (HAt bh bc bits) w → Rob (fun c => X c ∨ c = bc ∨ F c) (TrA bits T) w → Rob (fun c => X c ∨ c = bc ∨ F c) (fun w => RdA w ⟨b13, 0, none⟩ [sv]) w → Rob (fun c => X c ∨ c = bc ∨ F c) (SlE sv K) w → Rob (fun c => X c ∨ c = bc ∨ F c) Rounds w →
  0 ≤ bits ∧ bits ≤ 256 → T.er = grow d M → Pm d M → Srt M → M.length ≤ 1000000 → Seen b11 base F ks w → ¬ F bc → KL K → K.length ≤ 1000000 → ks.length + M.length ≤ 1000000 →
  Ret Tryd.prog 22 [.pointer (some ⟨bh, 0, none⟩), T.ptr, KV b11 b13].toArray w fun r w' => ∃ (T' : Tr) (c : Int) (F' : Nat → Prop) (ks' : List (List UInt8)), r = T'.ptr ∧ T'.er = grow d (kpM K M) ∧ ks' = ks ++ M.map En.k ∧ Out (fun b => b = bc ∨ F b) w w' ∧ Blk w' bc 118 [.int .i64 c] ∧ Seen b11 base F' ks' w' ∧ (∀ b, F' b → F b ∨ w.heap.size ≤ b) ∧ Rob (fun b => X b ∨ b = bc ∨ F' b) (TrA bits T') w'

theorem PrNil_c {X : Nat → Prop} {w : World} {F : Nat → Prop} {bh bc b11 b13 base : Nat} {bits c0 : Int} {sv : Value} {ks : List (List UInt8)} {M K : List En} {d : Nat}  (hX : ∀ b, X b → b < w.heap.size) (ho0 : Blk w bc 118 ([.int .i64 c0])) (hf0 : Rob (fun c => X c ∨ c = bc ∨ F c) (HAt bh bc bits) w) (hf1 : Rob (fun c => X c ∨ c = bc ∨ F c) (TrA bits Tr.nil) w) (hf2 : Rob (fun c => X c ∨ c = bc ∨ F c) (fun w => RdA w ⟨b13, 0, none⟩ [sv]) w) (hf3 : Rob (fun c => X c ∨ c = bc ∨ F c) (SlE sv K) w) (hf4 : Rob (fun c => X c ∨ c = bc ∨ F c) (Rounds) w) (hbits : 0 ≤ bits ∧ bits ≤ 256) (hT : Tr.nil.er = grow d M) (hpm : Pm d M) (hs : Srt M) (hlen : M.length ≤ 1000000) (hJ : Seen b11 base F ks w) (hFb : ¬ F bc) (hkl : KL K) (hkn : K.length ≤ 1000000) (hml : ks.length + M.length ≤ 1000000) :
    Ret Tryd.prog 22 [.pointer (some ⟨bh, 0, none⟩), Tr.nil.ptr, KV b11 b13].toArray w fun r w' => ∃ (T' : Tr) (c : Int) (F' : Nat → Prop) (ks' : List (List UInt8)), r = T'.ptr ∧ T'.er = grow d (kpM K M) ∧ ks' = ks ++ M.map En.k ∧ Out (fun b => b = bc ∨ F b) w w' ∧ Blk w' bc 118 [.int .i64 c] ∧ Seen b11 base F' ks' w' ∧ (∀ b, F' b → F b ∨ w.heap.size ≤ b) ∧ Rob (fun b => X b ∨ b = bc ∨ F' b) (TrA bits T') w' := by
  refine Ret.of_body (N := 46) Tryd.func22 rfl rfl (by simp) ?_
  have H := St.begin3 (F := F) hX ho0 hJ.lt hFb
  replace H := H.add (rob3 hf4)
  replace H := H.add (rob3 hf3)
  replace H := H.add (rob3 hf2)
  replace H := H.add (rob3 hf1)
  replace H := H.add (rob3 hf0)
  obtain rfl : M = [] := (by have h_ := hpm.cnt; rw [← hT] at h_; exact List.eq_nil_of_length_eq_zero h_.symm)
  refine WE.seq_reg ?_
  refine WL.as rfl rfl ?_
  refine WL.nil ?_
  refine WE.seq ?_
  refine WE.seq_reg ?_
  refine WL.mv rfl rfl ?_
  refine WL.call TrydT.fb39 rfl (NKind_c (T := .nil) (bits := bits) H.yylt (by exact H.rob 1 rfl) ) ?_
  rintro _ w1 ⟨rfl, hO⟩
  replace H := H.out hO
  replace hJ := Seen.out hJ hO (fun _ _ h => h.elim)
  refine WL.nil ?_
  refine WE.block ?_
  refine WE.seq_reg ?_
  refine WL.pv (PV.eql rfl rfl rfl) rfl ?_
  refine WL.as rfl rfl ?_
  refine WL.nil ?_
  refine WE.cond_f' rfl rfl ?_
  refine WE.seq_reg ?_
  refine WL.pv (PV.eql rfl rfl rfl) rfl ?_
  refine WL.as rfl rfl ?_
  refine WL.nil ?_
  refine WE.cond_f' rfl rfl ?_
  refine WE.skip ?_
  refine WE.seq_reg ?_
  refine WL.as rfl rfl ?_
  refine WL.nil ?_
  refine WE.ret ?_
  refine ⟨[_], _, .nil _, ⟨rfl, trivial⟩, ?_⟩
  exact ⟨.nil, c0, F, ks, rfl, (grow_nil d).symm, by simp, St.toOut3 H, H.o 0 rfl, hJ, fun b h => .inl h, fun _ _ => trivial⟩

theorem PrLeafYes_c {X : Nat → Prop} {w : World} {F : Nat → Prop} {bh bc b11 b13 base : Nat} {bits c0 : Int} {sv : Value} {ks : List (List UInt8)} {M K : List En} {d : Nat} {a : Nat} {q u : List UInt8} {s : Value} (hX : ∀ b, X b → b < w.heap.size) (ho0 : Blk w bc 118 ([.int .i64 c0])) (hf0 : Rob (fun c => X c ∨ c = bc ∨ F c) (HAt bh bc bits) w) (hf1 : Rob (fun c => X c ∨ c = bc ∨ F c) (TrA bits (Tr.leaf a q u s)) w) (hf2 : Rob (fun c => X c ∨ c = bc ∨ F c) (fun w => RdA w ⟨b13, 0, none⟩ [sv]) w) (hf3 : Rob (fun c => X c ∨ c = bc ∨ F c) (SlE sv K) w) (hf4 : Rob (fun c => X c ∨ c = bc ∨ F c) (Rounds) w) (hbits : 0 ≤ bits ∧ bits ≤ 256) (hT : (Tr.leaf a q u s).er = grow d M) (hpm : Pm d M) (hs : Srt M) (hlen : M.length ≤ 1000000) (hJ : Seen b11 base F ks w) (hFb : ¬ F bc) (hkl : KL K) (hkn : K.length ≤ 1000000) (hml : ks.length + M.length ≤ 1000000) (hh : hasM K q = true) :
    Ret Tryd.prog 22 [.pointer (some ⟨bh, 0, none⟩), (Tr.leaf a q u s).ptr, KV b11 b13].toArray w fun r w' => ∃ (T' : Tr) (c : Int) (F' : Nat → Prop) (ks' : List (List UInt8)), r = T'.ptr ∧ T'.er = grow d (kpM K M) ∧ ks' = ks ++ M.map En.k ∧ Out (fun b => b = bc ∨ F b) w w' ∧ Blk w' bc 118 [.int .i64 c] ∧ Seen b11 base F' ks' w' ∧ (∀ b, F' b → F b ∨ w.heap.size ≤ b) ∧ Rob (fun b => X b ∨ b = bc ∨ F' b) (TrA bits T') w' := by
  refine Ret.of_body (N := 46) Tryd.func22 rfl rfl (by simp) ?_
  have H := St.begin3 (F := F) hX ho0 hJ.lt hFb
  replace H := H.add (rob3 hf4)
  replace H := H.add (rob3 hf3)
  replace H := H.add (rob3 hf2)
  replace H := H.add (rob3 hf1)
  replace H := H.add (rob3 hf0)
  obtain ⟨e, rfl⟩ : ∃ e, M = [e] := by have h_ := hpm.cnt; rw [← hT] at h_; exact List.length_eq_one_iff.1 h_.symm
  rw [grow_one] at hT
  have hqe : q = e.k := by injection hT
  have hvu := valD_length bits u
  have hq : q.length = 32 := by rw [hqe]; exact hpm.kl e (by simp)
  have hml2 : ks.length + 1 ≤ 1000000 := hml
  refine WE.seq_reg ?_
  refine WL.as rfl rfl ?_
  refine WL.nil ?_
  refine WE.seq ?_
  refine WE.seq_reg ?_
  refine WL.mv rfl rfl ?_
  refine WL.call TrydT.fb39 rfl (NKind_c (T := (Tr.leaf a q u s)) (bits := bits) H.yylt (by exact H.rob 1 rfl) ) ?_
  rintro _ w1 ⟨rfl, hO⟩
  replace H := H.out hO
  replace hJ := Seen.out hJ hO (fun _ _ h => h.elim)
  refine WL.nil ?_
  refine WE.block ?_
  refine WE.seq_reg ?_
  refine WL.pv (PV.eql rfl rfl rfl) rfl ?_
  refine WL.as rfl rfl ?_
  refine WL.nil ?_
  refine WE.cond_t' rfl rfl ?_
  refine WE.seq_reg ?_
  refine WL.mv rfl rfl ?_
  refine WL.mv rfl rfl ?_
  refine WL.call TrydT.fb45 rfl (show Ret _ _ _ _ (fun v w' => v = .agg (kc q ++ kc (valD bits u)).toArray ∧ Out Nil _ w') from Leaf2_c (T := (Tr.leaf a q u s)) (bits := bits) H.yylt (H.rob 1 rfl)) ?_
  rintro _ w2 ⟨rfl, hO⟩
  replace H := H.out hO
  replace hJ := Seen.out hJ hO (fun _ _ h => h.elim)
  refine WL.pv (PV.fieldV rfl TrydT.fd81_0 rfl (PartAt.agg TrydT.ag31 (by (rw [TrydT.sz31]; refine congrArg some ?_; (simp only [kc_length, kw_length, List.length_replicate, List.length_append, List.length_cons, List.length_nil, cutI_length, shaOf_length, dig_length, valD_length, rootM_length]; omega))) (Seg.l (Seg.all _)))) rfl ?_
  refine WL.callv TrydT.fb23 rfl rfl (keepS_c (F := F) (sv := sv) (M := K) (k := q) H.yylt hJ (by exact (H.rob 2 rfl : Rob _ (fun w => RdA w ⟨b13, 0, none⟩ [sv]) _).mono fun b _ h => h.elim id fun h => yy3' (.inr (.inr (.inl h)))) (by exact (H.rob 3 rfl : Rob _ (SlE sv K) _).mono fun b _ h => h.elim id fun h => yy3' (.inr (.inr (.inl h)))) hkl hkn hq (by omega)) ?_
  rintro _ w3 ⟨F2, rfl, hO, hJ2, hF2⟩
  have hBk := St.blkS H hO (fun _ h => .inl h)
  replace H := St.calledS H (F1 := F) (F2 := F2) (fun _ h => .inl h) (hO.mono fun _ _ h => .inr h) hBk hF2 hJ2.lt
  rw [hh]
  refine WL.nil ?_
  refine WE.cond_t' rfl rfl ?_
  refine WE.seq_reg ?_
  refine WL.mv rfl rfl ?_
  refine WL.as rfl rfl ?_
  refine WL.nil ?_
  refine WE.ret ?_
  refine ⟨[_], _, .nil _, ⟨rfl, trivial⟩, ?_⟩
  refine ⟨(Tr.leaf a q u s), c0, F2, _, rfl, ?_, ?_, St.toOut3 H, H.o 0 rfl, hJ2, St.new3 H hcS, St.give3 H hcS (H.rob 1 rfl)⟩
  · rw [show kpM K [e] = [e] by simp [kpM, ← hqe, hh], grow_one]; exact hT
  · simp [hqe]

theorem PrLeafNo_c {X : Nat → Prop} {w : World} {F : Nat → Prop} {bh bc b11 b13 base : Nat} {bits c0 : Int} {sv : Value} {ks : List (List UInt8)} {M K : List En} {d : Nat} {a : Nat} {q u : List UInt8} {s : Value} (hX : ∀ b, X b → b < w.heap.size) (ho0 : Blk w bc 118 ([.int .i64 c0])) (hf0 : Rob (fun c => X c ∨ c = bc ∨ F c) (HAt bh bc bits) w) (hf1 : Rob (fun c => X c ∨ c = bc ∨ F c) (TrA bits (Tr.leaf a q u s)) w) (hf2 : Rob (fun c => X c ∨ c = bc ∨ F c) (fun w => RdA w ⟨b13, 0, none⟩ [sv]) w) (hf3 : Rob (fun c => X c ∨ c = bc ∨ F c) (SlE sv K) w) (hf4 : Rob (fun c => X c ∨ c = bc ∨ F c) (Rounds) w) (hbits : 0 ≤ bits ∧ bits ≤ 256) (hT : (Tr.leaf a q u s).er = grow d M) (hpm : Pm d M) (hs : Srt M) (hlen : M.length ≤ 1000000) (hJ : Seen b11 base F ks w) (hFb : ¬ F bc) (hkl : KL K) (hkn : K.length ≤ 1000000) (hml : ks.length + M.length ≤ 1000000) (hh : hasM K q = false) :
    Ret Tryd.prog 22 [.pointer (some ⟨bh, 0, none⟩), (Tr.leaf a q u s).ptr, KV b11 b13].toArray w fun r w' => ∃ (T' : Tr) (c : Int) (F' : Nat → Prop) (ks' : List (List UInt8)), r = T'.ptr ∧ T'.er = grow d (kpM K M) ∧ ks' = ks ++ M.map En.k ∧ Out (fun b => b = bc ∨ F b) w w' ∧ Blk w' bc 118 [.int .i64 c] ∧ Seen b11 base F' ks' w' ∧ (∀ b, F' b → F b ∨ w.heap.size ≤ b) ∧ Rob (fun b => X b ∨ b = bc ∨ F' b) (TrA bits T') w' := by
  refine Ret.of_body (N := 46) Tryd.func22 rfl rfl (by simp) ?_
  have H := St.begin3 (F := F) hX ho0 hJ.lt hFb
  replace H := H.add (rob3 hf4)
  replace H := H.add (rob3 hf3)
  replace H := H.add (rob3 hf2)
  replace H := H.add (rob3 hf1)
  replace H := H.add (rob3 hf0)
  obtain ⟨e, rfl⟩ : ∃ e, M = [e] := by have h_ := hpm.cnt; rw [← hT] at h_; exact List.length_eq_one_iff.1 h_.symm
  rw [grow_one] at hT
  have hqe : q = e.k := by injection hT
  have hvu := valD_length bits u
  have hq : q.length = 32 := by rw [hqe]; exact hpm.kl e (by simp)
  have hml2 : ks.length + 1 ≤ 1000000 := hml
  refine WE.seq_reg ?_
  refine WL.as rfl rfl ?_
  refine WL.nil ?_
  refine WE.seq ?_
  refine WE.seq_reg ?_
  refine WL.mv rfl rfl ?_
  refine WL.call TrydT.fb39 rfl (NKind_c (T := (Tr.leaf a q u s)) (bits := bits) H.yylt (by exact H.rob 1 rfl) ) ?_
  rintro _ w1 ⟨rfl, hO⟩
  replace H := H.out hO
  replace hJ := Seen.out hJ hO (fun _ _ h => h.elim)
  refine WL.nil ?_
  refine WE.block ?_
  refine WE.seq_reg ?_
  refine WL.pv (PV.eql rfl rfl rfl) rfl ?_
  refine WL.as rfl rfl ?_
  refine WL.nil ?_
  refine WE.cond_t' rfl rfl ?_
  refine WE.seq_reg ?_
  refine WL.mv rfl rfl ?_
  refine WL.mv rfl rfl ?_
  refine WL.call TrydT.fb45 rfl (show Ret _ _ _ _ (fun v w' => v = .agg (kc q ++ kc (valD bits u)).toArray ∧ Out Nil _ w') from Leaf2_c (T := (Tr.leaf a q u s)) (bits := bits) H.yylt (H.rob 1 rfl)) ?_
  rintro _ w2 ⟨rfl, hO⟩
  replace H := H.out hO
  replace hJ := Seen.out hJ hO (fun _ _ h => h.elim)
  refine WL.pv (PV.fieldV rfl TrydT.fd81_0 rfl (PartAt.agg TrydT.ag31 (by (rw [TrydT.sz31]; refine congrArg some ?_; (simp only [kc_length, kw_length, List.length_replicate, List.length_append, List.length_cons, List.length_nil, cutI_length, shaOf_length, dig_length, valD_length, rootM_length]; omega))) (Seg.l (Seg.all _)))) rfl ?_
  refine WL.callv TrydT.fb23 rfl rfl (keepS_c (F := F) (sv := sv) (M := K) (k := q) H.yylt hJ (by exact (H.rob 2 rfl : Rob _ (fun w => RdA w ⟨b13, 0, none⟩ [sv]) _).mono fun b _ h => h.elim id fun h => yy3' (.inr (.inr (.inl h)))) (by exact (H.rob 3 rfl : Rob _ (SlE sv K) _).mono fun b _ h => h.elim id fun h => yy3' (.inr (.inr (.inl h)))) hkl hkn hq (by omega)) ?_
  rintro _ w3 ⟨F2, rfl, hO, hJ2, hF2⟩
  have hBk := St.blkS H hO (fun _ h => .inl h)
  replace H := St.calledS H (F1 := F) (F2 := F2) (fun _ h => .inl h) (hO.mono fun _ _ h => .inr h) hBk hF2 hJ2.lt
  rw [hh]
  refine WL.nil ?_
  refine WE.cond_f' rfl rfl ?_
  refine WE.skip ?_
  refine WE.seq_reg ?_
  refine WL.as rfl rfl ?_
  refine WL.nil ?_
  refine WE.ret ?_
  refine ⟨[_], _, .nil _, ⟨rfl, trivial⟩, ?_⟩
  refine ⟨.nil, c0, F2, _, rfl, ?_, ?_, St.toOut3 H, H.o 0 rfl, hJ2, St.new3 H hcS, fun _ _ => trivial⟩
  · rw [show kpM K [e] = [] by simp [kpM, ← hqe, hh], grow_nil]; rfl
  · simp [hqe]

theorem PrInner_s {X : Nat → Prop} {w : World} {F : Nat → Prop} {bh bc b11 b13 base : Nat} {bits c0 : Int} {sv : Value} {ks : List (List UInt8)} {M K : List En} {d : Nat} {a : Nat} {l r : Tr} (hX : ∀ b, X b → b < w.heap.size) (ho0 : Blk w bc 118 ([.int .i64 c0])) (hf0 : Rob (fun c => X c ∨ c = bc ∨ F c) (HAt bh bc bits) w) (hf1 : Rob (fun c => X c ∨ c = bc ∨ F c) (TrA bits (Tr.inner a l r)) w) (hf2 : Rob (fun c => X c ∨ c = bc ∨ F c) (fun w => RdA w ⟨b13, 0, none⟩ [sv]) w) (hf3 : Rob (fun c => X c ∨ c = bc ∨ F c) (SlE sv K) w) (hf4 : Rob (fun c => X c ∨ c = bc ∨ F c) (Rounds) w) (hbits : 0 ≤ bits ∧ bits ≤ 256) (hT : (Tr.inner a l r).er = grow d M) (hpm : Pm d M) (hs : Srt M) (hlen : M.length ≤ 1000000) (hJ : Seen b11 base F ks w) (hFb : ¬ F bc) (hkl : KL K) (hkn : K.length ≤ 1000000) (hml : ks.length + M.length ≤ 1000000) (ihl : PrOK l) (ihr : PrOK r) :
    Ret Tryd.prog 22 [.pointer (some ⟨bh, 0, none⟩), (Tr.inner a l r).ptr, KV b11 b13].toArray w fun r w' => ∃ (T' : Tr) (c : Int) (F' : Nat → Prop) (ks' : List (List UInt8)), r = T'.ptr ∧ T'.er = grow d (kpM K M) ∧ ks' = ks ++ M.map En.k ∧ Out (fun b => b = bc ∨ F b) w w' ∧ Blk w' bc 118 [.int .i64 c] ∧ Seen b11 base F' ks' w' ∧ (∀ b, F' b → F b ∨ w.heap.size ≤ b) ∧ Rob (fun b => X b ∨ b = bc ∨ F' b) (TrA bits T') w' := by
  refine Ret.of_body (N := 46) Tryd.func22 rfl rfl (by simp) ?_
  have H := St.begin3 (F := F) hX ho0 hJ.lt hFb
  replace H := H.add (rob3 hf4)
  replace H := H.add (rob3 hf3)
  replace H := H.add (rob3 hf2)
  replace H := H.add (rob3 hf1)
  replace H := H.add (rob3 hf0)
  have h2m : 2 ≤ M.length := (grow_kind hpm).1 (by rw [← hT]; rfl)
  have hd := hpm.lt h2m
  have hT2_ := hT
  rw [grow_many d M hd h2m] at hT2_
  have hleft : l.er = grow (d + 1) (partM M d 0) := by injection hT2_
  have hright : r.er = grow (d + 1) (partM M d 1) := by injection hT2_
  have hpl := part_len M d
  refine WE.seq_reg ?_
  refine WL.as rfl rfl ?_
  refine WL.nil ?_
  refine WE.seq ?_
  refine WE.seq_reg ?_
  refine WL.mv rfl rfl ?_
  refine WL.call TrydT.fb39 rfl (NKind_c (T := (Tr.inner a l r)) (bits := bits) H.yylt (by exact H.rob 1 rfl) ) ?_
  rintro _ w1 ⟨rfl, hO⟩
  replace H := H.out hO
  replace hJ := Seen.out hJ hO (fun _ _ h => h.elim)
  refine WL.nil ?_
  refine WE.block ?_
  refine WE.seq_reg ?_
  refine WL.pv (PV.eql rfl rfl rfl) rfl ?_
  refine WL.as rfl rfl ?_
  refine WL.nil ?_
  refine WE.cond_f' rfl rfl ?_
  refine WE.seq_reg ?_
  refine WL.pv (PV.eql rfl rfl rfl) rfl ?_
  refine WL.as rfl rfl ?_
  refine WL.nil ?_
  refine WE.cond_t' rfl rfl ?_
  refine WE.seq_reg ?_
  refine WL.mv rfl rfl ?_
  refine WL.mv rfl rfl ?_
  refine WL.call TrydT.fb41 rfl (Left_c (T := (Tr.inner a l r)) (bits := bits) H.yylt (by exact H.rob 1 rfl) ) ?_
  rintro _ w2 ⟨rfl, hO⟩
  replace H := H.out hO
  replace hJ := Seen.out hJ hO (fun _ _ h => h.elim)
  refine WL.mv rfl rfl ?_
  refine WL.call TrydT.fb22 rfl (ihl (F := F) (M := partM M d 0) (K := K) (sv := sv) (ks := ks) (d := d + 1) (bits := bits) H.yylt (H.o 0 rfl) (by exact St.robS H (F1 := F) (fun _ h => .inl h) 0 rfl) (by exact (St.robS H (F1 := F) (fun _ h => .inl h) 1 rfl : Rob _ (TrA bits (Tr.inner a l r)) _).imp fun _ h => TrA.left h) (by exact St.robS H (F1 := F) (fun _ h => .inl h) 2 rfl) (by exact St.robS H (F1 := F) (fun _ h => .inl h) 3 rfl) (by exact St.robS H (F1 := F) (fun _ h => .inl h) 4 rfl) hbits hleft (hpm.part hd 0) (hs.filter _) (by omega) hJ hFb hkl hkn (by omega)) ?_
  rintro _ w3 ⟨T1, c1, F1, ks1, rfl, hT1, hk1, hO1, hB1, hJ1, hF1, hR1⟩
  replace H := (St.calledS H (F1 := F) (F2 := F1) (fun _ h => .inl h) hO1 hB1 hF1 hJ1.lt).add (robA hR1)
  refine WL.as rfl rfl ?_
  refine WL.nil ?_
  refine WE.seq_reg ?_
  refine WL.mv rfl rfl ?_
  refine WL.mv rfl rfl ?_
  refine WL.call TrydT.fb43 rfl (Right2_c (T := (Tr.inner a l r)) (bits := bits) H.yylt (by exact H.rob 2 rfl) ) ?_
  rintro _ w4 ⟨rfl, hO⟩
  replace H := H.out hO
  replace hJ1 := Seen.out hJ1 hO (fun _ _ h => h.elim)
  refine WL.mv rfl rfl ?_
  refine WL.call TrydT.fb22 rfl (ihr (F := F1) (M := partM M d 1) (K := K) (sv := sv) (ks := ks1) (d := d + 1) (bits := bits) H.yylt (H.o 0 rfl) (by exact St.robS H hcS 1 rfl) (by exact (St.robS H hcS 2 rfl : Rob _ (TrA bits (Tr.inner a l r)) _).imp fun _ h => TrA.right h) (by exact St.robS H hcS 3 rfl) (by exact St.robS H hcS 4 rfl) (by exact St.robS H hcS 5 rfl) hbits hright (hpm.part hd 1) (hs.filter _) (by omega) hJ1 (fun h => St.notbc H hcS _ h rfl) hkl hkn (by rw [hk1, List.length_append, List.length_map]; omega)) ?_
  rintro _ w5 ⟨T2, c2, F2, ks2, rfl, hT2, hk2, hO2, hB2, hJ2, hF2, hR2⟩
  replace H := (St.calledS H (F1 := F1) (F2 := F2) hcS hO2 hB2 hF2 hJ2.lt).add (robA hR2)
  refine WL.as rfl rfl ?_
  refine WL.nil ?_
  refine WE.seq ?_
  refine WE.seq_reg ?_
  refine WL.mv rfl rfl ?_
  refine WL.mv rfl rfl ?_
  refine WL.call TrydT.fb41 rfl (Left_c (T := (Tr.inner a l r)) (bits := bits) H.yylt (by exact H.rob 3 rfl) ) ?_
  rintro _ w6 ⟨rfl, hO⟩
  replace H := H.out hO
  replace hJ2 := Seen.out hJ2 hO (fun _ _ h => h.elim)
  refine WL.eqlT (T := T1) (S := l) (bits := bits) rfl (by exact (H.p 1 rfl : TrA bits T1 _)) (by exact TrA.left (H.p 3 rfl : TrA bits (Tr.inner a l r) _)) rfl rfl rfl rfl ?_
  refine WL.mv rfl rfl ?_
  refine WL.split (t := 35) rfl (fun hg35 => ?_) (fun hg35 => ?_)
  · skip
    refine WL.known (t := 34) (c := true) rfl hg35 ?_
    try simp only [decide_eq_true_eq, decide_eq_false_iff_not, ne_eq, Decidable.not_not, Bool.not_eq_true', Bool.not_eq_false', Bool.and_eq_true, Bool.or_eq_true, Bool.not_not, Bool.and_eq_false_iff, Bool.or_eq_false_iff, Int.not_lt, Int.not_le] at hg35
    have he1 : T1.er = l.er := TrA.inj (by exact (H.p 1 rfl : TrA bits T1 _)) (by exact TrA.left (H.p 3 rfl : TrA bits (Tr.inner a l r) _)) (by exact hg35)
    refine WL.mv rfl rfl ?_
    refine WL.mv rfl rfl ?_
    refine WL.call TrydT.fb43 rfl (Right2_c (T := (Tr.inner a l r)) (bits := bits) H.yylt (by exact H.rob 3 rfl) ) ?_
    rintro _ w8 ⟨rfl, hO⟩
    replace H := H.out hO
    replace hJ2 := Seen.out hJ2 hO (fun _ _ h => h.elim)
    refine WL.eqlT (T := T2) (S := r) (bits := bits) rfl (by exact (H.p 0 rfl : TrA bits T2 _)) (by exact TrA.right (H.p 3 rfl : TrA bits (Tr.inner a l r) _)) rfl rfl rfl rfl ?_
    refine WL.pv (PV.pick_t rfl rfl rfl) rfl ?_
    refine WL.nil ?_
    refine WE.cond rfl (fun hc40 => ?_) (fun hc40 => ?_)
    · skip
      try simp only [decide_eq_true_eq, decide_eq_false_iff_not, ne_eq, Decidable.not_not, Bool.not_eq_true', Bool.not_eq_false', Bool.and_eq_true, Bool.or_eq_true, Bool.not_not, Bool.and_eq_false_iff, Bool.or_eq_false_iff, Int.not_lt, Int.not_le] at hc40
      have he2 : T2.er = r.er := TrA.inj (by exact (H.p 0 rfl : TrA bits T2 _)) (by exact TrA.right (H.p 3 rfl : TrA bits (Tr.inner a l r) _)) (by exact hc40)
      refine WE.seq_reg ?_
      refine WL.mv rfl rfl ?_
      refine WL.as rfl rfl ?_
      refine WL.nil ?_
      refine WE.ret ?_
      refine ⟨[_], _, .nil _, ⟨rfl, trivial⟩, ?_⟩
      refine ⟨(Tr.inner a l r), c2, F2, _, rfl, ?_, (by rw [hk2, hk1, List.append_assoc, ← List.map_append, ← part_split hpm hs hd]), St.toOut3 H, H.o 0 rfl, hJ2, St.new3 H hcS, St.give3 H hcS (by exact (H.rob 3 rfl : Rob _ (TrA bits (Tr.inner a l r)) _))⟩
      rw [hT, ← joinS_grow hpm hd, ← hleft, ← hright, ← he1, ← he2, hT1, hT2]
      exact kp_join hpm hd
    · skip
      try simp only [decide_eq_true_eq, decide_eq_false_iff_not, ne_eq, Decidable.not_not, Bool.not_eq_true', Bool.not_eq_false', Bool.and_eq_true, Bool.or_eq_true, Bool.not_not, Bool.and_eq_false_iff, Bool.or_eq_false_iff, Int.not_lt, Int.not_le] at hc40
      refine WE.skip ?_
      refine WE.seq_reg ?_
      refine WL.mv rfl rfl ?_
      refine WL.mv rfl rfl ?_
      refine WL.mv rfl rfl ?_
      refine WL.call TrydT.fb49 rfl (Join_c (l := T1) (r := T2) (bits := bits) H.yylt (H.o 0 rfl) (by exact H.robOld 0 rfl 2 rfl) (by exact H.robOld 0 rfl 1 rfl) (by exact H.robOld 0 rfl 0 rfl) (by exact H.robOld 0 rfl 6 rfl) hbits (by rw [hT1, hT2, (kp_pm (hpm.part hd 0)).cnt, (kp_pm (hpm.part hd 1)).cnt]; have h1 := kp_len K (partM M d 0); have h2 := kp_len K (partM M d 1); omega)) ?_
      rintro _ w10 ⟨Tv45, mv45, rfl, hTv45, hO, hB, hR⟩
      replace hJ2 := Seen.out hJ2 hO (St.notbc H hcS)
      replace H := H.calledOR 0 rfl hO hB hR
      refine WL.as rfl rfl ?_
      refine WL.nil ?_
      refine WE.ret ?_
      refine ⟨[_], _, .nil _, ⟨rfl, trivial⟩, ?_⟩
      refine ⟨Tv45, _, F2, _, rfl, ?_, (by rw [hk2, hk1, List.append_assoc, ← List.map_append, ← part_split hpm hs hd]), St.toOut3 H, H.o 0 rfl, hJ2, St.new3 H hcS, St.give3 H hcS (H.rob 0 rfl)⟩
      rw [hTv45, hT1, hT2]
      exact kp_join hpm hd
  · skip
    refine WL.known (t := 34) (c := false) rfl hg35 ?_
    try simp only [decide_eq_true_eq, decide_eq_false_iff_not, ne_eq, Decidable.not_not, Bool.not_eq_true', Bool.not_eq_false', Bool.and_eq_true, Bool.or_eq_true, Bool.not_not, Bool.and_eq_false_iff, Bool.or_eq_false_iff, Int.not_lt, Int.not_le] at hg35
    refine WL.off rfl ?_
    refine WL.off rfl ?_
    refine WL.off rfl ?_
    refine WL.off rfl ?_
    refine WL.pv (PV.pick_f rfl rfl rfl) rfl ?_
    refine WL.nil ?_
    refine WE.cond_f rfl ?_
    refine WE.skip ?_
    refine WE.seq_reg ?_
    refine WL.mv rfl rfl ?_
    refine WL.mv rfl rfl ?_
    refine WL.mv rfl rfl ?_
    refine WL.call TrydT.fb49 rfl (Join_c (l := T1) (r := T2) (bits := bits) H.yylt (H.o 0 rfl) (by exact H.robOld 0 rfl 2 rfl) (by exact H.robOld 0 rfl 1 rfl) (by exact H.robOld 0 rfl 0 rfl) (by exact H.robOld 0 rfl 6 rfl) hbits (by rw [hT1, hT2, (kp_pm (hpm.part hd 0)).cnt, (kp_pm (hpm.part hd 1)).cnt]; have h1 := kp_len K (partM M d 0); have h2 := kp_len K (partM M d 1); omega)) ?_
    rintro _ w11 ⟨Tv45, mv45, rfl, hTv45, hO, hB, hR⟩
    replace hJ2 := Seen.out hJ2 hO (St.notbc H hcS)
    replace H := H.calledOR 0 rfl hO hB hR
    refine WL.as rfl rfl ?_
    refine WL.nil ?_
    refine WE.ret ?_
    refine ⟨[_], _, .nil _, ⟨rfl, trivial⟩, ?_⟩
    refine ⟨Tv45, _, F2, _, rfl, ?_, (by rw [hk2, hk1, List.append_assoc, ← List.map_append, ← part_split hpm hs hd]), St.toOut3 H, H.o 0 rfl, hJ2, St.new3 H hcS, St.give3 H hcS (H.rob 0 rfl)⟩
    rw [hTv45, hT1, hT2]
    exact kp_join hpm hd

end Go.Sp.Tryd

set_option maxRecDepth 100000
set_option maxHeartbeats 1000000
set_option linter.unusedVariables false
set_option linter.unusedSimpArgs false
namespace Go.Sp.Tryd
open Go.Proofs Go.RowKit Go.Sp

theorem Pr_ok : ∀ T : Tr, PrOK T
  | .nil => fun hX ho h0 h1 h2 h3 h4 hb hT hp hs hl hJ hF hkl hkn hm => PrNil_c hX ho h0 h1 h2 h3 h4 hb hT hp hs hl hJ hF hkl hkn hm
  | .leaf a q u s => fun hX ho h0 h1 h2 h3 h4 hb hT hp hs hl hJ hF hkl hkn hm => (Classical.em (hasM _ q = true)).elim (fun hh => PrLeafYes_c hX ho h0 h1 h2 h3 h4 hb hT hp hs hl hJ hF hkl hkn hm hh) (fun hh => PrLeafNo_c hX ho h0 h1 h2 h3 h4 hb hT hp hs hl hJ hF hkl hkn hm (by simpa using hh))
  | .inner a l r => fun hX ho h0 h1 h2 h3 h4 hb hT hp hs hl hJ hF hkl hkn hm => PrInner_s hX ho h0 h1 h2 h3 h4 hb hT hp hs hl hJ hF hkl hkn hm (Pr_ok l) (Pr_ok r)
def Ent.seen (b11 base : Nat) (F : Nat → Prop) (ks : List (List UInt8)) : Ent where
  fp := F
  ok := Seen b11 base F ks
  loc := fun w w' h hb => {
    row := by
      obtain ⟨sk, h1, h2, h3, h4⟩ := hb.row
      exact ⟨sk, (Ent.blk b11 53 [sk]).loc w w' (fun b e => h b (by obtain rfl := e; exact hb.cell)) h1, (Ent.osl base sk 31 32 ks.length (ks.flatMap kc)).loc w w' (fun b e => h b (h4 _ e)) h2, h3, h4⟩
    cell := hb.cell
    base_le := hb.base_le
    lt := fun b e => by
      have h1 := hb.lt b e
      have h2 := h b e
      rw [Array.getElem?_eq_getElem h1] at h2
      exact (Array.getElem?_eq_some_iff.1 h2).1 }
  lt := fun _ h b hb => h.lt b hb
theorem St.callP {X : Nat → Prop} {w0 w w' : World} {O L : List Ent} {Ps : List (World → Prop)} {e1 e2 : Ent} (H : St X w0 w O (e1 :: e2 :: L) Ps) (h : Out (fun b => e1.fp b ∨ e2.fp b) w w') (e1' e2' : Ent) (h1 : e1'.ok w') (h2 : e2'.ok w') (hf1 : ∀ b, e1'.fp b → e1.fp b) (hf2 : ∀ b, e2'.fp b → e2.fp b ∨ w.heap.size ≤ b) :
    St X w0 w' O (e1' :: e2' :: L) Ps :=
  have hd := List.pairwise_cons.1 H.disL
  have hd2 := List.pairwise_cons.1 hd.2
  have hge : ∀ b, e1.fp b ∨ e2.fp b → w0.heap.size ≤ b := fun b hb => hb.elim (fun h => H.geL e1 List.mem_cons_self b h) (fun h => H.geL e2 (List.mem_cons_of_mem _ List.mem_cons_self) b h)
  have hL : ∀ x ∈ L, x ∈ e1 :: e2 :: L := fun x hx => List.mem_cons_of_mem _ (List.mem_cons_of_mem _ hx)
  { os := h.os.trans H.os
    tape := h.tape.trans H.tape
    output := h.output.trans H.output
    size := Nat.le_trans H.size h.size
    old := fun b hb hn => (h.block b (Nat.lt_of_lt_of_le hb H.size) fun hm => by have := hge b hm; omega).trans (H.old b hb hn)
    okO := fun x hx => x.loc w w' (fun b hb => h.block b (x.lt w (H.okO x hx) b hb) fun hm => by
      have := hge b hm
      have := H.ltO x hx b hb
      omega) (H.okO x hx)
    okL := fun x hx => by
      rcases List.mem_cons.1 hx with rfl | hx
      · exact h1
      · rcases List.mem_cons.1 hx with rfl | hx
        · exact h2
        · refine x.loc w w' (fun b hb => h.block b (H.ltL x (hL x hx) b hb) fun hm => ?_) (H.okL x (hL x hx))
          rcases hm with hm | hm
          · exact hd.1 x (List.mem_cons_of_mem _ hx) b ⟨hm, hb⟩
          · exact hd2.1 x hx b ⟨hm, hb⟩
    ltO := H.ltO
    geL := fun x hx b hb => by
      rcases List.mem_cons.1 hx with rfl | hx
      · exact hge b (.inl (hf1 b hb))
      · rcases List.mem_cons.1 hx with rfl | hx
        · rcases hf2 b hb with h' | h'
          · exact hge b (.inr h')
          · exact Nat.le_trans H.size h'
        · exact H.geL x (hL x hx) b hb
    disO := H.disO
    disL := List.pairwise_cons.2 ⟨(fun x hx b hb => by
        have hb1 := hf1 b hb.1
        rcases List.mem_cons.1 hx with rfl | hx
        · rcases hf2 b hb.2 with h' | h'
          · exact hd.1 e2 List.mem_cons_self b ⟨hb1, h'⟩
          · have := H.ltL e1 List.mem_cons_self b hb1
            omega
        · exact hd.1 x (List.mem_cons_of_mem _ hx) b ⟨hb1, hb.2⟩), List.pairwise_cons.2 ⟨(fun x hx b hb => by
        rcases hf2 b hb.1 with h' | h'
        · exact hd2.1 x hx b ⟨h', hb.2⟩
        · have := H.ltL x (hL x hx) b hb.2
          omega), hd2.2⟩⟩
    xlt := H.xlt
    pers := fun p hp => (H.pers p hp).out h (fun b _ hm => .inr (.inr (hm.elim (fun h => ⟨e1, List.mem_cons_self, h⟩) fun h => ⟨e2, List.mem_cons_of_mem _ List.mem_cons_self, h⟩))) (fun b hb hx => by
      rcases hx with hx | hx | ⟨x, hx, hb'⟩
      · exact .inl hx
      · exact .inr (.inl hx)
      · rcases List.mem_cons.1 hx with rfl | hx
        · exact .inr (.inr ⟨e1, List.mem_cons_self, hf1 b hb'⟩)
        · rcases List.mem_cons.1 hx with rfl | hx
          · rcases hf2 b hb' with h' | h'
            · exact .inr (.inr ⟨e2, List.mem_cons_of_mem _ List.mem_cons_self, h'⟩)
            · omega
          · exact .inr (.inr ⟨x, hL x hx, hb'⟩)) }
def kpI (c : Nat → Bool) (m : List En) : Nat → List En
  | 0 => []
  | j + 1 => kpI c m j ++ (if c j then (m[j]?).toList else [])
theorem kpI_mem {c : Nat → Bool} {m : List En} : ∀ {j : Nat} {e : En}, e ∈ kpI c m j → ∃ i, i < j ∧ ∃ h : i < m.length, m[i] = e ∧ c i = true
  | 0, _, h => by cases h
  | j + 1, e, h => by
    rcases List.mem_append.1 h with h | h
    · obtain ⟨i, h1, h2⟩ := kpI_mem h
      exact ⟨i, by omega, h2⟩
    · split at h
      · rename_i hc
        have h1 : m[j]? = some e := by simpa using h
        obtain ⟨h2, h3⟩ := List.getElem?_eq_some_iff.1 h1
        exact ⟨j, by omega, h2, h3, hc⟩
      · cases h

theorem EqK_c {X : Nat → Prop} {w : World} {s1 s2 : Value} {ks : List (List UInt8)} (hX : ∀ b, X b → b < w.heap.size) (hf0 : Rob X (SlK s1 ks) w) (hf1 : Rob X (SlK s2 ks) w) (hkl : K32 ks) (hlen : ks.length ≤ 1000000) :
    Ret Tryd.prog 25 [s1, s2].toArray w fun v w' => v = .bool true ∧ Out Nil w w' := by
  refine Ret.of_body (N := 26) Tryd.func25 rfl rfl (by simp) ?_
  have H := St.begin hX
  replace H := H.add (rob0 hf1)
  replace H := H.add (rob0 hf0)
  refine WE.seq_reg ?_
  refine WL.as rfl rfl ?_
  refine WL.nil ?_
  refine WE.seq ?_
  refine WE.seq_reg ?_
  refine WL.mv rfl rfl ?_
  refine WL.pv (PV.lenS (by exact (H.p 0 rfl : SlK s1 ks _)) TrydT.sl53 rfl) rfl ?_
  refine WL.mv rfl rfl ?_
  refine WL.pv (PV.lenS (by exact (H.p 1 rfl : SlK s2 ks _)) TrydT.sl53 rfl) rfl ?_
  refine WL.pv (PV.neq rfl rfl rfl) rfl ?_
  refine WL.nil ?_
  refine WE.cond_f' rfl (by simp) ?_
  refine WE.skip ?_
  refine WE.seq ?_
  refine WE.seq_reg ?_
  refine WL.mv rfl rfl ?_
  refine WL.pv (PV.lenS (by exact (H.p 0 rfl : SlK s1 ks _)) TrydT.sl53 rfl) rfl ?_
  refine WL.mv rfl rfl ?_
  refine WL.nil ?_
  refine WE.block ?_
  refine WE.loop (α := Nat) [4, 5, 13, 14, 15, 16, 17, 18, 19, 20, 21, 22, 23, 24, 25] (fun i => [(13, .int .i64 i)]) (fun i wl => i ≤ ks.length ∧ St X w wl [] [] [SlK s1 ks, SlK s2 ks]) (fun i => ks.length - i) 0 ⟨rfl, trivial⟩ ⟨Nat.zero_le _, H⟩ ?_
  intro i γ0 w1 hI
  try dsimp only at hI
  obtain ⟨hi, H⟩ := hI
  refine WE.seq_reg ?_
  refine WL.pv (PV.lss rfl rfl rfl) rfl ?_
  refine WL.nil ?_
  refine WE.seq ?_
  refine WE.cond rfl (fun hc14 => ?_) (fun hc14 => ?_)
  · skip
    try simp only [decide_eq_true_eq, decide_eq_false_iff_not, ne_eq, Decidable.not_not, Bool.not_eq_true', Bool.not_eq_false', Bool.and_eq_true, Bool.or_eq_true, Bool.not_not, Bool.and_eq_false_iff, Bool.or_eq_false_iff, Int.not_lt, Int.not_le] at hc14
    have hlt : i < ks.length := by omega
    have hke := hkl _ (List.getElem_mem hlt)
    refine WE.skip ?_
    refine WE.seq ?_
    refine WE.block ?_
    refine WE.seq_reg ?_
    refine WL.mv rfl rfl ?_
    refine WL.as rfl rfl ?_
    refine WL.nil ?_
    refine WE.seq_draw (.take 0 (.take 1 (.take 2 (.take 3 (.take 4 (.take 5 (.take 6 (.take 7 (.take 8 .done))))))))) TrydT.mixed (by kernel_rfl) ?_
    replace H := H.out (Out.drew _)
    refine WP.mv rfl rfl rfl ?_
    refine WP.mv rfl rfl rfl ?_
    refine WP.take_pure rfl rfl (PV.idxS rfl (by exact (H.p 0 rfl : SlK s1 ks _)) TrydT.sl53 TrydT.sz31 rfl rfl (by omega) (by omega)) ?_
    refine WP.readA rfl rfl rfl TrydT.ag31 rfl (SlK.rd (by exact (H.p 0 rfl : SlK s1 ks _)) hkl i hlt) (by (rw [TrydT.sz31]; refine congrArg some ?_; (simp only [kc_length, kw_length, List.length_replicate, List.length_append, List.length_cons, List.length_nil, cutI_length, shaOf_length, dig_length, valD_length, rootM_length]; omega))) ?_
    refine WP.mv rfl rfl rfl ?_
    refine WP.mv rfl rfl rfl ?_
    refine WP.take_pure rfl rfl (PV.idxS rfl (by exact (H.p 1 rfl : SlK s2 ks _)) TrydT.sl53 TrydT.sz31 rfl rfl (by omega) (by omega)) ?_
    refine WP.readA rfl rfl rfl TrydT.ag31 rfl (SlK.rd (by exact (H.p 1 rfl : SlK s2 ks _)) hkl i hlt) (by (rw [TrydT.sz31]; refine congrArg some ?_; (simp only [kc_length, kw_length, List.length_replicate, List.length_append, List.length_cons, List.length_nil, cutI_length, shaOf_length, dig_length, valD_length, rootM_length]; omega))) ?_
    refine WP.take_pure rfl rfl (PV.neqB rfl TrydT.ar31 TrydT.in5 TrydT.sz5 (by kernel_rfl) rfl rfl (by assumption) (by assumption)) ?_
    refine WP.done ?_
    refine WE.cond_f' rfl (by simp) ?_
    refine WE.skip ?_
    refine WE.reg ?_
    refine WL.pv (PV.add64 rfl rfl rfl (by omega) (by omega)) rfl ?_
    refine WL.mv rfl rfl ?_
    refine WL.nil ?_
    exact ⟨i + 1, (by repeat (first | with_reducible exact Off.refl _ _ | refine Off.upd rfl ?_ | refine Off.setAll rfl ?_ | refine Off.forget' rfl ?_)), ⟨rfl, trivial⟩, rfl, ⟨by omega, H⟩, (by omega)⟩
  · skip
    try simp only [decide_eq_true_eq, decide_eq_false_iff_not, ne_eq, Decidable.not_not, Bool.not_eq_true', Bool.not_eq_false', Bool.and_eq_true, Bool.or_eq_true, Bool.not_not, Bool.and_eq_false_iff, Bool.or_eq_false_iff, Int.not_lt, Int.not_le] at hc14
    refine WE.exit ?_
    refine WE.seq_reg ?_
    refine WL.as rfl rfl ?_
    refine WL.nil ?_
    refine WE.ret ?_
    refine ⟨[_], _, .nil _, ⟨rfl, trivial⟩, ?_⟩
    refine ⟨?_, H.toOut0⟩
    rfl

end Go.Sp.Tryd

set_option maxRecDepth 100000
set_option maxHeartbeats 1000000
set_option linter.unusedVariables false
set_option linter.unusedSimpArgs false
namespace Go.Sp.Tryd
open Go.Proofs Go.RowKit Go.Sp

def bitC (z : Int) (j : Nat) : Bool := decide (IntKind.u16.wrap ((BitVec.ofInt IntKind.u16.bits (z.fdiv (2 ^ (min ((j : Int) % 16).toNat IntKind.u16.bits))) &&& BitVec.ofInt IntKind.u16.bits 1).toNat : Nat) = 1)
theorem kpI_len (c : Nat → Bool) (m : List En) : ∀ j, (kpI c m j).length ≤ j
  | 0 => Nat.le_refl _
  | j + 1 => by
    have := kpI_len c m j
    show (kpI c m j ++ _).length ≤ _
    rw [List.length_append]
    split
    · cases m[j]? <;> simp <;> omega
    · simp; omega
theorem kpI_sub {c : Nat → Bool} {m : List En} {j : Nat} {e : En} (h : e ∈ kpI c m j) : e ∈ m := by
  obtain ⟨i, _, h1, rfl, _⟩ := kpI_mem h
  exact List.getElem_mem h1
theorem kpI_t {c : Nat → Bool} {m : List En} {j : Nat} (h : j < m.length) (hc : c j = true) : kpI c m (j + 1) = kpI c m j ++ [m[j]] := by
  show kpI c m j ++ _ = _
  rw [if_pos hc, List.getElem?_eq_getElem h]; rfl
theorem kpI_f {c : Nat → Bool} {m : List En} {j : Nat} (hc : c j = false) : kpI c m (j + 1) = kpI c m j := by
  show kpI c m j ++ _ = _
  rw [if_neg (by rw [hc]; simp), List.append_nil]
theorem kpI_has {c : Nat → Bool} {m : List En} : ∀ {n i : Nat} (h : i < m.length), i < n → c i = true → m[i] ∈ kpI c m n
  | n + 1, i, h, hn, hc => by
    by_cases hi : i = n
    · subst hi
      rw [kpI_t h hc]
      simp
    · by_cases hcn : c n = true
      · by_cases hnl : n < m.length
        · rw [kpI_t hnl hcn]
          exact List.mem_append_left _ (kpI_has h (by omega) hc)
        · show _ ∈ kpI c m n ++ _
          exact List.mem_append_left _ (kpI_has h (by omega) hc)
      · rw [kpI_f (by simpa using hcn)]
        exact kpI_has h (by omega) hc
theorem kpI_srt {c : Nat → Bool} {m : List En} (hs : Srt m) : ∀ n, Srt (kpI c m n)
  | 0 => List.Pairwise.nil
  | n + 1 => by
    show Srt (kpI c m n ++ _)
    refine List.pairwise_append.2 ⟨kpI_srt hs n, ?_, fun a ha b hb => ?_⟩
    · split
      · cases m[n]? <;> simp
      · exact List.Pairwise.nil
    · obtain ⟨i, h1, h2, rfl, _⟩ := kpI_mem ha
      split at hb
      · have h3 : m[n]? = some b := by simpa using hb
        obtain ⟨h4, rfl⟩ := List.getElem?_eq_some_iff.1 h3
        exact List.pairwise_iff_getElem.1 hs i n h2 h4 h1
      · cases hb
theorem kpM_kpI {c : Nat → Bool} {m : List En} (hs : Srt m) (n : Nat) : kpM (kpI c m n) m = kpI c m n := by
  refine Srt.ext (hs.filter _) (kpI_srt hs n) fun e => ?_
  unfold kpM
  rw [List.mem_filter]
  constructor
  · rintro ⟨h1, h2⟩
    unfold hasM at h2
    cases hg : getM (kpI c m n) e.k with
    | none => rw [hg] at h2; cases h2
    | some x =>
      have hx := getM_mem hg
      have h3 := getM_self hs.dis (kpI_sub hx.1)
      have h4 := getM_self hs.dis h1
      rw [hx.2, h4] at h3
      injection h3 with h3
      subst h3
      exact hx.1
  · intro h
    refine ⟨kpI_sub h, ?_⟩
    unfold hasM
    rw [getM_self (kpI_srt hs n).dis h]
    rfl


structure SeenS (b11 base : Nat) (sk : Value) (F : Nat → Prop) (ks : List (List UInt8)) (w : World) : Prop where
  blk : Blk w b11 53 [sk]
  row : w.ownsRow base 31 32 sk ks.length (ks.flatMap kc)
  own : ∀ b, sk.ownBlock = some b → F b
  cell : F b11
  lt : ∀ b, F b → b < w.heap.size
def Ent.seenS (b11 base : Nat) (sk : Value) (F : Nat → Prop) (ks : List (List UInt8)) : Ent where
  fp := F
  ok := SeenS b11 base sk F ks
  loc := fun w w' h hb => {
    blk := (Ent.blk b11 53 [sk]).loc w w' (fun b e => h b (by obtain rfl := e; exact hb.cell)) hb.blk
    row := (Ent.osl base sk 31 32 ks.length (ks.flatMap kc)).loc w w' (fun b e => h b (hb.own _ e)) hb.row
    own := hb.own
    cell := hb.cell
    lt := fun b e => by
      have h1 := hb.lt b e
      have h2 := h b e
      rw [Array.getElem?_eq_getElem h1] at h2
      exact (Array.getElem?_eq_some_iff.1 h2).1 }
  lt := fun _ h b hb => h.lt b hb
section
variable {X F : Nat → Prop} {w0 w : World} {bc b11 base : Nat} {sk : Value} {t : TypeId} {l : List Value} {ks : List (List UInt8)} {p : World → Prop}
theorem robP (h : Rob (YY X [] [Ent.blk bc t l, Ent.seenS b11 base sk F ks]) p w) : Rob (fun c => X c ∨ c = bc ∨ F c) p w := h.mono fun c _ hc => by
  rcases hc with h | h | h
  · exact .inl h
  · exact .inr (.inr ⟨_, List.mem_cons_self, h⟩)
  · exact .inr (.inr ⟨_, List.mem_cons_of_mem _ List.mem_cons_self, h⟩)
theorem robQ (h : Rob (fun c => X c ∨ c = bc ∨ F c) p w) : Rob (YY X [] [Ent.blk bc t l, Ent.seenS b11 base sk F ks]) p w := h.mono fun c _ hc => by
  rcases hc with h | ⟨_, h, _⟩ | ⟨e, he, h⟩
  · exact .inl h
  · cases h
  · rcases List.mem_cons.1 he with rfl | he
    · exact .inr (.inl h)
    · rcases List.mem_cons.1 he with rfl | he
      · exact .inr (.inr h)
      · cases he
theorem SeenS.seen (h : SeenS b11 base sk F ks w) (hb : base ≤ b11) (hn : ¬ sk.ownBlock = some b11) : Seen b11 base F ks w := ⟨⟨sk, h.blk, h.row, hn, h.own⟩, h.cell, hb, h.lt⟩
theorem seen0 (h : Blk w b11 53 [.slice none 0 0]) : SeenS b11 base (.slice none 0 0) (· = b11) [] w where
  blk := h
  row := World.ownsRow_nil _ _ _ _
  own := fun b hb => by simp [Value.ownBlock] at hb
  cell := rfl
  lt := fun b hb => by obtain rfl := hb; exact h.lt
theorem Seen.split (h : Seen b11 base F ks w) : ∃ sk, SeenS b11 base sk F ks w := by
  obtain ⟨sk, h1, h2, _, h4⟩ := h.row
  exact ⟨sk, h1, h2, h4, h.cell, h.lt⟩
end

theorem RemovePrunesBad_c {X : Nat → Prop} {w : World} {i z : Int} {s : Value} {l : List En} (hX : ∀ b, X b → b < w.heap.size) (hf0 : Rob X (SlE s l) w) (hf1 : Rob X (Vals l) w) (hf2 : Rob X (Rounds) w) (hi : ¬ (0 ≤ i ∧ i ≤ 256)) (hkl : KL l) (hlen : l.length ≤ 9223372036854775807) (hvl : ∀ e ∈ l, e.v.length ≤ 9223372036854775807) :
    Ret Tryd.prog 8 [.int .i64 i, s, .int .u16 z].toArray w fun v w' => v = .bool true ∧ Out Nil w w' := by
  refine Ret.of_body (N := 69) Tryd.func8 rfl rfl (by simp) ?_
  have H := St.begin hX
  replace H := H.add (rob0 hf2)
  replace H := H.add (rob0 hf1)
  replace H := H.add (rob0 hf0)
  refine WE.seq_reg ?_
  refine WL.as rfl rfl ?_
  refine WL.nil ?_
  refine WE.seq_reg ?_
  refine WL.mv rfl rfl ?_
  refine WL.mv rfl rfl ?_
  refine WL.call TrydT.fb10 rfl (Tree_c (i := i) (l := l) H.yylt (by exact H.rob 0 rfl) (by exact H.rob 1 rfl) (by exact H.rob 2 rfl) (by assumption) (by assumption) (by assumption)) ?_
  rintro _ w1 ⟨bv20, sv20, Tv20, mv20, rfl, hTv20, hbv20, hO, hS_, hR⟩
  replace H := ((H.out hO).add hR).add hS_
  have hbf : bv20 = false := by cases hb_ : bv20; rfl; exact absurd (hbv20 hb_).2.1 hi
  subst hbf
  refine WL.mv rfl rfl ?_
  refine WL.pv (PV.extract rfl rfl rfl) rfl ?_
  refine WL.pv (PV.extract rfl rfl rfl) rfl ?_
  refine WL.pv (PV.extract rfl rfl rfl) rfl ?_
  refine WL.as rfl rfl ?_
  refine WL.as rfl rfl ?_
  refine WL.as rfl rfl ?_
  refine WL.nil ?_
  refine WE.seq_reg ?_
  refine WL.mv rfl rfl ?_
  refine WL.call TrydT.fb20 rfl (HashBad_c (i := i) H.yylt  (by assumption)) ?_
  rintro _ w2 ⟨rfl, hO⟩
  replace H := H.out hO
  refine WL.as rfl rfl ?_
  refine WL.nil ?_
  refine WE.seq ?_
  refine WE.seq_reg ?_
  refine WL.mv rfl rfl ?_
  refine WL.pv (PV.not rfl rfl) rfl ?_
  refine WL.nil ?_
  refine WE.cond_t' rfl rfl ?_
  refine WE.seq_reg ?_
  refine WL.call TrydT.fb21 rfl (alive10_c  H.yylt (by exact H.rob 4 rfl) ) ?_
  rintro _ w3 ⟨rfl, hO⟩
  replace H := H.out hO
  refine WL.as rfl rfl ?_
  refine WL.nil ?_
  refine WE.ret ?_
  refine ⟨[_], _, .nil _, ⟨rfl, trivial⟩, ?_⟩
  refine ⟨?_, H.toOut0⟩
  rfl

theorem RemovePrunes_c {X : Nat → Prop} {w : World} {i z : Int} {s : Value} {l : List En} (hX : ∀ b, X b → b < w.heap.size) (hf0 : Rob X (SlE s l) w) (hf1 : Rob X (Vals l) w) (hf2 : Rob X (Rounds) w) (hi : 0 ≤ i ∧ i ≤ 256) (hkl : KL l) (hlen : l.length ≤ 9223372036854775807) (hvl : ∀ e ∈ l, e.v.length ≤ 9223372036854775807) :
    Ret Tryd.prog 8 [.int .i64 i, s, .int .u16 z].toArray w fun v w' => v = .bool true ∧ Out Nil w w' := by
  refine Ret.of_body (N := 69) Tryd.func8 rfl rfl (by simp) ?_
  have H := St.begin hX
  replace H := H.add (rob0 hf2)
  replace H := H.add (rob0 hf1)
  replace H := H.add (rob0 hf0)
  refine WE.seq_reg ?_
  refine WL.as rfl rfl ?_
  refine WL.nil ?_
  refine WE.seq_reg ?_
  refine WL.mv rfl rfl ?_
  refine WL.mv rfl rfl ?_
  refine WL.call TrydT.fb10 rfl (Tree_c (i := i) (l := l) H.yylt (by exact H.rob 0 rfl) (by exact H.rob 1 rfl) (by exact H.rob 2 rfl) (by assumption) (by assumption) (by assumption)) ?_
  rintro _ w1 ⟨bv20, sv20, Tv20, mv20, rfl, hTv20, hbv20, hO, hS_, hR⟩
  replace H := ((H.out hO).add hR).add hS_
  refine WL.mv rfl rfl ?_
  refine WL.pv (PV.extract rfl rfl rfl) rfl ?_
  refine WL.pv (PV.extract rfl rfl rfl) rfl ?_
  refine WL.pv (PV.extract rfl rfl rfl) rfl ?_
  refine WL.as rfl rfl ?_
  refine WL.as rfl rfl ?_
  refine WL.as rfl rfl ?_
  refine WL.nil ?_
  refine WE.seq_reg ?_
  refine WL.mv rfl rfl ?_
  refine WL.call TrydT.fb20 rfl (Hash_c (i := i) H.yylt  (by assumption)) ?_
  rintro _ w2 ⟨bhv25, bcv25, rfl, hO, hge, hB, hR⟩
  replace H := H.pushR hO (Ent.blk bcv25 118 [.int .i64 0]) hB (fun c hc => by cases hc; exact hge) hR
  refine WL.as rfl rfl ?_
  refine WL.nil ?_
  refine WE.seq ?_
  refine WE.seq_reg ?_
  refine WL.mv rfl rfl ?_
  refine WL.pv (PV.not rfl rfl) rfl ?_
  refine WL.nil ?_
  refine WE.cond rfl (fun hc27 => ?_) (fun hc27 => ?_)
  · skip
    try simp only [decide_eq_true_eq, decide_eq_false_iff_not, ne_eq, Decidable.not_not, Bool.not_eq_true', Bool.not_eq_false', Bool.and_eq_true, Bool.or_eq_true, Bool.not_not, Bool.and_eq_false_iff, Bool.or_eq_false_iff, Int.not_lt, Int.not_le] at hc27
    refine WE.seq_reg ?_
    refine WL.call TrydT.fb21 rfl (alive10_c  H.yylt (by exact H.rob 5 rfl) ) ?_
    rintro _ w3 ⟨rfl, hO⟩
    replace H := H.out hO
    refine WL.as rfl rfl ?_
    refine WL.nil ?_
    refine WE.ret ?_
    refine ⟨[_], _, .nil _, ⟨rfl, trivial⟩, ?_⟩
    refine ⟨?_, H.toOut0⟩
    rfl
  · skip
    try simp only [decide_eq_true_eq, decide_eq_false_iff_not, ne_eq, Decidable.not_not, Bool.not_eq_true', Bool.not_eq_false', Bool.and_eq_true, Bool.or_eq_true, Bool.not_not, Bool.and_eq_false_iff, Bool.or_eq_false_iff, Int.not_lt, Int.not_le] at hc27
    obtain ⟨rfl, -, hfew⟩ := hbv20 (by exact hc27)
    have hok := ofM_ok l hkl
    have hpm := ofM_pm l hkl
    have hml : (ofM l).length ≤ 12 := Nat.le_trans hok.2.2.1 hfew.1
    have hvs := ofM_short hkl hfew.2
    have hsv : ShortV (ofM l) := fun e he => Nat.le_trans (hvs e he) (by decide)
    replace H := H.add (by exact (H.rob 4 rfl : Rob _ (Vals l) _).imp fun _ h => h.sub hok.2.2.2)
    have hone : OneS (ofM l) := OneS.of (H.p 0 rfl)
    have hfit : Tv20.er.fit 0 := hTv20 ▸ grow_fit hpm
    refine WE.skip ?_
    refine WE.seq_reg ?_
    refine WL.alloc H rfl TrydT.ze53 rfl ?_
    intro b11 w4 H
    refine WL.as rfl rfl ?_
    refine WL.nil ?_
    refine WE.seq_reg ?_
    refine WL.alloc H rfl TrydT.ze22 rfl ?_
    intro b13 w5 H
    refine WL.nil ?_
    refine WE.seq ?_
    refine WE.seq_reg ?_
    refine WL.mv rfl rfl ?_
    refine WL.pv (PV.lenS (by exact H.p 2 rfl : SlE sv20 (ofM l) _) TrydT.sl22 rfl) rfl ?_
    refine WL.mv rfl rfl ?_
    refine WL.nil ?_
    refine WE.block ?_
    replace H := H.nilOsl 34 33
    replace H := H.nilOsl 31 32
    refine WE.loop (α := Nat × Value × Value) [12, 14, 15, 31, 32, 33, 34, 35, 36, 37, 38, 39, 40, 41, 42, 43, 44, 45, 46, 47, 48, 49, 50, 51] (fun p => [(31, .int .i64 p.1), (12, p.2.1)]) (fun p wl => p.1 ≤ (ofM l).length ∧ St X w wl [] [Ent.osl w.heap.size p.2.1 31 32 ((((ofM l).take p.1).map En.k)).length (((((ofM l).take p.1).map En.k)).flatMap kc), Ent.osl w.heap.size p.2.2 34 33 ((kpI (bitC z) (ofM l) p.1)).length (((kpI (bitC z) (ofM l) p.1)).flatMap enC), Ent.blk b13 22 [p.2.2], Ent.blk b11 53 [.slice none 0 0], Ent.blk bcv25 118 [.int .i64 0]] [fun x => Vals (ofM l) x, HAt bhv25 bcv25 i, SlE sv20 (ofM l), TrA i Tv20, SlE s l, Vals l, Rounds]) (fun p => (ofM l).length - p.1) (0, .slice none 0 0, .slice none 0 0) ⟨rfl, rfl, trivial⟩ ⟨Nat.zero_le _, H⟩ ?_
    intro ⟨j, kv, ev_⟩ γ0 w6 hI
    try dsimp only at hI
    obtain ⟨hj, H⟩ := hI
    refine WE.seq_reg ?_
    refine WL.pv (PV.lss rfl rfl rfl) rfl ?_
    refine WL.nil ?_
    refine WE.seq ?_
    refine WE.cond rfl (fun hc32 => ?_) (fun hc32 => ?_)
    · skip
      try simp only [decide_eq_true_eq, decide_eq_false_iff_not, ne_eq, Decidable.not_not, Bool.not_eq_true', Bool.not_eq_false', Bool.and_eq_true, Bool.or_eq_true, Bool.not_not, Bool.and_eq_false_iff, Bool.or_eq_false_iff, Int.not_lt, Int.not_le] at hc32
      have hlt : j < (ofM l).length := by omega
      have hE : (enC (ofM l)[j]).length = 1 * 33 := enC_length (hok.2.1 _ (List.getElem_mem hlt))
      have hE2 : (enC (ofM l)[j]).length = 33 := hE
      have hkk := hok.2.1 _ (List.getElem_mem hlt)
      have hpl := kpI_len (bitC z) (ofM l) j
      have hS : (((ofM l).take (j + 1)).map En.k) = (((ofM l).take j).map En.k) ++ [(ofM l)[j].k] := by rw [List.take_succ_eq_append_getElem hlt, List.map_append]; rfl
      have hkl_ : (((ofM l).take j).map En.k).length = j := by rw [List.length_map, List.length_take]; omega
      have hvj := hone _ (List.getElem_mem hlt)
      refine WE.skip ?_
      refine WE.seq ?_
      refine WE.block ?_
      refine WE.seq_reg ?_
      refine WL.mv rfl rfl ?_
      refine WL.pv (PV.idxS rfl (by exact H.p 2 rfl : SlE sv20 (ofM l) _) TrydT.sl22 TrydT.sz34 rfl rfl (by omega) (by omega)) rfl ?_
      refine WL.loadR rfl TrydT.ag34 rfl rfl (SlE.rd (by exact H.p 2 rfl : SlE sv20 (ofM l) _) hok.2.1 j hlt) (by (rw [TrydT.sz34]; refine congrArg some ?_; (simp [kc_length, kw_length, *]; done))) ?_
      refine WL.alloc H rfl TrydT.ze34 rfl ?_
      intro b15 w7 H
      refine WL.as rfl rfl ?_
      refine WL.storeL H 0 rfl rfl rfl (new := enC (ofM l)[j]) rfl (by (rw [TrydT.sz34]; refine congrArg some ?_; (simp [kc_length, kw_length, *]; done))) (one_enC hvj) (Laid.at (Laid.all (by (simp only [kc_length, kw_length, List.length_replicate, List.length_append, List.length_cons, List.length_nil, cutI_length, shaOf_length, dig_length, valD_length, rootM_length]; omega))) (by rfl)) rfl ?_
      intro w8 H
      refine WL.nil ?_
      refine WE.seq_reg ?_
      refine WL.mv rfl rfl ?_
      refine WL.pv (PV.fieldAddr rfl TrydT.fd34_0 rfl) rfl ?_
      refine WL.loadR rfl TrydT.ag31 rfl rfl (by exact Blk.segAt (H.l 0 rfl) (Seg.l (Seg.all _)) (by rfl)) (by (rw [TrydT.sz31]; refine congrArg some ?_; (simp only [kc_length, kw_length, List.length_replicate, List.length_append, List.length_cons, List.length_nil, cutI_length, shaOf_length, dig_length, valD_length, rootM_length]; omega))) ?_
      refine WL.buildSliceF (l0 := (kc (List.replicate 32 0))) H rfl TrydT.st53 (by decide) (by rfl) (Fl.cons rfl (by rfl) (by (simp only [kc_length, kw_length, List.length_replicate, List.length_append, List.length_cons, List.length_nil, cutI_length, shaOf_length, dig_length, valD_length, rootM_length]; omega)) (Laid.all (by (simp only [kc_length, kw_length, List.length_replicate, List.length_append, List.length_cons, List.length_nil, cutI_length, shaOf_length, dig_length, valD_length, rootM_length]; omega))) Fl.nil) rfl ?_
      intro b39 w9 H
      refine WL.append (m := 1) H 2 TrydT.st53 (by decide) rfl rfl rfl (SlC.of_blk (n := 1) (H.l 0 rfl) (by rw [kc_length, hkk]; simp [kc_length])) (kc_one _) (by omega) (by decide) rfl ?_
      intro v40 w10 H
      replace H := H.forget 0
      refine WL.as rfl rfl ?_
      refine WL.nil ?_
      refine WE.seq_reg ?_
      refine WL.mv rfl rfl ?_
      refine WL.mv rfl rfl ?_
      refine WL.pv (PV.rem64 rfl rfl rfl (by omega) (by omega)) rfl ?_
      refine WL.pv (PV.shrw rfl rfl rfl (by omega)) rfl ?_
      refine WL.pv (PV.andw rfl rfl rfl) rfl ?_
      refine WL.pv (PV.eql rfl rfl rfl) rfl ?_
      refine WL.nil ?_
      refine WE.cond rfl (fun hc46 => ?_) (fun hc46 => ?_)
      · skip
        try simp only [decide_eq_true_eq, decide_eq_false_iff_not, ne_eq, Decidable.not_not, Bool.not_eq_true', Bool.not_eq_false', Bool.and_eq_true, Bool.or_eq_true, Bool.not_not, Bool.and_eq_false_iff, Bool.or_eq_false_iff, Int.not_lt, Int.not_le] at hc46
        have hcj : bitC z j = true := decide_eq_true (by exact hc46)
        have hPn := kpI_t hlt hcj
        refine WE.reg ?_
        refine WL.load1 rfl TrydT.ag22 rfl rfl (by exact Blk.segAt (H.l 3 rfl) (Seg.all _) (by rfl)) ?_
        refine WL.loadR rfl TrydT.ag34 rfl rfl (by exact Blk.segAt (H.l 0 rfl) (Seg.all _) (by rfl)) (by (rw [TrydT.sz34]; refine congrArg some ?_; (simp [kc_length, kw_length, *]; done))) ?_
        refine WL.buildSliceF (l0 := ((kc (List.replicate 32 0) ++ ([.slice none 0 0])))) H rfl TrydT.st22 (by decide) (by rfl) (Fl.cons rfl (by rfl) (by (simp only [kc_length, kw_length, List.length_replicate, List.length_append, List.length_cons, List.length_nil, cutI_length, shaOf_length, dig_length, valD_length, rootM_length]; omega)) (Laid.all (by (simp only [kc_length, kw_length, List.length_replicate, List.length_append, List.length_cons, List.length_nil, cutI_length, shaOf_length, dig_length, valD_length, rootM_length]; omega))) Fl.nil) rfl ?_
        intro b49 w11 H
        refine WL.append (m := 1) H 3 TrydT.st22 (by decide) rfl rfl rfl (SlC.of_blk (n := 1) (H.l 0 rfl) hE) (one_enC hvj) (by omega) (by decide) rfl ?_
        intro v50 w12 H
        replace H := H.forget 0
        have hv50 := own_one (H.l 2 rfl)
        let ev2 := v50
        refine WL.storeL H 3 rfl rfl rfl (new := [v50]) (cells_one hv50) (by exact TrydT.sz22) (one_sing hv50) (Laid.at (Laid.all (by (simp only [kc_length, kw_length, List.length_replicate, List.length_append, List.length_cons, List.length_nil, cutI_length, shaOf_length, dig_length, valD_length, rootM_length]; done))) (by rfl)) rfl ?_
        intro w13 H
        refine WL.nil ?_
        refine WE.reg ?_
        refine WL.pv (PV.add64 rfl rfl rfl (by omega) (by omega)) rfl ?_
        refine WL.mv rfl rfl ?_
        refine WL.nil ?_
        replace H := H.forget 0
        exact ⟨(j + 1, v40, ev2), (by repeat (first | with_reducible exact Off.refl _ _ | refine Off.upd rfl ?_ | refine Off.setAll rfl ?_ | refine Off.forget' rfl ?_)), ⟨rfl, rfl, trivial⟩, rfl, ⟨by dsimp only; omega, (by exact H.conv (by dsimp only; rw [hS, hPn]; simp only [List.length_append, List.flatMap_append, List.flatMap_singleton]; rfl))⟩, (by dsimp only; omega)⟩
      · skip
        try simp only [decide_eq_true_eq, decide_eq_false_iff_not, ne_eq, Decidable.not_not, Bool.not_eq_true', Bool.not_eq_false', Bool.and_eq_true, Bool.or_eq_true, Bool.not_not, Bool.and_eq_false_iff, Bool.or_eq_false_iff, Int.not_lt, Int.not_le] at hc46
        have hcj : bitC z j = false := decide_eq_false (by exact hc46)
        have hPn : kpI (bitC z) (ofM l) (j + 1) = kpI (bitC z) (ofM l) j := kpI_f hcj
        let ev2 := ev_
        refine WE.skip ?_
        refine WE.reg ?_
        refine WL.pv (PV.add64 rfl rfl rfl (by omega) (by omega)) rfl ?_
        refine WL.mv rfl rfl ?_
        refine WL.nil ?_
        replace H := H.forget 0
        exact ⟨(j + 1, v40, ev2), (by repeat (first | with_reducible exact Off.refl _ _ | refine Off.upd rfl ?_ | refine Off.setAll rfl ?_ | refine Off.forget' rfl ?_)), ⟨rfl, rfl, trivial⟩, rfl, ⟨by dsimp only; omega, (by exact H.conv (by dsimp only; rw [hS, hPn]; simp only [List.length_append, List.flatMap_append, List.flatMap_singleton]; rfl))⟩, (by dsimp only; omega)⟩
    · skip
      try simp only [decide_eq_true_eq, decide_eq_false_iff_not, ne_eq, Decidable.not_not, Bool.not_eq_true', Bool.not_eq_false', Bool.and_eq_true, Bool.or_eq_true, Bool.not_not, Bool.and_eq_false_iff, Bool.or_eq_false_iff, Int.not_lt, Int.not_le] at hc32
      have hke : (ofM l).take j = ofM l := List.take_of_length_le (by omega)
      have hje : j = (ofM l).length := by omega
      refine WE.exit ?_
      refine WE.seq_reg ?_
      refine WL.mv rfl rfl ?_
      refine WL.mv rfl rfl ?_
      refine WL.pv (PV.makeFunc rfl) rfl ?_
      subst hje
      replace H := H.freeze (i := 0) rfl
      replace H := H.freeze (i := 0) rfl
      replace H := H.freeze (i := 0) rfl
      have hge11 : w.heap.size ≤ b11 := H.geL _ (List.mem_of_getElem? (i := 0) rfl) b11 rfl
      have hJ0 := seen0 (base := w.heap.size) (H.l 0 rfl)
      replace H := H.perm (List.Perm.swap _ _ _)
      have hne : ¬ bcv25 = b11 := fun h => (List.pairwise_cons.1 H.disL).1 _ List.mem_cons_self _ ⟨rfl, h⟩
      replace H := H.setL (i := 1) rfl (Out.refl _ _) (Ent.seenS b11 w.heap.size (.slice none 0 0) (· = b11) []) hJ0 (fun b hb => .inl hb)
      have hpl := kpI_len (bitC z) (ofM l) (ofM l).length
      refine WL.call TrydT.fb22 rfl (Pr_ok Tv20 (X := X) (F := (· = b11)) (base := w.heap.size) (bits := i) (sv := ev_) (ks := []) (M := ofM l) (K := (kpI (bitC z) (ofM l) (ofM l).length)) (d := 0) (fun b hb => H.yylt b (.inl hb)) (H.l 0 rfl) (by exact robP (H.rob 4 rfl : Rob _ (HAt bhv25 bcv25 i) _)) (by exact robP (H.rob 6 rfl : Rob _ (TrA i Tv20) _)) (by exact robP ((H.rob 0 rfl : Rob _ (Ent.blk b13 22 [ev_]).ok _).imp fun _ h => Blk.rd h)) (by exact robP ((show Rob _ (SlE ev_ (kpI (bitC z) (ofM l) (ofM l).length)) _ from (H.rob 1 rfl).imp fun _ h => SlC.of_own h))) (by exact robP (H.rob 9 rfl : Rob _ (Rounds) _)) hi hTv20 hpm hok.1 (by omega) (hJ0.seen hge11 (by simp [Value.ownBlock])) hne (fun e he => hok.2.1 e (kpI_sub he)) (by omega) (by show 0 + _ ≤ _; omega)) ?_
      rintro _ w14 ⟨Tp, cp, Fp, ksp, rfl, hTp, hksp, hO, hB, hJp, hFp, hRp⟩
      obtain ⟨skp, hJs⟩ := hJp.split
      replace H := (St.callP H hO (Ent.blk bcv25 118 [.int .i64 cp]) (Ent.seenS b11 w.heap.size skp Fp ksp) hB hJs (fun b hb => hb) hFp).add (robQ hRp)
      rw [kpM_kpI hok.1] at hTp
      rw [List.nil_append] at hksp
      subst hksp
      replace H := H.freeze (i := 1) rfl
      replace H := H.add (show Rob _ (fun w => RdA w ⟨b11, 0, none⟩ [skp]) _ from (H.rob 0 rfl).imp fun _ h => h.blk.rd)
      replace H := H.add (show Rob _ (SlK skp ((ofM l).map En.k)) _ from (H.rob 1 rfl).imp fun _ h => SlC.of_own h.row)
      replace H := H.add (show Rob _ (fun w => RdA w ⟨b13, 0, none⟩ [ev_]) _ from (H.rob 4 rfl).imp fun _ h => Blk.rd h)
      replace H := H.add (show Rob _ (SlE ev_ (kpI (bitC z) (ofM l) (ofM l).length)) _ from (H.rob 6 rfl).imp fun _ h => SlC.of_own h)
      replace H := H.add (show Rob _ (SlK kv ((ofM l).map En.k)) _ from (H.rob 8 rfl).imp fun _ h => (by have h_ := SlC.of_own h; rw [List.take_of_length_le (Nat.le_refl _)] at h_; exact h_))
      replace H := H.add (show Rob _ (Vals (kpI (bitC z) (ofM l) (ofM l).length)) _ from (by exact (H.rob 10 rfl : Rob _ (Vals (ofM l)) _).imp fun _ h e he => h e (kpI_sub he)))
      replace H := H.sel [0, 1, 2, 3, 4, 5, 7, 12, 17]
      have hkpk : KL (kpI (bitC z) (ofM l) (ofM l).length) := fun e he => hok.2.1 e (kpI_sub he)
      refine WL.as rfl rfl ?_
      refine WL.nil ?_
      refine WE.seq_reg ?_
      refine WL.call TrydT.fb21 rfl (alive10_c  H.yylt (by exact H.rob 8 rfl) ) ?_
      rintro _ w15 ⟨rfl, hO⟩
      replace H := H.out hO
      refine WL.mv rfl rfl ?_
      refine WL.known (t := 57) (c := true) rfl (by rfl) ?_
      refine WL.load1 rfl TrydT.ag53 rfl rfl ((by exact (H.p 5 rfl : (fun w => RdA w ⟨b11, 0, none⟩ [skp]) _))) ?_
      refine WL.mv rfl rfl ?_
      refine WL.call TrydT.fb25 rfl (EqK_c (s1 := skp) (s2 := kv) (ks := (ofM l).map En.k) H.yylt (by exact (H.rob 4 rfl : Rob _ (SlK skp ((ofM l).map En.k)) _)) (by exact (H.rob 1 rfl : Rob _ (SlK kv ((ofM l).map En.k)) _)) (fun k hk => by obtain ⟨e, he, rfl⟩ := List.mem_map.1 hk; exact hok.2.1 e he) (by rw [List.length_map]; omega)) ?_
      rintro _ w16 ⟨rfl, hO⟩
      replace H := H.out hO
      refine WL.pv (PV.pick_t rfl rfl rfl) rfl ?_
      refine WL.mv rfl rfl ?_
      refine WL.known (t := 62) (c := true) rfl (by rfl) ?_
      refine WL.mv rfl rfl ?_
      refine WL.mv rfl rfl ?_
      refine WL.load1 rfl TrydT.ag22 rfl rfl ((by exact (H.p 3 rfl : (fun w => RdA w ⟨b13, 0, none⟩ [ev_]) _))) ?_
      refine WL.call TrydT.fb26 rfl (Is_c (T := Tp) (M := (kpI (bitC z) (ofM l) (ofM l).length)) (s := ev_) (bits := i) H.yylt (H.l 0 rfl) (by exact H.robL 0 rfl 7 rfl) (by exact H.robL 0 rfl 6 rfl) (by exact (H.robL 0 rfl 2 rfl : Rob _ (SlE ev_ (kpI (bitC z) (ofM l) (ofM l).length)) _)) (by exact (H.robL 0 rfl 0 rfl : Rob _ (Vals (kpI (bitC z) (ofM l) (ofM l).length)) _)) (by exact H.robL 0 rfl 8 rfl) hi hTp hkpk (kpI_srt hok.1 _) (fun e he => hsv e (kpI_sub he)) (by omega)) ?_
      rintro _ w17 ⟨mv66, rfl, hO, hB⟩
      replace H := H.called 0 rfl hO hB
      refine WL.pv (PV.gtr rfl rfl rfl) rfl ?_
      refine WL.pv (PV.pick_t rfl rfl rfl) rfl ?_
      refine WL.as rfl rfl ?_
      refine WL.nil ?_
      refine WE.ret ?_
      refine ⟨[_], _, .nil _, ⟨rfl, trivial⟩, ?_⟩
      refine ⟨?_, H.toOut0⟩
      rfl

end Go.Sp.Tryd

