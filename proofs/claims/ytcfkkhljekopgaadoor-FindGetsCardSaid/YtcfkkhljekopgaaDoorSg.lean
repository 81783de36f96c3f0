/- Walks of functions, printed by a program of this session (gen.py) from notes on each function. -/
import Derived.Test.YtcfkkhljekopgaaDoorSf
set_option maxRecDepth 100000
set_option maxHeartbeats 1000000
set_option linter.unusedVariables false
set_option linter.unusedSimpArgs false
namespace Go.Sp.Tryd
open Go.Proofs Go.RowKit Go.Sp

/-- the blocks of 64 bytes of a slice, as an iterator hands them out -/
def chunkV (v : Value) (i : Nat) (xs : List Value) (_ : World) : Prop := xs = [subSl3 v 1 (64 * i) (64 * i + 64)]

theorem Chunk1_seq {C : Nat → Prop} {w : World} {bs bn n : Nat} {v : Value} {l : List UInt8} (hC : ∀ b, C b → b < w.heap.size) (hf0 : Rob C (SlB v l) w) (hf1 : Rob C (fun w => RdA w ⟨bs, 0, none⟩ [v]) w) (hf2 : Rob C (fun w => RdA w ⟨bn, 0, none⟩ [.int .i64 64]) w) (hl : l.length = 64 * n) (hlm : l.length ≤ 2000000000) : SeqV Tryd.prog 96 [] [.pointer (some ⟨bs, 0, none⟩), .pointer (some ⟨bn, 0, none⟩)] (n) (chunkV v) Nil C w := by
  intro f J Jx hst hsta hstx hround hf
  show Ret Tryd.prog 96 ([f, .pointer (some ⟨bs, 0, none⟩), .pointer (some ⟨bn, 0, none⟩)] : List Value).toArray w _
  refine Ret.of_body (N := 31) Tryd.func96 rfl rfl (by simp) ?_
  have H := St.begin (X := C) hC
  replace H := H.add (rob0 hf2)
  replace H := H.add (rob0 hf1)
  replace H := H.add (rob0 hf0)
  refine WE.seq_reg ?_
  refine WL.as rfl rfl ?_
  refine WL.nil ?_
  refine WE.block ?_
  refine WE.loop (α := Nat) [4, 5, 6, 7, 8, 9, 10, 11, 12, 13, 14, 15, 16, 17, 18, 19, 20, 21, 22, 23, 24, 25, 26, 27, 28, 29, 30] (fun k => [(4, .int .i64 ((64 * k : Nat) : Int))]) (fun k wl => k ≤ n ∧ J Nil k wl ∧ St C wl wl [] [] [SlB v l, fun w => RdA w ⟨bs, 0, none⟩ [v], fun w => RdA w ⟨bn, 0, none⟩ [.int .i64 64]]) (fun k => n - k) 0 ⟨rfl, trivial⟩ ⟨Nat.zero_le _, hst Nil w (Out.refl _ _) (fun _ h => h.elim) (fun _ h => h), H⟩ ?_
  intro k γ0 w1 hI
  try dsimp only at hI
  obtain ⟨hk0, hJ, H⟩ := hI
  have hwl : ∃ wl1, wl1 = w1 := ⟨_, rfl⟩
  obtain ⟨wl1, hwl⟩ := hwl
  rw [← hwl] at hJ H ⊢
  clear hwl
  refine WE.seq ?_
  refine WE.seq_reg ?_
  refine WL.mv rfl rfl ?_
  refine WL.load1 rfl TrydT.ag33 rfl rfl (H.p 1 rfl) ?_
  refine WL.pv (PV.lenS (H.p 0 rfl) TrydT.sl33 rfl) rfl ?_
  refine WL.pv (PV.lss rfl rfl rfl) rfl ?_
  refine WL.nil ?_
  refine WE.cond rfl (fun hc9 => ?_) (fun hc9 => ?_)
  · skip
    try simp only [decide_eq_true_eq, decide_eq_false_iff_not, ne_eq, Decidable.not_not, Bool.not_eq_true', Bool.not_eq_false', Bool.and_eq_true, Bool.or_eq_true, Bool.not_not, Bool.and_eq_false_iff, Bool.or_eq_false_iff, Int.not_lt, Int.not_le] at hc9
    have hlt : k < n := by omega
    refine WE.skip ?_
    refine WE.seq ?_
    refine WE.block ?_
    refine WE.seq_draw (.take 0 (.take 1 (.take 2 (.take 3 (.take 4 (.take 5 (.take 6 .done))))))) TrydT.mixed (by kernel_rfl) ?_
    replace H := H.out (Out.drew _)
    refine WP.take_read rfl rfl (RV.loadOne rfl TrydT.ag3 rfl) (H.p 2 rfl) ?_
    refine WP.take_read rfl rfl (RV.loadOne rfl TrydT.ag33 rfl) (H.p 1 rfl) ?_
    refine WP.mv rfl rfl rfl ?_
    refine WP.take_pure rfl rfl (PV.eq (v' := subSl v 1 (64 * k) l.length) (PV.subL rfl (H.p 0 rfl) TrydT.sl33 TrydT.sz5 rfl rfl (by omega) (by omega)) (by congr 1)) ?_
    refine WP.take_pure rfl rfl (PV.eq (v' := .int .i64 ((l.length - 64 * k : Nat) : Int)) (PV.lenS (SlB.sub (lo := 64 * k) (hi := l.length) (H.p 0 rfl) (by omega) (Nat.le_refl _)) TrydT.sl33 rfl) (by simp)) ?_
    refine WP.take_pure rfl rfl (PV.eq (v' := .int .i64 64) (PV.minI rfl rfl) (by congr 1; omega)) ?_
    refine WP.as rfl rfl rfl ?_
    refine WP.done ?_
    refine WE.seq_reg ?_
    refine WL.mv rfl rfl ?_
    refine WL.load1 rfl TrydT.ag33 rfl rfl (H.p 1 rfl) ?_
    refine WL.mv rfl rfl ?_
    refine WL.mv rfl rfl ?_
    refine WL.mv rfl rfl ?_
    refine WL.pv (PV.add64 rfl rfl rfl (by omega) (by omega)) rfl ?_
    refine WL.mv rfl rfl ?_
    refine WL.mv rfl rfl ?_
    refine WL.pv (PV.add64 rfl rfl rfl (by omega) (by omega)) rfl ?_
    refine WL.pv (PV.eq (v' := subSl3 v 1 (64 * k) (64 * k + 64)) (PV.subLHM rfl (H.p 0 rfl) TrydT.sl33 TrydT.sz5 rfl rfl rfl rfl (by omega) (by omega)) (by congr 1)) rfl ?_
    refine WL.callV rfl rfl (hround Nil k _ wl1 _ (by omega) hJ H.toOut0 (Rob.pure rfl)) ?_
    rintro _ w2 ⟨hk, ⟨rfl, hJ⟩ | ⟨rfl, hJ⟩⟩
    · skip
      replace H := St.again0 (Ps := [SlB v l, fun w => RdA w ⟨bs, 0, none⟩ [v], fun w => RdA w ⟨bn, 0, none⟩ [.int .i64 64]]) hC hk (fun _ h => h.elim) (by intro p hp; simp at hp; rcases hp with rfl | rfl | rfl <;> assumption)
      refine WL.pv (PV.not rfl rfl) rfl ?_
      refine WL.nil ?_
      refine WE.cond_f rfl ?_
      refine WE.skip ?_
      refine WE.reg ?_
      refine WL.mv rfl rfl ?_
      refine WL.load1 rfl TrydT.ag3 rfl rfl (H.p 2 rfl) ?_
      refine WL.pv (PV.add64 rfl rfl rfl (by omega) (by omega)) rfl ?_
      refine WL.as rfl rfl ?_
      refine WL.nil ?_
      exact ⟨k + 1, (by repeat (first | with_reducible exact Off.refl _ _ | refine Off.upd rfl ?_ | refine Off.setAll rfl ?_ | refine Off.forget' rfl ?_)), ⟨rfl, trivial⟩, rfl, ⟨by omega, hJ, H⟩, (by omega)⟩
    · skip
      refine WL.pv (PV.not rfl rfl) rfl ?_
      refine WL.nil ?_
      refine WE.cond_t rfl ?_
      refine WE.ret ?_
      refine ⟨[], _, .nil _, trivial, ?_⟩
      exact ⟨rfl, Nil, .inr hJ⟩
  · skip
    try simp only [decide_eq_true_eq, decide_eq_false_iff_not, ne_eq, Decidable.not_not, Bool.not_eq_true', Bool.not_eq_false', Bool.and_eq_true, Bool.or_eq_true, Bool.not_not, Bool.and_eq_false_iff, Bool.or_eq_false_iff, Int.not_lt, Int.not_le] at hc9
    obtain rfl : k = n := by omega
    refine WE.exit ?_
    refine ⟨[], _, .nil _, trivial, ?_⟩
    exact ⟨rfl, Nil, .inl (hsta _ _ _ _ hJ H.toOut0)⟩

theorem Chunk_c {X : Nat → Prop} {w : World} {v : Value} {l : List UInt8} (hX : ∀ b, X b → b < w.heap.size) (hf0 : Rob X (SlB v l) w) :
    Ret Tryd.prog 84 [v, .int .i64 64].toArray w fun r w' => ∃ bs bn, r = .func (.func 96) [].toArray [.pointer (some ⟨bs, 0, none⟩), .pointer (some ⟨bn, 0, none⟩)].toArray ∧ Out Nil w w' ∧ Rob X (fun w => RdA w ⟨bs, 0, none⟩ [v]) w' ∧ Rob X (fun w => RdA w ⟨bn, 0, none⟩ [.int .i64 64]) w' := by
  refine Ret.of_body (N := 9) Tryd.func84 rfl rfl (by simp) ?_
  have H := St.begin hX
  replace H := H.add (rob0 hf0)
  refine WE.seq_reg ?_
  refine WL.box (l := [v]) H rfl (by exact SlC.cells (H.p 0 rfl)) rfl ?_
  intro b2 w1 H
  refine WL.box (l := _) H rfl (by rfl) rfl ?_
  intro b3 w2 H
  refine WL.as rfl rfl ?_
  refine WL.nil ?_
  refine WE.seq ?_
  refine WE.seq_reg ?_
  refine WL.load1 rfl TrydT.ag3 rfl rfl (by exact Blk.segAt (H.l 0 rfl) (Seg.all _) (by rfl)) ?_
  refine WL.pv (PV.lss rfl rfl rfl) rfl ?_
  refine WL.nil ?_
  refine WE.cond_f' rfl (by decide) ?_
  refine WE.skip ?_
  refine WE.seq_reg ?_
  refine WL.pv (PV.makeFunc rfl) rfl ?_
  refine WL.as rfl rfl ?_
  refine WL.nil ?_
  refine WE.ret ?_
  refine ⟨[_], _, .nil _, ⟨rfl, trivial⟩, ?_⟩
  replace H := (H.freeze (i := 0) rfl).freeze (i := 0) rfl
  exact ⟨b2, b3, rfl, H.toOut0, H.give ((H.rob 0 rfl).imp fun _ h => h.rd), H.give ((H.rob 1 rfl).imp fun _ h => h.rd)⟩

theorem Sum_c {X : Nat → Prop} {w : World} {a : Value} {la : List UInt8} (hX : ∀ b, X b → b < w.heap.size) (hf0 : Rob X (SlB a la) w) (hf1 : Rob X (Rounds) w) (hla : la.length ≤ 1000000000) :
    Ret Tryd.prog 59 [a].toArray w fun v w' => v = .agg (kc (shaOf la)).toArray ∧ Out Nil w w' := by
  refine Ret.of_body (N := 34) Tryd.func59 rfl rfl (by simp) ?_
  have H := St.begin hX
  replace H := H.add (rob0 hf1)
  replace H := H.add (rob0 hf0)
  have hp64 := padOf_64 la
  have hpl := padOf_length la
  have hz64 : zc la.length < 64 := by unfold zc; omega
  refine WE.seq_reg ?_
  refine WL.alloc H rfl TrydT.ze29 rfl ?_
  intro b2 w1 H
  refine WL.nil ?_
  refine WE.seq_reg ?_
  refine WL.call TrydT.fb82 rfl (start_c  H.yylt  ) ?_
  rintro _ w2 ⟨rfl, hO⟩
  replace H := H.out hO
  refine WL.alloc H rfl TrydT.ze120 rfl ?_
  intro b3 w3 H
  refine WL.storeL H 0 rfl rfl rfl (new := _) rfl (by exact TrydT.sz120) (by exact kw_one _) (Laid.at (Laid.all (by (simp only [kc_length, kw_length, List.length_replicate, List.length_append, List.length_cons, List.length_nil]; done))) (by rfl)) rfl ?_
  intro w4 H
  refine WL.nil ?_
  refine WE.seq_reg ?_
  refine WL.pv (PV.eq (v' := .func (.func 83) [.pointer (some ⟨b3, 0, none⟩)].toArray [].toArray) (PV.makeFunc rfl) rfl) rfl ?_
  refine WL.alloc H rfl TrydT.ze122 rfl ?_
  intro b4 w5 H
  refine WL.storeL H 0 rfl rfl rfl (new := _) rfl (by exact TrydT.sz122) (by exact one_lit _ rfl) (Laid.at (Laid.all (by (simp only [kc_length, kw_length, List.length_replicate, List.length_append, List.length_cons, List.length_nil]; done))) (by rfl)) rfl ?_
  intro w6 H
  refine WL.nil ?_
  refine WE.seq ?_
  refine WE.seq_reg ?_
  refine WL.mv rfl rfl ?_
  refine WL.call TrydT.fb85 rfl (Pad_c (la := la) H.yylt (H.rob 0 rfl) hla) ?_
  rintro v11 w7 ⟨hO, hR⟩
  replace H := (H.out hO).add hR
  refine WL.call TrydT.fb84 rfl (Chunk_c  H.yylt (by exact H.rob 0 rfl) ) ?_
  rintro _ w8 ⟨bs, bn, rfl, hO, hR1, hR2⟩
  replace H := ((H.out hO).add hR2).add hR1
  refine WL.nil ?_
  refine WE.block ?_
  replace H := H.pushNil
  refine WE.rangeF (α := Unit) (fun i _ => True) (fun i _ => []) (fun i _ => [Ent.blk b4 122 [.func (.func 83) [.pointer (some ⟨b3, 0, none⟩)].toArray [].toArray], Ent.blk b3 120 (kw (shaSt (padOf la) i)), Ent.blk b2 29 (kc (List.replicate 32 0))]) (fun i _ => [fun w => RdA w ⟨bs, 0, none⟩ [v11], fun w => RdA w ⟨bn, 0, none⟩ [.int .i64 64], SlB v11 (padOf la), SlB a la, Rounds]) (fun _ _ => False) (fun _ _ => []) (fun _ _ => []) (fun _ _ => []) () H rfl TrydT.fb96 (fun W0 hO => Chunk1_seq (n := (padOf la).length / 64) (H.ccLt hO) (H.ccRob0 hO 2 rfl) (H.ccRob0 hO 0 rfl) (H.ccRob0 hO 1 rfl) (by omega) (by omega)) (by intro _ _ _ h; rw [h]; rfl) ⟨trivial, rfl, rfl, rfl⟩ ?_ ?_ ?_
  · skip
    intro i _ xs_ l_ d_ o_ T_ sc_ w9 hi_ hR_ hV_
    obtain rfl := hV_
    refine WE.reg ?_
    refine WL.as rfl rfl ?_
    refine WL.nil ?_
    refine ⟨rfl, rfl, rfl, ?_⟩
    intro w10 H
    refine WE.block ?_
    refine WE.reg ?_
    refine WL.load1 rfl TrydT.ag122 rfl rfl (by exact Blk.segAt (H.l 0 rfl) (Seg.all _) (by rfl)) ?_
    refine WL.mv rfl rfl ?_
    refine WL.callv TrydT.fb83 rfl rfl (take_c (b := b3) (s := shaSt (padOf la) i) (la := ((padOf la).drop (64 * i)).take (64 * i + 64 - 64 * i)) H.yylt (H.l 1 rfl) ((H.robL 1 rfl 3 rfl).imp fun _ h => SlB.sub3 h (by omega) (by omega)) (H.robL 1 rfl 5 rfl) (by simp; omega) (shaSt_length _ _)) ?_
    rintro _ w11 ⟨rfl, hO, hB⟩
    replace H := H.called 1 rfl hO hB
    refine WL.nil ?_
    replace H := H.conv (L' := [Ent.blk b4 122 [.func (.func 83) [.pointer (some ⟨b3, 0, none⟩)].toArray [].toArray], Ent.blk b3 120 (kw (shaSt (padOf la) (i + 1))), Ent.blk b2 29 (kc (List.replicate 32 0)), Ent.obj l_ o_, Ent.obj d_ (.deferred (some [])), Ent.sn T_ w10]) (by rw [show 64 * i + 64 - 64 * i = 64 by omega]; rfl)
    replace H := H.drop (fun p hp => List.mem_cons_of_mem _ hp)
    exact ⟨(), trivial, H⟩
  · skip
    intro _ d_0 w12 hR_ H
    refine WE.seq_reg ?_
    refine WL.alloc H rfl TrydT.ze29 rfl ?_
    intro b6 w13 H
    refine WL.nil ?_
    refine WE.seq ?_
    refine WE.seq_reg ?_
    refine WL.mv rfl rfl ?_
    refine WL.nil ?_
    refine WE.block ?_
    have hS := shaSt_length (padOf la) ((padOf la).length / 64)
    refine WE.loop (α := Nat) [7, 17, 18, 19, 20, 21, 22, 23, 24, 25, 26, 27, 28, 29, 30, 31, 32] (fun k => [(17, .int .i64 k)]) (fun k wl => k ≤ 32 ∧ St X w wl [] [Ent.blk b6 29 (kc (fillZ 32 k (outOf (shaSt (padOf la) ((padOf la).length / 64))))), Ent.obj d_0 (.deferred (some [])), Ent.blk b4 122 [.func (.func 83) [.pointer (some ⟨b3, 0, none⟩)].toArray [].toArray], Ent.blk b3 120 (kw (shaSt (padOf la) ((padOf la).length / 64))), Ent.blk b2 29 (kc (List.replicate 32 0))] [fun w => RdA w ⟨bs, 0, none⟩ [v11], fun w => RdA w ⟨bn, 0, none⟩ [.int .i64 64], SlB v11 (padOf la), SlB a la, Rounds]) (fun k => 32 - k) 0 ⟨rfl, trivial⟩ ⟨Nat.zero_le _, by rw [fillZ_zero]; exact H⟩ ?_
    intro k γ0 w14 hI
    try dsimp only at hI
    obtain ⟨hi, H⟩ := hI
    refine WE.seq_reg ?_
    refine WL.pv (PV.lss rfl rfl rfl) rfl ?_
    refine WL.nil ?_
    refine WE.seq ?_
    refine WE.cond rfl (fun hc18 => ?_) (fun hc18 => ?_)
    · skip
      try simp only [decide_eq_true_eq, decide_eq_false_iff_not, ne_eq, Decidable.not_not, Bool.not_eq_true', Bool.not_eq_false', Bool.and_eq_true, Bool.or_eq_true, Bool.not_not, Bool.and_eq_false_iff, Bool.or_eq_false_iff, Int.not_lt, Int.not_le] at hc18
      have hlt4 : k < 32 := by omega
      refine WE.skip ?_
      refine WE.seq ?_
      refine WE.block ?_
      refine WE.seq_reg ?_
      refine WL.mv rfl rfl ?_
      refine WL.as rfl rfl ?_
      refine WL.nil ?_
      refine WE.reg ?_
      refine WL.mv rfl rfl ?_
      refine WL.mv rfl rfl ?_
      refine WL.pv (PV.eq (v' := .int .i64 ((k / 4 : Nat) : Int)) (PV.quo64 rfl rfl rfl (by omega) (by omega) (by omega)) (by rfl)) rfl ?_
      refine WL.pv (PV.indexArr rfl TrydT.ar120 TrydT.sz118 rfl rfl (by omega) (by omega)) rfl ?_
      refine WL.load1 rfl TrydT.ag118 rfl rfl (by exact Blk.segAt (H.l 3 rfl) (Seg.word (k / 4) (by rw [hS]; omega)) (by omega)) ?_
      refine WL.mv rfl rfl ?_
      refine WL.pv (PV.eq (v' := .int .i64 ((k % 4 : Nat) : Int)) (PV.rem64 rfl rfl rfl (by omega) (by omega)) (by rfl)) rfl ?_
      refine WL.pv (PV.eq (v' := .int .i64 ((8 * (k % 4) : Nat) : Int)) (PV.mul64 rfl rfl rfl (by omega) (by omega)) (by rfl)) rfl ?_
      refine WL.pv (PV.eq (v' := .int .i64 ((24 - 8 * (k % 4) : Nat) : Int)) (PV.sub64 rfl rfl rfl (by omega) (by omega)) (by (congr 1; omega))) rfl ?_
      refine WL.pv (PV.shr32 (n := 24 - 8 * (k % 4)) rfl rfl rfl (by omega)) rfl ?_
      refine WL.pv (PV.c32_8 rfl TrydT.in118 TrydT.in5 rfl) rfl ?_
      refine WL.pv (PV.indexArr rfl TrydT.ar29 TrydT.sz5 rfl rfl (by omega) (by omega)) rfl ?_
      refine WL.storeL H 0 rfl rfl rfl (new := _) rfl (by exact TrydT.sz5) (by exact one_lit _ rfl) (Laid.at (Laid.byteA k (by rw [fillZ_length (by omega) (by rw [outOf_length]; omega)]; omega)) (by (simp; done))) rfl ?_
      intro w15 H
      refine WL.nil ?_
      refine WE.reg ?_
      refine WL.pv (PV.add64 rfl rfl rfl (by omega) (by omega)) rfl ?_
      refine WL.mv rfl rfl ?_
      refine WL.nil ?_
      have e := fillZ_set (m := 32) (k := k) (l := outOf (shaSt (padOf la) ((padOf la).length / 64))) (by omega) (by rw [outOf_length]; omega)
      rw [outOf_get _ _ _ (by rw [hS]; omega)] at e
      exact ⟨k + 1, (by repeat (first | with_reducible exact Off.refl _ _ | refine Off.upd rfl ?_ | refine Off.setAll rfl ?_ | refine Off.forget' rfl ?_)), ⟨rfl, trivial⟩, rfl, ⟨by omega, H.conv (by rw [← e]; rfl)⟩, (by omega)⟩
    · skip
      try simp only [decide_eq_true_eq, decide_eq_false_iff_not, ne_eq, Decidable.not_not, Bool.not_eq_true', Bool.not_eq_false', Bool.and_eq_true, Bool.or_eq_true, Bool.not_not, Bool.and_eq_false_iff, Bool.or_eq_false_iff, Int.not_lt, Int.not_le] at hc18
      obtain rfl : k = 32 := by omega
      refine WE.exit ?_
      refine WE.seq_reg ?_
      have e32 := fillZ_all (m := 32) (l := outOf (shaSt (padOf la) ((padOf la).length / 64))) (outOf_length _)
      rw [e32] at H
      refine WL.loadR rfl TrydT.ag29 rfl rfl (by exact Blk.segAt (H.l 0 rfl) (Seg.all _) (by rfl)) (by exact TrydT.sz29) ?_
      refine WL.storeL H 4 rfl rfl rfl (new := _) rfl (by exact TrydT.sz29) (by exact kc_one _) (Laid.at (Laid.all (by rfl)) (by rfl)) rfl ?_
      intro w16 H
      refine WL.nil ?_
      refine WE.ret ?_
      (obtain ⟨w17, hl_0, H⟩ := H.unmark 1 rfl)
      refine ⟨[_], _, (hl_0 _ (.nil _)), ⟨⟨_, rfl, run_loadVar_aggR TrydT.ag29 (by exact Blk.segAt (H.l 3 rfl) (Seg.all _) rfl) (by exact TrydT.sz29)⟩, trivial⟩, ?_⟩
      exact ⟨rfl, H.toOut0⟩
  · skip
    intro e_ _ d_0 w18 he_ hR_ H
    exact hR_.elim

end Go.Sp.Tryd
