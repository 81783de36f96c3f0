/- Walks of functions, printed by a program of this session (gen.py) from notes on each function. -/
import Derived.Test.YtdllpckpfkjkeaaDoorQf
import Derived.Test.YtdllpckpfkjkeaaDoorQt
set_option maxRecDepth 100000
set_option maxHeartbeats 1000000
set_option linter.unusedVariables false
set_option linter.unusedSimpArgs false
namespace Go.Sp.Tryd
open Go.Proofs Go.RowKit Go.Sp
theorem PutCommutesNe_c {X : Nat → Prop} {w : World} {i : Int} {s va vb : Value} {l : List En} {ka kb la lb : List UInt8} (hX : ∀ b, X b → b < w.heap.size) (hf0 : Rob X (SlE s l) w) (hf1 : Rob X (Vals l) w) (hf2 : Rob X (SlB va la) w) (hf3 : Rob X (SlB vb lb) w) (hf4 : Rob X (Rounds) w) (hi : 0 ≤ i ∧ i ≤ 256) (hne : ka ≠ kb) (hkl : KL l) (hlen : l.length ≤ 9223372036854775807) (hvl : ∀ e ∈ l, e.v.length ≤ 9223372036854775807) (hka : ka.length = 32) (hkb : kb.length = 32) (hla : la.length ≤ 9223372036854775807) (hlb : lb.length ≤ 9223372036854775807) :
    Ret Tryd.prog 3 [.int .i64 i, s, .agg ((kc ka ++ [va]) ++ (kc kb ++ [vb])).toArray].toArray w fun v w' => v = .bool true ∧ Out Nil w w' := by
  refine Ret.of_body (N := 98) Tryd.func3 rfl rfl (by simp) ?_
  have H := St.begin hX
  replace H := H.add (rob0 hf4)
  replace H := H.add (rob0 hf3)
  replace H := H.add (rob0 hf2)
  replace H := H.add (rob0 hf1)
  replace H := H.add (rob0 hf0)
  have hva1 : va.oneCell' = true := SlC.one1 (hf2.here)
  have hvb1 : vb.oneCell' = true := SlC.one1 (hf3.here)
  refine WE.seq_reg ?_
  refine WL.box (l := (kc ka ++ [va]) ++ (kc kb ++ [vb])) H rfl (by rfl) rfl ?_
  intro b5 w1 H
  refine WL.as rfl rfl ?_
  refine WL.nil ?_
  refine WE.seq_reg ?_
  refine WL.mv rfl rfl ?_
  refine WL.mv rfl rfl ?_
  refine WL.call TrydT.fb15 rfl (Tree_c (i := i) (l := l) H.yylt (by exact H.rob 0 rfl) (by exact H.rob 1 rfl) (by exact H.rob 4 rfl) (by assumption) (by assumption) (by assumption)) ?_
  rintro _ w2 ⟨bv17, sv17, Tv17, mv17, rfl, hTv17, hbv17, hO, hS_, hR⟩
  replace H := ((H.out hO).add hR).add hS_
  refine WL.mv rfl rfl ?_
  refine WL.pv (PV.extract rfl rfl rfl) rfl ?_
  refine WL.pv (PV.extract rfl rfl rfl) rfl ?_
  refine WL.pv (PV.extract rfl rfl rfl) rfl ?_
  refine WL.as rfl rfl ?_
  refine WL.as rfl rfl ?_
  refine WL.as rfl rfl ?_
  refine WL.nil ?_
  refine WE.seq_reg ?_
  refine WL.mv rfl rfl ?_
  refine WL.call TrydT.fb16 rfl (Hash_c (i := i) H.yylt  (by assumption)) ?_
  rintro _ w3 ⟨bhv22, bcv22, rfl, hO, hge, hB, hR⟩
  replace H := H.pushR hO (Ent.blk bcv22 127 [.int .i64 0]) hB (fun c hc => by cases hc; exact hge) hR
  refine WL.as rfl rfl ?_
  refine WL.nil ?_
  refine WE.seq ?_
  refine WE.seq_reg ?_
  refine WL.mv rfl rfl ?_
  refine WL.pv (PV.not rfl rfl) rfl ?_
  refine WL.mv rfl rfl ?_
  refine WL.split (t := 25) rfl (fun hg25 => ?_) (fun hg25 => ?_)
  · skip
    refine WL.known (t := 24) (c := true) rfl hg25 ?_
    try simp only [decide_eq_true_eq, decide_eq_false_iff_not, ne_eq, Decidable.not_not, Bool.not_eq_true', Bool.not_eq_false', Bool.and_eq_true, Bool.or_eq_true, Bool.not_not, Bool.and_eq_false_iff, Bool.or_eq_false_iff, Int.not_lt, Int.not_le] at hg25
    refine WL.off rfl ?_
    refine WL.off rfl ?_
    refine WL.off rfl ?_
    refine WL.off rfl ?_
    refine WL.off rfl ?_
    refine WL.pv (PV.pick_t rfl rfl rfl) rfl ?_
    refine WL.mv rfl rfl ?_
    refine WL.off rfl ?_
    refine WL.off rfl ?_
    refine WL.off rfl ?_
    refine WL.off rfl ?_
    refine WL.off rfl ?_
    refine WL.pv (PV.pick_t rfl rfl rfl) rfl ?_
    refine WL.nil ?_
    refine WE.cond_t rfl ?_
    refine WE.seq_reg ?_
    refine WL.call TrydT.fb17 rfl (alive09_c  H.yylt (by exact H.rob 7 rfl) ) ?_
    rintro _ w4 ⟨rfl, hO⟩
    replace H := H.out hO
    refine WL.as rfl rfl ?_
    refine WL.nil ?_
    refine WE.ret ?_
    refine ⟨[_], _, .nil _, ⟨rfl, trivial⟩, ?_⟩
    refine ⟨?_, H.toOut0⟩
    rfl
  · skip
    refine WL.known (t := 24) (c := false) rfl hg25 ?_
    try simp only [decide_eq_true_eq, decide_eq_false_iff_not, ne_eq, Decidable.not_not, Bool.not_eq_true', Bool.not_eq_false', Bool.and_eq_true, Bool.or_eq_true, Bool.not_not, Bool.and_eq_false_iff, Bool.or_eq_false_iff, Int.not_lt, Int.not_le] at hg25
    obtain ⟨rfl, -, hfew⟩ := hbv17 (by exact hg25)
    have hok := ofM_ok l hkl
    have hpm := ofM_pm l hkl
    have hml : (ofM l).length ≤ 12 := Nat.le_trans hok.2.2.1 hfew.1
    have hvs := ofM_short hkl hfew.2
    have hsv : ShortV (ofM l) := fun e he => Nat.le_trans (hvs e he) (by decide)
    replace H := H.add (by exact (H.rob 4 rfl : Rob _ (Vals l) _).imp fun _ h => h.sub hok.2.2.2)
    have hone : OneS (ofM l) := OneS.of (H.p 0 rfl)
    have hfit : Tv17.er.fit 0 := hTv17 ▸ grow_fit hpm
    have hlA := putM_len (ofM l) ⟨ka, va, la⟩
    have hlB := putM_len (ofM l) ⟨kb, vb, lb⟩
    have hlAB := putM_len (putM (ofM l) ⟨ka, va, la⟩) ⟨kb, vb, lb⟩
    refine WL.pv (PV.indexArr rfl TrydT.ar28 TrydT.sz27 rfl rfl (by omega) (by omega)) rfl ?_
    refine WL.pv (PV.fieldAddr rfl TrydT.fd27_1 rfl) rfl ?_
    refine WL.load1 rfl TrydT.ag25 rfl rfl (by exact Blk.segAt (H.l 1 rfl) (Seg.l (Seg.r (Seg.all _) (by with_reducible rfl))) (by (simp [kc_length, kw_length, *]; done))) ?_
    refine WL.pv (PV.lenS (H.p 6 rfl) TrydT.sl25 rfl) rfl ?_
    refine WL.pv (PV.gtr rfl rfl rfl) rfl ?_
    refine WL.pv (PV.pick_f rfl rfl rfl) rfl ?_
    refine WL.mv rfl rfl ?_
    refine WL.split (t := 32) rfl (fun hg32 => ?_) (fun hg32 => ?_)
    · skip
      refine WL.known (t := 31) (c := true) rfl hg32 ?_
      try simp only [decide_eq_true_eq, decide_eq_false_iff_not, ne_eq, Decidable.not_not, Bool.not_eq_true', Bool.not_eq_false', Bool.and_eq_true, Bool.or_eq_true, Bool.not_not, Bool.and_eq_false_iff, Bool.or_eq_false_iff, Int.not_lt, Int.not_le] at hg32
      refine WL.off rfl ?_
      refine WL.off rfl ?_
      refine WL.off rfl ?_
      refine WL.off rfl ?_
      refine WL.off rfl ?_
      refine WL.pv (PV.pick_t rfl rfl rfl) rfl ?_
      refine WL.nil ?_
      refine WE.cond_t rfl ?_
      refine WE.seq_reg ?_
      refine WL.call TrydT.fb17 rfl (alive09_c  H.yylt (by exact H.rob 8 rfl) ) ?_
      rintro _ w5 ⟨rfl, hO⟩
      replace H := H.out hO
      refine WL.as rfl rfl ?_
      refine WL.nil ?_
      refine WE.ret ?_
      refine ⟨[_], _, .nil _, ⟨rfl, trivial⟩, ?_⟩
      refine ⟨?_, H.toOut0⟩
      rfl
    · skip
      refine WL.known (t := 31) (c := false) rfl hg32 ?_
      try simp only [decide_eq_true_eq, decide_eq_false_iff_not, ne_eq, Decidable.not_not, Bool.not_eq_true', Bool.not_eq_false', Bool.and_eq_true, Bool.or_eq_true, Bool.not_not, Bool.and_eq_false_iff, Bool.or_eq_false_iff, Int.not_lt, Int.not_le] at hg32
      refine WL.pv (PV.indexArr rfl TrydT.ar28 TrydT.sz27 rfl rfl (by omega) (by omega)) rfl ?_
      refine WL.pv (PV.fieldAddr rfl TrydT.fd27_1 rfl) rfl ?_
      refine WL.load1 rfl TrydT.ag25 rfl rfl (by exact Blk.segAt (H.l 1 rfl) (Seg.r (Seg.r (Seg.all _) (by with_reducible rfl)) (by with_reducible rfl)) (by (simp [kc_length, kw_length, *]; done))) ?_
      refine WL.pv (PV.lenS (H.p 7 rfl) TrydT.sl25 rfl) rfl ?_
      refine WL.pv (PV.gtr rfl rfl rfl) rfl ?_
      refine WL.pv (PV.pick_f rfl rfl rfl) rfl ?_
      refine WL.nil ?_
      refine WE.cond rfl (fun hc38 => ?_) (fun hc38 => ?_)
      · skip
        try simp only [decide_eq_true_eq, decide_eq_false_iff_not, ne_eq, Decidable.not_not, Bool.not_eq_true', Bool.not_eq_false', Bool.and_eq_true, Bool.or_eq_true, Bool.not_not, Bool.and_eq_false_iff, Bool.or_eq_false_iff, Int.not_lt, Int.not_le] at hc38
        refine WE.seq_reg ?_
        refine WL.call TrydT.fb17 rfl (alive09_c  H.yylt (by exact H.rob 8 rfl) ) ?_
        rintro _ w6 ⟨rfl, hO⟩
        replace H := H.out hO
        refine WL.as rfl rfl ?_
        refine WL.nil ?_
        refine WE.ret ?_
        refine ⟨[_], _, .nil _, ⟨rfl, trivial⟩, ?_⟩
        refine ⟨?_, H.toOut0⟩
        rfl
      · skip
        try simp only [decide_eq_true_eq, decide_eq_false_iff_not, ne_eq, Decidable.not_not, Bool.not_eq_true', Bool.not_eq_false', Bool.and_eq_true, Bool.or_eq_true, Bool.not_not, Bool.and_eq_false_iff, Bool.or_eq_false_iff, Int.not_lt, Int.not_le] at hc38
        have hla2 : la.length ≤ 200 := by omega
        have hlb2 : lb.length ≤ 200 := by omega
        refine WE.skip ?_
        refine WE.seq_draw (.take 0 (.take 1 (.take 2 (.take 3 (.take 4 (.take 6 (.take 7 (.pick1 5 (.pick1 8 (.take 9 .done)))))))))) TrydT.mixed (by kernel_rfl) ?_
        replace H := H.out (Out.drew _)
        refine WP.mv rfl rfl rfl ?_
        refine WP.mv rfl rfl rfl ?_
        refine WP.mv rfl rfl rfl ?_
        refine WP.take_pure rfl rfl (PV.indexArr rfl TrydT.ar28 TrydT.sz27 rfl rfl (by omega) (by omega)) ?_
        refine WP.readA rfl rfl rfl TrydT.ag27 rfl (by exact Blk.segAt (H.l 1 rfl) (Seg.l (Seg.all _)) (by rfl)) (by (rw [TrydT.sz27]; refine congrArg some ?_; (simp only [kc_length, kw_length, List.length_replicate, List.length_append, List.length_cons, List.length_nil, cutI_length, shaOf_length, dig_length, valD_length, rootM_length]; omega))) ?_
        refine WP.take_pure rfl rfl (PV.indexArr rfl TrydT.ar28 TrydT.sz27 rfl rfl (by omega) (by omega)) ?_
        refine WP.readA rfl rfl rfl TrydT.ag27 rfl (by exact Blk.segAt (H.l 1 rfl) (Seg.r (Seg.all _) (by with_reducible rfl)) (by (simp [kc_length, kw_length, *]; done))) (by (rw [TrydT.sz27]; refine congrArg some ?_; (simp only [kc_length, kw_length, List.length_replicate, List.length_append, List.length_cons, List.length_nil, cutI_length, shaOf_length, dig_length, valD_length, rootM_length]; omega))) ?_
        refine WP.pick1 rfl ?_
        refine WL.call TrydT.fb18 rfl (Put2_c (T := Tv17) (M := (ofM l)) (k := ka) (lv := la) (s := va) (bits := i) H.yylt (H.l 0 rfl) (by exact H.robL 0 rfl 1 rfl) (by exact H.robL 0 rfl 3 rfl) (by exact H.robL 0 rfl 8 rfl) hi hka (by omega) (by exact (H.robL 0 rfl 6 rfl : Rob _ (SlB va la) _).wk1) hTv17 hok.2.1 hok.1 (by omega)) ?_
        rintro _ w7 ⟨Tv45, mv45, rfl, hTv45, hO, hB, hR⟩
        replace H := H.calledR 0 rfl hO hB hR
        refine WL.nil ⟨(List.forall_mem_cons.2 ⟨(fun _ _ => (by exact Blk.segAt (H.l 1 rfl) (Seg.r (Seg.all _) (by with_reducible rfl)) (by (simp [kc_length, kw_length, *]; done)))), (List.forall_mem_cons.2 ⟨(by exact (fun h => absurd (show waits _ 5 4 = false from h) (by decide +kernel))), (fun _ h => by cases h)⟩)⟩), ?_⟩
        refine WP.pick1 rfl ?_
        refine WL.call TrydT.fb18 rfl (Put2_c (T := Tv45) (M := (putM (ofM l) ⟨ka, va, la⟩)) (k := kb) (lv := lb) (s := vb) (bits := i) H.yylt (H.l 0 rfl) (by exact H.robL 0 rfl 2 rfl) (by exact H.robL 0 rfl 0 rfl) (by exact H.robL 0 rfl 9 rfl) hi hkb (by omega) (by exact (H.robL 0 rfl 8 rfl : Rob _ (SlB vb lb) _).wk1) hTv45 (putM_kl hok.2.1 hka) (putM_srt hok.1 hok.2.1 hka) (by omega)) ?_
        rintro _ w8 ⟨Tv48, mv48, rfl, hTv48, hO, hB, hR⟩
        replace H := H.calledR 0 rfl hO hB hR
        refine WL.nil ⟨(List.forall_mem_cons.2 ⟨(by exact (fun h => absurd (show waits _ 8 7 = false from h) (by decide +kernel))), (List.forall_mem_cons.2 ⟨(by exact (fun h => absurd (show waits _ 8 4 = false from h) (by decide +kernel))), (fun _ h => by cases h)⟩)⟩), ?_⟩
        refine WP.as rfl rfl rfl ?_
        refine WP.done ?_
        refine WE.seq_draw (.take 0 (.take 1 (.take 2 (.take 3 (.take 4 (.take 6 (.take 7 (.pick1 5 (.pick1 8 (.take 9 .done)))))))))) TrydT.mixed (by kernel_rfl) ?_
        replace H := H.out (Out.drew _)
        refine WP.mv rfl rfl rfl ?_
        refine WP.mv rfl rfl rfl ?_
        refine WP.mv rfl rfl rfl ?_
        refine WP.take_pure rfl rfl (PV.indexArr rfl TrydT.ar28 TrydT.sz27 rfl rfl (by omega) (by omega)) ?_
        refine WP.readA rfl rfl rfl TrydT.ag27 rfl (by exact Blk.segAt (H.l 1 rfl) (Seg.r (Seg.all _) (by with_reducible rfl)) (by (simp [kc_length, kw_length, *]; done))) (by (rw [TrydT.sz27]; refine congrArg some ?_; (simp only [kc_length, kw_length, List.length_replicate, List.length_append, List.length_cons, List.length_nil, cutI_length, shaOf_length, dig_length, valD_length, rootM_length]; omega))) ?_
        refine WP.take_pure rfl rfl (PV.indexArr rfl TrydT.ar28 TrydT.sz27 rfl rfl (by omega) (by omega)) ?_
        refine WP.readA rfl rfl rfl TrydT.ag27 rfl (by exact Blk.segAt (H.l 1 rfl) (Seg.l (Seg.all _)) (by rfl)) (by (rw [TrydT.sz27]; refine congrArg some ?_; (simp only [kc_length, kw_length, List.length_replicate, List.length_append, List.length_cons, List.length_nil, cutI_length, shaOf_length, dig_length, valD_length, rootM_length]; omega))) ?_
        refine WP.pick1 rfl ?_
        refine WL.call TrydT.fb18 rfl (Put2_c (T := Tv17) (M := (ofM l)) (k := kb) (lv := lb) (s := vb) (bits := i) H.yylt (H.l 0 rfl) (by exact H.robL 0 rfl 3 rfl) (by exact H.robL 0 rfl 5 rfl) (by exact H.robL 0 rfl 10 rfl) hi hkb (by omega) (by exact (H.robL 0 rfl 9 rfl : Rob _ (SlB vb lb) _).wk1) hTv17 hok.2.1 hok.1 (by omega)) ?_
        rintro _ w9 ⟨Tv54, mv54, rfl, hTv54, hO, hB, hR⟩
        replace H := H.calledR 0 rfl hO hB hR
        refine WL.nil ⟨(List.forall_mem_cons.2 ⟨(fun _ _ => (by exact Blk.segAt (H.l 1 rfl) (Seg.l (Seg.all _)) (by rfl))), (List.forall_mem_cons.2 ⟨(by exact (fun h => absurd (show waits _ 5 4 = false from h) (by decide +kernel))), (fun _ h => by cases h)⟩)⟩), ?_⟩
        refine WP.pick1 rfl ?_
        refine WL.call TrydT.fb18 rfl (Put2_c (T := Tv54) (M := (putM (ofM l) ⟨kb, vb, lb⟩)) (k := ka) (lv := la) (s := va) (bits := i) H.yylt (H.l 0 rfl) (by exact H.robL 0 rfl 4 rfl) (by exact H.robL 0 rfl 0 rfl) (by exact H.robL 0 rfl 11 rfl) hi hka (by omega) (by exact (H.robL 0 rfl 9 rfl : Rob _ (SlB va la) _).wk1) hTv54 (putM_kl hok.2.1 hkb) (putM_srt hok.1 hok.2.1 hkb) (by omega)) ?_
        rintro _ w10 ⟨Tv57, mv57, rfl, hTv57, hO, hB, hR⟩
        replace H := H.calledR 0 rfl hO hB hR
        have hTD : Tv57.er = Tv48.er := by rw [hTv57, hTv48, putM_comm hok.1 hok.2.1 hkb hka hne.symm]
        refine WL.nil ⟨(List.forall_mem_cons.2 ⟨(by exact (fun h => absurd (show waits _ 8 7 = false from h) (by decide +kernel))), (List.forall_mem_cons.2 ⟨(by exact (fun h => absurd (show waits _ 8 4 = false from h) (by decide +kernel))), (fun _ h => by cases h)⟩)⟩), ?_⟩
        refine WP.as rfl rfl rfl ?_
        refine WP.done ?_
        refine WE.seq_reg ?_
        refine WL.mv rfl rfl ?_
        refine WL.mv rfl rfl ?_
        refine WL.pv (PV.indexArr rfl TrydT.ar28 TrydT.sz27 rfl rfl (by omega) (by omega)) rfl ?_
        refine WL.loadR rfl TrydT.ag27 rfl rfl (by exact Blk.segAt (H.l 1 rfl) (Seg.r (Seg.all _) (by with_reducible rfl)) (by (simp [kc_length, kw_length, *]; done))) (by (rw [TrydT.sz27]; refine congrArg some ?_; (simp only [kc_length, kw_length, List.length_replicate, List.length_append, List.length_cons, List.length_nil, cutI_length, shaOf_length, dig_length, valD_length, rootM_length]; omega))) ?_
        refine WL.call TrydT.fb18 rfl (Put2_c (T := Tv48) (M := (putM (putM (ofM l) ⟨ka, va, la⟩) ⟨kb, vb, lb⟩)) (k := kb) (lv := lb) (s := vb) (bits := i) H.yylt (H.l 0 rfl) (by exact H.robL 0 rfl 5 rfl) (by exact H.robL 0 rfl 2 rfl) (by exact H.robL 0 rfl 12 rfl) hi hkb (by omega) (by exact (H.robL 0 rfl 11 rfl : Rob _ (SlB vb lb) _).wk1) hTv48 (putM_kl (putM_kl hok.2.1 hka) hkb) (putM_srt (putM_srt hok.1 hok.2.1 hka) (putM_kl hok.2.1 hka) hkb) (by omega)) ?_
        rintro _ w11 ⟨Tv62, mv62, rfl, hTv62, hO, hB, hR⟩
        replace H := H.calledR 0 rfl hO hB hR
        have hTA : Tv62.er = Tv48.er := by rw [hTv62, hTv48, putM_idem (putM_srt hok.1 hok.2.1 hka) (putM_kl hok.2.1 hka) hkb]
        refine WL.as rfl rfl ?_
        refine WL.nil ?_
        refine WE.seq_reg ?_
        refine WL.call TrydT.fb17 rfl (alive09_c  H.yylt (by exact H.rob 13 rfl) ) ?_
        rintro _ w12 ⟨rfl, hO⟩
        replace H := H.out hO
        refine WL.mv rfl rfl ?_
        refine WL.known (t := 64) (c := true) rfl (by rfl) ?_
        refine WL.mv rfl rfl ?_
        refine WL.mv rfl rfl ?_
        refine WL.call TrydT.fb19 rfl (Digest_c (T := Tv48) (bits := i) H.yylt (H.l 0 rfl) (by exact H.robL 0 rfl 6 rfl) (by exact H.robL 0 rfl 3 rfl) (by exact H.robL 0 rfl 13 rfl) (by assumption)) ?_
        rintro _ w13 ⟨mv67, rfl, hO, hB⟩
        replace H := H.called 0 rfl hO hB
        refine WL.mv rfl rfl ?_
        refine WL.mv rfl rfl ?_
        refine WL.call TrydT.fb19 rfl (Digest_c (T := Tv57) (bits := i) H.yylt (H.l 0 rfl) (by exact H.robL 0 rfl 6 rfl) (by exact H.robL 0 rfl 1 rfl) (by exact H.robL 0 rfl 13 rfl) (by assumption)) ?_
        rintro _ w14 ⟨mv70, rfl, hO, hB⟩
        replace H := H.called 0 rfl hO hB
        refine WL.pv (PV.eqlB rfl TrydT.ar36 TrydT.in5 TrydT.sz5 (by kernel_rfl) rfl rfl (by exact dig_length _ _) (by exact dig_length _ _)) rfl ?_
        refine WL.mv rfl rfl ?_
        refine WL.known (t := 72) (c := true) rfl (by simp [hTD]) ?_
        refine WL.off rfl ?_
        refine WL.off rfl ?_
        refine WL.off rfl ?_
        refine WL.off rfl ?_
        refine WL.off rfl ?_
        refine WL.off rfl ?_
        refine WL.off rfl ?_
        refine WL.known (t := 71) (c := true) rfl (by simp [hTD]) ?_
        refine WL.pv (PV.pick_t rfl rfl rfl) rfl ?_
        refine WL.pv (PV.pick_t rfl rfl rfl) rfl ?_
        refine WL.mv rfl rfl ?_
        refine WL.mv rfl rfl ?_
        refine WL.mv rfl rfl ?_
        refine WL.call TrydT.fb19 rfl (Digest_c (T := Tv62) (bits := i) H.yylt (H.l 0 rfl) (by exact H.robL 0 rfl 6 rfl) (by exact H.robL 0 rfl 0 rfl) (by exact H.robL 0 rfl 13 rfl) (by assumption)) ?_
        rintro _ w15 ⟨mv85, rfl, hO, hB⟩
        replace H := H.called 0 rfl hO hB
        refine WL.mv rfl rfl ?_
        refine WL.mv rfl rfl ?_
        refine WL.call TrydT.fb19 rfl (Digest_c (T := Tv48) (bits := i) H.yylt (H.l 0 rfl) (by exact H.robL 0 rfl 6 rfl) (by exact H.robL 0 rfl 3 rfl) (by exact H.robL 0 rfl 13 rfl) (by assumption)) ?_
        rintro _ w16 ⟨mv88, rfl, hO, hB⟩
        replace H := H.called 0 rfl hO hB
        refine WL.pv (PV.eqlB rfl TrydT.ar36 TrydT.in5 TrydT.sz5 (by kernel_rfl) rfl rfl (by exact dig_length _ _) (by exact dig_length _ _)) rfl ?_
        refine WL.pv (PV.pick_t rfl rfl rfl) rfl ?_
        refine WL.mv rfl rfl ?_
        refine WL.known (t := 91) (c := true) rfl (by (simp [hTA]; done)) ?_
        refine WL.mv rfl rfl ?_
        refine WL.call TrydT.fb20 rfl (Len_c (T := Tv62) (bits := i) H.yylt (by exact H.rob 0 rfl) ) ?_
        rintro _ w17 ⟨rfl, hO⟩
        replace H := H.out hO
        refine WL.mv rfl rfl ?_
        refine WL.call TrydT.fb20 rfl (Len_c (T := Tv48) (bits := i) H.yylt (by exact H.rob 3 rfl) ) ?_
        rintro _ w18 ⟨rfl, hO⟩
        replace H := H.out hO
        refine WL.pv (PV.eql rfl rfl rfl) rfl ?_
        refine WL.pv (PV.pick_t rfl rfl rfl) rfl ?_
        refine WL.as rfl rfl ?_
        refine WL.nil ?_
        refine WE.ret ?_
        refine ⟨[_], _, .nil _, ⟨rfl, trivial⟩, ?_⟩
        refine ⟨?_, H.toOut0⟩
        show Value.bool _ = Value.bool true
        (simp [hTA]; done)

theorem PutCommutesEq_c {X : Nat → Prop} {w : World} {i : Int} {s va vb : Value} {l : List En} {ka la lb : List UInt8} (hX : ∀ b, X b → b < w.heap.size) (hf0 : Rob X (SlE s l) w) (hf1 : Rob X (Vals l) w) (hf2 : Rob X (SlB va la) w) (hf3 : Rob X (SlB vb lb) w) (hf4 : Rob X (Rounds) w) (hi : 0 ≤ i ∧ i ≤ 256) (hkl : KL l) (hlen : l.length ≤ 9223372036854775807) (hvl : ∀ e ∈ l, e.v.length ≤ 9223372036854775807) (hka : ka.length = 32) (hla : la.length ≤ 9223372036854775807) (hlb : lb.length ≤ 9223372036854775807) :
    Ret Tryd.prog 3 [.int .i64 i, s, .agg ((kc ka ++ [va]) ++ (kc ka ++ [vb])).toArray].toArray w fun v w' => v = .bool true ∧ Out Nil w w' := by
  refine Ret.of_body (N := 98) Tryd.func3 rfl rfl (by simp) ?_
  have H := St.begin hX
  replace H := H.add (rob0 hf4)
  replace H := H.add (rob0 hf3)
  replace H := H.add (rob0 hf2)
  replace H := H.add (rob0 hf1)
  replace H := H.add (rob0 hf0)
  have hva1 : va.oneCell' = true := SlC.one1 (hf2.here)
  have hvb1 : vb.oneCell' = true := SlC.one1 (hf3.here)
  refine WE.seq_reg ?_
  refine WL.box (l := (kc ka ++ [va]) ++ (kc ka ++ [vb])) H rfl (by rfl) rfl ?_
  intro b5 w1 H
  refine WL.as rfl rfl ?_
  refine WL.nil ?_
  refine WE.seq_reg ?_
  refine WL.mv rfl rfl ?_
  refine WL.mv rfl rfl ?_
  refine WL.call TrydT.fb15 rfl (Tree_c (i := i) (l := l) H.yylt (by exact H.rob 0 rfl) (by exact H.rob 1 rfl) (by exact H.rob 4 rfl) (by assumption) (by assumption) (by assumption)) ?_
  rintro _ w2 ⟨bv17, sv17, Tv17, mv17, rfl, hTv17, hbv17, hO, hS_, hR⟩
  replace H := ((H.out hO).add hR).add hS_
  refine WL.mv rfl rfl ?_
  refine WL.pv (PV.extract rfl rfl rfl) rfl ?_
  refine WL.pv (PV.extract rfl rfl rfl) rfl ?_
  refine WL.pv (PV.extract rfl rfl rfl) rfl ?_
  refine WL.as rfl rfl ?_
  refine WL.as rfl rfl ?_
  refine WL.as rfl rfl ?_
  refine WL.nil ?_
  refine WE.seq_reg ?_
  refine WL.mv rfl rfl ?_
  refine WL.call TrydT.fb16 rfl (Hash_c (i := i) H.yylt  (by assumption)) ?_
  rintro _ w3 ⟨bhv22, bcv22, rfl, hO, hge, hB, hR⟩
  replace H := H.pushR hO (Ent.blk bcv22 127 [.int .i64 0]) hB (fun c hc => by cases hc; exact hge) hR
  refine WL.as rfl rfl ?_
  refine WL.nil ?_
  refine WE.seq ?_
  refine WE.seq_reg ?_
  refine WL.mv rfl rfl ?_
  refine WL.pv (PV.not rfl rfl) rfl ?_
  refine WL.mv rfl rfl ?_
  refine WL.split (t := 25) rfl (fun hg25 => ?_) (fun hg25 => ?_)
  · skip
    refine WL.known (t := 24) (c := true) rfl hg25 ?_
    try simp only [decide_eq_true_eq, decide_eq_false_iff_not, ne_eq, Decidable.not_not, Bool.not_eq_true', Bool.not_eq_false', Bool.and_eq_true, Bool.or_eq_true, Bool.not_not, Bool.and_eq_false_iff, Bool.or_eq_false_iff, Int.not_lt, Int.not_le] at hg25
    refine WL.off rfl ?_
    refine WL.off rfl ?_
    refine WL.off rfl ?_
    refine WL.off rfl ?_
    refine WL.off rfl ?_
    refine WL.pv (PV.pick_t rfl rfl rfl) rfl ?_
    refine WL.mv rfl rfl ?_
    refine WL.off rfl ?_
    refine WL.off rfl ?_
    refine WL.off rfl ?_
    refine WL.off rfl ?_
    refine WL.off rfl ?_
    refine WL.pv (PV.pick_t rfl rfl rfl) rfl ?_
    refine WL.nil ?_
    refine WE.cond_t rfl ?_
    refine WE.seq_reg ?_
    refine WL.call TrydT.fb17 rfl (alive09_c  H.yylt (by exact H.rob 7 rfl) ) ?_
    rintro _ w4 ⟨rfl, hO⟩
    replace H := H.out hO
    refine WL.as rfl rfl ?_
    refine WL.nil ?_
    refine WE.ret ?_
    refine ⟨[_], _, .nil _, ⟨rfl, trivial⟩, ?_⟩
    refine ⟨?_, H.toOut0⟩
    rfl
  · skip
    refine WL.known (t := 24) (c := false) rfl hg25 ?_
    try simp only [decide_eq_true_eq, decide_eq_false_iff_not, ne_eq, Decidable.not_not, Bool.not_eq_true', Bool.not_eq_false', Bool.and_eq_true, Bool.or_eq_true, Bool.not_not, Bool.and_eq_false_iff, Bool.or_eq_false_iff, Int.not_lt, Int.not_le] at hg25
    obtain ⟨rfl, -, hfew⟩ := hbv17 (by exact hg25)
    have hok := ofM_ok l hkl
    have hpm := ofM_pm l hkl
    have hml : (ofM l).length ≤ 12 := Nat.le_trans hok.2.2.1 hfew.1
    have hvs := ofM_short hkl hfew.2
    have hsv : ShortV (ofM l) := fun e he => Nat.le_trans (hvs e he) (by decide)
    replace H := H.add (by exact (H.rob 4 rfl : Rob _ (Vals l) _).imp fun _ h => h.sub hok.2.2.2)
    have hone : OneS (ofM l) := OneS.of (H.p 0 rfl)
    have hfit : Tv17.er.fit 0 := hTv17 ▸ grow_fit hpm
    have hlA := putM_len (ofM l) ⟨ka, va, la⟩
    have hlB := putM_len (ofM l) ⟨ka, vb, lb⟩
    have hlAB := putM_len (putM (ofM l) ⟨ka, va, la⟩) ⟨ka, vb, lb⟩
    refine WL.pv (PV.indexArr rfl TrydT.ar28 TrydT.sz27 rfl rfl (by omega) (by omega)) rfl ?_
    refine WL.pv (PV.fieldAddr rfl TrydT.fd27_1 rfl) rfl ?_
    refine WL.load1 rfl TrydT.ag25 rfl rfl (by exact Blk.segAt (H.l 1 rfl) (Seg.l (Seg.r (Seg.all _) (by with_reducible rfl))) (by (simp [kc_length, kw_length, *]; done))) ?_
    refine WL.pv (PV.lenS (H.p 6 rfl) TrydT.sl25 rfl) rfl ?_
    refine WL.pv (PV.gtr rfl rfl rfl) rfl ?_
    refine WL.pv (PV.pick_f rfl rfl rfl) rfl ?_
    refine WL.mv rfl rfl ?_
    refine WL.split (t := 32) rfl (fun hg32 => ?_) (fun hg32 => ?_)
    · skip
      refine WL.known (t := 31) (c := true) rfl hg32 ?_
      try simp only [decide_eq_true_eq, decide_eq_false_iff_not, ne_eq, Decidable.not_not, Bool.not_eq_true', Bool.not_eq_false', Bool.and_eq_true, Bool.or_eq_true, Bool.not_not, Bool.and_eq_false_iff, Bool.or_eq_false_iff, Int.not_lt, Int.not_le] at hg32
      refine WL.off rfl ?_
      refine WL.off rfl ?_
      refine WL.off rfl ?_
      refine WL.off rfl ?_
      refine WL.off rfl ?_
      refine WL.pv (PV.pick_t rfl rfl rfl) rfl ?_
      refine WL.nil ?_
      refine WE.cond_t rfl ?_
      refine WE.seq_reg ?_
      refine WL.call TrydT.fb17 rfl (alive09_c  H.yylt (by exact H.rob 8 rfl) ) ?_
      rintro _ w5 ⟨rfl, hO⟩
      replace H := H.out hO
      refine WL.as rfl rfl ?_
      refine WL.nil ?_
      refine WE.ret ?_
      refine ⟨[_], _, .nil _, ⟨rfl, trivial⟩, ?_⟩
      refine ⟨?_, H.toOut0⟩
      rfl
    · skip
      refine WL.known (t := 31) (c := false) rfl hg32 ?_
      try simp only [decide_eq_true_eq, decide_eq_false_iff_not, ne_eq, Decidable.not_not, Bool.not_eq_true', Bool.not_eq_false', Bool.and_eq_true, Bool.or_eq_true, Bool.not_not, Bool.and_eq_false_iff, Bool.or_eq_false_iff, Int.not_lt, Int.not_le] at hg32
      refine WL.pv (PV.indexArr rfl TrydT.ar28 TrydT.sz27 rfl rfl (by omega) (by omega)) rfl ?_
      refine WL.pv (PV.fieldAddr rfl TrydT.fd27_1 rfl) rfl ?_
      refine WL.load1 rfl TrydT.ag25 rfl rfl (by exact Blk.segAt (H.l 1 rfl) (Seg.r (Seg.r (Seg.all _) (by with_reducible rfl)) (by with_reducible rfl)) (by (simp [kc_length, kw_length, *]; done))) ?_
      refine WL.pv (PV.lenS (H.p 7 rfl) TrydT.sl25 rfl) rfl ?_
      refine WL.pv (PV.gtr rfl rfl rfl) rfl ?_
      refine WL.pv (PV.pick_f rfl rfl rfl) rfl ?_
      refine WL.nil ?_
      refine WE.cond rfl (fun hc38 => ?_) (fun hc38 => ?_)
      · skip
        try simp only [decide_eq_true_eq, decide_eq_false_iff_not, ne_eq, Decidable.not_not, Bool.not_eq_true', Bool.not_eq_false', Bool.and_eq_true, Bool.or_eq_true, Bool.not_not, Bool.and_eq_false_iff, Bool.or_eq_false_iff, Int.not_lt, Int.not_le] at hc38
        refine WE.seq_reg ?_
        refine WL.call TrydT.fb17 rfl (alive09_c  H.yylt (by exact H.rob 8 rfl) ) ?_
        rintro _ w6 ⟨rfl, hO⟩
        replace H := H.out hO
        refine WL.as rfl rfl ?_
        refine WL.nil ?_
        refine WE.ret ?_
        refine ⟨[_], _, .nil _, ⟨rfl, trivial⟩, ?_⟩
        refine ⟨?_, H.toOut0⟩
        rfl
      · skip
        try simp only [decide_eq_true_eq, decide_eq_false_iff_not, ne_eq, Decidable.not_not, Bool.not_eq_true', Bool.not_eq_false', Bool.and_eq_true, Bool.or_eq_true, Bool.not_not, Bool.and_eq_false_iff, Bool.or_eq_false_iff, Int.not_lt, Int.not_le] at hc38
        have hla2 : la.length ≤ 200 := by omega
        have hlb2 : lb.length ≤ 200 := by omega
        refine WE.skip ?_
        refine WE.seq_draw (.take 0 (.take 1 (.take 2 (.take 3 (.take 4 (.take 6 (.take 7 (.pick1 5 (.pick1 8 (.take 9 .done)))))))))) TrydT.mixed (by kernel_rfl) ?_
        replace H := H.out (Out.drew _)
        refine WP.mv rfl rfl rfl ?_
        refine WP.mv rfl rfl rfl ?_
        refine WP.mv rfl rfl rfl ?_
        refine WP.take_pure rfl rfl (PV.indexArr rfl TrydT.ar28 TrydT.sz27 rfl rfl (by omega) (by omega)) ?_
        refine WP.readA rfl rfl rfl TrydT.ag27 rfl (by exact Blk.segAt (H.l 1 rfl) (Seg.l (Seg.all _)) (by rfl)) (by (rw [TrydT.sz27]; refine congrArg some ?_; (simp only [kc_length, kw_length, List.length_replicate, List.length_append, List.length_cons, List.length_nil, cutI_length, shaOf_length, dig_length, valD_length, rootM_length]; omega))) ?_
        refine WP.take_pure rfl rfl (PV.indexArr rfl TrydT.ar28 TrydT.sz27 rfl rfl (by omega) (by omega)) ?_
        refine WP.readA rfl rfl rfl TrydT.ag27 rfl (by exact Blk.segAt (H.l 1 rfl) (Seg.r (Seg.all _) (by with_reducible rfl)) (by (simp [kc_length, kw_length, *]; done))) (by (rw [TrydT.sz27]; refine congrArg some ?_; (simp only [kc_length, kw_length, List.length_replicate, List.length_append, List.length_cons, List.length_nil, cutI_length, shaOf_length, dig_length, valD_length, rootM_length]; omega))) ?_
        refine WP.pick1 rfl ?_
        refine WL.call TrydT.fb18 rfl (Put2_c (T := Tv17) (M := (ofM l)) (k := ka) (lv := la) (s := va) (bits := i) H.yylt (H.l 0 rfl) (by exact H.robL 0 rfl 1 rfl) (by exact H.robL 0 rfl 3 rfl) (by exact H.robL 0 rfl 8 rfl) hi hka (by omega) (by exact (H.robL 0 rfl 6 rfl : Rob _ (SlB va la) _).wk1) hTv17 hok.2.1 hok.1 (by omega)) ?_
        rintro _ w7 ⟨Tv45, mv45, rfl, hTv45, hO, hB, hR⟩
        replace H := H.calledR 0 rfl hO hB hR
        refine WL.nil ⟨(List.forall_mem_cons.2 ⟨(fun _ _ => (by exact Blk.segAt (H.l 1 rfl) (Seg.r (Seg.all _) (by with_reducible rfl)) (by (simp [kc_length, kw_length, *]; done)))), (List.forall_mem_cons.2 ⟨(by exact (fun h => absurd (show waits _ 5 4 = false from h) (by decide +kernel))), (fun _ h => by cases h)⟩)⟩), ?_⟩
        refine WP.pick1 rfl ?_
        refine WL.call TrydT.fb18 rfl (Put2_c (T := Tv45) (M := (putM (ofM l) ⟨ka, va, la⟩)) (k := ka) (lv := lb) (s := vb) (bits := i) H.yylt (H.l 0 rfl) (by exact H.robL 0 rfl 2 rfl) (by exact H.robL 0 rfl 0 rfl) (by exact H.robL 0 rfl 9 rfl) hi hka (by omega) (by exact (H.robL 0 rfl 8 rfl : Rob _ (SlB vb lb) _).wk1) hTv45 (putM_kl hok.2.1 hka) (putM_srt hok.1 hok.2.1 hka) (by omega)) ?_
        rintro _ w8 ⟨Tv48, mv48, rfl, hTv48, hO, hB, hR⟩
        replace H := H.calledR 0 rfl hO hB hR
        refine WL.nil ⟨(List.forall_mem_cons.2 ⟨(by exact (fun h => absurd (show waits _ 8 7 = false from h) (by decide +kernel))), (List.forall_mem_cons.2 ⟨(by exact (fun h => absurd (show waits _ 8 4 = false from h) (by decide +kernel))), (fun _ h => by cases h)⟩)⟩), ?_⟩
        refine WP.as rfl rfl rfl ?_
        refine WP.done ?_
        refine WE.seq_draw (.take 0 (.take 1 (.take 2 (.take 3 (.take 4 (.take 6 (.take 7 (.pick1 5 (.pick1 8 (.take 9 .done)))))))))) TrydT.mixed (by kernel_rfl) ?_
        replace H := H.out (Out.drew _)
        refine WP.mv rfl rfl rfl ?_
        refine WP.mv rfl rfl rfl ?_
        refine WP.mv rfl rfl rfl ?_
        refine WP.take_pure rfl rfl (PV.indexArr rfl TrydT.ar28 TrydT.sz27 rfl rfl (by omega) (by omega)) ?_
        refine WP.readA rfl rfl rfl TrydT.ag27 rfl (by exact Blk.segAt (H.l 1 rfl) (Seg.r (Seg.all _) (by with_reducible rfl)) (by (simp [kc_length, kw_length, *]; done))) (by (rw [TrydT.sz27]; refine congrArg some ?_; (simp only [kc_length, kw_length, List.length_replicate, List.length_append, List.length_cons, List.length_nil, cutI_length, shaOf_length, dig_length, valD_length, rootM_length]; omega))) ?_
        refine WP.take_pure rfl rfl (PV.indexArr rfl TrydT.ar28 TrydT.sz27 rfl rfl (by omega) (by omega)) ?_
        refine WP.readA rfl rfl rfl TrydT.ag27 rfl (by exact Blk.segAt (H.l 1 rfl) (Seg.l (Seg.all _)) (by rfl)) (by (rw [TrydT.sz27]; refine congrArg some ?_; (simp only [kc_length, kw_length, List.length_replicate, List.length_append, List.length_cons, List.length_nil, cutI_length, shaOf_length, dig_length, valD_length, rootM_length]; omega))) ?_
        refine WP.pick1 rfl ?_
        refine WL.call TrydT.fb18 rfl (Put2_c (T := Tv17) (M := (ofM l)) (k := ka) (lv := lb) (s := vb) (bits := i) H.yylt (H.l 0 rfl) (by exact H.robL 0 rfl 3 rfl) (by exact H.robL 0 rfl 5 rfl) (by exact H.robL 0 rfl 10 rfl) hi hka (by omega) (by exact (H.robL 0 rfl 9 rfl : Rob _ (SlB vb lb) _).wk1) hTv17 hok.2.1 hok.1 (by omega)) ?_
        rintro _ w9 ⟨Tv54, mv54, rfl, hTv54, hO, hB, hR⟩
        replace H := H.calledR 0 rfl hO hB hR
        refine WL.nil ⟨(List.forall_mem_cons.2 ⟨(fun _ _ => (by exact Blk.segAt (H.l 1 rfl) (Seg.l (Seg.all _)) (by rfl))), (List.forall_mem_cons.2 ⟨(by exact (fun h => absurd (show waits _ 5 4 = false from h) (by decide +kernel))), (fun _ h => by cases h)⟩)⟩), ?_⟩
        refine WP.pick1 rfl ?_
        refine WL.call TrydT.fb18 rfl (Put2_c (T := Tv54) (M := (putM (ofM l) ⟨ka, vb, lb⟩)) (k := ka) (lv := la) (s := va) (bits := i) H.yylt (H.l 0 rfl) (by exact H.robL 0 rfl 4 rfl) (by exact H.robL 0 rfl 0 rfl) (by exact H.robL 0 rfl 11 rfl) hi hka (by omega) (by exact (H.robL 0 rfl 9 rfl : Rob _ (SlB va la) _).wk1) hTv54 (putM_kl hok.2.1 hka) (putM_srt hok.1 hok.2.1 hka) (by omega)) ?_
        rintro _ w10 ⟨Tv57, mv57, rfl, hTv57, hO, hB, hR⟩
        replace H := H.calledR 0 rfl hO hB hR
        refine WL.nil ⟨(List.forall_mem_cons.2 ⟨(by exact (fun h => absurd (show waits _ 8 7 = false from h) (by decide +kernel))), (List.forall_mem_cons.2 ⟨(by exact (fun h => absurd (show waits _ 8 4 = false from h) (by decide +kernel))), (fun _ h => by cases h)⟩)⟩), ?_⟩
        refine WP.as rfl rfl rfl ?_
        refine WP.done ?_
        refine WE.seq_reg ?_
        refine WL.mv rfl rfl ?_
        refine WL.mv rfl rfl ?_
        refine WL.pv (PV.indexArr rfl TrydT.ar28 TrydT.sz27 rfl rfl (by omega) (by omega)) rfl ?_
        refine WL.loadR rfl TrydT.ag27 rfl rfl (by exact Blk.segAt (H.l 1 rfl) (Seg.r (Seg.all _) (by with_reducible rfl)) (by (simp [kc_length, kw_length, *]; done))) (by (rw [TrydT.sz27]; refine congrArg some ?_; (simp only [kc_length, kw_length, List.length_replicate, List.length_append, List.length_cons, List.length_nil, cutI_length, shaOf_length, dig_length, valD_length, rootM_length]; omega))) ?_
        refine WL.call TrydT.fb18 rfl (Put2_c (T := Tv48) (M := (putM (putM (ofM l) ⟨ka, va, la⟩) ⟨ka, vb, lb⟩)) (k := ka) (lv := lb) (s := vb) (bits := i) H.yylt (H.l 0 rfl) (by exact H.robL 0 rfl 5 rfl) (by exact H.robL 0 rfl 2 rfl) (by exact H.robL 0 rfl 12 rfl) hi hka (by omega) (by exact (H.robL 0 rfl 11 rfl : Rob _ (SlB vb lb) _).wk1) hTv48 (putM_kl (putM_kl hok.2.1 hka) hka) (putM_srt (putM_srt hok.1 hok.2.1 hka) (putM_kl hok.2.1 hka) hka) (by omega)) ?_
        rintro _ w11 ⟨Tv62, mv62, rfl, hTv62, hO, hB, hR⟩
        replace H := H.calledR 0 rfl hO hB hR
        have hTA : Tv62.er = Tv48.er := by rw [hTv62, hTv48, putM_idem (putM_srt hok.1 hok.2.1 hka) (putM_kl hok.2.1 hka) hka]
        refine WL.as rfl rfl ?_
        refine WL.nil ?_
        refine WE.seq_reg ?_
        refine WL.call TrydT.fb17 rfl (alive09_c  H.yylt (by exact H.rob 13 rfl) ) ?_
        rintro _ w12 ⟨rfl, hO⟩
        replace H := H.out hO
        refine WL.mv rfl rfl ?_
        refine WL.known (t := 64) (c := true) rfl (by rfl) ?_
        refine WL.mv rfl rfl ?_
        refine WL.mv rfl rfl ?_
        refine WL.call TrydT.fb19 rfl (Digest_c (T := Tv48) (bits := i) H.yylt (H.l 0 rfl) (by exact H.robL 0 rfl 6 rfl) (by exact H.robL 0 rfl 3 rfl) (by exact H.robL 0 rfl 13 rfl) (by assumption)) ?_
        rintro _ w13 ⟨mv67, rfl, hO, hB⟩
        replace H := H.called 0 rfl hO hB
        refine WL.mv rfl rfl ?_
        refine WL.mv rfl rfl ?_
        refine WL.call TrydT.fb19 rfl (Digest_c (T := Tv57) (bits := i) H.yylt (H.l 0 rfl) (by exact H.robL 0 rfl 6 rfl) (by exact H.robL 0 rfl 1 rfl) (by exact H.robL 0 rfl 13 rfl) (by assumption)) ?_
        rintro _ w14 ⟨mv70, rfl, hO, hB⟩
        replace H := H.called 0 rfl hO hB
        refine WL.pv (PV.eqlB rfl TrydT.ar36 TrydT.in5 TrydT.sz5 (by kernel_rfl) rfl rfl (by exact dig_length _ _) (by exact dig_length _ _)) rfl ?_
        refine WL.mv rfl rfl ?_
        refine WL.split (t := 72) rfl (fun hg72 => ?_) (fun hg72 => ?_)
        · skip
          refine WL.known (t := 71) (c := true) rfl hg72 ?_
          try simp only [decide_eq_true_eq, decide_eq_false_iff_not, ne_eq, Decidable.not_not, Bool.not_eq_true', Bool.not_eq_false', Bool.and_eq_true, Bool.or_eq_true, Bool.not_not, Bool.and_eq_false_iff, Bool.or_eq_false_iff, Int.not_lt, Int.not_le] at hg72
          refine WL.off rfl ?_
          refine WL.off rfl ?_
          refine WL.off rfl ?_
          refine WL.off rfl ?_
          refine WL.off rfl ?_
          refine WL.off rfl ?_
          refine WL.off rfl ?_
          refine WL.pv (PV.pick_t rfl rfl rfl) rfl ?_
          refine WL.pv (PV.pick_t rfl rfl rfl) rfl ?_
          refine WL.mv rfl rfl ?_
          refine WL.mv rfl rfl ?_
          refine WL.mv rfl rfl ?_
          refine WL.call TrydT.fb19 rfl (Digest_c (T := Tv62) (bits := i) H.yylt (H.l 0 rfl) (by exact H.robL 0 rfl 6 rfl) (by exact H.robL 0 rfl 0 rfl) (by exact H.robL 0 rfl 13 rfl) (by assumption)) ?_
          rintro _ w15 ⟨mv85, rfl, hO, hB⟩
          replace H := H.called 0 rfl hO hB
          refine WL.mv rfl rfl ?_
          refine WL.mv rfl rfl ?_
          refine WL.call TrydT.fb19 rfl (Digest_c (T := Tv48) (bits := i) H.yylt (H.l 0 rfl) (by exact H.robL 0 rfl 6 rfl) (by exact H.robL 0 rfl 3 rfl) (by exact H.robL 0 rfl 13 rfl) (by assumption)) ?_
          rintro _ w16 ⟨mv88, rfl, hO, hB⟩
          replace H := H.called 0 rfl hO hB
          refine WL.pv (PV.eqlB rfl TrydT.ar36 TrydT.in5 TrydT.sz5 (by kernel_rfl) rfl rfl (by exact dig_length _ _) (by exact dig_length _ _)) rfl ?_
          refine WL.pv (PV.pick_t rfl rfl rfl) rfl ?_
          refine WL.mv rfl rfl ?_
          refine WL.known (t := 91) (c := true) rfl (by (simp [hTA]; done)) ?_
          refine WL.mv rfl rfl ?_
          refine WL.call TrydT.fb20 rfl (Len_c (T := Tv62) (bits := i) H.yylt (by exact H.rob 0 rfl) ) ?_
          rintro _ w17 ⟨rfl, hO⟩
          replace H := H.out hO
          refine WL.mv rfl rfl ?_
          refine WL.call TrydT.fb20 rfl (Len_c (T := Tv48) (bits := i) H.yylt (by exact H.rob 3 rfl) ) ?_
          rintro _ w18 ⟨rfl, hO⟩
          replace H := H.out hO
          refine WL.pv (PV.eql rfl rfl rfl) rfl ?_
          refine WL.pv (PV.pick_t rfl rfl rfl) rfl ?_
          refine WL.as rfl rfl ?_
          refine WL.nil ?_
          refine WE.ret ?_
          refine ⟨[_], _, .nil _, ⟨rfl, trivial⟩, ?_⟩
          refine ⟨?_, H.toOut0⟩
          show Value.bool _ = Value.bool true
          (simp [hTA]; done)
        · skip
          refine WL.known (t := 71) (c := false) rfl hg72 ?_
          try simp only [decide_eq_true_eq, decide_eq_false_iff_not, ne_eq, Decidable.not_not, Bool.not_eq_true', Bool.not_eq_false', Bool.and_eq_true, Bool.or_eq_true, Bool.not_not, Bool.and_eq_false_iff, Bool.or_eq_false_iff, Int.not_lt, Int.not_le] at hg72
          refine WL.pv (PV.indexArr rfl TrydT.ar28 TrydT.sz27 rfl rfl (by omega) (by omega)) rfl ?_
          refine WL.pv (PV.fieldAddr rfl TrydT.fd27_0 rfl) rfl ?_
          refine WL.loadR rfl TrydT.ag24 rfl rfl (by exact Blk.segAt (H.l 1 rfl) (Seg.l (Seg.l (Seg.all _))) (by rfl)) (by (rw [TrydT.sz24]; refine congrArg some ?_; (simp only [kc_length, kw_length, List.length_replicate, List.length_append, List.length_cons, List.length_nil, cutI_length, shaOf_length, dig_length, valD_length, rootM_length]; omega))) ?_
          refine WL.pv (PV.indexArr rfl TrydT.ar28 TrydT.sz27 rfl rfl (by omega) (by omega)) rfl ?_
          refine WL.pv (PV.fieldAddr rfl TrydT.fd27_0 rfl) rfl ?_
          refine WL.loadR rfl TrydT.ag24 rfl rfl (by exact Blk.segAt (H.l 1 rfl) (Seg.r (Seg.l (Seg.all _)) (by with_reducible rfl)) (by (simp [kc_length, kw_length, *]; done))) (by (rw [TrydT.sz24]; refine congrArg some ?_; (simp only [kc_length, kw_length, List.length_replicate, List.length_append, List.length_cons, List.length_nil, cutI_length, shaOf_length, dig_length, valD_length, rootM_length]; omega))) ?_
          refine WL.pv (PV.eqlB rfl TrydT.ar24 TrydT.in5 TrydT.sz5 (by kernel_rfl) rfl rfl (by assumption) (by assumption)) rfl ?_
          refine WL.pv (PV.pick_f rfl rfl rfl) rfl ?_
          refine WL.pv (PV.pick_t rfl rfl rfl) rfl ?_
          refine WL.mv rfl rfl ?_
          refine WL.known (t := 82) (c := true) rfl (by (simp; done)) ?_
          refine WL.mv rfl rfl ?_
          refine WL.mv rfl rfl ?_
          refine WL.call TrydT.fb19 rfl (Digest_c (T := Tv62) (bits := i) H.yylt (H.l 0 rfl) (by exact H.robL 0 rfl 6 rfl) (by exact H.robL 0 rfl 0 rfl) (by exact H.robL 0 rfl 13 rfl) (by assumption)) ?_
          rintro _ w19 ⟨mv85, rfl, hO, hB⟩
          replace H := H.called 0 rfl hO hB
          refine WL.mv rfl rfl ?_
          refine WL.mv rfl rfl ?_
          refine WL.call TrydT.fb19 rfl (Digest_c (T := Tv48) (bits := i) H.yylt (H.l 0 rfl) (by exact H.robL 0 rfl 6 rfl) (by exact H.robL 0 rfl 3 rfl) (by exact H.robL 0 rfl 13 rfl) (by assumption)) ?_
          rintro _ w20 ⟨mv88, rfl, hO, hB⟩
          replace H := H.called 0 rfl hO hB
          refine WL.pv (PV.eqlB rfl TrydT.ar36 TrydT.in5 TrydT.sz5 (by kernel_rfl) rfl rfl (by exact dig_length _ _) (by exact dig_length _ _)) rfl ?_
          refine WL.pv (PV.pick_t rfl rfl rfl) rfl ?_
          refine WL.mv rfl rfl ?_
          refine WL.known (t := 91) (c := true) rfl (by (simp [hTA]; done)) ?_
          refine WL.mv rfl rfl ?_
          refine WL.call TrydT.fb20 rfl (Len_c (T := Tv62) (bits := i) H.yylt (by exact H.rob 0 rfl) ) ?_
          rintro _ w21 ⟨rfl, hO⟩
          replace H := H.out hO
          refine WL.mv rfl rfl ?_
          refine WL.call TrydT.fb20 rfl (Len_c (T := Tv48) (bits := i) H.yylt (by exact H.rob 3 rfl) ) ?_
          rintro _ w22 ⟨rfl, hO⟩
          replace H := H.out hO
          refine WL.pv (PV.eql rfl rfl rfl) rfl ?_
          refine WL.pv (PV.pick_t rfl rfl rfl) rfl ?_
          refine WL.as rfl rfl ?_
          refine WL.nil ?_
          refine WE.ret ?_
          refine ⟨[_], _, .nil _, ⟨rfl, trivial⟩, ?_⟩
          refine ⟨?_, H.toOut0⟩
          show Value.bool _ = Value.bool true
          (simp [hTA]; done)

theorem PutCommutesBad_c {X : Nat → Prop} {w : World} {i : Int} {s va vb : Value} {l : List En} {ka kb la lb : List UInt8} (hX : ∀ b, X b → b < w.heap.size) (hf0 : Rob X (SlE s l) w) (hf1 : Rob X (Vals l) w) (hf2 : Rob X (SlB va la) w) (hf3 : Rob X (SlB vb lb) w) (hf4 : Rob X (Rounds) w) (hi : ¬ (0 ≤ i ∧ i ≤ 256)) (hkl : KL l) (hlen : l.length ≤ 9223372036854775807) (hvl : ∀ e ∈ l, e.v.length ≤ 9223372036854775807) (hka : ka.length = 32) (hkb : kb.length = 32) (hla : la.length ≤ 9223372036854775807) (hlb : lb.length ≤ 9223372036854775807) :
    Ret Tryd.prog 3 [.int .i64 i, s, .agg ((kc ka ++ [va]) ++ (kc kb ++ [vb])).toArray].toArray w fun v w' => v = .bool true ∧ Out Nil w w' := by
  refine Ret.of_body (N := 98) Tryd.func3 rfl rfl (by simp) ?_
  have H := St.begin hX
  replace H := H.add (rob0 hf4)
  replace H := H.add (rob0 hf3)
  replace H := H.add (rob0 hf2)
  replace H := H.add (rob0 hf1)
  replace H := H.add (rob0 hf0)
  have hva1 : va.oneCell' = true := SlC.one1 (hf2.here)
  have hvb1 : vb.oneCell' = true := SlC.one1 (hf3.here)
  refine WE.seq_reg ?_
  refine WL.box (l := (kc ka ++ [va]) ++ (kc kb ++ [vb])) H rfl (by rfl) rfl ?_
  intro b5 w1 H
  refine WL.as rfl rfl ?_
  refine WL.nil ?_
  refine WE.seq_reg ?_
  refine WL.mv rfl rfl ?_
  refine WL.mv rfl rfl ?_
  refine WL.call TrydT.fb15 rfl (Tree_c (i := i) (l := l) H.yylt (by exact H.rob 0 rfl) (by exact H.rob 1 rfl) (by exact H.rob 4 rfl) (by assumption) (by assumption) (by assumption)) ?_
  rintro _ w2 ⟨bv17, sv17, Tv17, mv17, rfl, hTv17, hbv17, hO, hS_, hR⟩
  replace H := ((H.out hO).add hR).add hS_
  have hbf : bv17 = false := by cases hb_ : bv17; rfl; exact absurd (hbv17 hb_).2.1 hi
  subst hbf
  refine WL.mv rfl rfl ?_
  refine WL.pv (PV.extract rfl rfl rfl) rfl ?_
  refine WL.pv (PV.extract rfl rfl rfl) rfl ?_
  refine WL.pv (PV.extract rfl rfl rfl) rfl ?_
  refine WL.as rfl rfl ?_
  refine WL.as rfl rfl ?_
  refine WL.as rfl rfl ?_
  refine WL.nil ?_
  refine WE.seq_reg ?_
  refine WL.mv rfl rfl ?_
  refine WL.call TrydT.fb16 rfl (HashBad_c (i := i) H.yylt  (by assumption)) ?_
  rintro _ w3 ⟨rfl, hO⟩
  replace H := H.out hO
  refine WL.as rfl rfl ?_
  refine WL.nil ?_
  refine WE.seq ?_
  refine WE.seq_reg ?_
  refine WL.mv rfl rfl ?_
  refine WL.pv (PV.not rfl rfl) rfl ?_
  refine WL.mv rfl rfl ?_
  refine WL.known (t := 25) (c := true) rfl rfl ?_
  refine WL.off rfl ?_
  refine WL.off rfl ?_
  refine WL.off rfl ?_
  refine WL.off rfl ?_
  refine WL.off rfl ?_
  refine WL.pv (PV.pick_t rfl rfl rfl) rfl ?_
  refine WL.mv rfl rfl ?_
  refine WL.off rfl ?_
  refine WL.off rfl ?_
  refine WL.off rfl ?_
  refine WL.off rfl ?_
  refine WL.off rfl ?_
  refine WL.pv (PV.pick_t rfl rfl rfl) rfl ?_
  refine WL.nil ?_
  refine WE.cond_t rfl ?_
  refine WE.seq_reg ?_
  refine WL.call TrydT.fb17 rfl (alive09_c  H.yylt (by exact H.rob 6 rfl) ) ?_
  rintro _ w4 ⟨rfl, hO⟩
  replace H := H.out hO
  refine WL.as rfl rfl ?_
  refine WL.nil ?_
  refine WE.ret ?_
  refine ⟨[_], _, .nil _, ⟨rfl, trivial⟩, ?_⟩
  refine ⟨?_, H.toOut0⟩
  rfl

theorem PutSharesBad_c {X : Nat → Prop} {w : World} {i : Int} {s vs : Value} {l : List En} {k lv : List UInt8} (hX : ∀ b, X b → b < w.heap.size) (hf0 : Rob X (SlE s l) w) (hf1 : Rob X (Vals l) w) (hf2 : Rob X (SlB vs lv) w) (hf3 : Rob X (Rounds) w) (hi : ¬ (0 ≤ i ∧ i ≤ 256)) (hkl : KL l) (hlen : l.length ≤ 9223372036854775807) (hvl : ∀ e ∈ l, e.v.length ≤ 9223372036854775807) (hk : k.length = 32) (hlv : lv.length ≤ 9223372036854775807) :
    Ret Tryd.prog 6 [.int .i64 i, s, .agg (kc k ++ [vs]).toArray].toArray w fun v w' => v = .bool true ∧ Out Nil w w' := by
  refine Ret.of_body (N := 85) Tryd.func6 rfl rfl (by simp) ?_
  have H := St.begin hX
  replace H := H.add (rob0 hf3)
  replace H := H.add (rob0 hf2)
  replace H := H.add (rob0 hf1)
  replace H := H.add (rob0 hf0)
  have hvs1 : vs.oneCell' = true := SlC.one1 (hf2.here)
  refine WE.seq_reg ?_
  refine WL.box (l := kc k ++ [vs]) H rfl (by rfl) rfl ?_
  intro b5 w1 H
  refine WL.as rfl rfl ?_
  refine WL.nil ?_
  refine WE.seq_reg ?_
  refine WL.mv rfl rfl ?_
  refine WL.mv rfl rfl ?_
  refine WL.call TrydT.fb15 rfl (Tree_c (i := i) (l := l) H.yylt (by exact H.rob 0 rfl) (by exact H.rob 1 rfl) (by exact H.rob 3 rfl) (by assumption) (by assumption) (by assumption)) ?_
  rintro _ w2 ⟨bv18, sv18, Tv18, mv18, rfl, hTv18, hbv18, hO, hS_, hR⟩
  replace H := ((H.out hO).add hR).add hS_
  have hbf : bv18 = false := by cases hb_ : bv18; rfl; exact absurd (hbv18 hb_).2.1 hi
  subst hbf
  refine WL.mv rfl rfl ?_
  refine WL.pv (PV.extract rfl rfl rfl) rfl ?_
  refine WL.pv (PV.extract rfl rfl rfl) rfl ?_
  refine WL.pv (PV.extract rfl rfl rfl) rfl ?_
  refine WL.as rfl rfl ?_
  refine WL.as rfl rfl ?_
  refine WL.as rfl rfl ?_
  refine WL.nil ?_
  refine WE.seq_reg ?_
  refine WL.mv rfl rfl ?_
  refine WL.call TrydT.fb16 rfl (HashBad_c (i := i) H.yylt  (by assumption)) ?_
  rintro _ w3 ⟨rfl, hO⟩
  replace H := H.out hO
  refine WL.as rfl rfl ?_
  refine WL.nil ?_
  refine WE.seq ?_
  refine WE.seq_reg ?_
  refine WL.mv rfl rfl ?_
  refine WL.pv (PV.not rfl rfl) rfl ?_
  refine WL.mv rfl rfl ?_
  refine WL.known (t := 26) (c := true) rfl rfl ?_
  refine WL.off rfl ?_
  refine WL.off rfl ?_
  refine WL.off rfl ?_
  refine WL.off rfl ?_
  refine WL.pv (PV.pick_t rfl rfl rfl) rfl ?_
  refine WL.nil ?_
  refine WE.cond_t rfl ?_
  refine WE.seq_reg ?_
  refine WL.call TrydT.fb17 rfl (alive09_c  H.yylt (by exact H.rob 5 rfl) ) ?_
  rintro _ w4 ⟨rfl, hO⟩
  replace H := H.out hO
  refine WL.as rfl rfl ?_
  refine WL.nil ?_
  refine WE.ret ?_
  refine ⟨[_], _, .nil _, ⟨rfl, trivial⟩, ?_⟩
  refine ⟨?_, H.toOut0⟩
  rfl

theorem PutShares_c {X : Nat → Prop} {w : World} {i : Int} {s vs : Value} {l : List En} {k lv : List UInt8} (hX : ∀ b, X b → b < w.heap.size) (hf0 : Rob X (SlE s l) w) (hf1 : Rob X (Vals l) w) (hf2 : Rob X (SlB vs lv) w) (hf3 : Rob X (Rounds) w) (hi : 0 ≤ i ∧ i ≤ 256) (hkl : KL l) (hlen : l.length ≤ 9223372036854775807) (hvl : ∀ e ∈ l, e.v.length ≤ 9223372036854775807) (hk : k.length = 32) (hlv : lv.length ≤ 9223372036854775807) :
    Ret Tryd.prog 6 [.int .i64 i, s, .agg (kc k ++ [vs]).toArray].toArray w fun v w' => v = .bool true ∧ Out Nil w w' := by
  refine Ret.of_body (N := 85) Tryd.func6 rfl rfl (by simp) ?_
  have H := St.begin hX
  replace H := H.add (rob0 hf3)
  replace H := H.add (rob0 hf2)
  replace H := H.add (rob0 hf1)
  replace H := H.add (rob0 hf0)
  have hvs1 : vs.oneCell' = true := SlC.one1 (hf2.here)
  refine WE.seq_reg ?_
  refine WL.box (l := kc k ++ [vs]) H rfl (by rfl) rfl ?_
  intro b5 w1 H
  refine WL.as rfl rfl ?_
  refine WL.nil ?_
  refine WE.seq_reg ?_
  refine WL.mv rfl rfl ?_
  refine WL.mv rfl rfl ?_
  refine WL.call TrydT.fb15 rfl (Tree_c (i := i) (l := l) H.yylt (by exact H.rob 0 rfl) (by exact H.rob 1 rfl) (by exact H.rob 3 rfl) (by assumption) (by assumption) (by assumption)) ?_
  rintro _ w2 ⟨bv18, sv18, Tv18, mv18, rfl, hTv18, hbv18, hO, hS_, hR⟩
  replace H := ((H.out hO).add hR).add hS_
  refine WL.mv rfl rfl ?_
  refine WL.pv (PV.extract rfl rfl rfl) rfl ?_
  refine WL.pv (PV.extract rfl rfl rfl) rfl ?_
  refine WL.pv (PV.extract rfl rfl rfl) rfl ?_
  refine WL.as rfl rfl ?_
  refine WL.as rfl rfl ?_
  refine WL.as rfl rfl ?_
  refine WL.nil ?_
  refine WE.seq_reg ?_
  refine WL.mv rfl rfl ?_
  refine WL.call TrydT.fb16 rfl (Hash_c (i := i) H.yylt  (by assumption)) ?_
  rintro _ w3 ⟨bhv23, bcv23, rfl, hO, hge, hB, hR⟩
  replace H := H.pushR hO (Ent.blk bcv23 127 [.int .i64 0]) hB (fun c hc => by cases hc; exact hge) hR
  refine WL.as rfl rfl ?_
  refine WL.nil ?_
  refine WE.seq ?_
  refine WE.seq_reg ?_
  refine WL.mv rfl rfl ?_
  refine WL.pv (PV.not rfl rfl) rfl ?_
  refine WL.mv rfl rfl ?_
  refine WL.split (t := 26) rfl (fun hg26 => ?_) (fun hg26 => ?_)
  · skip
    refine WL.known (t := 25) (c := true) rfl hg26 ?_
    try simp only [decide_eq_true_eq, decide_eq_false_iff_not, ne_eq, Decidable.not_not, Bool.not_eq_true', Bool.not_eq_false', Bool.and_eq_true, Bool.or_eq_true, Bool.not_not, Bool.and_eq_false_iff, Bool.or_eq_false_iff, Int.not_lt, Int.not_le] at hg26
    refine WL.off rfl ?_
    refine WL.off rfl ?_
    refine WL.off rfl ?_
    refine WL.off rfl ?_
    refine WL.pv (PV.pick_t rfl rfl rfl) rfl ?_
    refine WL.nil ?_
    refine WE.cond_t rfl ?_
    refine WE.seq_reg ?_
    refine WL.call TrydT.fb17 rfl (alive09_c  H.yylt (by exact H.rob 6 rfl) ) ?_
    rintro _ w4 ⟨rfl, hO⟩
    replace H := H.out hO
    refine WL.as rfl rfl ?_
    refine WL.nil ?_
    refine WE.ret ?_
    refine ⟨[_], _, .nil _, ⟨rfl, trivial⟩, ?_⟩
    refine ⟨?_, H.toOut0⟩
    rfl
  · skip
    refine WL.known (t := 25) (c := false) rfl hg26 ?_
    try simp only [decide_eq_true_eq, decide_eq_false_iff_not, ne_eq, Decidable.not_not, Bool.not_eq_true', Bool.not_eq_false', Bool.and_eq_true, Bool.or_eq_true, Bool.not_not, Bool.and_eq_false_iff, Bool.or_eq_false_iff, Int.not_lt, Int.not_le] at hg26
    obtain ⟨rfl, -, hfew⟩ := hbv18 (by exact hg26)
    have hok := ofM_ok l hkl
    have hpm := ofM_pm l hkl
    have hml : (ofM l).length ≤ 12 := Nat.le_trans hok.2.2.1 hfew.1
    have hvs := ofM_short hkl hfew.2
    have hsv : ShortV (ofM l) := fun e he => Nat.le_trans (hvs e he) (by decide)
    replace H := H.add (by exact (H.rob 4 rfl : Rob _ (Vals l) _).imp fun _ h => h.sub hok.2.2.2)
    have hone : OneS (ofM l) := OneS.of (H.p 0 rfl)
    have hfit : Tv18.er.fit 0 := hTv18 ▸ grow_fit hpm
    refine WL.pv (PV.fieldAddr rfl TrydT.fd27_1 rfl) rfl ?_
    refine WL.load1 rfl TrydT.ag25 rfl rfl (by exact Blk.segAt (H.l 1 rfl) (Seg.r (Seg.all _) (by with_reducible rfl)) (by (simp [kc_length, kw_length, *]; done))) ?_
    refine WL.pv (PV.lenS (by exact H.p 6 rfl : SlB vs lv _) TrydT.sl25 rfl) rfl ?_
    refine WL.pv (PV.gtr rfl rfl rfl) rfl ?_
    refine WL.pv (PV.pick_f rfl rfl rfl) rfl ?_
    refine WL.nil ?_
    refine WE.cond rfl (fun hc31 => ?_) (fun hc31 => ?_)
    · skip
      try simp only [decide_eq_true_eq, decide_eq_false_iff_not, ne_eq, Decidable.not_not, Bool.not_eq_true', Bool.not_eq_false', Bool.and_eq_true, Bool.or_eq_true, Bool.not_not, Bool.and_eq_false_iff, Bool.or_eq_false_iff, Int.not_lt, Int.not_le] at hc31
      refine WE.seq_reg ?_
      refine WL.call TrydT.fb17 rfl (alive09_c  H.yylt (by exact H.rob 7 rfl) ) ?_
      rintro _ w5 ⟨rfl, hO⟩
      replace H := H.out hO
      refine WL.as rfl rfl ?_
      refine WL.nil ?_
      refine WE.ret ?_
      refine ⟨[_], _, .nil _, ⟨rfl, trivial⟩, ?_⟩
      refine ⟨?_, H.toOut0⟩
      rfl
    · skip
      try simp only [decide_eq_true_eq, decide_eq_false_iff_not, ne_eq, Decidable.not_not, Bool.not_eq_true', Bool.not_eq_false', Bool.and_eq_true, Bool.or_eq_true, Bool.not_not, Bool.and_eq_false_iff, Bool.or_eq_false_iff, Int.not_lt, Int.not_le] at hc31
      have hlv2 : lv.length ≤ 200 := by omega
      refine WE.skip ?_
      refine WE.seq_reg ?_
      refine WL.mv rfl rfl ?_
      refine WL.mv rfl rfl ?_
      refine WL.loadR rfl TrydT.ag27 rfl rfl (by exact Blk.segAt (H.l 1 rfl) (Seg.all _) (by rfl)) (by (rw [TrydT.sz27]; refine congrArg some ?_; (simp only [kc_length, kw_length, List.length_replicate, List.length_append, List.length_cons, List.length_nil, cutI_length, shaOf_length, dig_length, valD_length, rootM_length]; omega))) ?_
      refine WL.call TrydT.fb18 rfl (Put2_c (T := Tv18) (M := ofM l) (k := k) (lv := lv) (s := vs) (bits := i) H.yylt (H.l 0 rfl) (by exact H.robL 0 rfl 1 rfl) (by exact H.robL 0 rfl 3 rfl) (by exact H.robL 0 rfl 7 rfl) hi hk (by omega) (by exact (H.robL 0 rfl 6 rfl : Rob _ (SlB vs lv) _).wk1) hTv18 hok.2.1 hok.1 (by omega)) ?_
      rintro _ w6 ⟨Tv36, mv36, rfl, hTv36, hO, hB, hR⟩
      replace H := H.calledR 0 rfl hO hB hR
      have hpm2 : Pm 0 (putM (ofM l) ⟨k, vs, lv⟩) := (putM_srt hok.1 hok.2.1 hk).pm (putM_kl hok.2.1 hk)
      have hfit2 : Tv36.er.fit 0 := hTv36 ▸ grow_fit hpm2
      have hdpp : Tv18.dp k 0 ≤ Tv36.dp k 0 := dp_put hTv18 hpm hok.1 (e := ⟨k, vs, lv⟩) hk hTv36 hpm2
      have hd1 := Tr.dp_fit (k := k) _ 0 Tv18 rfl hfit (by omega)
      have hd2 := Tr.dp_fit (k := k) _ 0 Tv36 rfl hfit2 (by omega)
      have hsl1 := sibL_len Tv18 k (Tv18.dp k 0)
      have hsl2 := sibL_len Tv36 k (Tv36.dp k 0)
      have hc1 : Tv18.er.cnt = (ofM l).length := by rw [hTv18]; exact hpm.cnt
      have hc2 : Tv36.er.cnt = (putM (ofM l) ⟨k, vs, lv⟩).length := by rw [hTv36]; exact hpm2.cnt
      have hpl1 := putM_len (ofM l) ⟨k, vs, lv⟩
      have hpl2 := putM_ge (ofM l) ⟨k, vs, lv⟩ hpm.dis
      refine WL.as rfl rfl ?_
      refine WL.nil ?_
      refine WE.seq_draw (.take 0 (.take 1 (.take 2 (.take 4 (.take 5 (.take 6 (.pick1 3 (.pick1 7 (.take 8 (.take 9 .done)))))))))) TrydT.mixed (by kernel_rfl) ?_
      replace H := H.out (Out.drew _)
      refine WP.mv rfl rfl rfl ?_
      refine WP.take_pure rfl rfl (PV.fieldAddr rfl TrydT.fd27_0 rfl) ?_
      refine WP.readA rfl rfl rfl TrydT.ag24 rfl (by exact Blk.segAt (H.l 1 rfl) (Seg.l (Seg.all _)) (by rfl)) (by (rw [TrydT.sz24]; refine congrArg some ?_; (simp only [kc_length, kw_length, List.length_replicate, List.length_append, List.length_cons, List.length_nil, cutI_length, shaOf_length, dig_length, valD_length, rootM_length]; omega))) ?_
      refine WP.mv rfl rfl rfl ?_
      refine WP.take_pure rfl rfl (PV.fieldAddr rfl TrydT.fd27_0 rfl) ?_
      refine WP.readA rfl rfl rfl TrydT.ag24 rfl (by exact Blk.segAt (H.l 1 rfl) (Seg.l (Seg.all _)) (by rfl)) (by (rw [TrydT.sz24]; refine congrArg some ?_; (simp only [kc_length, kw_length, List.length_replicate, List.length_append, List.length_cons, List.length_nil, cutI_length, shaOf_length, dig_length, valD_length, rootM_length]; omega))) ?_
      refine WP.pick1 rfl ?_
      refine WL.call TrydT.fb28 rfl (Siblings_c (T := Tv18) (k := k) (bits := i) H.yylt (by exact H.rob 4 rfl) (by assumption) (by assumption)) ?_
      rintro v40 w7 ⟨hO, hR⟩
      replace H := (H.out hO).add hR
      refine WL.nil ⟨(List.forall_mem_cons.2 ⟨(fun _ _ => (by exact Blk.segAt (H.l 1 rfl) (Seg.l (Seg.all _)) (by rfl))), (List.forall_mem_cons.2 ⟨(by exact (fun h => absurd (show waits _ 3 2 = false from h) (by decide +kernel))), (fun _ h => by cases h)⟩)⟩), ?_⟩
      refine WP.pick1 rfl ?_
      refine WL.call TrydT.fb28 rfl (Siblings_c (T := Tv36) (k := k) (bits := i) H.yylt (by exact H.rob 1 rfl) (by assumption) (by assumption)) ?_
      rintro v44 w8 ⟨hO, hR⟩
      replace H := (H.out hO).add hR
      refine WL.nil ⟨(List.forall_mem_cons.2 ⟨(by exact (fun h => absurd (show waits _ 7 6 = false from h) (by decide +kernel))), (List.forall_mem_cons.2 ⟨(by exact (fun h => absurd (show waits _ 7 2 = false from h) (by decide +kernel))), (fun _ h => by cases h)⟩)⟩), ?_⟩
      refine WP.as rfl rfl rfl ?_
      refine WP.as rfl rfl rfl ?_
      refine WP.done ?_
      refine WE.seq ?_
      refine WE.seq_reg ?_
      refine WL.mv rfl rfl ?_
      refine WL.pv (PV.lenS (by exact H.p 0 rfl : SlV v44 (sibL Tv36 k (Tv36.dp k 0)) _) TrydT.sl50 rfl) rfl ?_
      refine WL.mv rfl rfl ?_
      refine WL.pv (PV.lenS (by exact H.p 1 rfl : SlV v40 (sibL Tv18 k (Tv18.dp k 0)) _) TrydT.sl50 rfl) rfl ?_
      refine WL.pv (PV.lss rfl rfl rfl) rfl ?_
      refine WL.nil ?_
      refine WE.cond_f' rfl (by (simp; omega)) ?_
      refine WE.skip ?_
      refine WE.seq ?_
      refine WE.seq_reg ?_
      refine WL.mv rfl rfl ?_
      refine WL.pv (PV.lenS (by exact H.p 1 rfl : SlV v40 (sibL Tv18 k (Tv18.dp k 0)) _) TrydT.sl50 rfl) rfl ?_
      refine WL.mv rfl rfl ?_
      refine WL.nil ?_
      refine WE.block ?_
      refine WE.loop (α := Nat × Int) [6, 14, 52, 53, 54, 55, 56, 57, 58, 59, 60, 61, 62, 63, 64, 65, 66, 67, 68] (fun p => [(52, .int .i64 p.1)]) (fun p wl => p.1 ≤ Tv18.dp k 0 ∧ St X w wl [] [Ent.blk bcv23 127 [.int .i64 p.2], Ent.blk b5 27 (kc k ++ [vs])] [SlV v44 (sibL Tv36 k (Tv36.dp k 0)), SlV v40 (sibL Tv18 k (Tv18.dp k 0)), TrA i Tv36, fun x => Vals (ofM l) x, HAt bhv23 bcv23 i, SlE sv18 (ofM l), TrA i Tv18, SlE s l, Vals l, SlB vs lv, Rounds]) (fun p => Tv18.dp k 0 - p.1) (0, mv36) ⟨rfl, trivial⟩ ⟨Nat.zero_le _, H⟩ ?_
      intro ⟨j, n⟩ γ0 w9 hI
      try dsimp only at hI
      obtain ⟨hj, H⟩ := hI
      refine WE.seq_reg ?_
      refine WL.pv (PV.lss rfl rfl rfl) rfl ?_
      refine WL.nil ?_
      refine WE.seq ?_
      refine WE.cond rfl (fun hc53 => ?_) (fun hc53 => ?_)
      · skip
        try simp only [decide_eq_true_eq, decide_eq_false_iff_not, ne_eq, Decidable.not_not, Bool.not_eq_true', Bool.not_eq_false', Bool.and_eq_true, Bool.or_eq_true, Bool.not_not, Bool.and_eq_false_iff, Bool.or_eq_false_iff, Int.not_lt, Int.not_le] at hc53
        have hlt : j < Tv18.dp k 0 := by omega
        have hsp := sib_put hTv18 hpm hok.1 (e := ⟨k, vs, lv⟩) hk hTv36 hpm2 hlt
        have hsp2 : ((Tv36.atN k 0 j).beside k j).er = ((Tv18.atN k 0 j).beside k j).er := hsp
        refine WE.skip ?_
        refine WE.seq ?_
        refine WE.block ?_
        refine WE.seq_reg ?_
        refine WL.mv rfl rfl ?_
        refine WL.as rfl rfl ?_
        refine WL.nil ?_
        refine WE.seq_draw (.take 0 (.take 1 (.take 2 (.take 3 (.take 4 (.take 6 (.take 7 (.take 8 (.take 9 (.take 10 (.pick1 5 (.pick1 11 (.take 12 .done))))))))))))) TrydT.mixed (by kernel_rfl) ?_
        replace H := H.out (Out.drew _)
        refine WP.mv rfl rfl rfl ?_
        refine WP.mv rfl rfl rfl ?_
        refine WP.mv rfl rfl rfl ?_
        refine WP.take_pure rfl rfl (PV.idxS rfl (by exact H.p 1 rfl : SlV v40 (sibL Tv18 k (Tv18.dp k 0)) _) TrydT.sl50 TrydT.sz29 rfl rfl (by omega) (by omega)) ?_
        refine WP.take_read rfl rfl (RV.loadOne rfl TrydT.ag29 rfl) ((by have h_ := SlV.rd (by exact H.p 1 rfl : SlV v40 (sibL Tv18 k (Tv18.dp k 0)) _) j (by omega); rw [sibL_get] at h_; exact h_)) ?_
        refine WP.mv rfl rfl rfl ?_
        refine WP.mv rfl rfl rfl ?_
        refine WP.mv rfl rfl rfl ?_
        refine WP.take_pure rfl rfl (PV.idxS rfl (by exact H.p 0 rfl : SlV v44 (sibL Tv36 k (Tv36.dp k 0)) _) TrydT.sl50 TrydT.sz29 rfl rfl (by omega) (by omega)) ?_
        refine WP.take_read rfl rfl (RV.loadOne rfl TrydT.ag29 rfl) ((by have h_ := SlV.rd (by exact H.p 0 rfl : SlV v44 (sibL Tv36 k (Tv36.dp k 0)) _) j (by omega); rw [sibL_get] at h_; exact h_)) ?_
        refine WP.pick1 rfl ?_
        refine WL.call TrydT.fb19 rfl (Digest_c (T := (Tv18.atN k 0 j).beside k j) (bits := i) H.yylt (H.l 0 rfl) (by exact H.robL 0 rfl 4 rfl) (by exact (H.robL 0 rfl 6 rfl : Rob _ (TrA i Tv18) _).imp fun _ h => (h.atN j).beside) (by exact H.robL 0 rfl 10 rfl) hi) ?_
        rintro _ w10 ⟨mv60, rfl, hO, hB⟩
        replace H := H.called 0 rfl hO hB
        refine WL.nil ⟨(List.forall_mem_cons.2 ⟨(fun _ _ => ((by have h_ := SlV.rd (by exact H.p 0 rfl : SlV v44 (sibL Tv36 k (Tv36.dp k 0)) _) j (by omega); rw [sibL_get] at h_; exact h_))), (List.forall_mem_cons.2 ⟨(by exact (fun h => absurd (show waits _ 5 4 = false from h) (by decide +kernel))), (fun _ h => by cases h)⟩)⟩), ?_⟩
        refine WP.pick1 rfl ?_
        refine WL.call TrydT.fb19 rfl (Digest_c (T := (Tv36.atN k 0 j).beside k j) (bits := i) H.yylt (H.l 0 rfl) (by exact H.robL 0 rfl 4 rfl) (by exact (H.robL 0 rfl 2 rfl : Rob _ (TrA i Tv36) _).imp fun _ h => (h.atN j).beside) (by exact H.robL 0 rfl 10 rfl) hi) ?_
        rintro _ w11 ⟨mv66, rfl, hO, hB⟩
        replace H := H.called 0 rfl hO hB
        refine WL.nil ⟨(List.forall_mem_cons.2 ⟨(by exact (fun h => absurd (show waits _ 11 10 = false from h) (by decide +kernel))), (List.forall_mem_cons.2 ⟨(by exact (fun h => absurd (show waits _ 11 4 = false from h) (by decide +kernel))), (fun _ h => by cases h)⟩)⟩), ?_⟩
        refine WP.take_pure rfl rfl (PV.neqB rfl TrydT.ar36 TrydT.in5 TrydT.sz5 (by kernel_rfl) rfl rfl (by exact dig_length _ _) (by exact dig_length _ _)) ?_
        refine WP.done ?_
        refine WE.cond_f' rfl (by (simp [hsp2]; done)) ?_
        refine WE.skip ?_
        refine WE.reg ?_
        refine WL.pv (PV.add64 rfl rfl rfl (by omega) (by omega)) rfl ?_
        refine WL.mv rfl rfl ?_
        refine WL.nil ?_
        exact ⟨(j + 1, mv66), (by repeat (first | with_reducible exact Off.refl _ _ | refine Off.upd rfl ?_ | refine Off.setAll rfl ?_ | refine Off.forget' rfl ?_)), ⟨rfl, trivial⟩, rfl, ⟨by dsimp only; omega, H⟩, (by dsimp only; omega)⟩
      · skip
        try simp only [decide_eq_true_eq, decide_eq_false_iff_not, ne_eq, Decidable.not_not, Bool.not_eq_true', Bool.not_eq_false', Bool.and_eq_true, Bool.or_eq_true, Bool.not_not, Bool.and_eq_false_iff, Bool.or_eq_false_iff, Int.not_lt, Int.not_le] at hc53
        refine WE.exit ?_
        refine WE.seq_reg ?_
        refine WL.call TrydT.fb17 rfl (alive09_c  H.yylt (by exact H.rob 10 rfl) ) ?_
        rintro _ w12 ⟨rfl, hO⟩
        replace H := H.out hO
        refine WL.mv rfl rfl ?_
        refine WL.known (t := 70) (c := true) rfl (by rfl) ?_
        refine WL.mv rfl rfl ?_
        refine WL.call TrydT.fb20 rfl (Len_c (T := Tv36) (bits := i) H.yylt (by exact H.rob 2 rfl) ) ?_
        rintro _ w13 ⟨rfl, hO⟩
        replace H := H.out hO
        refine WL.mv rfl rfl ?_
        refine WL.call TrydT.fb20 rfl (Len_c (T := Tv18) (bits := i) H.yylt (by exact H.rob 6 rfl) ) ?_
        rintro _ w14 ⟨rfl, hO⟩
        replace H := H.out hO
        refine WL.pv (PV.geq rfl rfl rfl) rfl ?_
        refine WL.pv (PV.pick_t rfl rfl rfl) rfl ?_
        refine WL.mv rfl rfl ?_
        refine WL.known (t := 77) (c := true) rfl (by exact decide_eq_true (by omega)) ?_
        refine WL.mv rfl rfl ?_
        refine WL.call TrydT.fb20 rfl (Len_c (T := Tv36) (bits := i) H.yylt (by exact H.rob 2 rfl) ) ?_
        rintro _ w15 ⟨rfl, hO⟩
        replace H := H.out hO
        refine WL.mv rfl rfl ?_
        refine WL.call TrydT.fb20 rfl (Len_c (T := Tv18) (bits := i) H.yylt (by exact H.rob 6 rfl) ) ?_
        rintro _ w16 ⟨rfl, hO⟩
        replace H := H.out hO
        refine WL.pv (PV.add64 rfl rfl rfl (by omega) (by omega)) rfl ?_
        refine WL.pv (PV.leq rfl rfl rfl) rfl ?_
        refine WL.pv (PV.pick_t rfl rfl rfl) rfl ?_
        refine WL.as rfl rfl ?_
        refine WL.nil ?_
        refine WE.ret ?_
        refine ⟨[_], _, .nil _, ⟨rfl, trivial⟩, ?_⟩
        refine ⟨?_, H.toOut0⟩
        show Value.bool _ = Value.bool true
        congr 1
        exact decide_eq_true (by omega)

end Go.Sp.Tryd
