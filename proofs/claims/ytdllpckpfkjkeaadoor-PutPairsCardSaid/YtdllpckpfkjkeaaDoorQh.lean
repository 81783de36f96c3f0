/- Walks of functions, printed by a program of this session (gen.py) from notes on each function. -/
import Derived.Test.YtdllpckpfkjkeaaDoorQf
set_option maxRecDepth 100000
set_option maxHeartbeats 1000000
set_option linter.unusedVariables false
set_option linter.unusedSimpArgs false
namespace Go.Sp.Tryd
open Go.Proofs Go.RowKit Go.Sp
theorem PutAtBad_c {X : Nat → Prop} {w : World} {i d0 : Int} {s vs : Value} {l : List En} {k lv : List UInt8} (hX : ∀ b, X b → b < w.heap.size) (hf0 : Rob X (SlE s l) w) (hf1 : Rob X (Vals l) w) (hf2 : Rob X (SlB vs lv) w) (hf3 : Rob X (Rounds) w) (hi : ¬ (0 ≤ i ∧ i ≤ 256)) (hkl : KL l) (hlen : l.length ≤ 9223372036854775807) (hvl : ∀ e ∈ l, e.v.length ≤ 9223372036854775807) (hk : k.length = 32) (hlv : lv.length ≤ 9223372036854775807) :
    Ret Tryd.prog 8 [.int .i64 i, s, .agg ((kc k ++ [vs]) ++ [Value.int .i64 d0]).toArray].toArray w fun v w' => v = .bool true ∧ Out Nil w w' := by
  refine Ret.of_body (N := 99) Tryd.func8 rfl rfl (by simp) ?_
  have H := St.begin hX
  replace H := H.add (rob0 hf3)
  replace H := H.add (rob0 hf2)
  replace H := H.add (rob0 hf1)
  replace H := H.add (rob0 hf0)
  have hvs1 : vs.oneCell' = true := SlC.one1 (hf2.here)
  refine WE.seq_reg ?_
  refine WL.box (l := (kc k ++ [vs]) ++ [Value.int .i64 d0]) H rfl (by rfl) rfl ?_
  intro b5 w1 H
  refine WL.as rfl rfl ?_
  refine WL.nil ?_
  refine WE.seq_reg ?_
  refine WL.mv rfl rfl ?_
  refine WL.mv rfl rfl ?_
  refine WL.call TrydT.fb15 rfl (Tree_c (i := i) (l := l) H.yylt (by exact H.rob 0 rfl) (by exact H.rob 1 rfl) (by exact H.rob 3 rfl) (by assumption) (by assumption) (by assumption)) ?_
  rintro _ w2 ⟨bv21, sv21, Tv21, mv21, rfl, hTv21, hbv21, hO, hS_, hR⟩
  replace H := ((H.out hO).add hR).add hS_
  have hbf : bv21 = false := by cases hb_ : bv21; rfl; exact absurd (hbv21 hb_).2.1 hi
  subst hbf
  refine WL.mv rfl rfl ?_
  refine WL.pv (PV.extract rfl rfl rfl) rfl ?_
  refine WL.pv (PV.extract rfl rfl rfl) rfl ?_
  refine WL.pv (PV.extract rfl rfl rfl) rfl ?_
  refine WL.as rfl rfl ?_
  refine WL.as rfl rfl ?_
  refine WL.as rfl rfl ?_
  refine WL.nil ?_
  refine WE.seq_reg ?_
  refine WL.mv rfl rfl ?_
  refine WL.call TrydT.fb16 rfl (HashBad_c (i := i) H.yylt  (by assumption)) ?_
  rintro _ w3 ⟨rfl, hO⟩
  replace H := H.out hO
  refine WL.as rfl rfl ?_
  refine WL.nil ?_
  refine WE.seq_draw (.take 0 (.take 1 (.take 2 (.take 3 (.pick1 4 (.take 5 (.pick1 6 .done))))))) TrydT.mixed (by kernel_rfl) ?_
  replace H := H.out (Out.drew _)
  refine WP.take_pure rfl rfl (PV.fieldAddr rfl TrydT.fd57_1 rfl) ?_
  refine WP.take_read rfl rfl (RV.loadOne rfl TrydT.ag3 rfl) (by exact Blk.segAt (H.l 0 rfl) (Seg.r (Seg.all _) (by with_reducible rfl)) (by (simp [kc_length, kw_length, *]; done))) ?_
  refine WP.take_pure rfl rfl (PV.fieldAddr rfl TrydT.fd57_0 rfl) ?_
  refine WP.readA rfl rfl rfl TrydT.ag27 rfl (by exact Blk.segAt (H.l 0 rfl) (Seg.l (Seg.all _)) (by rfl)) (by (rw [TrydT.sz27]; refine congrArg some ?_; (simp only [kc_length, kw_length, List.length_replicate, List.length_append, List.length_cons, List.length_nil, cutI_length, shaOf_length, dig_length, valD_length, rootM_length]; omega))) ?_
  refine WP.pick1 rfl ?_
  refine WL.alloc H rfl TrydT.ze27 rfl ?_
  intro b12 w4 H
  refine WL.nil ⟨(List.forall_mem_cons.2 ⟨(fun _ _ => (by exact Blk.segAt (H.l 1 rfl) (Seg.l (Seg.all _)) (by rfl))), (List.forall_mem_cons.2 ⟨(fun _ _ => (by exact Blk.segAt (H.l 1 rfl) (Seg.r (Seg.all _) (by with_reducible rfl)) (by (simp [kc_length, kw_length, *]; done)))), (fun _ h => by cases h)⟩)⟩), ?_⟩
  refine WP.as rfl rfl rfl ?_
  refine WP.pick1 rfl ?_
  refine WL.storeL H 0 rfl rfl rfl (new := kc k ++ [vs]) rfl (by (rw [TrydT.sz27]; refine congrArg some ?_; (simp only [kc_length, kw_length, List.length_replicate, List.length_append, List.length_cons, List.length_nil, cutI_length, shaOf_length, dig_length, valD_length, rootM_length]; omega))) (one_append (kc_one _) (one_sing hvs1)) (Laid.at (Laid.all (by (simp only [kc_length, kw_length, List.length_replicate, List.length_append, List.length_cons, List.length_nil, cutI_length, shaOf_length, dig_length, valD_length, rootM_length]; omega))) (by rfl)) rfl ?_
  intro w5 H
  refine WL.nil ⟨(List.forall_mem_cons.2 ⟨(by exact (fun h => absurd (show waits _ 6 3 = false from h) (by decide +kernel))), (List.forall_mem_cons.2 ⟨(by exact (fun h => absurd (show waits _ 6 1 = false from h) (by decide +kernel))), (fun _ h => by cases h)⟩)⟩), ?_⟩
  refine WP.done ?_
  refine WE.seq ?_
  refine WE.seq_reg ?_
  refine WL.mv rfl rfl ?_
  refine WL.pv (PV.not rfl rfl) rfl ?_
  refine WL.mv rfl rfl ?_
  refine WL.known (t := 33) (c := true) rfl rfl ?_
  refine WL.off rfl ?_
  refine WL.off rfl ?_
  refine WL.off rfl ?_
  refine WL.off rfl ?_
  refine WL.pv (PV.pick_t rfl rfl rfl) rfl ?_
  refine WL.mv rfl rfl ?_
  refine WL.off rfl ?_
  refine WL.off rfl ?_
  refine WL.pv (PV.pick_t rfl rfl rfl) rfl ?_
  refine WL.mv rfl rfl ?_
  refine WL.off rfl ?_
  refine WL.off rfl ?_
  refine WL.pv (PV.pick_t rfl rfl rfl) rfl ?_
  refine WL.nil ?_
  refine WE.cond_t rfl ?_
  refine WE.seq_reg ?_
  refine WL.call TrydT.fb17 rfl (alive09_c  H.yylt (by exact H.rob 5 rfl) ) ?_
  rintro _ w6 ⟨rfl, hO⟩
  replace H := H.out hO
  refine WL.as rfl rfl ?_
  refine WL.nil ?_
  refine WE.ret ?_
  refine ⟨[_], _, .nil _, ⟨rfl, trivial⟩, ?_⟩
  refine ⟨?_, H.toOut0⟩
  rfl

theorem PutAt_c {X : Nat → Prop} {w : World} {i d0 : Int} {s vs : Value} {l : List En} {k lv : List UInt8} (hX : ∀ b, X b → b < w.heap.size) (hf0 : Rob X (SlE s l) w) (hf1 : Rob X (Vals l) w) (hf2 : Rob X (SlB vs lv) w) (hf3 : Rob X (Rounds) w) (hi : 0 ≤ i ∧ i ≤ 256) (hkl : KL l) (hlen : l.length ≤ 9223372036854775807) (hvl : ∀ e ∈ l, e.v.length ≤ 9223372036854775807) (hk : k.length = 32) (hlv : lv.length ≤ 9223372036854775807) :
    Ret Tryd.prog 8 [.int .i64 i, s, .agg ((kc k ++ [vs]) ++ [Value.int .i64 d0]).toArray].toArray w fun v w' => v = .bool true ∧ Out Nil w w' := by
  refine Ret.of_body (N := 99) Tryd.func8 rfl rfl (by simp) ?_
  have H := St.begin hX
  replace H := H.add (rob0 hf3)
  replace H := H.add (rob0 hf2)
  replace H := H.add (rob0 hf1)
  replace H := H.add (rob0 hf0)
  have hvs1 : vs.oneCell' = true := SlC.one1 (hf2.here)
  refine WE.seq_reg ?_
  refine WL.box (l := (kc k ++ [vs]) ++ [Value.int .i64 d0]) H rfl (by rfl) rfl ?_
  intro b5 w1 H
  refine WL.as rfl rfl ?_
  refine WL.nil ?_
  refine WE.seq_reg ?_
  refine WL.mv rfl rfl ?_
  refine WL.mv rfl rfl ?_
  refine WL.call TrydT.fb15 rfl (Tree_c (i := i) (l := l) H.yylt (by exact H.rob 0 rfl) (by exact H.rob 1 rfl) (by exact H.rob 3 rfl) (by assumption) (by assumption) (by assumption)) ?_
  rintro _ w2 ⟨bv21, sv21, Tv21, mv21, rfl, hTv21, hbv21, hO, hS_, hR⟩
  replace H := ((H.out hO).add hR).add hS_
  refine WL.mv rfl rfl ?_
  refine WL.pv (PV.extract rfl rfl rfl) rfl ?_
  refine WL.pv (PV.extract rfl rfl rfl) rfl ?_
  refine WL.pv (PV.extract rfl rfl rfl) rfl ?_
  refine WL.as rfl rfl ?_
  refine WL.as rfl rfl ?_
  refine WL.as rfl rfl ?_
  refine WL.nil ?_
  refine WE.seq_reg ?_
  refine WL.mv rfl rfl ?_
  refine WL.call TrydT.fb16 rfl (Hash_c (i := i) H.yylt  (by assumption)) ?_
  rintro _ w3 ⟨bhv26, bcv26, rfl, hO, hge, hB, hR⟩
  replace H := H.pushR hO (Ent.blk bcv26 127 [.int .i64 0]) hB (fun c hc => by cases hc; exact hge) hR
  refine WL.as rfl rfl ?_
  refine WL.nil ?_
  refine WE.seq_draw (.take 0 (.take 1 (.take 2 (.take 3 (.pick1 4 (.take 5 (.pick1 6 .done))))))) TrydT.mixed (by kernel_rfl) ?_
  replace H := H.out (Out.drew _)
  refine WP.take_pure rfl rfl (PV.fieldAddr rfl TrydT.fd57_1 rfl) ?_
  refine WP.take_read rfl rfl (RV.loadOne rfl TrydT.ag3 rfl) (by exact Blk.segAt (H.l 1 rfl) (Seg.r (Seg.all _) (by with_reducible rfl)) (by (simp [kc_length, kw_length, *]; done))) ?_
  refine WP.take_pure rfl rfl (PV.fieldAddr rfl TrydT.fd57_0 rfl) ?_
  refine WP.readA rfl rfl rfl TrydT.ag27 rfl (by exact Blk.segAt (H.l 1 rfl) (Seg.l (Seg.all _)) (by rfl)) (by (rw [TrydT.sz27]; refine congrArg some ?_; (simp only [kc_length, kw_length, List.length_replicate, List.length_append, List.length_cons, List.length_nil, cutI_length, shaOf_length, dig_length, valD_length, rootM_length]; omega))) ?_
  refine WP.pick1 rfl ?_
  refine WL.alloc H rfl TrydT.ze27 rfl ?_
  intro b12 w4 H
  refine WL.nil ⟨(List.forall_mem_cons.2 ⟨(fun _ _ => (by exact Blk.segAt (H.l 2 rfl) (Seg.l (Seg.all _)) (by rfl))), (List.forall_mem_cons.2 ⟨(fun _ _ => (by exact Blk.segAt (H.l 2 rfl) (Seg.r (Seg.all _) (by with_reducible rfl)) (by (simp [kc_length, kw_length, *]; done)))), (fun _ h => by cases h)⟩)⟩), ?_⟩
  refine WP.as rfl rfl rfl ?_
  refine WP.pick1 rfl ?_
  refine WL.storeL H 0 rfl rfl rfl (new := kc k ++ [vs]) rfl (by (rw [TrydT.sz27]; refine congrArg some ?_; (simp only [kc_length, kw_length, List.length_replicate, List.length_append, List.length_cons, List.length_nil, cutI_length, shaOf_length, dig_length, valD_length, rootM_length]; omega))) (one_append (kc_one _) (one_sing hvs1)) (Laid.at (Laid.all (by (simp only [kc_length, kw_length, List.length_replicate, List.length_append, List.length_cons, List.length_nil, cutI_length, shaOf_length, dig_length, valD_length, rootM_length]; omega))) (by rfl)) rfl ?_
  intro w5 H
  refine WL.nil ⟨(List.forall_mem_cons.2 ⟨(by exact (fun h => absurd (show waits _ 6 3 = false from h) (by decide +kernel))), (List.forall_mem_cons.2 ⟨(by exact (fun h => absurd (show waits _ 6 1 = false from h) (by decide +kernel))), (fun _ h => by cases h)⟩)⟩), ?_⟩
  refine WP.done ?_
  refine WE.seq ?_
  refine WE.seq_reg ?_
  refine WL.mv rfl rfl ?_
  refine WL.pv (PV.not rfl rfl) rfl ?_
  refine WL.mv rfl rfl ?_
  refine WL.split (t := 33) rfl (fun hg33 => ?_) (fun hg33 => ?_)
  · skip
    refine WL.known (t := 32) (c := true) rfl hg33 ?_
    try simp only [decide_eq_true_eq, decide_eq_false_iff_not, ne_eq, Decidable.not_not, Bool.not_eq_true', Bool.not_eq_false', Bool.and_eq_true, Bool.or_eq_true, Bool.not_not, Bool.and_eq_false_iff, Bool.or_eq_false_iff, Int.not_lt, Int.not_le] at hg33
    refine WL.off rfl ?_
    refine WL.off rfl ?_
    refine WL.off rfl ?_
    refine WL.off rfl ?_
    refine WL.pv (PV.pick_t rfl rfl rfl) rfl ?_
    refine WL.mv rfl rfl ?_
    refine WL.off rfl ?_
    refine WL.off rfl ?_
    refine WL.pv (PV.pick_t rfl rfl rfl) rfl ?_
    refine WL.mv rfl rfl ?_
    refine WL.off rfl ?_
    refine WL.off rfl ?_
    refine WL.pv (PV.pick_t rfl rfl rfl) rfl ?_
    refine WL.nil ?_
    refine WE.cond_t rfl ?_
    refine WE.seq_reg ?_
    refine WL.call TrydT.fb17 rfl (alive09_c  H.yylt (by exact H.rob 6 rfl) ) ?_
    rintro _ w6 ⟨rfl, hO⟩
    replace H := H.out hO
    refine WL.as rfl rfl ?_
    refine WL.nil ?_
    refine WE.ret ?_
    refine ⟨[_], _, .nil _, ⟨rfl, trivial⟩, ?_⟩
    refine ⟨?_, H.toOut0⟩
    rfl
  · skip
    refine WL.known (t := 32) (c := false) rfl hg33 ?_
    try simp only [decide_eq_true_eq, decide_eq_false_iff_not, ne_eq, Decidable.not_not, Bool.not_eq_true', Bool.not_eq_false', Bool.and_eq_true, Bool.or_eq_true, Bool.not_not, Bool.and_eq_false_iff, Bool.or_eq_false_iff, Int.not_lt, Int.not_le] at hg33
    obtain ⟨rfl, -, hfew⟩ := hbv21 (by exact hg33)
    have hok := ofM_ok l hkl
    have hpm := ofM_pm l hkl
    have hml : (ofM l).length ≤ 12 := Nat.le_trans hok.2.2.1 hfew.1
    have hvs := ofM_short hkl hfew.2
    have hsv : ShortV (ofM l) := fun e he => Nat.le_trans (hvs e he) (by decide)
    replace H := H.add (by exact (H.rob 4 rfl : Rob _ (Vals l) _).imp fun _ h => h.sub hok.2.2.2)
    have hone : OneS (ofM l) := OneS.of (H.p 0 rfl)
    have hfit : Tv21.er.fit 0 := hTv21 ▸ grow_fit hpm
    refine WL.pv (PV.fieldAddr rfl TrydT.fd27_1 rfl) rfl ?_
    refine WL.load1 rfl TrydT.ag25 rfl rfl (by exact Blk.segAt (H.l 0 rfl) (Seg.r (Seg.all _) (by with_reducible rfl)) (by (simp [kc_length, kw_length, *]; done))) ?_
    refine WL.pv (PV.lenS (by exact H.p 6 rfl : SlB vs lv _) TrydT.sl25 rfl) rfl ?_
    refine WL.pv (PV.gtr rfl rfl rfl) rfl ?_
    refine WL.pv (PV.pick_f rfl rfl rfl) rfl ?_
    refine WL.mv rfl rfl ?_
    refine WL.split (t := 39) rfl (fun hg39 => ?_) (fun hg39 => ?_)
    · skip
      refine WL.known (t := 38) (c := true) rfl hg39 ?_
      try simp only [decide_eq_true_eq, decide_eq_false_iff_not, ne_eq, Decidable.not_not, Bool.not_eq_true', Bool.not_eq_false', Bool.and_eq_true, Bool.or_eq_true, Bool.not_not, Bool.and_eq_false_iff, Bool.or_eq_false_iff, Int.not_lt, Int.not_le] at hg39
      refine WL.off rfl ?_
      refine WL.off rfl ?_
      refine WL.pv (PV.pick_t rfl rfl rfl) rfl ?_
      refine WL.mv rfl rfl ?_
      refine WL.off rfl ?_
      refine WL.off rfl ?_
      refine WL.pv (PV.pick_t rfl rfl rfl) rfl ?_
      refine WL.nil ?_
      refine WE.cond_t rfl ?_
      refine WE.seq_reg ?_
      refine WL.call TrydT.fb17 rfl (alive09_c  H.yylt (by exact H.rob 7 rfl) ) ?_
      rintro _ w7 ⟨rfl, hO⟩
      replace H := H.out hO
      refine WL.as rfl rfl ?_
      refine WL.nil ?_
      refine WE.ret ?_
      refine ⟨[_], _, .nil _, ⟨rfl, trivial⟩, ?_⟩
      refine ⟨?_, H.toOut0⟩
      rfl
    · skip
      refine WL.known (t := 38) (c := false) rfl hg39 ?_
      try simp only [decide_eq_true_eq, decide_eq_false_iff_not, ne_eq, Decidable.not_not, Bool.not_eq_true', Bool.not_eq_false', Bool.and_eq_true, Bool.or_eq_true, Bool.not_not, Bool.and_eq_false_iff, Bool.or_eq_false_iff, Int.not_lt, Int.not_le] at hg39
      have hlv2 : lv.length ≤ 200 := by omega
      refine WL.mv rfl rfl ?_
      refine WL.pv (PV.lss rfl rfl rfl) rfl ?_
      refine WL.pv (PV.pick_f rfl rfl rfl) rfl ?_
      refine WL.mv rfl rfl ?_
      refine WL.split (t := 43) rfl (fun hg43 => ?_) (fun hg43 => ?_)
      · skip
        refine WL.known (t := 42) (c := true) rfl hg43 ?_
        try simp only [decide_eq_true_eq, decide_eq_false_iff_not, ne_eq, Decidable.not_not, Bool.not_eq_true', Bool.not_eq_false', Bool.and_eq_true, Bool.or_eq_true, Bool.not_not, Bool.and_eq_false_iff, Bool.or_eq_false_iff, Int.not_lt, Int.not_le] at hg43
        refine WL.off rfl ?_
        refine WL.off rfl ?_
        refine WL.pv (PV.pick_t rfl rfl rfl) rfl ?_
        refine WL.nil ?_
        refine WE.cond_t rfl ?_
        refine WE.seq_reg ?_
        refine WL.call TrydT.fb17 rfl (alive09_c  H.yylt (by exact H.rob 7 rfl) ) ?_
        rintro _ w8 ⟨rfl, hO⟩
        replace H := H.out hO
        refine WL.as rfl rfl ?_
        refine WL.nil ?_
        refine WE.ret ?_
        refine ⟨[_], _, .nil _, ⟨rfl, trivial⟩, ?_⟩
        refine ⟨?_, H.toOut0⟩
        rfl
      · skip
        refine WL.known (t := 42) (c := false) rfl hg43 ?_
        try simp only [decide_eq_true_eq, decide_eq_false_iff_not, ne_eq, Decidable.not_not, Bool.not_eq_true', Bool.not_eq_false', Bool.and_eq_true, Bool.or_eq_true, Bool.not_not, Bool.and_eq_false_iff, Bool.or_eq_false_iff, Int.not_lt, Int.not_le] at hg43
        have hd0 : 0 ≤ d0 := by exact hg43
        refine WL.mv rfl rfl ?_
        refine WL.pv (PV.gtr rfl rfl rfl) rfl ?_
        refine WL.pv (PV.pick_f rfl rfl rfl) rfl ?_
        refine WL.nil ?_
        refine WE.cond rfl (fun hc46 => ?_) (fun hc46 => ?_)
        · skip
          try simp only [decide_eq_true_eq, decide_eq_false_iff_not, ne_eq, Decidable.not_not, Bool.not_eq_true', Bool.not_eq_false', Bool.and_eq_true, Bool.or_eq_true, Bool.not_not, Bool.and_eq_false_iff, Bool.or_eq_false_iff, Int.not_lt, Int.not_le] at hc46
          refine WE.seq_reg ?_
          refine WL.call TrydT.fb17 rfl (alive09_c  H.yylt (by exact H.rob 7 rfl) ) ?_
          rintro _ w9 ⟨rfl, hO⟩
          replace H := H.out hO
          refine WL.as rfl rfl ?_
          refine WL.nil ?_
          refine WE.ret ?_
          refine ⟨[_], _, .nil _, ⟨rfl, trivial⟩, ?_⟩
          refine ⟨?_, H.toOut0⟩
          rfl
        · skip
          try simp only [decide_eq_true_eq, decide_eq_false_iff_not, ne_eq, Decidable.not_not, Bool.not_eq_true', Bool.not_eq_false', Bool.and_eq_true, Bool.or_eq_true, Bool.not_not, Bool.and_eq_false_iff, Bool.or_eq_false_iff, Int.not_lt, Int.not_le] at hc46
          have hd1 : d0 ≤ 256 := by omega
          obtain ⟨d, rfl⟩ : ∃ d : Nat, d0 = (d : Int) := ⟨d0.toNat, by omega⟩
          refine WE.skip ?_
          refine WE.seq_reg ?_
          refine WL.as rfl rfl ?_
          refine WL.nil ?_
          refine WE.seq ?_
          refine WE.seq_reg ?_
          refine WL.mv rfl rfl ?_
          refine WL.pv (PV.lenS (by exact H.p 2 rfl : SlE sv21 (ofM l) _) TrydT.sl22 rfl) rfl ?_
          refine WL.mv rfl rfl ?_
          refine WL.nil ?_
          refine WE.block ?_
          replace H := H.nilOsl 27 33
          refine WE.loop (α := Nat × Value) [13, 15, 50, 51, 52, 53, 54, 55, 56, 57, 58, 59, 60, 61, 62, 63, 64, 65] (fun p => [(50, .int .i64 p.1), (13, p.2)]) (fun p wl => p.1 ≤ (ofM l).length ∧ St X w wl [] [Ent.osl w.heap.size p.2 27 33 ((underM ((ofM l).take p.1) k d)).length (((underM ((ofM l).take p.1) k d)).flatMap enC), Ent.blk b12 27 (kc k ++ [vs]), Ent.blk bcv26 127 [.int .i64 0], Ent.blk b5 57 ((kc k ++ [vs]) ++ [Value.int .i64 (d : Int)])] [fun x => Vals (ofM l) x, HAt bhv26 bcv26 i, SlE sv21 (ofM l), TrA i Tv21, SlE s l, Vals l, SlB vs lv, Rounds]) (fun p => (ofM l).length - p.1) (0, .slice none 0 0) ⟨rfl, rfl, trivial⟩ ⟨Nat.zero_le _, H⟩ ?_
          intro ⟨j, v⟩ γ0 w10 hI
          try dsimp only at hI
          obtain ⟨hj, H⟩ := hI
          refine WE.seq_reg ?_
          refine WL.pv (PV.lss rfl rfl rfl) rfl ?_
          refine WL.nil ?_
          refine WE.seq ?_
          refine WE.cond rfl (fun hc51 => ?_) (fun hc51 => ?_)
          · skip
            try simp only [decide_eq_true_eq, decide_eq_false_iff_not, ne_eq, Decidable.not_not, Bool.not_eq_true', Bool.not_eq_false', Bool.and_eq_true, Bool.or_eq_true, Bool.not_not, Bool.and_eq_false_iff, Bool.or_eq_false_iff, Int.not_lt, Int.not_le] at hc51
            have hlt : j < (ofM l).length := by omega
            have hE : (enC (ofM l)[j]).length = 1 * 33 := enC_length (hok.2.1 _ (List.getElem_mem hlt))
            have hE2 : (enC (ofM l)[j]).length = 33 := hE
            have hkk := hok.2.1 _ (List.getElem_mem hlt)
            have hpl : (underM ((ofM l).take j) k d).length ≤ j := Nat.le_trans (underM_le _ _ _) (by simp; omega)
            have hS := underM_snoc (ofM l) k d j hlt
            refine WE.skip ?_
            refine WE.cut (α := Value) [13, 15, 52, 53, 54, 55, 56, 57, 58, 59, 60, 61, 62, 63, 64] (fun g1_ => [(13, g1_)]) (fun g1_ wl => St X w wl [] [Ent.osl w.heap.size g1_ 27 33 ((underM ((ofM l).take (j + 1)) k d)).length (((underM ((ofM l).take (j + 1)) k d)).flatMap enC), Ent.blk b12 27 (kc k ++ [vs]), Ent.blk bcv26 127 [.int .i64 0], Ent.blk b5 57 ((kc k ++ [vs]) ++ [Value.int .i64 (d : Int)])] [fun x => Vals (ofM l) x, HAt bhv26 bcv26 i, SlE sv21 (ofM l), TrA i Tv21, SlE s l, Vals l, SlB vs lv, Rounds]) ?_ ?_
            · skip
              refine WE.block ?_
              refine WE.seq_reg ?_
              refine WL.pv (PV.idxS rfl (by exact H.p 2 rfl : SlE sv21 (ofM l) _) TrydT.sl22 TrydT.sz27 rfl rfl (by omega) (by omega)) rfl ?_
              refine WL.loadR rfl TrydT.ag27 rfl rfl (SlE.rd (by exact H.p 2 rfl : SlE sv21 (ofM l) _) hok.2.1 j hlt) (by (rw [TrydT.sz27]; refine congrArg some ?_; (simp [kc_length, kw_length, *]; done))) ?_
              refine WL.alloc H rfl TrydT.ze27 rfl ?_
              intro b15 w11 H
              refine WL.storeL H 0 rfl rfl rfl (new := enC (ofM l)[j]) rfl (by (rw [TrydT.sz27]; refine congrArg some ?_; (simp [kc_length, kw_length, *]; done))) (one_enC (hone _ (List.getElem_mem hlt))) (Laid.at (Laid.all (by (simp only [kc_length, kw_length, List.length_replicate, List.length_append, List.length_cons, List.length_nil, cutI_length, shaOf_length, dig_length, valD_length, rootM_length]; omega))) (by rfl)) rfl ?_
              intro w12 H
              refine WL.nil ?_
              refine WE.seq_reg ?_
              refine WL.pv (PV.fieldAddr rfl TrydT.fd27_0 rfl) rfl ?_
              refine WL.loadR rfl TrydT.ag24 rfl rfl (by exact Blk.segAt (H.l 0 rfl) (Seg.l (Seg.all _)) (by rfl)) (by (rw [TrydT.sz24]; refine congrArg some ?_; (simp only [kc_length, kw_length, List.length_replicate, List.length_append, List.length_cons, List.length_nil, cutI_length, shaOf_length, dig_length, valD_length, rootM_length]; omega))) ?_
              refine WL.pv (PV.fieldAddr rfl TrydT.fd27_0 rfl) rfl ?_
              refine WL.loadR rfl TrydT.ag24 rfl rfl (by exact Blk.segAt (H.l 2 rfl) (Seg.l (Seg.all _)) (by rfl)) (by (rw [TrydT.sz24]; refine congrArg some ?_; (simp only [kc_length, kw_length, List.length_replicate, List.length_append, List.length_cons, List.length_nil, cutI_length, shaOf_length, dig_length, valD_length, rootM_length]; omega))) ?_
              refine WL.call TrydT.fb22 rfl (refCommon_c (a := (ofM l)[j].k) (b := k) H.yylt  (by assumption) (by assumption)) ?_
              rintro _ w13 ⟨rfl, hO⟩
              replace H := H.out hO
              refine WL.mv rfl rfl ?_
              refine WL.pv (PV.geq rfl rfl rfl) rfl ?_
              refine WL.nil ?_
              refine WE.cond rfl (fun hc60 => ?_) (fun hc60 => ?_)
              · skip
                try simp only [decide_eq_true_eq, decide_eq_false_iff_not, ne_eq, Decidable.not_not, Bool.not_eq_true', Bool.not_eq_false', Bool.and_eq_true, Bool.or_eq_true, Bool.not_not, Bool.and_eq_false_iff, Bool.or_eq_false_iff, Int.not_lt, Int.not_le] at hc60
                rw [if_pos (by omega)] at hS
                refine WE.reg ?_
                refine WL.mv rfl rfl ?_
                refine WL.loadR rfl TrydT.ag27 rfl rfl (by exact Blk.segAt (H.l 0 rfl) (Seg.all _) (by rfl)) (by (rw [TrydT.sz27]; refine congrArg some ?_; (simp [kc_length, kw_length, *]; done))) ?_
                refine WL.buildSliceF (l0 := ((kc (List.replicate 32 0) ++ ([.slice none 0 0])))) H rfl TrydT.st22 (by decide) (by rfl) (Fl.cons rfl (by rfl) (by (simp only [kc_length, kw_length, List.length_replicate, List.length_append, List.length_cons, List.length_nil, cutI_length, shaOf_length, dig_length, valD_length, rootM_length]; omega)) (Laid.all (by (simp only [kc_length, kw_length, List.length_replicate, List.length_append, List.length_cons, List.length_nil, cutI_length, shaOf_length, dig_length, valD_length, rootM_length]; omega))) Fl.nil) rfl ?_
                intro b63 w14 H
                refine WL.append (m := 1) H 2 TrydT.st22 (by decide) rfl rfl rfl (SlC.of_blk (n := 1) (H.l 0 rfl) hE) (one_enC (hone _ (List.getElem_mem hlt))) (by omega) (by decide) rfl ?_
                intro v64 w15 H
                have hSl := congrArg List.length hS
                rw [List.length_append, show [(ofM l)[j]].length = 1 from rfl] at hSl
                have hSf := congrArg (List.flatMap enC) hS
                rw [List.flatMap_append, List.flatMap_singleton] at hSf
                replace H := H.forget 0
                replace H := H.conv (L' := [Ent.blk b15 27 (enC (ofM l)[j]), Ent.osl w.heap.size v64 27 33 ((underM ((ofM l).take (j + 1)) k d)).length (((underM ((ofM l).take (j + 1)) k d)).flatMap enC), Ent.blk b12 27 (kc k ++ [vs]), Ent.blk bcv26 127 [.int .i64 0], Ent.blk b5 57 ((kc k ++ [vs]) ++ [Value.int .i64 (d : Int)])]) (by rw [hSl, hSf]; rfl)
                refine WL.as rfl rfl ?_
                refine WL.nil ?_
                replace H := H.forget 0
                exact ⟨v64, (by repeat (first | with_reducible exact Off.refl _ _ | refine Off.upd rfl ?_)), ⟨rfl, trivial⟩, rfl, H⟩
              · skip
                try simp only [decide_eq_true_eq, decide_eq_false_iff_not, ne_eq, Decidable.not_not, Bool.not_eq_true', Bool.not_eq_false', Bool.and_eq_true, Bool.or_eq_true, Bool.not_not, Bool.and_eq_false_iff, Bool.or_eq_false_iff, Int.not_lt, Int.not_le] at hc60
                rw [if_neg (by omega), List.append_nil] at hS
                refine WE.skip ?_
                replace H := H.forget 0
                exact ⟨v, (by repeat (first | with_reducible exact Off.refl _ _ | refine Off.upd rfl ?_)), ⟨rfl, trivial⟩, rfl, H.conv (by rw [hS]; rfl)⟩
            · skip
              intro g1_ γ w16 hI
              try dsimp only at hI
              replace H := hI
              refine WE.reg ?_
              refine WL.pv (PV.add64 rfl rfl rfl (by omega) (by omega)) rfl ?_
              refine WL.mv rfl rfl ?_
              refine WL.nil ?_
              exact ⟨(j + 1, g1_), (by repeat (first | with_reducible exact Off.refl _ _ | refine Off.upd rfl ?_ | refine Off.setAll rfl ?_ | refine Off.forget' rfl ?_)), ⟨rfl, rfl, trivial⟩, rfl, ⟨by dsimp only; omega, H⟩, (by dsimp only; omega)⟩
          · skip
            try simp only [decide_eq_true_eq, decide_eq_false_iff_not, ne_eq, Decidable.not_not, Bool.not_eq_true', Bool.not_eq_false', Bool.and_eq_true, Bool.or_eq_true, Bool.not_not, Bool.and_eq_false_iff, Bool.or_eq_false_iff, Int.not_lt, Int.not_le] at hc51
            have hke : (ofM l).take j = ofM l := List.take_of_length_le (by omega)
            refine WE.exit ?_
            rw [hke] at H
            replace H := H.freeze (i := 0) rfl
            replace H := H.add ((H.rob 0 rfl).imp fun _ h => (SlC.of_own h : SlE v (underM (ofM l) k d) _))
            have hue := und_er (k := k) (c := d) hTv21 hpm (by omega)
            have hup := under_pm (c := d) hpm hk (by omega)
            have hul := underM_le (ofM l) k d
            have hpp := put_pm (e := ⟨k, vs, lv⟩) hup (hok.1.filter _) hk (fun e he => (underM_mem.1 he).2)
            have hpl := putM_len (underM (ofM l) k d) ⟨k, vs, lv⟩
            refine WE.seq_draw (.take 0 (.take 1 (.take 2 (.take 3 (.take 4 (.take 6 (.take 7 (.pick1 5 (.pick1 8 (.take 9 .done)))))))))) TrydT.mixed (by kernel_rfl) ?_
            replace H := H.out (Out.drew _)
            refine WP.mv rfl rfl rfl ?_
            refine WP.mv rfl rfl rfl ?_
            refine WP.take_pure rfl rfl (PV.fieldAddr rfl TrydT.fd27_0 rfl) ?_
            refine WP.readA rfl rfl rfl TrydT.ag24 rfl (by exact Blk.segAt (H.l 0 rfl) (Seg.l (Seg.all _)) (by rfl)) (by (rw [TrydT.sz24]; refine congrArg some ?_; (simp only [kc_length, kw_length, List.length_replicate, List.length_append, List.length_cons, List.length_nil, cutI_length, shaOf_length, dig_length, valD_length, rootM_length]; omega))) ?_
            refine WP.mv rfl rfl rfl ?_
            refine WP.readA rfl rfl rfl TrydT.ag27 rfl (by exact Blk.segAt (H.l 0 rfl) (Seg.all _) (by rfl)) (by (rw [TrydT.sz27]; refine congrArg some ?_; (simp only [kc_length, kw_length, List.length_replicate, List.length_append, List.length_cons, List.length_nil, cutI_length, shaOf_length, dig_length, valD_length, rootM_length]; omega))) ?_
            refine WP.mv rfl rfl rfl ?_
            refine WP.pick1 rfl ?_
            refine WL.call TrydT.fb33 rfl (Under_c (T := Tv21) (k := k) (bits := i) (c := d) H.yylt (by exact H.rob 5 rfl) hk hfit (by omega)) ?_
            rintro _ w17 ⟨rfl, hO⟩
            replace H := H.out hO
            refine WL.nil ⟨(List.forall_mem_cons.2 ⟨(fun _ _ => (by exact Blk.segAt (H.l 0 rfl) (Seg.all _) (by rfl))), (List.forall_mem_cons.2 ⟨(by exact (fun h => absurd (show waits _ 5 3 = false from h) (by decide +kernel))), (fun _ h => by cases h)⟩)⟩), ?_⟩
            refine WP.pick1 rfl ?_
            refine WL.call TrydT.fb32 rfl (putAt_c (T := (Tv21.und k d)) (M := (underM (ofM l) k d)) (k := k) (lv := lv) (s := vs) (d := d) (bits := i) H.yylt (H.l 1 rfl) (by exact H.robL 1 rfl 3 rfl) (by exact (H.robL 1 rfl 5 rfl : Rob _ (TrA i Tv21) _).imp fun _ h => und_A h) (by exact H.robL 1 rfl 9 rfl) hi hk (by omega) (by exact (H.robL 1 rfl 8 rfl : Rob _ (SlB vs lv) _).wk1) hue hup (hok.1.filter _) (fun e he => (underM_mem.1 he).2) (by omega)) ?_
            rintro _ w18 ⟨Tv74, mv74, rfl, hTv74, hO, hB, hR⟩
            replace H := H.calledR 1 rfl hO hB hR
            refine WL.nil ⟨(List.forall_mem_cons.2 ⟨(by exact (fun h => absurd (show waits _ 8 6 = false from h) (by decide +kernel))), (List.forall_mem_cons.2 ⟨(by exact (fun h => absurd (show waits _ 8 3 = false from h) (by decide +kernel))), (fun _ h => by cases h)⟩)⟩), ?_⟩
            refine WP.as rfl rfl rfl ?_
            refine WP.done ?_
            refine WE.seq_reg ?_
            refine WL.mv rfl rfl ?_
            refine WL.pv (PV.fieldAddr rfl TrydT.fd27_0 rfl) rfl ?_
            refine WL.loadR rfl TrydT.ag24 rfl rfl (by exact Blk.segAt (H.l 0 rfl) (Seg.l (Seg.all _)) (by rfl)) (by (rw [TrydT.sz24]; refine congrArg some ?_; (simp only [kc_length, kw_length, List.length_replicate, List.length_append, List.length_cons, List.length_nil, cutI_length, shaOf_length, dig_length, valD_length, rootM_length]; omega))) ?_
            refine WL.pv (PV.fieldAddr rfl TrydT.fd27_1 rfl) rfl ?_
            refine WL.load1 rfl TrydT.ag25 rfl rfl (by exact Blk.segAt (H.l 0 rfl) (Seg.r (Seg.all _) (by with_reducible rfl)) (by (simp [kc_length, kw_length, *]; done))) ?_
            refine WL.call TrydT.fb27 rfl (Put_c (m := (underM (ofM l) k d)) (q := k) (vv := lv) H.yylt (by exact (H.rob 1 rfl : Rob _ (SlE v (underM (ofM l) k d)) _)) (by exact (H.rob 9 rfl : Rob _ (SlB vs lv) _)) hup.kl (fun e he => hone e (underM_mem.1 he).1) (by omega) hk) ?_
            rintro v80 w19 ⟨hO, hR⟩
            replace H := (H.out hO).add hR
            refine WL.as rfl rfl ?_
            refine WL.nil ?_
            refine WE.seq_reg ?_
            refine WL.call TrydT.fb17 rfl (alive09_c  H.yylt (by exact H.rob 11 rfl) ) ?_
            rintro _ w20 ⟨rfl, hO⟩
            replace H := H.out hO
            refine WL.mv rfl rfl ?_
            refine WL.known (t := 82) (c := true) rfl (by rfl) ?_
            refine WL.mv rfl rfl ?_
            refine WL.call TrydT.fb20 rfl (Len_c (T := Tv74) (bits := i) H.yylt (by exact H.rob 1 rfl) ) ?_
            rintro _ w21 ⟨rfl, hO⟩
            replace H := H.out hO
            refine WL.mv rfl rfl ?_
            refine WL.pv (PV.lenS (by exact H.p 0 rfl : SlE v80 (putM (underM (ofM l) k d) ⟨k, vs, lv⟩) _) TrydT.sl22 rfl) rfl ?_
            refine WL.pv (PV.eql rfl rfl rfl) rfl ?_
            refine WL.pv (PV.pick_t rfl rfl rfl) rfl ?_
            refine WL.mv rfl rfl ?_
            refine WL.known (t := 89) (c := true) rfl (by (simp [hTv74, hpp.cnt]; done)) ?_
            refine WL.mv rfl rfl ?_
            refine WL.mv rfl rfl ?_
            refine WL.call TrydT.fb19 rfl (Digest_c (T := Tv74) (bits := i) H.yylt (H.l 1 rfl) (by exact H.robL 1 rfl 5 rfl) (by exact H.robL 1 rfl 1 rfl) (by exact H.robL 1 rfl 11 rfl) (by assumption)) ?_
            rintro _ w22 ⟨mv92, rfl, hO, hB⟩
            replace H := H.called 1 rfl hO hB
            refine WL.mv rfl rfl ?_
            refine WL.mv rfl rfl ?_
            refine WL.mv rfl rfl ?_
            refine WL.call TrydT.fb23 rfl (Root_c (m := (putM (underM (ofM l) k d) ⟨k, vs, lv⟩)) (d := d) (bits := i) H.yylt (by exact (H.rob 0 rfl : Rob _ (SlE v80 (putM (underM (ofM l) k d) ⟨k, vs, lv⟩)) _)) (by exact ((H.rob 4 rfl : Rob _ (Vals (ofM l)) _).and (H.rob 10 rfl : Rob _ (SlB vs lv) _)).imp fun _ h => (h.1.sub fun e he => (underM_mem.1 he).1).put h.2) (by exact H.rob 11 rfl) hpp (by omega) (ShortV.put (fun e he => hsv e (underM_mem.1 he).1) (by show lv.length ≤ _; omega)) hi) ?_
            rintro _ w23 ⟨rfl, hO⟩
            replace H := H.out hO
            refine WL.pv (PV.eqlB rfl TrydT.ar36 TrydT.in5 TrydT.sz5 (by kernel_rfl) rfl rfl (by exact dig_length _ _) (by exact dig_length _ _)) rfl ?_
            refine WL.pv (PV.pick_t rfl rfl rfl) rfl ?_
            refine WL.as rfl rfl ?_
            refine WL.nil ?_
            refine WE.ret ?_
            refine ⟨[_], _, .nil _, ⟨rfl, trivial⟩, ?_⟩
            refine ⟨?_, H.toOut0⟩
            show Value.bool _ = Value.bool true
            simp [hTv74, rootM]

end Go.Sp.Tryd
