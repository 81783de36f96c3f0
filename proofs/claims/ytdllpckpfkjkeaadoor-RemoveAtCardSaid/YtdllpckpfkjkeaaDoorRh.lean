/- Walks of functions, printed by a program of this session (gen.py) from notes on each function. -/
import Derived.Test.YtdllpckpfkjkeaaDoorRg
set_option maxRecDepth 100000
set_option maxHeartbeats 1000000
set_option linter.unusedVariables false
set_option linter.unusedSimpArgs false
namespace Go.Sp.Tryd
open Go.Proofs Go.RowKit Go.Sp

theorem has_lt {m : List En} {k : List UInt8} (hs : Srt m) : hasM m k = decide (((rmM m k).length : Int) < (m.length : Int)) := by
  cases h : hasM m k
  · rw [rmM_not h]; simp
  · have := rmM_has hs h
    symm
    exact decide_eq_true (by omega)

theorem RemoveAtBad_c {X : Nat → Prop} {w : World} {i d0 : Int} {s : Value} {l : List En} {k : List UInt8} (hX : ∀ b, X b → b < w.heap.size) (hf0 : Rob X (SlE s l) w) (hf1 : Rob X (Vals l) w) (hf2 : Rob X (Rounds) w) (hi : ¬ (0 ≤ i ∧ i ≤ 256)) (hkl : KL l) (hlen : l.length ≤ 9223372036854775807) (hvl : ∀ e ∈ l, e.v.length ≤ 9223372036854775807) :
    Ret Tryd.prog 11 [.int .i64 i, s, .agg (kc k ++ [Value.int .i64 d0]).toArray].toArray w fun v w' => v = .bool true ∧ Out Nil w w' := by
  refine Ret.of_body (N := 105) Tryd.func11 rfl rfl (by simp) ?_
  have H := St.begin hX
  replace H := H.add (rob0 hf2)
  replace H := H.add (rob0 hf1)
  replace H := H.add (rob0 hf0)
  refine WE.seq_reg ?_
  refine WL.box (l := kc k ++ [Value.int .i64 d0]) H rfl (by rfl) rfl ?_
  intro b5 w1 H
  refine WL.as rfl rfl ?_
  refine WL.nil ?_
  refine WE.seq_reg ?_
  refine WL.mv rfl rfl ?_
  refine WL.mv rfl rfl ?_
  refine WL.call TrydT.fb15 rfl (Tree_c (i := i) (l := l) H.yylt (by exact H.rob 0 rfl) (by exact H.rob 1 rfl) (by exact H.rob 2 rfl) (by assumption) (by assumption) (by assumption)) ?_
  rintro _ w2 ⟨bv20, sv20, Tv20, mv20, rfl, hTv20, hbv20, hO, hS_, hR⟩
  replace H := ((H.out hO).add hR).add hS_
  have hbf : bv20 = false := by cases hb_ : bv20; rfl; exact absurd (hbv20 hb_).2.1 hi
  subst hbf
  refine WL.mv rfl rfl ?_
  refine WL.pv (PV.extract rfl rfl rfl) rfl ?_
  refine WL.pv (PV.extract rfl rfl rfl) rfl ?_
  refine WL.pv (PV.extract rfl rfl rfl) rfl ?_
  refine WL.as rfl rfl ?_
  refine WL.as rfl rfl ?_
  refine WL.as rfl rfl ?_
  refine WL.nil ?_
  refine WE.seq_reg ?_
  refine WL.mv rfl rfl ?_
  refine WL.call TrydT.fb16 rfl (HashBad_c (i := i) H.yylt  (by assumption)) ?_
  rintro _ w3 ⟨rfl, hO⟩
  replace H := H.out hO
  refine WL.as rfl rfl ?_
  refine WL.nil ?_
  refine WE.seq ?_
  refine WE.seq_reg ?_
  refine WL.mv rfl rfl ?_
  refine WL.pv (PV.not rfl rfl) rfl ?_
  refine WL.mv rfl rfl ?_
  refine WL.known (t := 28) (c := true) rfl rfl ?_
  refine WL.off rfl ?_
  refine WL.off rfl ?_
  refine WL.off rfl ?_
  refine WL.pv (PV.pick_t rfl rfl rfl) rfl ?_
  refine WL.mv rfl rfl ?_
  refine WL.off rfl ?_
  refine WL.off rfl ?_
  refine WL.off rfl ?_
  refine WL.pv (PV.pick_t rfl rfl rfl) rfl ?_
  refine WL.nil ?_
  refine WE.cond_t rfl ?_
  refine WE.seq_reg ?_
  refine WL.call TrydT.fb34 rfl (alive10_c  H.yylt (by exact H.rob 4 rfl) ) ?_
  rintro _ w4 ⟨rfl, hO⟩
  replace H := H.out hO
  refine WL.as rfl rfl ?_
  refine WL.nil ?_
  refine WE.ret ?_
  refine ⟨[_], _, .nil _, ⟨rfl, trivial⟩, ?_⟩
  refine ⟨?_, H.toOut0⟩
  rfl

theorem RemoveAt_c {X : Nat → Prop} {w : World} {i d0 : Int} {s : Value} {l : List En} {k : List UInt8} (hX : ∀ b, X b → b < w.heap.size) (hf0 : Rob X (SlE s l) w) (hf1 : Rob X (Vals l) w) (hf2 : Rob X (Rounds) w) (hi : 0 ≤ i ∧ i ≤ 256) (hkl : KL l) (hlen : l.length ≤ 9223372036854775807) (hvl : ∀ e ∈ l, e.v.length ≤ 9223372036854775807) (hk : k.length = 32) :
    Ret Tryd.prog 11 [.int .i64 i, s, .agg (kc k ++ [Value.int .i64 d0]).toArray].toArray w fun v w' => v = .bool true ∧ Out Nil w w' := by
  refine Ret.of_body (N := 105) Tryd.func11 rfl rfl (by simp) ?_
  have H := St.begin hX
  replace H := H.add (rob0 hf2)
  replace H := H.add (rob0 hf1)
  replace H := H.add (rob0 hf0)
  refine WE.seq_reg ?_
  refine WL.box (l := kc k ++ [Value.int .i64 d0]) H rfl (by rfl) rfl ?_
  intro b5 w1 H
  refine WL.as rfl rfl ?_
  refine WL.nil ?_
  refine WE.seq_reg ?_
  refine WL.mv rfl rfl ?_
  refine WL.mv rfl rfl ?_
  refine WL.call TrydT.fb15 rfl (Tree_c (i := i) (l := l) H.yylt (by exact H.rob 0 rfl) (by exact H.rob 1 rfl) (by exact H.rob 2 rfl) (by assumption) (by assumption) (by assumption)) ?_
  rintro _ w2 ⟨bv20, sv20, Tv20, mv20, rfl, hTv20, hbv20, hO, hS_, hR⟩
  replace H := ((H.out hO).add hR).add hS_
  refine WL.mv rfl rfl ?_
  refine WL.pv (PV.extract rfl rfl rfl) rfl ?_
  refine WL.pv (PV.extract rfl rfl rfl) rfl ?_
  refine WL.pv (PV.extract rfl rfl rfl) rfl ?_
  refine WL.as rfl rfl ?_
  refine WL.as rfl rfl ?_
  refine WL.as rfl rfl ?_
  refine WL.nil ?_
  refine WE.seq_reg ?_
  refine WL.mv rfl rfl ?_
  refine WL.call TrydT.fb16 rfl (Hash_c (i := i) H.yylt  (by assumption)) ?_
  rintro _ w3 ⟨bhv25, bcv25, rfl, hO, hge, hB, hR⟩
  replace H := H.pushR hO (Ent.blk bcv25 127 [.int .i64 0]) hB (fun c hc => by cases hc; exact hge) hR
  refine WL.as rfl rfl ?_
  refine WL.nil ?_
  refine WE.seq ?_
  refine WE.seq_reg ?_
  refine WL.mv rfl rfl ?_
  refine WL.pv (PV.not rfl rfl) rfl ?_
  refine WL.mv rfl rfl ?_
  refine WL.split (t := 28) rfl (fun hg28 => ?_) (fun hg28 => ?_)
  · skip
    refine WL.known (t := 27) (c := true) rfl hg28 ?_
    try simp only [decide_eq_true_eq, decide_eq_false_iff_not, ne_eq, Decidable.not_not, Bool.not_eq_true', Bool.not_eq_false', Bool.and_eq_true, Bool.or_eq_true, Bool.not_not, Bool.and_eq_false_iff, Bool.or_eq_false_iff, Int.not_lt, Int.not_le] at hg28
    refine WL.off rfl ?_
    refine WL.off rfl ?_
    refine WL.off rfl ?_
    refine WL.pv (PV.pick_t rfl rfl rfl) rfl ?_
    refine WL.mv rfl rfl ?_
    refine WL.off rfl ?_
    refine WL.off rfl ?_
    refine WL.off rfl ?_
    refine WL.pv (PV.pick_t rfl rfl rfl) rfl ?_
    refine WL.nil ?_
    refine WE.cond_t rfl ?_
    refine WE.seq_reg ?_
    refine WL.call TrydT.fb34 rfl (alive10_c  H.yylt (by exact H.rob 5 rfl) ) ?_
    rintro _ w4 ⟨rfl, hO⟩
    replace H := H.out hO
    refine WL.as rfl rfl ?_
    refine WL.nil ?_
    refine WE.ret ?_
    refine ⟨[_], _, .nil _, ⟨rfl, trivial⟩, ?_⟩
    refine ⟨?_, H.toOut0⟩
    rfl
  · skip
    refine WL.known (t := 27) (c := false) rfl hg28 ?_
    try simp only [decide_eq_true_eq, decide_eq_false_iff_not, ne_eq, Decidable.not_not, Bool.not_eq_true', Bool.not_eq_false', Bool.and_eq_true, Bool.or_eq_true, Bool.not_not, Bool.and_eq_false_iff, Bool.or_eq_false_iff, Int.not_lt, Int.not_le] at hg28
    obtain ⟨rfl, -, hfew⟩ := hbv20 (by exact hg28)
    have hok := ofM_ok l hkl
    have hpm := ofM_pm l hkl
    have hml : (ofM l).length ≤ 12 := Nat.le_trans hok.2.2.1 hfew.1
    have hvs := ofM_short hkl hfew.2
    have hsv : ShortV (ofM l) := fun e he => Nat.le_trans (hvs e he) (by decide)
    replace H := H.add (by exact (H.rob 4 rfl : Rob _ (Vals l) _).imp fun _ h => h.sub hok.2.2.2)
    have hone : OneS (ofM l) := OneS.of (H.p 0 rfl)
    have hfit : Tv20.er.fit 0 := hTv20 ▸ grow_fit hpm
    refine WL.pv (PV.fieldAddr rfl TrydT.fd68_1 rfl) rfl ?_
    refine WL.load1 rfl TrydT.ag3 rfl rfl (by exact Blk.segAt (H.l 1 rfl) (Seg.r (Seg.all _) (by with_reducible rfl)) (by (simp [kc_length, kw_length, *]; done))) ?_
    refine WL.pv (PV.lss rfl rfl rfl) rfl ?_
    refine WL.pv (PV.pick_f rfl rfl rfl) rfl ?_
    refine WL.mv rfl rfl ?_
    refine WL.split (t := 33) rfl (fun hg33 => ?_) (fun hg33 => ?_)
    · skip
      refine WL.known (t := 32) (c := true) rfl hg33 ?_
      try simp only [decide_eq_true_eq, decide_eq_false_iff_not, ne_eq, Decidable.not_not, Bool.not_eq_true', Bool.not_eq_false', Bool.and_eq_true, Bool.or_eq_true, Bool.not_not, Bool.and_eq_false_iff, Bool.or_eq_false_iff, Int.not_lt, Int.not_le] at hg33
      refine WL.off rfl ?_
      refine WL.off rfl ?_
      refine WL.off rfl ?_
      refine WL.pv (PV.pick_t rfl rfl rfl) rfl ?_
      refine WL.nil ?_
      refine WE.cond_t rfl ?_
      refine WE.seq_reg ?_
      refine WL.call TrydT.fb34 rfl (alive10_c  H.yylt (by exact H.rob 6 rfl) ) ?_
      rintro _ w5 ⟨rfl, hO⟩
      replace H := H.out hO
      refine WL.as rfl rfl ?_
      refine WL.nil ?_
      refine WE.ret ?_
      refine ⟨[_], _, .nil _, ⟨rfl, trivial⟩, ?_⟩
      refine ⟨?_, H.toOut0⟩
      rfl
    · skip
      refine WL.known (t := 32) (c := false) rfl hg33 ?_
      try simp only [decide_eq_true_eq, decide_eq_false_iff_not, ne_eq, Decidable.not_not, Bool.not_eq_true', Bool.not_eq_false', Bool.and_eq_true, Bool.or_eq_true, Bool.not_not, Bool.and_eq_false_iff, Bool.or_eq_false_iff, Int.not_lt, Int.not_le] at hg33
      have hd0 : 0 ≤ d0 := by exact hg33
      refine WL.pv (PV.fieldAddr rfl TrydT.fd68_1 rfl) rfl ?_
      refine WL.load1 rfl TrydT.ag3 rfl rfl (by exact Blk.segAt (H.l 1 rfl) (Seg.r (Seg.all _) (by with_reducible rfl)) (by (simp [kc_length, kw_length, *]; done))) ?_
      refine WL.pv (PV.gtr rfl rfl rfl) rfl ?_
      refine WL.pv (PV.pick_f rfl rfl rfl) rfl ?_
      refine WL.nil ?_
      refine WE.cond rfl (fun hc37 => ?_) (fun hc37 => ?_)
      · skip
        try simp only [decide_eq_true_eq, decide_eq_false_iff_not, ne_eq, Decidable.not_not, Bool.not_eq_true', Bool.not_eq_false', Bool.and_eq_true, Bool.or_eq_true, Bool.not_not, Bool.and_eq_false_iff, Bool.or_eq_false_iff, Int.not_lt, Int.not_le] at hc37
        refine WE.seq_reg ?_
        refine WL.call TrydT.fb34 rfl (alive10_c  H.yylt (by exact H.rob 6 rfl) ) ?_
        rintro _ w6 ⟨rfl, hO⟩
        replace H := H.out hO
        refine WL.as rfl rfl ?_
        refine WL.nil ?_
        refine WE.ret ?_
        refine ⟨[_], _, .nil _, ⟨rfl, trivial⟩, ?_⟩
        refine ⟨?_, H.toOut0⟩
        rfl
      · skip
        try simp only [decide_eq_true_eq, decide_eq_false_iff_not, ne_eq, Decidable.not_not, Bool.not_eq_true', Bool.not_eq_false', Bool.and_eq_true, Bool.or_eq_true, Bool.not_not, Bool.and_eq_false_iff, Bool.or_eq_false_iff, Int.not_lt, Int.not_le] at hc37
        have hd1 : d0 ≤ 256 := by omega
        obtain ⟨d, rfl⟩ : ∃ d : Nat, d0 = (d : Int) := ⟨d0.toNat, by omega⟩
        refine WE.skip ?_
        refine WE.seq_reg ?_
        refine WL.as rfl rfl ?_
        refine WL.nil ?_
        refine WE.seq ?_
        refine WE.seq_reg ?_
        refine WL.mv rfl rfl ?_
        refine WL.pv (PV.lenS (by exact H.p 2 rfl : SlE sv20 (ofM l) _) TrydT.sl22 rfl) rfl ?_
        refine WL.mv rfl rfl ?_
        refine WL.nil ?_
        refine WE.block ?_
        replace H := H.nilOsl 27 33
        refine WE.loop (α := Nat × Value) [11, 13, 41, 42, 43, 44, 45, 46, 47, 48, 49, 50, 51, 52, 53, 54, 55, 56, 57] (fun p => [(41, .int .i64 p.1), (11, p.2)]) (fun p wl => p.1 ≤ (ofM l).length ∧ St X w wl [] [Ent.osl w.heap.size p.2 27 33 ((underM ((ofM l).take p.1) k d)).length (((underM ((ofM l).take p.1) k d)).flatMap enC), Ent.blk bcv25 127 [.int .i64 0], Ent.blk b5 68 (kc k ++ [Value.int .i64 (d : Int)])] [fun x => Vals (ofM l) x, HAt bhv25 bcv25 i, SlE sv20 (ofM l), TrA i Tv20, SlE s l, Vals l, Rounds]) (fun p => (ofM l).length - p.1) (0, .slice none 0 0) ⟨rfl, rfl, trivial⟩ ⟨Nat.zero_le _, H⟩ ?_
        intro ⟨j, v⟩ γ0 w7 hI
        try dsimp only at hI
        obtain ⟨hj, H⟩ := hI
        refine WE.seq_reg ?_
        refine WL.pv (PV.lss rfl rfl rfl) rfl ?_
        refine WL.nil ?_
        refine WE.seq ?_
        refine WE.cond rfl (fun hc42 => ?_) (fun hc42 => ?_)
        · skip
          try simp only [decide_eq_true_eq, decide_eq_false_iff_not, ne_eq, Decidable.not_not, Bool.not_eq_true', Bool.not_eq_false', Bool.and_eq_true, Bool.or_eq_true, Bool.not_not, Bool.and_eq_false_iff, Bool.or_eq_false_iff, Int.not_lt, Int.not_le] at hc42
          have hlt : j < (ofM l).length := by omega
          have hE : (enC (ofM l)[j]).length = 1 * 33 := enC_length (hok.2.1 _ (List.getElem_mem hlt))
          have hE2 : (enC (ofM l)[j]).length = 33 := hE
          have hkk := hok.2.1 _ (List.getElem_mem hlt)
          have hpl : (underM ((ofM l).take j) k d).length ≤ j := Nat.le_trans (underM_le _ _ _) (by simp; omega)
          have hS := underM_snoc (ofM l) k d j hlt
          refine WE.skip ?_
          refine WE.cut (α := Value) [11, 13, 43, 44, 45, 46, 47, 48, 49, 50, 51, 52, 53, 54, 55, 56] (fun g1_ => [(11, g1_)]) (fun g1_ wl => St X w wl [] [Ent.osl w.heap.size g1_ 27 33 ((underM ((ofM l).take (j + 1)) k d)).length (((underM ((ofM l).take (j + 1)) k d)).flatMap enC), Ent.blk bcv25 127 [.int .i64 0], Ent.blk b5 68 (kc k ++ [Value.int .i64 (d : Int)])] [fun x => Vals (ofM l) x, HAt bhv25 bcv25 i, SlE sv20 (ofM l), TrA i Tv20, SlE s l, Vals l, Rounds]) ?_ ?_
          · skip
            refine WE.block ?_
            refine WE.seq_reg ?_
            refine WL.pv (PV.idxS rfl (by exact H.p 2 rfl : SlE sv20 (ofM l) _) TrydT.sl22 TrydT.sz27 rfl rfl (by omega) (by omega)) rfl ?_
            refine WL.loadR rfl TrydT.ag27 rfl rfl (SlE.rd (by exact H.p 2 rfl : SlE sv20 (ofM l) _) hok.2.1 j hlt) (by (rw [TrydT.sz27]; refine congrArg some ?_; (simp [kc_length, kw_length, *]; done))) ?_
            refine WL.alloc H rfl TrydT.ze27 rfl ?_
            intro b13 w8 H
            refine WL.storeL H 0 rfl rfl rfl (new := enC (ofM l)[j]) rfl (by (rw [TrydT.sz27]; refine congrArg some ?_; (simp [kc_length, kw_length, *]; done))) (one_enC (hone _ (List.getElem_mem hlt))) (Laid.at (Laid.all (by (simp only [kc_length, kw_length, List.length_replicate, List.length_append, List.length_cons, List.length_nil, cutI_length, shaOf_length, dig_length, valD_length, rootM_length]; omega))) (by rfl)) rfl ?_
            intro w9 H
            refine WL.nil ?_
            refine WE.seq_draw (.take 0 (.take 1 (.take 2 (.take 3 (.take 5 (.take 6 (.pick1 4 (.take 7 .done)))))))) TrydT.mixed (by kernel_rfl) ?_
            replace H := H.out (Out.drew _)
            refine WP.take_pure rfl rfl (PV.fieldAddr rfl TrydT.fd27_0 rfl) ?_
            refine WP.readA rfl rfl rfl TrydT.ag24 rfl (by exact Blk.segAt (H.l 0 rfl) (Seg.l (Seg.all _)) (by rfl)) (by (rw [TrydT.sz24]; refine congrArg some ?_; (simp only [kc_length, kw_length, List.length_replicate, List.length_append, List.length_cons, List.length_nil, cutI_length, shaOf_length, dig_length, valD_length, rootM_length]; omega))) ?_
            refine WP.take_pure rfl rfl (PV.fieldAddr rfl TrydT.fd68_0 rfl) ?_
            refine WP.readA rfl rfl rfl TrydT.ag24 rfl (by exact Blk.segAt (H.l 3 rfl) (Seg.l (Seg.all _)) (by rfl)) (by (rw [TrydT.sz24]; refine congrArg some ?_; (simp only [kc_length, kw_length, List.length_replicate, List.length_append, List.length_cons, List.length_nil, cutI_length, shaOf_length, dig_length, valD_length, rootM_length]; omega))) ?_
            refine WP.take_pure rfl rfl (PV.fieldAddr rfl TrydT.fd68_1 rfl) ?_
            refine WP.take_read rfl rfl (RV.loadOne rfl TrydT.ag3 rfl) (by exact Blk.segAt (H.l 3 rfl) (Seg.r (Seg.all _) (by with_reducible rfl)) (by (simp [kc_length, kw_length, *]; done))) ?_
            refine WP.pick1 rfl ?_
            refine WL.call TrydT.fb22 rfl (refCommon_c (a := (ofM l)[j].k) (b := k) H.yylt  (by assumption) (by assumption)) ?_
            rintro _ w10 ⟨rfl, hO⟩
            replace H := H.out hO
            refine WL.nil ⟨(List.forall_mem_cons.2 ⟨(fun _ _ => (by exact Blk.segAt (H.l 3 rfl) (Seg.r (Seg.all _) (by with_reducible rfl)) (by (simp [kc_length, kw_length, *]; done)))), (List.forall_mem_cons.2 ⟨(by exact (fun h => absurd (show waits _ 4 3 = false from h) (by decide +kernel))), (List.forall_mem_cons.2 ⟨(by exact (fun h => absurd (show waits _ 4 1 = false from h) (by decide +kernel))), (fun _ h => by cases h)⟩)⟩)⟩), ?_⟩
            refine WP.take_pure rfl rfl (PV.geq rfl rfl rfl) ?_
            refine WP.done ?_
            refine WE.cond rfl (fun hc52 => ?_) (fun hc52 => ?_)
            · skip
              try simp only [decide_eq_true_eq, decide_eq_false_iff_not, ne_eq, Decidable.not_not, Bool.not_eq_true', Bool.not_eq_false', Bool.and_eq_true, Bool.or_eq_true, Bool.not_not, Bool.and_eq_false_iff, Bool.or_eq_false_iff, Int.not_lt, Int.not_le] at hc52
              rw [if_pos (by omega)] at hS
              refine WE.reg ?_
              refine WL.mv rfl rfl ?_
              refine WL.loadR rfl TrydT.ag27 rfl rfl (by exact Blk.segAt (H.l 0 rfl) (Seg.all _) (by rfl)) (by (rw [TrydT.sz27]; refine congrArg some ?_; (simp [kc_length, kw_length, *]; done))) ?_
              refine WL.buildSliceF (l0 := ((kc (List.replicate 32 0) ++ ([.slice none 0 0])))) H rfl TrydT.st22 (by decide) (by rfl) (Fl.cons rfl (by rfl) (by (simp only [kc_length, kw_length, List.length_replicate, List.length_append, List.length_cons, List.length_nil, cutI_length, shaOf_length, dig_length, valD_length, rootM_length]; omega)) (Laid.all (by (simp only [kc_length, kw_length, List.length_replicate, List.length_append, List.length_cons, List.length_nil, cutI_length, shaOf_length, dig_length, valD_length, rootM_length]; omega))) Fl.nil) rfl ?_
              intro b55 w11 H
              refine WL.append (m := 1) H 2 TrydT.st22 (by decide) rfl rfl rfl (SlC.of_blk (n := 1) (H.l 0 rfl) hE) (one_enC (hone _ (List.getElem_mem hlt))) (by omega) (by decide) rfl ?_
              intro v56 w12 H
              have hSl := congrArg List.length hS
              rw [List.length_append, show [(ofM l)[j]].length = 1 from rfl] at hSl
              have hSf := congrArg (List.flatMap enC) hS
              rw [List.flatMap_append, List.flatMap_singleton] at hSf
              replace H := H.forget 0
              replace H := H.conv (L' := [Ent.blk b13 27 (enC (ofM l)[j]), Ent.osl w.heap.size v56 27 33 ((underM ((ofM l).take (j + 1)) k d)).length (((underM ((ofM l).take (j + 1)) k d)).flatMap enC), Ent.blk bcv25 127 [.int .i64 0], Ent.blk b5 68 (kc k ++ [Value.int .i64 (d : Int)])]) (by rw [hSl, hSf]; rfl)
              refine WL.as rfl rfl ?_
              refine WL.nil ?_
              replace H := H.forget 0
              exact ⟨v56, (by repeat (first | with_reducible exact Off.refl _ _ | refine Off.upd rfl ?_)), ⟨rfl, trivial⟩, rfl, H⟩
            · skip
              try simp only [decide_eq_true_eq, decide_eq_false_iff_not, ne_eq, Decidable.not_not, Bool.not_eq_true', Bool.not_eq_false', Bool.and_eq_true, Bool.or_eq_true, Bool.not_not, Bool.and_eq_false_iff, Bool.or_eq_false_iff, Int.not_lt, Int.not_le] at hc52
              rw [if_neg (by omega), List.append_nil] at hS
              refine WE.skip ?_
              replace H := H.forget 0
              exact ⟨v, (by repeat (first | with_reducible exact Off.refl _ _ | refine Off.upd rfl ?_)), ⟨rfl, trivial⟩, rfl, H.conv (by rw [hS]; rfl)⟩
          · skip
            intro g1_ γ w13 hI
            try dsimp only at hI
            replace H := hI
            refine WE.reg ?_
            refine WL.pv (PV.add64 rfl rfl rfl (by omega) (by omega)) rfl ?_
            refine WL.mv rfl rfl ?_
            refine WL.nil ?_
            exact ⟨(j + 1, g1_), (by repeat (first | with_reducible exact Off.refl _ _ | refine Off.upd rfl ?_ | refine Off.setAll rfl ?_ | refine Off.forget' rfl ?_)), ⟨rfl, rfl, trivial⟩, rfl, ⟨by dsimp only; omega, H⟩, (by dsimp only; omega)⟩
        · skip
          try simp only [decide_eq_true_eq, decide_eq_false_iff_not, ne_eq, Decidable.not_not, Bool.not_eq_true', Bool.not_eq_false', Bool.and_eq_true, Bool.or_eq_true, Bool.not_not, Bool.and_eq_false_iff, Bool.or_eq_false_iff, Int.not_lt, Int.not_le] at hc42
          have hke : (ofM l).take j = ofM l := List.take_of_length_le (by omega)
          refine WE.exit ?_
          rw [hke] at H
          replace H := H.freeze (i := 0) rfl
          replace H := H.add ((H.rob 0 rfl).imp fun _ h => (SlC.of_own h : SlE v (underM (ofM l) k d) _))
          have hue := und_er (k := k) (c := d) hTv20 hpm (by omega)
          have hup := under_pm (c := d) hpm hk (by omega)
          have hul := underM_le (ofM l) k d
          have hpr := rm_pm (k := k) hup
          have hpl : (rmM (underM (ofM l) k d) k).length ≤ (underM (ofM l) k d).length := List.length_filter_le _ _
          refine WE.seq_draw (.take 0 (.take 1 (.take 2 (.take 3 (.take 4 (.take 5 (.take 7 (.take 8 (.take 9 (.take 10 (.pick1 6 (.pick1 11 (.take 12 (.take 13 (.take 14 (.take 15 (.take 16 .done))))))))))))))))) TrydT.mixed (by kernel_rfl) ?_
          replace H := H.out (Out.drew _)
          refine WP.mv rfl rfl rfl ?_
          refine WP.mv rfl rfl rfl ?_
          refine WP.take_pure rfl rfl (PV.fieldAddr rfl TrydT.fd68_0 rfl) ?_
          refine WP.readA rfl rfl rfl TrydT.ag24 rfl (by exact Blk.segAt (H.l 1 rfl) (Seg.l (Seg.all _)) (by rfl)) (by (rw [TrydT.sz24]; refine congrArg some ?_; (simp only [kc_length, kw_length, List.length_replicate, List.length_append, List.length_cons, List.length_nil, cutI_length, shaOf_length, dig_length, valD_length, rootM_length]; omega))) ?_
          refine WP.take_pure rfl rfl (PV.fieldAddr rfl TrydT.fd68_1 rfl) ?_
          refine WP.take_read rfl rfl (RV.loadOne rfl TrydT.ag3 rfl) (by exact Blk.segAt (H.l 1 rfl) (Seg.r (Seg.all _) (by with_reducible rfl)) (by (simp [kc_length, kw_length, *]; done))) ?_
          refine WP.take_pure rfl rfl (PV.fieldAddr rfl TrydT.fd68_0 rfl) ?_
          refine WP.readA rfl rfl rfl TrydT.ag24 rfl (by exact Blk.segAt (H.l 1 rfl) (Seg.l (Seg.all _)) (by rfl)) (by (rw [TrydT.sz24]; refine congrArg some ?_; (simp only [kc_length, kw_length, List.length_replicate, List.length_append, List.length_cons, List.length_nil, cutI_length, shaOf_length, dig_length, valD_length, rootM_length]; omega))) ?_
          refine WP.take_pure rfl rfl (PV.fieldAddr rfl TrydT.fd68_1 rfl) ?_
          refine WP.take_read rfl rfl (RV.loadOne rfl TrydT.ag3 rfl) (by exact Blk.segAt (H.l 1 rfl) (Seg.r (Seg.all _) (by with_reducible rfl)) (by (simp [kc_length, kw_length, *]; done))) ?_
          refine WP.pick1 rfl ?_
          refine WL.call TrydT.fb33 rfl (Under_c (T := Tv20) (k := k) (bits := i) (c := d) H.yylt (by exact H.rob 5 rfl) hk hfit (by omega)) ?_
          rintro _ w14 ⟨rfl, hO⟩
          replace H := H.out hO
          refine WL.nil ⟨(List.forall_mem_cons.2 ⟨(fun _ _ => (by exact Blk.segAt (H.l 1 rfl) (Seg.r (Seg.all _) (by with_reducible rfl)) (by (simp [kc_length, kw_length, *]; done)))), (List.forall_mem_cons.2 ⟨(fun _ _ => (by exact Blk.segAt (H.l 1 rfl) (Seg.l (Seg.all _)) (by rfl))), (List.forall_mem_cons.2 ⟨(by exact (fun h => absurd (show waits _ 6 5 = false from h) (by decide +kernel))), (List.forall_mem_cons.2 ⟨(by exact (fun h => absurd (show waits _ 6 3 = false from h) (by decide +kernel))), (fun _ h => by cases h)⟩)⟩)⟩)⟩), ?_⟩
          refine WP.pick1 rfl ?_
          refine WL.call TrydT.fb39 rfl (rmAt_c (T := (Tv20.und k d)) (M := (underM (ofM l) k d)) (k := k) (d := d) (bits := i) H.yylt (H.l 0 rfl) (by exact H.robL 0 rfl 3 rfl) (by exact (H.robL 0 rfl 5 rfl : Rob _ (TrA i Tv20) _).imp fun _ h => und_A h) (by exact H.robL 0 rfl 8 rfl) hi hk hue hup (by omega)) ?_
          rintro _ w15 ⟨Tv70, cv70, fv70, rfl, hTv70, hfv70, hnv70, hO, hB, hR⟩
          replace H := H.calledR 0 rfl hO hB hR
          have hfd : fv70 = decide (((rmM (underM (ofM l) k d) k).length : Int) < ((underM (ofM l) k d).length : Int)) := by rw [hfv70]; exact has_lt (hok.1.filter _)
          refine WL.nil ⟨(List.forall_mem_cons.2 ⟨(by exact (fun h => absurd (show waits _ 11 10 = false from h) (by decide +kernel))), (List.forall_mem_cons.2 ⟨(by exact (fun h => absurd (show waits _ 11 8 = false from h) (by decide +kernel))), (List.forall_mem_cons.2 ⟨(by exact (fun h => absurd (show waits _ 11 5 = false from h) (by decide +kernel))), (List.forall_mem_cons.2 ⟨(by exact (fun h => absurd (show waits _ 11 3 = false from h) (by decide +kernel))), (fun _ h => by cases h)⟩)⟩)⟩)⟩), ?_⟩
          refine WP.mv rfl rfl rfl ?_
          refine WP.take_pure rfl rfl (PV.extract rfl rfl rfl) ?_
          refine WP.take_pure rfl rfl (PV.extract rfl rfl rfl) ?_
          refine WP.as rfl rfl rfl ?_
          refine WP.as rfl rfl rfl ?_
          refine WP.done ?_
          refine WE.seq_reg ?_
          refine WL.mv rfl rfl ?_
          refine WL.pv (PV.fieldAddr rfl TrydT.fd68_0 rfl) rfl ?_
          refine WL.loadR rfl TrydT.ag24 rfl rfl (by exact Blk.segAt (H.l 1 rfl) (Seg.l (Seg.all _)) (by rfl)) (by (rw [TrydT.sz24]; refine congrArg some ?_; (simp only [kc_length, kw_length, List.length_replicate, List.length_append, List.length_cons, List.length_nil, cutI_length, shaOf_length, dig_length, valD_length, rootM_length]; omega))) ?_
          refine WL.call TrydT.fb40 rfl (Remove_c (m := (underM (ofM l) k d)) (q := k) H.yylt (by exact (H.rob 1 rfl : Rob _ (SlE v (underM (ofM l) k d)) _)) hup.kl (fun e he => hone e (underM_mem.1 he).1) (by omega) hk) ?_
          rintro v76 w16 ⟨hO, hR⟩
          replace H := (H.out hO).add hR
          refine WL.as rfl rfl ?_
          refine WL.nil ?_
          refine WE.seq_draw (.pick1 0 (.take 1 (.take 2 (.take 3 (.take 4 (.take 5 (.take 6 (.take 7 (.take 8 (.take 9 (.take 10 (.take 11 (.take 13 (.take 14 (.pick1 12 (.take 15 (.take 16 (.take 17 (.take 18 (.take 19 (.take 21 (.take 22 (.take 23 (.take 24 (.pick1 20 (.pick1 25 (.take 26 (.take 27 (.take 28 .done))))))))))))))))))))))))))))) TrydT.mixed (by kernel_rfl) ?_
          replace H := H.out (Out.drew _)
          refine WP.pick1 rfl ?_
          refine WL.call TrydT.fb34 rfl (alive10_c  H.yylt (by exact H.rob 10 rfl) ) ?_
          rintro _ w17 ⟨rfl, hO⟩
          replace H := H.out hO
          refine WL.nil ⟨(fun _ h => by cases h), ?_⟩
          refine WP.mv rfl rfl rfl ?_
          refine WP.known (t := 78) (c := true) rfl (by rfl) ?_
          refine WP.mv rfl rfl rfl ?_
          refine WP.mv rfl rfl rfl ?_
          refine WP.take_pure rfl rfl (PV.lenS (by exact (H.p 0 rfl : SlE v76 (rmM (underM (ofM l) k d) k) _)) TrydT.sl22 rfl) ?_
          refine WP.mv rfl rfl rfl ?_
          refine WP.take_pure rfl rfl (PV.lenS (by exact (H.p 2 rfl : SlE v (underM (ofM l) k d) _)) TrydT.sl22 rfl) ?_
          refine WP.take_pure rfl rfl (PV.lss rfl rfl rfl) ?_
          refine WP.take_pure rfl rfl (PV.eqlb rfl TrydT.bo4 rfl rfl) ?_
          refine WP.take_pure rfl rfl (PV.pick_t rfl rfl rfl) ?_
          refine WP.mv rfl rfl rfl ?_
          refine WP.known (t := 87) (c := true) rfl (by (simp [hfd]; done)) ?_
          refine WP.mv rfl rfl rfl ?_
          refine WP.mv rfl rfl rfl ?_
          refine WP.take_pure rfl rfl (PV.lenS (by exact (H.p 0 rfl : SlE v76 (rmM (underM (ofM l) k d) k) _)) TrydT.sl22 rfl) ?_
          refine WP.pick1 rfl ?_
          refine WL.call TrydT.fb20 rfl (Len_c (T := Tv70) (bits := i) H.yylt (by exact H.rob 1 rfl) ) ?_
          rintro _ w18 ⟨rfl, hO⟩
          replace H := H.out hO
          refine WL.nil ⟨(fun _ h => by cases h), ?_⟩
          refine WP.take_pure rfl rfl (PV.eql rfl rfl rfl) ?_
          refine WP.take_pure rfl rfl (PV.pick_t rfl rfl rfl) ?_
          refine WP.mv rfl rfl rfl ?_
          refine WP.known (t := 94) (c := true) rfl (by (simp [hTv70, hpr.cnt]; done)) ?_
          refine WP.mv rfl rfl rfl ?_
          refine WP.mv rfl rfl rfl ?_
          refine WP.mv rfl rfl rfl ?_
          refine WP.mv rfl rfl rfl ?_
          refine WP.take_pure rfl rfl (PV.fieldAddr rfl TrydT.fd68_1 rfl) ?_
          refine WP.take_read rfl rfl (RV.loadOne rfl TrydT.ag3 rfl) (by exact Blk.segAt (H.l 1 rfl) (Seg.r (Seg.all _) (by with_reducible rfl)) (by (simp [kc_length, kw_length, *]; done))) ?_
          refine WP.pick1 rfl ?_
          refine WL.call TrydT.fb19 rfl (Digest_c (T := Tv70) (bits := i) H.yylt (H.l 0 rfl) (by exact H.robL 0 rfl 5 rfl) (by exact H.robL 0 rfl 1 rfl) (by exact H.robL 0 rfl 10 rfl) (by assumption)) ?_
          rintro _ w19 ⟨mv97, rfl, hO, hB⟩
          replace H := H.called 0 rfl hO hB
          refine WL.nil ⟨(List.forall_mem_cons.2 ⟨(fun _ _ => (by exact Blk.segAt (H.l 1 rfl) (Seg.r (Seg.all _) (by with_reducible rfl)) (by (simp [kc_length, kw_length, *]; done)))), (fun _ h => by cases h)⟩), ?_⟩
          refine WP.pick1 rfl ?_
          refine WL.call TrydT.fb23 rfl (Root_c (m := (rmM (underM (ofM l) k d) k)) (d := d) (bits := i) H.yylt (by exact (H.rob 0 rfl : Rob _ (SlE v76 (rmM (underM (ofM l) k d) k)) _)) (by exact (H.rob 4 rfl : Rob _ (Vals (ofM l)) _).imp fun _ h => h.sub fun e he => (underM_mem.1 (List.mem_filter.1 he).1).1) (by exact H.rob 10 rfl) hpr (by omega) (fun e he => hsv e (underM_mem.1 (List.mem_filter.1 he).1).1) hi) ?_
          rintro _ w20 ⟨rfl, hO⟩
          replace H := H.out hO
          refine WL.nil ⟨(List.forall_mem_cons.2 ⟨(by exact (fun h => absurd (show waits _ 25 24 = false from h) (by decide +kernel))), (fun _ h => by cases h)⟩), ?_⟩
          refine WP.take_pure rfl rfl (PV.eqlB rfl TrydT.ar36 TrydT.in5 TrydT.sz5 (by kernel_rfl) rfl rfl (by exact dig_length _ _) (by exact dig_length _ _)) ?_
          refine WP.take_pure rfl rfl (PV.pick_t rfl rfl rfl) ?_
          refine WP.as rfl rfl rfl ?_
          refine WP.done ?_
          refine WE.ret ?_
          refine ⟨[_], _, .nil _, ⟨rfl, trivial⟩, ?_⟩
          refine ⟨?_, H.toOut0⟩
          show Value.bool _ = Value.bool true
          simp [hTv70, rootM]

end Go.Sp.Tryd
