/- Walks of functions, printed by a program of this session (gen.py) from notes on each function. -/
import Derived.Test.YtdllpckpfkjkeaaDoorQe
set_option maxRecDepth 100000
set_option maxHeartbeats 1000000
set_option linter.unusedVariables false
set_option linter.unusedSimpArgs false
namespace Go.Sp.Tryd
open Go.Proofs Go.RowKit Go.Sp
theorem PutPutsBad_c {X : Nat → Prop} {w : World} {i : Int} {s vs : Value} {l : List En} {k lv : List UInt8} (hX : ∀ b, X b → b < w.heap.size) (hf0 : Rob X (SlE s l) w) (hf1 : Rob X (Vals l) w) (hf2 : Rob X (SlB vs lv) w) (hf3 : Rob X (Rounds) w) (hi : ¬ (0 ≤ i ∧ i ≤ 256)) (hkl : KL l) (hlen : l.length ≤ 9223372036854775807) (hvl : ∀ e ∈ l, e.v.length ≤ 9223372036854775807) (hk : k.length = 32) (hlv : lv.length ≤ 9223372036854775807) :
    Ret Tryd.prog 5 [.int .i64 i, s, .agg (kc k ++ [vs]).toArray].toArray w fun v w' => v = .bool true ∧ Out Nil w w' := by
  refine Ret.of_body (N := 74) Tryd.func5 rfl rfl (by simp) ?_
  have H := St.begin hX
  replace H := H.add (rob0 hf3)
  replace H := H.add (rob0 hf2)
  replace H := H.add (rob0 hf1)
  replace H := H.add (rob0 hf0)
  have hvs1 : vs.oneCell' = true := SlC.one1 (hf2.here)
  refine WE.seq_reg ?_
  refine WL.box (l := kc k ++ [vs]) H rfl (by first | rfl | exact SlC.cells (H.p 0 rfl) | exact SlC.cells (H.p 1 rfl) | exact SlC.cells (H.p 2 rfl) | exact SlC.cells (H.p 3 rfl) | exact SlC.cells (H.p 4 rfl) | exact SlC.cells (H.p 5 rfl) | exact SlC.cells (H.p 6 rfl) | exact SlC.cells (H.p 7 rfl) | exact SlC.cells (H.p 8 rfl) | exact SlC.cells (H.p 9 rfl) | exact SlC.cells (H.p 10 rfl) | exact SlC.cells (H.p 11 rfl) | exact SlC.cells (H.p 12 rfl) | exact SlC.cells (H.p 13 rfl) | exact SlC.cells (H.p 14 rfl) | exact SlC.cells (H.p 15 rfl)) rfl ?_
  intro b5 w1 H
  refine WL.as rfl rfl ?_
  refine WL.nil ?_
  refine WE.seq_reg ?_
  refine WL.mv rfl rfl ?_
  refine WL.mv rfl rfl ?_
  refine WL.call TrydT.fb15 rfl (Tree_c (i := i) (l := l) H.yylt (by first | exact H.rob 0 rfl | exact H.rob 1 rfl | exact H.rob 2 rfl | exact H.rob 3 rfl | exact H.rob 4 rfl | exact H.rob 5 rfl | exact H.rob 6 rfl | exact H.rob 7 rfl | exact H.rob 8 rfl | exact H.rob 9 rfl | exact H.rob 10 rfl | exact H.rob 11 rfl | exact H.rob 12 rfl | exact H.rob 13 rfl | exact H.rob 14 rfl | exact H.rob 15 rfl) (by first | exact H.rob 0 rfl | exact H.rob 1 rfl | exact H.rob 2 rfl | exact H.rob 3 rfl | exact H.rob 4 rfl | exact H.rob 5 rfl | exact H.rob 6 rfl | exact H.rob 7 rfl | exact H.rob 8 rfl | exact H.rob 9 rfl | exact H.rob 10 rfl | exact H.rob 11 rfl | exact H.rob 12 rfl | exact H.rob 13 rfl | exact H.rob 14 rfl | exact H.rob 15 rfl) (by first | exact H.rob 0 rfl | exact H.rob 1 rfl | exact H.rob 2 rfl | exact H.rob 3 rfl | exact H.rob 4 rfl | exact H.rob 5 rfl | exact H.rob 6 rfl | exact H.rob 7 rfl | exact H.rob 8 rfl | exact H.rob 9 rfl | exact H.rob 10 rfl | exact H.rob 11 rfl | exact H.rob 12 rfl | exact H.rob 13 rfl | exact H.rob 14 rfl | exact H.rob 15 rfl) (by first | assumption | omega | (simp; omega) | simp_all) (by first | assumption | omega | (simp; omega) | simp_all) (by first | assumption | omega | (simp; omega) | simp_all)) ?_
  rintro _ w2 ⟨bv17, sv17, Tv17, mv17, rfl, hTv17, hbv17, hO, hS_, hR⟩
  replace H := ((H.out hO).add hR).add hS_
  have hbf : bv17 = false := by cases hb_ : bv17; rfl; exact absurd (hbv17 hb_).2.1 hi
  subst hbf
  refine WL.mv rfl rfl ?_
  refine WL.pv (PV.extract rfl rfl rfl) rfl ?_
  refine WL.pv (PV.extract rfl rfl rfl) rfl ?_
  refine WL.pv (PV.extract rfl rfl rfl) rfl ?_
  refine WL.as rfl rfl ?_
  refine WL.as rfl rfl ?_
  refine WL.as rfl rfl ?_
  refine WL.nil ?_
  refine WE.seq_reg ?_
  refine WL.mv rfl rfl ?_
  refine WL.call TrydT.fb16 rfl (HashBad_c (i := i) H.yylt  (by first | assumption | omega | (simp; omega) | simp_all)) ?_
  rintro _ w3 ⟨rfl, hO⟩
  replace H := H.out hO
  refine WL.as rfl rfl ?_
  refine WL.nil ?_
  refine WE.seq ?_
  refine WE.seq_reg ?_
  refine WL.mv rfl rfl ?_
  refine WL.pv (PV.not rfl rfl) rfl ?_
  refine WL.mv rfl rfl ?_
  refine WL.known (t := 25) (c := true) rfl rfl ?_
  refine WL.off rfl ?_
  refine WL.off rfl ?_
  refine WL.off rfl ?_
  refine WL.off rfl ?_
  first | refine WL.pv (PV.pick_t rfl rfl rfl) rfl ?_ | refine WL.pv (PV.pick_f rfl rfl rfl) rfl ?_ | refine WL.pv (PV.pick rfl rfl) rfl ?_
  refine WL.nil ?_
  refine WE.cond_t rfl ?_
  refine WE.seq_reg ?_
  refine WL.call TrydT.fb17 rfl (alive09_c  H.yylt (by first | exact H.rob 0 rfl | exact H.rob 1 rfl | exact H.rob 2 rfl | exact H.rob 3 rfl | exact H.rob 4 rfl | exact H.rob 5 rfl | exact H.rob 6 rfl | exact H.rob 7 rfl | exact H.rob 8 rfl | exact H.rob 9 rfl | exact H.rob 10 rfl | exact H.rob 11 rfl | exact H.rob 12 rfl | exact H.rob 13 rfl | exact H.rob 14 rfl | exact H.rob 15 rfl) ) ?_
  rintro _ w4 ⟨rfl, hO⟩
  replace H := H.out hO
  refine WL.as rfl rfl ?_
  refine WL.nil ?_
  refine WE.ret ?_
  refine ⟨[_], _, .nil _, ⟨rfl, trivial⟩, ?_⟩
  refine ⟨?_, H.toOut0⟩
  first | rfl | (show Value.bool _ = Value.bool true; first | rfl | (simp; done) | (congr 1; first | exact decide_eq_true (by omega) | (simp; omega)) | simp_all)

theorem PutPuts_c {X : Nat → Prop} {w : World} {i : Int} {s vs : Value} {l : List En} {k lv : List UInt8} (hX : ∀ b, X b → b < w.heap.size) (hf0 : Rob X (SlE s l) w) (hf1 : Rob X (Vals l) w) (hf2 : Rob X (SlB vs lv) w) (hf3 : Rob X (Rounds) w) (hi : 0 ≤ i ∧ i ≤ 256) (hkl : KL l) (hlen : l.length ≤ 9223372036854775807) (hvl : ∀ e ∈ l, e.v.length ≤ 9223372036854775807) (hk : k.length = 32) (hlv : lv.length ≤ 9223372036854775807) :
    Ret Tryd.prog 5 [.int .i64 i, s, .agg (kc k ++ [vs]).toArray].toArray w fun v w' => v = .bool true ∧ Out Nil w w' := by
  refine Ret.of_body (N := 74) Tryd.func5 rfl rfl (by simp) ?_
  have H := St.begin hX
  replace H := H.add (rob0 hf3)
  replace H := H.add (rob0 hf2)
  replace H := H.add (rob0 hf1)
  replace H := H.add (rob0 hf0)
  have hvs1 : vs.oneCell' = true := SlC.one1 (hf2.here)
  refine WE.seq_reg ?_
  refine WL.box (l := kc k ++ [vs]) H rfl (by first | rfl | exact SlC.cells (H.p 0 rfl) | exact SlC.cells (H.p 1 rfl) | exact SlC.cells (H.p 2 rfl) | exact SlC.cells (H.p 3 rfl) | exact SlC.cells (H.p 4 rfl) | exact SlC.cells (H.p 5 rfl) | exact SlC.cells (H.p 6 rfl) | exact SlC.cells (H.p 7 rfl) | exact SlC.cells (H.p 8 rfl) | exact SlC.cells (H.p 9 rfl) | exact SlC.cells (H.p 10 rfl) | exact SlC.cells (H.p 11 rfl) | exact SlC.cells (H.p 12 rfl) | exact SlC.cells (H.p 13 rfl) | exact SlC.cells (H.p 14 rfl) | exact SlC.cells (H.p 15 rfl)) rfl ?_
  intro b5 w1 H
  refine WL.as rfl rfl ?_
  refine WL.nil ?_
  refine WE.seq_reg ?_
  refine WL.mv rfl rfl ?_
  refine WL.mv rfl rfl ?_
  refine WL.call TrydT.fb15 rfl (Tree_c (i := i) (l := l) H.yylt (by first | exact H.rob 0 rfl | exact H.rob 1 rfl | exact H.rob 2 rfl | exact H.rob 3 rfl | exact H.rob 4 rfl | exact H.rob 5 rfl | exact H.rob 6 rfl | exact H.rob 7 rfl | exact H.rob 8 rfl | exact H.rob 9 rfl | exact H.rob 10 rfl | exact H.rob 11 rfl | exact H.rob 12 rfl | exact H.rob 13 rfl | exact H.rob 14 rfl | exact H.rob 15 rfl) (by first | exact H.rob 0 rfl | exact H.rob 1 rfl | exact H.rob 2 rfl | exact H.rob 3 rfl | exact H.rob 4 rfl | exact H.rob 5 rfl | exact H.rob 6 rfl | exact H.rob 7 rfl | exact H.rob 8 rfl | exact H.rob 9 rfl | exact H.rob 10 rfl | exact H.rob 11 rfl | exact H.rob 12 rfl | exact H.rob 13 rfl | exact H.rob 14 rfl | exact H.rob 15 rfl) (by first | exact H.rob 0 rfl | exact H.rob 1 rfl | exact H.rob 2 rfl | exact H.rob 3 rfl | exact H.rob 4 rfl | exact H.rob 5 rfl | exact H.rob 6 rfl | exact H.rob 7 rfl | exact H.rob 8 rfl | exact H.rob 9 rfl | exact H.rob 10 rfl | exact H.rob 11 rfl | exact H.rob 12 rfl | exact H.rob 13 rfl | exact H.rob 14 rfl | exact H.rob 15 rfl) (by first | assumption | omega | (simp; omega) | simp_all) (by first | assumption | omega | (simp; omega) | simp_all) (by first | assumption | omega | (simp; omega) | simp_all)) ?_
  rintro _ w2 ⟨bv17, sv17, Tv17, mv17, rfl, hTv17, hbv17, hO, hS_, hR⟩
  replace H := ((H.out hO).add hR).add hS_
  refine WL.mv rfl rfl ?_
  refine WL.pv (PV.extract rfl rfl rfl) rfl ?_
  refine WL.pv (PV.extract rfl rfl rfl) rfl ?_
  refine WL.pv (PV.extract rfl rfl rfl) rfl ?_
  refine WL.as rfl rfl ?_
  refine WL.as rfl rfl ?_
  refine WL.as rfl rfl ?_
  refine WL.nil ?_
  refine WE.seq_reg ?_
  refine WL.mv rfl rfl ?_
  refine WL.call TrydT.fb16 rfl (Hash_c (i := i) H.yylt  (by first | assumption | omega | (simp; omega) | simp_all)) ?_
  rintro _ w3 ⟨bhv22, bcv22, rfl, hO, hge, hB, hR⟩
  replace H := H.pushR hO (Ent.blk bcv22 127 [.int .i64 0]) hB (fun c hc => by cases hc; exact hge) hR
  refine WL.as rfl rfl ?_
  refine WL.nil ?_
  refine WE.seq ?_
  refine WE.seq_reg ?_
  refine WL.mv rfl rfl ?_
  refine WL.pv (PV.not rfl rfl) rfl ?_
  refine WL.mv rfl rfl ?_
  refine WL.split (t := 25) rfl (fun hg25 => ?_) (fun hg25 => ?_)
  · skip
    refine WL.known (t := 24) (c := true) rfl hg25 ?_
    try simp only [decide_eq_true_eq, decide_eq_false_iff_not, ne_eq, Decidable.not_not, Bool.not_eq_true', Bool.not_eq_false', Bool.and_eq_true, Bool.or_eq_true, Bool.not_not, Bool.and_eq_false_iff, Bool.or_eq_false_iff, Int.not_lt, Int.not_le] at hg25
    refine WL.off rfl ?_
    refine WL.off rfl ?_
    refine WL.off rfl ?_
    refine WL.off rfl ?_
    first | refine WL.pv (PV.pick_t rfl rfl rfl) rfl ?_ | refine WL.pv (PV.pick_f rfl rfl rfl) rfl ?_ | refine WL.pv (PV.pick rfl rfl) rfl ?_
    refine WL.nil ?_
    refine WE.cond_t rfl ?_
    refine WE.seq_reg ?_
    refine WL.call TrydT.fb17 rfl (alive09_c  H.yylt (by first | exact H.rob 0 rfl | exact H.rob 1 rfl | exact H.rob 2 rfl | exact H.rob 3 rfl | exact H.rob 4 rfl | exact H.rob 5 rfl | exact H.rob 6 rfl | exact H.rob 7 rfl | exact H.rob 8 rfl | exact H.rob 9 rfl | exact H.rob 10 rfl | exact H.rob 11 rfl | exact H.rob 12 rfl | exact H.rob 13 rfl | exact H.rob 14 rfl | exact H.rob 15 rfl) ) ?_
    rintro _ w4 ⟨rfl, hO⟩
    replace H := H.out hO
    refine WL.as rfl rfl ?_
    refine WL.nil ?_
    refine WE.ret ?_
    refine ⟨[_], _, .nil _, ⟨rfl, trivial⟩, ?_⟩
    refine ⟨?_, H.toOut0⟩
    first | rfl | (show Value.bool _ = Value.bool true; first | rfl | (simp; done) | (congr 1; first | exact decide_eq_true (by omega) | (simp; omega)) | simp_all)
  · skip
    refine WL.known (t := 24) (c := false) rfl hg25 ?_
    try simp only [decide_eq_true_eq, decide_eq_false_iff_not, ne_eq, Decidable.not_not, Bool.not_eq_true', Bool.not_eq_false', Bool.and_eq_true, Bool.or_eq_true, Bool.not_not, Bool.and_eq_false_iff, Bool.or_eq_false_iff, Int.not_lt, Int.not_le] at hg25
    obtain ⟨rfl, -, hfew⟩ := hbv17 (by first | exact hg25 | simpa using hg25)
    have hok := ofM_ok l hkl
    have hpm := ofM_pm l hkl
    have hml : (ofM l).length ≤ 12 := Nat.le_trans hok.2.2.1 hfew.1
    have hvs := ofM_short hkl hfew.2
    have hsv : ShortV (ofM l) := fun e he => Nat.le_trans (hvs e he) (by decide)
    replace H := H.add (by first | exact (H.rob 0 rfl : Rob _ (Vals l) _).imp fun _ h => h.sub hok.2.2.2 | exact (H.rob 1 rfl : Rob _ (Vals l) _).imp fun _ h => h.sub hok.2.2.2 | exact (H.rob 2 rfl : Rob _ (Vals l) _).imp fun _ h => h.sub hok.2.2.2 | exact (H.rob 3 rfl : Rob _ (Vals l) _).imp fun _ h => h.sub hok.2.2.2 | exact (H.rob 4 rfl : Rob _ (Vals l) _).imp fun _ h => h.sub hok.2.2.2 | exact (H.rob 5 rfl : Rob _ (Vals l) _).imp fun _ h => h.sub hok.2.2.2 | exact (H.rob 6 rfl : Rob _ (Vals l) _).imp fun _ h => h.sub hok.2.2.2 | exact (H.rob 7 rfl : Rob _ (Vals l) _).imp fun _ h => h.sub hok.2.2.2 | exact (H.rob 8 rfl : Rob _ (Vals l) _).imp fun _ h => h.sub hok.2.2.2 | exact (H.rob 9 rfl : Rob _ (Vals l) _).imp fun _ h => h.sub hok.2.2.2)
    have hone : OneS (ofM l) := OneS.of (H.p 0 rfl)
    have hfit : Tv17.er.fit 0 := hTv17 ▸ grow_fit hpm
    refine WL.pv (PV.fieldAddr rfl TrydT.fd27_1 rfl) rfl ?_
    refine WL.load1 rfl TrydT.ag25 rfl rfl (by first | exact Blk.segAt (H.l 0 rfl) (Seg.r (Seg.all _) (by first | with_reducible rfl | (simp only [kc_length, kw_length, List.length_replicate, List.length_append, List.length_cons, List.length_nil, cutI_length, shaOf_length, dig_length, valD_length, rootM_length]; first | done | omega) | (simp [kc_length, kw_length]; omega) | (simp [kc_length, kw_length, *]; done) | rfl)) (by first | rfl | (simp; done) | (simp [kc_length, kw_length, *]; done) | omega) | exact Blk.segAt (H.l 1 rfl) (Seg.r (Seg.all _) (by first | with_reducible rfl | (simp only [kc_length, kw_length, List.length_replicate, List.length_append, List.length_cons, List.length_nil, cutI_length, shaOf_length, dig_length, valD_length, rootM_length]; first | done | omega) | (simp [kc_length, kw_length]; omega) | (simp [kc_length, kw_length, *]; done) | rfl)) (by first | rfl | (simp; done) | (simp [kc_length, kw_length, *]; done) | omega) | exact Blk.segAt (H.l 2 rfl) (Seg.r (Seg.all _) (by first | with_reducible rfl | (simp only [kc_length, kw_length, List.length_replicate, List.length_append, List.length_cons, List.length_nil, cutI_length, shaOf_length, dig_length, valD_length, rootM_length]; first | done | omega) | (simp [kc_length, kw_length]; omega) | (simp [kc_length, kw_length, *]; done) | rfl)) (by first | rfl | (simp; done) | (simp [kc_length, kw_length, *]; done) | omega) | exact Blk.segAt (H.l 3 rfl) (Seg.r (Seg.all _) (by first | with_reducible rfl | (simp only [kc_length, kw_length, List.length_replicate, List.length_append, List.length_cons, List.length_nil, cutI_length, shaOf_length, dig_length, valD_length, rootM_length]; first | done | omega) | (simp [kc_length, kw_length]; omega) | (simp [kc_length, kw_length, *]; done) | rfl)) (by first | rfl | (simp; done) | (simp [kc_length, kw_length, *]; done) | omega) | exact Blk.segAt (H.l 4 rfl) (Seg.r (Seg.all _) (by first | with_reducible rfl | (simp only [kc_length, kw_length, List.length_replicate, List.length_append, List.length_cons, List.length_nil, cutI_length, shaOf_length, dig_length, valD_length, rootM_length]; first | done | omega) | (simp [kc_length, kw_length]; omega) | (simp [kc_length, kw_length, *]; done) | rfl)) (by first | rfl | (simp; done) | (simp [kc_length, kw_length, *]; done) | omega) | exact Blk.segAt (H.l 5 rfl) (Seg.r (Seg.all _) (by first | with_reducible rfl | (simp only [kc_length, kw_length, List.length_replicate, List.length_append, List.length_cons, List.length_nil, cutI_length, shaOf_length, dig_length, valD_length, rootM_length]; first | done | omega) | (simp [kc_length, kw_length]; omega) | (simp [kc_length, kw_length, *]; done) | rfl)) (by first | rfl | (simp; done) | (simp [kc_length, kw_length, *]; done) | omega)) ?_
    refine WL.pv (PV.lenS (by first | exact H.p 0 rfl | exact H.p 1 rfl | exact H.p 2 rfl | exact H.p 3 rfl | exact H.p 4 rfl | exact H.p 5 rfl | exact H.p 6 rfl | exact H.p 7 rfl | exact H.p 8 rfl | exact H.p 9 rfl | exact H.p 10 rfl | exact H.p 11 rfl : SlB vs lv _) TrydT.sl25 rfl) rfl ?_
    refine WL.pv (PV.gtr rfl rfl rfl) rfl ?_
    first | refine WL.pv (PV.pick_t rfl rfl rfl) rfl ?_ | refine WL.pv (PV.pick_f rfl rfl rfl) rfl ?_ | refine WL.pv (PV.pick rfl rfl) rfl ?_
    refine WL.nil ?_
    refine WE.cond rfl (fun hc30 => ?_) (fun hc30 => ?_)
    · skip
      try simp only [decide_eq_true_eq, decide_eq_false_iff_not, ne_eq, Decidable.not_not, Bool.not_eq_true', Bool.not_eq_false', Bool.and_eq_true, Bool.or_eq_true, Bool.not_not, Bool.and_eq_false_iff, Bool.or_eq_false_iff, Int.not_lt, Int.not_le] at hc30
      refine WE.seq_reg ?_
      refine WL.call TrydT.fb17 rfl (alive09_c  H.yylt (by first | exact H.rob 0 rfl | exact H.rob 1 rfl | exact H.rob 2 rfl | exact H.rob 3 rfl | exact H.rob 4 rfl | exact H.rob 5 rfl | exact H.rob 6 rfl | exact H.rob 7 rfl | exact H.rob 8 rfl | exact H.rob 9 rfl | exact H.rob 10 rfl | exact H.rob 11 rfl | exact H.rob 12 rfl | exact H.rob 13 rfl | exact H.rob 14 rfl | exact H.rob 15 rfl) ) ?_
      rintro _ w5 ⟨rfl, hO⟩
      replace H := H.out hO
      refine WL.as rfl rfl ?_
      refine WL.nil ?_
      refine WE.ret ?_
      refine ⟨[_], _, .nil _, ⟨rfl, trivial⟩, ?_⟩
      refine ⟨?_, H.toOut0⟩
      first | rfl | (show Value.bool _ = Value.bool true; first | rfl | (simp; done) | (congr 1; first | exact decide_eq_true (by omega) | (simp; omega)) | simp_all)
    · skip
      try simp only [decide_eq_true_eq, decide_eq_false_iff_not, ne_eq, Decidable.not_not, Bool.not_eq_true', Bool.not_eq_false', Bool.and_eq_true, Bool.or_eq_true, Bool.not_not, Bool.and_eq_false_iff, Bool.or_eq_false_iff, Int.not_lt, Int.not_le] at hc30
      have hlv2 : lv.length ≤ 200 := by omega
      refine WE.skip ?_
      refine WE.seq_reg ?_
      refine WL.pv (PV.fieldAddr rfl TrydT.fd27_1 rfl) rfl ?_
      refine WL.load1 rfl TrydT.ag25 rfl rfl (by first | exact Blk.segAt (H.l 0 rfl) (Seg.r (Seg.all _) (by first | with_reducible rfl | (simp only [kc_length, kw_length, List.length_replicate, List.length_append, List.length_cons, List.length_nil, cutI_length, shaOf_length, dig_length, valD_length, rootM_length]; first | done | omega) | (simp [kc_length, kw_length]; omega) | (simp [kc_length, kw_length, *]; done) | rfl)) (by first | rfl | (simp; done) | (simp [kc_length, kw_length, *]; done) | omega) | exact Blk.segAt (H.l 1 rfl) (Seg.r (Seg.all _) (by first | with_reducible rfl | (simp only [kc_length, kw_length, List.length_replicate, List.length_append, List.length_cons, List.length_nil, cutI_length, shaOf_length, dig_length, valD_length, rootM_length]; first | done | omega) | (simp [kc_length, kw_length]; omega) | (simp [kc_length, kw_length, *]; done) | rfl)) (by first | rfl | (simp; done) | (simp [kc_length, kw_length, *]; done) | omega) | exact Blk.segAt (H.l 2 rfl) (Seg.r (Seg.all _) (by first | with_reducible rfl | (simp only [kc_length, kw_length, List.length_replicate, List.length_append, List.length_cons, List.length_nil, cutI_length, shaOf_length, dig_length, valD_length, rootM_length]; first | done | omega) | (simp [kc_length, kw_length]; omega) | (simp [kc_length, kw_length, *]; done) | rfl)) (by first | rfl | (simp; done) | (simp [kc_length, kw_length, *]; done) | omega) | exact Blk.segAt (H.l 3 rfl) (Seg.r (Seg.all _) (by first | with_reducible rfl | (simp only [kc_length, kw_length, List.length_replicate, List.length_append, List.length_cons, List.length_nil, cutI_length, shaOf_length, dig_length, valD_length, rootM_length]; first | done | omega) | (simp [kc_length, kw_length]; omega) | (simp [kc_length, kw_length, *]; done) | rfl)) (by first | rfl | (simp; done) | (simp [kc_length, kw_length, *]; done) | omega) | exact Blk.segAt (H.l 4 rfl) (Seg.r (Seg.all _) (by first | with_reducible rfl | (simp only [kc_length, kw_length, List.length_replicate, List.length_append, List.length_cons, List.length_nil, cutI_length, shaOf_length, dig_length, valD_length, rootM_length]; first | done | omega) | (simp [kc_length, kw_length]; omega) | (simp [kc_length, kw_length, *]; done) | rfl)) (by first | rfl | (simp; done) | (simp [kc_length, kw_length, *]; done) | omega) | exact Blk.segAt (H.l 5 rfl) (Seg.r (Seg.all _) (by first | with_reducible rfl | (simp only [kc_length, kw_length, List.length_replicate, List.length_append, List.length_cons, List.length_nil, cutI_length, shaOf_length, dig_length, valD_length, rootM_length]; first | done | omega) | (simp [kc_length, kw_length]; omega) | (simp [kc_length, kw_length, *]; done) | rfl)) (by first | rfl | (simp; done) | (simp [kc_length, kw_length, *]; done) | omega)) ?_
      refine WL.call TrydT.fb25 rfl (CloneO_c (la := lv) H.yylt (by first | exact (H.rob 0 rfl : Rob _ (SlB vs lv) _) | exact (H.rob 1 rfl : Rob _ (SlB vs lv) _) | exact (H.rob 2 rfl : Rob _ (SlB vs lv) _) | exact (H.rob 3 rfl : Rob _ (SlB vs lv) _) | exact (H.rob 4 rfl : Rob _ (SlB vs lv) _) | exact (H.rob 5 rfl : Rob _ (SlB vs lv) _) | exact (H.rob 6 rfl : Rob _ (SlB vs lv) _) | exact (H.rob 7 rfl : Rob _ (SlB vs lv) _) | exact (H.rob 8 rfl : Rob _ (SlB vs lv) _) | exact (H.rob 9 rfl : Rob _ (SlB vs lv) _) | exact (H.rob 10 rfl : Rob _ (SlB vs lv) _) | exact (H.rob 11 rfl : Rob _ (SlB vs lv) _) | exact (H.rob 12 rfl : Rob _ (SlB vs lv) _) | exact (H.rob 13 rfl : Rob _ (SlB vs lv) _)) (by omega)) ?_
      rintro v34 w6 ⟨hO, hOwn⟩
      have hw34 := own_one hOwn
      replace H := H.push hO (Ent.osl w.heap.size v34 5 1 _ _) (ownsRow_base hOwn H.size) (fun b hb => (hOwn.lt b hb).1)
      refine WL.as rfl rfl ?_
      refine WL.nil ?_
      refine WE.seq_reg ?_
      refine WL.mv rfl rfl ?_
      refine WL.mv rfl rfl ?_
      refine WL.pv (PV.fieldAddr rfl TrydT.fd27_0 rfl) rfl ?_
      refine WL.loadR rfl TrydT.ag24 rfl rfl (by first | exact Blk.segAt (H.l 0 rfl) (Seg.l (Seg.all _)) (by first | rfl | (simp; done) | (simp [kc_length, kw_length, *]; done) | omega) | exact Blk.segAt (H.l 1 rfl) (Seg.l (Seg.all _)) (by first | rfl | (simp; done) | (simp [kc_length, kw_length, *]; done) | omega) | exact Blk.segAt (H.l 2 rfl) (Seg.l (Seg.all _)) (by first | rfl | (simp; done) | (simp [kc_length, kw_length, *]; done) | omega) | exact Blk.segAt (H.l 3 rfl) (Seg.l (Seg.all _)) (by first | rfl | (simp; done) | (simp [kc_length, kw_length, *]; done) | omega) | exact Blk.segAt (H.l 4 rfl) (Seg.l (Seg.all _)) (by first | rfl | (simp; done) | (simp [kc_length, kw_length, *]; done) | omega) | exact Blk.segAt (H.l 5 rfl) (Seg.l (Seg.all _)) (by first | rfl | (simp; done) | (simp [kc_length, kw_length, *]; done) | omega)) (by first | exact TrydT.sz24 | (rw [TrydT.sz24]; refine congrArg some ?_; first | (simp only [kc_length, kw_length, List.length_replicate, List.length_append, List.length_cons, List.length_nil, cutI_length, shaOf_length, dig_length, valD_length, rootM_length]; first | done | omega) | (simp [kc_length, kw_length, *]; done) | assumption | (symm; assumption))) ?_
      refine WL.mv rfl rfl ?_
      refine WL.pv (PV.buildS rfl TrydT.pl27 TrydT.ze27 (Fl.cons rfl (by first | rfl | exact SlC.cells (H.p 0 rfl) | exact SlC.cells (H.p 1 rfl) | exact SlC.cells (H.p 2 rfl) | exact SlC.cells (H.p 3 rfl) | exact SlC.cells (H.p 4 rfl) | exact SlC.cells (H.p 5 rfl) | exact SlC.cells (H.p 6 rfl) | exact SlC.cells (H.p 7 rfl) | exact SlC.cells (H.p 8 rfl) | exact SlC.cells (H.p 9 rfl) | exact SlC.cells (H.p 10 rfl) | exact SlC.cells (H.p 11 rfl) | exact SlC.cells (H.p 12 rfl) | exact SlC.cells (H.p 13 rfl) | exact SlC.cells (H.p 14 rfl) | exact SlC.cells (H.p 15 rfl)) (by first | with_reducible rfl | (simp only [kc_length, kw_length, List.length_replicate, List.length_append, List.length_cons, List.length_nil, cutI_length, shaOf_length, dig_length, valD_length, rootM_length]; first | done | omega) | (simp [kc_length, kw_length]; omega) | (simp [kc_length, kw_length, *]; done) | rfl) (Laid.left (Laid.all (by first | with_reducible rfl | (simp only [kc_length, kw_length, List.length_replicate, List.length_append, List.length_cons, List.length_nil, cutI_length, shaOf_length, dig_length, valD_length, rootM_length]; first | done | omega) | (simp [kc_length, kw_length]; omega) | (simp [kc_length, kw_length, *]; done) | rfl))) (Fl.cons rfl (cells_one hw34) (by first | with_reducible rfl | (simp only [kc_length, kw_length, List.length_replicate, List.length_append, List.length_cons, List.length_nil, cutI_length, shaOf_length, dig_length, valD_length, rootM_length]; first | done | omega) | (simp [kc_length, kw_length]; omega) | (simp [kc_length, kw_length, *]; done) | rfl) (Laid.right (Laid.all (by first | with_reducible rfl | (simp only [kc_length, kw_length, List.length_replicate, List.length_append, List.length_cons, List.length_nil, cutI_length, shaOf_length, dig_length, valD_length, rootM_length]; first | done | omega) | (simp [kc_length, kw_length]; omega) | (simp [kc_length, kw_length, *]; done) | rfl)) (by first | with_reducible rfl | (simp only [kc_length, kw_length, List.length_replicate, List.length_append, List.length_cons, List.length_nil, cutI_length, shaOf_length, dig_length, valD_length, rootM_length]; first | done | omega) | (simp [kc_length, kw_length]; omega) | (simp [kc_length, kw_length, *]; done) | rfl)) Fl.nil))) rfl ?_
      refine WL.call TrydT.fb18 rfl (Put2_c (T := Tv17) (M := ofM l) (k := k) (lv := lv) (s := v34) (bits := i) H.yylt (H.l 1 rfl) (by first | exact H.robL 1 rfl 0 rfl | exact H.robL 1 rfl 1 rfl | exact H.robL 1 rfl 2 rfl | exact H.robL 1 rfl 3 rfl | exact H.robL 1 rfl 4 rfl | exact H.robL 1 rfl 5 rfl | exact H.robL 1 rfl 6 rfl | exact H.robL 1 rfl 7 rfl | exact H.robL 1 rfl 8 rfl | exact H.robL 1 rfl 9 rfl | exact H.robL 1 rfl 10 rfl | exact H.robL 1 rfl 11 rfl | exact H.robL 1 rfl 12 rfl | exact H.robL 1 rfl 13 rfl) (by first | exact H.robL 1 rfl 0 rfl | exact H.robL 1 rfl 1 rfl | exact H.robL 1 rfl 2 rfl | exact H.robL 1 rfl 3 rfl | exact H.robL 1 rfl 4 rfl | exact H.robL 1 rfl 5 rfl | exact H.robL 1 rfl 6 rfl | exact H.robL 1 rfl 7 rfl | exact H.robL 1 rfl 8 rfl | exact H.robL 1 rfl 9 rfl | exact H.robL 1 rfl 10 rfl | exact H.robL 1 rfl 11 rfl | exact H.robL 1 rfl 12 rfl | exact H.robL 1 rfl 13 rfl) (by first | exact H.robL 1 rfl 0 rfl | exact H.robL 1 rfl 1 rfl | exact H.robL 1 rfl 2 rfl | exact H.robL 1 rfl 3 rfl | exact H.robL 1 rfl 4 rfl | exact H.robL 1 rfl 5 rfl | exact H.robL 1 rfl 6 rfl | exact H.robL 1 rfl 7 rfl | exact H.robL 1 rfl 8 rfl | exact H.robL 1 rfl 9 rfl | exact H.robL 1 rfl 10 rfl | exact H.robL 1 rfl 11 rfl | exact H.robL 1 rfl 12 rfl | exact H.robL 1 rfl 13 rfl) hi hk (by omega) ((H.robLL 1 0 rfl rfl (by decide)).imp fun _ h => SlB.of_own h) hTv17 hok.2.1 hok.1 (by omega)) ?_
      rintro _ w7 ⟨Tv41, mv41, rfl, hTv41, hO, hB, hR⟩
      replace H := H.calledR 1 rfl hO hB hR
      refine WL.as rfl rfl ?_
      refine WL.nil ?_
      refine WE.seq ?_
      refine WE.seq_reg ?_
      refine WL.mv rfl rfl ?_
      refine WL.pv (PV.lenS (SlC.of_own (H.l 0 rfl)) TrydT.sl25 rfl) rfl ?_
      refine WL.mv rfl rfl ?_
      refine WL.nil ?_
      refine WE.block ?_
      refine WE.loop (α := Nat × List UInt8) [13, 44, 45, 46, 47, 48, 49, 50, 51, 52, 53] (fun p => [(44, .int .i64 p.1)]) (fun p wl => p.1 ≤ lv.length ∧ p.2.length = lv.length ∧ St X w wl [] [Ent.osl w.heap.size v34 5 1 lv.length (kc p.2), Ent.blk bcv22 127 [.int .i64 mv41], Ent.blk b5 27 (kc k ++ [vs])] [TrA i Tv41, fun x => Vals (ofM l) x, HAt bhv22 bcv22 i, SlE sv17 (ofM l), TrA i Tv17, SlE s l, Vals l, SlB vs lv, Rounds]) (fun p => lv.length - p.1) (0, lv) ⟨rfl, trivial⟩ ⟨Nat.zero_le _, rfl, H⟩ ?_
      intro ⟨n, lb⟩ γ0 w8 hI
      try dsimp only at hI
      obtain ⟨hn, hlb, H⟩ := hI
      refine WE.seq_reg ?_
      refine WL.pv (PV.lss rfl rfl rfl) rfl ?_
      refine WL.nil ?_
      refine WE.seq ?_
      refine WE.cond rfl (fun hc45 => ?_) (fun hc45 => ?_)
      · skip
        try simp only [decide_eq_true_eq, decide_eq_false_iff_not, ne_eq, Decidable.not_not, Bool.not_eq_true', Bool.not_eq_false', Bool.and_eq_true, Bool.or_eq_true, Bool.not_not, Bool.and_eq_false_iff, Bool.or_eq_false_iff, Int.not_lt, Int.not_le] at hc45
        have hlt : n < lv.length := by omega
        refine WE.skip ?_
        refine WE.seq ?_
        refine WE.block ?_
        refine WE.seq_reg ?_
        refine WL.mv rfl rfl ?_
        refine WL.as rfl rfl ?_
        refine WL.nil ?_
        refine WE.reg ?_
        refine WL.mv rfl rfl ?_
        refine WL.mv rfl rfl ?_
        refine WL.pv (PV.idxS rfl (SlC.of_own (H.l 0 rfl)) TrydT.sl25 TrydT.sz5 rfl rfl (by omega) (by omega)) rfl ?_
        refine WL.load1 rfl TrydT.ag5 rfl rfl ((show SlB _ lb _ from by have h_ := SlC.of_own (H.l 0 rfl); rw [← hlb] at h_; exact h_).rd n (by omega)) ?_
        refine WL.pv (PV.add8 (a := lb[n]'(by omega)) (b := 1) rfl rfl rfl) rfl ?_
        refine WL.pv (PV.idxS rfl (SlC.of_own (H.l 0 rfl)) TrydT.sl25 TrydT.sz5 rfl rfl (by omega) (by omega)) rfl ?_
        refine WL.storeS (p := n * 1) H 0 rfl rfl rfl (new := _) rfl (by first | exact TrydT.sz5 | (rw [TrydT.sz5]; refine congrArg some ?_; first | (simp only [kc_length, kw_length, List.length_replicate, List.length_append, List.length_cons, List.length_nil, cutI_length, shaOf_length, dig_length, valD_length, rootM_length]; first | done | omega) | (simp [kc_length, kw_length, *]; done) | assumption | (symm; assumption))) (one_lit _ rfl) (Nat.succ_pos _) (Laid.at (Laid.byte (l := lb) (i := n) (x := lb[n]'(by omega) + 1) (by omega)) (by omega)) rfl ?_
        intro w9 H
        refine WL.nil ?_
        refine WE.reg ?_
        first | refine WL.pv (PV.add64 rfl rfl rfl (by omega) (by omega)) rfl ?_ | refine WL.pv (PV.addw rfl rfl rfl) rfl ?_
        refine WL.mv rfl rfl ?_
        refine WL.nil ?_
        exact ⟨(n + 1, lb.set n (lb[n]'(by omega) + 1)), (by repeat (first | with_reducible exact Off.refl _ _ | refine Off.upd rfl ?_ | refine Off.cpy rfl ?_ | refine Off.setAll rfl ?_ | refine Off.forget' rfl ?_ | refine Off.upd_none ?_ | exact Off.refl _ _)), ⟨rfl, trivial⟩, rfl, ⟨by dsimp only; omega, by dsimp only; rw [List.length_set]; exact hlb, H⟩, (by dsimp only; omega)⟩
      · skip
        try simp only [decide_eq_true_eq, decide_eq_false_iff_not, ne_eq, Decidable.not_not, Bool.not_eq_true', Bool.not_eq_false', Bool.and_eq_true, Bool.or_eq_true, Bool.not_not, Bool.and_eq_false_iff, Bool.or_eq_false_iff, Int.not_lt, Int.not_le] at hc45
        refine WE.exit ?_
        refine WE.seq_reg ?_
        refine WL.call TrydT.fb17 rfl (alive09_c  H.yylt (by first | exact H.rob 0 rfl | exact H.rob 1 rfl | exact H.rob 2 rfl | exact H.rob 3 rfl | exact H.rob 4 rfl | exact H.rob 5 rfl | exact H.rob 6 rfl | exact H.rob 7 rfl | exact H.rob 8 rfl | exact H.rob 9 rfl | exact H.rob 10 rfl | exact H.rob 11 rfl | exact H.rob 12 rfl | exact H.rob 13 rfl | exact H.rob 14 rfl | exact H.rob 15 rfl) ) ?_
        rintro _ w10 ⟨rfl, hO⟩
        replace H := H.out hO
        refine WL.mv rfl rfl ?_
        refine WL.known (t := 55) (c := true) rfl (by first | rfl | (simp; done)) ?_
        refine WL.mv rfl rfl ?_
        refine WL.mv rfl rfl ?_
        refine WL.mv rfl rfl ?_
        refine WL.pv (PV.fieldAddr rfl TrydT.fd27_0 rfl) rfl ?_
        refine WL.loadR rfl TrydT.ag24 rfl rfl (by first | exact Blk.segAt (H.l 0 rfl) (Seg.l (Seg.all _)) (by first | rfl | (simp; done) | (simp [kc_length, kw_length, *]; done) | omega) | exact Blk.segAt (H.l 1 rfl) (Seg.l (Seg.all _)) (by first | rfl | (simp; done) | (simp [kc_length, kw_length, *]; done) | omega) | exact Blk.segAt (H.l 2 rfl) (Seg.l (Seg.all _)) (by first | rfl | (simp; done) | (simp [kc_length, kw_length, *]; done) | omega) | exact Blk.segAt (H.l 3 rfl) (Seg.l (Seg.all _)) (by first | rfl | (simp; done) | (simp [kc_length, kw_length, *]; done) | omega) | exact Blk.segAt (H.l 4 rfl) (Seg.l (Seg.all _)) (by first | rfl | (simp; done) | (simp [kc_length, kw_length, *]; done) | omega) | exact Blk.segAt (H.l 5 rfl) (Seg.l (Seg.all _)) (by first | rfl | (simp; done) | (simp [kc_length, kw_length, *]; done) | omega)) (by first | exact TrydT.sz24 | (rw [TrydT.sz24]; refine congrArg some ?_; first | (simp only [kc_length, kw_length, List.length_replicate, List.length_append, List.length_cons, List.length_nil, cutI_length, shaOf_length, dig_length, valD_length, rootM_length]; first | done | omega) | (simp [kc_length, kw_length, *]; done) | assumption | (symm; assumption))) ?_
        refine WL.pv (PV.fieldAddr rfl TrydT.fd27_1 rfl) rfl ?_
        refine WL.load1 rfl TrydT.ag25 rfl rfl (by first | exact Blk.segAt (H.l 0 rfl) (Seg.r (Seg.all _) (by first | with_reducible rfl | (simp only [kc_length, kw_length, List.length_replicate, List.length_append, List.length_cons, List.length_nil, cutI_length, shaOf_length, dig_length, valD_length, rootM_length]; first | done | omega) | (simp [kc_length, kw_length]; omega) | (simp [kc_length, kw_length, *]; done) | rfl)) (by first | rfl | (simp; done) | (simp [kc_length, kw_length, *]; done) | omega) | exact Blk.segAt (H.l 1 rfl) (Seg.r (Seg.all _) (by first | with_reducible rfl | (simp only [kc_length, kw_length, List.length_replicate, List.length_append, List.length_cons, List.length_nil, cutI_length, shaOf_length, dig_length, valD_length, rootM_length]; first | done | omega) | (simp [kc_length, kw_length]; omega) | (simp [kc_length, kw_length, *]; done) | rfl)) (by first | rfl | (simp; done) | (simp [kc_length, kw_length, *]; done) | omega) | exact Blk.segAt (H.l 2 rfl) (Seg.r (Seg.all _) (by first | with_reducible rfl | (simp only [kc_length, kw_length, List.length_replicate, List.length_append, List.length_cons, List.length_nil, cutI_length, shaOf_length, dig_length, valD_length, rootM_length]; first | done | omega) | (simp [kc_length, kw_length]; omega) | (simp [kc_length, kw_length, *]; done) | rfl)) (by first | rfl | (simp; done) | (simp [kc_length, kw_length, *]; done) | omega) | exact Blk.segAt (H.l 3 rfl) (Seg.r (Seg.all _) (by first | with_reducible rfl | (simp only [kc_length, kw_length, List.length_replicate, List.length_append, List.length_cons, List.length_nil, cutI_length, shaOf_length, dig_length, valD_length, rootM_length]; first | done | omega) | (simp [kc_length, kw_length]; omega) | (simp [kc_length, kw_length, *]; done) | rfl)) (by first | rfl | (simp; done) | (simp [kc_length, kw_length, *]; done) | omega) | exact Blk.segAt (H.l 4 rfl) (Seg.r (Seg.all _) (by first | with_reducible rfl | (simp only [kc_length, kw_length, List.length_replicate, List.length_append, List.length_cons, List.length_nil, cutI_length, shaOf_length, dig_length, valD_length, rootM_length]; first | done | omega) | (simp [kc_length, kw_length]; omega) | (simp [kc_length, kw_length, *]; done) | rfl)) (by first | rfl | (simp; done) | (simp [kc_length, kw_length, *]; done) | omega) | exact Blk.segAt (H.l 5 rfl) (Seg.r (Seg.all _) (by first | with_reducible rfl | (simp only [kc_length, kw_length, List.length_replicate, List.length_append, List.length_cons, List.length_nil, cutI_length, shaOf_length, dig_length, valD_length, rootM_length]; first | done | omega) | (simp [kc_length, kw_length]; omega) | (simp [kc_length, kw_length, *]; done) | rfl)) (by first | rfl | (simp; done) | (simp [kc_length, kw_length, *]; done) | omega)) ?_
        refine WL.call TrydT.fb27 rfl (Put_c (m := ofM l) (q := k) (vv := lv) H.yylt (by first | exact (H.rob 0 rfl : Rob _ (SlE sv17 (ofM l)) _) | exact (H.rob 1 rfl : Rob _ (SlE sv17 (ofM l)) _) | exact (H.rob 2 rfl : Rob _ (SlE sv17 (ofM l)) _) | exact (H.rob 3 rfl : Rob _ (SlE sv17 (ofM l)) _) | exact (H.rob 4 rfl : Rob _ (SlE sv17 (ofM l)) _) | exact (H.rob 5 rfl : Rob _ (SlE sv17 (ofM l)) _) | exact (H.rob 6 rfl : Rob _ (SlE sv17 (ofM l)) _) | exact (H.rob 7 rfl : Rob _ (SlE sv17 (ofM l)) _) | exact (H.rob 8 rfl : Rob _ (SlE sv17 (ofM l)) _) | exact (H.rob 9 rfl : Rob _ (SlE sv17 (ofM l)) _) | exact (H.rob 10 rfl : Rob _ (SlE sv17 (ofM l)) _) | exact (H.rob 11 rfl : Rob _ (SlE sv17 (ofM l)) _) | exact (H.rob 12 rfl : Rob _ (SlE sv17 (ofM l)) _) | exact (H.rob 13 rfl : Rob _ (SlE sv17 (ofM l)) _)) (by first | exact (H.rob 0 rfl : Rob _ (SlB vs lv) _) | exact (H.rob 1 rfl : Rob _ (SlB vs lv) _) | exact (H.rob 2 rfl : Rob _ (SlB vs lv) _) | exact (H.rob 3 rfl : Rob _ (SlB vs lv) _) | exact (H.rob 4 rfl : Rob _ (SlB vs lv) _) | exact (H.rob 5 rfl : Rob _ (SlB vs lv) _) | exact (H.rob 6 rfl : Rob _ (SlB vs lv) _) | exact (H.rob 7 rfl : Rob _ (SlB vs lv) _) | exact (H.rob 8 rfl : Rob _ (SlB vs lv) _) | exact (H.rob 9 rfl : Rob _ (SlB vs lv) _) | exact (H.rob 10 rfl : Rob _ (SlB vs lv) _) | exact (H.rob 11 rfl : Rob _ (SlB vs lv) _) | exact (H.rob 12 rfl : Rob _ (SlB vs lv) _) | exact (H.rob 13 rfl : Rob _ (SlB vs lv) _)) hok.2.1 hone (by omega) hk) ?_
        rintro v63 w11 ⟨hO, hR⟩
        replace H := (H.out hO).add hR
        refine WL.call TrydT.fb26 rfl (Is_c (T := Tv41) (M := (putM (ofM l) ⟨k, vs, lv⟩)) (s := v63) (bits := i) H.yylt (H.l 1 rfl) (by first | exact H.robL 1 rfl 0 rfl | exact H.robL 1 rfl 1 rfl | exact H.robL 1 rfl 2 rfl | exact H.robL 1 rfl 3 rfl | exact H.robL 1 rfl 4 rfl | exact H.robL 1 rfl 5 rfl | exact H.robL 1 rfl 6 rfl | exact H.robL 1 rfl 7 rfl | exact H.robL 1 rfl 8 rfl | exact H.robL 1 rfl 9 rfl | exact H.robL 1 rfl 10 rfl | exact H.robL 1 rfl 11 rfl | exact H.robL 1 rfl 12 rfl | exact H.robL 1 rfl 13 rfl) (by first | exact H.robL 1 rfl 0 rfl | exact H.robL 1 rfl 1 rfl | exact H.robL 1 rfl 2 rfl | exact H.robL 1 rfl 3 rfl | exact H.robL 1 rfl 4 rfl | exact H.robL 1 rfl 5 rfl | exact H.robL 1 rfl 6 rfl | exact H.robL 1 rfl 7 rfl | exact H.robL 1 rfl 8 rfl | exact H.robL 1 rfl 9 rfl | exact H.robL 1 rfl 10 rfl | exact H.robL 1 rfl 11 rfl | exact H.robL 1 rfl 12 rfl | exact H.robL 1 rfl 13 rfl) (by first | exact (H.robL 1 rfl 0 rfl : Rob _ (SlE v63 (putM (ofM l) ⟨k, vs, lv⟩)) _) | exact (H.robL 1 rfl 1 rfl : Rob _ (SlE v63 (putM (ofM l) ⟨k, vs, lv⟩)) _) | exact (H.robL 1 rfl 2 rfl : Rob _ (SlE v63 (putM (ofM l) ⟨k, vs, lv⟩)) _) | exact (H.robL 1 rfl 3 rfl : Rob _ (SlE v63 (putM (ofM l) ⟨k, vs, lv⟩)) _) | exact (H.robL 1 rfl 4 rfl : Rob _ (SlE v63 (putM (ofM l) ⟨k, vs, lv⟩)) _) | exact (H.robL 1 rfl 5 rfl : Rob _ (SlE v63 (putM (ofM l) ⟨k, vs, lv⟩)) _) | exact (H.robL 1 rfl 6 rfl : Rob _ (SlE v63 (putM (ofM l) ⟨k, vs, lv⟩)) _) | exact (H.robL 1 rfl 7 rfl : Rob _ (SlE v63 (putM (ofM l) ⟨k, vs, lv⟩)) _) | exact (H.robL 1 rfl 8 rfl : Rob _ (SlE v63 (putM (ofM l) ⟨k, vs, lv⟩)) _) | exact (H.robL 1 rfl 9 rfl : Rob _ (SlE v63 (putM (ofM l) ⟨k, vs, lv⟩)) _) | exact (H.robL 1 rfl 10 rfl : Rob _ (SlE v63 (putM (ofM l) ⟨k, vs, lv⟩)) _) | exact (H.robL 1 rfl 11 rfl : Rob _ (SlE v63 (putM (ofM l) ⟨k, vs, lv⟩)) _) | exact (H.robL 1 rfl 12 rfl : Rob _ (SlE v63 (putM (ofM l) ⟨k, vs, lv⟩)) _) | exact (H.robL 1 rfl 13 rfl : Rob _ (SlE v63 (putM (ofM l) ⟨k, vs, lv⟩)) _)) (by first | exact ((H.robL 1 rfl 0 rfl : Rob _ (Vals (ofM l)) _).and (H.robL 1 rfl 1 rfl : Rob _ (SlB vs lv) _)).imp fun _ h => h.1.put h.2 | exact ((H.robL 1 rfl 0 rfl : Rob _ (Vals (ofM l)) _).and (H.robL 1 rfl 2 rfl : Rob _ (SlB vs lv) _)).imp fun _ h => h.1.put h.2 | exact ((H.robL 1 rfl 0 rfl : Rob _ (Vals (ofM l)) _).and (H.robL 1 rfl 3 rfl : Rob _ (SlB vs lv) _)).imp fun _ h => h.1.put h.2 | exact ((H.robL 1 rfl 0 rfl : Rob _ (Vals (ofM l)) _).and (H.robL 1 rfl 4 rfl : Rob _ (SlB vs lv) _)).imp fun _ h => h.1.put h.2 | exact ((H.robL 1 rfl 0 rfl : Rob _ (Vals (ofM l)) _).and (H.robL 1 rfl 5 rfl : Rob _ (SlB vs lv) _)).imp fun _ h => h.1.put h.2 | exact ((H.robL 1 rfl 0 rfl : Rob _ (Vals (ofM l)) _).and (H.robL 1 rfl 6 rfl : Rob _ (SlB vs lv) _)).imp fun _ h => h.1.put h.2 | exact ((H.robL 1 rfl 0 rfl : Rob _ (Vals (ofM l)) _).and (H.robL 1 rfl 7 rfl : Rob _ (SlB vs lv) _)).imp fun _ h => h.1.put h.2 | exact ((H.robL 1 rfl 0 rfl : Rob _ (Vals (ofM l)) _).and (H.robL 1 rfl 8 rfl : Rob _ (SlB vs lv) _)).imp fun _ h => h.1.put h.2 | exact ((H.robL 1 rfl 0 rfl : Rob _ (Vals (ofM l)) _).and (H.robL 1 rfl 9 rfl : Rob _ (SlB vs lv) _)).imp fun _ h => h.1.put h.2 | exact ((H.robL 1 rfl 0 rfl : Rob _ (Vals (ofM l)) _).and (H.robL 1 rfl 10 rfl : Rob _ (SlB vs lv) _)).imp fun _ h => h.1.put h.2 | exact ((H.robL 1 rfl 1 rfl : Rob _ (Vals (ofM l)) _).and (H.robL 1 rfl 2 rfl : Rob _ (SlB vs lv) _)).imp fun _ h => h.1.put h.2 | exact ((H.robL 1 rfl 1 rfl : Rob _ (Vals (ofM l)) _).and (H.robL 1 rfl 3 rfl : Rob _ (SlB vs lv) _)).imp fun _ h => h.1.put h.2 | exact ((H.robL 1 rfl 1 rfl : Rob _ (Vals (ofM l)) _).and (H.robL 1 rfl 4 rfl : Rob _ (SlB vs lv) _)).imp fun _ h => h.1.put h.2 | exact ((H.robL 1 rfl 1 rfl : Rob _ (Vals (ofM l)) _).and (H.robL 1 rfl 5 rfl : Rob _ (SlB vs lv) _)).imp fun _ h => h.1.put h.2 | exact ((H.robL 1 rfl 1 rfl : Rob _ (Vals (ofM l)) _).and (H.robL 1 rfl 6 rfl : Rob _ (SlB vs lv) _)).imp fun _ h => h.1.put h.2 | exact ((H.robL 1 rfl 1 rfl : Rob _ (Vals (ofM l)) _).and (H.robL 1 rfl 7 rfl : Rob _ (SlB vs lv) _)).imp fun _ h => h.1.put h.2 | exact ((H.robL 1 rfl 1 rfl : Rob _ (Vals (ofM l)) _).and (H.robL 1 rfl 8 rfl : Rob _ (SlB vs lv) _)).imp fun _ h => h.1.put h.2 | exact ((H.robL 1 rfl 1 rfl : Rob _ (Vals (ofM l)) _).and (H.robL 1 rfl 9 rfl : Rob _ (SlB vs lv) _)).imp fun _ h => h.1.put h.2 | exact ((H.robL 1 rfl 1 rfl : Rob _ (Vals (ofM l)) _).and (H.robL 1 rfl 10 rfl : Rob _ (SlB vs lv) _)).imp fun _ h => h.1.put h.2 | exact ((H.robL 1 rfl 2 rfl : Rob _ (Vals (ofM l)) _).and (H.robL 1 rfl 3 rfl : Rob _ (SlB vs lv) _)).imp fun _ h => h.1.put h.2 | exact ((H.robL 1 rfl 2 rfl : Rob _ (Vals (ofM l)) _).and (H.robL 1 rfl 4 rfl : Rob _ (SlB vs lv) _)).imp fun _ h => h.1.put h.2 | exact ((H.robL 1 rfl 2 rfl : Rob _ (Vals (ofM l)) _).and (H.robL 1 rfl 5 rfl : Rob _ (SlB vs lv) _)).imp fun _ h => h.1.put h.2 | exact ((H.robL 1 rfl 2 rfl : Rob _ (Vals (ofM l)) _).and (H.robL 1 rfl 6 rfl : Rob _ (SlB vs lv) _)).imp fun _ h => h.1.put h.2 | exact ((H.robL 1 rfl 2 rfl : Rob _ (Vals (ofM l)) _).and (H.robL 1 rfl 7 rfl : Rob _ (SlB vs lv) _)).imp fun _ h => h.1.put h.2 | exact ((H.robL 1 rfl 2 rfl : Rob _ (Vals (ofM l)) _).and (H.robL 1 rfl 8 rfl : Rob _ (SlB vs lv) _)).imp fun _ h => h.1.put h.2 | exact ((H.robL 1 rfl 2 rfl : Rob _ (Vals (ofM l)) _).and (H.robL 1 rfl 9 rfl : Rob _ (SlB vs lv) _)).imp fun _ h => h.1.put h.2 | exact ((H.robL 1 rfl 2 rfl : Rob _ (Vals (ofM l)) _).and (H.robL 1 rfl 10 rfl : Rob _ (SlB vs lv) _)).imp fun _ h => h.1.put h.2 | exact ((H.robL 1 rfl 3 rfl : Rob _ (Vals (ofM l)) _).and (H.robL 1 rfl 4 rfl : Rob _ (SlB vs lv) _)).imp fun _ h => h.1.put h.2 | exact ((H.robL 1 rfl 3 rfl : Rob _ (Vals (ofM l)) _).and (H.robL 1 rfl 5 rfl : Rob _ (SlB vs lv) _)).imp fun _ h => h.1.put h.2 | exact ((H.robL 1 rfl 3 rfl : Rob _ (Vals (ofM l)) _).and (H.robL 1 rfl 6 rfl : Rob _ (SlB vs lv) _)).imp fun _ h => h.1.put h.2 | exact ((H.robL 1 rfl 3 rfl : Rob _ (Vals (ofM l)) _).and (H.robL 1 rfl 7 rfl : Rob _ (SlB vs lv) _)).imp fun _ h => h.1.put h.2 | exact ((H.robL 1 rfl 3 rfl : Rob _ (Vals (ofM l)) _).and (H.robL 1 rfl 8 rfl : Rob _ (SlB vs lv) _)).imp fun _ h => h.1.put h.2 | exact ((H.robL 1 rfl 3 rfl : Rob _ (Vals (ofM l)) _).and (H.robL 1 rfl 9 rfl : Rob _ (SlB vs lv) _)).imp fun _ h => h.1.put h.2 | exact ((H.robL 1 rfl 3 rfl : Rob _ (Vals (ofM l)) _).and (H.robL 1 rfl 10 rfl : Rob _ (SlB vs lv) _)).imp fun _ h => h.1.put h.2 | exact ((H.robL 1 rfl 4 rfl : Rob _ (Vals (ofM l)) _).and (H.robL 1 rfl 5 rfl : Rob _ (SlB vs lv) _)).imp fun _ h => h.1.put h.2 | exact ((H.robL 1 rfl 4 rfl : Rob _ (Vals (ofM l)) _).and (H.robL 1 rfl 6 rfl : Rob _ (SlB vs lv) _)).imp fun _ h => h.1.put h.2 | exact ((H.robL 1 rfl 4 rfl : Rob _ (Vals (ofM l)) _).and (H.robL 1 rfl 7 rfl : Rob _ (SlB vs lv) _)).imp fun _ h => h.1.put h.2 | exact ((H.robL 1 rfl 4 rfl : Rob _ (Vals (ofM l)) _).and (H.robL 1 rfl 8 rfl : Rob _ (SlB vs lv) _)).imp fun _ h => h.1.put h.2 | exact ((H.robL 1 rfl 4 rfl : Rob _ (Vals (ofM l)) _).and (H.robL 1 rfl 9 rfl : Rob _ (SlB vs lv) _)).imp fun _ h => h.1.put h.2 | exact ((H.robL 1 rfl 4 rfl : Rob _ (Vals (ofM l)) _).and (H.robL 1 rfl 10 rfl : Rob _ (SlB vs lv) _)).imp fun _ h => h.1.put h.2 | exact ((H.robL 1 rfl 5 rfl : Rob _ (Vals (ofM l)) _).and (H.robL 1 rfl 6 rfl : Rob _ (SlB vs lv) _)).imp fun _ h => h.1.put h.2 | exact ((H.robL 1 rfl 5 rfl : Rob _ (Vals (ofM l)) _).and (H.robL 1 rfl 7 rfl : Rob _ (SlB vs lv) _)).imp fun _ h => h.1.put h.2 | exact ((H.robL 1 rfl 5 rfl : Rob _ (Vals (ofM l)) _).and (H.robL 1 rfl 8 rfl : Rob _ (SlB vs lv) _)).imp fun _ h => h.1.put h.2 | exact ((H.robL 1 rfl 5 rfl : Rob _ (Vals (ofM l)) _).and (H.robL 1 rfl 9 rfl : Rob _ (SlB vs lv) _)).imp fun _ h => h.1.put h.2 | exact ((H.robL 1 rfl 5 rfl : Rob _ (Vals (ofM l)) _).and (H.robL 1 rfl 10 rfl : Rob _ (SlB vs lv) _)).imp fun _ h => h.1.put h.2) (by first | exact H.robL 1 rfl 0 rfl | exact H.robL 1 rfl 1 rfl | exact H.robL 1 rfl 2 rfl | exact H.robL 1 rfl 3 rfl | exact H.robL 1 rfl 4 rfl | exact H.robL 1 rfl 5 rfl | exact H.robL 1 rfl 6 rfl | exact H.robL 1 rfl 7 rfl | exact H.robL 1 rfl 8 rfl | exact H.robL 1 rfl 9 rfl | exact H.robL 1 rfl 10 rfl | exact H.robL 1 rfl 11 rfl | exact H.robL 1 rfl 12 rfl | exact H.robL 1 rfl 13 rfl) hi (hTv41.trans (put_s _ _ _ _ _ _)) (putM_kl hok.2.1 hk) (putM_srt hok.1 hok.2.1 hk) (hsv.put (by show lv.length ≤ _; omega)) (by have := putM_len (ofM l) ⟨k, vs, lv⟩; omega)) ?_
        rintro _ w12 ⟨mv64, rfl, hO, hB⟩
        replace H := H.called 1 rfl hO hB
        refine WL.pv (PV.gtr rfl rfl rfl) rfl ?_
        first | refine WL.pv (PV.pick_t rfl rfl rfl) rfl ?_ | refine WL.pv (PV.pick_f rfl rfl rfl) rfl ?_ | refine WL.pv (PV.pick rfl rfl) rfl ?_
        refine WL.mv rfl rfl ?_
        refine WL.known (t := 67) (c := true) rfl (by first | rfl | (simp; done)) ?_
        refine WL.mv rfl rfl ?_
        refine WL.mv rfl rfl ?_
        refine WL.mv rfl rfl ?_
        refine WL.call TrydT.fb26 rfl (Is_c (T := Tv17) (M := (ofM l)) (s := sv17) (bits := i) H.yylt (H.l 1 rfl) (by first | exact H.robL 1 rfl 0 rfl | exact H.robL 1 rfl 1 rfl | exact H.robL 1 rfl 2 rfl | exact H.robL 1 rfl 3 rfl | exact H.robL 1 rfl 4 rfl | exact H.robL 1 rfl 5 rfl | exact H.robL 1 rfl 6 rfl | exact H.robL 1 rfl 7 rfl | exact H.robL 1 rfl 8 rfl | exact H.robL 1 rfl 9 rfl | exact H.robL 1 rfl 10 rfl | exact H.robL 1 rfl 11 rfl | exact H.robL 1 rfl 12 rfl | exact H.robL 1 rfl 13 rfl) (by first | exact H.robL 1 rfl 0 rfl | exact H.robL 1 rfl 1 rfl | exact H.robL 1 rfl 2 rfl | exact H.robL 1 rfl 3 rfl | exact H.robL 1 rfl 4 rfl | exact H.robL 1 rfl 5 rfl | exact H.robL 1 rfl 6 rfl | exact H.robL 1 rfl 7 rfl | exact H.robL 1 rfl 8 rfl | exact H.robL 1 rfl 9 rfl | exact H.robL 1 rfl 10 rfl | exact H.robL 1 rfl 11 rfl | exact H.robL 1 rfl 12 rfl | exact H.robL 1 rfl 13 rfl) (by first | exact (H.robL 1 rfl 0 rfl : Rob _ (SlE sv17 (ofM l)) _) | exact (H.robL 1 rfl 1 rfl : Rob _ (SlE sv17 (ofM l)) _) | exact (H.robL 1 rfl 2 rfl : Rob _ (SlE sv17 (ofM l)) _) | exact (H.robL 1 rfl 3 rfl : Rob _ (SlE sv17 (ofM l)) _) | exact (H.robL 1 rfl 4 rfl : Rob _ (SlE sv17 (ofM l)) _) | exact (H.robL 1 rfl 5 rfl : Rob _ (SlE sv17 (ofM l)) _) | exact (H.robL 1 rfl 6 rfl : Rob _ (SlE sv17 (ofM l)) _) | exact (H.robL 1 rfl 7 rfl : Rob _ (SlE sv17 (ofM l)) _) | exact (H.robL 1 rfl 8 rfl : Rob _ (SlE sv17 (ofM l)) _) | exact (H.robL 1 rfl 9 rfl : Rob _ (SlE sv17 (ofM l)) _) | exact (H.robL 1 rfl 10 rfl : Rob _ (SlE sv17 (ofM l)) _) | exact (H.robL 1 rfl 11 rfl : Rob _ (SlE sv17 (ofM l)) _) | exact (H.robL 1 rfl 12 rfl : Rob _ (SlE sv17 (ofM l)) _) | exact (H.robL 1 rfl 13 rfl : Rob _ (SlE sv17 (ofM l)) _)) (by first | exact (H.robL 1 rfl 0 rfl : Rob _ (Vals (ofM l)) _) | exact (H.robL 1 rfl 1 rfl : Rob _ (Vals (ofM l)) _) | exact (H.robL 1 rfl 2 rfl : Rob _ (Vals (ofM l)) _) | exact (H.robL 1 rfl 3 rfl : Rob _ (Vals (ofM l)) _) | exact (H.robL 1 rfl 4 rfl : Rob _ (Vals (ofM l)) _) | exact (H.robL 1 rfl 5 rfl : Rob _ (Vals (ofM l)) _) | exact (H.robL 1 rfl 6 rfl : Rob _ (Vals (ofM l)) _) | exact (H.robL 1 rfl 7 rfl : Rob _ (Vals (ofM l)) _) | exact (H.robL 1 rfl 8 rfl : Rob _ (Vals (ofM l)) _) | exact (H.robL 1 rfl 9 rfl : Rob _ (Vals (ofM l)) _) | exact (H.robL 1 rfl 10 rfl : Rob _ (Vals (ofM l)) _) | exact (H.robL 1 rfl 11 rfl : Rob _ (Vals (ofM l)) _) | exact (H.robL 1 rfl 12 rfl : Rob _ (Vals (ofM l)) _) | exact (H.robL 1 rfl 13 rfl : Rob _ (Vals (ofM l)) _)) (by first | exact H.robL 1 rfl 0 rfl | exact H.robL 1 rfl 1 rfl | exact H.robL 1 rfl 2 rfl | exact H.robL 1 rfl 3 rfl | exact H.robL 1 rfl 4 rfl | exact H.robL 1 rfl 5 rfl | exact H.robL 1 rfl 6 rfl | exact H.robL 1 rfl 7 rfl | exact H.robL 1 rfl 8 rfl | exact H.robL 1 rfl 9 rfl | exact H.robL 1 rfl 10 rfl | exact H.robL 1 rfl 11 rfl | exact H.robL 1 rfl 12 rfl | exact H.robL 1 rfl 13 rfl) hi hTv17 hok.2.1 hok.1 hsv (by omega)) ?_
        rintro _ w13 ⟨mv71, rfl, hO, hB⟩
        replace H := H.called 1 rfl hO hB
        refine WL.pv (PV.gtr rfl rfl rfl) rfl ?_
        first | refine WL.pv (PV.pick_t rfl rfl rfl) rfl ?_ | refine WL.pv (PV.pick_f rfl rfl rfl) rfl ?_ | refine WL.pv (PV.pick rfl rfl) rfl ?_
        refine WL.as rfl rfl ?_
        refine WL.nil ?_
        refine WE.ret ?_
        refine ⟨[_], _, .nil _, ⟨rfl, trivial⟩, ?_⟩
        refine ⟨?_, H.toOut0⟩
        first | rfl | (show Value.bool _ = Value.bool true; first | rfl | (simp; done) | (congr 1; first | exact decide_eq_true (by omega) | (simp; omega)) | simp_all)

theorem PutAllBad_c {X : Nat → Prop} {w : World} {i : Int} {s s2 : Value} {l l2 : List En} (hX : ∀ b, X b → b < w.heap.size) (hf0 : Rob X (SlE s l) w) (hf1 : Rob X (Vals l) w) (hf2 : Rob X (SlE s2 l2) w) (hf3 : Rob X (Vals l2) w) (hf4 : Rob X (Rounds) w) (hi : ¬ (0 ≤ i ∧ i ≤ 256)) (hkl : KL l) (hlen : l.length ≤ 9223372036854775807) (hvl : ∀ e ∈ l, e.v.length ≤ 9223372036854775807) (hkl2 : KL l2) (hlen2 : l2.length ≤ 9223372036854775807) (hvl2 : ∀ e ∈ l2, e.v.length ≤ 9223372036854775807) :
    Ret Tryd.prog 7 [.int .i64 i, s, s2].toArray w fun v w' => v = .bool true ∧ Out Nil w w' := by
  refine Ret.of_body (N := 41) Tryd.func7 rfl rfl (by simp) ?_
  have H := St.begin hX
  replace H := H.add (rob0 hf4)
  replace H := H.add (rob0 hf3)
  replace H := H.add (rob0 hf2)
  replace H := H.add (rob0 hf1)
  replace H := H.add (rob0 hf0)
  refine WE.seq_reg ?_
  refine WL.as rfl rfl ?_
  refine WL.nil ?_
  refine WE.seq_reg ?_
  refine WL.mv rfl rfl ?_
  refine WL.mv rfl rfl ?_
  refine WL.call TrydT.fb15 rfl (Tree_c (i := i) (l := l) H.yylt (by first | exact H.rob 0 rfl | exact H.rob 1 rfl | exact H.rob 2 rfl | exact H.rob 3 rfl | exact H.rob 4 rfl | exact H.rob 5 rfl | exact H.rob 6 rfl | exact H.rob 7 rfl | exact H.rob 8 rfl | exact H.rob 9 rfl | exact H.rob 10 rfl | exact H.rob 11 rfl | exact H.rob 12 rfl | exact H.rob 13 rfl | exact H.rob 14 rfl | exact H.rob 15 rfl) (by first | exact H.rob 0 rfl | exact H.rob 1 rfl | exact H.rob 2 rfl | exact H.rob 3 rfl | exact H.rob 4 rfl | exact H.rob 5 rfl | exact H.rob 6 rfl | exact H.rob 7 rfl | exact H.rob 8 rfl | exact H.rob 9 rfl | exact H.rob 10 rfl | exact H.rob 11 rfl | exact H.rob 12 rfl | exact H.rob 13 rfl | exact H.rob 14 rfl | exact H.rob 15 rfl) (by first | exact H.rob 0 rfl | exact H.rob 1 rfl | exact H.rob 2 rfl | exact H.rob 3 rfl | exact H.rob 4 rfl | exact H.rob 5 rfl | exact H.rob 6 rfl | exact H.rob 7 rfl | exact H.rob 8 rfl | exact H.rob 9 rfl | exact H.rob 10 rfl | exact H.rob 11 rfl | exact H.rob 12 rfl | exact H.rob 13 rfl | exact H.rob 14 rfl | exact H.rob 15 rfl) (by first | assumption | omega | (simp; omega) | simp_all) (by first | assumption | omega | (simp; omega) | simp_all) (by first | assumption | omega | (simp; omega) | simp_all)) ?_
  rintro _ w1 ⟨bv14, sv14, Tv14, mv14, rfl, hTv14, hbv14, hO, hS_, hR⟩
  replace H := ((H.out hO).add hR).add hS_
  have hbf : bv14 = false := by cases hb_ : bv14; rfl; exact absurd (hbv14 hb_).2.1 hi
  subst hbf
  refine WL.mv rfl rfl ?_
  refine WL.pv (PV.extract rfl rfl rfl) rfl ?_
  refine WL.pv (PV.extract rfl rfl rfl) rfl ?_
  refine WL.pv (PV.extract rfl rfl rfl) rfl ?_
  refine WL.as rfl rfl ?_
  refine WL.as rfl rfl ?_
  refine WL.as rfl rfl ?_
  refine WL.nil ?_
  refine WE.seq_reg ?_
  refine WL.mv rfl rfl ?_
  refine WL.call TrydT.fb16 rfl (HashBad_c (i := i) H.yylt  (by first | assumption | omega | (simp; omega) | simp_all)) ?_
  rintro _ w2 ⟨rfl, hO⟩
  replace H := H.out hO
  refine WL.as rfl rfl ?_
  refine WL.nil ?_
  refine WE.seq ?_
  refine WE.seq_reg ?_
  refine WL.mv rfl rfl ?_
  refine WL.pv (PV.not rfl rfl) rfl ?_
  refine WL.mv rfl rfl ?_
  refine WL.known (t := 22) (c := true) rfl rfl ?_
  refine WL.off rfl ?_
  refine WL.off rfl ?_
  refine WL.off rfl ?_
  first | refine WL.pv (PV.pick_t rfl rfl rfl) rfl ?_ | refine WL.pv (PV.pick_f rfl rfl rfl) rfl ?_ | refine WL.pv (PV.pick rfl rfl) rfl ?_
  refine WL.nil ?_
  refine WE.cond_t rfl ?_
  refine WE.seq_reg ?_
  refine WL.call TrydT.fb17 rfl (alive09_c  H.yylt (by first | exact H.rob 0 rfl | exact H.rob 1 rfl | exact H.rob 2 rfl | exact H.rob 3 rfl | exact H.rob 4 rfl | exact H.rob 5 rfl | exact H.rob 6 rfl | exact H.rob 7 rfl | exact H.rob 8 rfl | exact H.rob 9 rfl | exact H.rob 10 rfl | exact H.rob 11 rfl | exact H.rob 12 rfl | exact H.rob 13 rfl | exact H.rob 14 rfl | exact H.rob 15 rfl) ) ?_
  rintro _ w3 ⟨rfl, hO⟩
  replace H := H.out hO
  refine WL.as rfl rfl ?_
  refine WL.nil ?_
  refine WE.ret ?_
  refine ⟨[_], _, .nil _, ⟨rfl, trivial⟩, ?_⟩
  refine ⟨?_, H.toOut0⟩
  first | rfl | (show Value.bool _ = Value.bool true; first | rfl | (simp; done) | (congr 1; first | exact decide_eq_true (by omega) | (simp; omega)) | simp_all)

theorem PutAll_c {X : Nat → Prop} {w : World} {i : Int} {s s2 : Value} {l l2 : List En} (hX : ∀ b, X b → b < w.heap.size) (hf0 : Rob X (SlE s l) w) (hf1 : Rob X (Vals l) w) (hf2 : Rob X (SlE s2 l2) w) (hf3 : Rob X (Vals l2) w) (hf4 : Rob X (Rounds) w) (hi : 0 ≤ i ∧ i ≤ 256) (hkl : KL l) (hlen : l.length ≤ 9223372036854775807) (hvl : ∀ e ∈ l, e.v.length ≤ 9223372036854775807) (hkl2 : KL l2) (hlen2 : l2.length ≤ 9223372036854775807) (hvl2 : ∀ e ∈ l2, e.v.length ≤ 9223372036854775807) :
    Ret Tryd.prog 7 [.int .i64 i, s, s2].toArray w fun v w' => v = .bool true ∧ Out Nil w w' := by
  refine Ret.of_body (N := 41) Tryd.func7 rfl rfl (by simp) ?_
  have H := St.begin hX
  replace H := H.add (rob0 hf4)
  replace H := H.add (rob0 hf3)
  replace H := H.add (rob0 hf2)
  replace H := H.add (rob0 hf1)
  replace H := H.add (rob0 hf0)
  refine WE.seq_reg ?_
  refine WL.as rfl rfl ?_
  refine WL.nil ?_
  refine WE.seq_reg ?_
  refine WL.mv rfl rfl ?_
  refine WL.mv rfl rfl ?_
  refine WL.call TrydT.fb15 rfl (Tree_c (i := i) (l := l) H.yylt (by first | exact H.rob 0 rfl | exact H.rob 1 rfl | exact H.rob 2 rfl | exact H.rob 3 rfl | exact H.rob 4 rfl | exact H.rob 5 rfl | exact H.rob 6 rfl | exact H.rob 7 rfl | exact H.rob 8 rfl | exact H.rob 9 rfl | exact H.rob 10 rfl | exact H.rob 11 rfl | exact H.rob 12 rfl | exact H.rob 13 rfl | exact H.rob 14 rfl | exact H.rob 15 rfl) (by first | exact H.rob 0 rfl | exact H.rob 1 rfl | exact H.rob 2 rfl | exact H.rob 3 rfl | exact H.rob 4 rfl | exact H.rob 5 rfl | exact H.rob 6 rfl | exact H.rob 7 rfl | exact H.rob 8 rfl | exact H.rob 9 rfl | exact H.rob 10 rfl | exact H.rob 11 rfl | exact H.rob 12 rfl | exact H.rob 13 rfl | exact H.rob 14 rfl | exact H.rob 15 rfl) (by first | exact H.rob 0 rfl | exact H.rob 1 rfl | exact H.rob 2 rfl | exact H.rob 3 rfl | exact H.rob 4 rfl | exact H.rob 5 rfl | exact H.rob 6 rfl | exact H.rob 7 rfl | exact H.rob 8 rfl | exact H.rob 9 rfl | exact H.rob 10 rfl | exact H.rob 11 rfl | exact H.rob 12 rfl | exact H.rob 13 rfl | exact H.rob 14 rfl | exact H.rob 15 rfl) (by first | assumption | omega | (simp; omega) | simp_all) (by first | assumption | omega | (simp; omega) | simp_all) (by first | assumption | omega | (simp; omega) | simp_all)) ?_
  rintro _ w1 ⟨bv14, sv14, Tv14, mv14, rfl, hTv14, hbv14, hO, hS_, hR⟩
  replace H := ((H.out hO).add hR).add hS_
  refine WL.mv rfl rfl ?_
  refine WL.pv (PV.extract rfl rfl rfl) rfl ?_
  refine WL.pv (PV.extract rfl rfl rfl) rfl ?_
  refine WL.pv (PV.extract rfl rfl rfl) rfl ?_
  refine WL.as rfl rfl ?_
  refine WL.as rfl rfl ?_
  refine WL.as rfl rfl ?_
  refine WL.nil ?_
  refine WE.seq_reg ?_
  refine WL.mv rfl rfl ?_
  refine WL.call TrydT.fb16 rfl (Hash_c (i := i) H.yylt  (by first | assumption | omega | (simp; omega) | simp_all)) ?_
  rintro _ w2 ⟨bhv19, bcv19, rfl, hO, hge, hB, hR⟩
  replace H := H.pushR hO (Ent.blk bcv19 127 [.int .i64 0]) hB (fun c hc => by cases hc; exact hge) hR
  refine WL.as rfl rfl ?_
  refine WL.nil ?_
  refine WE.seq ?_
  refine WE.seq_reg ?_
  refine WL.mv rfl rfl ?_
  refine WL.pv (PV.not rfl rfl) rfl ?_
  refine WL.mv rfl rfl ?_
  refine WL.split (t := 22) rfl (fun hg22 => ?_) (fun hg22 => ?_)
  · skip
    refine WL.known (t := 21) (c := true) rfl hg22 ?_
    try simp only [decide_eq_true_eq, decide_eq_false_iff_not, ne_eq, Decidable.not_not, Bool.not_eq_true', Bool.not_eq_false', Bool.and_eq_true, Bool.or_eq_true, Bool.not_not, Bool.and_eq_false_iff, Bool.or_eq_false_iff, Int.not_lt, Int.not_le] at hg22
    refine WL.off rfl ?_
    refine WL.off rfl ?_
    refine WL.off rfl ?_
    first | refine WL.pv (PV.pick_t rfl rfl rfl) rfl ?_ | refine WL.pv (PV.pick_f rfl rfl rfl) rfl ?_ | refine WL.pv (PV.pick rfl rfl) rfl ?_
    refine WL.nil ?_
    refine WE.cond_t rfl ?_
    refine WE.seq_reg ?_
    refine WL.call TrydT.fb17 rfl (alive09_c  H.yylt (by first | exact H.rob 0 rfl | exact H.rob 1 rfl | exact H.rob 2 rfl | exact H.rob 3 rfl | exact H.rob 4 rfl | exact H.rob 5 rfl | exact H.rob 6 rfl | exact H.rob 7 rfl | exact H.rob 8 rfl | exact H.rob 9 rfl | exact H.rob 10 rfl | exact H.rob 11 rfl | exact H.rob 12 rfl | exact H.rob 13 rfl | exact H.rob 14 rfl | exact H.rob 15 rfl) ) ?_
    rintro _ w3 ⟨rfl, hO⟩
    replace H := H.out hO
    refine WL.as rfl rfl ?_
    refine WL.nil ?_
    refine WE.ret ?_
    refine ⟨[_], _, .nil _, ⟨rfl, trivial⟩, ?_⟩
    refine ⟨?_, H.toOut0⟩
    first | rfl | (show Value.bool _ = Value.bool true; first | rfl | (simp; done) | (congr 1; first | exact decide_eq_true (by omega) | (simp; omega)) | simp_all)
  · skip
    refine WL.known (t := 21) (c := false) rfl hg22 ?_
    try simp only [decide_eq_true_eq, decide_eq_false_iff_not, ne_eq, Decidable.not_not, Bool.not_eq_true', Bool.not_eq_false', Bool.and_eq_true, Bool.or_eq_true, Bool.not_not, Bool.and_eq_false_iff, Bool.or_eq_false_iff, Int.not_lt, Int.not_le] at hg22
    obtain ⟨rfl, -, hfew⟩ := hbv14 (by first | exact hg22 | simpa using hg22)
    have hok := ofM_ok l hkl
    have hpm := ofM_pm l hkl
    have hml : (ofM l).length ≤ 12 := Nat.le_trans hok.2.2.1 hfew.1
    have hvs := ofM_short hkl hfew.2
    have hsv : ShortV (ofM l) := fun e he => Nat.le_trans (hvs e he) (by decide)
    replace H := H.add (by first | exact (H.rob 0 rfl : Rob _ (Vals l) _).imp fun _ h => h.sub hok.2.2.2 | exact (H.rob 1 rfl : Rob _ (Vals l) _).imp fun _ h => h.sub hok.2.2.2 | exact (H.rob 2 rfl : Rob _ (Vals l) _).imp fun _ h => h.sub hok.2.2.2 | exact (H.rob 3 rfl : Rob _ (Vals l) _).imp fun _ h => h.sub hok.2.2.2 | exact (H.rob 4 rfl : Rob _ (Vals l) _).imp fun _ h => h.sub hok.2.2.2 | exact (H.rob 5 rfl : Rob _ (Vals l) _).imp fun _ h => h.sub hok.2.2.2 | exact (H.rob 6 rfl : Rob _ (Vals l) _).imp fun _ h => h.sub hok.2.2.2 | exact (H.rob 7 rfl : Rob _ (Vals l) _).imp fun _ h => h.sub hok.2.2.2 | exact (H.rob 8 rfl : Rob _ (Vals l) _).imp fun _ h => h.sub hok.2.2.2 | exact (H.rob 9 rfl : Rob _ (Vals l) _).imp fun _ h => h.sub hok.2.2.2)
    have hone : OneS (ofM l) := OneS.of (H.p 0 rfl)
    have hfit : Tv14.er.fit 0 := hTv14 ▸ grow_fit hpm
    refine WL.mv rfl rfl ?_
    refine WL.call TrydT.fb29 rfl (FewB_c (m := l2) H.yylt (by first | exact H.rob 0 rfl | exact H.rob 1 rfl | exact H.rob 2 rfl | exact H.rob 3 rfl | exact H.rob 4 rfl | exact H.rob 5 rfl | exact H.rob 6 rfl | exact H.rob 7 rfl | exact H.rob 8 rfl | exact H.rob 9 rfl | exact H.rob 10 rfl | exact H.rob 11 rfl | exact H.rob 12 rfl | exact H.rob 13 rfl | exact H.rob 14 rfl | exact H.rob 15 rfl) (by first | exact H.rob 0 rfl | exact H.rob 1 rfl | exact H.rob 2 rfl | exact H.rob 3 rfl | exact H.rob 4 rfl | exact H.rob 5 rfl | exact H.rob 6 rfl | exact H.rob 7 rfl | exact H.rob 8 rfl | exact H.rob 9 rfl | exact H.rob 10 rfl | exact H.rob 11 rfl | exact H.rob 12 rfl | exact H.rob 13 rfl | exact H.rob 14 rfl | exact H.rob 15 rfl) (by first | assumption | omega | (simp; omega) | simp_all) (by first | assumption | omega | (simp; omega) | simp_all) (by first | assumption | omega | (simp; omega) | simp_all)) ?_
    rintro _ w4 ⟨bv24, rfl, hFv24, hO⟩
    replace H := H.out hO
    refine WL.pv (PV.not rfl rfl) rfl ?_
    first | refine WL.pv (PV.pick_t rfl rfl rfl) rfl ?_ | refine WL.pv (PV.pick_f rfl rfl rfl) rfl ?_ | refine WL.pv (PV.pick rfl rfl) rfl ?_
    refine WL.nil ?_
    refine WE.cond rfl (fun hc26 => ?_) (fun hc26 => ?_)
    · skip
      try simp only [decide_eq_true_eq, decide_eq_false_iff_not, ne_eq, Decidable.not_not, Bool.not_eq_true', Bool.not_eq_false', Bool.and_eq_true, Bool.or_eq_true, Bool.not_not, Bool.and_eq_false_iff, Bool.or_eq_false_iff, Int.not_lt, Int.not_le] at hc26
      refine WE.seq_reg ?_
      refine WL.call TrydT.fb17 rfl (alive09_c  H.yylt (by first | exact H.rob 0 rfl | exact H.rob 1 rfl | exact H.rob 2 rfl | exact H.rob 3 rfl | exact H.rob 4 rfl | exact H.rob 5 rfl | exact H.rob 6 rfl | exact H.rob 7 rfl | exact H.rob 8 rfl | exact H.rob 9 rfl | exact H.rob 10 rfl | exact H.rob 11 rfl | exact H.rob 12 rfl | exact H.rob 13 rfl | exact H.rob 14 rfl | exact H.rob 15 rfl) ) ?_
      rintro _ w5 ⟨rfl, hO⟩
      replace H := H.out hO
      refine WL.as rfl rfl ?_
      refine WL.nil ?_
      refine WE.ret ?_
      refine ⟨[_], _, .nil _, ⟨rfl, trivial⟩, ?_⟩
      refine ⟨?_, H.toOut0⟩
      first | rfl | (show Value.bool _ = Value.bool true; first | rfl | (simp; done) | (congr 1; first | exact decide_eq_true (by omega) | (simp; omega)) | simp_all)
    · skip
      try simp only [decide_eq_true_eq, decide_eq_false_iff_not, ne_eq, Decidable.not_not, Bool.not_eq_true', Bool.not_eq_false', Bool.and_eq_true, Bool.or_eq_true, Bool.not_not, Bool.and_eq_false_iff, Bool.or_eq_false_iff, Int.not_lt, Int.not_le] at hc26
      have hfew2 := hFv24 (by first | exact hc26 | simpa using hc26)
      have hfo := foldM_ok l2 (ofM l) hkl2 hok.1 hok.2.1
      have hone2 : OneS (ofM l) := hone
      have hsv2 : ShortV l2 := fun e he => Nat.le_trans (hfew2.2 e he) (by decide)
      have hsf : ShortV (l2.foldl putM (ofM l)) := fun e he => by rcases hfo.2.2.2 e he with h | h; exact hsv e h; exact hsv2 e h
      refine WE.skip ?_
      refine WE.seq_reg ?_
      refine WL.call TrydT.fb17 rfl (alive09_c  H.yylt (by first | exact H.rob 0 rfl | exact H.rob 1 rfl | exact H.rob 2 rfl | exact H.rob 3 rfl | exact H.rob 4 rfl | exact H.rob 5 rfl | exact H.rob 6 rfl | exact H.rob 7 rfl | exact H.rob 8 rfl | exact H.rob 9 rfl | exact H.rob 10 rfl | exact H.rob 11 rfl | exact H.rob 12 rfl | exact H.rob 13 rfl | exact H.rob 14 rfl | exact H.rob 15 rfl) ) ?_
      rintro _ w6 ⟨rfl, hO⟩
      replace H := H.out hO
      refine WL.mv rfl rfl ?_
      refine WL.known (t := 29) (c := true) rfl (by first | rfl | (simp; done)) ?_
      refine WL.mv rfl rfl ?_
      refine WL.mv rfl rfl ?_
      refine WL.mv rfl rfl ?_
      refine WL.mv rfl rfl ?_
      refine WL.call TrydT.fb30 rfl (putAll_c (T := Tv14) (M := ofM l) (l := l2) (bits := i) H.yylt (H.l 0 rfl) (by first | exact H.robL 0 rfl 0 rfl | exact H.robL 0 rfl 1 rfl | exact H.robL 0 rfl 2 rfl | exact H.robL 0 rfl 3 rfl | exact H.robL 0 rfl 4 rfl | exact H.robL 0 rfl 5 rfl | exact H.robL 0 rfl 6 rfl | exact H.robL 0 rfl 7 rfl | exact H.robL 0 rfl 8 rfl | exact H.robL 0 rfl 9 rfl | exact H.robL 0 rfl 10 rfl | exact H.robL 0 rfl 11 rfl | exact H.robL 0 rfl 12 rfl | exact H.robL 0 rfl 13 rfl) (by first | exact H.robL 0 rfl 0 rfl | exact H.robL 0 rfl 1 rfl | exact H.robL 0 rfl 2 rfl | exact H.robL 0 rfl 3 rfl | exact H.robL 0 rfl 4 rfl | exact H.robL 0 rfl 5 rfl | exact H.robL 0 rfl 6 rfl | exact H.robL 0 rfl 7 rfl | exact H.robL 0 rfl 8 rfl | exact H.robL 0 rfl 9 rfl | exact H.robL 0 rfl 10 rfl | exact H.robL 0 rfl 11 rfl | exact H.robL 0 rfl 12 rfl | exact H.robL 0 rfl 13 rfl) (by first | exact (H.robL 0 rfl 0 rfl : Rob _ (SlE s2 l2) _) | exact (H.robL 0 rfl 1 rfl : Rob _ (SlE s2 l2) _) | exact (H.robL 0 rfl 2 rfl : Rob _ (SlE s2 l2) _) | exact (H.robL 0 rfl 3 rfl : Rob _ (SlE s2 l2) _) | exact (H.robL 0 rfl 4 rfl : Rob _ (SlE s2 l2) _) | exact (H.robL 0 rfl 5 rfl : Rob _ (SlE s2 l2) _) | exact (H.robL 0 rfl 6 rfl : Rob _ (SlE s2 l2) _) | exact (H.robL 0 rfl 7 rfl : Rob _ (SlE s2 l2) _) | exact (H.robL 0 rfl 8 rfl : Rob _ (SlE s2 l2) _) | exact (H.robL 0 rfl 9 rfl : Rob _ (SlE s2 l2) _) | exact (H.robL 0 rfl 10 rfl : Rob _ (SlE s2 l2) _) | exact (H.robL 0 rfl 11 rfl : Rob _ (SlE s2 l2) _) | exact (H.robL 0 rfl 12 rfl : Rob _ (SlE s2 l2) _) | exact (H.robL 0 rfl 13 rfl : Rob _ (SlE s2 l2) _)) (by first | exact (H.robL 0 rfl 0 rfl : Rob _ (Vals l2) _) | exact (H.robL 0 rfl 1 rfl : Rob _ (Vals l2) _) | exact (H.robL 0 rfl 2 rfl : Rob _ (Vals l2) _) | exact (H.robL 0 rfl 3 rfl : Rob _ (Vals l2) _) | exact (H.robL 0 rfl 4 rfl : Rob _ (Vals l2) _) | exact (H.robL 0 rfl 5 rfl : Rob _ (Vals l2) _) | exact (H.robL 0 rfl 6 rfl : Rob _ (Vals l2) _) | exact (H.robL 0 rfl 7 rfl : Rob _ (Vals l2) _) | exact (H.robL 0 rfl 8 rfl : Rob _ (Vals l2) _) | exact (H.robL 0 rfl 9 rfl : Rob _ (Vals l2) _) | exact (H.robL 0 rfl 10 rfl : Rob _ (Vals l2) _) | exact (H.robL 0 rfl 11 rfl : Rob _ (Vals l2) _) | exact (H.robL 0 rfl 12 rfl : Rob _ (Vals l2) _) | exact (H.robL 0 rfl 13 rfl : Rob _ (Vals l2) _)) (by first | exact H.robL 0 rfl 0 rfl | exact H.robL 0 rfl 1 rfl | exact H.robL 0 rfl 2 rfl | exact H.robL 0 rfl 3 rfl | exact H.robL 0 rfl 4 rfl | exact H.robL 0 rfl 5 rfl | exact H.robL 0 rfl 6 rfl | exact H.robL 0 rfl 7 rfl | exact H.robL 0 rfl 8 rfl | exact H.robL 0 rfl 9 rfl | exact H.robL 0 rfl 10 rfl | exact H.robL 0 rfl 11 rfl | exact H.robL 0 rfl 12 rfl | exact H.robL 0 rfl 13 rfl) hi hTv14 hok.2.1 hok.1 hkl2 hsv2 (by omega)) ?_
      rintro _ w7 ⟨Tv34, mv34, rfl, hTv34, hO, hB, hR⟩
      replace H := H.calledR 0 rfl hO hB hR
      refine WL.mv rfl rfl ?_
      refine WL.mv rfl rfl ?_
      refine WL.call TrydT.fb31 rfl (refAll_c (M := ofM l) (l := l2) H.yylt (by first | exact (H.rob 0 rfl : Rob _ (SlE sv14 (ofM l)) _) | exact (H.rob 1 rfl : Rob _ (SlE sv14 (ofM l)) _) | exact (H.rob 2 rfl : Rob _ (SlE sv14 (ofM l)) _) | exact (H.rob 3 rfl : Rob _ (SlE sv14 (ofM l)) _) | exact (H.rob 4 rfl : Rob _ (SlE sv14 (ofM l)) _) | exact (H.rob 5 rfl : Rob _ (SlE sv14 (ofM l)) _) | exact (H.rob 6 rfl : Rob _ (SlE sv14 (ofM l)) _) | exact (H.rob 7 rfl : Rob _ (SlE sv14 (ofM l)) _) | exact (H.rob 8 rfl : Rob _ (SlE sv14 (ofM l)) _) | exact (H.rob 9 rfl : Rob _ (SlE sv14 (ofM l)) _) | exact (H.rob 10 rfl : Rob _ (SlE sv14 (ofM l)) _) | exact (H.rob 11 rfl : Rob _ (SlE sv14 (ofM l)) _) | exact (H.rob 12 rfl : Rob _ (SlE sv14 (ofM l)) _) | exact (H.rob 13 rfl : Rob _ (SlE sv14 (ofM l)) _)) (by first | exact (H.rob 0 rfl : Rob _ (SlE s2 l2) _) | exact (H.rob 1 rfl : Rob _ (SlE s2 l2) _) | exact (H.rob 2 rfl : Rob _ (SlE s2 l2) _) | exact (H.rob 3 rfl : Rob _ (SlE s2 l2) _) | exact (H.rob 4 rfl : Rob _ (SlE s2 l2) _) | exact (H.rob 5 rfl : Rob _ (SlE s2 l2) _) | exact (H.rob 6 rfl : Rob _ (SlE s2 l2) _) | exact (H.rob 7 rfl : Rob _ (SlE s2 l2) _) | exact (H.rob 8 rfl : Rob _ (SlE s2 l2) _) | exact (H.rob 9 rfl : Rob _ (SlE s2 l2) _) | exact (H.rob 10 rfl : Rob _ (SlE s2 l2) _) | exact (H.rob 11 rfl : Rob _ (SlE s2 l2) _) | exact (H.rob 12 rfl : Rob _ (SlE s2 l2) _) | exact (H.rob 13 rfl : Rob _ (SlE s2 l2) _)) (by first | exact (H.rob 0 rfl : Rob _ (Vals l2) _) | exact (H.rob 1 rfl : Rob _ (Vals l2) _) | exact (H.rob 2 rfl : Rob _ (Vals l2) _) | exact (H.rob 3 rfl : Rob _ (Vals l2) _) | exact (H.rob 4 rfl : Rob _ (Vals l2) _) | exact (H.rob 5 rfl : Rob _ (Vals l2) _) | exact (H.rob 6 rfl : Rob _ (Vals l2) _) | exact (H.rob 7 rfl : Rob _ (Vals l2) _) | exact (H.rob 8 rfl : Rob _ (Vals l2) _) | exact (H.rob 9 rfl : Rob _ (Vals l2) _) | exact (H.rob 10 rfl : Rob _ (Vals l2) _) | exact (H.rob 11 rfl : Rob _ (Vals l2) _) | exact (H.rob 12 rfl : Rob _ (Vals l2) _) | exact (H.rob 13 rfl : Rob _ (Vals l2) _)) hok.2.1 hok.1 hone hkl2 (by omega)) ?_
      rintro v37 w8 ⟨hO, hR⟩
      replace H := (H.out hO).add hR
      refine WL.call TrydT.fb26 rfl (Is_c (T := Tv34) (M := (l2.foldl putM (ofM l))) (s := v37) (bits := i) H.yylt (H.l 0 rfl) (by first | exact H.robL 0 rfl 0 rfl | exact H.robL 0 rfl 1 rfl | exact H.robL 0 rfl 2 rfl | exact H.robL 0 rfl 3 rfl | exact H.robL 0 rfl 4 rfl | exact H.robL 0 rfl 5 rfl | exact H.robL 0 rfl 6 rfl | exact H.robL 0 rfl 7 rfl | exact H.robL 0 rfl 8 rfl | exact H.robL 0 rfl 9 rfl | exact H.robL 0 rfl 10 rfl | exact H.robL 0 rfl 11 rfl | exact H.robL 0 rfl 12 rfl | exact H.robL 0 rfl 13 rfl) (by first | exact H.robL 0 rfl 0 rfl | exact H.robL 0 rfl 1 rfl | exact H.robL 0 rfl 2 rfl | exact H.robL 0 rfl 3 rfl | exact H.robL 0 rfl 4 rfl | exact H.robL 0 rfl 5 rfl | exact H.robL 0 rfl 6 rfl | exact H.robL 0 rfl 7 rfl | exact H.robL 0 rfl 8 rfl | exact H.robL 0 rfl 9 rfl | exact H.robL 0 rfl 10 rfl | exact H.robL 0 rfl 11 rfl | exact H.robL 0 rfl 12 rfl | exact H.robL 0 rfl 13 rfl) (by first | exact (H.robL 0 rfl 0 rfl : Rob _ (SlE v37 (l2.foldl putM (ofM l))) _) | exact (H.robL 0 rfl 1 rfl : Rob _ (SlE v37 (l2.foldl putM (ofM l))) _) | exact (H.robL 0 rfl 2 rfl : Rob _ (SlE v37 (l2.foldl putM (ofM l))) _) | exact (H.robL 0 rfl 3 rfl : Rob _ (SlE v37 (l2.foldl putM (ofM l))) _) | exact (H.robL 0 rfl 4 rfl : Rob _ (SlE v37 (l2.foldl putM (ofM l))) _) | exact (H.robL 0 rfl 5 rfl : Rob _ (SlE v37 (l2.foldl putM (ofM l))) _) | exact (H.robL 0 rfl 6 rfl : Rob _ (SlE v37 (l2.foldl putM (ofM l))) _) | exact (H.robL 0 rfl 7 rfl : Rob _ (SlE v37 (l2.foldl putM (ofM l))) _) | exact (H.robL 0 rfl 8 rfl : Rob _ (SlE v37 (l2.foldl putM (ofM l))) _) | exact (H.robL 0 rfl 9 rfl : Rob _ (SlE v37 (l2.foldl putM (ofM l))) _) | exact (H.robL 0 rfl 10 rfl : Rob _ (SlE v37 (l2.foldl putM (ofM l))) _) | exact (H.robL 0 rfl 11 rfl : Rob _ (SlE v37 (l2.foldl putM (ofM l))) _) | exact (H.robL 0 rfl 12 rfl : Rob _ (SlE v37 (l2.foldl putM (ofM l))) _) | exact (H.robL 0 rfl 13 rfl : Rob _ (SlE v37 (l2.foldl putM (ofM l))) _)) (by first | exact ((H.robL 0 rfl 0 rfl : Rob _ (Vals (ofM l)) _).and (H.robL 0 rfl 1 rfl : Rob _ (Vals l2) _)).imp fun _ h e he => by rcases hfo.2.2.2 e he with h2 | h2; exact h.1 e h2; exact h.2 e h2 | exact ((H.robL 0 rfl 0 rfl : Rob _ (Vals (ofM l)) _).and (H.robL 0 rfl 2 rfl : Rob _ (Vals l2) _)).imp fun _ h e he => by rcases hfo.2.2.2 e he with h2 | h2; exact h.1 e h2; exact h.2 e h2 | exact ((H.robL 0 rfl 0 rfl : Rob _ (Vals (ofM l)) _).and (H.robL 0 rfl 3 rfl : Rob _ (Vals l2) _)).imp fun _ h e he => by rcases hfo.2.2.2 e he with h2 | h2; exact h.1 e h2; exact h.2 e h2 | exact ((H.robL 0 rfl 0 rfl : Rob _ (Vals (ofM l)) _).and (H.robL 0 rfl 4 rfl : Rob _ (Vals l2) _)).imp fun _ h e he => by rcases hfo.2.2.2 e he with h2 | h2; exact h.1 e h2; exact h.2 e h2 | exact ((H.robL 0 rfl 0 rfl : Rob _ (Vals (ofM l)) _).and (H.robL 0 rfl 5 rfl : Rob _ (Vals l2) _)).imp fun _ h e he => by rcases hfo.2.2.2 e he with h2 | h2; exact h.1 e h2; exact h.2 e h2 | exact ((H.robL 0 rfl 0 rfl : Rob _ (Vals (ofM l)) _).and (H.robL 0 rfl 6 rfl : Rob _ (Vals l2) _)).imp fun _ h e he => by rcases hfo.2.2.2 e he with h2 | h2; exact h.1 e h2; exact h.2 e h2 | exact ((H.robL 0 rfl 0 rfl : Rob _ (Vals (ofM l)) _).and (H.robL 0 rfl 7 rfl : Rob _ (Vals l2) _)).imp fun _ h e he => by rcases hfo.2.2.2 e he with h2 | h2; exact h.1 e h2; exact h.2 e h2 | exact ((H.robL 0 rfl 0 rfl : Rob _ (Vals (ofM l)) _).and (H.robL 0 rfl 8 rfl : Rob _ (Vals l2) _)).imp fun _ h e he => by rcases hfo.2.2.2 e he with h2 | h2; exact h.1 e h2; exact h.2 e h2 | exact ((H.robL 0 rfl 0 rfl : Rob _ (Vals (ofM l)) _).and (H.robL 0 rfl 9 rfl : Rob _ (Vals l2) _)).imp fun _ h e he => by rcases hfo.2.2.2 e he with h2 | h2; exact h.1 e h2; exact h.2 e h2 | exact ((H.robL 0 rfl 0 rfl : Rob _ (Vals (ofM l)) _).and (H.robL 0 rfl 10 rfl : Rob _ (Vals l2) _)).imp fun _ h e he => by rcases hfo.2.2.2 e he with h2 | h2; exact h.1 e h2; exact h.2 e h2 | exact ((H.robL 0 rfl 1 rfl : Rob _ (Vals (ofM l)) _).and (H.robL 0 rfl 2 rfl : Rob _ (Vals l2) _)).imp fun _ h e he => by rcases hfo.2.2.2 e he with h2 | h2; exact h.1 e h2; exact h.2 e h2 | exact ((H.robL 0 rfl 1 rfl : Rob _ (Vals (ofM l)) _).and (H.robL 0 rfl 3 rfl : Rob _ (Vals l2) _)).imp fun _ h e he => by rcases hfo.2.2.2 e he with h2 | h2; exact h.1 e h2; exact h.2 e h2 | exact ((H.robL 0 rfl 1 rfl : Rob _ (Vals (ofM l)) _).and (H.robL 0 rfl 4 rfl : Rob _ (Vals l2) _)).imp fun _ h e he => by rcases hfo.2.2.2 e he with h2 | h2; exact h.1 e h2; exact h.2 e h2 | exact ((H.robL 0 rfl 1 rfl : Rob _ (Vals (ofM l)) _).and (H.robL 0 rfl 5 rfl : Rob _ (Vals l2) _)).imp fun _ h e he => by rcases hfo.2.2.2 e he with h2 | h2; exact h.1 e h2; exact h.2 e h2 | exact ((H.robL 0 rfl 1 rfl : Rob _ (Vals (ofM l)) _).and (H.robL 0 rfl 6 rfl : Rob _ (Vals l2) _)).imp fun _ h e he => by rcases hfo.2.2.2 e he with h2 | h2; exact h.1 e h2; exact h.2 e h2 | exact ((H.robL 0 rfl 1 rfl : Rob _ (Vals (ofM l)) _).and (H.robL 0 rfl 7 rfl : Rob _ (Vals l2) _)).imp fun _ h e he => by rcases hfo.2.2.2 e he with h2 | h2; exact h.1 e h2; exact h.2 e h2 | exact ((H.robL 0 rfl 1 rfl : Rob _ (Vals (ofM l)) _).and (H.robL 0 rfl 8 rfl : Rob _ (Vals l2) _)).imp fun _ h e he => by rcases hfo.2.2.2 e he with h2 | h2; exact h.1 e h2; exact h.2 e h2 | exact ((H.robL 0 rfl 1 rfl : Rob _ (Vals (ofM l)) _).and (H.robL 0 rfl 9 rfl : Rob _ (Vals l2) _)).imp fun _ h e he => by rcases hfo.2.2.2 e he with h2 | h2; exact h.1 e h2; exact h.2 e h2 | exact ((H.robL 0 rfl 1 rfl : Rob _ (Vals (ofM l)) _).and (H.robL 0 rfl 10 rfl : Rob _ (Vals l2) _)).imp fun _ h e he => by rcases hfo.2.2.2 e he with h2 | h2; exact h.1 e h2; exact h.2 e h2 | exact ((H.robL 0 rfl 2 rfl : Rob _ (Vals (ofM l)) _).and (H.robL 0 rfl 3 rfl : Rob _ (Vals l2) _)).imp fun _ h e he => by rcases hfo.2.2.2 e he with h2 | h2; exact h.1 e h2; exact h.2 e h2 | exact ((H.robL 0 rfl 2 rfl : Rob _ (Vals (ofM l)) _).and (H.robL 0 rfl 4 rfl : Rob _ (Vals l2) _)).imp fun _ h e he => by rcases hfo.2.2.2 e he with h2 | h2; exact h.1 e h2; exact h.2 e h2 | exact ((H.robL 0 rfl 2 rfl : Rob _ (Vals (ofM l)) _).and (H.robL 0 rfl 5 rfl : Rob _ (Vals l2) _)).imp fun _ h e he => by rcases hfo.2.2.2 e he with h2 | h2; exact h.1 e h2; exact h.2 e h2 | exact ((H.robL 0 rfl 2 rfl : Rob _ (Vals (ofM l)) _).and (H.robL 0 rfl 6 rfl : Rob _ (Vals l2) _)).imp fun _ h e he => by rcases hfo.2.2.2 e he with h2 | h2; exact h.1 e h2; exact h.2 e h2 | exact ((H.robL 0 rfl 2 rfl : Rob _ (Vals (ofM l)) _).and (H.robL 0 rfl 7 rfl : Rob _ (Vals l2) _)).imp fun _ h e he => by rcases hfo.2.2.2 e he with h2 | h2; exact h.1 e h2; exact h.2 e h2 | exact ((H.robL 0 rfl 2 rfl : Rob _ (Vals (ofM l)) _).and (H.robL 0 rfl 8 rfl : Rob _ (Vals l2) _)).imp fun _ h e he => by rcases hfo.2.2.2 e he with h2 | h2; exact h.1 e h2; exact h.2 e h2 | exact ((H.robL 0 rfl 2 rfl : Rob _ (Vals (ofM l)) _).and (H.robL 0 rfl 9 rfl : Rob _ (Vals l2) _)).imp fun _ h e he => by rcases hfo.2.2.2 e he with h2 | h2; exact h.1 e h2; exact h.2 e h2 | exact ((H.robL 0 rfl 2 rfl : Rob _ (Vals (ofM l)) _).and (H.robL 0 rfl 10 rfl : Rob _ (Vals l2) _)).imp fun _ h e he => by rcases hfo.2.2.2 e he with h2 | h2; exact h.1 e h2; exact h.2 e h2 | exact ((H.robL 0 rfl 3 rfl : Rob _ (Vals (ofM l)) _).and (H.robL 0 rfl 4 rfl : Rob _ (Vals l2) _)).imp fun _ h e he => by rcases hfo.2.2.2 e he with h2 | h2; exact h.1 e h2; exact h.2 e h2 | exact ((H.robL 0 rfl 3 rfl : Rob _ (Vals (ofM l)) _).and (H.robL 0 rfl 5 rfl : Rob _ (Vals l2) _)).imp fun _ h e he => by rcases hfo.2.2.2 e he with h2 | h2; exact h.1 e h2; exact h.2 e h2 | exact ((H.robL 0 rfl 3 rfl : Rob _ (Vals (ofM l)) _).and (H.robL 0 rfl 6 rfl : Rob _ (Vals l2) _)).imp fun _ h e he => by rcases hfo.2.2.2 e he with h2 | h2; exact h.1 e h2; exact h.2 e h2 | exact ((H.robL 0 rfl 3 rfl : Rob _ (Vals (ofM l)) _).and (H.robL 0 rfl 7 rfl : Rob _ (Vals l2) _)).imp fun _ h e he => by rcases hfo.2.2.2 e he with h2 | h2; exact h.1 e h2; exact h.2 e h2 | exact ((H.robL 0 rfl 3 rfl : Rob _ (Vals (ofM l)) _).and (H.robL 0 rfl 8 rfl : Rob _ (Vals l2) _)).imp fun _ h e he => by rcases hfo.2.2.2 e he with h2 | h2; exact h.1 e h2; exact h.2 e h2 | exact ((H.robL 0 rfl 3 rfl : Rob _ (Vals (ofM l)) _).and (H.robL 0 rfl 9 rfl : Rob _ (Vals l2) _)).imp fun _ h e he => by rcases hfo.2.2.2 e he with h2 | h2; exact h.1 e h2; exact h.2 e h2 | exact ((H.robL 0 rfl 3 rfl : Rob _ (Vals (ofM l)) _).and (H.robL 0 rfl 10 rfl : Rob _ (Vals l2) _)).imp fun _ h e he => by rcases hfo.2.2.2 e he with h2 | h2; exact h.1 e h2; exact h.2 e h2 | exact ((H.robL 0 rfl 4 rfl : Rob _ (Vals (ofM l)) _).and (H.robL 0 rfl 5 rfl : Rob _ (Vals l2) _)).imp fun _ h e he => by rcases hfo.2.2.2 e he with h2 | h2; exact h.1 e h2; exact h.2 e h2 | exact ((H.robL 0 rfl 4 rfl : Rob _ (Vals (ofM l)) _).and (H.robL 0 rfl 6 rfl : Rob _ (Vals l2) _)).imp fun _ h e he => by rcases hfo.2.2.2 e he with h2 | h2; exact h.1 e h2; exact h.2 e h2 | exact ((H.robL 0 rfl 4 rfl : Rob _ (Vals (ofM l)) _).and (H.robL 0 rfl 7 rfl : Rob _ (Vals l2) _)).imp fun _ h e he => by rcases hfo.2.2.2 e he with h2 | h2; exact h.1 e h2; exact h.2 e h2 | exact ((H.robL 0 rfl 4 rfl : Rob _ (Vals (ofM l)) _).and (H.robL 0 rfl 8 rfl : Rob _ (Vals l2) _)).imp fun _ h e he => by rcases hfo.2.2.2 e he with h2 | h2; exact h.1 e h2; exact h.2 e h2 | exact ((H.robL 0 rfl 4 rfl : Rob _ (Vals (ofM l)) _).and (H.robL 0 rfl 9 rfl : Rob _ (Vals l2) _)).imp fun _ h e he => by rcases hfo.2.2.2 e he with h2 | h2; exact h.1 e h2; exact h.2 e h2 | exact ((H.robL 0 rfl 4 rfl : Rob _ (Vals (ofM l)) _).and (H.robL 0 rfl 10 rfl : Rob _ (Vals l2) _)).imp fun _ h e he => by rcases hfo.2.2.2 e he with h2 | h2; exact h.1 e h2; exact h.2 e h2 | exact ((H.robL 0 rfl 5 rfl : Rob _ (Vals (ofM l)) _).and (H.robL 0 rfl 6 rfl : Rob _ (Vals l2) _)).imp fun _ h e he => by rcases hfo.2.2.2 e he with h2 | h2; exact h.1 e h2; exact h.2 e h2 | exact ((H.robL 0 rfl 5 rfl : Rob _ (Vals (ofM l)) _).and (H.robL 0 rfl 7 rfl : Rob _ (Vals l2) _)).imp fun _ h e he => by rcases hfo.2.2.2 e he with h2 | h2; exact h.1 e h2; exact h.2 e h2 | exact ((H.robL 0 rfl 5 rfl : Rob _ (Vals (ofM l)) _).and (H.robL 0 rfl 8 rfl : Rob _ (Vals l2) _)).imp fun _ h e he => by rcases hfo.2.2.2 e he with h2 | h2; exact h.1 e h2; exact h.2 e h2 | exact ((H.robL 0 rfl 5 rfl : Rob _ (Vals (ofM l)) _).and (H.robL 0 rfl 9 rfl : Rob _ (Vals l2) _)).imp fun _ h e he => by rcases hfo.2.2.2 e he with h2 | h2; exact h.1 e h2; exact h.2 e h2 | exact ((H.robL 0 rfl 5 rfl : Rob _ (Vals (ofM l)) _).and (H.robL 0 rfl 10 rfl : Rob _ (Vals l2) _)).imp fun _ h e he => by rcases hfo.2.2.2 e he with h2 | h2; exact h.1 e h2; exact h.2 e h2) (by first | exact H.robL 0 rfl 0 rfl | exact H.robL 0 rfl 1 rfl | exact H.robL 0 rfl 2 rfl | exact H.robL 0 rfl 3 rfl | exact H.robL 0 rfl 4 rfl | exact H.robL 0 rfl 5 rfl | exact H.robL 0 rfl 6 rfl | exact H.robL 0 rfl 7 rfl | exact H.robL 0 rfl 8 rfl | exact H.robL 0 rfl 9 rfl | exact H.robL 0 rfl 10 rfl | exact H.robL 0 rfl 11 rfl | exact H.robL 0 rfl 12 rfl | exact H.robL 0 rfl 13 rfl) hi hTv34 hfo.2.1 hfo.1 hsf (by omega)) ?_
      rintro _ w9 ⟨mv38, rfl, hO, hB⟩
      replace H := H.called 0 rfl hO hB
      refine WL.pv (PV.gtr rfl rfl rfl) rfl ?_
      first | refine WL.pv (PV.pick_t rfl rfl rfl) rfl ?_ | refine WL.pv (PV.pick_f rfl rfl rfl) rfl ?_ | refine WL.pv (PV.pick rfl rfl) rfl ?_
      refine WL.as rfl rfl ?_
      refine WL.nil ?_
      refine WE.ret ?_
      refine ⟨[_], _, .nil _, ⟨rfl, trivial⟩, ?_⟩
      refine ⟨?_, H.toOut0⟩
      first | rfl | (show Value.bool _ = Value.bool true; first | rfl | (simp; done) | (congr 1; first | exact decide_eq_true (by omega) | (simp; omega)) | simp_all)

end Go.Sp.Tryd
