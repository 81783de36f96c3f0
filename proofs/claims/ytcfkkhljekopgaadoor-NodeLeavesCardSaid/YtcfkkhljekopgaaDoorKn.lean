/- Walks of functions, printed by a program of this session (gen.py) from notes on each function. -/
import Derived.Test.YtcfkkhljekopgaaDoorNk
import Derived.Test.YtcfkkhljekopgaaDoorMore
set_option maxRecDepth 100000
set_option maxHeartbeats 1000000
set_option linter.unusedVariables false
set_option linter.unusedSimpArgs false
namespace Go.Sp.Tryd
open Go.Proofs Go.RowKit Go.Sp
theorem NewLeafW_c {X : Nat → Prop} {w : World} {bh bc : Nat} {bits n : Int} {k lv : List UInt8} {s : Value} (hX : ∀ b, X b → b < w.heap.size) (ho0 : Blk w bc 86 ([.int .i64 n])) (hf0 : Rob (fun c_ => X c_ ∨ c_ = bc) (HAt bh bc bits) w) (hf1 : Rob (fun c_ => X c_ ∨ c_ = bc) (Rounds) w) (hbits : 0 ≤ bits ∧ bits ≤ 256) (hla : lv.length ≤ 1000000) (hk : k.length = 32) (hw : Rob (fun c => c = bc) (SlB s lv) w) :
    Ret Tryd.prog 35 [.pointer (some ⟨bh, 0, none⟩), .agg (kc k ++ [s]).toArray].toArray w fun v w' => ∃ (T : Tr) (m : Int), v = T.ptr ∧ T.er = .leaf k lv ∧ Out (· = bc) w w' ∧ Blk w' bc 86 [.int .i64 m] ∧ Rob (fun c => X c ∨ c = bc) (TrA bits T) w' := by
  refine Ret.of_body (N := 18) Tryd.func35 rfl rfl (by simp) ?_
  have H := St.begin1 (b := bc) (t := 86) (l := [.int .i64 n]) hX ho0
  replace H := H.add (rob1 hf1)
  replace H := H.add (rob1 hf0)
  have hvl := valD_length bits lv
  have hs1 : s.oneCell' = true := SlC.one1 hw.here
  refine WE.seq_reg ?_
  refine WL.box (l := kc k ++ [s]) H rfl (rfl) rfl ?_
  intro b3 w1 H
  refine WL.as rfl rfl ?_
  refine WL.nil ?_
  refine WE.seq_draw (.take 0 (.take 1 (.take 2 (.take 3 (.take 4 (.take 5 (.take 7 (.take 8 (.pick1 6 (.pick1 9 (.take 10 (.take 11 (.pick1 12 (.take 13 .done)))))))))))))) TrydT.mixed (by kernel_rfl) ?_
  replace H := H.out (Out.drew _)
  refine WP.mv rfl rfl rfl ?_
  refine WP.mv rfl rfl rfl ?_
  refine WP.take_pure rfl rfl (PV.fieldAddr rfl TrydT.fd52_0 rfl) ?_
  refine WP.readA rfl rfl rfl TrydT.ag36 rfl (by exact Blk.segAt (H.l 0 rfl) (Seg.l (Seg.all _)) (by rfl)) (by (rw [TrydT.sz36]; refine congrArg some ?_; (simp only [kc_length, kw_length, List.length_replicate, List.length_append, List.length_cons, List.length_nil, cutI_length, shaOf_length, dig_length, valD_length, rootM_length]; omega))) ?_
  refine WP.take_pure rfl rfl (PV.fieldAddr rfl TrydT.fd52_1 rfl) ?_
  refine WP.take_read rfl rfl (RV.loadOne rfl TrydT.ag33 rfl) (by exact Blk.segAt (H.l 0 rfl) (Seg.r (Seg.all _) (by with_reducible rfl)) (by (simp [kc_length, kw_length, *]; done))) ?_
  refine WP.take_pure rfl rfl (PV.fieldAddr rfl TrydT.fd52_1 rfl) ?_
  refine WP.take_read rfl rfl (RV.loadOne rfl TrydT.ag33 rfl) (by exact Blk.segAt (H.l 0 rfl) (Seg.r (Seg.all _) (by with_reducible rfl)) (by (simp [kc_length, kw_length, *]; done))) ?_
  refine WP.pick1 rfl ?_
  refine WL.call TrydT.fb25 rfl (LeafOf_c (X := Nil) (k := k) (la := lv) (nilX _) (H.o 0 rfl) (by exact (H.robOld 0 rfl 0 rfl).wk) ((H.weak H.toOut hw rfl).wk2) (by exact (H.robOld 0 rfl 1 rfl).wk) hbits hla hk) ?_
  rintro _ w2 ⟨m1, rfl, hO, hB⟩
  replace H := H.calledO 0 rfl hO hB
  refine WL.nil ⟨(List.forall_mem_cons.2 ⟨(fun _ _ => (by exact Blk.segAt (H.l 0 rfl) (Seg.r (Seg.all _) (by with_reducible rfl)) (by (simp [kc_length, kw_length, *]; done)))), (List.forall_mem_cons.2 ⟨(by exact (fun h => absurd (show waits _ 6 5 = false from h) (by decide +kernel))), (List.forall_mem_cons.2 ⟨(by exact (fun h => absurd (show waits _ 6 3 = false from h) (by decide +kernel))), (fun _ h => by cases h)⟩)⟩)⟩), ?_⟩
  refine WP.pick1 rfl ?_
  refine WL.call TrydT.fb75 rfl (CloneO_c (X := Nil) (la := lv) (nilX _) ((H.weak H.toOut hw rfl).wk0) (by omega)) ?_
  rintro s2 w3 ⟨hO, hOwn⟩
  have hr_ := (rob_own H.yylt hOwn).imp fun _ h => SlB.of_own h
  replace H := (H.out hO).add hr_
  refine WL.nil ⟨(List.forall_mem_cons.2 ⟨(by exact (fun h => absurd (show waits _ 9 8 = false from h) (by decide +kernel))), (List.forall_mem_cons.2 ⟨(by exact (fun h => absurd (show waits _ 9 5 = false from h) (by decide +kernel))), (List.forall_mem_cons.2 ⟨(by exact (fun h => absurd (show waits _ 9 3 = false from h) (by decide +kernel))), (fun _ h => by cases h)⟩)⟩)⟩), ?_⟩
  refine WP.take_pure rfl rfl (PV.buildS rfl TrydT.pl111 TrydT.ze111 (Fl.cons rfl (by rfl) (by (simp only [kc_length, kw_length, List.length_replicate, List.length_append, List.length_cons, List.length_nil, cutI_length, shaOf_length, dig_length, valD_length, rootM_length]; omega)) (Laid.left (Laid.all (by (simp only [kc_length, kw_length, List.length_replicate, List.length_append, List.length_cons, List.length_nil, cutI_length, shaOf_length, dig_length, valD_length, rootM_length]; omega)))) (Fl.cons rfl (SlC.cells (H.p 0 rfl)) (by (simp only [kc_length, kw_length, List.length_replicate, List.length_append, List.length_cons, List.length_nil, cutI_length, shaOf_length, dig_length, valD_length, rootM_length]; done)) (Laid.right (Laid.all (by (simp only [kc_length, kw_length, List.length_replicate, List.length_append, List.length_cons, List.length_nil, cutI_length, shaOf_length, dig_length, valD_length, rootM_length]; done))) (by (simp only [kc_length, kw_length, List.length_replicate, List.length_append, List.length_cons, List.length_nil, cutI_length, shaOf_length, dig_length, valD_length, rootM_length]; omega))) Fl.nil))) ?_
  refine WP.take_pure rfl rfl (PV.mkIface rfl TrydT.cn111) ?_
  refine WP.pick1 rfl ?_
  refine WL.call TrydT.fb74 rfl (withLeaf_c (k := k) (d := valD bits lv) (s := s2) H.yylt (H.o 0 rfl) (by exact H.robOld 0 rfl 1 rfl) (by exact H.robOld 0 rfl 2 rfl) hbits hk hvl) ?_
  rintro _ w4 ⟨a2, m2, rfl, hO, hB, hR⟩
  replace H := H.calledOR 0 rfl hO hB hR
  refine WL.nil ⟨(List.forall_mem_cons.2 ⟨(by exact (fun h => absurd (show waits _ 12 8 = false from h) (by decide +kernel))), (List.forall_mem_cons.2 ⟨(by exact (fun h => absurd (show waits _ 12 5 = false from h) (by decide +kernel))), (List.forall_mem_cons.2 ⟨(by exact (fun h => absurd (show waits _ 12 3 = false from h) (by decide +kernel))), (fun _ h => by cases h)⟩)⟩)⟩), ?_⟩
  refine WP.as rfl rfl rfl ?_
  refine WP.done ?_
  refine WE.ret ?_
  refine ⟨[_], _, .nil _, ⟨rfl, trivial⟩, ?_⟩
  exact ⟨.leaf a2 k lv s2, m2, rfl, rfl, H.toOut1, H.o 0 rfl, (H.giveO ((H.rob 0 rfl).and (H.rob 1 rfl))).imp fun _ h => ⟨hk, h.2, hla, h.1⟩⟩

theorem NodeLeavesBad_c {X : Nat → Prop} {w : World} {i : Int} {vs : Value} {k lv : List UInt8} (hX : ∀ b, X b → b < w.heap.size) (hf0 : Rob X (SlB vs lv) w) (hf1 : Rob X (Rounds) w) (hi : ¬ (0 ≤ i ∧ i ≤ 256)) (hk : k.length = 32) (hlv : lv.length ≤ 9223372036854775807) :
    Ret Tryd.prog 8 [.int .i64 i, .agg (kc k ++ [vs]).toArray].toArray w fun v w' => v = .bool true ∧ Out Nil w w' := by
  refine Ret.of_body (N := 114) Tryd.func8 rfl rfl (by simp) ?_
  have H := St.begin hX
  replace H := H.add (rob0 hf1)
  replace H := H.add (rob0 hf0)
  have hvs1 := SlC.one1 (hf0.here)
  refine WE.seq_reg ?_
  refine WL.box (l := kc k ++ [vs]) H rfl (by rfl) rfl ?_
  intro b3 w1 H
  refine WL.as rfl rfl ?_
  refine WL.nil ?_
  refine WE.seq_reg ?_
  refine WL.mv rfl rfl ?_
  refine WL.call TrydT.fb27 rfl (HashBad_c (i := i) H.yylt  (by assumption)) ?_
  rintro _ w2 ⟨rfl, hO⟩
  replace H := H.out hO
  refine WL.as rfl rfl ?_
  refine WL.nil ?_
  refine WE.seq ?_
  refine WE.seq_reg ?_
  refine WL.mv rfl rfl ?_
  refine WL.call TrydT.fb17 rfl (Right_c  H.yylt  ) ?_
  rintro _ w3 ⟨rfl, hO⟩
  replace H := H.out hO
  refine WL.pv (PV.not rfl rfl) rfl ?_
  refine WL.mv rfl rfl ?_
  refine WL.known (t := 17) (c := true) rfl (by simp [hi]) ?_
  refine WL.off rfl ?_
  refine WL.off rfl ?_
  refine WL.off rfl ?_
  refine WL.off rfl ?_
  refine WL.pv (PV.pick_t rfl rfl rfl) rfl ?_
  refine WL.nil ?_
  refine WE.cond_t rfl ?_
  refine WE.seq_reg ?_
  refine WL.call TrydT.fb29 rfl (alive07_c  H.yylt (by exact H.rob 1 rfl) ) ?_
  rintro _ w4 ⟨rfl, hO⟩
  replace H := H.out hO
  refine WL.as rfl rfl ?_
  refine WL.nil ?_
  refine WE.ret ?_
  refine ⟨[_], _, .nil _, ⟨rfl, trivial⟩, ?_⟩
  refine ⟨?_, H.toOut0⟩
  rfl

theorem NodeLeaves_c {X : Nat → Prop} {w : World} {i : Int} {vs : Value} {k lv : List UInt8} (hX : ∀ b, X b → b < w.heap.size) (hf0 : Rob X (SlB vs lv) w) (hf1 : Rob X (Rounds) w) (hi : 0 ≤ i ∧ i ≤ 256) (hk : k.length = 32) (hlv : lv.length ≤ 9223372036854775807) :
    Ret Tryd.prog 8 [.int .i64 i, .agg (kc k ++ [vs]).toArray].toArray w fun v w' => v = .bool true ∧ Out Nil w w' := by
  refine Ret.of_body (N := 114) Tryd.func8 rfl rfl (by simp) ?_
  have H := St.begin hX
  replace H := H.add (rob0 hf1)
  replace H := H.add (rob0 hf0)
  have hvs1 := SlC.one1 (hf0.here)
  refine WE.seq_reg ?_
  refine WL.box (l := kc k ++ [vs]) H rfl (by rfl) rfl ?_
  intro b3 w1 H
  refine WL.as rfl rfl ?_
  refine WL.nil ?_
  refine WE.seq_reg ?_
  refine WL.mv rfl rfl ?_
  refine WL.call TrydT.fb27 rfl (Hash_c (i := i) H.yylt  (by assumption)) ?_
  rintro _ w2 ⟨bhv13, bcv13, rfl, hO, hge, hB, hR⟩
  replace H := H.pushR hO (Ent.blk bcv13 86 [.int .i64 0]) hB (fun c hc => by cases hc; exact hge) hR
  refine WL.as rfl rfl ?_
  refine WL.nil ?_
  refine WE.seq ?_
  refine WE.seq_reg ?_
  refine WL.mv rfl rfl ?_
  refine WL.call TrydT.fb17 rfl (Right_c  H.yylt  ) ?_
  rintro _ w3 ⟨rfl, hO⟩
  replace H := H.out hO
  refine WL.pv (PV.not rfl rfl) rfl ?_
  refine WL.mv rfl rfl ?_
  refine WL.known (t := 17) (c := false) rfl (by (simp [hi]; done)) ?_
  refine WL.pv (PV.fieldAddr rfl TrydT.fd52_1 rfl) rfl ?_
  refine WL.load1 rfl TrydT.ag33 rfl rfl (by exact Blk.segAt (H.l 1 rfl) (Seg.r (Seg.all _) (by with_reducible rfl)) (by (simp [kc_length, kw_length, *]; done))) ?_
  refine WL.pv (PV.lenS (by exact H.p 1 rfl : SlB vs lv _) TrydT.sl33 rfl) rfl ?_
  refine WL.pv (PV.gtr rfl rfl rfl) rfl ?_
  refine WL.pv (PV.pick_f rfl rfl rfl) rfl ?_
  refine WL.nil ?_
  refine WE.cond rfl (fun hc22 => ?_) (fun hc22 => ?_)
  · skip
    try simp only [decide_eq_true_eq, decide_eq_false_iff_not, ne_eq, Decidable.not_not, Bool.not_eq_true', Bool.not_eq_false', Bool.and_eq_true, Bool.or_eq_true, Bool.not_not, Bool.and_eq_false_iff, Bool.or_eq_false_iff, Int.not_lt, Int.not_le] at hc22
    refine WE.seq_reg ?_
    refine WL.call TrydT.fb29 rfl (alive07_c  H.yylt (by exact H.rob 2 rfl) ) ?_
    rintro _ w4 ⟨rfl, hO⟩
    replace H := H.out hO
    refine WL.as rfl rfl ?_
    refine WL.nil ?_
    refine WE.ret ?_
    refine ⟨[_], _, .nil _, ⟨rfl, trivial⟩, ?_⟩
    refine ⟨?_, H.toOut0⟩
    rfl
  · skip
    try simp only [decide_eq_true_eq, decide_eq_false_iff_not, ne_eq, Decidable.not_not, Bool.not_eq_true', Bool.not_eq_false', Bool.and_eq_true, Bool.or_eq_true, Bool.not_not, Bool.and_eq_false_iff, Bool.or_eq_false_iff, Int.not_lt, Int.not_le] at hc22
    have hlv2 : lv.length ≤ 1000 := by omega
    refine WE.skip ?_
    refine WE.seq ?_
    refine WE.seq_reg ?_
    refine WL.mv rfl rfl ?_
    refine WL.pv (PV.eqlPn rfl TrydT.pt24 rfl rfl) rfl ?_
    refine WL.nil ?_
    refine WE.cond_f' rfl rfl ?_
    refine WE.skip ?_
    refine WE.seq_reg ?_
    refine WL.buildSliceF (l0 := []) H rfl TrydT.st33 (by decide) (zrow_one _ _) Fl.nil rfl ?_
    intro b26 w5 H
    replace H := H.toOsl (n := 0) (sz := 1) (i := 0) rfl rfl (by decide)
    refine WL.pv (PV.fieldAddr rfl TrydT.fd52_1 rfl) rfl ?_
    refine WL.load1 rfl TrydT.ag33 rfl rfl (by exact Blk.segAt (H.l 2 rfl) (Seg.r (Seg.all _) (by with_reducible rfl)) (by (simp [kc_length, kw_length, *]; done))) ?_
    refine WL.append H 0 TrydT.st33 (by decide) rfl rfl rfl (by exact H.p 1 rfl : SlB vs lv _) (by exact kc_one _) (by omega) (by decide) rfl ?_
    intro v29 w6 H
    replace H := H.conv (L' := [Ent.osl w.heap.size v29 5 1 lv.length (kc lv), Ent.blk bcv13 86 [.int .i64 0], Ent.blk b3 52 (kc k ++ [vs])]) (by rw [Nat.zero_add]; rfl)
    have hw29 := own_one (H.l 0 rfl)
    refine WL.as rfl rfl ?_
    refine WL.nil ?_
    refine WE.seq_reg ?_
    refine WL.mv rfl rfl ?_
    refine WL.pv (PV.fieldAddr rfl TrydT.fd52_0 rfl) rfl ?_
    refine WL.loadR rfl TrydT.ag36 rfl rfl (by exact Blk.segAt (H.l 2 rfl) (Seg.l (Seg.all _)) (by rfl)) (by (rw [TrydT.sz36]; refine congrArg some ?_; (simp only [kc_length, kw_length, List.length_replicate, List.length_append, List.length_cons, List.length_nil, cutI_length, shaOf_length, dig_length, valD_length, rootM_length]; omega))) ?_
    refine WL.mv rfl rfl ?_
    refine WL.pv (PV.buildS rfl TrydT.pl52 TrydT.ze52 (Fl.cons rfl (by rfl) (by (simp only [kc_length, kw_length, List.length_replicate, List.length_append, List.length_cons, List.length_nil, cutI_length, shaOf_length, dig_length, valD_length, rootM_length]; omega)) (Laid.left (Laid.all (by (simp only [kc_length, kw_length, List.length_replicate, List.length_append, List.length_cons, List.length_nil, cutI_length, shaOf_length, dig_length, valD_length, rootM_length]; omega)))) (Fl.cons rfl (cells_one hw29) (by (simp only [kc_length, kw_length, List.length_replicate, List.length_append, List.length_cons, List.length_nil, cutI_length, shaOf_length, dig_length, valD_length, rootM_length]; done)) (Laid.right (Laid.all (by (simp only [kc_length, kw_length, List.length_replicate, List.length_append, List.length_cons, List.length_nil, cutI_length, shaOf_length, dig_length, valD_length, rootM_length]; done))) (by (simp only [kc_length, kw_length, List.length_replicate, List.length_append, List.length_cons, List.length_nil, cutI_length, shaOf_length, dig_length, valD_length, rootM_length]; omega))) Fl.nil))) rfl ?_
    refine WL.call TrydT.fb35 rfl (NewLeafW_c (k := k) (lv := lv) (s := v29) (bits := i) H.yylt (H.l 1 rfl) (by exact H.robL 1 rfl 0 rfl) (by exact H.robL 1 rfl 2 rfl) hi (by omega) hk ((H.robLL 1 0 rfl rfl (by decide)).imp fun _ h => SlB.of_own h)) ?_
    rintro _ w7 ⟨Tv35, mv35, rfl, hTv35, hO, hB, hR⟩
    replace H := H.calledR 1 rfl hO hB hR
    obtain ⟨a35, s35, rfl⟩ := Tr.leaf_of hTv35
    refine WL.as rfl rfl ?_
    refine WL.nil ?_
    refine WE.seq ?_
    refine WE.seq_reg ?_
    refine WL.mv rfl rfl ?_
    refine WL.pv (PV.eqlPn rfl TrydT.pt47 rfl rfl) rfl ?_
    refine WL.nil ?_
    refine WE.cond_f' rfl rfl ?_
    refine WE.skip ?_
    refine WE.seq ?_
    refine WE.seq_reg ?_
    refine WL.mv rfl rfl ?_
    refine WL.pv (PV.lenS (SlC.of_own (H.l 0 rfl)) TrydT.sl33 rfl) rfl ?_
    refine WL.mv rfl rfl ?_
    refine WL.nil ?_
    refine WE.block ?_
    refine WE.loop (α := Nat × List UInt8) [8, 40, 41, 42, 43, 44, 45, 46, 47, 48, 49] (fun p => [(40, .int .i64 p.1)]) (fun p wl => p.1 ≤ lv.length ∧ p.2.length = lv.length ∧ St X w wl [] [Ent.osl w.heap.size v29 5 1 lv.length (kc p.2), Ent.blk bcv13 86 [.int .i64 mv35], Ent.blk b3 52 (kc k ++ [vs])] [TrA i (.leaf a35 k lv s35), HAt bhv13 bcv13 i, SlB vs lv, Rounds]) (fun p => lv.length - p.1) (0, lv) ⟨rfl, trivial⟩ ⟨Nat.zero_le _, rfl, H⟩ ?_
    intro ⟨n, lb⟩ γ0 w8 hI
    try dsimp only at hI
    obtain ⟨hn, hlb, H⟩ := hI
    refine WE.seq_reg ?_
    refine WL.pv (PV.lss rfl rfl rfl) rfl ?_
    refine WL.nil ?_
    refine WE.seq ?_
    refine WE.cond rfl (fun hc41 => ?_) (fun hc41 => ?_)
    · skip
      try simp only [decide_eq_true_eq, decide_eq_false_iff_not, ne_eq, Decidable.not_not, Bool.not_eq_true', Bool.not_eq_false', Bool.and_eq_true, Bool.or_eq_true, Bool.not_not, Bool.and_eq_false_iff, Bool.or_eq_false_iff, Int.not_lt, Int.not_le] at hc41
      have hlt : n < lv.length := by omega
      refine WE.skip ?_
      refine WE.seq ?_
      refine WE.block ?_
      refine WE.seq_reg ?_
      refine WL.mv rfl rfl ?_
      refine WL.as rfl rfl ?_
      refine WL.nil ?_
      refine WE.reg ?_
      refine WL.mv rfl rfl ?_
      refine WL.mv rfl rfl ?_
      refine WL.pv (PV.idxS rfl (SlC.of_own (H.l 0 rfl)) TrydT.sl33 TrydT.sz5 rfl rfl (by omega) (by omega)) rfl ?_
      refine WL.load1 rfl TrydT.ag5 rfl rfl ((show SlB _ lb _ from by have h_ := SlC.of_own (H.l 0 rfl); rw [← hlb] at h_; exact h_).rd n (by omega)) ?_
      refine WL.pv (PV.add8 (a := lb[n]'(by omega)) (b := 1) rfl rfl rfl) rfl ?_
      refine WL.pv (PV.idxS rfl (SlC.of_own (H.l 0 rfl)) TrydT.sl33 TrydT.sz5 rfl rfl (by omega) (by omega)) rfl ?_
      refine WL.storeS (p := n * 1) H 0 rfl rfl rfl (new := _) rfl (by exact TrydT.sz5) (one_lit _ rfl) (Nat.succ_pos _) (Laid.at (Laid.byte (l := lb) (i := n) (x := lb[n]'(by omega) + 1) (by omega)) (by omega)) rfl ?_
      intro w9 H
      refine WL.nil ?_
      refine WE.reg ?_
      refine WL.pv (PV.add64 rfl rfl rfl (by omega) (by omega)) rfl ?_
      refine WL.mv rfl rfl ?_
      refine WL.nil ?_
      exact ⟨(n + 1, lb.set n (lb[n]'(by omega) + 1)), (by repeat (first | with_reducible exact Off.refl _ _ | refine Off.upd rfl ?_ | refine Off.setAll rfl ?_ | refine Off.forget' rfl ?_)), ⟨rfl, trivial⟩, rfl, ⟨by dsimp only; omega, by dsimp only; rw [List.length_set]; exact hlb, H⟩, (by dsimp only; omega)⟩
    · skip
      try simp only [decide_eq_true_eq, decide_eq_false_iff_not, ne_eq, Decidable.not_not, Bool.not_eq_true', Bool.not_eq_false', Bool.and_eq_true, Bool.or_eq_true, Bool.not_not, Bool.and_eq_false_iff, Bool.or_eq_false_iff, Int.not_lt, Int.not_le] at hc41
      refine WE.exit ?_
      refine WE.seq_reg ?_
      refine WL.mv rfl rfl ?_
      refine WL.call TrydT.fb37 rfl (Entry_c (T := (.leaf a35 k lv s35)) (bits := i) H.yylt (H.rob 0 rfl)) ?_
      rintro _ w10 ⟨sv51, rfl, hO, hOwnv51⟩
      have hs1v51 := own_one hOwnv51
      replace H := H.push hO (Ent.osl w.heap.size sv51 5 1 _ _) (ownsRow_base hOwnv51 H.size) (fun b hb => (hOwnv51.lt b hb).1)
      refine WL.alloc H rfl TrydT.ze52 rfl ?_
      intro b9 w11 H
      refine WL.storeL H 0 rfl rfl rfl (new := kc k ++ [sv51]) rfl (by (rw [TrydT.sz52]; refine congrArg some ?_; (simp only [kc_length, kw_length, List.length_replicate, List.length_append, List.length_cons, List.length_nil, cutI_length, shaOf_length, dig_length, valD_length, rootM_length]; omega))) (one_append (kc_one _) (one_sing hs1v51)) (Laid.at (Laid.all (by (simp only [kc_length, kw_length, List.length_replicate, List.length_append, List.length_cons, List.length_nil, cutI_length, shaOf_length, dig_length, valD_length, rootM_length]; omega))) (by rfl)) rfl ?_
      intro w12 H
      refine WL.nil ?_
      refine WE.seq ?_
      refine WE.seq_reg ?_
      refine WL.pv (PV.fieldAddr rfl TrydT.fd52_1 rfl) rfl ?_
      refine WL.load1 rfl TrydT.ag33 rfl rfl (by exact Blk.segAt (H.l 0 rfl) (Seg.r (Seg.all _) (by with_reducible rfl)) (by (simp [kc_length, kw_length, *]; done))) ?_
      refine WL.pv (PV.lenS (SlC.of_own (H.l 1 rfl)) TrydT.sl33 rfl) rfl ?_
      refine WL.mv rfl rfl ?_
      refine WL.nil ?_
      refine WE.block ?_
      obtain ⟨lb0, hlb0⟩ : ∃ q, q = lb := ⟨_, rfl⟩
      rw [← hlb0] at H
      refine WE.loop (α := Nat × List UInt8) [10, 55, 56, 57, 58, 59, 60, 61, 62, 63, 64, 65] (fun p => [(55, .int .i64 p.1)]) (fun p wl => p.1 ≤ lv.length ∧ p.2.length = lv.length ∧ St X w wl [] [Ent.blk b9 52 (kc k ++ [sv51]), Ent.osl w.heap.size sv51 5 1 lv.length (kc p.2), Ent.osl w.heap.size v29 5 1 lv.length (kc lb0), Ent.blk bcv13 86 [.int .i64 mv35], Ent.blk b3 52 (kc k ++ [vs])] [TrA i (.leaf a35 k lv s35), HAt bhv13 bcv13 i, SlB vs lv, Rounds]) (fun p => lv.length - p.1) (0, lv) ⟨rfl, trivial⟩ ⟨Nat.zero_le _, rfl, H⟩ ?_
      intro ⟨n, lb⟩ γ1 w13 hI
      try dsimp only at hI
      clear hlb hn
      obtain ⟨hn, hlb, H⟩ := hI
      refine WE.seq_reg ?_
      refine WL.pv (PV.lss rfl rfl rfl) rfl ?_
      refine WL.nil ?_
      refine WE.seq ?_
      refine WE.cond rfl (fun hc56 => ?_) (fun hc56 => ?_)
      · skip
        try simp only [decide_eq_true_eq, decide_eq_false_iff_not, ne_eq, Decidable.not_not, Bool.not_eq_true', Bool.not_eq_false', Bool.and_eq_true, Bool.or_eq_true, Bool.not_not, Bool.and_eq_false_iff, Bool.or_eq_false_iff, Int.not_lt, Int.not_le] at hc56
        have hlt : n < lv.length := by have h_ : (n : Int) < (lv.length : Int) := hc56; omega
        refine WE.skip ?_
        refine WE.seq ?_
        refine WE.block ?_
        refine WE.seq_reg ?_
        refine WL.mv rfl rfl ?_
        refine WL.as rfl rfl ?_
        refine WL.nil ?_
        refine WE.reg ?_
        refine WL.pv (PV.fieldAddr rfl TrydT.fd52_1 rfl) rfl ?_
        refine WL.load1 rfl TrydT.ag33 rfl rfl (by exact Blk.segAt (H.l 0 rfl) (Seg.r (Seg.all _) (by with_reducible rfl)) (by (simp [kc_length, kw_length, *]; done))) ?_
        refine WL.mv rfl rfl ?_
        refine WL.pv (PV.idxS rfl (SlC.of_own (H.l 1 rfl)) TrydT.sl33 TrydT.sz5 rfl rfl (by omega) (by omega)) rfl ?_
        refine WL.load1 rfl TrydT.ag5 rfl rfl ((show SlB _ lb _ from by have h_ := SlC.of_own (H.l 1 rfl); rw [← hlb] at h_; exact h_).rd n (by omega)) ?_
        refine WL.pv (PV.add8 (a := lb[n]'(by omega)) (b := 1) rfl rfl rfl) rfl ?_
        refine WL.pv (PV.idxS rfl (SlC.of_own (H.l 1 rfl)) TrydT.sl33 TrydT.sz5 rfl rfl (by omega) (by omega)) rfl ?_
        refine WL.storeS (p := n * 1) H 1 rfl rfl rfl (new := _) rfl (by exact TrydT.sz5) (one_lit _ rfl) (Nat.succ_pos _) (Laid.at (Laid.byte (l := lb) (i := n) (x := lb[n]'(by omega) + 1) (by omega)) (by omega)) rfl ?_
        intro w14 H
        refine WL.nil ?_
        refine WE.reg ?_
        refine WL.pv (PV.add64 rfl rfl rfl (by omega) (by omega)) rfl ?_
        refine WL.mv rfl rfl ?_
        refine WL.nil ?_
        exact ⟨(n + 1, lb.set n (lb[n]'(by omega) + 1)), (by repeat (first | with_reducible exact Off.refl _ _ | refine Off.upd rfl ?_ | refine Off.setAll rfl ?_ | refine Off.forget' rfl ?_)), ⟨rfl, trivial⟩, rfl, ⟨by dsimp only; omega, by dsimp only; rw [List.length_set]; exact hlb, H⟩, (by dsimp only; omega)⟩
      · skip
        try simp only [decide_eq_true_eq, decide_eq_false_iff_not, ne_eq, Decidable.not_not, Bool.not_eq_true', Bool.not_eq_false', Bool.and_eq_true, Bool.or_eq_true, Bool.not_not, Bool.and_eq_false_iff, Bool.or_eq_false_iff, Int.not_lt, Int.not_le] at hc56
        refine WE.exit ?_
        refine WE.seq_reg ?_
        refine WL.mv rfl rfl ?_
        refine WL.call TrydT.fb37 rfl (Entry_c (T := (.leaf a35 k lv s35)) (bits := i) H.yylt (H.rob 0 rfl)) ?_
        rintro _ w15 ⟨sv67, rfl, hO, hOwnv67⟩
        have hs1v67 := own_one hOwnv67
        have hr67 := (rob_own H.yylt hOwnv67).imp fun _ h => SlB.of_own h
        replace H := (H.out hO).add hr67
        refine WL.alloc H rfl TrydT.ze52 rfl ?_
        intro b11 w16 H
        refine WL.storeL H 0 rfl rfl rfl (new := kc k ++ [sv67]) rfl (by (rw [TrydT.sz52]; refine congrArg some ?_; (simp only [kc_length, kw_length, List.length_replicate, List.length_append, List.length_cons, List.length_nil, cutI_length, shaOf_length, dig_length, valD_length, rootM_length]; omega))) (one_append (kc_one _) (one_sing hs1v67)) (Laid.at (Laid.all (by (simp only [kc_length, kw_length, List.length_replicate, List.length_append, List.length_cons, List.length_nil, cutI_length, shaOf_length, dig_length, valD_length, rootM_length]; omega))) (by rfl)) rfl ?_
        intro w17 H
        refine WL.nil ?_
        refine WE.seq_draw (.pick1 0 (.take 1 (.take 2 (.take 3 (.take 4 (.take 5 (.take 6 (.take 7 (.take 8 (.take 9 (.take 10 (.take 11 (.take 12 (.pick1 13 (.take 14 (.take 15 (.take 16 (.take 18 (.take 19 (.take 20 (.take 21 (.take 22 (.pick1 17 (.pick1 23 (.take 24 (.take 25 (.take 26 (.take 27 (.pick1 28 (.take 29 (.take 30 (.take 31 (.take 32 (.pick1 33 (.take 34 (.take 35 (.take 36 (.take 37 (.pick1 38 (.take 39 (.take 40 (.take 41 (.take 42 (.pick1 43 (.take 44 (.take 45 (.take 46 .done))))))))))))))))))))))))))))))))))))))))))))))) TrydT.mixed (by kernel_rfl) ?_
        replace H := H.out (Out.drew _)
        refine WP.pick1 rfl ?_
        refine WL.call TrydT.fb29 rfl (alive07_c  H.yylt (by exact H.rob 4 rfl) ) ?_
        rintro _ w18 ⟨rfl, hO⟩
        replace H := H.out hO
        refine WL.nil ⟨(fun _ h => by cases h), ?_⟩
        refine WP.mv rfl rfl rfl ?_
        refine WP.known (t := 69) (c := true) rfl (by rfl) ?_
        refine WP.take_pure rfl rfl (PV.fieldAddr rfl TrydT.fd52_0 rfl) ?_
        refine WP.readA rfl rfl rfl TrydT.ag36 rfl (by exact Blk.segAt (H.l 0 rfl) (Seg.l (Seg.all _)) (by rfl)) (by (rw [TrydT.sz36]; refine congrArg some ?_; (simp only [kc_length, kw_length, List.length_replicate, List.length_append, List.length_cons, List.length_nil, cutI_length, shaOf_length, dig_length, valD_length, rootM_length]; omega))) ?_
        refine WP.take_pure rfl rfl (PV.fieldAddr rfl TrydT.fd52_0 rfl) ?_
        refine WP.readA rfl rfl rfl TrydT.ag36 rfl (by exact Blk.segAt (H.l 5 rfl) (Seg.l (Seg.all _)) (by rfl)) (by (rw [TrydT.sz36]; refine congrArg some ?_; (simp only [kc_length, kw_length, List.length_replicate, List.length_append, List.length_cons, List.length_nil, cutI_length, shaOf_length, dig_length, valD_length, rootM_length]; omega))) ?_
        refine WP.take_pure rfl rfl (PV.eqlB rfl TrydT.ar36 TrydT.in5 TrydT.sz5 (by kernel_rfl) rfl rfl (by assumption) (by assumption)) ?_
        refine WP.take_pure rfl rfl (PV.pick_t rfl rfl rfl) ?_
        refine WP.mv rfl rfl rfl ?_
        refine WP.known (t := 76) (c := true) rfl (by (simp; done)) ?_
        refine WP.take_pure rfl rfl (PV.fieldAddr rfl TrydT.fd52_1 rfl) ?_
        refine WP.take_read rfl rfl (RV.loadOne rfl TrydT.ag33 rfl) (by exact Blk.segAt (H.l 0 rfl) (Seg.r (Seg.all _) (by with_reducible rfl)) (by (simp [kc_length, kw_length, *]; done))) ?_
        refine WP.take_pure rfl rfl (PV.fieldAddr rfl TrydT.fd52_1 rfl) ?_
        refine WP.take_read rfl rfl (RV.loadOne rfl TrydT.ag33 rfl) (by exact Blk.segAt (H.l 5 rfl) (Seg.r (Seg.all _) (by with_reducible rfl)) (by (simp [kc_length, kw_length, *]; done))) ?_
        refine WP.pick1 rfl ?_
        refine WL.call TrydT.fb38 rfl (Same_c (la := lv) (lb := lv) H.yylt (H.rob 0 rfl : Rob _ (SlB sv67 lv) _) (by exact (H.rob 3 rfl : Rob _ (SlB vs lv) _)) (by omega)) ?_
        rintro _ w19 ⟨rfl, hO⟩
        replace H := H.out hO
        refine WL.nil ⟨(List.forall_mem_cons.2 ⟨(by exact (fun h => absurd (show waits _ 13 12 = false from h) (by decide +kernel))), (List.forall_mem_cons.2 ⟨(by exact (fun h => absurd (show waits _ 13 10 = false from h) (by decide +kernel))), (List.forall_mem_cons.2 ⟨(by exact (fun h => absurd (show waits _ 13 5 = false from h) (by decide +kernel))), (List.forall_mem_cons.2 ⟨(by exact (fun h => absurd (show waits _ 13 3 = false from h) (by decide +kernel))), (fun _ h => by cases h)⟩)⟩)⟩)⟩), ?_⟩
        refine WP.take_pure rfl rfl (PV.pick_t rfl rfl rfl) ?_
        refine WP.mv rfl rfl rfl ?_
        refine WP.known (t := 83) (c := true) rfl (by (simp; done)) ?_
        refine WP.mv rfl rfl rfl ?_
        refine WP.mv rfl rfl rfl ?_
        refine WP.take_pure rfl rfl (PV.fieldAddr rfl TrydT.fd52_0 rfl) ?_
        refine WP.readA rfl rfl rfl TrydT.ag36 rfl (by exact Blk.segAt (H.l 5 rfl) (Seg.l (Seg.all _)) (by rfl)) (by (rw [TrydT.sz36]; refine congrArg some ?_; (simp only [kc_length, kw_length, List.length_replicate, List.length_append, List.length_cons, List.length_nil, cutI_length, shaOf_length, dig_length, valD_length, rootM_length]; omega))) ?_
        refine WP.take_pure rfl rfl (PV.fieldAddr rfl TrydT.fd52_1 rfl) ?_
        refine WP.take_read rfl rfl (RV.loadOne rfl TrydT.ag33 rfl) (by exact Blk.segAt (H.l 5 rfl) (Seg.r (Seg.all _) (by with_reducible rfl)) (by (simp [kc_length, kw_length, *]; done))) ?_
        refine WP.pick1 rfl ?_
        refine WL.call TrydT.fb39 rfl (show Ret _ _ _ _ (fun v w' => v = .agg (kc k ++ kc (valD i lv)).toArray ∧ Out Nil _ w') from Leaf2_c (T := (.leaf a35 k lv s35)) (bits := i) H.yylt (H.rob 1 rfl)) ?_
        rintro _ w20 ⟨rfl, hO⟩
        replace H := H.out hO
        refine WL.nil ⟨(List.forall_mem_cons.2 ⟨(fun _ _ => (by exact Blk.segAt (H.l 5 rfl) (Seg.r (Seg.all _) (by with_reducible rfl)) (by (simp [kc_length, kw_length, *]; done)))), (List.forall_mem_cons.2 ⟨(fun _ _ => (by exact Blk.segAt (H.l 5 rfl) (Seg.l (Seg.all _)) (by rfl))), (List.forall_mem_cons.2 ⟨(by exact (fun h => absurd (show waits _ 17 12 = false from h) (by decide +kernel))), (List.forall_mem_cons.2 ⟨(by exact (fun h => absurd (show waits _ 17 10 = false from h) (by decide +kernel))), (List.forall_mem_cons.2 ⟨(by exact (fun h => absurd (show waits _ 17 5 = false from h) (by decide +kernel))), (List.forall_mem_cons.2 ⟨(by exact (fun h => absurd (show waits _ 17 3 = false from h) (by decide +kernel))), (fun _ h => by cases h)⟩)⟩)⟩)⟩)⟩)⟩), ?_⟩
        refine WP.pick1 rfl ?_
        refine WL.call TrydT.fb26 rfl (refLeafOf_c (k := k) (la := lv) (i := i) H.yylt (by exact (H.rob 3 rfl : Rob _ (SlB vs lv) _)) (by exact H.rob 4 rfl) hk (by omega) hi) ?_
        rintro _ w21 ⟨rfl, hO⟩
        replace H := H.out hO
        refine WL.nil ⟨(List.forall_mem_cons.2 ⟨(by exact (fun h => absurd (show waits _ 23 22 = false from h) (by decide +kernel))), (List.forall_mem_cons.2 ⟨(by exact (fun h => absurd (show waits _ 23 20 = false from h) (by decide +kernel))), (List.forall_mem_cons.2 ⟨(by exact (fun h => absurd (show waits _ 23 12 = false from h) (by decide +kernel))), (List.forall_mem_cons.2 ⟨(by exact (fun h => absurd (show waits _ 23 10 = false from h) (by decide +kernel))), (List.forall_mem_cons.2 ⟨(by exact (fun h => absurd (show waits _ 23 5 = false from h) (by decide +kernel))), (List.forall_mem_cons.2 ⟨(by exact (fun h => absurd (show waits _ 23 3 = false from h) (by decide +kernel))), (fun _ h => by cases h)⟩)⟩)⟩)⟩)⟩)⟩), ?_⟩
        refine WP.take_pure rfl rfl (PV.eqlV rfl TrydT.eg38 rfl rfl (EqV.struct (n := 3) TrydT.ef38 (EqF.cons (PartAt.agg TrydT.ag36 (by (rw [TrydT.sz36]; refine congrArg some ?_; (simp only [kc_length, kw_length, List.length_replicate, List.length_append, List.length_cons, List.length_nil, cutI_length, shaOf_length, dig_length, valD_length, rootM_length]; omega))) (Seg.l (Seg.all _))) (PartAt.agg TrydT.ag36 (by (rw [TrydT.sz36]; refine congrArg some ?_; (simp only [kc_length, kw_length, List.length_replicate, List.length_append, List.length_cons, List.length_nil, cutI_length, shaOf_length, dig_length, valD_length, rootM_length]; omega))) (Seg.l (Seg.all _))) (EqV.mono (EqV.bytes TrydT.ar36 TrydT.in5 TrydT.sz5 (by assumption) (by assumption)) (by decide)) (EqF.cons (PartAt.agg TrydT.ag29 (by exact TrydT.sz29) (Seg.r (Seg.all _) (by (simp only [kc_length, kw_length, List.length_replicate, List.length_append, List.length_cons, List.length_nil, cutI_length, shaOf_length, dig_length, valD_length, rootM_length]; omega)))) (PartAt.agg TrydT.ag29 (by exact TrydT.sz29) (Seg.r (Seg.all _) (by (simp only [kc_length, kw_length, List.length_replicate, List.length_append, List.length_cons, List.length_nil, cutI_length, shaOf_length, dig_length, valD_length, rootM_length]; omega)))) (EqV.mono (EqV.bytes TrydT.ar29 TrydT.in5 TrydT.sz5 (by exact valD_length _ _) (by exact valD_length _ _)) (by decide)) EqF.nil))) (by decide)) ?_
        refine WP.take_pure rfl rfl (PV.pick_t rfl rfl rfl) ?_
        refine WP.mv rfl rfl rfl ?_
        refine WP.known (t := 94) (c := true) rfl (by (simp; done)) ?_
        refine WP.mv rfl rfl rfl ?_
        refine WP.pick1 rfl ?_
        refine WL.call TrydT.fb40 rfl (NKind_c (T := (.leaf a35 k lv s35)) (bits := i) H.yylt (H.rob 1 rfl)) ?_
        rintro _ w22 ⟨rfl, hO⟩
        replace H := H.out hO
        refine WL.nil ⟨(List.forall_mem_cons.2 ⟨(by exact (fun h => absurd (show waits _ 28 22 = false from h) (by decide +kernel))), (List.forall_mem_cons.2 ⟨(by exact (fun h => absurd (show waits _ 28 20 = false from h) (by decide +kernel))), (List.forall_mem_cons.2 ⟨(by exact (fun h => absurd (show waits _ 28 12 = false from h) (by decide +kernel))), (List.forall_mem_cons.2 ⟨(by exact (fun h => absurd (show waits _ 28 10 = false from h) (by decide +kernel))), (List.forall_mem_cons.2 ⟨(by exact (fun h => absurd (show waits _ 28 5 = false from h) (by decide +kernel))), (List.forall_mem_cons.2 ⟨(by exact (fun h => absurd (show waits _ 28 3 = false from h) (by decide +kernel))), (fun _ h => by cases h)⟩)⟩)⟩)⟩)⟩)⟩), ?_⟩
        refine WP.take_pure rfl rfl (PV.eql rfl rfl rfl) ?_
        refine WP.take_pure rfl rfl (PV.pick_t rfl rfl rfl) ?_
        refine WP.mv rfl rfl rfl ?_
        refine WP.known (t := 99) (c := true) rfl (by rfl) ?_
        refine WP.mv rfl rfl rfl ?_
        refine WP.pick1 rfl ?_
        refine WL.call TrydT.fb36 rfl (Len_c (T := (.leaf a35 k lv s35)) (bits := i) H.yylt (H.rob 1 rfl)) ?_
        rintro _ w23 ⟨rfl, hO⟩
        replace H := H.out hO
        refine WL.nil ⟨(List.forall_mem_cons.2 ⟨(by exact (fun h => absurd (show waits _ 33 22 = false from h) (by decide +kernel))), (List.forall_mem_cons.2 ⟨(by exact (fun h => absurd (show waits _ 33 20 = false from h) (by decide +kernel))), (List.forall_mem_cons.2 ⟨(by exact (fun h => absurd (show waits _ 33 12 = false from h) (by decide +kernel))), (List.forall_mem_cons.2 ⟨(by exact (fun h => absurd (show waits _ 33 10 = false from h) (by decide +kernel))), (List.forall_mem_cons.2 ⟨(by exact (fun h => absurd (show waits _ 33 5 = false from h) (by decide +kernel))), (List.forall_mem_cons.2 ⟨(by exact (fun h => absurd (show waits _ 33 3 = false from h) (by decide +kernel))), (fun _ h => by cases h)⟩)⟩)⟩)⟩)⟩)⟩), ?_⟩
        refine WP.take_pure rfl rfl (PV.eql rfl rfl rfl) ?_
        refine WP.take_pure rfl rfl (PV.pick_t rfl rfl rfl) ?_
        refine WP.mv rfl rfl rfl ?_
        refine WP.known (t := 104) (c := true) rfl (by rfl) ?_
        refine WP.mv rfl rfl rfl ?_
        refine WP.pick1 rfl ?_
        refine WL.call TrydT.fb41 rfl (Left_c (T := (.leaf a35 k lv s35)) (bits := i) H.yylt (H.rob 1 rfl)) ?_
        rintro _ w24 ⟨rfl, hO⟩
        replace H := H.out hO
        refine WL.nil ⟨(List.forall_mem_cons.2 ⟨(by exact (fun h => absurd (show waits _ 38 22 = false from h) (by decide +kernel))), (List.forall_mem_cons.2 ⟨(by exact (fun h => absurd (show waits _ 38 20 = false from h) (by decide +kernel))), (List.forall_mem_cons.2 ⟨(by exact (fun h => absurd (show waits _ 38 12 = false from h) (by decide +kernel))), (List.forall_mem_cons.2 ⟨(by exact (fun h => absurd (show waits _ 38 10 = false from h) (by decide +kernel))), (List.forall_mem_cons.2 ⟨(by exact (fun h => absurd (show waits _ 38 5 = false from h) (by decide +kernel))), (List.forall_mem_cons.2 ⟨(by exact (fun h => absurd (show waits _ 38 3 = false from h) (by decide +kernel))), (fun _ h => by cases h)⟩)⟩)⟩)⟩)⟩)⟩), ?_⟩
        refine WP.take_pure rfl rfl (PV.eqlPn rfl TrydT.pt47 rfl rfl) ?_
        refine WP.take_pure rfl rfl (PV.pick_t rfl rfl rfl) ?_
        refine WP.mv rfl rfl rfl ?_
        refine WP.known (t := 109) (c := true) rfl (by rfl) ?_
        refine WP.mv rfl rfl rfl ?_
        refine WP.pick1 rfl ?_
        refine WL.call TrydT.fb42 rfl (Right2_c (T := (.leaf a35 k lv s35)) (bits := i) H.yylt (H.rob 1 rfl)) ?_
        rintro _ w25 ⟨rfl, hO⟩
        replace H := H.out hO
        refine WL.nil ⟨(List.forall_mem_cons.2 ⟨(by exact (fun h => absurd (show waits _ 43 22 = false from h) (by decide +kernel))), (List.forall_mem_cons.2 ⟨(by exact (fun h => absurd (show waits _ 43 20 = false from h) (by decide +kernel))), (List.forall_mem_cons.2 ⟨(by exact (fun h => absurd (show waits _ 43 12 = false from h) (by decide +kernel))), (List.forall_mem_cons.2 ⟨(by exact (fun h => absurd (show waits _ 43 10 = false from h) (by decide +kernel))), (List.forall_mem_cons.2 ⟨(by exact (fun h => absurd (show waits _ 43 5 = false from h) (by decide +kernel))), (List.forall_mem_cons.2 ⟨(by exact (fun h => absurd (show waits _ 43 3 = false from h) (by decide +kernel))), (fun _ h => by cases h)⟩)⟩)⟩)⟩)⟩)⟩), ?_⟩
        refine WP.take_pure rfl rfl (PV.eqlPn rfl TrydT.pt47 rfl rfl) ?_
        refine WP.take_pure rfl rfl (PV.pick_t rfl rfl rfl) ?_
        refine WP.as rfl rfl rfl ?_
        refine WP.done ?_
        refine WE.ret ?_
        refine ⟨[_], _, .nil _, ⟨rfl, trivial⟩, ?_⟩
        refine ⟨?_, H.toOut0⟩
        rfl

end Go.Sp.Tryd
