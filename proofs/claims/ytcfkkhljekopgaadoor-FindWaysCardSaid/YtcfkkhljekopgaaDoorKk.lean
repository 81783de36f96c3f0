/- Walks of functions, printed by a program of this session (gen.py) from notes on each function. -/
import Derived.Test.YtcfkkhljekopgaaDoorKj
set_option maxRecDepth 100000
set_option maxHeartbeats 1000000
set_option linter.unusedVariables false
set_option linter.unusedSimpArgs false
namespace Go.Sp.Tryd
open Go.Proofs Go.RowKit Go.Sp
theorem FindSiblings_c {X : Nat → Prop} {w : World} {i : Int} {s : Value} {l : List En} {k : List UInt8} (hX : ∀ b, X b → b < w.heap.size) (hf0 : Rob X (SlE s l) w) (hf1 : Rob X (Vals l) w) (hf2 : Rob X (Rounds) w) (hkl : KL l) (hlen : l.length ≤ 9223372036854775807) (hvl : ∀ e ∈ l, e.v.length ≤ 9223372036854775807) (hk : k.length = 32) :
    Ret Tryd.prog 13 [.int .i64 i, s, .agg (kc k).toArray].toArray w fun v w' => v = .bool true ∧ Out Nil w w' := by
  refine Ret.of_body (N := 75) Tryd.func13 rfl rfl (by simp) ?_
  have H := St.begin hX
  replace H := H.add (rob0 hf2)
  replace H := H.add (rob0 hf1)
  replace H := H.add (rob0 hf0)
  refine WE.seq_reg ?_
  refine WL.box (l := kc k) H rfl (by rfl) rfl ?_
  intro b5 w1 H
  refine WL.as rfl rfl ?_
  refine WL.nil ?_
  refine WE.seq_reg ?_
  refine WL.mv rfl rfl ?_
  refine WL.mv rfl rfl ?_
  refine WL.call TrydT.fb44 rfl (Tree_c (i := i) (l := l) H.yylt (by exact H.rob 0 rfl) (by exact H.rob 1 rfl) (by exact H.rob 2 rfl) (by assumption) (by assumption) (by assumption)) ?_
  rintro _ w2 ⟨bv20, sv20, Tv20, mv20, rfl, hTv20, hbv20, hO, hS_, hR⟩
  replace H := ((H.out hO).add hR).add hS_
  refine WL.mv rfl rfl ?_
  refine WL.pv (PV.extract rfl rfl rfl) rfl ?_
  refine WL.pv (PV.extract rfl rfl rfl) rfl ?_
  refine WL.pv (PV.extract rfl rfl rfl) rfl ?_
  refine WL.as rfl rfl ?_
  refine WL.as rfl rfl ?_
  refine WL.as rfl rfl ?_
  refine WL.nil ?_
  refine WE.seq ?_
  refine WE.seq_reg ?_
  refine WL.mv rfl rfl ?_
  refine WL.pv (PV.not rfl rfl) rfl ?_
  refine WL.nil ?_
  refine WE.cond rfl (fun hc25 => ?_) (fun hc25 => ?_)
  · skip
    try simp only [decide_eq_true_eq, decide_eq_false_iff_not, ne_eq, Decidable.not_not, Bool.not_eq_true', Bool.not_eq_false', Bool.and_eq_true, Bool.or_eq_true, Bool.not_not, Bool.and_eq_false_iff, Bool.or_eq_false_iff, Int.not_lt, Int.not_le] at hc25
    refine WE.seq_reg ?_
    refine WL.call TrydT.fb45 rfl (alive08_c  H.yylt (by exact H.rob 4 rfl) ) ?_
    rintro _ w3 ⟨rfl, hO⟩
    replace H := H.out hO
    refine WL.as rfl rfl ?_
    refine WL.nil ?_
    refine WE.ret ?_
    refine ⟨[_], _, .nil _, ⟨rfl, trivial⟩, ?_⟩
    refine ⟨?_, H.toOut0⟩
    rfl
  · skip
    try simp only [decide_eq_true_eq, decide_eq_false_iff_not, ne_eq, Decidable.not_not, Bool.not_eq_true', Bool.not_eq_false', Bool.and_eq_true, Bool.or_eq_true, Bool.not_not, Bool.and_eq_false_iff, Bool.or_eq_false_iff, Int.not_lt, Int.not_le] at hc25
    obtain ⟨rfl, hi, hfew⟩ := hbv20 (by exact hc25)
    have hok := ofM_ok l hkl
    have hpm := ofM_pm l hkl
    have hml : (ofM l).length ≤ 12 := Nat.le_trans hok.2.2.1 hfew.1
    have hvs := ofM_short hkl hfew.2
    have hsv : ShortV (ofM l) := fun e he => Nat.le_trans (hvs e he) (by decide)
    replace H := H.add (by exact (H.rob 3 rfl : Rob _ (Vals l) _).imp fun _ h => h.sub hok.2.2.2)
    have hone : OneS (ofM l) := OneS.of (H.p 0 rfl)
    have hfit : Tv20.er.fit 0 := hTv20 ▸ grow_fit hpm
    have hdp := Tr.dp_fit (k := k) _ 0 Tv20 rfl hfit (by omega)
    refine WE.skip ?_
    refine WE.seq_reg ?_
    refine WL.mv rfl rfl ?_
    refine WL.call TrydT.fb27 rfl (Hash_c (i := i) H.yylt  (by assumption)) ?_
    rintro _ w4 ⟨bhv28, bcv28, rfl, hO, hge, hB, hR⟩
    replace H := H.pushR hO (Ent.blk bcv28 86 [.int .i64 0]) hB (fun c hc => by cases hc; exact hge) hR
    refine WL.as rfl rfl ?_
    refine WL.nil ?_
    refine WE.seq_reg ?_
    refine WL.mv rfl rfl ?_
    refine WL.loadR rfl TrydT.ag36 rfl rfl (by exact Blk.segAt (H.l 1 rfl) (Seg.all _) (by rfl)) (by (rw [TrydT.sz36]; refine congrArg some ?_; (simp only [kc_length, kw_length, List.length_replicate, List.length_append, List.length_cons, List.length_nil, cutI_length, shaOf_length, dig_length, valD_length, rootM_length]; omega))) ?_
    refine WL.call TrydT.fb51 rfl (Siblings_c (T := Tv20) (k := k) (bits := i) H.yylt (by exact H.rob 3 rfl) (by assumption) (by assumption)) ?_
    rintro v31 w5 ⟨hO, hR⟩
    replace H := (H.out hO).add hR
    refine WL.as rfl rfl ?_
    refine WL.nil ?_
    refine WE.seq_reg ?_
    refine WL.mv rfl rfl ?_
    refine WL.loadR rfl TrydT.ag36 rfl rfl (by exact Blk.segAt (H.l 1 rfl) (Seg.all _) (by rfl)) (by (rw [TrydT.sz36]; refine congrArg some ?_; (simp only [kc_length, kw_length, List.length_replicate, List.length_append, List.length_cons, List.length_nil, cutI_length, shaOf_length, dig_length, valD_length, rootM_length]; omega))) ?_
    refine WL.call TrydT.fb47 rfl (refEnd_c (m := ofM l) (k := k) (D := Tv20.dp k 0) H.yylt (by exact H.rob 3 rfl) hok.2.1 hone (by omega) hk (fun j hj => (at_len hTv20 hpm hj).1) (at_end hTv20 hpm) (by omega)) ?_
    rintro _ w6 ⟨sv35, rfl, hO, hR⟩
    replace H := (H.out hO).add hR
    replace H := H.drop (fun p hp => List.mem_cons_of_mem _ hp)
    have hsl := sibL_len Tv20 k (Tv20.dp k 0)
    refine WL.mv rfl rfl ?_
    refine WL.pv (PV.extract rfl rfl rfl) rfl ?_
    refine WL.pv (PV.extract rfl rfl rfl) rfl ?_
    refine WL.as rfl rfl ?_
    refine WL.as rfl rfl ?_
    refine WL.nil ?_
    refine WE.seq ?_
    refine WE.seq_reg ?_
    refine WL.mv rfl rfl ?_
    refine WL.pv (PV.lenS (by exact H.p 0 rfl : SlV v31 (sibL Tv20 k (Tv20.dp k 0)) _) TrydT.sl73 rfl) rfl ?_
    refine WL.mv rfl rfl ?_
    refine WL.pv (PV.neq rfl rfl rfl) rfl ?_
    refine WL.mv rfl rfl ?_
    refine WL.known (t := 42) (c := false) rfl (by (simp [sibL_len]; done)) ?_
    refine WL.mv rfl rfl ?_
    refine WL.pv (PV.eqlPn rfl TrydT.pt24 rfl rfl) rfl ?_
    refine WL.pv (PV.pick_f rfl rfl rfl) rfl ?_
    refine WL.nil ?_
    refine WE.cond_f' rfl (by rfl) ?_
    refine WE.skip ?_
    refine WE.seq ?_
    refine WE.seq_reg ?_
    refine WL.mv rfl rfl ?_
    refine WL.pv (PV.lenS (by exact H.p 0 rfl : SlV v31 (sibL Tv20 k (Tv20.dp k 0)) _) TrydT.sl73 rfl) rfl ?_
    refine WL.mv rfl rfl ?_
    refine WL.nil ?_
    refine WE.block ?_
    refine WE.loop (α := Nat × Int) [6, 14, 15, 16, 48, 49, 50, 51, 52, 53, 54, 55, 56, 57, 58, 59, 60, 61, 62, 63, 64, 65, 66, 67, 68, 69, 70, 71, 72, 73] (fun p => [(48, .int .i64 p.1)]) (fun p wl => p.1 ≤ Tv20.dp k 0 ∧ St X w wl [] [Ent.blk bcv28 86 [.int .i64 p.2], Ent.blk b5 36 (kc k)] [SlV v31 (sibL Tv20 k (Tv20.dp k 0)), HAt bhv28 bcv28 i, fun x => Vals (ofM l) x, SlE sv20 (ofM l), TrA i Tv20, SlE s l, Vals l, Rounds]) (fun p => Tv20.dp k 0 - p.1) (0, 0) ⟨rfl, trivial⟩ ⟨Nat.zero_le _, H⟩ ?_
    intro ⟨j, n⟩ γ0 w7 hI
    try dsimp only at hI
    obtain ⟨hj, H⟩ := hI
    refine WE.seq_reg ?_
    refine WL.pv (PV.lss rfl rfl rfl) rfl ?_
    refine WL.nil ?_
    refine WE.seq ?_
    refine WE.cond rfl (fun hc49 => ?_) (fun hc49 => ?_)
    · skip
      try simp only [decide_eq_true_eq, decide_eq_false_iff_not, ne_eq, Decidable.not_not, Bool.not_eq_true', Bool.not_eq_false', Bool.and_eq_true, Bool.or_eq_true, Bool.not_not, Bool.and_eq_false_iff, Bool.or_eq_false_iff, Int.not_lt, Int.not_le] at hc49
      have hlt : j < Tv20.dp k 0 := by omega
      have hbe := beside_er (k := k) hTv20 hpm hlt
      have hcnt : ((Tv20.atN k 0 j).beside k j).er.cnt = (partM (atM k 0 (ofM l) j) j (1 - bitN k j)).length := by rw [hbe.1]; exact hbe.2.cnt
      have hpl : (partM (atM k 0 (ofM l) j) j (1 - bitN k j)).length ≤ (ofM l).length := Nat.le_trans (partM_le _ _ _) (atM_len _ _ _ _)
      refine WE.skip ?_
      refine WE.seq ?_
      refine WE.block ?_
      refine WE.seq_reg ?_
      refine WL.mv rfl rfl ?_
      refine WL.pv (PV.idxS rfl (by exact H.p 0 rfl : SlV v31 (sibL Tv20 k (Tv20.dp k 0)) _) TrydT.sl73 TrydT.sz47 rfl rfl (by omega) (by omega)) rfl ?_
      refine WL.load1 rfl TrydT.ag47 rfl rfl ((by have h_ := SlV.rd (by exact H.p 0 rfl : SlV v31 (sibL Tv20 k (Tv20.dp k 0)) _) j (by omega); rw [sibL_get] at h_; exact h_)) ?_
      refine WL.as rfl rfl ?_
      refine WL.as rfl rfl ?_
      refine WL.nil ?_
      refine WE.seq_reg ?_
      refine WL.mv rfl rfl ?_
      refine WL.loadR rfl TrydT.ag36 rfl rfl (by exact Blk.segAt (H.l 1 rfl) (Seg.all _) (by rfl)) (by (rw [TrydT.sz36]; refine congrArg some ?_; (simp only [kc_length, kw_length, List.length_replicate, List.length_append, List.length_cons, List.length_nil, cutI_length, shaOf_length, dig_length, valD_length, rootM_length]; omega))) ?_
      refine WL.mv rfl rfl ?_
      refine WL.call TrydT.fb52 rfl (refSib_c (m := ofM l) (k := k) (D := j) H.yylt (by exact H.rob 3 rfl) hok.2.1 hone (by omega) hk (by omega)) ?_
      rintro v56 w8 ⟨hO, hR⟩
      replace H := (H.out hO).add hR
      refine WL.as rfl rfl ?_
      refine WL.nil ?_
      refine WE.seq_reg ?_
      refine WL.mv rfl rfl ?_
      refine WL.call TrydT.fb36 rfl (Len_c (T := ((Tv20.atN k 0 j).beside k j)) (bits := i) H.yylt (by exact (H.rob 5 rfl).imp fun _ h => (h.atN j).beside) ) ?_
      rintro _ w9 ⟨rfl, hO⟩
      replace H := H.out hO
      refine WL.mv rfl rfl ?_
      refine WL.pv (PV.lenS (H.p 0 rfl : SlE v56 (partM (atM k 0 (ofM l) j) j (1 - bitN k j)) _) TrydT.sl42 rfl) rfl ?_
      refine WL.pv (PV.neq rfl rfl rfl) rfl ?_
      refine WL.mv rfl rfl ?_
      refine WL.known (t := 62) (c := false) rfl (by (simp [hcnt]; done)) ?_
      refine WL.mv rfl rfl ?_
      refine WL.mv rfl rfl ?_
      refine WL.call TrydT.fb31 rfl (Digest_c (T := ((Tv20.atN k 0 j).beside k j)) (bits := i) H.yylt (H.l 0 rfl) (by exact H.robL 0 rfl 2 rfl) (by exact (H.robL 0 rfl 5 rfl).imp fun _ h => (h.atN j).beside) (by exact H.robL 0 rfl 8 rfl) hi) ?_
      rintro _ w10 ⟨mv65, rfl, hO, hB⟩
      replace H := H.called 0 rfl hO hB
      refine WL.mv rfl rfl ?_
      refine WL.mv rfl rfl ?_
      refine WL.mv rfl rfl ?_
      refine WL.pv (PV.eq (v' := .int .i64 ((j + 1 : Nat) : Int)) (PV.add64 rfl rfl rfl (by omega) (by omega)) rfl) rfl ?_
      refine WL.call TrydT.fb33 rfl (Root_c (m := (partM (atM k 0 (ofM l) j) j (1 - bitN k j))) (d := j + 1) (bits := i) H.yylt (H.rob 0 rfl) (by exact (H.rob 3 rfl : Rob _ (Vals (ofM l)) _).imp fun _ h => h.sub fun e he => atM_mem (partM_mem.1 he).1) (by exact H.rob 8 rfl) hbe.2 (by omega) (fun e he => hsv e (atM_mem (partM_mem.1 he).1)) hi) ?_
      rintro _ w11 ⟨rfl, hO⟩
      replace H := H.out hO
      refine WL.pv (PV.neqB rfl TrydT.ar29 TrydT.in5 TrydT.sz5 (by kernel_rfl) rfl rfl (by exact dig_length _ _) (by exact dig_length _ _)) rfl ?_
      refine WL.pv (PV.pick_f rfl rfl rfl) rfl ?_
      refine WL.nil ?_
      refine WE.cond_f' rfl (by simp [hbe.1, rootM]) ?_
      refine WE.skip ?_
      refine WE.reg ?_
      refine WL.pv (PV.add64 rfl rfl rfl (by omega) (by omega)) rfl ?_
      refine WL.mv rfl rfl ?_
      refine WL.nil ?_
      exact ⟨(j + 1, mv65), (by repeat (first | with_reducible exact Off.refl _ _ | refine Off.upd rfl ?_ | refine Off.setAll rfl ?_ | refine Off.forget' rfl ?_)), ⟨rfl, trivial⟩, rfl, ⟨by dsimp only; omega, H.drop (fun p hp => List.mem_cons_of_mem _ hp)⟩, (by dsimp only; omega)⟩
    · skip
      try simp only [decide_eq_true_eq, decide_eq_false_iff_not, ne_eq, Decidable.not_not, Bool.not_eq_true', Bool.not_eq_false', Bool.and_eq_true, Bool.or_eq_true, Bool.not_not, Bool.and_eq_false_iff, Bool.or_eq_false_iff, Int.not_lt, Int.not_le] at hc49
      refine WE.exit ?_
      refine WE.seq_reg ?_
      refine WL.call TrydT.fb45 rfl (alive08_c  H.yylt (by exact H.rob 7 rfl) ) ?_
      rintro _ w12 ⟨rfl, hO⟩
      replace H := H.out hO
      refine WL.as rfl rfl ?_
      refine WL.nil ?_
      refine WE.ret ?_
      refine ⟨[_], _, .nil _, ⟨rfl, trivial⟩, ?_⟩
      refine ⟨?_, H.toOut0⟩
      rfl

theorem FindWays_c {X : Nat → Prop} {w : World} {i : Int} {s : Value} {l : List En} {k : List UInt8} (hX : ∀ b, X b → b < w.heap.size) (hf0 : Rob X (SlE s l) w) (hf1 : Rob X (Vals l) w) (hf2 : Rob X (Rounds) w) (hkl : KL l) (hlen : l.length ≤ 9223372036854775807) (hvl : ∀ e ∈ l, e.v.length ≤ 9223372036854775807) (hk : k.length = 32) :
    Ret Tryd.prog 14 [.int .i64 i, s, .agg (kc k).toArray].toArray w fun v w' => v = .bool true ∧ Out Nil w w' := by
  refine Ret.of_body (N := 108) Tryd.func14 rfl rfl (by simp) ?_
  have H := St.begin hX
  replace H := H.add (rob0 hf2)
  replace H := H.add (rob0 hf1)
  replace H := H.add (rob0 hf0)
  refine WE.seq_reg ?_
  refine WL.box (l := kc k) H rfl (by rfl) rfl ?_
  intro b5 w1 H
  refine WL.as rfl rfl ?_
  refine WL.nil ?_
  refine WE.seq_reg ?_
  refine WL.mv rfl rfl ?_
  refine WL.mv rfl rfl ?_
  refine WL.call TrydT.fb44 rfl (Tree_c (i := i) (l := l) H.yylt (by exact H.rob 0 rfl) (by exact H.rob 1 rfl) (by exact H.rob 2 rfl) (by assumption) (by assumption) (by assumption)) ?_
  rintro _ w2 ⟨bv20, sv20, Tv20, mv20, rfl, hTv20, hbv20, hO, hS_, hR⟩
  replace H := ((H.out hO).add hR).add hS_
  refine WL.mv rfl rfl ?_
  refine WL.pv (PV.extract rfl rfl rfl) rfl ?_
  refine WL.pv (PV.extract rfl rfl rfl) rfl ?_
  refine WL.pv (PV.extract rfl rfl rfl) rfl ?_
  refine WL.as rfl rfl ?_
  refine WL.as rfl rfl ?_
  refine WL.as rfl rfl ?_
  refine WL.nil ?_
  refine WE.seq ?_
  refine WE.seq_reg ?_
  refine WL.mv rfl rfl ?_
  refine WL.pv (PV.not rfl rfl) rfl ?_
  refine WL.nil ?_
  refine WE.cond rfl (fun hc25 => ?_) (fun hc25 => ?_)
  · skip
    try simp only [decide_eq_true_eq, decide_eq_false_iff_not, ne_eq, Decidable.not_not, Bool.not_eq_true', Bool.not_eq_false', Bool.and_eq_true, Bool.or_eq_true, Bool.not_not, Bool.and_eq_false_iff, Bool.or_eq_false_iff, Int.not_lt, Int.not_le] at hc25
    refine WE.seq_reg ?_
    refine WL.call TrydT.fb45 rfl (alive08_c  H.yylt (by exact H.rob 4 rfl) ) ?_
    rintro _ w3 ⟨rfl, hO⟩
    replace H := H.out hO
    refine WL.as rfl rfl ?_
    refine WL.nil ?_
    refine WE.ret ?_
    refine ⟨[_], _, .nil _, ⟨rfl, trivial⟩, ?_⟩
    refine ⟨?_, H.toOut0⟩
    rfl
  · skip
    try simp only [decide_eq_true_eq, decide_eq_false_iff_not, ne_eq, Decidable.not_not, Bool.not_eq_true', Bool.not_eq_false', Bool.and_eq_true, Bool.or_eq_true, Bool.not_not, Bool.and_eq_false_iff, Bool.or_eq_false_iff, Int.not_lt, Int.not_le] at hc25
    obtain ⟨rfl, hi, hfew⟩ := hbv20 (by exact hc25)
    have hok := ofM_ok l hkl
    have hpm := ofM_pm l hkl
    have hml : (ofM l).length ≤ 12 := Nat.le_trans hok.2.2.1 hfew.1
    have hvs := ofM_short hkl hfew.2
    have hsv : ShortV (ofM l) := fun e he => Nat.le_trans (hvs e he) (by decide)
    replace H := H.add (by exact (H.rob 3 rfl : Rob _ (Vals l) _).imp fun _ h => h.sub hok.2.2.2)
    have hone : OneS (ofM l) := OneS.of (H.p 0 rfl)
    have hfit : Tv20.er.fit 0 := hTv20 ▸ grow_fit hpm
    have hdp := Tr.dp_fit (k := k) _ 0 Tv20 rfl hfit (by omega)
    have hwl := wayL_len Tv20 k (Tv20.dp k 0 + 1)
    have hsl := sibL_len Tv20 k (Tv20.dp k 0)
    refine WE.skip ?_
    refine WE.seq_draw (.take 0 (.take 1 (.take 3 (.take 4 (.pick1 2 (.pick1 5 (.take 6 (.take 7 .done)))))))) TrydT.mixed (by kernel_rfl) ?_
    replace H := H.out (Out.drew _)
    refine WP.mv rfl rfl rfl ?_
    refine WP.readA rfl rfl rfl TrydT.ag36 rfl (by exact Blk.segAt (H.l 0 rfl) (Seg.all _) (by rfl)) (by (rw [TrydT.sz36]; refine congrArg some ?_; (simp only [kc_length, kw_length, List.length_replicate, List.length_append, List.length_cons, List.length_nil, cutI_length, shaOf_length, dig_length, valD_length, rootM_length]; omega))) ?_
    refine WP.mv rfl rfl rfl ?_
    refine WP.readA rfl rfl rfl TrydT.ag36 rfl (by exact Blk.segAt (H.l 0 rfl) (Seg.all _) (by rfl)) (by (rw [TrydT.sz36]; refine congrArg some ?_; (simp only [kc_length, kw_length, List.length_replicate, List.length_append, List.length_cons, List.length_nil, cutI_length, shaOf_length, dig_length, valD_length, rootM_length]; omega))) ?_
    refine WP.pick1 rfl ?_
    refine WL.call TrydT.fb53 rfl (Way_c (T := Tv20) (k := k) (bits := i) H.yylt (by exact H.rob 2 rfl) (by assumption) (by assumption)) ?_
    rintro v29 w4 ⟨hO, hR⟩
    replace H := (H.out hO).add hR
    refine WL.nil ⟨(List.forall_mem_cons.2 ⟨(fun _ _ => (by exact Blk.segAt (H.l 0 rfl) (Seg.all _) (by rfl))), (List.forall_mem_cons.2 ⟨(by exact (fun h => absurd (show waits _ 2 1 = false from h) (by decide +kernel))), (fun _ h => by cases h)⟩)⟩), ?_⟩
    refine WP.pick1 rfl ?_
    refine WL.call TrydT.fb51 rfl (Siblings_c (T := Tv20) (k := k) (bits := i) H.yylt (by exact H.rob 3 rfl) (by assumption) (by assumption)) ?_
    rintro v32 w5 ⟨hO, hR⟩
    replace H := (H.out hO).add hR
    refine WL.nil ⟨(List.forall_mem_cons.2 ⟨(by exact (fun h => absurd (show waits _ 5 4 = false from h) (by decide +kernel))), (List.forall_mem_cons.2 ⟨(by exact (fun h => absurd (show waits _ 5 1 = false from h) (by decide +kernel))), (fun _ h => by cases h)⟩)⟩), ?_⟩
    refine WP.as rfl rfl rfl ?_
    refine WP.as rfl rfl rfl ?_
    refine WP.done ?_
    refine WE.seq_reg ?_
    refine WL.mv rfl rfl ?_
    refine WL.loadR rfl TrydT.ag36 rfl rfl (by exact Blk.segAt (H.l 0 rfl) (Seg.all _) (by rfl)) (by (rw [TrydT.sz36]; refine congrArg some ?_; (simp only [kc_length, kw_length, List.length_replicate, List.length_append, List.length_cons, List.length_nil, cutI_length, shaOf_length, dig_length, valD_length, rootM_length]; omega))) ?_
    refine WL.call TrydT.fb46 rfl (Locate_c (T := Tv20) (k := k) (bits := i) H.yylt (by exact H.rob 4 rfl) (by assumption) (by assumption)) ?_
    rintro _ w6 ⟨rfl, hO⟩
    replace H := H.out hO
    refine WL.mv rfl rfl ?_
    refine WL.pv (PV.extract rfl rfl rfl) rfl ?_
    refine WL.pv (PV.extract rfl rfl rfl) rfl ?_
    refine WL.as rfl rfl ?_
    refine WL.as rfl rfl ?_
    refine WL.nil ?_
    refine WE.seq ?_
    refine WE.seq_reg ?_
    refine WL.mv rfl rfl ?_
    refine WL.pv (PV.lenS (by exact H.p 1 rfl : SlV v29 (wayL Tv20 k (Tv20.dp k 0 + 1)) _) TrydT.sl73 rfl) rfl ?_
    refine WL.mv rfl rfl ?_
    refine WL.pv (PV.eq (v' := .int .i64 ((Tv20.dp k 0 + 1 : Nat) : Int)) (PV.add64 rfl rfl rfl (by omega) (by omega)) rfl) rfl ?_
    refine WL.pv (PV.neq rfl rfl rfl) rfl ?_
    refine WL.mv rfl rfl ?_
    refine WL.known (t := 44) (c := false) rfl (by (simp [sibL_len, wayL_len]; done)) ?_
    refine WL.mv rfl rfl ?_
    refine WL.pv (PV.lenS (by exact H.p 0 rfl : SlV v32 (sibL Tv20 k (Tv20.dp k 0)) _) TrydT.sl73 rfl) rfl ?_
    refine WL.mv rfl rfl ?_
    refine WL.pv (PV.neq rfl rfl rfl) rfl ?_
    refine WL.pv (PV.pick_f rfl rfl rfl) rfl ?_
    refine WL.mv rfl rfl ?_
    refine WL.known (t := 50) (c := false) rfl (by (simp [sibL_len, wayL_len]; done)) ?_
    refine WL.mv rfl rfl ?_
    refine WL.pv (PV.idxS rfl (by exact H.p 1 rfl : SlV v29 (wayL Tv20 k (Tv20.dp k 0 + 1)) _) TrydT.sl73 TrydT.sz47 rfl rfl (by omega) (by omega)) rfl ?_
    refine WL.load1 rfl TrydT.ag47 rfl rfl ((by have h_ := SlV.rd (by exact H.p 1 rfl : SlV v29 (wayL Tv20 k (Tv20.dp k 0 + 1)) _) (0) (by omega); rw [wayL_get] at h_; exact h_)) ?_
    refine WL.mv rfl rfl ?_
    refine WL.pv (PV.neqPP (a := Tv20.addr) rfl TrydT.pt47 (by rw [TrydT.sz103]; rfl) rfl rfl) rfl ?_
    refine WL.pv (PV.pick_f rfl rfl rfl) rfl ?_
    refine WL.mv rfl rfl ?_
    refine WL.known (t := 57) (c := false) rfl (by rfl) ?_
    refine WL.mv rfl rfl ?_
    refine WL.mv rfl rfl ?_
    refine WL.pv (PV.idxS rfl (by exact H.p 1 rfl : SlV v29 (wayL Tv20 k (Tv20.dp k 0 + 1)) _) TrydT.sl73 TrydT.sz47 rfl rfl (by omega) (by omega)) rfl ?_
    refine WL.load1 rfl TrydT.ag47 rfl rfl ((by have h_ := SlV.rd (by exact H.p 1 rfl : SlV v29 (wayL Tv20 k (Tv20.dp k 0 + 1)) _) (Tv20.dp k 0) (by omega); rw [wayL_get] at h_; exact h_)) ?_
    refine WL.mv rfl rfl ?_
    refine WL.pv (PV.neqPP (a := (Tv20.fin k).addr) rfl TrydT.pt47 (by rw [TrydT.sz103]; rfl) rfl rfl) rfl ?_
    refine WL.pv (PV.pick_f rfl rfl rfl) rfl ?_
    refine WL.nil ?_
    refine WE.cond_f' rfl (by rfl) ?_
    refine WE.skip ?_
    refine WE.seq ?_
    refine WE.seq_reg ?_
    refine WL.mv rfl rfl ?_
    refine WL.pv (PV.lenS (by exact H.p 0 rfl : SlV v32 (sibL Tv20 k (Tv20.dp k 0)) _) TrydT.sl73 rfl) rfl ?_
    refine WL.mv rfl rfl ?_
    refine WL.nil ?_
    refine WE.block ?_
    refine WE.loop (α := Nat) [6, 14, 15, 16, 67, 68, 69, 70, 71, 72, 73, 74, 75, 76, 77, 78, 79, 80, 81, 82, 83, 84, 85, 86, 87, 88, 89, 90, 91, 92, 93, 94, 95, 96, 97, 98, 99, 100, 101, 102, 103, 104, 105, 106] (fun j => [(67, .int .i64 j)]) (fun j wl => j ≤ Tv20.dp k 0 ∧ St X w wl [] [Ent.blk b5 36 (kc k)] [SlV v32 (sibL Tv20 k (Tv20.dp k 0)), SlV v29 (wayL Tv20 k (Tv20.dp k 0 + 1)), fun x => Vals (ofM l) x, SlE sv20 (ofM l), TrA i Tv20, SlE s l, Vals l, Rounds]) (fun j => Tv20.dp k 0 - j) 0 ⟨rfl, trivial⟩ ⟨Nat.zero_le _, H⟩ ?_
    intro j γ0 w7 hI
    try dsimp only at hI
    obtain ⟨hj, H⟩ := hI
    refine WE.seq_reg ?_
    refine WL.pv (PV.lss rfl rfl rfl) rfl ?_
    refine WL.nil ?_
    refine WE.seq ?_
    refine WE.cond rfl (fun hc68 => ?_) (fun hc68 => ?_)
    · skip
      try simp only [decide_eq_true_eq, decide_eq_false_iff_not, ne_eq, Decidable.not_not, Bool.not_eq_true', Bool.not_eq_false', Bool.and_eq_true, Bool.or_eq_true, Bool.not_not, Bool.and_eq_false_iff, Bool.or_eq_false_iff, Int.not_lt, Int.not_le] at hc68
      have hlt : j < Tv20.dp k 0 := by omega
      have hkd : (Tv20.atN k 0 j).er.kind = 2 := Tr.atN_in j 0 Tv20 hlt
      have hb2 := bitN_lt k j
      refine WE.skip ?_
      refine WE.seq ?_
      refine WE.block ?_
      refine WE.seq_reg ?_
      refine WL.mv rfl rfl ?_
      refine WL.pv (PV.idxS rfl (by exact H.p 0 rfl : SlV v32 (sibL Tv20 k (Tv20.dp k 0)) _) TrydT.sl73 TrydT.sz47 rfl rfl (by omega) (by omega)) rfl ?_
      refine WL.load1 rfl TrydT.ag47 rfl rfl ((by have h_ := SlV.rd (by exact H.p 0 rfl : SlV v32 (sibL Tv20 k (Tv20.dp k 0)) _) j (by omega); rw [sibL_get] at h_; exact h_)) ?_
      refine WL.as rfl rfl ?_
      refine WL.as rfl rfl ?_
      refine WL.nil ?_
      refine WE.seq_reg ?_
      refine WL.loadR rfl TrydT.ag36 rfl rfl (by exact Blk.segAt (H.l 0 rfl) (Seg.all _) (by rfl)) (by (rw [TrydT.sz36]; refine congrArg some ?_; (simp only [kc_length, kw_length, List.length_replicate, List.length_append, List.length_cons, List.length_nil, cutI_length, shaOf_length, dig_length, valD_length, rootM_length]; omega))) ?_
      refine WL.mv rfl rfl ?_
      refine WL.call TrydT.fb54 rfl (refBitN_c (k := k) (d := j) H.yylt  (by assumption) (by omega)) ?_
      rintro _ w8 ⟨rfl, hO⟩
      replace H := H.out hO
      refine WL.as rfl rfl ?_
      refine WL.nil ?_
      refine WE.seq_draw (.take 0 (.take 1 (.take 2 (.take 3 (.pick1 4 (.take 5 (.take 6 (.take 7 (.take 8 (.take 9 (.take 10 (.take 11 (.take 13 (.take 14 (.take 15 (.take 16 (.take 17 (.pick1 12 (.take 18 (.take 19 (.take 20 (.take 21 (.take 22 (.take 23 (.take 24 (.take 25 (.take 26 (.take 28 (.pick1 27 (.take 29 (.take 30 .done))))))))))))))))))))))))))))))) TrydT.mixed (by kernel_rfl) ?_
      replace H := H.out (Out.drew _)
      refine WP.mv rfl rfl rfl ?_
      refine WP.mv rfl rfl rfl ?_
      refine WP.take_pure rfl rfl (PV.idxS rfl (by exact H.p 1 rfl : SlV v29 (wayL Tv20 k (Tv20.dp k 0 + 1)) _) TrydT.sl73 TrydT.sz47 rfl rfl (by omega) (by omega)) ?_
      refine WP.take_read rfl rfl (RV.loadOne rfl TrydT.ag47 rfl) ((by have h_ := SlV.rd (by exact H.p 1 rfl : SlV v29 (wayL Tv20 k (Tv20.dp k 0 + 1)) _) (j) (by omega); rw [wayL_get] at h_; exact h_)) ?_
      refine WP.pick1 rfl ?_
      refine WL.call TrydT.fb40 rfl (NKind_c (T := Tv20.atN k 0 j) (bits := i) H.yylt (by exact (H.rob 4 rfl).imp fun _ h => h.atN j)) ?_
      rintro _ w9 ⟨rfl, hO⟩
      replace H := H.out hO
      refine WL.nil ⟨(List.forall_mem_cons.2 ⟨(by exact (fun h => absurd (show waits _ 4 3 = false from h) (by decide +kernel))), (fun _ h => by cases h)⟩), ?_⟩
      refine WP.take_pure rfl rfl (PV.neq rfl rfl rfl) ?_
      refine WP.mv rfl rfl rfl ?_
      refine WP.known (t := 81) (c := false) rfl (by (simp [hkd]; done)) ?_
      refine WP.mv rfl rfl rfl ?_
      refine WP.mv rfl rfl rfl ?_
      refine WP.take_pure rfl rfl (PV.idxS rfl (by exact H.p 1 rfl : SlV v29 (wayL Tv20 k (Tv20.dp k 0 + 1)) _) TrydT.sl73 TrydT.sz47 rfl rfl (by omega) (by omega)) ?_
      refine WP.take_read rfl rfl (RV.loadOne rfl TrydT.ag47 rfl) ((by have h_ := SlV.rd (by exact H.p 1 rfl : SlV v29 (wayL Tv20 k (Tv20.dp k 0 + 1)) _) (j) (by omega); rw [wayL_get] at h_; exact h_)) ?_
      refine WP.mv rfl rfl rfl ?_
      refine WP.mv rfl rfl rfl ?_
      refine WP.mv rfl rfl rfl ?_
      refine WP.take_pure rfl rfl (PV.eq (v' := .int .i64 ((j + 1 : Nat) : Int)) (PV.add64 rfl rfl rfl (by omega) (by omega)) rfl) ?_
      refine WP.take_pure rfl rfl (PV.idxS rfl (by exact H.p 1 rfl : SlV v29 (wayL Tv20 k (Tv20.dp k 0 + 1)) _) TrydT.sl73 TrydT.sz47 rfl rfl (by omega) (by omega)) ?_
      refine WP.take_read rfl rfl (RV.loadOne rfl TrydT.ag47 rfl) ((by have h_ := SlV.rd (by exact H.p 1 rfl : SlV v29 (wayL Tv20 k (Tv20.dp k 0 + 1)) _) (j + 1) (by omega); rw [wayL_get] at h_; exact h_)) ?_
      refine WP.pick1 rfl ?_
      refine WL.call TrydT.fb55 rfl (Child_c (T := Tv20.atN k 0 j) (bits := i) (b := bitN k j) H.yylt (by exact (H.rob 4 rfl).imp fun _ h => h.atN j)) ?_
      rintro _ w10 ⟨rfl, hO⟩
      replace H := H.out hO
      refine WL.nil ⟨(List.forall_mem_cons.2 ⟨(fun _ _ => ((by have h_ := SlV.rd (by exact H.p 1 rfl : SlV v29 (wayL Tv20 k (Tv20.dp k 0 + 1)) _) (j + 1) (by omega); rw [wayL_get] at h_; exact h_))), (List.forall_mem_cons.2 ⟨(by exact (fun h => absurd (show waits _ 12 10 = false from h) (by decide +kernel))), (List.forall_mem_cons.2 ⟨(by exact (fun h => absurd (show waits _ 12 3 = false from h) (by decide +kernel))), (fun _ h => by cases h)⟩)⟩)⟩), ?_⟩
      refine WP.take_pure rfl rfl (PV.neqPP (a := (Tv20.atN k 0 (j + 1)).addr) rfl TrydT.pt47 (by rw [TrydT.sz103]; rfl) rfl rfl) ?_
      refine WP.take_pure rfl rfl (PV.pick_f rfl rfl rfl) ?_
      refine WP.mv rfl rfl rfl ?_
      refine WP.known (t := 95) (c := false) rfl (by rfl) ?_
      refine WP.mv rfl rfl rfl ?_
      refine WP.mv rfl rfl rfl ?_
      refine WP.take_pure rfl rfl (PV.idxS rfl (by exact H.p 1 rfl : SlV v29 (wayL Tv20 k (Tv20.dp k 0 + 1)) _) TrydT.sl73 TrydT.sz47 rfl rfl (by omega) (by omega)) ?_
      refine WP.take_read rfl rfl (RV.loadOne rfl TrydT.ag47 rfl) ((by have h_ := SlV.rd (by exact H.p 1 rfl : SlV v29 (wayL Tv20 k (Tv20.dp k 0 + 1)) _) (j) (by omega); rw [wayL_get] at h_; exact h_)) ?_
      refine WP.mv rfl rfl rfl ?_
      refine WP.take_pure rfl rfl (PV.eq (v' := .int .i64 ((1 - bitN k j : Nat) : Int)) (PV.sub64 rfl rfl rfl (by omega) (by omega)) (by congr 1; omega)) ?_
      refine WP.mv rfl rfl rfl ?_
      refine WP.pick1 rfl ?_
      refine WL.call TrydT.fb55 rfl (Child_c (T := Tv20.atN k 0 j) (bits := i) (b := 1 - bitN k j) H.yylt (by exact (H.rob 4 rfl).imp fun _ h => h.atN j)) ?_
      rintro _ w11 ⟨rfl, hO⟩
      replace H := H.out hO
      refine WL.nil ⟨(List.forall_mem_cons.2 ⟨(by exact (fun h => absurd (show waits _ 27 24 = false from h) (by decide +kernel))), (List.forall_mem_cons.2 ⟨(by exact (fun h => absurd (show waits _ 27 17 = false from h) (by decide +kernel))), (List.forall_mem_cons.2 ⟨(by exact (fun h => absurd (show waits _ 27 10 = false from h) (by decide +kernel))), (List.forall_mem_cons.2 ⟨(by exact (fun h => absurd (show waits _ 27 3 = false from h) (by decide +kernel))), (fun _ h => by cases h)⟩)⟩)⟩)⟩), ?_⟩
      refine WP.take_pure rfl rfl (PV.neqPP (a := ((Tv20.atN k 0 j).beside k j).addr) rfl TrydT.pt47 (by rw [TrydT.sz103]; rfl) rfl rfl) ?_
      refine WP.take_pure rfl rfl (PV.pick_f rfl rfl rfl) ?_
      refine WP.done ?_
      refine WE.cond_f' rfl (by rfl) ?_
      refine WE.skip ?_
      refine WE.reg ?_
      refine WL.pv (PV.add64 rfl rfl rfl (by omega) (by omega)) rfl ?_
      refine WL.mv rfl rfl ?_
      refine WL.nil ?_
      exact ⟨j + 1, (by repeat (first | with_reducible exact Off.refl _ _ | refine Off.upd rfl ?_ | refine Off.setAll rfl ?_ | refine Off.forget' rfl ?_)), ⟨rfl, trivial⟩, rfl, ⟨by omega, H⟩, (by omega)⟩
    · skip
      try simp only [decide_eq_true_eq, decide_eq_false_iff_not, ne_eq, Decidable.not_not, Bool.not_eq_true', Bool.not_eq_false', Bool.and_eq_true, Bool.or_eq_true, Bool.not_not, Bool.and_eq_false_iff, Bool.or_eq_false_iff, Int.not_lt, Int.not_le] at hc68
      refine WE.exit ?_
      refine WE.seq_reg ?_
      refine WL.call TrydT.fb45 rfl (alive08_c  H.yylt (by exact H.rob 7 rfl) ) ?_
      rintro _ w12 ⟨rfl, hO⟩
      replace H := H.out hO
      refine WL.as rfl rfl ?_
      refine WL.nil ?_
      refine WE.ret ?_
      refine ⟨[_], _, .nil _, ⟨rfl, trivial⟩, ?_⟩
      refine ⟨?_, H.toOut0⟩
      rfl

end Go.Sp.Tryd
