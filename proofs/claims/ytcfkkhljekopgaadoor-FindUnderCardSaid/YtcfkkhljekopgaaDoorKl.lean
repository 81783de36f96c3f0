/- Walks of functions, printed by a program of this session (gen.py) from notes on each function. -/
import Derived.Test.YtcfkkhljekopgaaDoorKj
set_option maxRecDepth 100000
set_option maxHeartbeats 1000000
set_option linter.unusedVariables false
set_option linter.unusedSimpArgs false
namespace Go.Sp.Tryd
open Go.Proofs Go.RowKit Go.Sp
theorem FindUnder_c {X : Nat → Prop} {w : World} {i c0 : Int} {s : Value} {l : List En} {k : List UInt8} (hX : ∀ b, X b → b < w.heap.size) (hf0 : Rob X (SlE s l) w) (hf1 : Rob X (Vals l) w) (hf2 : Rob X (Rounds) w) (hkl : KL l) (hlen : l.length ≤ 9223372036854775807) (hvl : ∀ e ∈ l, e.v.length ≤ 9223372036854775807) (hk : k.length = 32) :
    Ret Tryd.prog 15 [.int .i64 i, s, .agg (kc k ++ [Value.int .i64 c0]).toArray].toArray w fun v w' => v = .bool true ∧ Out Nil w w' := by
  refine Ret.of_body (N := 61) Tryd.func15 rfl rfl (by simp) ?_
  have H := St.begin hX
  replace H := H.add (rob0 hf2)
  replace H := H.add (rob0 hf1)
  replace H := H.add (rob0 hf0)
  obtain ⟨c, hc⟩ : ∃ c : Nat, (c : Int) = min (max c0 0) 256 := ⟨(min (max c0 0) 256).toNat, by omega⟩
  refine WE.seq_reg ?_
  refine WL.box (l := kc k ++ [Value.int .i64 c0]) H rfl (by rfl) rfl ?_
  intro b5 w1 H
  refine WL.as rfl rfl ?_
  refine WL.nil ?_
  refine WE.seq_reg ?_
  refine WL.mv rfl rfl ?_
  refine WL.mv rfl rfl ?_
  refine WL.call TrydT.fb44 rfl (Tree_c (i := i) (l := l) H.yylt (by exact H.rob 0 rfl) (by exact H.rob 1 rfl) (by exact H.rob 2 rfl) (by assumption) (by assumption) (by assumption)) ?_
  rintro _ w2 ⟨bv17, sv17, Tv17, mv17, rfl, hTv17, hbv17, hO, hS_, hR⟩
  replace H := ((H.out hO).add hR).add hS_
  refine WL.mv rfl rfl ?_
  refine WL.pv (PV.extract rfl rfl rfl) rfl ?_
  refine WL.pv (PV.extract rfl rfl rfl) rfl ?_
  refine WL.pv (PV.extract rfl rfl rfl) rfl ?_
  refine WL.as rfl rfl ?_
  refine WL.as rfl rfl ?_
  refine WL.as rfl rfl ?_
  refine WL.nil ?_
  refine WE.seq ?_
  refine WE.seq_reg ?_
  refine WL.mv rfl rfl ?_
  refine WL.pv (PV.not rfl rfl) rfl ?_
  refine WL.nil ?_
  refine WE.cond rfl (fun hc22 => ?_) (fun hc22 => ?_)
  · skip
    try simp only [decide_eq_true_eq, decide_eq_false_iff_not, ne_eq, Decidable.not_not, Bool.not_eq_true', Bool.not_eq_false', Bool.and_eq_true, Bool.or_eq_true, Bool.not_not, Bool.and_eq_false_iff, Bool.or_eq_false_iff, Int.not_lt, Int.not_le] at hc22
    refine WE.seq_reg ?_
    refine WL.call TrydT.fb45 rfl (alive08_c  H.yylt (by exact H.rob 4 rfl) ) ?_
    rintro _ w3 ⟨rfl, hO⟩
    replace H := H.out hO
    refine WL.as rfl rfl ?_
    refine WL.nil ?_
    refine WE.ret ?_
    refine ⟨[_], _, .nil _, ⟨rfl, trivial⟩, ?_⟩
    refine ⟨?_, H.toOut0⟩
    rfl
  · skip
    try simp only [decide_eq_true_eq, decide_eq_false_iff_not, ne_eq, Decidable.not_not, Bool.not_eq_true', Bool.not_eq_false', Bool.and_eq_true, Bool.or_eq_true, Bool.not_not, Bool.and_eq_false_iff, Bool.or_eq_false_iff, Int.not_lt, Int.not_le] at hc22
    obtain ⟨rfl, hi, hfew⟩ := hbv17 (by exact hc22)
    have hok := ofM_ok l hkl
    have hpm := ofM_pm l hkl
    have hml : (ofM l).length ≤ 12 := Nat.le_trans hok.2.2.1 hfew.1
    have hvs := ofM_short hkl hfew.2
    have hsv : ShortV (ofM l) := fun e he => Nat.le_trans (hvs e he) (by decide)
    replace H := H.add (by exact (H.rob 3 rfl : Rob _ (Vals l) _).imp fun _ h => h.sub hok.2.2.2)
    have hone : OneS (ofM l) := OneS.of (H.p 0 rfl)
    have hfit : Tv17.er.fit 0 := hTv17 ▸ grow_fit hpm
    have hdp := Tr.dp_fit (k := k) _ 0 Tv17 rfl hfit (by omega)
    have hue := und_er (k := k) (c := c) hTv17 hpm (by omega)
    have hup := under_pm (c := c) hpm hk (by omega)
    have hcnt : (Tv17.und k c).er.cnt = (underM (ofM l) k c).length := by rw [hue]; exact hup.cnt
    have hul := underM_le (ofM l) k c
    refine WE.skip ?_
    refine WE.seq_reg ?_
    refine WL.mv rfl rfl ?_
    refine WL.call TrydT.fb27 rfl (Hash_c (i := i) H.yylt  (by assumption)) ?_
    rintro _ w4 ⟨bhv25, bcv25, rfl, hO, hge, hB, hR⟩
    replace H := H.pushR hO (Ent.blk bcv25 86 [.int .i64 0]) hB (fun c hc => by cases hc; exact hge) hR
    refine WL.as rfl rfl ?_
    refine WL.nil ?_
    refine WE.seq ?_
    refine WE.seq_reg ?_
    refine WL.mv rfl rfl ?_
    refine WL.pv (PV.eqlPn rfl TrydT.pt24 rfl rfl) rfl ?_
    refine WL.nil ?_
    refine WE.cond_f' rfl rfl ?_
    refine WE.skip ?_
    refine WE.seq_reg ?_
    refine WL.pv (PV.fieldAddr rfl TrydT.fd79_1 rfl) rfl ?_
    refine WL.load1 rfl TrydT.ag3 rfl rfl (by exact Blk.segAt (H.l 1 rfl) (Seg.r (Seg.all _) (by with_reducible rfl)) (by (simp [kc_length, kw_length, *]; done))) ?_
    refine WL.pv (PV.maxI rfl rfl) rfl ?_
    refine WL.pv (PV.eq (v' := .int .i64 (c : Int)) (PV.minI rfl rfl) (by rw [hc])) rfl ?_
    refine WL.as rfl rfl ?_
    refine WL.nil ?_
    refine WE.seq_reg ?_
    refine WL.mv rfl rfl ?_
    refine WL.pv (PV.fieldAddr rfl TrydT.fd79_0 rfl) rfl ?_
    refine WL.loadR rfl TrydT.ag36 rfl rfl (by exact Blk.segAt (H.l 1 rfl) (Seg.l (Seg.all _)) (by rfl)) (by (rw [TrydT.sz36]; refine congrArg some ?_; (simp only [kc_length, kw_length, List.length_replicate, List.length_append, List.length_cons, List.length_nil, cutI_length, shaOf_length, dig_length, valD_length, rootM_length]; omega))) ?_
    refine WL.mv rfl rfl ?_
    refine WL.call TrydT.fb56 rfl (refUnder_c (m := ofM l) (k := k) (c := c) H.yylt (by exact H.rob 2 rfl) hok.2.1 hone (by omega) hk (by omega)) ?_
    rintro v36 w5 ⟨hO, hR⟩
    replace H := (H.out hO).add hR
    refine WL.as rfl rfl ?_
    refine WL.nil ?_
    refine WE.seq_reg ?_
    refine WL.mv rfl rfl ?_
    refine WL.pv (PV.fieldAddr rfl TrydT.fd79_0 rfl) rfl ?_
    refine WL.loadR rfl TrydT.ag36 rfl rfl (by exact Blk.segAt (H.l 1 rfl) (Seg.l (Seg.all _)) (by rfl)) (by (rw [TrydT.sz36]; refine congrArg some ?_; (simp only [kc_length, kw_length, List.length_replicate, List.length_append, List.length_cons, List.length_nil, cutI_length, shaOf_length, dig_length, valD_length, rootM_length]; omega))) ?_
    refine WL.pv (PV.fieldAddr rfl TrydT.fd79_1 rfl) rfl ?_
    refine WL.load1 rfl TrydT.ag3 rfl rfl (by exact Blk.segAt (H.l 1 rfl) (Seg.r (Seg.all _) (by with_reducible rfl)) (by (simp [kc_length, kw_length, *]; done))) ?_
    refine WL.call TrydT.fb57 rfl (Under_c (T := Tv17) (k := k) (bits := i) (c := c) H.yylt (by exact H.rob 4 rfl) hk hfit hc) ?_
    rintro _ w6 ⟨rfl, hO⟩
    replace H := H.out hO
    refine WL.as rfl rfl ?_
    refine WL.nil ?_
    refine WE.seq_reg ?_
    refine WL.call TrydT.fb45 rfl (alive08_c  H.yylt (by exact H.rob 7 rfl) ) ?_
    rintro _ w7 ⟨rfl, hO⟩
    replace H := H.out hO
    refine WL.mv rfl rfl ?_
    refine WL.known (t := 44) (c := true) rfl (by rfl) ?_
    refine WL.mv rfl rfl ?_
    refine WL.call TrydT.fb36 rfl (Len_c (T := (Tv17.und k c)) (bits := i) H.yylt (by exact (H.rob 4 rfl).imp fun _ h => und_A h)) ?_
    rintro _ w8 ⟨rfl, hO⟩
    replace H := H.out hO
    refine WL.mv rfl rfl ?_
    refine WL.pv (PV.lenS (by exact H.p 0 rfl : SlE v36 (underM (ofM l) k c) _) TrydT.sl42 rfl) rfl ?_
    refine WL.pv (PV.eql rfl rfl rfl) rfl ?_
    refine WL.pv (PV.pick_t rfl rfl rfl) rfl ?_
    refine WL.mv rfl rfl ?_
    refine WL.known (t := 51) (c := true) rfl (by simp [hcnt]) ?_
    refine WL.mv rfl rfl ?_
    refine WL.mv rfl rfl ?_
    refine WL.call TrydT.fb31 rfl (Digest_c (T := (Tv17.und k c)) (bits := i) H.yylt (H.l 0 rfl) (by exact H.robL 0 rfl 1 rfl) (by exact (H.robL 0 rfl 4 rfl).imp fun _ h => und_A h) (by exact H.robL 0 rfl 7 rfl) hi) ?_
    rintro _ w9 ⟨mv54, rfl, hO, hB⟩
    replace H := H.called 0 rfl hO hB
    refine WL.mv rfl rfl ?_
    refine WL.mv rfl rfl ?_
    refine WL.mv rfl rfl ?_
    refine WL.call TrydT.fb33 rfl (Root_c (m := (underM (ofM l) k c)) (d := c) (bits := i) H.yylt (by exact H.rob 0 rfl) (by exact (H.rob 2 rfl : Rob _ (Vals (ofM l)) _).imp fun _ h => h.sub fun e he => (underM_mem.1 he).1) (by exact H.rob 7 rfl) hup (by omega) (fun e he => hsv e (underM_mem.1 he).1) hi) ?_
    rintro _ w10 ⟨rfl, hO⟩
    replace H := H.out hO
    refine WL.pv (PV.eqlB rfl TrydT.ar29 TrydT.in5 TrydT.sz5 (by kernel_rfl) rfl rfl (by exact dig_length _ _) (by exact dig_length _ _)) rfl ?_
    refine WL.pv (PV.pick_t rfl rfl rfl) rfl ?_
    refine WL.as rfl rfl ?_
    refine WL.nil ?_
    refine WE.ret ?_
    refine ⟨[_], _, .nil _, ⟨rfl, trivial⟩, ?_⟩
    refine ⟨?_, H.toOut0⟩
    show Value.bool _ = Value.bool true
    simp [hue, rootM]

end Go.Sp.Tryd
