/- Walks of functions, printed by a program of this session (gen.py) from notes on each function. -/
import Derived.Test.YtcfkkhljekopgaaDoorG6
set_option maxRecDepth 100000
set_option maxHeartbeats 1000000
set_option linter.unusedVariables false
set_option linter.unusedSimpArgs false
namespace Go.Sp.Tryd
open Go.Proofs Go.RowKit Go.Sp

theorem Vals.sub {m m' : List En} {w : World} (h : Vals m w) (hs : ∀ e ∈ m', e ∈ m) : Vals m' w := fun e he => h e (hs e he)
theorem joinS_cnt (s t : Sh) : (joinS s t).cnt = s.cnt + t.cnt := by cases s <;> cases t <;> simp [joinS, Sh.cnt]
theorem ofM_short {l : List En} {n : Nat} (hkl : KL l) (h : ∀ e ∈ l, e.v.length ≤ n) : ∀ e ∈ ofM l, e.v.length ≤ n := fun e he => h e ((ofM_ok l hkl).2.2.2 e he)

theorem NodeDigestsBad_c {X : Nat → Prop} {w : World} {i : Int} {s : Value} {l : List En} (hX : ∀ b, X b → b < w.heap.size) (hf0 : Rob X (SlE s l) w) (hf1 : Rob X (Vals l) w) (hf2 : Rob X (Rounds) w) (hi : ¬ (0 ≤ i ∧ i ≤ 256)) (hkl : KL l) (hlen : l.length ≤ 9223372036854775807) (hvl : ∀ e ∈ l, e.v.length ≤ 9223372036854775807) :
    Ret Tryd.prog 6 [.int .i64 i, s].toArray w fun v w' => v = .bool true ∧ Out Nil w w' := by
  refine Ret.of_body (N := 34) Tryd.func6 rfl rfl (by simp) ?_
  have H := St.begin hX
  replace H := H.add (rob0 hf2)
  replace H := H.add (rob0 hf1)
  replace H := H.add (rob0 hf0)
  refine WE.seq_reg ?_
  refine WL.as rfl rfl ?_
  refine WL.nil ?_
  refine WE.seq_reg ?_
  refine WL.mv rfl rfl ?_
  refine WL.call TrydT.fb27 rfl (HashBad_c (i := i) H.yylt  (by assumption)) ?_
  rintro _ w1 ⟨rfl, hO⟩
  replace H := H.out hO
  refine WL.as rfl rfl ?_
  refine WL.nil ?_
  refine WE.seq ?_
  refine WE.seq_reg ?_
  refine WL.mv rfl rfl ?_
  refine WL.call TrydT.fb17 rfl (Right_c  H.yylt  ) ?_
  rintro _ w2 ⟨rfl, hO⟩
  replace H := H.out hO
  refine WL.pv (PV.not rfl rfl) rfl ?_
  refine WL.mv rfl rfl ?_
  refine WL.known (t := 12) (c := true) rfl (by simp [hi]) ?_
  refine WL.off rfl ?_
  refine WL.off rfl ?_
  refine WL.off rfl ?_
  refine WL.pv (PV.pick_t rfl rfl rfl) rfl ?_
  refine WL.nil ?_
  refine WE.cond_t rfl ?_
  refine WE.seq_reg ?_
  refine WL.call TrydT.fb29 rfl (alive07_c  H.yylt (by exact H.rob 2 rfl) ) ?_
  rintro _ w3 ⟨rfl, hO⟩
  replace H := H.out hO
  refine WL.as rfl rfl ?_
  refine WL.nil ?_
  refine WE.ret ?_
  refine ⟨[_], _, .nil _, ⟨rfl, trivial⟩, ?_⟩
  refine ⟨?_, H.toOut0⟩
  rfl

theorem NodeDigests_c {X : Nat → Prop} {w : World} {i : Int} {s : Value} {l : List En} (hX : ∀ b, X b → b < w.heap.size) (hf0 : Rob X (SlE s l) w) (hf1 : Rob X (Vals l) w) (hf2 : Rob X (Rounds) w) (hi : 0 ≤ i ∧ i ≤ 256) (hkl : KL l) (hlen : l.length ≤ 9223372036854775807) (hvl : ∀ e ∈ l, e.v.length ≤ 9223372036854775807) :
    Ret Tryd.prog 6 [.int .i64 i, s].toArray w fun v w' => v = .bool true ∧ Out Nil w w' := by
  refine Ret.of_body (N := 34) Tryd.func6 rfl rfl (by simp) ?_
  have H := St.begin hX
  replace H := H.add (rob0 hf2)
  replace H := H.add (rob0 hf1)
  replace H := H.add (rob0 hf0)
  refine WE.seq_reg ?_
  refine WL.as rfl rfl ?_
  refine WL.nil ?_
  refine WE.seq_reg ?_
  refine WL.mv rfl rfl ?_
  refine WL.call TrydT.fb27 rfl (Hash_c (i := i) H.yylt  (by assumption)) ?_
  rintro _ w1 ⟨bhv8, bcv8, rfl, hO, hge, hB, hR⟩
  replace H := H.pushR hO (Ent.blk bcv8 86 [.int .i64 0]) hB (fun c hc => by cases hc; exact hge) hR
  refine WL.as rfl rfl ?_
  refine WL.nil ?_
  refine WE.seq ?_
  refine WE.seq_reg ?_
  refine WL.mv rfl rfl ?_
  refine WL.call TrydT.fb17 rfl (Right_c  H.yylt  ) ?_
  rintro _ w2 ⟨rfl, hO⟩
  replace H := H.out hO
  refine WL.pv (PV.not rfl rfl) rfl ?_
  refine WL.mv rfl rfl ?_
  refine WL.known (t := 12) (c := false) rfl (by simp [hi]) ?_
  refine WL.mv rfl rfl ?_
  refine WL.call TrydT.fb28 rfl (FewB_c (m := l) H.yylt (by exact H.rob 1 rfl) (by exact H.rob 2 rfl) (by assumption) (by assumption) (by assumption)) ?_
  rintro _ w3 ⟨bv14, rfl, hFv14, hO⟩
  replace H := H.out hO
  refine WL.pv (PV.not rfl rfl) rfl ?_
  refine WL.pv (PV.pick_f rfl rfl rfl) rfl ?_
  refine WL.nil ?_
  refine WE.cond rfl (fun hc16 => ?_) (fun hc16 => ?_)
  · skip
    try simp only [decide_eq_true_eq, decide_eq_false_iff_not, ne_eq, Decidable.not_not, Bool.not_eq_true', Bool.not_eq_false', Bool.and_eq_true, Bool.or_eq_true, Bool.not_not, Bool.and_eq_false_iff, Bool.or_eq_false_iff, Int.not_lt, Int.not_le] at hc16
    refine WE.seq_reg ?_
    refine WL.call TrydT.fb29 rfl (alive07_c  H.yylt (by exact H.rob 3 rfl) ) ?_
    rintro _ w4 ⟨rfl, hO⟩
    replace H := H.out hO
    refine WL.as rfl rfl ?_
    refine WL.nil ?_
    refine WE.ret ?_
    refine ⟨[_], _, .nil _, ⟨rfl, trivial⟩, ?_⟩
    refine ⟨?_, H.toOut0⟩
    rfl
  · skip
    try simp only [decide_eq_true_eq, decide_eq_false_iff_not, ne_eq, Decidable.not_not, Bool.not_eq_true', Bool.not_eq_false', Bool.and_eq_true, Bool.or_eq_true, Bool.not_not, Bool.and_eq_false_iff, Bool.or_eq_false_iff, Int.not_lt, Int.not_le] at hc16
    have hfew := hFv14 (by simpa using hc16)
    refine WE.skip ?_
    refine WE.seq ?_
    refine WE.seq_reg ?_
    refine WL.mv rfl rfl ?_
    refine WL.pv (PV.eqlPn rfl TrydT.pt24 rfl rfl) rfl ?_
    refine WL.nil ?_
    refine WE.cond_f' rfl rfl ?_
    refine WE.skip ?_
    refine WE.seq_reg ?_
    refine WL.mv rfl rfl ?_
    refine WL.call TrydT.fb30 rfl (Of_c (l := l) H.yylt (by exact H.rob 1 rfl) (by exact H.rob 2 rfl) hkl (by omega)) ?_
    rintro v21 w5 ⟨hO, hR⟩
    replace H := (H.out hO).add hR
    have hok := ofM_ok l hkl
    have hpm := ofM_pm l hkl
    have hml : (ofM l).length ≤ 12 := Nat.le_trans hok.2.2.1 hfew.1
    have hvs := ofM_short hkl hfew.2
    have hsv : ShortV (ofM l) := fun e he => Nat.le_trans (hvs e he) (by decide)
    replace H := H.add (by exact (H.rob 3 rfl : Rob _ (Vals l) _).imp fun _ h => h.sub hok.2.2.2)
    refine WL.as rfl rfl ?_
    refine WL.nil ?_
    refine WE.seq_reg ?_
    refine WL.call TrydT.fb29 rfl (alive07_c  H.yylt (by exact H.rob 5 rfl) ) ?_
    rintro _ w6 ⟨rfl, hO⟩
    replace H := H.out hO
    refine WL.mv rfl rfl ?_
    refine WL.known (t := 23) (c := true) rfl (by rfl) ?_
    refine WL.mv rfl rfl ?_
    refine WL.mv rfl rfl ?_
    refine WL.mv rfl rfl ?_
    refine WL.call TrydT.fb32 rfl (GrowT_c (m := ofM l) (d := 0) (bits := i) H.yylt (H.l 0 rfl) (by exact H.robL 0 rfl 2 rfl) (by exact H.robL 0 rfl 1 rfl) (by exact H.robL 0 rfl 0 rfl) (by exact H.robL 0 rfl 5 rfl) hpm (by omega) hsv hi) ?_
    rintro _ w7 ⟨Tv27, mv27, rfl, hTv27, hO, hB, hR⟩
    replace H := H.calledR 0 rfl hO hB hR
    refine WL.call TrydT.fb31 rfl (Digest_c (T := Tv27) (bits := i) H.yylt (H.l 0 rfl) (by exact H.robL 0 rfl 3 rfl) (by exact H.robL 0 rfl 0 rfl) (by exact H.robL 0 rfl 6 rfl) (by assumption)) ?_
    rintro _ w8 ⟨mv28, rfl, hO, hB⟩
    replace H := H.called 0 rfl hO hB
    refine WL.mv rfl rfl ?_
    refine WL.mv rfl rfl ?_
    refine WL.call TrydT.fb33 rfl (Root_c (m := ofM l) (d := 0) (bits := i) H.yylt (by exact H.rob 2 rfl) (by exact H.rob 1 rfl) (by exact H.rob 6 rfl) hpm (by omega) hsv hi) ?_
    rintro _ w9 ⟨rfl, hO⟩
    replace H := H.out hO
    refine WL.pv (PV.eqlB rfl TrydT.ar29 TrydT.in5 TrydT.sz5 (by kernel_rfl) rfl rfl (by exact dig_length _ _) (by exact dig_length _ _)) rfl ?_
    refine WL.pv (PV.pick_t rfl rfl rfl) rfl ?_
    refine WL.as rfl rfl ?_
    refine WL.nil ?_
    refine WE.ret ?_
    refine ⟨[_], _, .nil _, ⟨rfl, trivial⟩, ?_⟩
    refine ⟨?_, H.toOut0⟩
    show Value.bool _ = Value.bool true
    simp [rootM, hTv27]

theorem NodeKeepsBad_c {X : Nat → Prop} {w : World} {i : Int} {s vs : Value} {l : List En} {k lv : List UInt8} (hX : ∀ b, X b → b < w.heap.size) (hf0 : Rob X (SlE s l) w) (hf1 : Rob X (Vals l) w) (hf2 : Rob X (SlB vs lv) w) (hf3 : Rob X (Rounds) w) (hi : ¬ (0 ≤ i ∧ i ≤ 256)) (hkl : KL l) (hlen : l.length ≤ 9223372036854775807) (hvl : ∀ e ∈ l, e.v.length ≤ 9223372036854775807) (hk : k.length = 32) (hlv : lv.length ≤ 9223372036854775807) :
    Ret Tryd.prog 7 [.int .i64 i, s, .agg (kc k ++ [vs]).toArray].toArray w fun v w' => v = .bool true ∧ Out Nil w w' := by
  refine Ret.of_body (N := 63) Tryd.func7 rfl rfl (by simp) ?_
  have H := St.begin hX
  replace H := H.add (rob0 hf3)
  replace H := H.add (rob0 hf2)
  replace H := H.add (rob0 hf1)
  replace H := H.add (rob0 hf0)
  have hvs1 := SlC.one1 (hf2.here)
  refine WE.seq_reg ?_
  refine WL.box (l := kc k ++ [vs]) H rfl (by rfl) rfl ?_
  intro b5 w1 H
  refine WL.as rfl rfl ?_
  refine WL.nil ?_
  refine WE.seq_reg ?_
  refine WL.mv rfl rfl ?_
  refine WL.call TrydT.fb27 rfl (HashBad_c (i := i) H.yylt  (by assumption)) ?_
  rintro _ w2 ⟨rfl, hO⟩
  replace H := H.out hO
  refine WL.as rfl rfl ?_
  refine WL.nil ?_
  refine WE.seq ?_
  refine WE.seq_reg ?_
  refine WL.mv rfl rfl ?_
  refine WL.call TrydT.fb17 rfl (Right_c  H.yylt  ) ?_
  rintro _ w3 ⟨rfl, hO⟩
  replace H := H.out hO
  refine WL.pv (PV.not rfl rfl) rfl ?_
  refine WL.mv rfl rfl ?_
  refine WL.known (t := 15) (c := true) rfl (by simp [hi]) ?_
  refine WL.off rfl ?_
  refine WL.off rfl ?_
  refine WL.off rfl ?_
  refine WL.pv (PV.pick_t rfl rfl rfl) rfl ?_
  refine WL.mv rfl rfl ?_
  refine WL.off rfl ?_
  refine WL.off rfl ?_
  refine WL.off rfl ?_
  refine WL.off rfl ?_
  refine WL.pv (PV.pick_t rfl rfl rfl) rfl ?_
  refine WL.nil ?_
  refine WE.cond_t rfl ?_
  refine WE.seq_reg ?_
  refine WL.call TrydT.fb29 rfl (alive07_c  H.yylt (by exact H.rob 3 rfl) ) ?_
  rintro _ w4 ⟨rfl, hO⟩
  replace H := H.out hO
  refine WL.as rfl rfl ?_
  refine WL.nil ?_
  refine WE.ret ?_
  refine ⟨[_], _, .nil _, ⟨rfl, trivial⟩, ?_⟩
  refine ⟨?_, H.toOut0⟩
  rfl

theorem NodeKeeps_c {X : Nat → Prop} {w : World} {i : Int} {s vs : Value} {l : List En} {k lv : List UInt8} (hX : ∀ b, X b → b < w.heap.size) (hf0 : Rob X (SlE s l) w) (hf1 : Rob X (Vals l) w) (hf2 : Rob X (SlB vs lv) w) (hf3 : Rob X (Rounds) w) (hi : 0 ≤ i ∧ i ≤ 256) (hkl : KL l) (hlen : l.length ≤ 9223372036854775807) (hvl : ∀ e ∈ l, e.v.length ≤ 9223372036854775807) (hk : k.length = 32) (hlv : lv.length ≤ 9223372036854775807) :
    Ret Tryd.prog 7 [.int .i64 i, s, .agg (kc k ++ [vs]).toArray].toArray w fun v w' => v = .bool true ∧ Out Nil w w' := by
  refine Ret.of_body (N := 63) Tryd.func7 rfl rfl (by simp) ?_
  have H := St.begin hX
  replace H := H.add (rob0 hf3)
  replace H := H.add (rob0 hf2)
  replace H := H.add (rob0 hf1)
  replace H := H.add (rob0 hf0)
  have hvs1 := SlC.one1 (hf2.here)
  refine WE.seq_reg ?_
  refine WL.box (l := kc k ++ [vs]) H rfl (by rfl) rfl ?_
  intro b5 w1 H
  refine WL.as rfl rfl ?_
  refine WL.nil ?_
  refine WE.seq_reg ?_
  refine WL.mv rfl rfl ?_
  refine WL.call TrydT.fb27 rfl (Hash_c (i := i) H.yylt  (by assumption)) ?_
  rintro _ w2 ⟨bhv11, bcv11, rfl, hO, hge, hB, hR⟩
  replace H := H.pushR hO (Ent.blk bcv11 86 [.int .i64 0]) hB (fun c hc => by cases hc; exact hge) hR
  refine WL.as rfl rfl ?_
  refine WL.nil ?_
  refine WE.seq ?_
  refine WE.seq_reg ?_
  refine WL.mv rfl rfl ?_
  refine WL.call TrydT.fb17 rfl (Right_c  H.yylt  ) ?_
  rintro _ w3 ⟨rfl, hO⟩
  replace H := H.out hO
  refine WL.pv (PV.not rfl rfl) rfl ?_
  refine WL.mv rfl rfl ?_
  refine WL.known (t := 15) (c := false) rfl (by simp [hi]) ?_
  refine WL.mv rfl rfl ?_
  refine WL.call TrydT.fb28 rfl (FewB_c (m := l) H.yylt (by exact H.rob 1 rfl) (by exact H.rob 2 rfl) (by assumption) (by assumption) (by assumption)) ?_
  rintro _ w4 ⟨bv17, rfl, hFv17, hO⟩
  replace H := H.out hO
  refine WL.pv (PV.not rfl rfl) rfl ?_
  refine WL.pv (PV.pick_f rfl rfl rfl) rfl ?_
  refine WL.mv rfl rfl ?_
  refine WL.split (t := 20) rfl (fun hg20 => ?_) (fun hg20 => ?_)
  · skip
    refine WL.known (t := 19) (c := true) rfl hg20 ?_
    try simp only [decide_eq_true_eq, decide_eq_false_iff_not, ne_eq, Decidable.not_not, Bool.not_eq_true', Bool.not_eq_false', Bool.and_eq_true, Bool.or_eq_true, Bool.not_not, Bool.and_eq_false_iff, Bool.or_eq_false_iff, Int.not_lt, Int.not_le] at hg20
    refine WL.off rfl ?_
    refine WL.off rfl ?_
    refine WL.off rfl ?_
    refine WL.off rfl ?_
    refine WL.pv (PV.pick_t rfl rfl rfl) rfl ?_
    refine WL.nil ?_
    refine WE.cond_t rfl ?_
    refine WE.seq_reg ?_
    refine WL.call TrydT.fb29 rfl (alive07_c  H.yylt (by exact H.rob 4 rfl) ) ?_
    rintro _ w5 ⟨rfl, hO⟩
    replace H := H.out hO
    refine WL.as rfl rfl ?_
    refine WL.nil ?_
    refine WE.ret ?_
    refine ⟨[_], _, .nil _, ⟨rfl, trivial⟩, ?_⟩
    refine ⟨?_, H.toOut0⟩
    rfl
  · skip
    refine WL.known (t := 19) (c := false) rfl hg20 ?_
    try simp only [decide_eq_true_eq, decide_eq_false_iff_not, ne_eq, Decidable.not_not, Bool.not_eq_true', Bool.not_eq_false', Bool.and_eq_true, Bool.or_eq_true, Bool.not_not, Bool.and_eq_false_iff, Bool.or_eq_false_iff, Int.not_lt, Int.not_le] at hg20
    have hfew := hFv17 (by simpa using hg20)
    refine WL.pv (PV.fieldAddr rfl TrydT.fd52_1 rfl) rfl ?_
    refine WL.load1 rfl TrydT.ag33 rfl rfl (by exact Blk.segAt (H.l 1 rfl) (Seg.r (Seg.all _) (by with_reducible rfl)) (by (simp [kc_length, kw_length, *]; done))) ?_
    refine WL.pv (PV.lenS (H.p 3 rfl) TrydT.sl33 rfl) rfl ?_
    refine WL.pv (PV.gtr rfl rfl rfl) rfl ?_
    refine WL.pv (PV.pick_f rfl rfl rfl) rfl ?_
    refine WL.nil ?_
    refine WE.cond rfl (fun hc25 => ?_) (fun hc25 => ?_)
    · skip
      try simp only [decide_eq_true_eq, decide_eq_false_iff_not, ne_eq, Decidable.not_not, Bool.not_eq_true', Bool.not_eq_false', Bool.and_eq_true, Bool.or_eq_true, Bool.not_not, Bool.and_eq_false_iff, Bool.or_eq_false_iff, Int.not_lt, Int.not_le] at hc25
      refine WE.seq_reg ?_
      refine WL.call TrydT.fb29 rfl (alive07_c  H.yylt (by exact H.rob 4 rfl) ) ?_
      rintro _ w6 ⟨rfl, hO⟩
      replace H := H.out hO
      refine WL.as rfl rfl ?_
      refine WL.nil ?_
      refine WE.ret ?_
      refine ⟨[_], _, .nil _, ⟨rfl, trivial⟩, ?_⟩
      refine ⟨?_, H.toOut0⟩
      rfl
    · skip
      try simp only [decide_eq_true_eq, decide_eq_false_iff_not, ne_eq, Decidable.not_not, Bool.not_eq_true', Bool.not_eq_false', Bool.and_eq_true, Bool.or_eq_true, Bool.not_not, Bool.and_eq_false_iff, Bool.or_eq_false_iff, Int.not_lt, Int.not_le] at hc25
      have hlv2 : lv.length ≤ 1000 := by omega
      refine WE.skip ?_
      refine WE.seq ?_
      refine WE.seq_reg ?_
      refine WL.mv rfl rfl ?_
      refine WL.pv (PV.eqlPn rfl TrydT.pt24 rfl rfl) rfl ?_
      refine WL.nil ?_
      refine WE.cond_f' rfl rfl ?_
      refine WE.skip ?_
      refine WE.seq_reg ?_
      refine WL.mv rfl rfl ?_
      refine WL.call TrydT.fb30 rfl (Of_c (l := l) H.yylt (by exact H.rob 1 rfl) (by exact H.rob 2 rfl) hkl (by omega)) ?_
      rintro v30 w7 ⟨hO, hR⟩
      replace H := (H.out hO).add hR
      have hok := ofM_ok l hkl
      have hpm := ofM_pm l hkl
      have hml : (ofM l).length ≤ 12 := Nat.le_trans hok.2.2.1 hfew.1
      have hvs := ofM_short hkl hfew.2
      have hsv : ShortV (ofM l) := fun e he => Nat.le_trans (hvs e he) (by decide)
      replace H := H.add (by exact (H.rob 3 rfl : Rob _ (Vals l) _).imp fun _ h => h.sub hok.2.2.2)
      refine WL.as rfl rfl ?_
      refine WL.nil ?_
      refine WE.seq_reg ?_
      refine WL.mv rfl rfl ?_
      refine WL.mv rfl rfl ?_
      refine WL.call TrydT.fb32 rfl (GrowT_c (m := ofM l) (d := 0) (bits := i) H.yylt (H.l 0 rfl) (by exact H.robL 0 rfl 2 rfl) (by exact H.robL 0 rfl 1 rfl) (by exact H.robL 0 rfl 0 rfl) (by exact H.robL 0 rfl 6 rfl) hpm (by omega) hsv hi) ?_
      rintro _ w8 ⟨Tv33, mv33, rfl, hTv33, hO, hB, hR⟩
      replace H := H.calledR 0 rfl hO hB hR
      refine WL.as rfl rfl ?_
      refine WL.nil ?_
      refine WE.seq_reg ?_
      refine WL.mv rfl rfl ?_
      refine WL.mv rfl rfl ?_
      refine WL.mv rfl rfl ?_
      refine WL.loadR rfl TrydT.ag52 rfl rfl (by exact Blk.segAt (H.l 1 rfl) (Seg.all _) (by rfl)) (by (rw [TrydT.sz52]; refine congrArg some ?_; (simp only [kc_length, kw_length, List.length_replicate, List.length_append, List.length_cons, List.length_nil, cutI_length, shaOf_length, dig_length, valD_length, rootM_length]; omega))) ?_
      refine WL.call TrydT.fb35 rfl (NewLeaf_c (k := k) (lv := lv) (s := vs) (bits := i) H.yylt (H.l 0 rfl) (by exact H.robL 0 rfl 3 rfl) (by exact H.robL 0 rfl 6 rfl) (by exact H.robL 0 rfl 7 rfl) hi (by omega) hk) ?_
      rintro _ w9 ⟨Tv38, mv38, rfl, hTv38, hO, hB, hR⟩
      replace H := H.calledR 0 rfl hO hB hR
      refine WL.call TrydT.fb34 rfl (Join_c (l := Tv33) (r := Tv38) (bits := i) H.yylt (H.l 0 rfl) (by exact H.robL 0 rfl 4 rfl) (by exact H.robL 0 rfl 1 rfl) (by exact H.robL 0 rfl 0 rfl) (by exact H.robL 0 rfl 8 rfl) hi (by rw [hTv33, hTv38, hpm.cnt]; simp [Sh.cnt]; omega)) ?_
      rintro _ w10 ⟨Tv39, mv39, rfl, hTv39, hO, hB, hR⟩
      replace H := H.calledR 0 rfl hO hB hR
      refine WL.nil ?_
      refine WE.seq_reg ?_
      refine WL.mv rfl rfl ?_
      refine WL.mv rfl rfl ?_
      refine WL.mv rfl rfl ?_
      refine WL.call TrydT.fb34 rfl (Join_c (l := .nil) (r := Tv33) (bits := i) H.yylt (H.l 0 rfl) (by exact H.robL 0 rfl 5 rfl) (by exact fun _ _ => trivial) (by exact H.robL 0 rfl 2 rfl) (by exact H.robL 0 rfl 9 rfl) hi (by rw [hTv33, hpm.cnt]; simp [Sh.cnt, Tr.er]; omega)) ?_
      rintro _ w11 ⟨Tv43, mv43, rfl, hTv43, hO, hB, hR⟩
      replace H := H.calledR 0 rfl hO hB hR
      refine WL.mv rfl rfl ?_
      refine WL.call TrydT.fb34 rfl (Join_c (l := Tv43) (r := Tv33) (bits := i) H.yylt (H.l 0 rfl) (by exact H.robL 0 rfl 6 rfl) (by exact H.robL 0 rfl 0 rfl) (by exact H.robL 0 rfl 3 rfl) (by exact H.robL 0 rfl 10 rfl) hi (by have := joinS_cnt (Tr.nil.er) Tv33.er; rw [hTv43, this, hTv33, hpm.cnt]; simp [Sh.cnt, Tr.er]; omega)) ?_
      rintro _ w12 ⟨Tv45, mv45, rfl, hTv45, hO, hB, hR⟩
      replace H := H.calledR 0 rfl hO hB hR
      refine WL.nil ?_
      refine WE.seq_reg ?_
      refine WL.call TrydT.fb29 rfl (alive07_c  H.yylt (by exact H.rob 11 rfl) ) ?_
      rintro _ w13 ⟨rfl, hO⟩
      replace H := H.out hO
      refine WL.mv rfl rfl ?_
      refine WL.known (t := 47) (c := true) rfl (by rfl) ?_
      refine WL.mv rfl rfl ?_
      refine WL.mv rfl rfl ?_
      refine WL.call TrydT.fb31 rfl (Digest_c (T := Tv33) (bits := i) H.yylt (H.l 0 rfl) (by exact H.robL 0 rfl 7 rfl) (by exact H.robL 0 rfl 4 rfl) (by exact H.robL 0 rfl 11 rfl) (by assumption)) ?_
      rintro _ w14 ⟨mv50, rfl, hO, hB⟩
      replace H := H.called 0 rfl hO hB
      refine WL.mv rfl rfl ?_
      refine WL.mv rfl rfl ?_
      refine WL.call TrydT.fb33 rfl (Root_c (m := ofM l) (d := 0) (bits := i) H.yylt (by exact H.rob 6 rfl) (by exact H.rob 5 rfl) (by exact H.rob 11 rfl) hpm (by omega) hsv hi) ?_
      rintro _ w15 ⟨rfl, hO⟩
      replace H := H.out hO
      refine WL.pv (PV.eqlB rfl TrydT.ar29 TrydT.in5 TrydT.sz5 (by kernel_rfl) rfl rfl (by exact dig_length _ _) (by exact dig_length _ _)) rfl ?_
      refine WL.pv (PV.pick_t rfl rfl rfl) rfl ?_
      refine WL.mv rfl rfl ?_
      refine WL.known (t := 56) (c := true) rfl (by simp [rootM, hTv33, hpm.cnt]) ?_
      refine WL.mv rfl rfl ?_
      refine WL.call TrydT.fb36 rfl (Len_c (T := Tv33) (bits := i) H.yylt (by exact H.rob 4 rfl) ) ?_
      rintro _ w16 ⟨rfl, hO⟩
      replace H := H.out hO
      refine WL.mv rfl rfl ?_
      refine WL.pv (PV.lenS (H.p 6 rfl) TrydT.sl42 rfl) rfl ?_
      refine WL.pv (PV.eql rfl rfl rfl) rfl ?_
      refine WL.pv (PV.pick_t rfl rfl rfl) rfl ?_
      refine WL.as rfl rfl ?_
      refine WL.nil ?_
      refine WE.ret ?_
      refine ⟨[_], _, .nil _, ⟨rfl, trivial⟩, ?_⟩
      refine ⟨?_, H.toOut0⟩
      show Value.bool _ = Value.bool true
      simp [rootM, hTv33, hpm.cnt]

theorem NodeNilBad_c {X : Nat → Prop} {w : World} {i : Int} (hX : ∀ b, X b → b < w.heap.size) (hf0 : Rob X (Rounds) w) (hi : ¬ (0 ≤ i ∧ i ≤ 256)) :
    Ret Tryd.prog 9 [.int .i64 i].toArray w fun v w' => v = .bool true ∧ Out Nil w w' := by
  refine Ret.of_body (N := 63) Tryd.func9 rfl rfl (by simp) ?_
  have H := St.begin hX
  replace H := H.add (rob0 hf0)
  refine WE.seq_reg ?_
  refine WL.as rfl rfl ?_
  refine WL.nil ?_
  refine WE.seq_reg ?_
  refine WL.mv rfl rfl ?_
  refine WL.call TrydT.fb27 rfl (HashBad_c (i := i) H.yylt  (by assumption)) ?_
  rintro _ w1 ⟨rfl, hO⟩
  replace H := H.out hO
  refine WL.as rfl rfl ?_
  refine WL.nil ?_
  refine WE.seq ?_
  refine WE.seq_reg ?_
  refine WL.mv rfl rfl ?_
  refine WL.call TrydT.fb17 rfl (Right_c  H.yylt  ) ?_
  rintro _ w2 ⟨rfl, hO⟩
  replace H := H.out hO
  refine WL.pv (PV.not rfl rfl) rfl ?_
  refine WL.nil ?_
  refine WE.cond_t' rfl (by simp [hi]) ?_
  refine WE.seq_reg ?_
  refine WL.call TrydT.fb29 rfl (alive07_c  H.yylt (by exact H.rob 0 rfl) ) ?_
  rintro _ w3 ⟨rfl, hO⟩
  replace H := H.out hO
  refine WL.as rfl rfl ?_
  refine WL.nil ?_
  refine WE.ret ?_
  refine ⟨[_], _, .nil _, ⟨rfl, trivial⟩, ?_⟩
  refine ⟨?_, H.toOut0⟩
  rfl

theorem NodeNil_c {X : Nat → Prop} {w : World} {i : Int} (hX : ∀ b, X b → b < w.heap.size) (hf0 : Rob X (Rounds) w) (hi : 0 ≤ i ∧ i ≤ 256) :
    Ret Tryd.prog 9 [.int .i64 i].toArray w fun v w' => v = .bool true ∧ Out Nil w w' := by
  refine Ret.of_body (N := 63) Tryd.func9 rfl rfl (by simp) ?_
  have H := St.begin hX
  replace H := H.add (rob0 hf0)
  refine WE.seq_reg ?_
  refine WL.as rfl rfl ?_
  refine WL.nil ?_
  refine WE.seq_reg ?_
  refine WL.mv rfl rfl ?_
  refine WL.call TrydT.fb27 rfl (Hash_c (i := i) H.yylt  (by assumption)) ?_
  rintro _ w1 ⟨bhv7, bcv7, rfl, hO, hge, hB, hR⟩
  replace H := H.pushR hO (Ent.blk bcv7 86 [.int .i64 0]) hB (fun c hc => by cases hc; exact hge) hR
  refine WL.as rfl rfl ?_
  refine WL.nil ?_
  refine WE.seq ?_
  refine WE.seq_reg ?_
  refine WL.mv rfl rfl ?_
  refine WL.call TrydT.fb17 rfl (Right_c  H.yylt  ) ?_
  rintro _ w2 ⟨rfl, hO⟩
  replace H := H.out hO
  refine WL.pv (PV.not rfl rfl) rfl ?_
  refine WL.nil ?_
  refine WE.cond_f' rfl (by simp [hi]) ?_
  refine WE.skip ?_
  refine WE.seq ?_
  refine WE.seq_reg ?_
  refine WL.mv rfl rfl ?_
  refine WL.pv (PV.eqlPn rfl TrydT.pt24 rfl rfl) rfl ?_
  refine WL.nil ?_
  refine WE.cond_f' rfl rfl ?_
  refine WE.skip ?_
  refine WE.seq_reg ?_
  refine WL.as rfl rfl ?_
  refine WL.nil ?_
  refine WE.seq_reg ?_
  refine WL.mv rfl rfl ?_
  refine WL.call TrydT.fb37 rfl (Entry_c (T := .nil) (bits := i) H.yylt (by exact fun _ _ => trivial) ) ?_
  rintro _ w3 ⟨sv15, rfl, hO, hOwn⟩
  have hs1v15 := SlC.one1 (SlB.of_own hOwn)
  have hr_ := (rob_own H.yylt hOwn).imp fun _ h => SlB.of_own h
  replace H := (H.out hO).add hr_
  refine WL.alloc H rfl TrydT.ze52 rfl ?_
  intro b5 w4 H
  refine WL.storeL H 0 rfl rfl rfl (new := _) rfl (by exact TrydT.sz52) (one_append (kc_one _) (one_lit _ (by simp [hs1v15]))) (Laid.at (Laid.all (by rfl)) (by rfl)) rfl ?_
  intro w5 H
  refine WL.nil ?_
  refine WE.seq_reg ?_
  refine WL.call TrydT.fb29 rfl (alive07_c  H.yylt (by exact H.rob 2 rfl) ) ?_
  rintro _ w6 ⟨rfl, hO⟩
  replace H := H.out hO
  refine WL.mv rfl rfl ?_
  refine WL.known (t := 17) (c := true) rfl (by rfl) ?_
  refine WL.mv rfl rfl ?_
  refine WL.call TrydT.fb40 rfl (NKind_c (T := .nil) (bits := i) H.yylt (by exact fun _ _ => trivial) ) ?_
  rintro _ w7 ⟨rfl, hO⟩
  replace H := H.out hO
  refine WL.pv (PV.eql rfl rfl rfl) rfl ?_
  refine WL.pv (PV.pick_t rfl rfl rfl) rfl ?_
  refine WL.mv rfl rfl ?_
  refine WL.known (t := 22) (c := true) rfl (by rfl) ?_
  refine WL.pv (PV.fieldAddr rfl TrydT.fd52_0 rfl) rfl ?_
  refine WL.loadR rfl TrydT.ag36 rfl rfl (by exact Blk.segAt (H.l 0 rfl) (Seg.l (Seg.all _)) (by rfl)) (by exact TrydT.sz36) ?_
  refine WL.pv (PV.buildA rfl TrydT.ar36 TrydT.sz5 TrydT.ze36 Fl.nil) rfl ?_
  refine WL.pv (PV.eqlB rfl TrydT.ar36 TrydT.in5 TrydT.sz5 (by kernel_rfl) rfl rfl (by exact rfl) (by exact rfl)) rfl ?_
  refine WL.pv (PV.pick_t rfl rfl rfl) rfl ?_
  refine WL.mv rfl rfl ?_
  refine WL.known (t := 28) (c := true) rfl (by rfl) ?_
  refine WL.pv (PV.fieldAddr rfl TrydT.fd52_1 rfl) rfl ?_
  refine WL.load1 rfl TrydT.ag33 rfl rfl (by exact Blk.segAt (H.l 0 rfl) (Seg.r (Seg.all _) (by with_reducible rfl)) (by rfl)) ?_
  refine WL.pv (PV.lenS (H.p 0 rfl) TrydT.sl33 rfl) rfl ?_
  refine WL.pv (PV.eql rfl rfl rfl) rfl ?_
  refine WL.pv (PV.pick_t rfl rfl rfl) rfl ?_
  refine WL.mv rfl rfl ?_
  refine WL.known (t := 34) (c := true) rfl (by rfl) ?_
  refine WL.mv rfl rfl ?_
  refine WL.call TrydT.fb39 rfl (Leaf2_c (T := .nil) (bits := i) H.yylt (by exact fun _ _ => trivial) ) ?_
  rintro _ w8 ⟨rfl, hO⟩
  replace H := H.out hO
  refine WL.pv (PV.buildS rfl TrydT.pl38 TrydT.ze38 Fl.nil) rfl ?_
  refine WL.pv (PV.eqlV rfl TrydT.eg38 rfl rfl (EqV.struct (n := 3) TrydT.ef38 (EqF.cons (PartAt.agg TrydT.ag36 (by exact TrydT.sz36) (Seg.l (Seg.all _))) (PartAt.agg TrydT.ag36 (by exact TrydT.sz36) (Seg.l (Seg.all _))) (EqV.mono (EqV.bytes TrydT.ar36 TrydT.in5 TrydT.sz5 (by exact rfl) (by exact rfl)) (by decide)) (EqF.cons (PartAt.agg TrydT.ag29 (by exact TrydT.sz29) (Seg.r (Seg.all _) (by rfl))) (PartAt.agg TrydT.ag29 (by exact TrydT.sz29) (Seg.r (Seg.all _) (by (simp only [kc_length, kw_length, List.length_replicate, List.length_append, List.length_cons, List.length_nil, cutI_length, shaOf_length, dig_length, valD_length, rootM_length]; done)))) (EqV.mono (EqV.bytes TrydT.ar29 TrydT.in5 TrydT.sz5 (by exact rfl) (by exact rfl)) (by decide)) EqF.nil))) (by decide)) rfl ?_
  refine WL.pv (PV.pick_t rfl rfl rfl) rfl ?_
  refine WL.mv rfl rfl ?_
  refine WL.known (t := 40) (c := true) rfl (by rfl) ?_
  refine WL.mv rfl rfl ?_
  refine WL.call TrydT.fb41 rfl (Left_c (T := .nil) (bits := i) H.yylt (by exact fun _ _ => trivial) ) ?_
  rintro _ w9 ⟨rfl, hO⟩
  replace H := H.out hO
  refine WL.pv (PV.eqlPn rfl TrydT.pt47 rfl rfl) rfl ?_
  refine WL.pv (PV.pick_t rfl rfl rfl) rfl ?_
  refine WL.mv rfl rfl ?_
  refine WL.known (t := 45) (c := true) rfl (by rfl) ?_
  refine WL.mv rfl rfl ?_
  refine WL.call TrydT.fb42 rfl (Right2_c (T := .nil) (bits := i) H.yylt (by exact fun _ _ => trivial) ) ?_
  rintro _ w10 ⟨rfl, hO⟩
  replace H := H.out hO
  refine WL.pv (PV.eqlPn rfl TrydT.pt47 rfl rfl) rfl ?_
  refine WL.pv (PV.pick_t rfl rfl rfl) rfl ?_
  refine WL.mv rfl rfl ?_
  refine WL.known (t := 50) (c := true) rfl (by rfl) ?_
  refine WL.mv rfl rfl ?_
  refine WL.call TrydT.fb36 rfl (Len_c (T := .nil) (bits := i) H.yylt (by exact fun _ _ => trivial) ) ?_
  rintro _ w11 ⟨rfl, hO⟩
  replace H := H.out hO
  refine WL.pv (PV.eql rfl rfl rfl) rfl ?_
  refine WL.pv (PV.pick_t rfl rfl rfl) rfl ?_
  refine WL.mv rfl rfl ?_
  refine WL.known (t := 55) (c := true) rfl (by rfl) ?_
  refine WL.mv rfl rfl ?_
  refine WL.mv rfl rfl ?_
  refine WL.call TrydT.fb31 rfl (Digest_c (T := .nil) (bits := i) H.yylt (H.l 1 rfl) (by exact H.robL 1 rfl 1 rfl) (by exact fun _ _ => trivial) (by exact H.robL 1 rfl 2 rfl) (by assumption)) ?_
  rintro _ w12 ⟨mv58, rfl, hO, hB⟩
  replace H := H.called 1 rfl hO hB
  refine WL.mv rfl rfl ?_
  refine WL.call TrydT.fb43 rfl (refEmpty_c (i := i) H.yylt (by exact H.rob 2 rfl) (by assumption)) ?_
  rintro _ w13 ⟨rfl, hO⟩
  replace H := H.out hO
  refine WL.pv (PV.eqlB rfl TrydT.ar29 TrydT.in5 TrydT.sz5 (by kernel_rfl) rfl rfl (by exact rfl) (by exact rfl)) rfl ?_
  refine WL.pv (PV.pick_t rfl rfl rfl) rfl ?_
  refine WL.as rfl rfl ?_
  refine WL.nil ?_
  refine WE.ret ?_
  refine ⟨[_], _, .nil _, ⟨rfl, trivial⟩, ?_⟩
  refine ⟨?_, H.toOut0⟩
  show Value.bool _ = Value.bool true
  simp; rfl

theorem NodeCachesBad_c {X : Nat → Prop} {w : World} {i : Int} {s : Value} {l : List En} (hX : ∀ b, X b → b < w.heap.size) (hf0 : Rob X (SlE s l) w) (hf1 : Rob X (Vals l) w) (hf2 : Rob X (Rounds) w) (hi : ¬ (0 ≤ i ∧ i ≤ 256)) (hkl : KL l) (hlen : l.length ≤ 9223372036854775807) (hvl : ∀ e ∈ l, e.v.length ≤ 9223372036854775807) :
    Ret Tryd.prog 10 [.int .i64 i, s].toArray w fun v w' => v = .bool true ∧ Out Nil w w' := by
  refine Ret.of_body (N := 60) Tryd.func10 rfl rfl (by simp) ?_
  have H := St.begin hX
  replace H := H.add (rob0 hf2)
  replace H := H.add (rob0 hf1)
  replace H := H.add (rob0 hf0)
  refine WE.seq_reg ?_
  refine WL.as rfl rfl ?_
  refine WL.nil ?_
  refine WE.seq_reg ?_
  refine WL.mv rfl rfl ?_
  refine WL.call TrydT.fb27 rfl (HashBad_c (i := i) H.yylt  (by assumption)) ?_
  rintro _ w1 ⟨rfl, hO⟩
  replace H := H.out hO
  refine WL.as rfl rfl ?_
  refine WL.nil ?_
  refine WE.seq ?_
  refine WE.seq_reg ?_
  refine WL.mv rfl rfl ?_
  refine WL.call TrydT.fb17 rfl (Right_c  H.yylt  ) ?_
  rintro _ w2 ⟨rfl, hO⟩
  replace H := H.out hO
  refine WL.pv (PV.not rfl rfl) rfl ?_
  refine WL.mv rfl rfl ?_
  refine WL.known (t := 14) (c := true) rfl (by simp [hi]) ?_
  refine WL.off rfl ?_
  refine WL.off rfl ?_
  refine WL.off rfl ?_
  refine WL.pv (PV.pick_t rfl rfl rfl) rfl ?_
  refine WL.nil ?_
  refine WE.cond_t rfl ?_
  refine WE.seq_reg ?_
  refine WL.call TrydT.fb29 rfl (alive07_c  H.yylt (by exact H.rob 2 rfl) ) ?_
  rintro _ w3 ⟨rfl, hO⟩
  replace H := H.out hO
  refine WL.as rfl rfl ?_
  refine WL.nil ?_
  refine WE.ret ?_
  refine ⟨[_], _, .nil _, ⟨rfl, trivial⟩, ?_⟩
  refine ⟨?_, H.toOut0⟩
  rfl


theorem DigestN_c {X : Nat → Prop} {w : World} {bits : Int} {h : Value} {T : Tr} (hX : ∀ b, X b → b < w.heap.size) (hf1 : Rob X (TrA bits T) w) (hne : T ≠ .nil) :
    Ret Tryd.prog 31 [h, T.ptr].toArray w fun v w' => v = .agg (kc (T.er.dig bits)).toArray ∧ Out Nil w w' := by
  cases T with
  | nil => exact absurd rfl hne
  | leaf a k v s => exact DigestAt_c hX (hf1.imp fun _ h => h.2.2.2) (cutI_length _ _)
  | inner a l r => exact DigestAt_c hX (hf1.imp fun _ h => h.2.2) (cutI_length _ _)
theorem Tr.ne_nil {T : Tr} {m : List En} (h : T.er = grow 0 m) (hp : Pm 0 m) (hm : m ≠ []) : T ≠ .nil := fun e => by
  have h1 := congrArg Sh.cnt h
  rw [hp.cnt, e] at h1
  exact hm (List.eq_nil_of_length_eq_zero h1.symm)

theorem NodeCaches0_c {X : Nat → Prop} {w : World} {i : Int} {s : Value} {l : List En} (hX : ∀ b, X b → b < w.heap.size) (hf0 : Rob X (SlE s l) w) (hf1 : Rob X (Vals l) w) (hf2 : Rob X (Rounds) w) (hi : 0 ≤ i ∧ i ≤ 256) (hkl : KL l) (hlen : l.length ≤ 9223372036854775807) (hvl : ∀ e ∈ l, e.v.length ≤ 9223372036854775807) (hm : ofM l = []) :
    Ret Tryd.prog 10 [.int .i64 i, s].toArray w fun v w' => v = .bool true ∧ Out Nil w w' := by
  refine Ret.of_body (N := 60) Tryd.func10 rfl rfl (by simp) ?_
  have H := St.begin hX
  replace H := H.add (rob0 hf2)
  replace H := H.add (rob0 hf1)
  replace H := H.add (rob0 hf0)
  refine WE.seq_reg ?_
  refine WL.as rfl rfl ?_
  refine WL.nil ?_
  refine WE.seq_reg ?_
  refine WL.mv rfl rfl ?_
  refine WL.call TrydT.fb27 rfl (Hash_c (i := i) H.yylt  (by assumption)) ?_
  rintro _ w1 ⟨bhv10, bcv10, rfl, hO, hge, hB, hR⟩
  replace H := H.pushR hO (Ent.blk bcv10 86 [.int .i64 0]) hB (fun c hc => by cases hc; exact hge) hR
  refine WL.as rfl rfl ?_
  refine WL.nil ?_
  refine WE.seq ?_
  refine WE.seq_reg ?_
  refine WL.mv rfl rfl ?_
  refine WL.call TrydT.fb17 rfl (Right_c  H.yylt  ) ?_
  rintro _ w2 ⟨rfl, hO⟩
  replace H := H.out hO
  refine WL.pv (PV.not rfl rfl) rfl ?_
  refine WL.mv rfl rfl ?_
  refine WL.known (t := 14) (c := false) rfl (by (simp [hi]; done)) ?_
  refine WL.mv rfl rfl ?_
  refine WL.call TrydT.fb28 rfl (FewB_c (m := l) H.yylt (by exact H.rob 1 rfl) (by exact H.rob 2 rfl) (by assumption) (by assumption) (by assumption)) ?_
  rintro _ w3 ⟨bv16, rfl, hFv16, hO⟩
  replace H := H.out hO
  refine WL.pv (PV.not rfl rfl) rfl ?_
  refine WL.pv (PV.pick_f rfl rfl rfl) rfl ?_
  refine WL.nil ?_
  refine WE.cond rfl (fun hc18 => ?_) (fun hc18 => ?_)
  · skip
    try simp only [decide_eq_true_eq, decide_eq_false_iff_not, ne_eq, Decidable.not_not, Bool.not_eq_true', Bool.not_eq_false', Bool.and_eq_true, Bool.or_eq_true, Bool.not_not, Bool.and_eq_false_iff, Bool.or_eq_false_iff, Int.not_lt, Int.not_le] at hc18
    refine WE.seq_reg ?_
    refine WL.call TrydT.fb29 rfl (alive07_c  H.yylt (by exact H.rob 3 rfl) ) ?_
    rintro _ w4 ⟨rfl, hO⟩
    replace H := H.out hO
    refine WL.as rfl rfl ?_
    refine WL.nil ?_
    refine WE.ret ?_
    refine ⟨[_], _, .nil _, ⟨rfl, trivial⟩, ?_⟩
    refine ⟨?_, H.toOut0⟩
    rfl
  · skip
    try simp only [decide_eq_true_eq, decide_eq_false_iff_not, ne_eq, Decidable.not_not, Bool.not_eq_true', Bool.not_eq_false', Bool.and_eq_true, Bool.or_eq_true, Bool.not_not, Bool.and_eq_false_iff, Bool.or_eq_false_iff, Int.not_lt, Int.not_le] at hc18
    have hfew := hFv16 (by simpa using hc18)
    refine WE.skip ?_
    refine WE.seq ?_
    refine WE.seq_reg ?_
    refine WL.mv rfl rfl ?_
    refine WL.pv (PV.eqlPn rfl TrydT.pt24 rfl rfl) rfl ?_
    refine WL.nil ?_
    refine WE.cond_f' rfl rfl ?_
    refine WE.skip ?_
    refine WE.seq_reg ?_
    refine WL.mv rfl rfl ?_
    refine WL.call TrydT.fb30 rfl (Of_c (l := l) H.yylt (by exact H.rob 1 rfl) (by exact H.rob 2 rfl) hkl (by omega)) ?_
    rintro v23 w5 ⟨hO, hR⟩
    replace H := (H.out hO).add hR
    have hok := ofM_ok l hkl
    have hpm := ofM_pm l hkl
    have hml : (ofM l).length ≤ 12 := Nat.le_trans hok.2.2.1 hfew.1
    have hvs := ofM_short hkl hfew.2
    have hsv : ShortV (ofM l) := fun e he => Nat.le_trans (hvs e he) (by decide)
    replace H := H.add (by exact (H.rob 3 rfl : Rob _ (Vals l) _).imp fun _ h => h.sub hok.2.2.2)
    refine WL.as rfl rfl ?_
    refine WL.nil ?_
    refine WE.seq_reg ?_
    refine WL.mv rfl rfl ?_
    refine WL.mv rfl rfl ?_
    refine WL.call TrydT.fb32 rfl (GrowT_c (m := ofM l) (d := 0) (bits := i) H.yylt (H.l 0 rfl) (by exact H.robL 0 rfl 2 rfl) (by exact H.robL 0 rfl 1 rfl) (by exact H.robL 0 rfl 0 rfl) (by exact H.robL 0 rfl 5 rfl) hpm (by omega) hsv hi) ?_
    rintro _ w6 ⟨Tv26, mv26, rfl, hTv26, hO, hB, hR⟩
    replace H := H.calledR 0 rfl hO hB hR
    refine WL.as rfl rfl ?_
    refine WL.nil ?_
    refine WE.seq_reg ?_
    refine WL.mv rfl rfl ?_
    refine WL.call TrydT.fb21 rfl (Fork_c (bits := i) H.yylt (by exact H.rob 3 rfl) ) ?_
    rintro _ w7 ⟨bhv28, bcv28, rfl, hO, hge, hB, hR⟩
    replace H := H.pushR hO (Ent.blk bcv28 86 [.int .i64 0]) hB (fun c hc => by cases hc; exact hge) hR
    refine WL.as rfl rfl ?_
    refine WL.nil ?_
    refine WE.seq ?_
    refine WE.seq_reg ?_
    refine WL.mv rfl rfl ?_
    refine WL.pv (PV.eqlPn rfl TrydT.pt24 rfl rfl) rfl ?_
    refine WL.mv rfl rfl ?_
    refine WL.known (t := 31) (c := false) rfl (by rfl) ?_
    refine WL.mv rfl rfl ?_
    refine WL.mv rfl rfl ?_
    refine WL.call TrydT.fb31 rfl (Digest_c (T := Tv26) (bits := i) H.yylt (H.l 0 rfl) (by exact H.robL 0 rfl 0 rfl) (by exact H.robL 0 rfl 1 rfl) (by exact H.robL 0 rfl 7 rfl) (by assumption)) ?_
    rintro _ w8 ⟨mv34, rfl, hO, hB⟩
    replace H := H.called 0 rfl hO hB
    refine WL.mv rfl rfl ?_
    refine WL.mv rfl rfl ?_
    refine WL.call TrydT.fb33 rfl (Root_c (m := ofM l) (d := 0) (bits := i) H.yylt (by exact H.rob 3 rfl) (by exact H.rob 2 rfl) (by exact H.rob 7 rfl) hpm (by omega) hsv hi) ?_
    rintro _ w9 ⟨rfl, hO⟩
    replace H := H.out hO
    refine WL.pv (PV.neqB rfl TrydT.ar29 TrydT.in5 TrydT.sz5 (by kernel_rfl) rfl rfl (by exact dig_length _ _) (by exact dig_length _ _)) rfl ?_
    refine WL.pv (PV.pick_f rfl rfl rfl) rfl ?_
    refine WL.mv rfl rfl ?_
    refine WL.known (t := 40) (c := false) rfl (by simp [rootM, hTv26]) ?_
    refine WL.mv rfl rfl ?_
    refine WL.mv rfl rfl ?_
    refine WL.call TrydT.fb31 rfl (Digest_c (T := Tv26) (bits := i) H.yylt (H.l 0 rfl) (by exact H.robL 0 rfl 0 rfl) (by exact H.robL 0 rfl 1 rfl) (by exact H.robL 0 rfl 7 rfl) (by assumption)) ?_
    rintro _ w10 ⟨mv43, rfl, hO, hB⟩
    replace H := H.called 0 rfl hO hB
    refine WL.mv rfl rfl ?_
    refine WL.mv rfl rfl ?_
    refine WL.call TrydT.fb31 rfl (Digest_c (T := Tv26) (bits := i) H.yylt (H.l 1 rfl) (by exact H.robL 1 rfl 4 rfl) (by exact H.robL 1 rfl 1 rfl) (by exact H.robL 1 rfl 7 rfl) (by assumption)) ?_
    rintro _ w11 ⟨mv46, rfl, hO, hB⟩
    replace H := H.called 1 rfl hO hB
    refine WL.pv (PV.neqB rfl TrydT.ar29 TrydT.in5 TrydT.sz5 (by kernel_rfl) rfl rfl (by exact dig_length _ _) (by exact dig_length _ _)) rfl ?_
    refine WL.pv (PV.pick_f rfl rfl rfl) rfl ?_
    refine WL.nil ?_
    refine WE.cond_f' rfl (by simp [rootM, hTv26]) ?_
    refine WE.skip ?_
    refine WE.seq_reg ?_
    refine WL.call TrydT.fb29 rfl (alive07_c  H.yylt (by exact H.rob 7 rfl) ) ?_
    rintro _ w12 ⟨rfl, hO⟩
    replace H := H.out hO
    refine WL.mv rfl rfl ?_
    refine WL.known (t := 50) (c := true) rfl (by rfl) ?_
    refine WL.mv rfl rfl ?_
    refine WL.pv (PV.lenS (H.p 3 rfl) TrydT.sl42 rfl) rfl ?_
    refine WL.pv (PV.eql rfl rfl rfl) rfl ?_
    refine WL.mv rfl rfl ?_
    refine WL.known (t := 54) (c := true) rfl (by simp [hm]) ?_
    refine WL.off rfl ?_
    refine WL.off rfl ?_
    refine WL.off rfl ?_
    refine WL.pv (PV.pick_t rfl rfl rfl) rfl ?_
    refine WL.pv (PV.pick_t rfl rfl rfl) rfl ?_
    refine WL.as rfl rfl ?_
    refine WL.nil ?_
    refine WE.ret ?_
    refine ⟨[_], _, .nil _, ⟨rfl, trivial⟩, ?_⟩
    refine ⟨?_, H.toOut0⟩
    rfl

theorem NodeCaches1_c {X : Nat → Prop} {w : World} {i : Int} {s : Value} {l : List En} (hX : ∀ b, X b → b < w.heap.size) (hf0 : Rob X (SlE s l) w) (hf1 : Rob X (Vals l) w) (hf2 : Rob X (Rounds) w) (hi : 0 ≤ i ∧ i ≤ 256) (hkl : KL l) (hlen : l.length ≤ 9223372036854775807) (hvl : ∀ e ∈ l, e.v.length ≤ 9223372036854775807) (hm : ofM l ≠ []) :
    Ret Tryd.prog 10 [.int .i64 i, s].toArray w fun v w' => v = .bool true ∧ Out Nil w w' := by
  refine Ret.of_body (N := 60) Tryd.func10 rfl rfl (by simp) ?_
  have H := St.begin hX
  replace H := H.add (rob0 hf2)
  replace H := H.add (rob0 hf1)
  replace H := H.add (rob0 hf0)
  refine WE.seq_reg ?_
  refine WL.as rfl rfl ?_
  refine WL.nil ?_
  refine WE.seq_reg ?_
  refine WL.mv rfl rfl ?_
  refine WL.call TrydT.fb27 rfl (Hash_c (i := i) H.yylt  (by assumption)) ?_
  rintro _ w1 ⟨bhv10, bcv10, rfl, hO, hge, hB, hR⟩
  replace H := H.pushR hO (Ent.blk bcv10 86 [.int .i64 0]) hB (fun c hc => by cases hc; exact hge) hR
  refine WL.as rfl rfl ?_
  refine WL.nil ?_
  refine WE.seq ?_
  refine WE.seq_reg ?_
  refine WL.mv rfl rfl ?_
  refine WL.call TrydT.fb17 rfl (Right_c  H.yylt  ) ?_
  rintro _ w2 ⟨rfl, hO⟩
  replace H := H.out hO
  refine WL.pv (PV.not rfl rfl) rfl ?_
  refine WL.mv rfl rfl ?_
  refine WL.known (t := 14) (c := false) rfl (by (simp [hi]; done)) ?_
  refine WL.mv rfl rfl ?_
  refine WL.call TrydT.fb28 rfl (FewB_c (m := l) H.yylt (by exact H.rob 1 rfl) (by exact H.rob 2 rfl) (by assumption) (by assumption) (by assumption)) ?_
  rintro _ w3 ⟨bv16, rfl, hFv16, hO⟩
  replace H := H.out hO
  refine WL.pv (PV.not rfl rfl) rfl ?_
  refine WL.pv (PV.pick_f rfl rfl rfl) rfl ?_
  refine WL.nil ?_
  refine WE.cond rfl (fun hc18 => ?_) (fun hc18 => ?_)
  · skip
    try simp only [decide_eq_true_eq, decide_eq_false_iff_not, ne_eq, Decidable.not_not, Bool.not_eq_true', Bool.not_eq_false', Bool.and_eq_true, Bool.or_eq_true, Bool.not_not, Bool.and_eq_false_iff, Bool.or_eq_false_iff, Int.not_lt, Int.not_le] at hc18
    refine WE.seq_reg ?_
    refine WL.call TrydT.fb29 rfl (alive07_c  H.yylt (by exact H.rob 3 rfl) ) ?_
    rintro _ w4 ⟨rfl, hO⟩
    replace H := H.out hO
    refine WL.as rfl rfl ?_
    refine WL.nil ?_
    refine WE.ret ?_
    refine ⟨[_], _, .nil _, ⟨rfl, trivial⟩, ?_⟩
    refine ⟨?_, H.toOut0⟩
    rfl
  · skip
    try simp only [decide_eq_true_eq, decide_eq_false_iff_not, ne_eq, Decidable.not_not, Bool.not_eq_true', Bool.not_eq_false', Bool.and_eq_true, Bool.or_eq_true, Bool.not_not, Bool.and_eq_false_iff, Bool.or_eq_false_iff, Int.not_lt, Int.not_le] at hc18
    have hfew := hFv16 (by simpa using hc18)
    refine WE.skip ?_
    refine WE.seq ?_
    refine WE.seq_reg ?_
    refine WL.mv rfl rfl ?_
    refine WL.pv (PV.eqlPn rfl TrydT.pt24 rfl rfl) rfl ?_
    refine WL.nil ?_
    refine WE.cond_f' rfl rfl ?_
    refine WE.skip ?_
    refine WE.seq_reg ?_
    refine WL.mv rfl rfl ?_
    refine WL.call TrydT.fb30 rfl (Of_c (l := l) H.yylt (by exact H.rob 1 rfl) (by exact H.rob 2 rfl) hkl (by omega)) ?_
    rintro v23 w5 ⟨hO, hR⟩
    replace H := (H.out hO).add hR
    have hok := ofM_ok l hkl
    have hpm := ofM_pm l hkl
    have hml : (ofM l).length ≤ 12 := Nat.le_trans hok.2.2.1 hfew.1
    have hvs := ofM_short hkl hfew.2
    have hsv : ShortV (ofM l) := fun e he => Nat.le_trans (hvs e he) (by decide)
    replace H := H.add (by exact (H.rob 3 rfl : Rob _ (Vals l) _).imp fun _ h => h.sub hok.2.2.2)
    refine WL.as rfl rfl ?_
    refine WL.nil ?_
    refine WE.seq_reg ?_
    refine WL.mv rfl rfl ?_
    refine WL.mv rfl rfl ?_
    refine WL.call TrydT.fb32 rfl (GrowT_c (m := ofM l) (d := 0) (bits := i) H.yylt (H.l 0 rfl) (by exact H.robL 0 rfl 2 rfl) (by exact H.robL 0 rfl 1 rfl) (by exact H.robL 0 rfl 0 rfl) (by exact H.robL 0 rfl 5 rfl) hpm (by omega) hsv hi) ?_
    rintro _ w6 ⟨Tv26, mv26, rfl, hTv26, hO, hB, hR⟩
    replace H := H.calledR 0 rfl hO hB hR
    have hne := Tr.ne_nil hTv26 hpm hm
    refine WL.as rfl rfl ?_
    refine WL.nil ?_
    refine WE.seq_reg ?_
    refine WL.mv rfl rfl ?_
    refine WL.call TrydT.fb21 rfl (Fork_c (bits := i) H.yylt (by exact H.rob 3 rfl) ) ?_
    rintro _ w7 ⟨bhv28, bcv28, rfl, hO, hge, hB, hR⟩
    replace H := H.pushR hO (Ent.blk bcv28 86 [.int .i64 0]) hB (fun c hc => by cases hc; exact hge) hR
    refine WL.as rfl rfl ?_
    refine WL.nil ?_
    refine WE.seq ?_
    refine WE.seq_reg ?_
    refine WL.mv rfl rfl ?_
    refine WL.pv (PV.eqlPn rfl TrydT.pt24 rfl rfl) rfl ?_
    refine WL.mv rfl rfl ?_
    refine WL.known (t := 31) (c := false) rfl (by rfl) ?_
    refine WL.mv rfl rfl ?_
    refine WL.mv rfl rfl ?_
    refine WL.call TrydT.fb31 rfl (DigestN_c (T := Tv26) (bits := i) H.yylt (by exact H.rob 1 rfl) hne) ?_
    rintro _ w8 ⟨rfl, hO⟩
    replace H := H.out hO
    refine WL.mv rfl rfl ?_
    refine WL.mv rfl rfl ?_
    refine WL.call TrydT.fb33 rfl (Root_c (m := ofM l) (d := 0) (bits := i) H.yylt (by exact H.rob 3 rfl) (by exact H.rob 2 rfl) (by exact H.rob 7 rfl) hpm (by omega) hsv hi) ?_
    rintro _ w9 ⟨rfl, hO⟩
    replace H := H.out hO
    refine WL.pv (PV.neqB rfl TrydT.ar29 TrydT.in5 TrydT.sz5 (by kernel_rfl) rfl rfl (by exact dig_length _ _) (by exact dig_length _ _)) rfl ?_
    refine WL.pv (PV.pick_f rfl rfl rfl) rfl ?_
    refine WL.mv rfl rfl ?_
    refine WL.known (t := 40) (c := false) rfl (by simp [rootM, hTv26]) ?_
    refine WL.mv rfl rfl ?_
    refine WL.mv rfl rfl ?_
    refine WL.call TrydT.fb31 rfl (DigestN_c (T := Tv26) (bits := i) H.yylt (by exact H.rob 1 rfl) hne) ?_
    rintro _ w10 ⟨rfl, hO⟩
    replace H := H.out hO
    refine WL.mv rfl rfl ?_
    refine WL.mv rfl rfl ?_
    refine WL.call TrydT.fb31 rfl (DigestN_c (T := Tv26) (bits := i) H.yylt (by exact H.rob 1 rfl) hne) ?_
    rintro _ w11 ⟨rfl, hO⟩
    replace H := H.out hO
    refine WL.pv (PV.neqB rfl TrydT.ar29 TrydT.in5 TrydT.sz5 (by kernel_rfl) rfl rfl (by exact dig_length _ _) (by exact dig_length _ _)) rfl ?_
    refine WL.pv (PV.pick_f rfl rfl rfl) rfl ?_
    refine WL.nil ?_
    refine WE.cond_f' rfl (by simp [rootM, hTv26]) ?_
    refine WE.skip ?_
    refine WE.seq_reg ?_
    refine WL.call TrydT.fb29 rfl (alive07_c  H.yylt (by exact H.rob 7 rfl) ) ?_
    rintro _ w12 ⟨rfl, hO⟩
    replace H := H.out hO
    refine WL.mv rfl rfl ?_
    refine WL.known (t := 50) (c := true) rfl (by rfl) ?_
    refine WL.mv rfl rfl ?_
    refine WL.pv (PV.lenS (H.p 3 rfl) TrydT.sl42 rfl) rfl ?_
    refine WL.pv (PV.eql rfl rfl rfl) rfl ?_
    refine WL.mv rfl rfl ?_
    refine WL.known (t := 54) (c := false) rfl (by (simp [hm]; done)) ?_
    refine WL.mv rfl rfl ?_
    refine WL.call TrydT.fb22 rfl (Calls_c (X := Nil) (bits := i) (n := 0) (nilX _) (by exact (H.rob 0 rfl).nil) ((H.robN 0 rfl).imp fun _ h => h.rd)) ?_
    rintro _ w13 ⟨rfl, hO⟩
    replace H := H.out hO
    refine WL.pv (PV.eql rfl rfl rfl) rfl ?_
    refine WL.pv (PV.pick_f rfl rfl rfl) rfl ?_
    refine WL.pv (PV.pick_t rfl rfl rfl) rfl ?_
    refine WL.as rfl rfl ?_
    refine WL.nil ?_
    refine WE.ret ?_
    refine ⟨[_], _, .nil _, ⟨rfl, trivial⟩, ?_⟩
    refine ⟨?_, H.toOut0⟩
    rfl

end Go.Sp.Tryd
