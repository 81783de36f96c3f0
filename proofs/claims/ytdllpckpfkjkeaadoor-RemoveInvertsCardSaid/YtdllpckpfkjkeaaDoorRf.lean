/- Walks of functions, printed by a program of this session (gen.py) from notes on each function. -/
import Derived.Test.YtdllpckpfkjkeaaDoorRc
set_option maxRecDepth 100000
set_option maxHeartbeats 1000000
set_option linter.unusedVariables false
set_option linter.unusedSimpArgs false
namespace Go.Sp.Tryd
open Go.Proofs Go.RowKit Go.Sp

theorem rm_put {m : List En} {e : En} (hs : Srt m) (hk : KL m) (he : e.k.length = 32) (hg : getM m e.k = none) : rmM (putM m e) e.k = m := by
  refine Srt.ext ((putM_srt hs hk he).filter _) hs fun x => ?_
  have hn : x ∈ m → x.k ≠ e.k := fun hx h => by
    have h1 := getM_self hs.dis hx
    rw [h, hg] at h1
    cases h1
  unfold rmM
  rw [List.mem_filter, mem_putM]
  constructor
  · rintro ⟨rfl | ⟨h1, _⟩, h2⟩
    · simp at h2
    · exact h1
  · exact fun hx => ⟨.inr ⟨hx, hn hx⟩, by simpa using hn hx⟩
theorem put_rm {m : List En} {e : En} {k : List UInt8} (hs : Srt m) (hk : KL m) (hg : getM m k = some e) : putM (rmM m k) e = m := by
  have hm := getM_mem hg
  refine Srt.ext (putM_srt (hs.filter _) (fun x hx => hk x (List.mem_filter.1 hx).1) (hk e hm.1)) hs fun x => ?_
  rw [mem_putM]
  unfold rmM
  rw [List.mem_filter]
  constructor
  · rintro (rfl | ⟨⟨h, _⟩, _⟩)
    · exact hm.1
    · exact h
  · intro hx
    by_cases h : x.k = k
    · left
      have h1 := getM_self hs.dis hx
      rw [h, hg] at h1
      injection h1 with h1
      exact h1.symm
    · exact .inr ⟨⟨hx, by simpa using h⟩, by rw [hm.2]; exact h⟩
theorem has_put {m : List En} {e : En} (hs : Srt m) (hk : KL m) (he : e.k.length = 32) : hasM (putM m e) e.k = true := by
  unfold hasM
  rw [getM_self (putM_srt hs hk he).dis (mem_putM.2 (.inl rfl))]
  rfl
theorem en_of {e : En} {k : List UInt8} (h : e.k = k) : (⟨k, e.s, e.v⟩ : En) = e := by subst h; rfl

theorem RemoveInvertsBad_c {X : Nat → Prop} {w : World} {i : Int} {s vs : Value} {l : List En} {k lv : List UInt8} (hX : ∀ b, X b → b < w.heap.size) (hf0 : Rob X (SlE s l) w) (hf1 : Rob X (Vals l) w) (hf2 : Rob X (SlB vs lv) w) (hf3 : Rob X (Rounds) w) (hi : ¬ (0 ≤ i ∧ i ≤ 256)) (hkl : KL l) (hlen : l.length ≤ 9223372036854775807) (hvl : ∀ e ∈ l, e.v.length ≤ 9223372036854775807) (hk : k.length = 32) (hlv : lv.length ≤ 9223372036854775807) :
    Ret Tryd.prog 9 [.int .i64 i, s, .agg (kc k ++ [vs]).toArray].toArray w fun v w' => v = .bool true ∧ Out Nil w w' := by
  refine Ret.of_body (N := 103) Tryd.func9 rfl rfl (by simp) ?_
  have H := St.begin hX
  replace H := H.add (rob0 hf3)
  replace H := H.add (rob0 hf2)
  replace H := H.add (rob0 hf1)
  replace H := H.add (rob0 hf0)
  have hvs1 : vs.oneCell' = true := SlC.one1 (hf2.here)
  refine WE.seq_reg ?_
  refine WL.box (l := kc k ++ [vs]) H rfl (by rfl) rfl ?_
  intro b5 w1 H
  refine WL.as rfl rfl ?_
  refine WL.nil ?_
  refine WE.seq_reg ?_
  refine WL.mv rfl rfl ?_
  refine WL.mv rfl rfl ?_
  refine WL.call TrydT.fb15 rfl (Tree_c (i := i) (l := l) H.yylt (by exact H.rob 0 rfl) (by exact H.rob 1 rfl) (by exact H.rob 3 rfl) (by assumption) (by assumption) (by assumption)) ?_
  rintro _ w2 ⟨bv21, sv21, Tv21, mv21, rfl, hTv21, hbv21, hO, hS_, hR⟩
  replace H := ((H.out hO).add hR).add hS_
  have hbf : bv21 = false := by cases hb_ : bv21; rfl; exact absurd (hbv21 hb_).2.1 hi
  subst hbf
  refine WL.mv rfl rfl ?_
  refine WL.pv (PV.extract rfl rfl rfl) rfl ?_
  refine WL.pv (PV.extract rfl rfl rfl) rfl ?_
  refine WL.pv (PV.extract rfl rfl rfl) rfl ?_
  refine WL.as rfl rfl ?_
  refine WL.as rfl rfl ?_
  refine WL.as rfl rfl ?_
  refine WL.nil ?_
  refine WE.seq_reg ?_
  refine WL.mv rfl rfl ?_
  refine WL.call TrydT.fb16 rfl (HashBad_c (i := i) H.yylt  (by assumption)) ?_
  rintro _ w3 ⟨rfl, hO⟩
  replace H := H.out hO
  refine WL.as rfl rfl ?_
  refine WL.nil ?_
  refine WE.seq ?_
  refine WE.seq_reg ?_
  refine WL.mv rfl rfl ?_
  refine WL.pv (PV.not rfl rfl) rfl ?_
  refine WL.mv rfl rfl ?_
  refine WL.known (t := 29) (c := true) rfl rfl ?_
  refine WL.off rfl ?_
  refine WL.off rfl ?_
  refine WL.off rfl ?_
  refine WL.off rfl ?_
  refine WL.pv (PV.pick_t rfl rfl rfl) rfl ?_
  refine WL.nil ?_
  refine WE.cond_t rfl ?_
  refine WE.seq_reg ?_
  refine WL.call TrydT.fb34 rfl (alive10_c  H.yylt (by exact H.rob 5 rfl) ) ?_
  rintro _ w4 ⟨rfl, hO⟩
  replace H := H.out hO
  refine WL.as rfl rfl ?_
  refine WL.nil ?_
  refine WE.ret ?_
  refine ⟨[_], _, .nil _, ⟨rfl, trivial⟩, ?_⟩
  refine ⟨?_, H.toOut0⟩
  rfl

theorem RemoveInvertsYes_c {X : Nat → Prop} {w : World} {i : Int} {s vs : Value} {l : List En} {k lv : List UInt8} {e : En} (hX : ∀ b, X b → b < w.heap.size) (hf0 : Rob X (SlE s l) w) (hf1 : Rob X (Vals l) w) (hf2 : Rob X (SlB vs lv) w) (hf3 : Rob X (Rounds) w) (hi : 0 ≤ i ∧ i ≤ 256) (hkl : KL l) (hlen : l.length ≤ 9223372036854775807) (hvl : ∀ e ∈ l, e.v.length ≤ 9223372036854775807) (hk : k.length = 32) (hlv : lv.length ≤ 9223372036854775807) (hg : getM (ofM l) k = some e) :
    Ret Tryd.prog 9 [.int .i64 i, s, .agg (kc k ++ [vs]).toArray].toArray w fun v w' => v = .bool true ∧ Out Nil w w' := by
  refine Ret.of_body (N := 103) Tryd.func9 rfl rfl (by simp) ?_
  have H := St.begin hX
  replace H := H.add (rob0 hf3)
  replace H := H.add (rob0 hf2)
  replace H := H.add (rob0 hf1)
  replace H := H.add (rob0 hf0)
  have hvs1 : vs.oneCell' = true := SlC.one1 (hf2.here)
  refine WE.seq_reg ?_
  refine WL.box (l := kc k ++ [vs]) H rfl (by rfl) rfl ?_
  intro b5 w1 H
  refine WL.as rfl rfl ?_
  refine WL.nil ?_
  refine WE.seq_reg ?_
  refine WL.mv rfl rfl ?_
  refine WL.mv rfl rfl ?_
  refine WL.call TrydT.fb15 rfl (Tree_c (i := i) (l := l) H.yylt (by exact H.rob 0 rfl) (by exact H.rob 1 rfl) (by exact H.rob 3 rfl) (by assumption) (by assumption) (by assumption)) ?_
  rintro _ w2 ⟨bv21, sv21, Tv21, mv21, rfl, hTv21, hbv21, hO, hS_, hR⟩
  replace H := ((H.out hO).add hR).add hS_
  refine WL.mv rfl rfl ?_
  refine WL.pv (PV.extract rfl rfl rfl) rfl ?_
  refine WL.pv (PV.extract rfl rfl rfl) rfl ?_
  refine WL.pv (PV.extract rfl rfl rfl) rfl ?_
  refine WL.as rfl rfl ?_
  refine WL.as rfl rfl ?_
  refine WL.as rfl rfl ?_
  refine WL.nil ?_
  refine WE.seq_reg ?_
  refine WL.mv rfl rfl ?_
  refine WL.call TrydT.fb16 rfl (Hash_c (i := i) H.yylt  (by assumption)) ?_
  rintro _ w3 ⟨bhv26, bcv26, rfl, hO, hge, hB, hR⟩
  replace H := H.pushR hO (Ent.blk bcv26 127 [.int .i64 0]) hB (fun c hc => by cases hc; exact hge) hR
  refine WL.as rfl rfl ?_
  refine WL.nil ?_
  refine WE.seq ?_
  refine WE.seq_reg ?_
  refine WL.mv rfl rfl ?_
  refine WL.pv (PV.not rfl rfl) rfl ?_
  refine WL.mv rfl rfl ?_
  refine WL.split (t := 29) rfl (fun hg29 => ?_) (fun hg29 => ?_)
  · skip
    refine WL.known (t := 28) (c := true) rfl hg29 ?_
    try simp only [decide_eq_true_eq, decide_eq_false_iff_not, ne_eq, Decidable.not_not, Bool.not_eq_true', Bool.not_eq_false', Bool.and_eq_true, Bool.or_eq_true, Bool.not_not, Bool.and_eq_false_iff, Bool.or_eq_false_iff, Int.not_lt, Int.not_le] at hg29
    refine WL.off rfl ?_
    refine WL.off rfl ?_
    refine WL.off rfl ?_
    refine WL.off rfl ?_
    refine WL.pv (PV.pick_t rfl rfl rfl) rfl ?_
    refine WL.nil ?_
    refine WE.cond_t rfl ?_
    refine WE.seq_reg ?_
    refine WL.call TrydT.fb34 rfl (alive10_c  H.yylt (by exact H.rob 6 rfl) ) ?_
    rintro _ w4 ⟨rfl, hO⟩
    replace H := H.out hO
    refine WL.as rfl rfl ?_
    refine WL.nil ?_
    refine WE.ret ?_
    refine ⟨[_], _, .nil _, ⟨rfl, trivial⟩, ?_⟩
    refine ⟨?_, H.toOut0⟩
    rfl
  · skip
    refine WL.known (t := 28) (c := false) rfl hg29 ?_
    try simp only [decide_eq_true_eq, decide_eq_false_iff_not, ne_eq, Decidable.not_not, Bool.not_eq_true', Bool.not_eq_false', Bool.and_eq_true, Bool.or_eq_true, Bool.not_not, Bool.and_eq_false_iff, Bool.or_eq_false_iff, Int.not_lt, Int.not_le] at hg29
    obtain ⟨rfl, -, hfew⟩ := hbv21 (by exact hg29)
    have hok := ofM_ok l hkl
    have hpm := ofM_pm l hkl
    have hml : (ofM l).length ≤ 12 := Nat.le_trans hok.2.2.1 hfew.1
    have hvs := ofM_short hkl hfew.2
    have hsv : ShortV (ofM l) := fun e he => Nat.le_trans (hvs e he) (by decide)
    replace H := H.add (by exact (H.rob 4 rfl : Rob _ (Vals l) _).imp fun _ h => h.sub hok.2.2.2)
    have hone : OneS (ofM l) := OneS.of (H.p 0 rfl)
    have hfit : Tv21.er.fit 0 := hTv21 ▸ grow_fit hpm
    have hem := (getM_mem hg).1
    have hek := (getM_mem hg).2
    have hev := hvs e hem
    have hes := hone e hem
    have hrl : (rmM (ofM l) k).length ≤ (ofM l).length := List.length_filter_le _ _
    refine WL.pv (PV.fieldAddr rfl TrydT.fd27_1 rfl) rfl ?_
    refine WL.load1 rfl TrydT.ag25 rfl rfl (by exact Blk.segAt (H.l 1 rfl) (Seg.r (Seg.all _) (by with_reducible rfl)) (by (simp [kc_length, kw_length, *]; done))) ?_
    refine WL.pv (PV.lenS (by exact H.p 6 rfl : SlB vs lv _) TrydT.sl25 rfl) rfl ?_
    refine WL.pv (PV.gtr rfl rfl rfl) rfl ?_
    refine WL.pv (PV.pick_f rfl rfl rfl) rfl ?_
    refine WL.nil ?_
    refine WE.cond rfl (fun hc34 => ?_) (fun hc34 => ?_)
    · skip
      try simp only [decide_eq_true_eq, decide_eq_false_iff_not, ne_eq, Decidable.not_not, Bool.not_eq_true', Bool.not_eq_false', Bool.and_eq_true, Bool.or_eq_true, Bool.not_not, Bool.and_eq_false_iff, Bool.or_eq_false_iff, Int.not_lt, Int.not_le] at hc34
      refine WE.seq_reg ?_
      refine WL.call TrydT.fb34 rfl (alive10_c  H.yylt (by exact H.rob 7 rfl) ) ?_
      rintro _ w5 ⟨rfl, hO⟩
      replace H := H.out hO
      refine WL.as rfl rfl ?_
      refine WL.nil ?_
      refine WE.ret ?_
      refine ⟨[_], _, .nil _, ⟨rfl, trivial⟩, ?_⟩
      refine ⟨?_, H.toOut0⟩
      rfl
    · skip
      try simp only [decide_eq_true_eq, decide_eq_false_iff_not, ne_eq, Decidable.not_not, Bool.not_eq_true', Bool.not_eq_false', Bool.and_eq_true, Bool.or_eq_true, Bool.not_not, Bool.and_eq_false_iff, Bool.or_eq_false_iff, Int.not_lt, Int.not_le] at hc34
      have hlv2 : lv.length ≤ 200 := by omega
      refine WE.skip ?_
      refine WE.seq ?_
      refine WE.seq_reg ?_
      refine WL.mv rfl rfl ?_
      refine WL.pv (PV.fieldAddr rfl TrydT.fd27_0 rfl) rfl ?_
      refine WL.loadR rfl TrydT.ag24 rfl rfl (by exact Blk.segAt (H.l 1 rfl) (Seg.l (Seg.all _)) (by rfl)) (by (rw [TrydT.sz24]; refine congrArg some ?_; (simp only [kc_length, kw_length, List.length_replicate, List.length_append, List.length_cons, List.length_nil, cutI_length, shaOf_length, dig_length, valD_length, rootM_length]; omega))) ?_
      refine WL.call TrydT.fb35 rfl (refGetYes_c (m := ofM l) (k := k) H.yylt (by exact H.rob 2 rfl) hok.2.1 (by omega) hk hg) ?_
      rintro _ w6 ⟨rfl, hO⟩
      replace H := H.out hO
      refine WL.mv rfl rfl ?_
      refine WL.pv (PV.extract rfl rfl rfl) rfl ?_
      refine WL.pv (PV.extract rfl rfl rfl) rfl ?_
      refine WL.as rfl rfl ?_
      refine WL.as rfl rfl ?_
      refine WL.nil ?_
      refine WE.seq_reg ?_
      refine WL.mv rfl rfl ?_
      refine WL.nil ?_
      refine WE.cond_t' rfl rfl ?_
      refine WE.seq_reg ?_
      refine WL.mv rfl rfl ?_
      refine WL.mv rfl rfl ?_
      refine WL.pv (PV.fieldAddr rfl TrydT.fd27_0 rfl) rfl ?_
      refine WL.loadR rfl TrydT.ag24 rfl rfl (by exact Blk.segAt (H.l 1 rfl) (Seg.l (Seg.all _)) (by rfl)) (by (rw [TrydT.sz24]; refine congrArg some ?_; (simp only [kc_length, kw_length, List.length_replicate, List.length_append, List.length_cons, List.length_nil, cutI_length, shaOf_length, dig_length, valD_length, rootM_length]; omega))) ?_
      refine WL.call TrydT.fb36 rfl (Remove2_c (T := Tv21) (M := (ofM l)) (k := k) (bits := i) H.yylt (H.l 0 rfl) (by exact H.robL 0 rfl 1 rfl) (by exact H.robL 0 rfl 3 rfl) (by exact H.robL 0 rfl 7 rfl) hi hk hTv21 hpm (by omega)) ?_
      rintro _ w7 ⟨Tv49, cv49, fv49, rfl, hTv49, hfv49, hnv49, hO, hB, hR⟩
      replace H := H.calledR 0 rfl hO hB hR
      have hfk : hasM (ofM l) k = true := by simp [hasM, hg]
      rw [hfk] at hfv49
      subst hfv49
      refine WL.mv rfl rfl ?_
      refine WL.pv (PV.extract rfl rfl rfl) rfl ?_
      refine WL.pv (PV.extract rfl rfl rfl) rfl ?_
      refine WL.as rfl rfl ?_
      refine WL.as rfl rfl ?_
      refine WL.nil ?_
      refine WE.seq_reg ?_
      refine WL.mv rfl rfl ?_
      refine WL.mv rfl rfl ?_
      refine WL.pv (PV.fieldAddr rfl TrydT.fd27_0 rfl) rfl ?_
      refine WL.loadR rfl TrydT.ag24 rfl rfl (by exact Blk.segAt (H.l 1 rfl) (Seg.l (Seg.all _)) (by rfl)) (by (rw [TrydT.sz24]; refine congrArg some ?_; (simp only [kc_length, kw_length, List.length_replicate, List.length_append, List.length_cons, List.length_nil, cutI_length, shaOf_length, dig_length, valD_length, rootM_length]; omega))) ?_
      refine WL.mv rfl rfl ?_
      refine WL.pv (PV.buildS rfl TrydT.pl27 TrydT.ze27 (Fl.cons rfl (by rfl) (by (simp only [kc_length, kw_length, List.length_replicate, List.length_append, List.length_cons, List.length_nil, cutI_length, shaOf_length, dig_length, valD_length, rootM_length]; omega)) (Laid.left (Laid.all (by (simp only [kc_length, kw_length, List.length_replicate, List.length_append, List.length_cons, List.length_nil, cutI_length, shaOf_length, dig_length, valD_length, rootM_length]; omega)))) (Fl.cons rfl (cells_one hes) (by (simp only [kc_length, kw_length, List.length_replicate, List.length_append, List.length_cons, List.length_nil, cutI_length, shaOf_length, dig_length, valD_length, rootM_length]; done)) (Laid.right (Laid.all (by (simp only [kc_length, kw_length, List.length_replicate, List.length_append, List.length_cons, List.length_nil, cutI_length, shaOf_length, dig_length, valD_length, rootM_length]; done))) (by (simp only [kc_length, kw_length, List.length_replicate, List.length_append, List.length_cons, List.length_nil, cutI_length, shaOf_length, dig_length, valD_length, rootM_length]; omega))) Fl.nil))) rfl ?_
      refine WL.call TrydT.fb18 rfl (Put2_c (T := Tv49) (M := rmM (ofM l) k) (k := k) (lv := e.v) (s := e.s) (bits := i) H.yylt (H.l 0 rfl) (by exact H.robL 0 rfl 2 rfl) (by exact H.robL 0 rfl 0 rfl) (by exact H.robL 0 rfl 8 rfl) hi hk (by omega) (by exact ((H.robL 0 rfl 1 rfl : Rob _ (Vals (ofM l)) _).imp fun _ h => h _ hem).wk1) hTv49 (fun x hx => hok.2.1 x (List.mem_filter.1 hx).1) (hok.1.filter _) (by omega)) ?_
      rintro _ w8 ⟨Tv58, mv58, rfl, hTv58, hO, hB, hR⟩
      replace H := H.calledR 0 rfl hO hB hR
      have hTA : Tv58.er = Tv21.er := by rw [hTv58, hTv21, en_of hek, put_rm hok.1 hok.2.1 hg]
      refine WL.as rfl rfl ?_
      refine WL.nil ?_
      refine WE.seq_reg ?_
      refine WL.call TrydT.fb34 rfl (alive10_c  H.yylt (by exact H.rob 9 rfl) ) ?_
      rintro _ w9 ⟨rfl, hO⟩
      replace H := H.out hO
      refine WL.mv rfl rfl ?_
      refine WL.known (t := 60) (c := true) rfl (by rfl) ?_
      refine WL.mv rfl rfl ?_
      refine WL.pv (PV.pick_t rfl rfl rfl) rfl ?_
      refine WL.mv rfl rfl ?_
      refine WL.known (t := 63) (c := true) rfl (by rfl) ?_
      refine WL.mv rfl rfl ?_
      refine WL.mv rfl rfl ?_
      refine WL.call TrydT.fb19 rfl (Digest_c (T := Tv58) (bits := i) H.yylt (H.l 0 rfl) (by exact H.robL 0 rfl 3 rfl) (by exact H.robL 0 rfl 0 rfl) (by exact H.robL 0 rfl 9 rfl) (by assumption)) ?_
      rintro _ w10 ⟨mv66, rfl, hO, hB⟩
      replace H := H.called 0 rfl hO hB
      refine WL.mv rfl rfl ?_
      refine WL.mv rfl rfl ?_
      refine WL.call TrydT.fb19 rfl (Digest_c (T := Tv21) (bits := i) H.yylt (H.l 0 rfl) (by exact H.robL 0 rfl 3 rfl) (by exact H.robL 0 rfl 5 rfl) (by exact H.robL 0 rfl 9 rfl) (by assumption)) ?_
      rintro _ w11 ⟨mv69, rfl, hO, hB⟩
      replace H := H.called 0 rfl hO hB
      refine WL.pv (PV.eqlB rfl TrydT.ar36 TrydT.in5 TrydT.sz5 (by kernel_rfl) rfl rfl (by exact dig_length _ _) (by exact dig_length _ _)) rfl ?_
      refine WL.pv (PV.pick_t rfl rfl rfl) rfl ?_
      refine WL.as rfl rfl ?_
      refine WL.nil ?_
      refine WE.ret ?_
      refine ⟨[_], _, .nil _, ⟨rfl, trivial⟩, ?_⟩
      refine ⟨?_, H.toOut0⟩
      show Value.bool _ = Value.bool true
      (simp [hTA]; done)

theorem RemoveInvertsNo_c {X : Nat → Prop} {w : World} {i : Int} {s vs : Value} {l : List En} {k lv : List UInt8} (hX : ∀ b, X b → b < w.heap.size) (hf0 : Rob X (SlE s l) w) (hf1 : Rob X (Vals l) w) (hf2 : Rob X (SlB vs lv) w) (hf3 : Rob X (Rounds) w) (hi : 0 ≤ i ∧ i ≤ 256) (hkl : KL l) (hlen : l.length ≤ 9223372036854775807) (hvl : ∀ e ∈ l, e.v.length ≤ 9223372036854775807) (hk : k.length = 32) (hlv : lv.length ≤ 9223372036854775807) (hg : getM (ofM l) k = none) :
    Ret Tryd.prog 9 [.int .i64 i, s, .agg (kc k ++ [vs]).toArray].toArray w fun v w' => v = .bool true ∧ Out Nil w w' := by
  refine Ret.of_body (N := 103) Tryd.func9 rfl rfl (by simp) ?_
  have H := St.begin hX
  replace H := H.add (rob0 hf3)
  replace H := H.add (rob0 hf2)
  replace H := H.add (rob0 hf1)
  replace H := H.add (rob0 hf0)
  have hvs1 : vs.oneCell' = true := SlC.one1 (hf2.here)
  refine WE.seq_reg ?_
  refine WL.box (l := kc k ++ [vs]) H rfl (by rfl) rfl ?_
  intro b5 w1 H
  refine WL.as rfl rfl ?_
  refine WL.nil ?_
  refine WE.seq_reg ?_
  refine WL.mv rfl rfl ?_
  refine WL.mv rfl rfl ?_
  refine WL.call TrydT.fb15 rfl (Tree_c (i := i) (l := l) H.yylt (by exact H.rob 0 rfl) (by exact H.rob 1 rfl) (by exact H.rob 3 rfl) (by assumption) (by assumption) (by assumption)) ?_
  rintro _ w2 ⟨bv21, sv21, Tv21, mv21, rfl, hTv21, hbv21, hO, hS_, hR⟩
  replace H := ((H.out hO).add hR).add hS_
  refine WL.mv rfl rfl ?_
  refine WL.pv (PV.extract rfl rfl rfl) rfl ?_
  refine WL.pv (PV.extract rfl rfl rfl) rfl ?_
  refine WL.pv (PV.extract rfl rfl rfl) rfl ?_
  refine WL.as rfl rfl ?_
  refine WL.as rfl rfl ?_
  refine WL.as rfl rfl ?_
  refine WL.nil ?_
  refine WE.seq_reg ?_
  refine WL.mv rfl rfl ?_
  refine WL.call TrydT.fb16 rfl (Hash_c (i := i) H.yylt  (by assumption)) ?_
  rintro _ w3 ⟨bhv26, bcv26, rfl, hO, hge, hB, hR⟩
  replace H := H.pushR hO (Ent.blk bcv26 127 [.int .i64 0]) hB (fun c hc => by cases hc; exact hge) hR
  refine WL.as rfl rfl ?_
  refine WL.nil ?_
  refine WE.seq ?_
  refine WE.seq_reg ?_
  refine WL.mv rfl rfl ?_
  refine WL.pv (PV.not rfl rfl) rfl ?_
  refine WL.mv rfl rfl ?_
  refine WL.split (t := 29) rfl (fun hg29 => ?_) (fun hg29 => ?_)
  · skip
    refine WL.known (t := 28) (c := true) rfl hg29 ?_
    try simp only [decide_eq_true_eq, decide_eq_false_iff_not, ne_eq, Decidable.not_not, Bool.not_eq_true', Bool.not_eq_false', Bool.and_eq_true, Bool.or_eq_true, Bool.not_not, Bool.and_eq_false_iff, Bool.or_eq_false_iff, Int.not_lt, Int.not_le] at hg29
    refine WL.off rfl ?_
    refine WL.off rfl ?_
    refine WL.off rfl ?_
    refine WL.off rfl ?_
    refine WL.pv (PV.pick_t rfl rfl rfl) rfl ?_
    refine WL.nil ?_
    refine WE.cond_t rfl ?_
    refine WE.seq_reg ?_
    refine WL.call TrydT.fb34 rfl (alive10_c  H.yylt (by exact H.rob 6 rfl) ) ?_
    rintro _ w4 ⟨rfl, hO⟩
    replace H := H.out hO
    refine WL.as rfl rfl ?_
    refine WL.nil ?_
    refine WE.ret ?_
    refine ⟨[_], _, .nil _, ⟨rfl, trivial⟩, ?_⟩
    refine ⟨?_, H.toOut0⟩
    rfl
  · skip
    refine WL.known (t := 28) (c := false) rfl hg29 ?_
    try simp only [decide_eq_true_eq, decide_eq_false_iff_not, ne_eq, Decidable.not_not, Bool.not_eq_true', Bool.not_eq_false', Bool.and_eq_true, Bool.or_eq_true, Bool.not_not, Bool.and_eq_false_iff, Bool.or_eq_false_iff, Int.not_lt, Int.not_le] at hg29
    obtain ⟨rfl, -, hfew⟩ := hbv21 (by exact hg29)
    have hok := ofM_ok l hkl
    have hpm := ofM_pm l hkl
    have hml : (ofM l).length ≤ 12 := Nat.le_trans hok.2.2.1 hfew.1
    have hvs := ofM_short hkl hfew.2
    have hsv : ShortV (ofM l) := fun e he => Nat.le_trans (hvs e he) (by decide)
    replace H := H.add (by exact (H.rob 4 rfl : Rob _ (Vals l) _).imp fun _ h => h.sub hok.2.2.2)
    have hone : OneS (ofM l) := OneS.of (H.p 0 rfl)
    have hfit : Tv21.er.fit 0 := hTv21 ▸ grow_fit hpm
    have hpl := putM_len (ofM l) ⟨k, vs, lv⟩
    refine WL.pv (PV.fieldAddr rfl TrydT.fd27_1 rfl) rfl ?_
    refine WL.load1 rfl TrydT.ag25 rfl rfl (by exact Blk.segAt (H.l 1 rfl) (Seg.r (Seg.all _) (by with_reducible rfl)) (by (simp [kc_length, kw_length, *]; done))) ?_
    refine WL.pv (PV.lenS (by exact H.p 6 rfl : SlB vs lv _) TrydT.sl25 rfl) rfl ?_
    refine WL.pv (PV.gtr rfl rfl rfl) rfl ?_
    refine WL.pv (PV.pick_f rfl rfl rfl) rfl ?_
    refine WL.nil ?_
    refine WE.cond rfl (fun hc34 => ?_) (fun hc34 => ?_)
    · skip
      try simp only [decide_eq_true_eq, decide_eq_false_iff_not, ne_eq, Decidable.not_not, Bool.not_eq_true', Bool.not_eq_false', Bool.and_eq_true, Bool.or_eq_true, Bool.not_not, Bool.and_eq_false_iff, Bool.or_eq_false_iff, Int.not_lt, Int.not_le] at hc34
      refine WE.seq_reg ?_
      refine WL.call TrydT.fb34 rfl (alive10_c  H.yylt (by exact H.rob 7 rfl) ) ?_
      rintro _ w5 ⟨rfl, hO⟩
      replace H := H.out hO
      refine WL.as rfl rfl ?_
      refine WL.nil ?_
      refine WE.ret ?_
      refine ⟨[_], _, .nil _, ⟨rfl, trivial⟩, ?_⟩
      refine ⟨?_, H.toOut0⟩
      rfl
    · skip
      try simp only [decide_eq_true_eq, decide_eq_false_iff_not, ne_eq, Decidable.not_not, Bool.not_eq_true', Bool.not_eq_false', Bool.and_eq_true, Bool.or_eq_true, Bool.not_not, Bool.and_eq_false_iff, Bool.or_eq_false_iff, Int.not_lt, Int.not_le] at hc34
      have hlv2 : lv.length ≤ 200 := by omega
      refine WE.skip ?_
      refine WE.seq ?_
      refine WE.seq_reg ?_
      refine WL.mv rfl rfl ?_
      refine WL.pv (PV.fieldAddr rfl TrydT.fd27_0 rfl) rfl ?_
      refine WL.loadR rfl TrydT.ag24 rfl rfl (by exact Blk.segAt (H.l 1 rfl) (Seg.l (Seg.all _)) (by rfl)) (by (rw [TrydT.sz24]; refine congrArg some ?_; (simp only [kc_length, kw_length, List.length_replicate, List.length_append, List.length_cons, List.length_nil, cutI_length, shaOf_length, dig_length, valD_length, rootM_length]; omega))) ?_
      refine WL.call TrydT.fb35 rfl (refGetNo_c (m := ofM l) (k := k) H.yylt (by exact H.rob 2 rfl) hok.2.1 (by omega) hk hg) ?_
      rintro _ w6 ⟨rfl, hO⟩
      replace H := H.out hO
      refine WL.mv rfl rfl ?_
      refine WL.pv (PV.extract rfl rfl rfl) rfl ?_
      refine WL.pv (PV.extract rfl rfl rfl) rfl ?_
      refine WL.as rfl rfl ?_
      refine WL.as rfl rfl ?_
      refine WL.nil ?_
      refine WE.seq_reg ?_
      refine WL.mv rfl rfl ?_
      refine WL.nil ?_
      refine WE.cond_f' rfl rfl ?_
      refine WE.skip ?_
      refine WE.seq_draw (.take 0 (.take 1 (.take 2 (.take 3 (.take 5 (.take 6 (.pick1 4 (.pick1 7 (.take 8 (.take 9 (.take 10 (.take 11 (.take 12 .done))))))))))))) TrydT.mixed (by kernel_rfl) ?_
      replace H := H.out (Out.drew _)
      refine WP.mv rfl rfl rfl ?_
      refine WP.mv rfl rfl rfl ?_
      refine WP.mv rfl rfl rfl ?_
      refine WP.readA rfl rfl rfl TrydT.ag27 rfl (by exact Blk.segAt (H.l 1 rfl) (Seg.all _) (by rfl)) (by (rw [TrydT.sz27]; refine congrArg some ?_; (simp only [kc_length, kw_length, List.length_replicate, List.length_append, List.length_cons, List.length_nil, cutI_length, shaOf_length, dig_length, valD_length, rootM_length]; omega))) ?_
      refine WP.take_pure rfl rfl (PV.fieldAddr rfl TrydT.fd27_0 rfl) ?_
      refine WP.readA rfl rfl rfl TrydT.ag24 rfl (by exact Blk.segAt (H.l 1 rfl) (Seg.l (Seg.all _)) (by rfl)) (by (rw [TrydT.sz24]; refine congrArg some ?_; (simp only [kc_length, kw_length, List.length_replicate, List.length_append, List.length_cons, List.length_nil, cutI_length, shaOf_length, dig_length, valD_length, rootM_length]; omega))) ?_
      refine WP.pick1 rfl ?_
      refine WL.call TrydT.fb18 rfl (Put2_c (T := Tv21) (M := ofM l) (k := k) (lv := lv) (s := vs) (bits := i) H.yylt (H.l 0 rfl) (by exact H.robL 0 rfl 1 rfl) (by exact H.robL 0 rfl 3 rfl) (by exact H.robL 0 rfl 7 rfl) hi hk (by omega) (by exact (H.robL 0 rfl 6 rfl : Rob _ (SlB vs lv) _).wk1) hTv21 hok.2.1 hok.1 (by omega)) ?_
      rintro _ w7 ⟨Tv77, mv77, rfl, hTv77, hO, hB, hR⟩
      replace H := H.calledR 0 rfl hO hB hR
      refine WL.nil ⟨(List.forall_mem_cons.2 ⟨(fun _ _ => (by exact Blk.segAt (H.l 1 rfl) (Seg.l (Seg.all _)) (by rfl))), (List.forall_mem_cons.2 ⟨(by exact (fun h => absurd (show waits _ 4 3 = false from h) (by decide +kernel))), (fun _ h => by cases h)⟩)⟩), ?_⟩
      refine WP.pick1 rfl ?_
      refine WL.call TrydT.fb36 rfl (Remove2_c (T := Tv77) (M := (putM (ofM l) ⟨k, vs, lv⟩)) (k := k) (bits := i) H.yylt (H.l 0 rfl) (by exact H.robL 0 rfl 2 rfl) (by exact H.robL 0 rfl 0 rfl) (by exact H.robL 0 rfl 8 rfl) hi hk hTv77 ((putM_srt hok.1 hok.2.1 hk).pm (putM_kl hok.2.1 hk)) (by omega)) ?_
      rintro _ w8 ⟨Tv80, cv80, fv80, rfl, hTv80, hfv80, hnv80, hO, hB, hR⟩
      replace H := H.calledR 0 rfl hO hB hR
      have hfk : hasM (putM (ofM l) ⟨k, vs, lv⟩) k = true := has_put (e := ⟨k, vs, lv⟩) hok.1 hok.2.1 hk
      rw [hfk] at hfv80
      subst hfv80
      have hTA : Tv80.er = Tv21.er := by rw [hTv80, hTv21, rm_put (e := ⟨k, vs, lv⟩) hok.1 hok.2.1 hk hg]
      have hcn : Tv21.er.cnt = (ofM l).length := by rw [hTv21]; exact hpm.cnt
      refine WL.nil ⟨(List.forall_mem_cons.2 ⟨(by exact (fun h => absurd (show waits _ 7 6 = false from h) (by decide +kernel))), (List.forall_mem_cons.2 ⟨(by exact (fun h => absurd (show waits _ 7 3 = false from h) (by decide +kernel))), (fun _ h => by cases h)⟩)⟩), ?_⟩
      refine WP.mv rfl rfl rfl ?_
      refine WP.take_pure rfl rfl (PV.extract rfl rfl rfl) ?_
      refine WP.take_pure rfl rfl (PV.extract rfl rfl rfl) ?_
      refine WP.as rfl rfl rfl ?_
      refine WP.as rfl rfl rfl ?_
      refine WP.done ?_
      refine WE.seq_reg ?_
      refine WL.call TrydT.fb34 rfl (alive10_c  H.yylt (by exact H.rob 9 rfl) ) ?_
      rintro _ w9 ⟨rfl, hO⟩
      replace H := H.out hO
      refine WL.mv rfl rfl ?_
      refine WL.known (t := 84) (c := true) rfl (by rfl) ?_
      refine WL.mv rfl rfl ?_
      refine WL.pv (PV.pick_t rfl rfl rfl) rfl ?_
      refine WL.mv rfl rfl ?_
      refine WL.known (t := 87) (c := true) rfl (by rfl) ?_
      refine WL.mv rfl rfl ?_
      refine WL.mv rfl rfl ?_
      refine WL.call TrydT.fb19 rfl (Digest_c (T := Tv80) (bits := i) H.yylt (H.l 0 rfl) (by exact H.robL 0 rfl 3 rfl) (by exact H.robL 0 rfl 0 rfl) (by exact H.robL 0 rfl 9 rfl) (by assumption)) ?_
      rintro _ w10 ⟨mv90, rfl, hO, hB⟩
      replace H := H.called 0 rfl hO hB
      refine WL.mv rfl rfl ?_
      refine WL.mv rfl rfl ?_
      refine WL.call TrydT.fb19 rfl (Digest_c (T := Tv21) (bits := i) H.yylt (H.l 0 rfl) (by exact H.robL 0 rfl 3 rfl) (by exact H.robL 0 rfl 5 rfl) (by exact H.robL 0 rfl 9 rfl) (by assumption)) ?_
      rintro _ w11 ⟨mv93, rfl, hO, hB⟩
      replace H := H.called 0 rfl hO hB
      refine WL.pv (PV.eqlB rfl TrydT.ar36 TrydT.in5 TrydT.sz5 (by kernel_rfl) rfl rfl (by exact dig_length _ _) (by exact dig_length _ _)) rfl ?_
      refine WL.pv (PV.pick_t rfl rfl rfl) rfl ?_
      refine WL.mv rfl rfl ?_
      refine WL.known (t := 96) (c := true) rfl (by (simp [hTA]; done)) ?_
      refine WL.mv rfl rfl ?_
      refine WL.call TrydT.fb20 rfl (Len_c (T := Tv80) (bits := i) H.yylt (by exact H.rob 0 rfl) ) ?_
      rintro _ w12 ⟨rfl, hO⟩
      replace H := H.out hO
      refine WL.mv rfl rfl ?_
      refine WL.pv (PV.lenS (by exact (H.p 4 rfl : SlE sv21 (ofM l) _)) TrydT.sl22 rfl) rfl ?_
      refine WL.pv (PV.eql rfl rfl rfl) rfl ?_
      refine WL.pv (PV.pick_t rfl rfl rfl) rfl ?_
      refine WL.as rfl rfl ?_
      refine WL.nil ?_
      refine WE.ret ?_
      refine ⟨[_], _, .nil _, ⟨rfl, trivial⟩, ?_⟩
      refine ⟨?_, H.toOut0⟩
      show Value.bool _ = Value.bool true
      (simp [hTA, hcn]; done)

end Go.Sp.Tryd
