/- Walks of functions, printed by a program of this session (gen.py) from notes on each function. -/
import Derived.Test.YtcclagdjpoimaaaGreatDoorYo
set_option maxRecDepth 100000
set_option maxHeartbeats 1000000
set_option linter.unusedVariables false
set_option linter.unusedSimpArgs false
namespace Go.Sp.Tryz
open Go.Proofs Go.RowKit Go.Sp
theorem BatchLeadsBad_c {X : Nat → Prop} {w : World} {i : Int} {s s2 : Value} {l l2 : List En} (hX : ∀ b, X b → b < w.heap.size) (hf0 : Rob X (SlE s l) w) (hf1 : Rob X (Vals l) w) (hf2 : Rob X (SlE s2 l2) w) (hf3 : Rob X (Vals l2) w) (hf4 : Rob X (Rounds) w) (hi : ¬ (0 ≤ i ∧ i ≤ 256)) (hkl : KL l) (hlen : l.length ≤ 9223372036854775807) (hvl : ∀ e ∈ l, e.v.length ≤ 9223372036854775807) (hkl2 : KL l2) (hlen2 : l2.length ≤ 9223372036854775807) (hvl2 : ∀ e ∈ l2, e.v.length ≤ 9223372036854775807) :
    Ret Tryz.prog 5 [.int .i64 i, s, s2].toArray w fun v w' => v = .bool true ∧ Out Nil w w' := by
  refine Ret.of_body (N := 60) Tryz.func5 rfl rfl (by simp) ?_
  have H := St.begin hX
  replace H := H.add (rob0 hf4)
  replace H := H.add (rob0 hf3)
  replace H := H.add (rob0 hf2)
  replace H := H.add (rob0 hf1)
  replace H := H.add (rob0 hf0)
  refine WE.seq_reg ?_
  refine WL.as rfl rfl ?_
  refine WL.nil ?_
  refine WE.seq_reg ?_
  refine WL.mv rfl rfl ?_
  refine WL.mv rfl rfl ?_
  refine WL.call TryzT.fb8 rfl (Tree_c (i := i) (l := l) H.yylt (by exact H.rob 0 rfl) (by exact H.rob 1 rfl) (by exact H.rob 4 rfl) (by assumption) (by assumption) (by assumption)) ?_
  rintro _ w1 ⟨bv19, sv19, Tv19, mv19, rfl, hTv19, hbv19, hO, hS_, hR⟩
  replace H := ((H.out hO).add hR).add hS_
  have hbf : bv19 = false := by cases hb_ : bv19; rfl; exact absurd (hbv19 hb_).2.1 hi
  subst hbf
  refine WL.mv rfl rfl ?_
  refine WL.pv (PV.extract rfl rfl rfl) rfl ?_
  refine WL.pv (PV.extract rfl rfl rfl) rfl ?_
  refine WL.pv (PV.extract rfl rfl rfl) rfl ?_
  refine WL.as rfl rfl ?_
  refine WL.as rfl rfl ?_
  refine WL.as rfl rfl ?_
  refine WL.nil ?_
  refine WE.seq_reg ?_
  refine WL.mv rfl rfl ?_
  refine WL.mv rfl rfl ?_
  refine WL.call TryzT.fb8 rfl (Tree_c (i := i) (l := l2) H.yylt (by exact H.rob 4 rfl) (by exact H.rob 5 rfl) (by exact H.rob 6 rfl) hkl2 hlen2 hvl2) ?_
  rintro _ w2 ⟨bv26, sv26, Tv26, mv26, rfl, hTv26, hbv26, hO, hS_, hR⟩
  replace H := ((H.out hO).add hR).add hS_
  refine WL.mv rfl rfl ?_
  refine WL.pv (PV.extract rfl rfl rfl) rfl ?_
  refine WL.pv (PV.extract rfl rfl rfl) rfl ?_
  refine WL.pv (PV.extract rfl rfl rfl) rfl ?_
  refine WL.as rfl rfl ?_
  refine WL.as rfl rfl ?_
  refine WL.as rfl rfl ?_
  refine WL.nil ?_
  refine WE.seq_reg ?_
  refine WL.mv rfl rfl ?_
  refine WL.call TryzT.fb9 rfl (HashBad_c (i := i) H.yylt  (by assumption)) ?_
  rintro _ w3 ⟨rfl, hO⟩
  replace H := H.out hO
  refine WL.as rfl rfl ?_
  refine WL.nil ?_
  refine WE.seq ?_
  refine WE.seq_reg ?_
  refine WL.mv rfl rfl ?_
  refine WL.pv (PV.not rfl rfl) rfl ?_
  refine WL.mv rfl rfl ?_
  refine WL.known (t := 34) (c := true) rfl (by rfl) ?_
  refine WL.off rfl ?_
  refine WL.off rfl ?_
  refine WL.pv (PV.pick_t rfl rfl rfl) rfl ?_
  refine WL.nil ?_
  refine WE.cond_t rfl ?_
  refine WE.seq_reg ?_
  refine WL.call TryzT.fb10 rfl (alive12_c H.yylt (by exact (H.rob 8 rfl : Rob _ (Rounds) _))) ?_
  rintro _ w4 ⟨rfl, hO⟩
  replace H := H.out hO
  refine WL.as rfl rfl ?_
  refine WL.nil ?_
  refine WE.ret ?_
  refine ⟨[_], _, .nil _, ⟨rfl, trivial⟩, ?_⟩
  refine ⟨?_, H.toOut0⟩
  rfl

theorem BatchLeads_c {X : Nat → Prop} {w : World} {i : Int} {s s2 : Value} {l l2 : List En} (hX : ∀ b, X b → b < w.heap.size) (hf0 : Rob X (SlE s l) w) (hf1 : Rob X (Vals l) w) (hf2 : Rob X (SlE s2 l2) w) (hf3 : Rob X (Vals l2) w) (hf4 : Rob X (Rounds) w) (hi : 0 ≤ i ∧ i ≤ 256) (hkl : KL l) (hlen : l.length ≤ 9223372036854775807) (hvl : ∀ e ∈ l, e.v.length ≤ 9223372036854775807) (hkl2 : KL l2) (hlen2 : l2.length ≤ 9223372036854775807) (hvl2 : ∀ e ∈ l2, e.v.length ≤ 9223372036854775807) :
    Ret Tryz.prog 5 [.int .i64 i, s, s2].toArray w fun v w' => v = .bool true ∧ Out Nil w w' := by
  refine Ret.of_body (N := 60) Tryz.func5 rfl rfl (by simp) ?_
  have H := St.begin hX
  replace H := H.add (rob0 hf4)
  replace H := H.add (rob0 hf3)
  replace H := H.add (rob0 hf2)
  replace H := H.add (rob0 hf1)
  replace H := H.add (rob0 hf0)
  refine WE.seq_reg ?_
  refine WL.as rfl rfl ?_
  refine WL.nil ?_
  refine WE.seq_reg ?_
  refine WL.mv rfl rfl ?_
  refine WL.mv rfl rfl ?_
  refine WL.call TryzT.fb8 rfl (Tree_c (i := i) (l := l) H.yylt (by exact H.rob 0 rfl) (by exact H.rob 1 rfl) (by exact H.rob 4 rfl) (by assumption) (by assumption) (by assumption)) ?_
  rintro _ w1 ⟨bv19, sv19, Tv19, mv19, rfl, hTv19, hbv19, hO, hS_, hR⟩
  replace H := ((H.out hO).add hR).add hS_
  refine WL.mv rfl rfl ?_
  refine WL.pv (PV.extract rfl rfl rfl) rfl ?_
  refine WL.pv (PV.extract rfl rfl rfl) rfl ?_
  refine WL.pv (PV.extract rfl rfl rfl) rfl ?_
  refine WL.as rfl rfl ?_
  refine WL.as rfl rfl ?_
  refine WL.as rfl rfl ?_
  refine WL.nil ?_
  refine WE.seq_reg ?_
  refine WL.mv rfl rfl ?_
  refine WL.mv rfl rfl ?_
  refine WL.call TryzT.fb8 rfl (Tree_c (i := i) (l := l2) H.yylt (by exact H.rob 4 rfl) (by exact H.rob 5 rfl) (by exact H.rob 6 rfl) hkl2 hlen2 hvl2) ?_
  rintro _ w2 ⟨bv26, sv26, Tv26, mv26, rfl, hTv26, hbv26, hO, hS_, hR⟩
  replace H := ((H.out hO).add hR).add hS_
  refine WL.mv rfl rfl ?_
  refine WL.pv (PV.extract rfl rfl rfl) rfl ?_
  refine WL.pv (PV.extract rfl rfl rfl) rfl ?_
  refine WL.pv (PV.extract rfl rfl rfl) rfl ?_
  refine WL.as rfl rfl ?_
  refine WL.as rfl rfl ?_
  refine WL.as rfl rfl ?_
  refine WL.nil ?_
  refine WE.seq_reg ?_
  refine WL.mv rfl rfl ?_
  refine WL.call TryzT.fb9 rfl (Hash_c (i := i) H.yylt  (by assumption)) ?_
  rintro _ w3 ⟨bhv31, bcv31, rfl, hO, hge, hB, hR⟩
  replace H := H.pushR hO (Ent.blk bcv31 108 [.int .i64 0]) hB (fun c hc => by cases hc; exact hge) hR
  refine WL.as rfl rfl ?_
  refine WL.nil ?_
  refine WE.seq ?_
  refine WE.seq_reg ?_
  refine WL.mv rfl rfl ?_
  refine WL.pv (PV.not rfl rfl) rfl ?_
  refine WL.mv rfl rfl ?_
  refine WL.split (t := 34) rfl (fun hg34 => ?_) (fun hg34 => ?_)
  · skip
    refine WL.known (t := 33) (c := true) rfl hg34 ?_
    try simp only [decide_eq_true_eq, decide_eq_false_iff_not, ne_eq, Decidable.not_not, Bool.not_eq_true', Bool.not_eq_false', Bool.and_eq_true, Bool.or_eq_true, Bool.not_not, Bool.and_eq_false_iff, Bool.or_eq_false_iff, Int.not_lt, Int.not_le] at hg34
    refine WL.off rfl ?_
    refine WL.off rfl ?_
    refine WL.pv (PV.pick_t rfl rfl rfl) rfl ?_
    refine WL.nil ?_
    refine WE.cond_t rfl ?_
    refine WE.seq_reg ?_
    refine WL.call TryzT.fb10 rfl (alive12_c H.yylt (by exact (H.rob 9 rfl : Rob _ (Rounds) _))) ?_
    rintro _ w4 ⟨rfl, hO⟩
    replace H := H.out hO
    refine WL.as rfl rfl ?_
    refine WL.nil ?_
    refine WE.ret ?_
    refine ⟨[_], _, .nil _, ⟨rfl, trivial⟩, ?_⟩
    refine ⟨?_, H.toOut0⟩
    rfl
  · skip
    refine WL.known (t := 33) (c := false) rfl hg34 ?_
    try simp only [decide_eq_true_eq, decide_eq_false_iff_not, ne_eq, Decidable.not_not, Bool.not_eq_true', Bool.not_eq_false', Bool.and_eq_true, Bool.or_eq_true, Bool.not_not, Bool.and_eq_false_iff, Bool.or_eq_false_iff, Int.not_lt, Int.not_le] at hg34
    obtain ⟨rfl, -, hfew⟩ := hbv19 (by exact hg34)
    have hok := ofM_ok l hkl
    have hpm := ofM_pm l hkl
    have hml : (ofM l).length ≤ 12 := Nat.le_trans hok.2.2.1 hfew.1
    have hvs := ofM_short hkl hfew.2
    have hsv : ShortV (ofM l) := fun e he => Nat.le_trans (hvs e he) (by decide)
    replace H := H.add (by exact (H.rob 6 rfl : Rob _ (Vals l) _).imp fun _ h => h.sub hok.2.2.2)
    have hone : OneS (ofM l) := OneS.of (H.p 0 rfl)
    have hfit : Tv19.er.fit 0 := hTv19 ▸ grow_fit hpm
    refine WL.mv rfl rfl ?_
    refine WL.pv (PV.not rfl rfl) rfl ?_
    refine WL.pv (PV.pick_f rfl rfl rfl) rfl ?_
    refine WL.nil ?_
    refine WE.cond rfl (fun hc37 => ?_) (fun hc37 => ?_)
    · skip
      try simp only [decide_eq_true_eq, decide_eq_false_iff_not, ne_eq, Decidable.not_not, Bool.not_eq_true', Bool.not_eq_false', Bool.and_eq_true, Bool.or_eq_true, Bool.not_not, Bool.and_eq_false_iff, Bool.or_eq_false_iff, Int.not_lt, Int.not_le] at hc37
      refine WE.seq_reg ?_
      refine WL.call TryzT.fb10 rfl (alive12_c H.yylt (by exact (H.rob 10 rfl : Rob _ (Rounds) _))) ?_
      rintro _ w5 ⟨rfl, hO⟩
      replace H := H.out hO
      refine WL.as rfl rfl ?_
      refine WL.nil ?_
      refine WE.ret ?_
      refine ⟨[_], _, .nil _, ⟨rfl, trivial⟩, ?_⟩
      refine ⟨?_, H.toOut0⟩
      rfl
    · skip
      try simp only [decide_eq_true_eq, decide_eq_false_iff_not, ne_eq, Decidable.not_not, Bool.not_eq_true', Bool.not_eq_false', Bool.and_eq_true, Bool.or_eq_true, Bool.not_not, Bool.and_eq_false_iff, Bool.or_eq_false_iff, Int.not_lt, Int.not_le] at hc37
      obtain ⟨rfl, -, hfew2⟩ := hbv26 (by exact hc37)
      have hok2 := ofM_ok l2 hkl2
      have hpm2 := ofM_pm l2 hkl2
      have hml2 : (ofM l2).length ≤ 12 := Nat.le_trans hok2.2.2.1 hfew2.1
      have hvs2 := ofM_short hkl2 hfew2.2
      have hsv2 : ShortV (ofM l2) := fun e he => Nat.le_trans (hvs2 e he) (by decide)
      replace H := H.add (by exact (H.rob 9 rfl : Rob _ (Vals l2) _).imp fun _ h => h.sub hok2.2.2.2)
      have hone2 : OneS (ofM l2) := OneS.of (H.p 0 rfl)
      have hfit2 : Tv26.er.fit 0 := hTv26 ▸ grow_fit hpm2
      refine WE.skip ?_
      refine WE.seq_reg ?_
      refine WL.mv rfl rfl ?_
      refine WL.mv rfl rfl ?_
      refine WL.mv rfl rfl ?_
      refine WL.mv rfl rfl ?_
      refine WL.call TryzT.fb19 rfl (Diff_c (T := Tv19) (S := Tv26) (m := ofM l) (n := ofM l2) (bits := i) H.yylt (by exact (H.rob 6 rfl : Rob _ (TrA i Tv19) _)) (by exact (H.rob 4 rfl : Rob _ (TrA i Tv26) _)) hTv19 hTv26 hok.1 hok2.1 hok.2.1 hok2.2.1 hsv2 (by omega)) ?_
      rintro v44 w6 ⟨cs, hO, hOwn, hV, hD⟩
      have hR_ := (rob_own H.yylt hOwn).imp fun _ h => SlC.of_own h
      replace H := ((H.out hO).add hV).add (show Rob _ (SlX v44 cs) _ from hR_)
      have hcl := hD.len
      refine WL.call TryzT.fb16 rfl (ApplyOk_c (T := Tv19) (m := ofM l) (l := cs) (s := v44) (bits := i) H.yylt (H.l 0 rfl) (by exact H.robL 0 rfl 4 rfl) (by exact (H.robL 0 rfl 8 rfl : Rob _ (TrA i Tv19) _)) (by exact (H.robL 0 rfl 0 rfl : Rob _ (SlX v44 cs) _)) (by exact (H.robL 0 rfl 1 rfl : Rob _ (CVals cs) _)) (by exact H.robL 0 rfl 13 rfl) hi hTv19 hok.1 hok.2.1 hD.xl hD.sh hD.lt.chk (by omega)) ?_
      rintro _ w7 ⟨Tv45, mv45, rfl, hTv45, hO, hB, hR⟩
      replace H := H.calledR 0 rfl hO hB hR
      have hT2 : Tv45.er = grow 0 (ofM l2) := hTv45.trans (grow_kv hD.leads)
      refine WL.mv rfl rfl ?_
      refine WL.pv (PV.extract rfl rfl rfl) rfl ?_
      refine WL.pv (PV.extract rfl rfl rfl) rfl ?_
      refine WL.as rfl rfl ?_
      refine WL.as rfl rfl ?_
      refine WL.nil ?_
      refine WE.seq_reg ?_
      refine WL.call TryzT.fb10 rfl (alive12_c H.yylt (by exact (H.rob 14 rfl : Rob _ (Rounds) _))) ?_
      rintro _ w8 ⟨rfl, hO⟩
      replace H := H.out hO
      refine WL.mv rfl rfl ?_
      refine WL.known (t := 49) (c := true) rfl (by rfl) ?_
      refine WL.mv rfl rfl ?_
      refine WL.pv (PV.eql rfl rfl rfl) rfl ?_
      refine WL.pv (PV.pick_t rfl rfl rfl) rfl ?_
      refine WL.mv rfl rfl ?_
      refine WL.known (t := 53) (c := true) rfl (by rfl) ?_
      refine WL.mv rfl rfl ?_
      refine WL.mv rfl rfl ?_
      refine WL.mv rfl rfl ?_
      refine WL.call TryzT.fb13 rfl (Is_c (T := Tv45) (M := (ofM l2)) (s := sv26) (bits := i) H.yylt (H.l 0 rfl) (by exact H.robL 0 rfl 5 rfl) (by exact H.robL 0 rfl 0 rfl) (by exact (H.robL 0 rfl 6 rfl : Rob _ (SlE sv26 (ofM l2)) _)) (by exact (H.robL 0 rfl 3 rfl : Rob _ (Vals (ofM l2)) _)) (by exact H.robL 0 rfl 14 rfl) hi hT2 hok2.2.1 hok2.1 hsv2 (by omega)) ?_
      rintro _ w9 ⟨mv57, rfl, hO, hB⟩
      replace H := H.called 0 rfl hO hB
      refine WL.pv (PV.gtr rfl rfl rfl) rfl ?_
      refine WL.pv (PV.pick_t rfl rfl rfl) rfl ?_
      refine WL.as rfl rfl ?_
      refine WL.nil ?_
      refine WE.ret ?_
      refine ⟨[_], _, .nil _, ⟨rfl, trivial⟩, ?_⟩
      refine ⟨?_, H.toOut0⟩
      rfl

end Go.Sp.Tryz
