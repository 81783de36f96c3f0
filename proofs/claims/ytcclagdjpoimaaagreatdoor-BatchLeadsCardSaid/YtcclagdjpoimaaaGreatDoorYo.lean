/- Walks of functions, printed by a program of this session (gen.py) from notes on each function. -/
import Derived.Test.YtcclagdjpoimaaaGreatDoorYn
set_option maxRecDepth 100000
set_option maxHeartbeats 1000000
set_option linter.unusedVariables false
set_option linter.unusedSimpArgs false
namespace Go.Sp.Tryz
open Go.Proofs Go.RowKit Go.Sp

theorem Vals.ap {m : List En} {cs : List Ch} {w : World} (hl : LtX cs) (h : Vals m w) (hc : CVals cs w) : Vals (apM m cs) w := fun e he => by
  rcases (mem_apM _ _ _ hl).1 he with ⟨c, h1, _, rfl⟩ | ⟨h1, _⟩
  · exact hc c h1
  · exact h e h1
theorem ShortV.ap {m : List En} {cs : List Ch} (hl : LtX cs) (h : ShortV m) (hc : CShort cs) : ShortV (apM m cs) := fun e he => by
  rcases (mem_apM _ _ _ hl).1 he with ⟨c, h1, _, rfl⟩ | ⟨h1, _⟩
  · exact hc c h1
  · exact h e h1

theorem BatchAppliesBad_c {X : Nat → Prop} {w : World} {i : Int} {s s2 : Value} {l : List En} {cs : List Ch} (hX : ∀ b, X b → b < w.heap.size) (hf0 : Rob X (SlE s l) w) (hf1 : Rob X (Vals l) w) (hf2 : Rob X (SlX s2 cs) w) (hf3 : Rob X (CVals cs) w) (hf4 : Rob X (Rounds) w) (hi : ¬ (0 ≤ i ∧ i ≤ 256)) (hkl : KL l) (hlen : l.length ≤ 9223372036854775807) (hvl : ∀ e ∈ l, e.v.length ≤ 9223372036854775807) (hx : XL cs) (hlc : cs.length ≤ 9223372036854775807) (hvc : ∀ c ∈ cs, c.v.length ≤ 9223372036854775807) :
    Ret Tryz.prog 4 [.int .i64 i, s, s2].toArray w fun v w' => v = .bool true ∧ Out Nil w w' := by
  refine Ret.of_body (N := 74) Tryz.func4 rfl rfl (by simp) ?_
  have H := St.begin hX
  replace H := H.add (rob0 hf4)
  replace H := H.add (rob0 hf3)
  replace H := H.add (rob0 hf2)
  replace H := H.add (rob0 hf1)
  replace H := H.add (rob0 hf0)
  refine WE.seq_reg ?_
  refine WL.as rfl rfl ?_
  refine WL.nil ?_
  refine WE.seq_reg ?_
  refine WL.mv rfl rfl ?_
  refine WL.mv rfl rfl ?_
  refine WL.call TryzT.fb8 rfl (Tree_c (i := i) (l := l) H.yylt (by exact H.rob 0 rfl) (by exact H.rob 1 rfl) (by exact H.rob 4 rfl) (by assumption) (by assumption) (by assumption)) ?_
  rintro _ w1 ⟨bv17, sv17, Tv17, mv17, rfl, hTv17, hbv17, hO, hS_, hR⟩
  replace H := ((H.out hO).add hR).add hS_
  have hbf : bv17 = false := by cases hb_ : bv17; rfl; exact absurd (hbv17 hb_).2.1 hi
  subst hbf
  refine WL.mv rfl rfl ?_
  refine WL.pv (PV.extract rfl rfl rfl) rfl ?_
  refine WL.pv (PV.extract rfl rfl rfl) rfl ?_
  refine WL.pv (PV.extract rfl rfl rfl) rfl ?_
  refine WL.as rfl rfl ?_
  refine WL.as rfl rfl ?_
  refine WL.as rfl rfl ?_
  refine WL.nil ?_
  refine WE.seq_reg ?_
  refine WL.mv rfl rfl ?_
  refine WL.call TryzT.fb9 rfl (HashBad_c (i := i) H.yylt  (by assumption)) ?_
  rintro _ w2 ⟨rfl, hO⟩
  replace H := H.out hO
  refine WL.as rfl rfl ?_
  refine WL.nil ?_
  refine WE.seq ?_
  refine WE.seq_reg ?_
  refine WL.mv rfl rfl ?_
  refine WL.pv (PV.not rfl rfl) rfl ?_
  refine WL.mv rfl rfl ?_
  refine WL.known (t := 25) (c := true) rfl (by rfl) ?_
  refine WL.off rfl ?_
  refine WL.off rfl ?_
  refine WL.off rfl ?_
  refine WL.pv (PV.pick_t rfl rfl rfl) rfl ?_
  refine WL.nil ?_
  refine WE.cond_t rfl ?_
  refine WE.seq_reg ?_
  refine WL.call TryzT.fb10 rfl (alive12_c H.yylt (by exact (H.rob 6 rfl : Rob _ (Rounds) _))) ?_
  rintro _ w3 ⟨rfl, hO⟩
  replace H := H.out hO
  refine WL.as rfl rfl ?_
  refine WL.nil ?_
  refine WE.ret ?_
  refine ⟨[_], _, .nil _, ⟨rfl, trivial⟩, ?_⟩
  refine ⟨?_, H.toOut0⟩
  rfl

theorem BatchAppliesOrd_c {X : Nat → Prop} {w : World} {i : Int} {s s2 : Value} {l : List En} {cs : List Ch} (hX : ∀ b, X b → b < w.heap.size) (hf0 : Rob X (SlE s l) w) (hf1 : Rob X (Vals l) w) (hf2 : Rob X (SlX s2 cs) w) (hf3 : Rob X (CVals cs) w) (hf4 : Rob X (Rounds) w) (hi : 0 ≤ i ∧ i ≤ 256) (hkl : KL l) (hlen : l.length ≤ 9223372036854775807) (hvl : ∀ e ∈ l, e.v.length ≤ 9223372036854775807) (hx : XL cs) (hlc : cs.length ≤ 9223372036854775807) (hvc : ∀ c ∈ cs, c.v.length ≤ 9223372036854775807) (hck : chkK (cs.map Ch.k) ≠ 0) :
    Ret Tryz.prog 4 [.int .i64 i, s, s2].toArray w fun v w' => v = .bool true ∧ Out Nil w w' := by
  refine Ret.of_body (N := 74) Tryz.func4 rfl rfl (by simp) ?_
  have H := St.begin hX
  replace H := H.add (rob0 hf4)
  replace H := H.add (rob0 hf3)
  replace H := H.add (rob0 hf2)
  replace H := H.add (rob0 hf1)
  replace H := H.add (rob0 hf0)
  refine WE.seq_reg ?_
  refine WL.as rfl rfl ?_
  refine WL.nil ?_
  refine WE.seq_reg ?_
  refine WL.mv rfl rfl ?_
  refine WL.mv rfl rfl ?_
  refine WL.call TryzT.fb8 rfl (Tree_c (i := i) (l := l) H.yylt (by exact H.rob 0 rfl) (by exact H.rob 1 rfl) (by exact H.rob 4 rfl) (by assumption) (by assumption) (by assumption)) ?_
  rintro _ w1 ⟨bv17, sv17, Tv17, mv17, rfl, hTv17, hbv17, hO, hS_, hR⟩
  replace H := ((H.out hO).add hR).add hS_
  refine WL.mv rfl rfl ?_
  refine WL.pv (PV.extract rfl rfl rfl) rfl ?_
  refine WL.pv (PV.extract rfl rfl rfl) rfl ?_
  refine WL.pv (PV.extract rfl rfl rfl) rfl ?_
  refine WL.as rfl rfl ?_
  refine WL.as rfl rfl ?_
  refine WL.as rfl rfl ?_
  refine WL.nil ?_
  refine WE.seq_reg ?_
  refine WL.mv rfl rfl ?_
  refine WL.call TryzT.fb9 rfl (Hash_c (i := i) H.yylt  (by assumption)) ?_
  rintro _ w2 ⟨bhv22, bcv22, rfl, hO, hge, hB, hR⟩
  replace H := H.pushR hO (Ent.blk bcv22 108 [.int .i64 0]) hB (fun c hc => by cases hc; exact hge) hR
  refine WL.as rfl rfl ?_
  refine WL.nil ?_
  refine WE.seq ?_
  refine WE.seq_reg ?_
  refine WL.mv rfl rfl ?_
  refine WL.pv (PV.not rfl rfl) rfl ?_
  refine WL.mv rfl rfl ?_
  refine WL.split (t := 25) rfl (fun hg25 => ?_) (fun hg25 => ?_)
  · skip
    refine WL.known (t := 24) (c := true) rfl hg25 ?_
    try simp only [decide_eq_true_eq, decide_eq_false_iff_not, ne_eq, Decidable.not_not, Bool.not_eq_true', Bool.not_eq_false', Bool.and_eq_true, Bool.or_eq_true, Bool.not_not, Bool.and_eq_false_iff, Bool.or_eq_false_iff, Int.not_lt, Int.not_le] at hg25
    refine WL.off rfl ?_
    refine WL.off rfl ?_
    refine WL.off rfl ?_
    refine WL.pv (PV.pick_t rfl rfl rfl) rfl ?_
    refine WL.nil ?_
    refine WE.cond_t rfl ?_
    refine WE.seq_reg ?_
    refine WL.call TryzT.fb10 rfl (alive12_c H.yylt (by exact (H.rob 7 rfl : Rob _ (Rounds) _))) ?_
    rintro _ w3 ⟨rfl, hO⟩
    replace H := H.out hO
    refine WL.as rfl rfl ?_
    refine WL.nil ?_
    refine WE.ret ?_
    refine ⟨[_], _, .nil _, ⟨rfl, trivial⟩, ?_⟩
    refine ⟨?_, H.toOut0⟩
    rfl
  · skip
    refine WL.known (t := 24) (c := false) rfl hg25 ?_
    try simp only [decide_eq_true_eq, decide_eq_false_iff_not, ne_eq, Decidable.not_not, Bool.not_eq_true', Bool.not_eq_false', Bool.and_eq_true, Bool.or_eq_true, Bool.not_not, Bool.and_eq_false_iff, Bool.or_eq_false_iff, Int.not_lt, Int.not_le] at hg25
    obtain ⟨rfl, -, hfew⟩ := hbv17 (by exact hg25)
    have hok := ofM_ok l hkl
    have hpm := ofM_pm l hkl
    have hml : (ofM l).length ≤ 12 := Nat.le_trans hok.2.2.1 hfew.1
    have hvs := ofM_short hkl hfew.2
    have hsv : ShortV (ofM l) := fun e he => Nat.le_trans (hvs e he) (by decide)
    replace H := H.add (by exact (H.rob 4 rfl : Rob _ (Vals l) _).imp fun _ h => h.sub hok.2.2.2)
    have hone : OneS (ofM l) := OneS.of (H.p 0 rfl)
    have hfit : Tv17.er.fit 0 := hTv17 ▸ grow_fit hpm
    refine WL.mv rfl rfl ?_
    refine WL.call TryzT.fb15 rfl (r12Few_c (s := s2) (l := cs) H.yylt (by exact (H.rob 6 rfl : Rob _ (SlX s2 cs) _)) (by exact (H.rob 7 rfl : Rob _ (CVals cs) _)) hx hlc hvc) ?_
    rintro _ w4 ⟨bfew, rfl, hFewc, hO⟩
    replace H := H.out hO
    refine WL.pv (PV.not rfl rfl) rfl ?_
    refine WL.pv (PV.pick_f rfl rfl rfl) rfl ?_
    refine WL.nil ?_
    refine WE.cond rfl (fun hc29 => ?_) (fun hc29 => ?_)
    · skip
      try simp only [decide_eq_true_eq, decide_eq_false_iff_not, ne_eq, Decidable.not_not, Bool.not_eq_true', Bool.not_eq_false', Bool.and_eq_true, Bool.or_eq_true, Bool.not_not, Bool.and_eq_false_iff, Bool.or_eq_false_iff, Int.not_lt, Int.not_le] at hc29
      refine WE.seq_reg ?_
      refine WL.call TryzT.fb10 rfl (alive12_c H.yylt (by exact (H.rob 8 rfl : Rob _ (Rounds) _))) ?_
      rintro _ w5 ⟨rfl, hO⟩
      replace H := H.out hO
      refine WL.as rfl rfl ?_
      refine WL.nil ?_
      refine WE.ret ?_
      refine ⟨[_], _, .nil _, ⟨rfl, trivial⟩, ?_⟩
      refine ⟨?_, H.toOut0⟩
      rfl
    · skip
      try simp only [decide_eq_true_eq, decide_eq_false_iff_not, ne_eq, Decidable.not_not, Bool.not_eq_true', Bool.not_eq_false', Bool.and_eq_true, Bool.or_eq_true, Bool.not_not, Bool.and_eq_false_iff, Bool.or_eq_false_iff, Int.not_lt, Int.not_le] at hc29
      have hfc := hFewc (by exact hc29)
      have hcl := hfc.1
      have hcs : CShort cs := fun c hc => Nat.le_trans (hfc.2 c hc) (by decide)
      refine WE.skip ?_
      refine WE.seq_reg ?_
      refine WL.mv rfl rfl ?_
      refine WL.mv rfl rfl ?_
      refine WL.mv rfl rfl ?_
      refine WL.call TryzT.fb17 rfl (changes_c (s := s2) (l := cs) H.yylt (by exact (H.rob 6 rfl : Rob _ (SlX s2 cs) _)) (by exact (H.rob 7 rfl : Rob _ (CVals cs) _)) hx (by omega)) ?_
      rintro v35 w6 ⟨hO, hR⟩
      replace H := (H.out hO).add (show Rob _ (SlX v35 cs) _ from hR)
      refine WL.call TryzT.fb16 rfl (ApplyBad_c (s := v35) (l := cs) H.yylt (by exact (H.rob 0 rfl : Rob _ (SlX v35 cs) _)) (by exact (H.rob 8 rfl : Rob _ (CVals cs) _)) hx hck (by omega)) ?_
      rintro _ w7 ⟨rfl, hO⟩
      replace H := H.out hO
      refine WL.mv rfl rfl ?_
      refine WL.pv (PV.extract rfl rfl rfl) rfl ?_
      refine WL.pv (PV.extract rfl rfl rfl) rfl ?_
      refine WL.as rfl rfl ?_
      refine WL.as rfl rfl ?_
      refine WL.nil ?_
      refine WE.seq ?_
      refine WE.seq_reg ?_
      refine WL.mv rfl rfl ?_
      refine WL.call TryzT.fb12 rfl (r12Check_c (s := s2) (l := cs) H.yylt (by exact (H.rob 7 rfl : Rob _ (SlX s2 cs) _)) hx (by omega)) ?_
      rintro _ w8 ⟨rfl, hO⟩
      replace H := H.out hO
      refine WL.as rfl rfl ?_
      refine WL.nil ?_
      refine WE.seq_reg ?_
      refine WL.mv rfl rfl ?_
      refine WL.pv (PV.neq rfl rfl rfl) rfl ?_
      refine WL.nil ?_
      refine WE.cond_t' rfl (by simp [hck]) ?_
      refine WE.seq_reg ?_
      refine WL.call TryzT.fb10 rfl (alive12_c H.yylt (by exact (H.rob 9 rfl : Rob _ (Rounds) _))) ?_
      rintro _ w9 ⟨rfl, hO⟩
      replace H := H.out hO
      refine WL.mv rfl rfl ?_
      refine WL.known (t := 44) (c := true) rfl (by rfl) ?_
      refine WL.mv rfl rfl ?_
      refine WL.pv (PV.eqlPn rfl TryzT.pt23 rfl rfl) rfl ?_
      refine WL.pv (PV.pick_t rfl rfl rfl) rfl ?_
      refine WL.mv rfl rfl ?_
      refine WL.known (t := 48) (c := true) rfl (by rfl) ?_
      refine WL.mv rfl rfl ?_
      refine WL.mv rfl rfl ?_
      refine WL.pv (PV.eql rfl rfl rfl) rfl ?_
      refine WL.pv (PV.pick_t rfl rfl rfl) rfl ?_
      refine WL.as rfl rfl ?_
      refine WL.nil ?_
      refine WE.ret ?_
      refine ⟨[_], _, .nil _, ⟨rfl, trivial⟩, ?_⟩
      refine ⟨?_, H.toOut0⟩
      (show Value.bool _ = Value.bool true; (simp; done))

theorem BatchApplies_c {X : Nat → Prop} {w : World} {i : Int} {s s2 : Value} {l : List En} {cs : List Ch} (hX : ∀ b, X b → b < w.heap.size) (hf0 : Rob X (SlE s l) w) (hf1 : Rob X (Vals l) w) (hf2 : Rob X (SlX s2 cs) w) (hf3 : Rob X (CVals cs) w) (hf4 : Rob X (Rounds) w) (hi : 0 ≤ i ∧ i ≤ 256) (hkl : KL l) (hlen : l.length ≤ 9223372036854775807) (hvl : ∀ e ∈ l, e.v.length ≤ 9223372036854775807) (hx : XL cs) (hlc : cs.length ≤ 9223372036854775807) (hvc : ∀ c ∈ cs, c.v.length ≤ 9223372036854775807) (hck : chkK (cs.map Ch.k) = 0) :
    Ret Tryz.prog 4 [.int .i64 i, s, s2].toArray w fun v w' => v = .bool true ∧ Out Nil w w' := by
  refine Ret.of_body (N := 74) Tryz.func4 rfl rfl (by simp) ?_
  have H := St.begin hX
  replace H := H.add (rob0 hf4)
  replace H := H.add (rob0 hf3)
  replace H := H.add (rob0 hf2)
  replace H := H.add (rob0 hf1)
  replace H := H.add (rob0 hf0)
  refine WE.seq_reg ?_
  refine WL.as rfl rfl ?_
  refine WL.nil ?_
  refine WE.seq_reg ?_
  refine WL.mv rfl rfl ?_
  refine WL.mv rfl rfl ?_
  refine WL.call TryzT.fb8 rfl (Tree_c (i := i) (l := l) H.yylt (by exact H.rob 0 rfl) (by exact H.rob 1 rfl) (by exact H.rob 4 rfl) (by assumption) (by assumption) (by assumption)) ?_
  rintro _ w1 ⟨bv17, sv17, Tv17, mv17, rfl, hTv17, hbv17, hO, hS_, hR⟩
  replace H := ((H.out hO).add hR).add hS_
  refine WL.mv rfl rfl ?_
  refine WL.pv (PV.extract rfl rfl rfl) rfl ?_
  refine WL.pv (PV.extract rfl rfl rfl) rfl ?_
  refine WL.pv (PV.extract rfl rfl rfl) rfl ?_
  refine WL.as rfl rfl ?_
  refine WL.as rfl rfl ?_
  refine WL.as rfl rfl ?_
  refine WL.nil ?_
  refine WE.seq_reg ?_
  refine WL.mv rfl rfl ?_
  refine WL.call TryzT.fb9 rfl (Hash_c (i := i) H.yylt  (by assumption)) ?_
  rintro _ w2 ⟨bhv22, bcv22, rfl, hO, hge, hB, hR⟩
  replace H := H.pushR hO (Ent.blk bcv22 108 [.int .i64 0]) hB (fun c hc => by cases hc; exact hge) hR
  refine WL.as rfl rfl ?_
  refine WL.nil ?_
  refine WE.seq ?_
  refine WE.seq_reg ?_
  refine WL.mv rfl rfl ?_
  refine WL.pv (PV.not rfl rfl) rfl ?_
  refine WL.mv rfl rfl ?_
  refine WL.split (t := 25) rfl (fun hg25 => ?_) (fun hg25 => ?_)
  · skip
    refine WL.known (t := 24) (c := true) rfl hg25 ?_
    try simp only [decide_eq_true_eq, decide_eq_false_iff_not, ne_eq, Decidable.not_not, Bool.not_eq_true', Bool.not_eq_false', Bool.and_eq_true, Bool.or_eq_true, Bool.not_not, Bool.and_eq_false_iff, Bool.or_eq_false_iff, Int.not_lt, Int.not_le] at hg25
    refine WL.off rfl ?_
    refine WL.off rfl ?_
    refine WL.off rfl ?_
    refine WL.pv (PV.pick_t rfl rfl rfl) rfl ?_
    refine WL.nil ?_
    refine WE.cond_t rfl ?_
    refine WE.seq_reg ?_
    refine WL.call TryzT.fb10 rfl (alive12_c H.yylt (by exact (H.rob 7 rfl : Rob _ (Rounds) _))) ?_
    rintro _ w3 ⟨rfl, hO⟩
    replace H := H.out hO
    refine WL.as rfl rfl ?_
    refine WL.nil ?_
    refine WE.ret ?_
    refine ⟨[_], _, .nil _, ⟨rfl, trivial⟩, ?_⟩
    refine ⟨?_, H.toOut0⟩
    rfl
  · skip
    refine WL.known (t := 24) (c := false) rfl hg25 ?_
    try simp only [decide_eq_true_eq, decide_eq_false_iff_not, ne_eq, Decidable.not_not, Bool.not_eq_true', Bool.not_eq_false', Bool.and_eq_true, Bool.or_eq_true, Bool.not_not, Bool.and_eq_false_iff, Bool.or_eq_false_iff, Int.not_lt, Int.not_le] at hg25
    obtain ⟨rfl, -, hfew⟩ := hbv17 (by exact hg25)
    have hok := ofM_ok l hkl
    have hpm := ofM_pm l hkl
    have hml : (ofM l).length ≤ 12 := Nat.le_trans hok.2.2.1 hfew.1
    have hvs := ofM_short hkl hfew.2
    have hsv : ShortV (ofM l) := fun e he => Nat.le_trans (hvs e he) (by decide)
    replace H := H.add (by exact (H.rob 4 rfl : Rob _ (Vals l) _).imp fun _ h => h.sub hok.2.2.2)
    have hone : OneS (ofM l) := OneS.of (H.p 0 rfl)
    have hfit : Tv17.er.fit 0 := hTv17 ▸ grow_fit hpm
    refine WL.mv rfl rfl ?_
    refine WL.call TryzT.fb15 rfl (r12Few_c (s := s2) (l := cs) H.yylt (by exact (H.rob 6 rfl : Rob _ (SlX s2 cs) _)) (by exact (H.rob 7 rfl : Rob _ (CVals cs) _)) hx hlc hvc) ?_
    rintro _ w4 ⟨bfew, rfl, hFewc, hO⟩
    replace H := H.out hO
    refine WL.pv (PV.not rfl rfl) rfl ?_
    refine WL.pv (PV.pick_f rfl rfl rfl) rfl ?_
    refine WL.nil ?_
    refine WE.cond rfl (fun hc29 => ?_) (fun hc29 => ?_)
    · skip
      try simp only [decide_eq_true_eq, decide_eq_false_iff_not, ne_eq, Decidable.not_not, Bool.not_eq_true', Bool.not_eq_false', Bool.and_eq_true, Bool.or_eq_true, Bool.not_not, Bool.and_eq_false_iff, Bool.or_eq_false_iff, Int.not_lt, Int.not_le] at hc29
      refine WE.seq_reg ?_
      refine WL.call TryzT.fb10 rfl (alive12_c H.yylt (by exact (H.rob 8 rfl : Rob _ (Rounds) _))) ?_
      rintro _ w5 ⟨rfl, hO⟩
      replace H := H.out hO
      refine WL.as rfl rfl ?_
      refine WL.nil ?_
      refine WE.ret ?_
      refine ⟨[_], _, .nil _, ⟨rfl, trivial⟩, ?_⟩
      refine ⟨?_, H.toOut0⟩
      rfl
    · skip
      try simp only [decide_eq_true_eq, decide_eq_false_iff_not, ne_eq, Decidable.not_not, Bool.not_eq_true', Bool.not_eq_false', Bool.and_eq_true, Bool.or_eq_true, Bool.not_not, Bool.and_eq_false_iff, Bool.or_eq_false_iff, Int.not_lt, Int.not_le] at hc29
      have hfc := hFewc (by exact hc29)
      have hcl := hfc.1
      have hcs : CShort cs := fun c hc => Nat.le_trans (hfc.2 c hc) (by decide)
      have hlt := LtX.of_chk hck
      have hao := apM_ok cs (ofM l) hok.1 hok.2.1 hx
      have hal := apM_len cs (ofM l)
      have hav := ShortV.ap hlt hsv hcs
      refine WE.skip ?_
      refine WE.seq_reg ?_
      refine WL.mv rfl rfl ?_
      refine WL.mv rfl rfl ?_
      refine WL.mv rfl rfl ?_
      refine WL.call TryzT.fb17 rfl (changes_c (s := s2) (l := cs) H.yylt (by exact (H.rob 6 rfl : Rob _ (SlX s2 cs) _)) (by exact (H.rob 7 rfl : Rob _ (CVals cs) _)) hx (by omega)) ?_
      rintro v35 w6 ⟨hO, hR⟩
      replace H := (H.out hO).add (show Rob _ (SlX v35 cs) _ from hR)
      refine WL.call TryzT.fb16 rfl (ApplyOk_c (T := Tv17) (m := ofM l) (l := cs) (s := v35) (bits := i) H.yylt (H.l 0 rfl) (by exact H.robL 0 rfl 2 rfl) (by exact (H.robL 0 rfl 4 rfl : Rob _ (TrA i Tv17) _)) (by exact (H.robL 0 rfl 0 rfl : Rob _ (SlX v35 cs) _)) (by exact (H.robL 0 rfl 8 rfl : Rob _ (CVals cs) _)) (by exact H.robL 0 rfl 9 rfl) hi hTv17 hok.1 hok.2.1 hx hcs hck (by omega)) ?_
      rintro _ w7 ⟨Tv36, mv36, rfl, hTv36, hO, hB, hR⟩
      replace H := H.calledR 0 rfl hO hB hR
      refine WL.mv rfl rfl ?_
      refine WL.pv (PV.extract rfl rfl rfl) rfl ?_
      refine WL.pv (PV.extract rfl rfl rfl) rfl ?_
      refine WL.as rfl rfl ?_
      refine WL.as rfl rfl ?_
      refine WL.nil ?_
      refine WE.seq ?_
      refine WE.seq_reg ?_
      refine WL.mv rfl rfl ?_
      refine WL.call TryzT.fb12 rfl (r12Check_c (s := s2) (l := cs) H.yylt (by exact (H.rob 8 rfl : Rob _ (SlX s2 cs) _)) hx (by omega)) ?_
      rintro _ w8 ⟨rfl, hO⟩
      replace H := H.out hO
      refine WL.as rfl rfl ?_
      refine WL.nil ?_
      refine WE.seq_reg ?_
      refine WL.mv rfl rfl ?_
      refine WL.pv (PV.neq rfl rfl rfl) rfl ?_
      refine WL.nil ?_
      refine WE.cond_f' rfl (by simp [hck]) ?_
      refine WE.skip ?_
      refine WE.seq_reg ?_
      refine WL.call TryzT.fb10 rfl (alive12_c H.yylt (by exact (H.rob 10 rfl : Rob _ (Rounds) _))) ?_
      rintro _ w9 ⟨rfl, hO⟩
      replace H := H.out hO
      refine WL.mv rfl rfl ?_
      refine WL.known (t := 54) (c := true) rfl (by rfl) ?_
      refine WL.mv rfl rfl ?_
      refine WL.pv (PV.eql rfl rfl rfl) rfl ?_
      refine WL.pv (PV.pick_t rfl rfl rfl) rfl ?_
      refine WL.mv rfl rfl ?_
      refine WL.known (t := 58) (c := true) rfl (by rfl) ?_
      refine WL.mv rfl rfl ?_
      refine WL.mv rfl rfl ?_
      refine WL.mv rfl rfl ?_
      refine WL.mv rfl rfl ?_
      refine WL.call TryzT.fb18 rfl (r12Apply_c (s2 := sv17) (s := s2) (m := ofM l) (l := cs) H.yylt (by exact (H.rob 4 rfl : Rob _ (SlE sv17 (ofM l)) _)) (by exact (H.rob 8 rfl : Rob _ (SlX s2 cs) _)) (by exact (H.rob 9 rfl : Rob _ (CVals cs) _)) hok.1 hok.2.1 hone hx (by omega)) ?_
      rintro v63 w10 ⟨hO, hR⟩
      replace H := (H.out hO).add (show Rob _ (SlE v63 (apM (ofM l) cs)) _ from hR)
      replace H := H.add (show Rob _ (Vals (apM (ofM l) cs)) _ from (Rob.and (show Rob _ (Vals (ofM l)) _ from (by exact (H.rob 3 rfl : Rob _ (Vals (ofM l)) _))) (show Rob _ (CVals cs) _ from (by exact (H.rob 10 rfl : Rob _ (CVals cs) _)))).imp fun _ h => h.1.ap hlt h.2)
      refine WL.call TryzT.fb13 rfl (Is_c (T := Tv36) (M := (apM (ofM l) cs)) (s := v63) (bits := i) H.yylt (H.l 0 rfl) (by exact H.robL 0 rfl 5 rfl) (by exact H.robL 0 rfl 2 rfl) (by exact (H.robL 0 rfl 1 rfl : Rob _ (SlE v63 (apM (ofM l) cs)) _)) (by exact (H.robL 0 rfl 0 rfl : Rob _ (Vals (apM (ofM l) cs)) _)) (by exact H.robL 0 rfl 12 rfl) hi hTv36 hao.2 hao.1 hav (by omega)) ?_
      rintro _ w11 ⟨mv64, rfl, hO, hB⟩
      replace H := H.called 0 rfl hO hB
      refine WL.pv (PV.gtr rfl rfl rfl) rfl ?_
      refine WL.pv (PV.pick_t rfl rfl rfl) rfl ?_
      refine WL.mv rfl rfl ?_
      refine WL.known (t := 67) (c := true) rfl (by rfl) ?_
      refine WL.mv rfl rfl ?_
      refine WL.mv rfl rfl ?_
      refine WL.mv rfl rfl ?_
      refine WL.call TryzT.fb13 rfl (Is_c (T := Tv17) (M := (ofM l)) (s := sv17) (bits := i) H.yylt (H.l 0 rfl) (by exact H.robL 0 rfl 5 rfl) (by exact H.robL 0 rfl 7 rfl) (by exact (H.robL 0 rfl 6 rfl : Rob _ (SlE sv17 (ofM l)) _)) (by exact (H.robL 0 rfl 4 rfl : Rob _ (Vals (ofM l)) _)) (by exact H.robL 0 rfl 12 rfl) hi hTv17 hok.2.1 hok.1 hsv (by omega)) ?_
      rintro _ w12 ⟨mv71, rfl, hO, hB⟩
      replace H := H.called 0 rfl hO hB
      refine WL.pv (PV.gtr rfl rfl rfl) rfl ?_
      refine WL.pv (PV.pick_t rfl rfl rfl) rfl ?_
      refine WL.as rfl rfl ?_
      refine WL.nil ?_
      refine WE.ret ?_
      refine ⟨[_], _, .nil _, ⟨rfl, trivial⟩, ?_⟩
      refine ⟨?_, H.toOut0⟩
      rfl

end Go.Sp.Tryz
