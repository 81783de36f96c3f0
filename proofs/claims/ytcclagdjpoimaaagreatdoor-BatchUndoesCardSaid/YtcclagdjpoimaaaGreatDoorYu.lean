/- Walks of functions, printed by a program of this session (gen.py) from notes on each function. -/
import Derived.Test.YtcclagdjpoimaaaGreatDoorY6
set_option maxRecDepth 100000
set_option maxHeartbeats 1000000
set_option linter.unusedVariables false
set_option linter.unusedSimpArgs false
namespace Go.Sp.Tryz
open Go.Proofs Go.RowKit Go.Sp
theorem BatchUndoesBad_c {X : Nat → Prop} {w : World} {i : Int} {s s2 : Value} {l : List En} {cs : List Ch} (hX : ∀ b, X b → b < w.heap.size) (hf0 : Rob X (SlE s l) w) (hf1 : Rob X (Vals l) w) (hf2 : Rob X (SlX s2 cs) w) (hf3 : Rob X (CVals cs) w) (hf4 : Rob X (Rounds) w) (hi : ¬ (0 ≤ i ∧ i ≤ 256)) (hkl : KL l) (hlen : l.length ≤ 9223372036854775807) (hvl : ∀ e ∈ l, e.v.length ≤ 9223372036854775807) (hx : XL cs) (hlc : cs.length ≤ 9223372036854775807) (hvc : ∀ c ∈ cs, c.v.length ≤ 9223372036854775807) :
    Ret Tryz.prog 6 [.int .i64 i, s, s2].toArray w fun v w' => v = .bool true ∧ Out Nil w w' := by
  refine Ret.of_body (N := 104) Tryz.func6 rfl rfl (by simp) ?_
  have H := St.begin hX
  replace H := H.add (rob0 hf4)
  replace H := H.add (rob0 hf3)
  replace H := H.add (rob0 hf2)
  replace H := H.add (rob0 hf1)
  replace H := H.add (rob0 hf0)
  refine WE.seq_reg ?_
  refine WL.as rfl rfl ?_
  refine WL.nil ?_
  refine WE.seq_reg ?_
  refine WL.mv rfl rfl ?_
  refine WL.mv rfl rfl ?_
  refine WL.call TryzT.fb8 rfl (Tree_c (i := i) (l := l) H.yylt (by exact H.rob 0 rfl) (by exact H.rob 1 rfl) (by exact H.rob 4 rfl) (by assumption) (by assumption) (by assumption)) ?_
  rintro _ w1 ⟨bv21, sv21, Tv21, mv21, rfl, hTv21, hbv21, hO, hS_, hR⟩
  replace H := ((H.out hO).add hR).add hS_
  have hbf : bv21 = false := by cases hb_ : bv21; rfl; exact absurd (hbv21 hb_).2.1 hi
  subst hbf
  refine WL.mv rfl rfl ?_
  refine WL.pv (PV.extract rfl rfl rfl) rfl ?_
  refine WL.pv (PV.extract rfl rfl rfl) rfl ?_
  refine WL.pv (PV.extract rfl rfl rfl) rfl ?_
  refine WL.as rfl rfl ?_
  refine WL.as rfl rfl ?_
  refine WL.as rfl rfl ?_
  refine WL.nil ?_
  refine WE.seq_reg ?_
  refine WL.mv rfl rfl ?_
  refine WL.call TryzT.fb9 rfl (HashBad_c (i := i) H.yylt  (by assumption)) ?_
  rintro _ w2 ⟨rfl, hO⟩
  replace H := H.out hO
  refine WL.as rfl rfl ?_
  refine WL.nil ?_
  refine WE.seq ?_
  refine WE.seq_reg ?_
  refine WL.mv rfl rfl ?_
  refine WL.pv (PV.not rfl rfl) rfl ?_
  refine WL.mv rfl rfl ?_
  refine WL.known (t := 29) (c := true) rfl (by rfl) ?_
  refine WL.off rfl ?_
  refine WL.off rfl ?_
  refine WL.off rfl ?_
  refine WL.pv (PV.pick_t rfl rfl rfl) rfl ?_
  refine WL.nil ?_
  refine WE.cond_t rfl ?_
  refine WE.seq_reg ?_
  refine WL.call TryzT.fb10 rfl (alive12_c H.yylt (by exact (H.rob 6 rfl : Rob _ (Rounds) _))) ?_
  rintro _ w3 ⟨rfl, hO⟩
  replace H := H.out hO
  refine WL.as rfl rfl ?_
  refine WL.nil ?_
  refine WE.ret ?_
  refine ⟨[_], _, .nil _, ⟨rfl, trivial⟩, ?_⟩
  refine ⟨?_, H.toOut0⟩
  rfl

theorem BatchUndoesOrd_c {X : Nat → Prop} {w : World} {i : Int} {s s2 : Value} {l : List En} {cs : List Ch} (hX : ∀ b, X b → b < w.heap.size) (hf0 : Rob X (SlE s l) w) (hf1 : Rob X (Vals l) w) (hf2 : Rob X (SlX s2 cs) w) (hf3 : Rob X (CVals cs) w) (hf4 : Rob X (Rounds) w) (hi : 0 ≤ i ∧ i ≤ 256) (hkl : KL l) (hlen : l.length ≤ 9223372036854775807) (hvl : ∀ e ∈ l, e.v.length ≤ 9223372036854775807) (hx : XL cs) (hlc : cs.length ≤ 9223372036854775807) (hvc : ∀ c ∈ cs, c.v.length ≤ 9223372036854775807) (hck : chkK (cs.map Ch.k) ≠ 0) :
    Ret Tryz.prog 6 [.int .i64 i, s, s2].toArray w fun v w' => v = .bool true ∧ Out Nil w w' := by
  refine Ret.of_body (N := 104) Tryz.func6 rfl rfl (by simp) ?_
  have H := St.begin hX
  replace H := H.add (rob0 hf4)
  replace H := H.add (rob0 hf3)
  replace H := H.add (rob0 hf2)
  replace H := H.add (rob0 hf1)
  replace H := H.add (rob0 hf0)
  refine WE.seq_reg ?_
  refine WL.as rfl rfl ?_
  refine WL.nil ?_
  refine WE.seq_reg ?_
  refine WL.mv rfl rfl ?_
  refine WL.mv rfl rfl ?_
  refine WL.call TryzT.fb8 rfl (Tree_c (i := i) (l := l) H.yylt (by exact H.rob 0 rfl) (by exact H.rob 1 rfl) (by exact H.rob 4 rfl) (by assumption) (by assumption) (by assumption)) ?_
  rintro _ w1 ⟨bv21, sv21, Tv21, mv21, rfl, hTv21, hbv21, hO, hS_, hR⟩
  replace H := ((H.out hO).add hR).add hS_
  refine WL.mv rfl rfl ?_
  refine WL.pv (PV.extract rfl rfl rfl) rfl ?_
  refine WL.pv (PV.extract rfl rfl rfl) rfl ?_
  refine WL.pv (PV.extract rfl rfl rfl) rfl ?_
  refine WL.as rfl rfl ?_
  refine WL.as rfl rfl ?_
  refine WL.as rfl rfl ?_
  refine WL.nil ?_
  refine WE.seq_reg ?_
  refine WL.mv rfl rfl ?_
  refine WL.call TryzT.fb9 rfl (Hash_c (i := i) H.yylt  (by assumption)) ?_
  rintro _ w2 ⟨bhv26, bcv26, rfl, hO, hge, hB, hR⟩
  replace H := H.pushR hO (Ent.blk bcv26 108 [.int .i64 0]) hB (fun c hc => by cases hc; exact hge) hR
  refine WL.as rfl rfl ?_
  refine WL.nil ?_
  refine WE.seq ?_
  refine WE.seq_reg ?_
  refine WL.mv rfl rfl ?_
  refine WL.pv (PV.not rfl rfl) rfl ?_
  refine WL.mv rfl rfl ?_
  refine WL.split (t := 29) rfl (fun hg29 => ?_) (fun hg29 => ?_)
  · skip
    refine WL.known (t := 28) (c := true) rfl hg29 ?_
    try simp only [decide_eq_true_eq, decide_eq_false_iff_not, ne_eq, Decidable.not_not, Bool.not_eq_true', Bool.not_eq_false', Bool.and_eq_true, Bool.or_eq_true, Bool.not_not, Bool.and_eq_false_iff, Bool.or_eq_false_iff, Int.not_lt, Int.not_le] at hg29
    refine WL.off rfl ?_
    refine WL.off rfl ?_
    refine WL.off rfl ?_
    refine WL.pv (PV.pick_t rfl rfl rfl) rfl ?_
    refine WL.nil ?_
    refine WE.cond_t rfl ?_
    refine WE.seq_reg ?_
    refine WL.call TryzT.fb10 rfl (alive12_c H.yylt (by exact (H.rob 7 rfl : Rob _ (Rounds) _))) ?_
    rintro _ w3 ⟨rfl, hO⟩
    replace H := H.out hO
    refine WL.as rfl rfl ?_
    refine WL.nil ?_
    refine WE.ret ?_
    refine ⟨[_], _, .nil _, ⟨rfl, trivial⟩, ?_⟩
    refine ⟨?_, H.toOut0⟩
    rfl
  · skip
    refine WL.known (t := 28) (c := false) rfl hg29 ?_
    try simp only [decide_eq_true_eq, decide_eq_false_iff_not, ne_eq, Decidable.not_not, Bool.not_eq_true', Bool.not_eq_false', Bool.and_eq_true, Bool.or_eq_true, Bool.not_not, Bool.and_eq_false_iff, Bool.or_eq_false_iff, Int.not_lt, Int.not_le] at hg29
    obtain ⟨rfl, -, hfew⟩ := hbv21 (by exact hg29)
    have hok := ofM_ok l hkl
    have hpm := ofM_pm l hkl
    have hml : (ofM l).length ≤ 12 := Nat.le_trans hok.2.2.1 hfew.1
    have hvs := ofM_short hkl hfew.2
    have hsv : ShortV (ofM l) := fun e he => Nat.le_trans (hvs e he) (by decide)
    replace H := H.add (by exact (H.rob 4 rfl : Rob _ (Vals l) _).imp fun _ h => h.sub hok.2.2.2)
    have hone : OneS (ofM l) := OneS.of (H.p 0 rfl)
    have hfit : Tv21.er.fit 0 := hTv21 ▸ grow_fit hpm
    refine WL.mv rfl rfl ?_
    refine WL.call TryzT.fb15 rfl (r12Few_c (s := s2) (l := cs) H.yylt (by exact (H.rob 6 rfl : Rob _ (SlX s2 cs) _)) (by exact (H.rob 7 rfl : Rob _ (CVals cs) _)) hx hlc hvc) ?_
    rintro _ w4 ⟨bfew, rfl, hFewc, hO⟩
    replace H := H.out hO
    refine WL.pv (PV.not rfl rfl) rfl ?_
    refine WL.pv (PV.pick_f rfl rfl rfl) rfl ?_
    refine WL.nil ?_
    refine WE.cond rfl (fun hc33 => ?_) (fun hc33 => ?_)
    · skip
      try simp only [decide_eq_true_eq, decide_eq_false_iff_not, ne_eq, Decidable.not_not, Bool.not_eq_true', Bool.not_eq_false', Bool.and_eq_true, Bool.or_eq_true, Bool.not_not, Bool.and_eq_false_iff, Bool.or_eq_false_iff, Int.not_lt, Int.not_le] at hc33
      refine WE.seq_reg ?_
      refine WL.call TryzT.fb10 rfl (alive12_c H.yylt (by exact (H.rob 8 rfl : Rob _ (Rounds) _))) ?_
      rintro _ w5 ⟨rfl, hO⟩
      replace H := H.out hO
      refine WL.as rfl rfl ?_
      refine WL.nil ?_
      refine WE.ret ?_
      refine ⟨[_], _, .nil _, ⟨rfl, trivial⟩, ?_⟩
      refine ⟨?_, H.toOut0⟩
      rfl
    · skip
      try simp only [decide_eq_true_eq, decide_eq_false_iff_not, ne_eq, Decidable.not_not, Bool.not_eq_true', Bool.not_eq_false', Bool.and_eq_true, Bool.or_eq_true, Bool.not_not, Bool.and_eq_false_iff, Bool.or_eq_false_iff, Int.not_lt, Int.not_le] at hc33
      have hfc := hFewc (by exact hc33)
      have hcl := hfc.1
      have hcs : CShort cs := fun c hc => Nat.le_trans (hfc.2 c hc) (by decide)
      refine WE.skip ?_
      refine WE.seq_reg ?_
      refine WL.mv rfl rfl ?_
      refine WL.mv rfl rfl ?_
      refine WL.call TryzT.fb17 rfl (changes_c (s := s2) (l := cs) H.yylt (by exact (H.rob 6 rfl : Rob _ (SlX s2 cs) _)) (by exact (H.rob 7 rfl : Rob _ (CVals cs) _)) hx (by omega)) ?_
      rintro v38 w6 ⟨hO, hR⟩
      replace H := (H.out hO).add (show Rob _ (SlX v38 cs) _ from hR)
      refine WL.call TryzT.fb20 rfl (UndoBad_c (s := v38) (l := cs) H.yylt (by exact (H.rob 0 rfl : Rob _ (SlX v38 cs) _)) (by exact (H.rob 8 rfl : Rob _ (CVals cs) _)) hx hck (by omega)) ?_
      rintro _ w7 ⟨rfl, hO⟩
      replace H := H.out hO
      refine WL.mv rfl rfl ?_
      refine WL.pv (PV.extract rfl rfl rfl) rfl ?_
      refine WL.pv (PV.extract rfl rfl rfl) rfl ?_
      refine WL.as rfl rfl ?_
      refine WL.as rfl rfl ?_
      refine WL.nil ?_
      refine WE.seq ?_
      refine WE.seq_reg ?_
      refine WL.mv rfl rfl ?_
      refine WL.call TryzT.fb12 rfl (r12Check_c (s := s2) (l := cs) H.yylt (by exact (H.rob 7 rfl : Rob _ (SlX s2 cs) _)) hx (by omega)) ?_
      rintro _ w8 ⟨rfl, hO⟩
      replace H := H.out hO
      refine WL.as rfl rfl ?_
      refine WL.nil ?_
      refine WE.seq_reg ?_
      refine WL.mv rfl rfl ?_
      refine WL.pv (PV.neq rfl rfl rfl) rfl ?_
      refine WL.nil ?_
      refine WE.cond_t' rfl (by simp [hck]) ?_
      refine WE.seq_reg ?_
      refine WL.call TryzT.fb10 rfl (alive12_c H.yylt (by exact (H.rob 9 rfl : Rob _ (Rounds) _))) ?_
      rintro _ w9 ⟨rfl, hO⟩
      replace H := H.out hO
      refine WL.mv rfl rfl ?_
      refine WL.known (t := 47) (c := true) rfl (by rfl) ?_
      refine WL.mv rfl rfl ?_
      refine WL.pv (PV.lenSl TryzT.sl47 rfl) rfl ?_
      refine WL.pv (PV.eql rfl rfl rfl) rfl ?_
      refine WL.pv (PV.pick_t rfl rfl rfl) rfl ?_
      refine WL.mv rfl rfl ?_
      refine WL.known (t := 52) (c := true) rfl (by rfl) ?_
      refine WL.mv rfl rfl ?_
      refine WL.mv rfl rfl ?_
      refine WL.pv (PV.eql rfl rfl rfl) rfl ?_
      refine WL.pv (PV.pick_t rfl rfl rfl) rfl ?_
      refine WL.as rfl rfl ?_
      refine WL.nil ?_
      refine WE.ret ?_
      refine ⟨[_], _, .nil _, ⟨rfl, trivial⟩, ?_⟩
      refine ⟨?_, H.toOut0⟩
      (show Value.bool _ = Value.bool true; (simp; done))

theorem BatchUndoes_c {X : Nat → Prop} {w : World} {i : Int} {s s2 : Value} {l : List En} {cs : List Ch} (hX : ∀ b, X b → b < w.heap.size) (hf0 : Rob X (SlE s l) w) (hf1 : Rob X (Vals l) w) (hf2 : Rob X (SlX s2 cs) w) (hf3 : Rob X (CVals cs) w) (hf4 : Rob X (Rounds) w) (hi : 0 ≤ i ∧ i ≤ 256) (hkl : KL l) (hlen : l.length ≤ 9223372036854775807) (hvl : ∀ e ∈ l, e.v.length ≤ 9223372036854775807) (hx : XL cs) (hlc : cs.length ≤ 9223372036854775807) (hvc : ∀ c ∈ cs, c.v.length ≤ 9223372036854775807) (hck : chkK (cs.map Ch.k) = 0) :
    Ret Tryz.prog 6 [.int .i64 i, s, s2].toArray w fun v w' => v = .bool true ∧ Out Nil w w' := by
  refine Ret.of_body (N := 104) Tryz.func6 rfl rfl (by simp) ?_
  have H := St.begin hX
  replace H := H.add (rob0 hf4)
  replace H := H.add (rob0 hf3)
  replace H := H.add (rob0 hf2)
  replace H := H.add (rob0 hf1)
  replace H := H.add (rob0 hf0)
  refine WE.seq_reg ?_
  refine WL.as rfl rfl ?_
  refine WL.nil ?_
  refine WE.seq_reg ?_
  refine WL.mv rfl rfl ?_
  refine WL.mv rfl rfl ?_
  refine WL.call TryzT.fb8 rfl (Tree_c (i := i) (l := l) H.yylt (by exact H.rob 0 rfl) (by exact H.rob 1 rfl) (by exact H.rob 4 rfl) (by assumption) (by assumption) (by assumption)) ?_
  rintro _ w1 ⟨bv21, sv21, Tv21, mv21, rfl, hTv21, hbv21, hO, hS_, hR⟩
  replace H := ((H.out hO).add hR).add hS_
  refine WL.mv rfl rfl ?_
  refine WL.pv (PV.extract rfl rfl rfl) rfl ?_
  refine WL.pv (PV.extract rfl rfl rfl) rfl ?_
  refine WL.pv (PV.extract rfl rfl rfl) rfl ?_
  refine WL.as rfl rfl ?_
  refine WL.as rfl rfl ?_
  refine WL.as rfl rfl ?_
  refine WL.nil ?_
  refine WE.seq_reg ?_
  refine WL.mv rfl rfl ?_
  refine WL.call TryzT.fb9 rfl (Hash_c (i := i) H.yylt  (by assumption)) ?_
  rintro _ w2 ⟨bhv26, bcv26, rfl, hO, hge, hB, hR⟩
  replace H := H.pushR hO (Ent.blk bcv26 108 [.int .i64 0]) hB (fun c hc => by cases hc; exact hge) hR
  refine WL.as rfl rfl ?_
  refine WL.nil ?_
  refine WE.seq ?_
  refine WE.seq_reg ?_
  refine WL.mv rfl rfl ?_
  refine WL.pv (PV.not rfl rfl) rfl ?_
  refine WL.mv rfl rfl ?_
  refine WL.split (t := 29) rfl (fun hg29 => ?_) (fun hg29 => ?_)
  · skip
    refine WL.known (t := 28) (c := true) rfl hg29 ?_
    try simp only [decide_eq_true_eq, decide_eq_false_iff_not, ne_eq, Decidable.not_not, Bool.not_eq_true', Bool.not_eq_false', Bool.and_eq_true, Bool.or_eq_true, Bool.not_not, Bool.and_eq_false_iff, Bool.or_eq_false_iff, Int.not_lt, Int.not_le] at hg29
    refine WL.off rfl ?_
    refine WL.off rfl ?_
    refine WL.off rfl ?_
    refine WL.pv (PV.pick_t rfl rfl rfl) rfl ?_
    refine WL.nil ?_
    refine WE.cond_t rfl ?_
    refine WE.seq_reg ?_
    refine WL.call TryzT.fb10 rfl (alive12_c  H.yylt (by exact H.rob 7 rfl) ) ?_
    rintro _ w3 ⟨rfl, hO⟩
    replace H := H.out hO
    refine WL.as rfl rfl ?_
    refine WL.nil ?_
    refine WE.ret ?_
    refine ⟨[_], _, .nil _, ⟨rfl, trivial⟩, ?_⟩
    refine ⟨?_, H.toOut0⟩
    rfl
  · skip
    refine WL.known (t := 28) (c := false) rfl hg29 ?_
    try simp only [decide_eq_true_eq, decide_eq_false_iff_not, ne_eq, Decidable.not_not, Bool.not_eq_true', Bool.not_eq_false', Bool.and_eq_true, Bool.or_eq_true, Bool.not_not, Bool.and_eq_false_iff, Bool.or_eq_false_iff, Int.not_lt, Int.not_le] at hg29
    obtain ⟨rfl, -, hfew⟩ := hbv21 (by exact hg29)
    have hok := ofM_ok l hkl
    have hpm := ofM_pm l hkl
    have hml : (ofM l).length ≤ 12 := Nat.le_trans hok.2.2.1 hfew.1
    have hvs := ofM_short hkl hfew.2
    have hsv : ShortV (ofM l) := fun e he => Nat.le_trans (hvs e he) (by decide)
    replace H := H.add (by exact (H.rob 4 rfl : Rob _ (Vals l) _).imp fun _ h => h.sub hok.2.2.2)
    have hone : OneS (ofM l) := OneS.of (H.p 0 rfl)
    have hfit : Tv21.er.fit 0 := hTv21 ▸ grow_fit hpm
    refine WL.mv rfl rfl ?_
    refine WL.call TryzT.fb15 rfl (r12Few_c (s := s2) (l := cs) H.yylt (by exact (H.rob 6 rfl : Rob _ (SlX s2 cs) _)) (by exact (H.rob 7 rfl : Rob _ (CVals cs) _)) hx hlc hvc) ?_
    rintro _ w4 ⟨bfew, rfl, hFewc, hO⟩
    replace H := H.out hO
    refine WL.pv (PV.not rfl rfl) rfl ?_
    refine WL.pv (PV.pick_f rfl rfl rfl) rfl ?_
    refine WL.nil ?_
    refine WE.cond rfl (fun hc33 => ?_) (fun hc33 => ?_)
    · skip
      try simp only [decide_eq_true_eq, decide_eq_false_iff_not, ne_eq, Decidable.not_not, Bool.not_eq_true', Bool.not_eq_false', Bool.and_eq_true, Bool.or_eq_true, Bool.not_not, Bool.and_eq_false_iff, Bool.or_eq_false_iff, Int.not_lt, Int.not_le] at hc33
      refine WE.seq_reg ?_
      refine WL.call TryzT.fb10 rfl (alive12_c  H.yylt (by exact H.rob 8 rfl) ) ?_
      rintro _ w5 ⟨rfl, hO⟩
      replace H := H.out hO
      refine WL.as rfl rfl ?_
      refine WL.nil ?_
      refine WE.ret ?_
      refine ⟨[_], _, .nil _, ⟨rfl, trivial⟩, ?_⟩
      refine ⟨?_, H.toOut0⟩
      rfl
    · skip
      try simp only [decide_eq_true_eq, decide_eq_false_iff_not, ne_eq, Decidable.not_not, Bool.not_eq_true', Bool.not_eq_false', Bool.and_eq_true, Bool.or_eq_true, Bool.not_not, Bool.and_eq_false_iff, Bool.or_eq_false_iff, Int.not_lt, Int.not_le] at hc33
      have hfc := hFewc (by exact hc33)
      have hcl := hfc.1
      have hcs : CShort cs := fun c hc => Nat.le_trans (hfc.2 c hc) (by decide)
      have hlt := LtX.of_chk hck
      have hao := apM_ok cs (ofM l) hok.1 hok.2.1 hx
      have hal := apM_len cs (ofM l)
      have hav := ShortV.ap hlt hsv hcs
      refine WE.skip ?_
      refine WE.seq_reg ?_
      refine WL.mv rfl rfl ?_
      refine WL.mv rfl rfl ?_
      refine WL.call TryzT.fb17 rfl (changes_c (s := s2) (l := cs) H.yylt (by exact (H.rob 6 rfl : Rob _ (SlX s2 cs) _)) (by exact (H.rob 7 rfl : Rob _ (CVals cs) _)) hx (by omega)) ?_
      rintro v38 w6 ⟨hO, hR⟩
      replace H := (H.out hO).add (show Rob _ (SlX v38 cs) _ from hR)
      refine WL.call TryzT.fb20 rfl (Undo_c (T := Tv21) (m := ofM l) (l := cs) (s := v38) (bits := i) H.yylt (by exact (H.rob 4 rfl : Rob _ (TrA i Tv21) _)) (by exact (H.rob 0 rfl : Rob _ (SlX v38 cs) _)) (by exact (H.rob 8 rfl : Rob _ (CVals cs) _)) hTv21 hok.1 hok.2.1 hsv hx hck (by omega)) ?_
      rintro _ w7 ⟨v40, us, rfl, hO, hOwn, hV, hU⟩
      have hR_ := (rob_own H.yylt hOwn).imp fun _ h => SlC.of_own h
      replace H := ((H.out hO).add hV).add (show Rob _ (SlX v40 us) _ from hR_)
      have hul := hU.len
      refine WL.mv rfl rfl ?_
      refine WL.pv (PV.extract rfl rfl rfl) rfl ?_
      refine WL.pv (PV.extract rfl rfl rfl) rfl ?_
      refine WL.as rfl rfl ?_
      refine WL.as rfl rfl ?_
      refine WL.nil ?_
      refine WE.seq ?_
      refine WE.seq_reg ?_
      refine WL.mv rfl rfl ?_
      refine WL.call TryzT.fb12 rfl (r12Check_c (s := s2) (l := cs) H.yylt (by exact (H.rob 9 rfl : Rob _ (SlX s2 cs) _)) hx (by omega)) ?_
      rintro _ w8 ⟨rfl, hO⟩
      replace H := H.out hO
      refine WL.as rfl rfl ?_
      refine WL.nil ?_
      refine WE.seq_reg ?_
      refine WL.mv rfl rfl ?_
      refine WL.pv (PV.neq rfl rfl rfl) rfl ?_
      refine WL.nil ?_
      refine WE.cond_f' rfl (by simp [hck]) ?_
      refine WE.skip ?_
      refine WE.seq_reg ?_
      refine WL.mv rfl rfl ?_
      refine WL.mv rfl rfl ?_
      refine WL.mv rfl rfl ?_
      refine WL.call TryzT.fb17 rfl (changes_c (s := s2) (l := cs) H.yylt (by exact (H.rob 9 rfl : Rob _ (SlX s2 cs) _)) (by exact (H.rob 10 rfl : Rob _ (CVals cs) _)) hx (by omega)) ?_
      rintro v61 w9 ⟨hO, hR⟩
      replace H := (H.out hO).add (show Rob _ (SlX v61 cs) _ from hR)
      refine WL.call TryzT.fb16 rfl (ApplyOk_c (T := Tv21) (m := ofM l) (l := cs) (s := v61) (bits := i) H.yylt (H.l 0 rfl) (by exact H.robL 0 rfl 5 rfl) (by exact (H.robL 0 rfl 7 rfl : Rob _ (TrA i Tv21) _)) (by exact (H.robL 0 rfl 0 rfl : Rob _ (SlX v61 cs) _)) (by exact (H.robL 0 rfl 11 rfl : Rob _ (CVals cs) _)) (by exact H.robL 0 rfl 12 rfl) hi hTv21 hok.1 hok.2.1 hx hcs hck (by omega)) ?_
      rintro _ w10 ⟨Tv62, mv62, rfl, hTv62, hO, hB, hR⟩
      replace H := H.calledR 0 rfl hO hB hR
      refine WL.mv rfl rfl ?_
      refine WL.pv (PV.extract rfl rfl rfl) rfl ?_
      refine WL.pv (PV.extract rfl rfl rfl) rfl ?_
      refine WL.as rfl rfl ?_
      refine WL.as rfl rfl ?_
      refine WL.nil ?_
      refine WE.seq_reg ?_
      refine WL.mv rfl rfl ?_
      refine WL.mv rfl rfl ?_
      refine WL.mv rfl rfl ?_
      refine WL.call TryzT.fb16 rfl (ApplyOk_c (T := Tv62) (m := (apM (ofM l) cs)) (l := us) (s := v40) (bits := i) H.yylt (H.l 0 rfl) (by exact H.robL 0 rfl 6 rfl) (by exact (H.robL 0 rfl 0 rfl : Rob _ (TrA i Tv62) _)) (by exact (H.robL 0 rfl 2 rfl : Rob _ (SlX v40 us) _)) (by exact (H.robL 0 rfl 3 rfl : Rob _ (CVals us) _)) (by exact H.robL 0 rfl 13 rfl) hi hTv62 hao.1 hao.2 hU.xl hU.sh hU.lt.chk (by omega)) ?_
      rintro _ w11 ⟨Tv69, mv69, rfl, hTv69, hO, hB, hR⟩
      replace H := H.calledR 0 rfl hO hB hR
      have hTm : Tv69.er = grow 0 (ofM l) := hTv69.trans (grow_kv hU.leads)
      refine WL.mv rfl rfl ?_
      refine WL.pv (PV.extract rfl rfl rfl) rfl ?_
      refine WL.pv (PV.extract rfl rfl rfl) rfl ?_
      refine WL.as rfl rfl ?_
      refine WL.as rfl rfl ?_
      refine WL.nil ?_
      refine WE.seq_reg ?_
      refine WL.call TryzT.fb10 rfl (alive12_c H.yylt (by exact (H.rob 14 rfl : Rob _ (Rounds) _))) ?_
      rintro _ w12 ⟨rfl, hO⟩
      replace H := H.out hO
      refine WL.mv rfl rfl ?_
      refine WL.known (t := 73) (c := true) rfl (by rfl) ?_
      refine WL.mv rfl rfl ?_
      refine WL.pv (PV.eql rfl rfl rfl) rfl ?_
      refine WL.pv (PV.pick_t rfl rfl rfl) rfl ?_
      refine WL.mv rfl rfl ?_
      refine WL.known (t := 77) (c := true) rfl (by rfl) ?_
      refine WL.mv rfl rfl ?_
      refine WL.pv (PV.eql rfl rfl rfl) rfl ?_
      refine WL.pv (PV.pick_t rfl rfl rfl) rfl ?_
      refine WL.mv rfl rfl ?_
      refine WL.known (t := 81) (c := true) rfl (by rfl) ?_
      refine WL.mv rfl rfl ?_
      refine WL.pv (PV.eql rfl rfl rfl) rfl ?_
      refine WL.pv (PV.pick_t rfl rfl rfl) rfl ?_
      refine WL.mv rfl rfl ?_
      refine WL.known (t := 85) (c := true) rfl (by rfl) ?_
      refine WL.mv rfl rfl ?_
      refine WL.call TryzT.fb22 rfl (back_c (s := v40) (l := us) H.yylt (by exact (H.rob 3 rfl : Rob _ (SlX v40 us) _)) (by exact (H.rob 4 rfl : Rob _ (CVals us) _)) hU.xl (by omega)) ?_
      rintro v87 w13 ⟨hO, hR⟩
      replace H := (H.out hO).add (show Rob _ (SlX v87 us) _ from hR)
      refine WL.mv rfl rfl ?_
      refine WL.mv rfl rfl ?_
      refine WL.call TryzT.fb18 rfl (r12Apply_c (s2 := sv21) (s := s2) (m := ofM l) (l := cs) H.yylt (by exact (H.rob 9 rfl : Rob _ (SlE sv21 (ofM l)) _)) (by exact (H.rob 13 rfl : Rob _ (SlX s2 cs) _)) (by exact (H.rob 14 rfl : Rob _ (CVals cs) _)) hok.1 hok.2.1 hone hx (by omega)) ?_
      rintro v90 w14 ⟨hO, hR⟩
      replace H := (H.out hO).add (show Rob _ (SlE v90 (apM (ofM l) cs)) _ from hR)
      replace H := H.add (show Rob _ (Vals (apM (ofM l) cs)) _ from (Rob.and (show Rob _ (Vals (ofM l)) _ from (by exact (H.rob 8 rfl : Rob _ (Vals (ofM l)) _))) (show Rob _ (CVals cs) _ from (by exact (H.rob 15 rfl : Rob _ (CVals cs) _)))).imp fun _ h => h.1.ap hlt h.2)
      refine WL.mv rfl rfl ?_
      refine WL.call TryzT.fb23 rfl (r12Diff_c (s1 := v90) (s2 := sv21) (a := (apM (ofM l) cs)) (b := ofM l) H.yylt (by exact (H.rob 1 rfl : Rob _ (SlE v90 (apM (ofM l) cs)) _)) (by exact (H.rob 11 rfl : Rob _ (SlE sv21 (ofM l)) _)) (by exact (H.rob 0 rfl : Rob _ (Vals (apM (ofM l) cs)) _)) (by exact (H.rob 9 rfl : Rob _ (Vals (ofM l)) _)) hao.1 hok.1 hao.2 hok.2.1 hav (by omega)) ?_
      rintro v92 w15 ⟨ds, hO, hS, hV, hXd, hKd⟩
      replace H := ((H.out hO).add hV).add hS
      refine WL.call TryzT.fb21 rfl (r12Same_c (a := v87) (b := v92) (cs := us) (ds := ds) H.yylt (by exact (H.rob 4 rfl : Rob _ (SlX v87 us) _)) (by exact (H.rob 9 rfl : Rob _ (CVals us) _)) (by exact (H.rob 0 rfl : Rob _ (SlX v92 ds) _)) (by exact (H.rob 1 rfl : Rob _ (CVals ds) _)) hU.xl hXd (by omega) hU.sh (hU.kx_.trans hKd.symm)) ?_
      rintro _ w16 ⟨rfl, hO⟩
      replace H := H.out hO
      refine WL.pv (PV.pick_t rfl rfl rfl) rfl ?_
      refine WL.mv rfl rfl ?_
      refine WL.known (t := 95) (c := true) rfl (by rfl) ?_
      refine WL.mv rfl rfl ?_
      refine WL.mv rfl rfl ?_
      refine WL.call TryzT.fb24 rfl (Root_c (m := ofM l) (d := 0) (bits := i) H.yylt (by exact (H.rob 13 rfl : Rob _ (SlE sv21 (ofM l)) _)) (by exact (H.rob 11 rfl : Rob _ (Vals (ofM l)) _)) (by exact (H.rob 19 rfl : Rob _ (Rounds) _)) hpm (by omega) hsv hi) ?_
      rintro _ w17 ⟨rfl, hO⟩
      replace H := H.out hO
      refine WL.mv rfl rfl ?_
      refine WL.mv rfl rfl ?_
      refine WL.call TryzT.fb14 rfl (Digest_c (T := Tv69) (bits := i) H.yylt (H.l 0 rfl) (by exact H.robL 0 rfl 12 rfl) (by exact (H.robL 0 rfl 5 rfl : Rob _ (TrA i Tv69) _)) (by exact H.robL 0 rfl 19 rfl) hi) ?_
      rintro _ w18 ⟨mv101, rfl, hO, hB⟩
      replace H := H.called 0 rfl hO hB
      refine WL.pv (PV.eqlB rfl TryzT.ar42 TryzT.in5 TryzT.sz5 (by kernel_rfl) rfl rfl (by exact dig_length _ _) (by exact dig_length _ _)) rfl ?_
      refine WL.pv (PV.pick_t rfl rfl rfl) rfl ?_
      refine WL.as rfl rfl ?_
      refine WL.nil ?_
      refine WE.ret ?_
      refine ⟨[_], _, .nil _, ⟨rfl, trivial⟩, ?_⟩
      refine ⟨?_, H.toOut0⟩
      show Value.bool _ = Value.bool true
      congr 1
      have hd_ : Tv69.er.dig i = rootM i 0 (ofM l) := by rw [hTm]; rfl
      simp [hd_]

end Go.Sp.Tryz
