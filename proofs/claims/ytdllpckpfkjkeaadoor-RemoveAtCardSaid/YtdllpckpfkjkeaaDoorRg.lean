/- Walks of functions, printed by a program of this session (gen.py) from notes on each function. -/
import Derived.Test.YtdllpckpfkjkeaaDoorRc
import Derived.Test.YtdllpckpfkjkeaaDoorOe
set_option maxRecDepth 100000
set_option maxHeartbeats 1000000
set_option linter.unusedVariables false
set_option linter.unusedSimpArgs false
namespace Go.Sp.Tryd
open Go.Proofs Go.RowKit Go.Sp

open Go.ChangeShapes Go.WideShapes Go.ChangeAt
theorem open_keys {H : Type} {enc : TypeId × Value → H} {W : World} {r : Reach} {base b0 : Nat} {sp : Nat → Bool} {held : Bool} {t : TypeId} {v : Value} {d : DataW H} {ps : List MemPlace} (ht : tySlice Tryd.prog t = some 24) (hval : Value.okWide Tryd.prog W r b0 t v) (hd : DataW.Trod enc Tryd.prog W base sp held t v d ps) :
    ∃ ks : List (List UInt8), ks.length ≤ 9223372036854775807 ∧ K32 ks ∧ Rob Nil (SlK v ks) W := by
  obtain ⟨l, h1, h2, h3⟩ := open_slices (C := kc) (Q := fun k => k.length = 32) ht (by decide) key_opn hval hd
  exact ⟨l, h1, h2, h3⟩

theorem RemoveAllBad_c {X : Nat → Prop} {w : World} {i : Int} {s s2 : Value} {l : List En} {ks : List (List UInt8)} (hX : ∀ b, X b → b < w.heap.size) (hf0 : Rob X (SlE s l) w) (hf1 : Rob X (Vals l) w) (hf2 : Rob X (SlK s2 ks) w) (hf3 : Rob X (Rounds) w) (hi : ¬ (0 ≤ i ∧ i ≤ 256)) (hkl : KL l) (hlen : l.length ≤ 9223372036854775807) (hvl : ∀ e ∈ l, e.v.length ≤ 9223372036854775807) (hkk : K32 ks) (hlk : ks.length ≤ 9223372036854775807) :
    Ret Tryd.prog 13 [.int .i64 i, s, s2].toArray w fun v w' => v = .bool true ∧ Out Nil w w' := by
  refine Ret.of_body (N := 58) Tryd.func13 rfl rfl (by simp) ?_
  have H := St.begin hX
  replace H := H.add (rob0 hf3)
  replace H := H.add (rob0 hf2)
  replace H := H.add (rob0 hf1)
  replace H := H.add (rob0 hf0)
  refine WE.seq_reg ?_
  refine WL.as rfl rfl ?_
  refine WL.nil ?_
  refine WE.seq_reg ?_
  refine WL.mv rfl rfl ?_
  refine WL.mv rfl rfl ?_
  refine WL.call TrydT.fb15 rfl (Tree_c (i := i) (l := l) H.yylt (by exact H.rob 0 rfl) (by exact H.rob 1 rfl) (by exact H.rob 3 rfl) (by assumption) (by assumption) (by assumption)) ?_
  rintro _ w1 ⟨bv18, sv18, Tv18, mv18, rfl, hTv18, hbv18, hO, hS_, hR⟩
  replace H := ((H.out hO).add hR).add hS_
  have hbf : bv18 = false := by cases hb_ : bv18; rfl; exact absurd (hbv18 hb_).2.1 hi
  subst hbf
  refine WL.mv rfl rfl ?_
  refine WL.pv (PV.extract rfl rfl rfl) rfl ?_
  refine WL.pv (PV.extract rfl rfl rfl) rfl ?_
  refine WL.pv (PV.extract rfl rfl rfl) rfl ?_
  refine WL.as rfl rfl ?_
  refine WL.as rfl rfl ?_
  refine WL.as rfl rfl ?_
  refine WL.nil ?_
  refine WE.seq_reg ?_
  refine WL.mv rfl rfl ?_
  refine WL.call TrydT.fb16 rfl (HashBad_c (i := i) H.yylt  (by assumption)) ?_
  rintro _ w2 ⟨rfl, hO⟩
  replace H := H.out hO
  refine WL.as rfl rfl ?_
  refine WL.nil ?_
  refine WE.seq ?_
  refine WE.seq_reg ?_
  refine WL.mv rfl rfl ?_
  refine WL.pv (PV.not rfl rfl) rfl ?_
  refine WL.mv rfl rfl ?_
  refine WL.known (t := 26) (c := true) rfl rfl ?_
  refine WL.off rfl ?_
  refine WL.off rfl ?_
  refine WL.off rfl ?_
  refine WL.pv (PV.pick_t rfl rfl rfl) rfl ?_
  refine WL.nil ?_
  refine WE.cond_t rfl ?_
  refine WE.seq_reg ?_
  refine WL.call TrydT.fb34 rfl (alive10_c  H.yylt (by exact H.rob 5 rfl) ) ?_
  rintro _ w3 ⟨rfl, hO⟩
  replace H := H.out hO
  refine WL.as rfl rfl ?_
  refine WL.nil ?_
  refine WE.ret ?_
  refine ⟨[_], _, .nil _, ⟨rfl, trivial⟩, ?_⟩
  refine ⟨?_, H.toOut0⟩
  rfl

theorem RemoveAll_c {X : Nat → Prop} {w : World} {i : Int} {s s2 : Value} {l : List En} {ks : List (List UInt8)} (hX : ∀ b, X b → b < w.heap.size) (hf0 : Rob X (SlE s l) w) (hf1 : Rob X (Vals l) w) (hf2 : Rob X (SlK s2 ks) w) (hf3 : Rob X (Rounds) w) (hi : 0 ≤ i ∧ i ≤ 256) (hkl : KL l) (hlen : l.length ≤ 9223372036854775807) (hvl : ∀ e ∈ l, e.v.length ≤ 9223372036854775807) (hkk : K32 ks) (hlk : ks.length ≤ 9223372036854775807) :
    Ret Tryd.prog 13 [.int .i64 i, s, s2].toArray w fun v w' => v = .bool true ∧ Out Nil w w' := by
  refine Ret.of_body (N := 58) Tryd.func13 rfl rfl (by simp) ?_
  have H := St.begin hX
  replace H := H.add (rob0 hf3)
  replace H := H.add (rob0 hf2)
  replace H := H.add (rob0 hf1)
  replace H := H.add (rob0 hf0)
  refine WE.seq_reg ?_
  refine WL.as rfl rfl ?_
  refine WL.nil ?_
  refine WE.seq_reg ?_
  refine WL.mv rfl rfl ?_
  refine WL.mv rfl rfl ?_
  refine WL.call TrydT.fb15 rfl (Tree_c (i := i) (l := l) H.yylt (by exact H.rob 0 rfl) (by exact H.rob 1 rfl) (by exact H.rob 3 rfl) (by assumption) (by assumption) (by assumption)) ?_
  rintro _ w1 ⟨bv18, sv18, Tv18, mv18, rfl, hTv18, hbv18, hO, hS_, hR⟩
  replace H := ((H.out hO).add hR).add hS_
  refine WL.mv rfl rfl ?_
  refine WL.pv (PV.extract rfl rfl rfl) rfl ?_
  refine WL.pv (PV.extract rfl rfl rfl) rfl ?_
  refine WL.pv (PV.extract rfl rfl rfl) rfl ?_
  refine WL.as rfl rfl ?_
  refine WL.as rfl rfl ?_
  refine WL.as rfl rfl ?_
  refine WL.nil ?_
  refine WE.seq_reg ?_
  refine WL.mv rfl rfl ?_
  refine WL.call TrydT.fb16 rfl (Hash_c (i := i) H.yylt  (by assumption)) ?_
  rintro _ w2 ⟨bhv23, bcv23, rfl, hO, hge, hB, hR⟩
  replace H := H.pushR hO (Ent.blk bcv23 127 [.int .i64 0]) hB (fun c hc => by cases hc; exact hge) hR
  refine WL.as rfl rfl ?_
  refine WL.nil ?_
  refine WE.seq ?_
  refine WE.seq_reg ?_
  refine WL.mv rfl rfl ?_
  refine WL.pv (PV.not rfl rfl) rfl ?_
  refine WL.mv rfl rfl ?_
  refine WL.split (t := 26) rfl (fun hg26 => ?_) (fun hg26 => ?_)
  · skip
    refine WL.known (t := 25) (c := true) rfl hg26 ?_
    try simp only [decide_eq_true_eq, decide_eq_false_iff_not, ne_eq, Decidable.not_not, Bool.not_eq_true', Bool.not_eq_false', Bool.and_eq_true, Bool.or_eq_true, Bool.not_not, Bool.and_eq_false_iff, Bool.or_eq_false_iff, Int.not_lt, Int.not_le] at hg26
    refine WL.off rfl ?_
    refine WL.off rfl ?_
    refine WL.off rfl ?_
    refine WL.pv (PV.pick_t rfl rfl rfl) rfl ?_
    refine WL.nil ?_
    refine WE.cond_t rfl ?_
    refine WE.seq_reg ?_
    refine WL.call TrydT.fb34 rfl (alive10_c  H.yylt (by exact H.rob 6 rfl) ) ?_
    rintro _ w3 ⟨rfl, hO⟩
    replace H := H.out hO
    refine WL.as rfl rfl ?_
    refine WL.nil ?_
    refine WE.ret ?_
    refine ⟨[_], _, .nil _, ⟨rfl, trivial⟩, ?_⟩
    refine ⟨?_, H.toOut0⟩
    rfl
  · skip
    refine WL.known (t := 25) (c := false) rfl hg26 ?_
    try simp only [decide_eq_true_eq, decide_eq_false_iff_not, ne_eq, Decidable.not_not, Bool.not_eq_true', Bool.not_eq_false', Bool.and_eq_true, Bool.or_eq_true, Bool.not_not, Bool.and_eq_false_iff, Bool.or_eq_false_iff, Int.not_lt, Int.not_le] at hg26
    obtain ⟨rfl, -, hfew⟩ := hbv18 (by exact hg26)
    have hok := ofM_ok l hkl
    have hpm := ofM_pm l hkl
    have hml : (ofM l).length ≤ 12 := Nat.le_trans hok.2.2.1 hfew.1
    have hvs := ofM_short hkl hfew.2
    have hsv : ShortV (ofM l) := fun e he => Nat.le_trans (hvs e he) (by decide)
    replace H := H.add (by exact (H.rob 4 rfl : Rob _ (Vals l) _).imp fun _ h => h.sub hok.2.2.2)
    have hone : OneS (ofM l) := OneS.of (H.p 0 rfl)
    have hfit : Tv18.er.fit 0 := hTv18 ▸ grow_fit hpm
    have hfo := rmAll_ok ks (ofM l) hok.1 hok.2.1
    refine WL.mv rfl rfl ?_
    refine WL.pv (PV.lenS (by exact (H.p 6 rfl : SlK s2 ks _)) TrydT.sl72 rfl) rfl ?_
    refine WL.pv (PV.gtr rfl rfl rfl) rfl ?_
    refine WL.pv (PV.pick_f rfl rfl rfl) rfl ?_
    refine WL.nil ?_
    refine WE.cond rfl (fun hc30 => ?_) (fun hc30 => ?_)
    · skip
      try simp only [decide_eq_true_eq, decide_eq_false_iff_not, ne_eq, Decidable.not_not, Bool.not_eq_true', Bool.not_eq_false', Bool.and_eq_true, Bool.or_eq_true, Bool.not_not, Bool.and_eq_false_iff, Bool.or_eq_false_iff, Int.not_lt, Int.not_le] at hc30
      refine WE.seq_reg ?_
      refine WL.call TrydT.fb34 rfl (alive10_c  H.yylt (by exact H.rob 7 rfl) ) ?_
      rintro _ w4 ⟨rfl, hO⟩
      replace H := H.out hO
      refine WL.as rfl rfl ?_
      refine WL.nil ?_
      refine WE.ret ?_
      refine ⟨[_], _, .nil _, ⟨rfl, trivial⟩, ?_⟩
      refine ⟨?_, H.toOut0⟩
      rfl
    · skip
      try simp only [decide_eq_true_eq, decide_eq_false_iff_not, ne_eq, Decidable.not_not, Bool.not_eq_true', Bool.not_eq_false', Bool.and_eq_true, Bool.or_eq_true, Bool.not_not, Bool.and_eq_false_iff, Bool.or_eq_false_iff, Int.not_lt, Int.not_le] at hc30
      have hlk2 : ks.length ≤ 20 := by omega
      refine WE.skip ?_
      refine WE.seq_reg ?_
      refine WL.mv rfl rfl ?_
      refine WL.mv rfl rfl ?_
      refine WL.mv rfl rfl ?_
      refine WL.call TrydT.fb41 rfl (rmAll_c (T := Tv18) (M := ofM l) (ks := ks) (s := s2) (bits := i) H.yylt (H.l 0 rfl) (by exact H.robL 0 rfl 1 rfl) (by exact H.robL 0 rfl 3 rfl) (by exact (H.robL 0 rfl 6 rfl : Rob _ (SlK s2 ks) _)) (by exact H.robL 0 rfl 7 rfl) hi hTv18 hok.2.1 hok.1 hkk (by omega) (by omega)) ?_
      rintro _ w5 ⟨Tv36, mv36, rfl, hTv36, hO, hB, hR⟩
      replace H := H.calledR 0 rfl hO hB hR
      refine WL.mv rfl rfl ?_
      refine WL.pv (PV.extract rfl rfl rfl) rfl ?_
      refine WL.pv (PV.extract rfl rfl rfl) rfl ?_
      refine WL.as rfl rfl ?_
      refine WL.as rfl rfl ?_
      refine WL.nil ?_
      refine WE.seq_reg ?_
      refine WL.mv rfl rfl ?_
      refine WL.mv rfl rfl ?_
      refine WL.call TrydT.fb42 rfl (refAll10_c (s2 := sv18) (s := s2) (M := ofM l) (ks := ks) H.yylt (by exact (H.rob 3 rfl : Rob _ (SlE sv18 (ofM l)) _)) (by exact (H.rob 7 rfl : Rob _ (SlK s2 ks) _)) hok.2.1 hok.1 hone hkk (by omega) (by omega)) ?_
      rintro _ w6 ⟨sv42, rfl, hO, hR⟩
      replace H := (H.out hO).add hR
      refine WL.mv rfl rfl ?_
      refine WL.pv (PV.extract rfl rfl rfl) rfl ?_
      refine WL.pv (PV.extract rfl rfl rfl) rfl ?_
      refine WL.as rfl rfl ?_
      refine WL.as rfl rfl ?_
      refine WL.nil ?_
      refine WE.seq_reg ?_
      refine WL.call TrydT.fb34 rfl (alive10_c  H.yylt (by exact H.rob 9 rfl) ) ?_
      rintro _ w7 ⟨rfl, hO⟩
      replace H := H.out hO
      refine WL.mv rfl rfl ?_
      refine WL.known (t := 46) (c := true) rfl (by rfl) ?_
      refine WL.mv rfl rfl ?_
      refine WL.mv rfl rfl ?_
      refine WL.pv (PV.eql rfl rfl rfl) rfl ?_
      refine WL.pv (PV.pick_t rfl rfl rfl) rfl ?_
      refine WL.mv rfl rfl ?_
      refine WL.known (t := 51) (c := true) rfl (by (simp; done)) ?_
      refine WL.mv rfl rfl ?_
      refine WL.mv rfl rfl ?_
      refine WL.mv rfl rfl ?_
      refine WL.call TrydT.fb26 rfl (Is_c (T := Tv36) (M := (ks.foldl rmM (ofM l))) (s := sv42) (bits := i) H.yylt (H.l 0 rfl) (by exact H.robL 0 rfl 3 rfl) (by exact H.robL 0 rfl 1 rfl) (by exact (H.robL 0 rfl 0 rfl : Rob _ (SlE sv42 (ks.foldl rmM (ofM l))) _)) (by exact (H.robL 0 rfl 2 rfl : Rob _ (Vals (ofM l)) _).imp fun _ h e he => h e (hfo.2.2.2 e he)) (by exact H.robL 0 rfl 9 rfl) hi hTv36 hfo.2.1 hfo.1 (fun e he => hsv e (hfo.2.2.2 e he)) (Nat.le_trans hfo.2.2.1 (by omega))) ?_
      rintro _ w8 ⟨mv55, rfl, hO, hB⟩
      replace H := H.called 0 rfl hO hB
      refine WL.pv (PV.gtr rfl rfl rfl) rfl ?_
      refine WL.pv (PV.pick_t rfl rfl rfl) rfl ?_
      refine WL.as rfl rfl ?_
      refine WL.nil ?_
      refine WE.ret ?_
      refine ⟨[_], _, .nil _, ⟨rfl, trivial⟩, ?_⟩
      refine ⟨?_, H.toOut0⟩
      rfl

end Go.Sp.Tryd
