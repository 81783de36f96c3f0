/- Walks of functions, printed by a program of this session (gen.py) from notes on each function. -/
import Derived.Test.YtcclagdjpoimaaaDoorY6
import Derived.Test.YtcclagdjpoimaaaDoorY5
set_option maxRecDepth 100000
set_option maxHeartbeats 1000000
set_option linter.unusedVariables false
set_option linter.unusedSimpArgs false
namespace Go.Sp.Tryd
open Go.Proofs Go.RowKit Go.Sp

theorem DF.nil {m : List En} {cs : List Ch} (h : DF m m cs) (hs : Srt m) (hk : KL m) : cs = [] := by
  have h1 := h.kx_
  rw [diffX_same hs hs hk hk rfl] at h1
  exact List.map_eq_nil_iff.1 h1

theorem BatchDiffs_c {X : Nat → Prop} {w : World} {i : Int} {s s2 : Value} {l l2 : List En} (hX : ∀ b, X b → b < w.heap.size) (hf0 : Rob X (SlE s l) w) (hf1 : Rob X (Vals l) w) (hf2 : Rob X (SlE s2 l2) w) (hf3 : Rob X (Vals l2) w) (hf4 : Rob X (Rounds) w) (hkl : KL l) (hlen : l.length ≤ 9223372036854775807) (hvl : ∀ e ∈ l, e.v.length ≤ 9223372036854775807) (hkl2 : KL l2) (hlen2 : l2.length ≤ 9223372036854775807) (hvl2 : ∀ e ∈ l2, e.v.length ≤ 9223372036854775807) :
    Ret Tryd.prog 3 [.int .i64 i, s, s2].toArray w fun v w' => v = .bool true ∧ Out Nil w w' := by
  refine Ret.of_body (N := 52) Tryd.func3 rfl rfl (by simp) ?_
  have H := St.begin hX
  replace H := H.add (rob0 hf4)
  replace H := H.add (rob0 hf3)
  replace H := H.add (rob0 hf2)
  replace H := H.add (rob0 hf1)
  replace H := H.add (rob0 hf0)
  refine WE.seq_reg ?_
  refine WL.as rfl rfl ?_
  refine WL.nil ?_
  refine WE.seq_reg ?_
  refine WL.mv rfl rfl ?_
  refine WL.mv rfl rfl ?_
  refine WL.call TrydT.fb4 rfl (Tree_c (i := i) (l := l) H.yylt (by exact H.rob 0 rfl) (by exact H.rob 1 rfl) (by exact H.rob 4 rfl) (by assumption) (by assumption) (by assumption)) ?_
  rintro _ w1 ⟨bv16, sv16, Tv16, mv16, rfl, hTv16, hbv16, hO, hS_, hR⟩
  replace H := ((H.out hO).add hR).add hS_
  refine WL.mv rfl rfl ?_
  refine WL.pv (PV.extract rfl rfl rfl) rfl ?_
  refine WL.pv (PV.extract rfl rfl rfl) rfl ?_
  refine WL.pv (PV.extract rfl rfl rfl) rfl ?_
  refine WL.as rfl rfl ?_
  refine WL.as rfl rfl ?_
  refine WL.as rfl rfl ?_
  refine WL.nil ?_
  refine WE.seq_reg ?_
  refine WL.mv rfl rfl ?_
  refine WL.mv rfl rfl ?_
  refine WL.call TrydT.fb4 rfl (Tree_c (i := i) (l := l2) H.yylt (by exact H.rob 4 rfl) (by exact H.rob 5 rfl) (by exact H.rob 6 rfl) hkl2 hlen2 hvl2) ?_
  rintro _ w2 ⟨bv23, sv23, Tv23, mv23, rfl, hTv23, hbv23, hO, hS_, hR⟩
  replace H := ((H.out hO).add hR).add hS_
  refine WL.mv rfl rfl ?_
  refine WL.pv (PV.extract rfl rfl rfl) rfl ?_
  refine WL.pv (PV.extract rfl rfl rfl) rfl ?_
  refine WL.pv (PV.extract rfl rfl rfl) rfl ?_
  refine WL.as rfl rfl ?_
  refine WL.as rfl rfl ?_
  refine WL.as rfl rfl ?_
  refine WL.nil ?_
  refine WE.seq ?_
  refine WE.seq_reg ?_
  refine WL.mv rfl rfl ?_
  refine WL.pv (PV.not rfl rfl) rfl ?_
  refine WL.mv rfl rfl ?_
  refine WL.split (t := 29) rfl (fun hg29 => ?_) (fun hg29 => ?_)
  · skip
    refine WL.known (t := 28) (c := true) rfl hg29 ?_
    try simp only [decide_eq_true_eq, decide_eq_false_iff_not, ne_eq, Decidable.not_not, Bool.not_eq_true', Bool.not_eq_false', Bool.and_eq_true, Bool.or_eq_true, Bool.not_not, Bool.and_eq_false_iff, Bool.or_eq_false_iff, Int.not_lt, Int.not_le] at hg29
    refine WL.off rfl ?_
    refine WL.off rfl ?_
    refine WL.pv (PV.pick_t rfl rfl rfl) rfl ?_
    refine WL.nil ?_
    refine WE.cond_t rfl ?_
    refine WE.seq_reg ?_
    refine WL.call TrydT.fb5 rfl (alive12_c H.yylt (by exact (H.rob 8 rfl : Rob _ (Rounds) _))) ?_
    rintro _ w3 ⟨rfl, hO⟩
    replace H := H.out hO
    refine WL.as rfl rfl ?_
    refine WL.nil ?_
    refine WE.ret ?_
    refine ⟨[_], _, .nil _, ⟨rfl, trivial⟩, ?_⟩
    refine ⟨?_, H.toOut0⟩
    rfl
  · skip
    refine WL.known (t := 28) (c := false) rfl hg29 ?_
    try simp only [decide_eq_true_eq, decide_eq_false_iff_not, ne_eq, Decidable.not_not, Bool.not_eq_true', Bool.not_eq_false', Bool.and_eq_true, Bool.or_eq_true, Bool.not_not, Bool.and_eq_false_iff, Bool.or_eq_false_iff, Int.not_lt, Int.not_le] at hg29
    obtain ⟨rfl, -, hfew⟩ := hbv16 (by exact hg29)
    have hok := ofM_ok l hkl
    have hpm := ofM_pm l hkl
    have hml : (ofM l).length ≤ 12 := Nat.le_trans hok.2.2.1 hfew.1
    have hvs := ofM_short hkl hfew.2
    have hsv : ShortV (ofM l) := fun e he => Nat.le_trans (hvs e he) (by decide)
    replace H := H.add (by exact (H.rob 5 rfl : Rob _ (Vals l) _).imp fun _ h => h.sub hok.2.2.2)
    have hone : OneS (ofM l) := OneS.of (H.p 0 rfl)
    have hfit : Tv16.er.fit 0 := hTv16 ▸ grow_fit hpm
    refine WL.mv rfl rfl ?_
    refine WL.pv (PV.not rfl rfl) rfl ?_
    refine WL.pv (PV.pick_f rfl rfl rfl) rfl ?_
    refine WL.nil ?_
    refine WE.cond rfl (fun hc32 => ?_) (fun hc32 => ?_)
    · skip
      try simp only [decide_eq_true_eq, decide_eq_false_iff_not, ne_eq, Decidable.not_not, Bool.not_eq_true', Bool.not_eq_false', Bool.and_eq_true, Bool.or_eq_true, Bool.not_not, Bool.and_eq_false_iff, Bool.or_eq_false_iff, Int.not_lt, Int.not_le] at hc32
      refine WE.seq_reg ?_
      refine WL.call TrydT.fb5 rfl (alive12_c H.yylt (by exact (H.rob 9 rfl : Rob _ (Rounds) _))) ?_
      rintro _ w4 ⟨rfl, hO⟩
      replace H := H.out hO
      refine WL.as rfl rfl ?_
      refine WL.nil ?_
      refine WE.ret ?_
      refine ⟨[_], _, .nil _, ⟨rfl, trivial⟩, ?_⟩
      refine ⟨?_, H.toOut0⟩
      rfl
    · skip
      try simp only [decide_eq_true_eq, decide_eq_false_iff_not, ne_eq, Decidable.not_not, Bool.not_eq_true', Bool.not_eq_false', Bool.and_eq_true, Bool.or_eq_true, Bool.not_not, Bool.and_eq_false_iff, Bool.or_eq_false_iff, Int.not_lt, Int.not_le] at hc32
      obtain ⟨rfl, -, hfew2⟩ := hbv23 (by exact hc32)
      have hok2 := ofM_ok l2 hkl2
      have hpm2 := ofM_pm l2 hkl2
      have hml2 : (ofM l2).length ≤ 12 := Nat.le_trans hok2.2.2.1 hfew2.1
      have hvs2 := ofM_short hkl2 hfew2.2
      have hsv2 : ShortV (ofM l2) := fun e he => Nat.le_trans (hvs2 e he) (by decide)
      replace H := H.add (by exact (H.rob 8 rfl : Rob _ (Vals l2) _).imp fun _ h => h.sub hok2.2.2.2)
      have hone2 : OneS (ofM l2) := OneS.of (H.p 0 rfl)
      have hfit2 : Tv23.er.fit 0 := hTv23 ▸ grow_fit hpm2
      refine WE.skip ?_
      refine WE.seq_reg ?_
      refine WL.call TrydT.fb5 rfl (alive12_c H.yylt (by exact (H.rob 10 rfl : Rob _ (Rounds) _))) ?_
      rintro _ w5 ⟨rfl, hO⟩
      replace H := H.out hO
      refine WL.mv rfl rfl ?_
      refine WL.known (t := 35) (c := true) rfl (by rfl) ?_
      refine WL.mv rfl rfl ?_
      refine WL.mv rfl rfl ?_
      refine WL.call TrydT.fb8 rfl (Diff_c (T := Tv16) (S := Tv23) (m := (ofM l)) (n := (ofM l2)) (bits := i) H.yylt (by exact (H.rob 5 rfl : Rob _ (TrA i Tv16) _)) (by exact (H.rob 3 rfl : Rob _ (TrA i Tv23) _)) hTv16 hTv23 hok.1 hok2.1 hok.2.1 hok2.2.1 hsv2 (by omega)) ?_
      rintro v38 w6 ⟨cs, hO, hOwn, hV, hDcs⟩
      have hR_ := (rob_own H.yylt hOwn).imp fun _ h => SlC.of_own h
      replace H := ((H.out hO).add hV).add (show Rob _ (SlX v38 cs) _ from hR_)
      have hcl := hDcs.len
      refine WL.call TrydT.fb7 rfl (back_c (s := v38) (l := cs) H.yylt (by exact (H.rob 0 rfl : Rob _ (SlX v38 cs) _)) (by exact (H.rob 1 rfl : Rob _ (CVals cs) _)) hDcs.xl (by omega)) ?_
      rintro v39 w7 ⟨hO, hR⟩
      replace H := (H.out hO).add (show Rob _ (SlX v39 cs) _ from hR)
      refine WL.mv rfl rfl ?_
      refine WL.mv rfl rfl ?_
      refine WL.call TrydT.fb9 rfl (r12Diff_c (s1 := sv16) (s2 := sv23) (a := ofM l) (b := ofM l2) H.yylt (by exact (H.rob 7 rfl : Rob _ (SlE sv16 (ofM l)) _)) (by exact (H.rob 5 rfl : Rob _ (SlE sv23 (ofM l2)) _)) (by exact (H.rob 4 rfl : Rob _ (Vals (ofM l)) _)) (by exact (H.rob 3 rfl : Rob _ (Vals (ofM l2)) _)) hok.1 hok2.1 hok.2.1 hok2.2.1 hsv (by omega)) ?_
      rintro v42 w8 ⟨ds, hO, hS, hV, hXd, hKd⟩
      replace H := ((H.out hO).add hV).add hS
      refine WL.call TrydT.fb6 rfl (r12Same_c (a := v39) (b := v42) (cs := cs) (ds := ds) H.yylt (by exact (H.rob 2 rfl : Rob _ (SlX v39 cs) _)) (by exact (H.rob 4 rfl : Rob _ (CVals cs) _)) (by exact (H.rob 0 rfl : Rob _ (SlX v42 ds) _)) (by exact (H.rob 1 rfl : Rob _ (CVals ds) _)) hDcs.xl hXd (by omega) hDcs.sh (hDcs.kx_.trans hKd.symm)) ?_
      rintro _ w9 ⟨rfl, hO⟩
      replace H := H.out hO
      refine WL.pv (PV.pick_t rfl rfl rfl) rfl ?_
      refine WL.mv rfl rfl ?_
      refine WL.known (t := 45) (c := true) rfl (by rfl) ?_
      refine WL.mv rfl rfl ?_
      refine WL.mv rfl rfl ?_
      refine WL.call TrydT.fb8 rfl (Diff_c (T := Tv16) (S := Tv16) (m := (ofM l)) (n := (ofM l)) (bits := i) H.yylt (by exact (H.rob 10 rfl : Rob _ (TrA i Tv16) _)) (by exact (H.rob 10 rfl : Rob _ (TrA i Tv16) _)) hTv16 hTv16 hok.1 hok.1 hok.2.1 hok.2.1 hsv (by omega)) ?_
      rintro v48 w10 ⟨cs2, hO, hOwn, hV, hDcs2⟩
      have hR_ := (rob_own H.yylt hOwn).imp fun _ h => SlC.of_own h
      replace H := ((H.out hO).add hV).add (show Rob _ (SlX v48 cs2) _ from hR_)
      have hnil : cs2 = [] := hDcs2.nil hok.1 hok.2.1
      subst hnil
      refine WL.pv (PV.lenS (by exact (H.p 0 rfl : SlX v48 [] _)) TrydT.sl30 rfl) rfl ?_
      refine WL.pv (PV.eql rfl rfl rfl) rfl ?_
      refine WL.pv (PV.pick_t rfl rfl rfl) rfl ?_
      refine WL.as rfl rfl ?_
      refine WL.nil ?_
      refine WE.ret ?_
      refine ⟨[_], _, .nil _, ⟨rfl, trivial⟩, ?_⟩
      refine ⟨?_, H.toOut0⟩
      rfl

end Go.Sp.Tryd
