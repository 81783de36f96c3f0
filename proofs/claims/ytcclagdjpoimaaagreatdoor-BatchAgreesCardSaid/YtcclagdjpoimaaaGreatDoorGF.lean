/- Walks of functions, printed by a program of this session (gen.py) from notes on each function. -/
import Derived.Test.YtcclagdjpoimaaaGreatDoorG8
set_option maxRecDepth 100000
set_option maxHeartbeats 1000000
set_option linter.unusedVariables false
set_option linter.unusedSimpArgs false
namespace Go.Sp.Tryz
open Go.Proofs Go.RowKit Go.Sp
theorem Tree_c {X : Nat → Prop} {w : World} {i : Int} {s : Value} {l : List En} (hX : ∀ b, X b → b < w.heap.size) (hf0 : Rob X (SlE s l) w) (hf1 : Rob X (Vals l) w) (hf2 : Rob X (Rounds) w) (hkl : KL l) (hlen : l.length ≤ 9223372036854775807) (hvl : ∀ e ∈ l, e.v.length ≤ 9223372036854775807) :
    Ret Tryz.prog 8 [.int .i64 i, s].toArray w fun v w' => ∃ (b : Bool) (s' : Value) (T : Tr) (m' : List En), v = .tuple [s', T.ptr, .bool b].toArray ∧ T.er = grow 0 m' ∧ (b = true → m' = ofM l ∧ (0 ≤ i ∧ i ≤ 256) ∧ l.length ≤ 12 ∧ ∀ e ∈ l, e.v.length ≤ 200) ∧ Out Nil w w' ∧ Rob X (SlE s' m') w' ∧ Rob X (TrA i T) w' := by
  refine Ret.of_body (N := 27) Tryz.func8 rfl rfl (by simp) ?_
  have H := St.begin hX
  replace H := H.add (rob0 hf2)
  replace H := H.add (rob0 hf1)
  replace H := H.add (rob0 hf0)
  refine WE.seq_reg ?_
  refine WL.as rfl rfl ?_
  refine WL.as rfl rfl ?_
  refine WL.as rfl rfl ?_
  refine WL.nil ?_
  refine WE.seq ?_
  refine WE.seq_reg ?_
  refine WL.mv rfl rfl ?_
  refine WL.call TryzT.fb28 rfl (Right_c (i := i) H.yylt  ) ?_
  rintro _ w1 ⟨rfl, hO⟩
  replace H := H.out hO
  refine WL.pv (PV.not rfl rfl) rfl ?_
  refine WL.mv rfl rfl ?_
  refine WL.split (t := 12) rfl (fun hg12 => ?_) (fun hg12 => ?_)
  · skip
    refine WL.known (t := 11) (c := true) rfl hg12 ?_
    try simp only [decide_eq_true_eq, decide_eq_false_iff_not, ne_eq, Decidable.not_not, Bool.not_eq_true', Bool.not_eq_false', Bool.and_eq_true, Bool.or_eq_true, Bool.not_not, Bool.and_eq_false_iff, Bool.or_eq_false_iff, Int.not_lt, Int.not_le] at hg12
    refine WL.off rfl ?_
    refine WL.off rfl ?_
    refine WL.off rfl ?_
    refine WL.pv (PV.pick_t rfl rfl rfl) rfl ?_
    refine WL.nil ?_
    refine WE.cond_t rfl ?_
    refine WE.seq_reg ?_
    refine WL.as rfl rfl ?_
    refine WL.as rfl rfl ?_
    refine WL.as rfl rfl ?_
    refine WL.nil ?_
    refine WE.ret ?_
    refine ⟨[_, _, _], _, .nil _, ⟨rfl, rfl, rfl, trivial⟩, ?_⟩
    exact ⟨false, .slice none 0 0, .nil, [], rfl, (grow_nil 0).symm, (fun h => by cases h), H.toOut0, fun _ _ => SlC.nil _ 33, fun _ _ => trivial⟩
  · skip
    refine WL.known (t := 11) (c := false) rfl hg12 ?_
    try simp only [decide_eq_true_eq, decide_eq_false_iff_not, ne_eq, Decidable.not_not, Bool.not_eq_true', Bool.not_eq_false', Bool.and_eq_true, Bool.or_eq_true, Bool.not_not, Bool.and_eq_false_iff, Bool.or_eq_false_iff, Int.not_lt, Int.not_le] at hg12
    have hi : 0 ≤ i ∧ i ≤ 256 := by exact hg12
    refine WL.mv rfl rfl ?_
    refine WL.call TryzT.fb29 rfl (FewB_c (m := l) H.yylt (by exact H.rob 0 rfl) (by exact H.rob 1 rfl) (by assumption) (by assumption) (by assumption)) ?_
    rintro _ w2 ⟨bv14, rfl, hFv14, hO⟩
    replace H := H.out hO
    refine WL.pv (PV.not rfl rfl) rfl ?_
    refine WL.pv (PV.pick_f rfl rfl rfl) rfl ?_
    refine WL.nil ?_
    refine WE.cond rfl (fun hc16 => ?_) (fun hc16 => ?_)
    · skip
      try simp only [decide_eq_true_eq, decide_eq_false_iff_not, ne_eq, Decidable.not_not, Bool.not_eq_true', Bool.not_eq_false', Bool.and_eq_true, Bool.or_eq_true, Bool.not_not, Bool.and_eq_false_iff, Bool.or_eq_false_iff, Int.not_lt, Int.not_le] at hc16
      refine WE.seq_reg ?_
      refine WL.as rfl rfl ?_
      refine WL.as rfl rfl ?_
      refine WL.as rfl rfl ?_
      refine WL.nil ?_
      refine WE.ret ?_
      refine ⟨[_, _, _], _, .nil _, ⟨rfl, rfl, rfl, trivial⟩, ?_⟩
      exact ⟨false, .slice none 0 0, .nil, [], rfl, (grow_nil 0).symm, (fun h => by cases h), H.toOut0, fun _ _ => SlC.nil _ 33, fun _ _ => trivial⟩
    · skip
      try simp only [decide_eq_true_eq, decide_eq_false_iff_not, ne_eq, Decidable.not_not, Bool.not_eq_true', Bool.not_eq_false', Bool.and_eq_true, Bool.or_eq_true, Bool.not_not, Bool.and_eq_false_iff, Bool.or_eq_false_iff, Int.not_lt, Int.not_le] at hc16
      have hfew := hFv14 (by exact hc16)
      refine WE.skip ?_
      refine WE.seq_reg ?_
      refine WL.mv rfl rfl ?_
      refine WL.call TryzT.fb9 rfl (Hash_c (i := i) H.yylt  (by assumption)) ?_
      rintro _ w3 ⟨bhv18, bcv18, rfl, hO, hge, hB, hR⟩
      replace H := H.pushR hO (Ent.blk bcv18 108 [.int .i64 0]) hB (fun c hc => by cases hc; exact hge) hR
      refine WL.as rfl rfl ?_
      refine WL.nil ?_
      refine WE.seq ?_
      refine WE.seq_reg ?_
      refine WL.mv rfl rfl ?_
      refine WL.pv (PV.eqlPn rfl TryzT.pt26 rfl rfl) rfl ?_
      refine WL.nil ?_
      refine WE.cond_f' rfl rfl ?_
      refine WE.skip ?_
      refine WE.seq_reg ?_
      refine WL.mv rfl rfl ?_
      refine WL.call TryzT.fb30 rfl (Of_c (l := l) H.yylt (by exact H.rob 1 rfl) (by exact H.rob 2 rfl) hkl (by omega)) ?_
      rintro v22 w4 ⟨hO, hR⟩
      replace H := (H.out hO).add hR
      have hok := ofM_ok l hkl
      have hpm := ofM_pm l hkl
      have hml : (ofM l).length ≤ 12 := Nat.le_trans hok.2.2.1 hfew.1
      have hvs := ofM_short hkl hfew.2
      have hsv : ShortV (ofM l) := fun e he => Nat.le_trans (hvs e he) (by decide)
      replace H := H.add (by exact (H.rob 3 rfl : Rob _ (Vals l) _).imp fun _ h => h.sub hok.2.2.2)
      refine WL.as rfl rfl ?_
      refine WL.nil ?_
      refine WE.seq_reg ?_
      refine WL.mv rfl rfl ?_
      refine WL.mv rfl rfl ?_
      refine WL.mv rfl rfl ?_
      refine WL.call TryzT.fb31 rfl (GrowT_c (m := ofM l) (d := 0) (bits := i) H.yylt (H.l 0 rfl) (by exact H.robL 0 rfl 2 rfl) (by exact H.robL 0 rfl 1 rfl) (by exact H.robL 0 rfl 0 rfl) (by exact H.robL 0 rfl 5 rfl) hpm (by omega) hsv hi) ?_
      rintro _ w5 ⟨Tv26, mv26, rfl, hTv26, hO, hB, hR⟩
      replace H := H.calledR 0 rfl hO hB hR
      refine WL.as rfl rfl ?_
      refine WL.as rfl rfl ?_
      refine WL.as rfl rfl ?_
      refine WL.nil ?_
      refine WE.ret ?_
      refine ⟨[_, _, _], _, .nil _, ⟨rfl, rfl, rfl, trivial⟩, ?_⟩
      exact ⟨true, _, Tv26, _, rfl, hTv26, fun _ => ⟨rfl, hi, hfew⟩, H.toOut0, H.give (H.rob 2 rfl), H.give (H.rob 0 rfl)⟩

end Go.Sp.Tryz

set_option maxRecDepth 100000
set_option maxHeartbeats 1000000
set_option linter.unusedVariables false
set_option linter.unusedSimpArgs false
namespace Go.Sp.Tryz
open Go.Proofs Go.RowKit Go.Sp

def T08 (a a1 a2 : Nat) (s1 s2 : Value) : Tr := .inner a (.leaf a1 (List.replicate 32 0) [1] s1) (.leaf a2 ((List.replicate 32 0).set 0 128) [2] s2)
end Go.Sp.Tryz

set_option maxRecDepth 100000
set_option maxHeartbeats 1000000
set_option linter.unusedVariables false
set_option linter.unusedSimpArgs false
namespace Go.Sp.Tryz
open Go.Proofs Go.RowKit Go.Sp

end Go.Sp.Tryz

