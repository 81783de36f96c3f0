/- Walks of functions, printed by a program of this session (gen.py) from notes on each function. -/
import Derived.Test.YtcfkkhljekopgaaDoorSd
set_option maxRecDepth 100000
set_option maxHeartbeats 1000000
set_option linter.unusedVariables false
set_option linter.unusedSimpArgs false
namespace Go.Sp.Tryd
open Go.Proofs Go.RowKit Go.Sp

def h0L : List UInt32 := [1779033703, 3144134277, 1013904242, 2773480762, 1359893119, 2600822924, 528734635, 1541459225]
def t1f (s : List UInt32) (k w : UInt32) : UInt32 := (((s.getD 7 0 + ((rotr (s.getD 4 0) 6 ^^^ rotr (s.getD 4 0) 11) ^^^ rotr (s.getD 4 0) 25)) + ((s.getD 4 0 &&& s.getD 5 0) ^^^ (~~~(s.getD 4 0) &&& s.getD 6 0))) + k) + w
def t2f (s : List UInt32) : UInt32 := ((rotr (s.getD 0 0) 2 ^^^ rotr (s.getD 0 0) 13) ^^^ rotr (s.getD 0 0) 22) + (((s.getD 0 0 &&& s.getD 1 0) ^^^ (s.getD 0 0 &&& s.getD 2 0)) ^^^ (s.getD 1 0 &&& s.getD 2 0))
def stp (s : List UInt32) (k w : UInt32) : List UInt32 := [t1f s k w + t2f s, s.getD 0 0, s.getD 1 0, s.getD 2 0, s.getD 3 0 + t1f s k w, s.getD 4 0, s.getD 5 0, s.getD 6 0]
def rnds (W s : List UInt32) : Nat → List UInt32
  | 0 => s
  | i + 1 => stp (rnds W s i) (roundsL.getD i 0) (W.getD i 0)
/-- the words of s with those of t added, up to i -/
def addTo (s t : List UInt32) (i : Nat) : List UInt32 := (List.range 8).map fun j => if j < i then s.getD j 0 + t.getD j 0 else s.getD j 0
def comp (s : List UInt32) (b : List UInt8) : List UInt32 := addTo s (rnds (sched b 48) s 64) 8
def shaSt (p : List UInt8) : Nat → List UInt32
  | 0 => h0L
  | n + 1 => comp (shaSt p n) ((p.drop (64 * n)).take 64)
def outOf (s : List UInt32) : List UInt8 := (List.range 32).map fun i => (s.getD (i / 4) 0 >>> UInt32.ofNat (24 - 8 * (i % 4))).toUInt8
def shaOf (l : List UInt8) : List UInt8 := outOf (shaSt (padOf l) ((padOf l).length / 64))
theorem rnds_length (W s : List UInt32) (h : s.length = 8) (i : Nat) : (rnds W s i).length = 8 := by
  cases i with
  | zero => exact h
  | succ i => rfl
theorem addTo_length (s t : List UInt32) (i : Nat) : (addTo s t i).length = 8 := by simp [addTo]
theorem shaSt_length (p : List UInt8) (n : Nat) : (shaSt p n).length = 8 := by
  cases n with
  | zero => rfl
  | succ n => exact addTo_length _ _ _
theorem shaOf_length (l : List UInt8) : (shaOf l).length = 32 := by simp [shaOf, outOf]
theorem padOf_64 (l : List UInt8) : (padOf l).length % 64 = 0 := by rw [padOf_length]; unfold zc; omega
theorem addTo_zero (s t : List UInt32) (h : s.length = 8) : addTo s t 0 = s := by
  apply List.ext_getElem
  · rw [addTo_length, h]
  · intro i h1 h2
    simp [addTo, h2]
theorem addTo_get (s t : List UInt32) (i : Nat) (h : s.length = 8) (hi : i < (addTo s t i).length) (hs : i < s.length) : (addTo s t i)[i] = s[i] := by
  simp [addTo, hs]
theorem addTo_set (s t : List UInt32) (i : Nat) (h : s.length = 8) (ht : t.length = 8) (hi : i < 8) : (addTo s t i).set i ((addTo s t i)[i]'(by rw [addTo_length]; exact hi) + t[i]'(by omega)) = addTo s t (i + 1) := by
  rw [addTo_get s t i h (by rw [addTo_length]; exact hi) (by omega)]
  apply List.ext_getElem
  · simp [addTo]
  · intro j h1 h2
    rw [addTo_length] at h2
    rw [List.getElem_set]
    by_cases hij : i = j
    · subst hij
      simp [addTo, h, ht, hi]
    · simp only [hij, if_false]
      simp only [addTo, List.getElem_map, List.getElem_range]
      by_cases h3 : j < i
      · rw [if_pos h3, if_pos (by omega)]
      · rw [if_neg h3, if_neg (by omega)]
/-- the first k bytes of the digest, then zeros -/
theorem outOf_get (s : List UInt32) (i : Nat) (hi : i < (outOf s).length) (hs : i / 4 < s.length) : (outOf s)[i] = (s[i / 4] >>> UInt32.ofNat (24 - 8 * (i % 4))).toUInt8 := by
  simp [outOf, hs]
theorem outOf_length (s : List UInt32) : (outOf s).length = 32 := by simp [outOf]


theorem stp_eq (s : List UInt32) (h : s.length = 8) (k w : UInt32) : stp s k w = (
    let t1 := (((s[7] + ((rotr s[4] 6 ^^^ rotr s[4] 11) ^^^ rotr s[4] 25)) + ((s[4] &&& s[5]) ^^^ (~~~s[4] &&& s[6]))) + k) + w
    let t2 := ((rotr s[0] 2 ^^^ rotr s[0] 13) ^^^ rotr s[0] 22) + (((s[0] &&& s[1]) ^^^ (s[0] &&& s[2])) ^^^ (s[1] &&& s[2]))
    [t1 + t2, s[0], s[1], s[2], s[3] + t1, s[4], s[5], s[6]]) := by
  match s, h with
  | [a, b, c, d, e, f, g, i], _ => rfl
theorem rnds_succ (W s : List UInt32) (h : s.length = 8) (i : Nat) (hi : i < 64) (hW : i < W.length) : rnds W s (i + 1) = stp (rnds W s i) (roundsL[i]'hi) W[i] := by
  show stp _ _ _ = _
  rw [getD_at (show i < roundsL.length from hi), getD_at hW]
  rfl

theorem refSum_c {X : Nat → Prop} {w : World} {a : Value} {la : List UInt8} (hX : ∀ b, X b → b < w.heap.size) (hf0 : Rob X (SlB a la) w) (hla : la.length ≤ 1000000000) :
    Ret Tryd.prog 89 [a].toArray w fun v w' => v = .agg (kc (shaOf la)).toArray ∧ Out Nil w w' := by
  refine Ret.of_body (N := 152) Tryd.func89 rfl rfl (by simp) ?_
  have H := St.begin hX
  replace H := H.add (rob0 hf0)
  have hp64 := padOf_64 la
  have hpl := padOf_length la
  have hz64 : zc la.length < 64 := by unfold zc; omega
  have hK : roundsL.length = 64 := rfl
  refine WE.seq_reg ?_
  refine WL.alloc H rfl TrydT.ze29 rfl ?_
  intro b2 w1 H
  refine WL.nil ?_
  refine WE.seq_reg ?_
  refine WL.pv (PV.buildA rfl TrydT.ar119 TrydT.sz118 TrydT.ze119 (Fl.cons rfl rfl rfl (Laid.wordA (x := 1779033703) 0 (by simp)) (Fl.cons rfl rfl rfl (Laid.wordA (x := 3144134277) 1 (by simp)) (Fl.cons rfl rfl rfl (Laid.wordA (x := 1013904242) 2 (by simp)) (Fl.cons rfl rfl rfl (Laid.wordA (x := 2773480762) 3 (by simp)) (Fl.cons rfl rfl rfl (Laid.wordA (x := 1359893119) 4 (by simp)) (Fl.cons rfl rfl rfl (Laid.wordA (x := 2600822924) 5 (by simp)) (Fl.cons rfl rfl rfl (Laid.wordA (x := 528734635) 6 (by simp)) (Fl.cons rfl rfl rfl (Laid.wordA (x := 1541459225) 7 (by simp)) Fl.nil))))))))) rfl ?_
  refine WL.alloc H rfl TrydT.ze119 rfl ?_
  intro b3 w2 H
  refine WL.storeL H 0 rfl rfl rfl (new := _) rfl (by exact TrydT.sz119) (by exact kw_one _) (Laid.at (Laid.all (by (simp [kc_length, kw_length, *]; done))) (by rfl)) rfl ?_
  intro w3 H
  replace H := H.conv (L' := [Ent.blk b3 119 (kw (shaSt (padOf la) 0)), Ent.blk b2 29 (kc (List.replicate 32 0))]) rfl
  refine WL.nil ?_
  refine WE.seq_reg ?_
  refine WL.call TrydT.fb100 rfl (primes_c  H.yylt  ) ?_
  rintro v16 w4 ⟨hO, hR⟩
  replace H := (H.out hO).add hR
  refine WL.as rfl rfl ?_
  refine WL.nil ?_
  refine WE.seq_reg ?_
  refine WL.mv rfl rfl ?_
  refine WL.call TrydT.fb101 rfl (refPad_c (la := la) H.yylt (H.rob 1 rfl) hla) ?_
  rintro v18 w5 ⟨hO, hR⟩
  replace H := (H.out hO).add hR
  refine WL.as rfl rfl ?_
  refine WL.nil ?_
  refine WE.seq ?_
  refine WE.seq_reg ?_
  refine WL.as rfl rfl ?_
  refine WL.nil ?_
  refine WE.block ?_
  refine WE.loop (α := Nat) [6, 7, 8, 9, 10, 11, 12, 19, 20, 21, 22, 23, 24, 25, 26, 27, 28, 29, 30, 31, 32, 33, 34, 35, 36, 37, 38, 39, 40, 41, 42, 43, 44, 45, 46, 47, 48, 49, 50, 51, 52, 53, 54, 55, 56, 57, 58, 59, 60, 61, 62, 63, 64, 65, 66, 67, 68, 69, 70, 71, 72, 73, 74, 75, 76, 77, 78, 79, 80, 81, 82, 83, 84, 85, 86, 87, 88, 89, 90, 91, 92, 93, 94, 95, 96, 97, 98, 99, 100, 101, 102, 103, 104, 105, 106, 107, 108, 109, 110, 111, 112, 113, 114, 115, 116, 117, 118, 119, 120, 121, 122, 123, 124, 125, 126, 127, 128, 129, 130, 131, 132, 133] (fun n => [(6, .int .i64 ((64 * n : Nat) : Int))]) (fun n wl => 64 * n ≤ (padOf la).length ∧ St X w wl [] [Ent.blk b3 119 (kw (shaSt (padOf la) n)), Ent.blk b2 29 (kc (List.replicate 32 0))] [SlB v18 (padOf la), SlW v16 roundsL, SlB a la]) (fun n => (padOf la).length - 64 * n) 0 ⟨rfl, trivial⟩ ⟨Nat.zero_le _, H⟩ ?_
  intro n γ0 w6 hI
  try dsimp only at hI
  obtain ⟨hn, H⟩ := hI
  have hS := shaSt_length (padOf la) n
  refine WE.seq ?_
  refine WE.seq_reg ?_
  refine WL.mv rfl rfl ?_
  refine WL.mv rfl rfl ?_
  refine WL.pv (PV.lenS (H.p 0 rfl) TrydT.sl33 rfl) rfl ?_
  refine WL.pv (PV.lss rfl rfl rfl) rfl ?_
  refine WL.nil ?_
  refine WE.cond rfl (fun hc22 => ?_) (fun hc22 => ?_)
  · skip
    try simp only [decide_eq_true_eq, decide_eq_false_iff_not, ne_eq, Decidable.not_not, Bool.not_eq_true', Bool.not_eq_false', Bool.and_eq_true, Bool.or_eq_true, Bool.not_not, Bool.and_eq_false_iff, Bool.or_eq_false_iff, Int.not_lt, Int.not_le] at hc22
    have hlt : 64 * n + 64 ≤ (padOf la).length := by omega
    refine WE.skip ?_
    refine WE.seq ?_
    refine WE.block ?_
    refine WE.seq_reg ?_
    refine WL.mv rfl rfl ?_
    refine WL.mv rfl rfl ?_
    refine WL.mv rfl rfl ?_
    refine WL.pv (PV.eq (v' := .int .i64 ((64 * n + 64 : Nat) : Int)) (PV.add64 rfl rfl rfl (by omega) (by omega)) (by rfl)) rfl ?_
    refine WL.pv (PV.subLH rfl (H.p 0 rfl) TrydT.sl33 TrydT.sz5 rfl rfl rfl (by omega) (by omega)) rfl ?_
    refine WL.call TrydT.fb102 rfl (schedule_c (la := (((padOf la).drop (64 * n)).take 64)) H.yylt ((H.rob 0 rfl).imp fun _ h => by have := SlB.sub (lo := 64 * n) (hi := 64 * n + 64) h (by omega) (by omega); rw [show 64 * n + 64 - 64 * n = 64 by omega] at this; exact this) (by simp; omega)) ?_
    rintro v30 w7 ⟨hO, hR⟩
    replace H := (H.out hO).add hR
    refine WL.as rfl rfl ?_
    refine WL.nil ?_
    refine WE.seq_reg ?_
    refine WL.loadR rfl TrydT.ag119 rfl rfl (by exact Blk.segAt (H.l 0 rfl) (Seg.all _) (by rfl)) (by (rw [TrydT.sz119]; refine congrArg some ?_; (simp only [kc_length, kw_length, List.length_replicate, List.length_append, List.length_cons, List.length_nil]; omega))) ?_
    refine WL.alloc H rfl TrydT.ze119 rfl ?_
    intro b8 w8 H
    refine WL.storeL H 0 rfl rfl rfl (new := _) rfl (by (rw [TrydT.sz119]; refine congrArg some ?_; (simp only [kc_length, kw_length, List.length_replicate, List.length_append, List.length_cons, List.length_nil]; omega))) (by exact kw_one _) (Laid.at (Laid.all (by (simp only [kc_length, kw_length, List.length_replicate, List.length_append, List.length_cons, List.length_nil]; omega))) (by rfl)) rfl ?_
    intro w9 H
    refine WL.nil ?_
    refine WE.seq ?_
    refine WE.seq_reg ?_
    refine WL.as rfl rfl ?_
    refine WL.nil ?_
    refine WE.block ?_
    have hW : (sched (((padOf la).drop (64 * n)).take 64) 48).length = 64 := sched_length _ _
    refine WE.loop (α := Nat) [9, 10, 11, 32, 33, 34, 35, 36, 37, 38, 39, 40, 41, 42, 43, 44, 45, 46, 47, 48, 49, 50, 51, 52, 53, 54, 55, 56, 57, 58, 59, 60, 61, 62, 63, 64, 65, 66, 67, 68, 69, 70, 71, 72, 73, 74, 75, 76, 77, 78, 79, 80, 81, 82, 83, 84, 85, 86, 87, 88, 89, 90, 91, 92, 93, 94, 95, 96, 97, 98, 99, 100, 101, 102, 103, 104, 105, 106, 107, 108, 109, 110, 111, 112, 113, 114, 115, 116, 117, 118, 119, 120, 121] (fun i => [(9, .int .i64 i)]) (fun i wl => i ≤ 64 ∧ St X w wl [] [Ent.blk b8 119 (kw (rnds (sched (((padOf la).drop (64 * n)).take 64) 48) (shaSt (padOf la) n) i)), Ent.blk b3 119 (kw (shaSt (padOf la) n)), Ent.blk b2 29 (kc (List.replicate 32 0))] (SlW v30 (sched (((padOf la).drop (64 * n)).take 64) 48) :: [SlB v18 (padOf la), SlW v16 roundsL, SlB a la])) (fun i => 64 - i) 0 ⟨rfl, trivial⟩ ⟨Nat.zero_le _, H⟩ ?_
    intro i γ1 w10 hI
    try dsimp only at hI
    obtain ⟨hi, H⟩ := hI
    have hR := rnds_length (sched (((padOf la).drop (64 * n)).take 64) 48) (shaSt (padOf la) n) hS i
    refine WE.seq ?_
    refine WE.seq_reg ?_
    refine WL.mv rfl rfl ?_
    refine WL.pv (PV.lss rfl rfl rfl) rfl ?_
    refine WL.nil ?_
    refine WE.cond rfl (fun hc33 => ?_) (fun hc33 => ?_)
    · skip
      try simp only [decide_eq_true_eq, decide_eq_false_iff_not, ne_eq, Decidable.not_not, Bool.not_eq_true', Bool.not_eq_false', Bool.and_eq_true, Bool.or_eq_true, Bool.not_not, Bool.and_eq_false_iff, Bool.or_eq_false_iff, Int.not_lt, Int.not_le] at hc33
      have hlt2 : i < 64 := by omega
      refine WE.skip ?_
      refine WE.seq ?_
      refine WE.block ?_
      refine WE.seq_draw (.take 0 (.take 1 (.take 2 (.take 3 (.take 5 (.take 6 (.take 9 (.take 10 (.take 14 (.take 15 (.take 16 (.take 17 (.take 18 (.take 19 (.take 20 (.take 21 (.take 22 (.take 23 (.take 24 (.take 25 (.take 27 (.take 28 (.take 29 (.take 30 (.take 32 (.take 33 (.take 34 (.take 35 (.pick1 4 (.pick1 7 (.take 8 (.pick1 11 (.take 12 (.take 13 (.take 26 (.take 31 (.take 36 (.take 37 .done)))))))))))))))))))))))))))))))))))))) TrydT.mixed (by kernel_rfl) ?_
      replace H := H.out (Out.drew _)
      refine WP.take_pure rfl rfl (PV.indexArr rfl TrydT.ar119 TrydT.sz118 rfl rfl (by omega) (by omega)) ?_
      refine WP.take_read rfl rfl (RV.loadOne rfl TrydT.ag118 rfl) (by exact Blk.segAt (H.l 0 rfl) (Seg.word 7 (by (simp [kc_length, kw_length, *]; done))) (by rfl)) ?_
      refine WP.take_pure rfl rfl (PV.indexArr rfl TrydT.ar119 TrydT.sz118 rfl rfl (by omega) (by omega)) ?_
      refine WP.take_read rfl rfl (RV.loadOne rfl TrydT.ag118 rfl) (by exact Blk.segAt (H.l 0 rfl) (Seg.word 4 (by (simp [kc_length, kw_length, *]; done))) (by rfl)) ?_
      refine WP.take_pure rfl rfl (PV.indexArr rfl TrydT.ar119 TrydT.sz118 rfl rfl (by omega) (by omega)) ?_
      refine WP.take_read rfl rfl (RV.loadOne rfl TrydT.ag118 rfl) (by exact Blk.segAt (H.l 0 rfl) (Seg.word 4 (by (simp [kc_length, kw_length, *]; done))) (by rfl)) ?_
      refine WP.take_pure rfl rfl (PV.indexArr rfl TrydT.ar119 TrydT.sz118 rfl rfl (by omega) (by omega)) ?_
      refine WP.take_read rfl rfl (RV.loadOne rfl TrydT.ag118 rfl) (by exact Blk.segAt (H.l 0 rfl) (Seg.word 4 (by (simp [kc_length, kw_length, *]; done))) (by rfl)) ?_
      refine WP.take_pure rfl rfl (PV.indexArr rfl TrydT.ar119 TrydT.sz118 rfl rfl (by omega) (by omega)) ?_
      refine WP.take_read rfl rfl (RV.loadOne rfl TrydT.ag118 rfl) (by exact Blk.segAt (H.l 0 rfl) (Seg.word 4 (by (simp [kc_length, kw_length, *]; done))) (by rfl)) ?_
      refine WP.take_pure rfl rfl (PV.indexArr rfl TrydT.ar119 TrydT.sz118 rfl rfl (by omega) (by omega)) ?_
      refine WP.take_read rfl rfl (RV.loadOne rfl TrydT.ag118 rfl) (by exact Blk.segAt (H.l 0 rfl) (Seg.word 5 (by (simp [kc_length, kw_length, *]; done))) (by rfl)) ?_
      refine WP.take_pure rfl rfl (PV.and32 rfl rfl rfl) ?_
      refine WP.take_pure rfl rfl (PV.indexArr rfl TrydT.ar119 TrydT.sz118 rfl rfl (by omega) (by omega)) ?_
      refine WP.take_read rfl rfl (RV.loadOne rfl TrydT.ag118 rfl) (by exact Blk.segAt (H.l 0 rfl) (Seg.word 4 (by (simp [kc_length, kw_length, *]; done))) (by rfl)) ?_
      refine WP.take_pure rfl rfl (PV.not32 rfl rfl) ?_
      refine WP.take_pure rfl rfl (PV.indexArr rfl TrydT.ar119 TrydT.sz118 rfl rfl (by omega) (by omega)) ?_
      refine WP.take_read rfl rfl (RV.loadOne rfl TrydT.ag118 rfl) (by exact Blk.segAt (H.l 0 rfl) (Seg.word 6 (by (simp [kc_length, kw_length, *]; done))) (by rfl)) ?_
      refine WP.take_pure rfl rfl (PV.and32 rfl rfl rfl) ?_
      refine WP.take_pure rfl rfl (PV.xor32 rfl rfl rfl) ?_
      refine WP.mv rfl rfl rfl ?_
      refine WP.mv rfl rfl rfl ?_
      refine WP.take_pure rfl rfl (PV.idxS rfl (H.p 2 rfl) TrydT.sl143 TrydT.sz118 rfl rfl (by omega) (by omega)) ?_
      refine WP.take_read rfl rfl (RV.loadOne rfl TrydT.ag118 rfl) (SlC.rdw (H.p 2 rfl : SlW v16 roundsL _) i (by omega)) ?_
      refine WP.mv rfl rfl rfl ?_
      refine WP.mv rfl rfl rfl ?_
      refine WP.take_pure rfl rfl (PV.idxS rfl (H.p 0 rfl) TrydT.sl143 TrydT.sz118 rfl rfl (by omega) (by omega)) ?_
      refine WP.take_read rfl rfl (RV.loadOne rfl TrydT.ag118 rfl) (SlC.rdw (H.p 0 rfl : SlW v30 (sched (((padOf la).drop (64 * n)).take 64) 48) _) i (by omega)) ?_
      refine WP.pick1 rfl ?_
      refine WL.call TrydT.fb103 rfl (turn_c (x := (rnds (sched (((padOf la).drop (64 * n)).take 64) 48) (shaSt (padOf la) n) i)[4]'(by rw [hR]; omega)) (n := 6) H.yylt (by decide) (by decide)) ?_
      rintro _ w11 ⟨rfl, hO⟩
      replace H := H.out hO
      refine WL.nil ⟨(List.forall_mem_cons.2 ⟨(fun _ _ => (SlC.rdw (H.p 0 rfl : SlW v30 (sched (((padOf la).drop (64 * n)).take 64) 48) _) i (by omega))), (List.forall_mem_cons.2 ⟨(fun _ _ => (SlC.rdw (H.p 2 rfl : SlW v16 roundsL _) i (by omega))), (List.forall_mem_cons.2 ⟨(fun _ _ => (by exact Blk.segAt (H.l 0 rfl) (Seg.word 6 (by (simp [kc_length, kw_length, *]; done))) (by rfl))), (List.forall_mem_cons.2 ⟨(fun _ _ => (by exact Blk.segAt (H.l 0 rfl) (Seg.word 4 (by (simp [kc_length, kw_length, *]; done))) (by rfl))), (List.forall_mem_cons.2 ⟨(fun _ _ => (by exact Blk.segAt (H.l 0 rfl) (Seg.word 5 (by (simp [kc_length, kw_length, *]; done))) (by rfl))), (List.forall_mem_cons.2 ⟨(fun _ _ => (by exact Blk.segAt (H.l 0 rfl) (Seg.word 4 (by (simp [kc_length, kw_length, *]; done))) (by rfl))), (List.forall_mem_cons.2 ⟨(fun _ _ => (by exact Blk.segAt (H.l 0 rfl) (Seg.word 4 (by (simp [kc_length, kw_length, *]; done))) (by rfl))), (List.forall_mem_cons.2 ⟨(fun _ _ => (by exact Blk.segAt (H.l 0 rfl) (Seg.word 4 (by (simp [kc_length, kw_length, *]; done))) (by rfl))), (List.forall_mem_cons.2 ⟨(by exact (fun h => absurd (show waits _ 4 3 = false from h) (by decide +kernel))), (List.forall_mem_cons.2 ⟨(fun _ _ => (by exact Blk.segAt (H.l 0 rfl) (Seg.word 7 (by (simp [kc_length, kw_length, *]; done))) (by rfl))), (fun _ h => by cases h)⟩)⟩)⟩)⟩)⟩)⟩)⟩)⟩)⟩)⟩), ?_⟩
      refine WP.pick1 rfl ?_
      refine WL.call TrydT.fb103 rfl (turn_c (x := (rnds (sched (((padOf la).drop (64 * n)).take 64) 48) (shaSt (padOf la) n) i)[4]'(by rw [hR]; omega)) (n := 11) H.yylt (by decide) (by decide)) ?_
      rintro _ w12 ⟨rfl, hO⟩
      replace H := H.out hO
      refine WL.nil ⟨(List.forall_mem_cons.2 ⟨(fun _ _ => (SlC.rdw (H.p 0 rfl : SlW v30 (sched (((padOf la).drop (64 * n)).take 64) 48) _) i (by omega))), (List.forall_mem_cons.2 ⟨(fun _ _ => (SlC.rdw (H.p 2 rfl : SlW v16 roundsL _) i (by omega))), (List.forall_mem_cons.2 ⟨(fun _ _ => (by exact Blk.segAt (H.l 0 rfl) (Seg.word 6 (by (simp [kc_length, kw_length, *]; done))) (by rfl))), (List.forall_mem_cons.2 ⟨(fun _ _ => (by exact Blk.segAt (H.l 0 rfl) (Seg.word 4 (by (simp [kc_length, kw_length, *]; done))) (by rfl))), (List.forall_mem_cons.2 ⟨(fun _ _ => (by exact Blk.segAt (H.l 0 rfl) (Seg.word 5 (by (simp [kc_length, kw_length, *]; done))) (by rfl))), (List.forall_mem_cons.2 ⟨(fun _ _ => (by exact Blk.segAt (H.l 0 rfl) (Seg.word 4 (by (simp [kc_length, kw_length, *]; done))) (by rfl))), (List.forall_mem_cons.2 ⟨(fun _ _ => (by exact Blk.segAt (H.l 0 rfl) (Seg.word 4 (by (simp [kc_length, kw_length, *]; done))) (by rfl))), (List.forall_mem_cons.2 ⟨(by exact (fun h => absurd (show waits _ 7 6 = false from h) (by decide +kernel))), (List.forall_mem_cons.2 ⟨(by exact (fun h => absurd (show waits _ 7 3 = false from h) (by decide +kernel))), (List.forall_mem_cons.2 ⟨(fun _ _ => (by exact Blk.segAt (H.l 0 rfl) (Seg.word 7 (by (simp [kc_length, kw_length, *]; done))) (by rfl))), (fun _ h => by cases h)⟩)⟩)⟩)⟩)⟩)⟩)⟩)⟩)⟩)⟩), ?_⟩
      refine WP.take_pure rfl rfl (PV.xor32 rfl rfl rfl) ?_
      refine WP.pick1 rfl ?_
      refine WL.call TrydT.fb103 rfl (turn_c (x := (rnds (sched (((padOf la).drop (64 * n)).take 64) 48) (shaSt (padOf la) n) i)[4]'(by rw [hR]; omega)) (n := 25) H.yylt (by decide) (by decide)) ?_
      rintro _ w13 ⟨rfl, hO⟩
      replace H := H.out hO
      refine WL.nil ⟨(List.forall_mem_cons.2 ⟨(fun _ _ => (SlC.rdw (H.p 0 rfl : SlW v30 (sched (((padOf la).drop (64 * n)).take 64) 48) _) i (by omega))), (List.forall_mem_cons.2 ⟨(fun _ _ => (SlC.rdw (H.p 2 rfl : SlW v16 roundsL _) i (by omega))), (List.forall_mem_cons.2 ⟨(fun _ _ => (by exact Blk.segAt (H.l 0 rfl) (Seg.word 6 (by (simp [kc_length, kw_length, *]; done))) (by rfl))), (List.forall_mem_cons.2 ⟨(fun _ _ => (by exact Blk.segAt (H.l 0 rfl) (Seg.word 4 (by (simp [kc_length, kw_length, *]; done))) (by rfl))), (List.forall_mem_cons.2 ⟨(fun _ _ => (by exact Blk.segAt (H.l 0 rfl) (Seg.word 5 (by (simp [kc_length, kw_length, *]; done))) (by rfl))), (List.forall_mem_cons.2 ⟨(fun _ _ => (by exact Blk.segAt (H.l 0 rfl) (Seg.word 4 (by (simp [kc_length, kw_length, *]; done))) (by rfl))), (List.forall_mem_cons.2 ⟨(by exact (fun h => absurd (show waits _ 11 10 = false from h) (by decide +kernel))), (List.forall_mem_cons.2 ⟨(by exact (fun h => absurd (show waits _ 11 6 = false from h) (by decide +kernel))), (List.forall_mem_cons.2 ⟨(by exact (fun h => absurd (show waits _ 11 3 = false from h) (by decide +kernel))), (List.forall_mem_cons.2 ⟨(fun _ _ => (by exact Blk.segAt (H.l 0 rfl) (Seg.word 7 (by (simp [kc_length, kw_length, *]; done))) (by rfl))), (fun _ h => by cases h)⟩)⟩)⟩)⟩)⟩)⟩)⟩)⟩)⟩)⟩), ?_⟩
      refine WP.take_pure rfl rfl (PV.xor32 rfl rfl rfl) ?_
      refine WP.take_pure rfl rfl (PV.add32 rfl rfl rfl) ?_
      refine WP.take_pure rfl rfl (PV.add32 rfl rfl rfl) ?_
      refine WP.take_pure rfl rfl (PV.add32 rfl rfl rfl) ?_
      refine WP.take_pure rfl rfl (PV.add32 rfl rfl rfl) ?_
      refine WP.as rfl rfl rfl ?_
      refine WP.done ?_
      refine WE.seq_draw (.take 0 (.take 1 (.take 3 (.take 4 (.take 7 (.take 8 (.take 11 (.take 12 (.take 13 (.take 14 (.take 15 (.take 16 (.take 17 (.take 18 (.take 19 (.take 20 (.take 21 (.take 22 (.take 23 (.take 24 (.take 25 (.take 26 (.take 27 (.pick1 2 (.pick1 5 (.take 6 (.pick1 9 (.take 10 (.take 28 (.take 29 .done)))))))))))))))))))))))))))))) TrydT.mixed (by kernel_rfl) ?_
      replace H := H.out (Out.drew _)
      refine WP.take_pure rfl rfl (PV.indexArr rfl TrydT.ar119 TrydT.sz118 rfl rfl (by omega) (by omega)) ?_
      refine WP.take_read rfl rfl (RV.loadOne rfl TrydT.ag118 rfl) (by exact Blk.segAt (H.l 0 rfl) (Seg.word 0 (by (simp [kc_length, kw_length, *]; done))) (by rfl)) ?_
      refine WP.take_pure rfl rfl (PV.indexArr rfl TrydT.ar119 TrydT.sz118 rfl rfl (by omega) (by omega)) ?_
      refine WP.take_read rfl rfl (RV.loadOne rfl TrydT.ag118 rfl) (by exact Blk.segAt (H.l 0 rfl) (Seg.word 0 (by (simp [kc_length, kw_length, *]; done))) (by rfl)) ?_
      refine WP.take_pure rfl rfl (PV.indexArr rfl TrydT.ar119 TrydT.sz118 rfl rfl (by omega) (by omega)) ?_
      refine WP.take_read rfl rfl (RV.loadOne rfl TrydT.ag118 rfl) (by exact Blk.segAt (H.l 0 rfl) (Seg.word 0 (by (simp [kc_length, kw_length, *]; done))) (by rfl)) ?_
      refine WP.take_pure rfl rfl (PV.indexArr rfl TrydT.ar119 TrydT.sz118 rfl rfl (by omega) (by omega)) ?_
      refine WP.take_read rfl rfl (RV.loadOne rfl TrydT.ag118 rfl) (by exact Blk.segAt (H.l 0 rfl) (Seg.word 0 (by (simp [kc_length, kw_length, *]; done))) (by rfl)) ?_
      refine WP.take_pure rfl rfl (PV.indexArr rfl TrydT.ar119 TrydT.sz118 rfl rfl (by omega) (by omega)) ?_
      refine WP.take_read rfl rfl (RV.loadOne rfl TrydT.ag118 rfl) (by exact Blk.segAt (H.l 0 rfl) (Seg.word 1 (by (simp [kc_length, kw_length, *]; done))) (by rfl)) ?_
      refine WP.take_pure rfl rfl (PV.and32 rfl rfl rfl) ?_
      refine WP.take_pure rfl rfl (PV.indexArr rfl TrydT.ar119 TrydT.sz118 rfl rfl (by omega) (by omega)) ?_
      refine WP.take_read rfl rfl (RV.loadOne rfl TrydT.ag118 rfl) (by exact Blk.segAt (H.l 0 rfl) (Seg.word 0 (by (simp [kc_length, kw_length, *]; done))) (by rfl)) ?_
      refine WP.take_pure rfl rfl (PV.indexArr rfl TrydT.ar119 TrydT.sz118 rfl rfl (by omega) (by omega)) ?_
      refine WP.take_read rfl rfl (RV.loadOne rfl TrydT.ag118 rfl) (by exact Blk.segAt (H.l 0 rfl) (Seg.word 2 (by (simp [kc_length, kw_length, *]; done))) (by rfl)) ?_
      refine WP.take_pure rfl rfl (PV.and32 rfl rfl rfl) ?_
      refine WP.take_pure rfl rfl (PV.xor32 rfl rfl rfl) ?_
      refine WP.take_pure rfl rfl (PV.indexArr rfl TrydT.ar119 TrydT.sz118 rfl rfl (by omega) (by omega)) ?_
      refine WP.take_read rfl rfl (RV.loadOne rfl TrydT.ag118 rfl) (by exact Blk.segAt (H.l 0 rfl) (Seg.word 1 (by (simp [kc_length, kw_length, *]; done))) (by rfl)) ?_
      refine WP.take_pure rfl rfl (PV.indexArr rfl TrydT.ar119 TrydT.sz118 rfl rfl (by omega) (by omega)) ?_
      refine WP.take_read rfl rfl (RV.loadOne rfl TrydT.ag118 rfl) (by exact Blk.segAt (H.l 0 rfl) (Seg.word 2 (by (simp [kc_length, kw_length, *]; done))) (by rfl)) ?_
      refine WP.take_pure rfl rfl (PV.and32 rfl rfl rfl) ?_
      refine WP.take_pure rfl rfl (PV.xor32 rfl rfl rfl) ?_
      refine WP.pick1 rfl ?_
      refine WL.call TrydT.fb103 rfl (turn_c (x := (rnds (sched (((padOf la).drop (64 * n)).take 64) 48) (shaSt (padOf la) n) i)[0]'(by rw [hR]; omega)) (n := 2) H.yylt (by decide) (by decide)) ?_
      rintro _ w14 ⟨rfl, hO⟩
      replace H := H.out hO
      refine WL.nil ⟨(List.forall_mem_cons.2 ⟨(fun _ _ => (by exact Blk.segAt (H.l 0 rfl) (Seg.word 2 (by (simp [kc_length, kw_length, *]; done))) (by rfl))), (List.forall_mem_cons.2 ⟨(fun _ _ => (by exact Blk.segAt (H.l 0 rfl) (Seg.word 1 (by (simp [kc_length, kw_length, *]; done))) (by rfl))), (List.forall_mem_cons.2 ⟨(fun _ _ => (by exact Blk.segAt (H.l 0 rfl) (Seg.word 2 (by (simp [kc_length, kw_length, *]; done))) (by rfl))), (List.forall_mem_cons.2 ⟨(fun _ _ => (by exact Blk.segAt (H.l 0 rfl) (Seg.word 0 (by (simp [kc_length, kw_length, *]; done))) (by rfl))), (List.forall_mem_cons.2 ⟨(fun _ _ => (by exact Blk.segAt (H.l 0 rfl) (Seg.word 1 (by (simp [kc_length, kw_length, *]; done))) (by rfl))), (List.forall_mem_cons.2 ⟨(fun _ _ => (by exact Blk.segAt (H.l 0 rfl) (Seg.word 0 (by (simp [kc_length, kw_length, *]; done))) (by rfl))), (List.forall_mem_cons.2 ⟨(fun _ _ => (by exact Blk.segAt (H.l 0 rfl) (Seg.word 0 (by (simp [kc_length, kw_length, *]; done))) (by rfl))), (List.forall_mem_cons.2 ⟨(fun _ _ => (by exact Blk.segAt (H.l 0 rfl) (Seg.word 0 (by (simp [kc_length, kw_length, *]; done))) (by rfl))), (List.forall_mem_cons.2 ⟨(by exact (fun h => absurd (show waits _ 2 1 = false from h) (by decide +kernel))), (fun _ h => by cases h)⟩)⟩)⟩)⟩)⟩)⟩)⟩)⟩)⟩), ?_⟩
      refine WP.pick1 rfl ?_
      refine WL.call TrydT.fb103 rfl (turn_c (x := (rnds (sched (((padOf la).drop (64 * n)).take 64) 48) (shaSt (padOf la) n) i)[0]'(by rw [hR]; omega)) (n := 13) H.yylt (by decide) (by decide)) ?_
      rintro _ w15 ⟨rfl, hO⟩
      replace H := H.out hO
      refine WL.nil ⟨(List.forall_mem_cons.2 ⟨(fun _ _ => (by exact Blk.segAt (H.l 0 rfl) (Seg.word 2 (by (simp [kc_length, kw_length, *]; done))) (by rfl))), (List.forall_mem_cons.2 ⟨(fun _ _ => (by exact Blk.segAt (H.l 0 rfl) (Seg.word 1 (by (simp [kc_length, kw_length, *]; done))) (by rfl))), (List.forall_mem_cons.2 ⟨(fun _ _ => (by exact Blk.segAt (H.l 0 rfl) (Seg.word 2 (by (simp [kc_length, kw_length, *]; done))) (by rfl))), (List.forall_mem_cons.2 ⟨(fun _ _ => (by exact Blk.segAt (H.l 0 rfl) (Seg.word 0 (by (simp [kc_length, kw_length, *]; done))) (by rfl))), (List.forall_mem_cons.2 ⟨(fun _ _ => (by exact Blk.segAt (H.l 0 rfl) (Seg.word 1 (by (simp [kc_length, kw_length, *]; done))) (by rfl))), (List.forall_mem_cons.2 ⟨(fun _ _ => (by exact Blk.segAt (H.l 0 rfl) (Seg.word 0 (by (simp [kc_length, kw_length, *]; done))) (by rfl))), (List.forall_mem_cons.2 ⟨(fun _ _ => (by exact Blk.segAt (H.l 0 rfl) (Seg.word 0 (by (simp [kc_length, kw_length, *]; done))) (by rfl))), (List.forall_mem_cons.2 ⟨(by exact (fun h => absurd (show waits _ 5 4 = false from h) (by decide +kernel))), (List.forall_mem_cons.2 ⟨(by exact (fun h => absurd (show waits _ 5 1 = false from h) (by decide +kernel))), (fun _ h => by cases h)⟩)⟩)⟩)⟩)⟩)⟩)⟩)⟩)⟩), ?_⟩
      refine WP.take_pure rfl rfl (PV.xor32 rfl rfl rfl) ?_
      refine WP.pick1 rfl ?_
      refine WL.call TrydT.fb103 rfl (turn_c (x := (rnds (sched (((padOf la).drop (64 * n)).take 64) 48) (shaSt (padOf la) n) i)[0]'(by rw [hR]; omega)) (n := 22) H.yylt (by decide) (by decide)) ?_
      rintro _ w16 ⟨rfl, hO⟩
      replace H := H.out hO
      refine WL.nil ⟨(List.forall_mem_cons.2 ⟨(fun _ _ => (by exact Blk.segAt (H.l 0 rfl) (Seg.word 2 (by (simp [kc_length, kw_length, *]; done))) (by rfl))), (List.forall_mem_cons.2 ⟨(fun _ _ => (by exact Blk.segAt (H.l 0 rfl) (Seg.word 1 (by (simp [kc_length, kw_length, *]; done))) (by rfl))), (List.forall_mem_cons.2 ⟨(fun _ _ => (by exact Blk.segAt (H.l 0 rfl) (Seg.word 2 (by (simp [kc_length, kw_length, *]; done))) (by rfl))), (List.forall_mem_cons.2 ⟨(fun _ _ => (by exact Blk.segAt (H.l 0 rfl) (Seg.word 0 (by (simp [kc_length, kw_length, *]; done))) (by rfl))), (List.forall_mem_cons.2 ⟨(fun _ _ => (by exact Blk.segAt (H.l 0 rfl) (Seg.word 1 (by (simp [kc_length, kw_length, *]; done))) (by rfl))), (List.forall_mem_cons.2 ⟨(fun _ _ => (by exact Blk.segAt (H.l 0 rfl) (Seg.word 0 (by (simp [kc_length, kw_length, *]; done))) (by rfl))), (List.forall_mem_cons.2 ⟨(by exact (fun h => absurd (show waits _ 9 8 = false from h) (by decide +kernel))), (List.forall_mem_cons.2 ⟨(by exact (fun h => absurd (show waits _ 9 4 = false from h) (by decide +kernel))), (List.forall_mem_cons.2 ⟨(by exact (fun h => absurd (show waits _ 9 1 = false from h) (by decide +kernel))), (fun _ h => by cases h)⟩)⟩)⟩)⟩)⟩)⟩)⟩)⟩)⟩), ?_⟩
      refine WP.take_pure rfl rfl (PV.xor32 rfl rfl rfl) ?_
      refine WP.take_pure rfl rfl (PV.add32 rfl rfl rfl) ?_
      refine WP.as rfl rfl rfl ?_
      refine WP.done ?_
      refine WE.reg ?_
      refine WL.mv rfl rfl ?_
      refine WL.mv rfl rfl ?_
      refine WL.pv (PV.add32 rfl rfl rfl) rfl ?_
      refine WL.pv (PV.indexArr rfl TrydT.ar119 TrydT.sz118 rfl rfl (by omega) (by omega)) rfl ?_
      refine WL.load1 rfl TrydT.ag118 rfl rfl (by exact Blk.segAt (H.l 0 rfl) (Seg.word 0 (by (simp [kc_length, kw_length, *]; done))) (by rfl)) ?_
      refine WL.pv (PV.indexArr rfl TrydT.ar119 TrydT.sz118 rfl rfl (by omega) (by omega)) rfl ?_
      refine WL.load1 rfl TrydT.ag118 rfl rfl (by exact Blk.segAt (H.l 0 rfl) (Seg.word 1 (by (simp [kc_length, kw_length, *]; done))) (by rfl)) ?_
      refine WL.pv (PV.indexArr rfl TrydT.ar119 TrydT.sz118 rfl rfl (by omega) (by omega)) rfl ?_
      refine WL.load1 rfl TrydT.ag118 rfl rfl (by exact Blk.segAt (H.l 0 rfl) (Seg.word 2 (by (simp [kc_length, kw_length, *]; done))) (by rfl)) ?_
      refine WL.pv (PV.indexArr rfl TrydT.ar119 TrydT.sz118 rfl rfl (by omega) (by omega)) rfl ?_
      refine WL.load1 rfl TrydT.ag118 rfl rfl (by exact Blk.segAt (H.l 0 rfl) (Seg.word 3 (by (simp [kc_length, kw_length, *]; done))) (by rfl)) ?_
      refine WL.mv rfl rfl ?_
      refine WL.pv (PV.add32 rfl rfl rfl) rfl ?_
      refine WL.pv (PV.indexArr rfl TrydT.ar119 TrydT.sz118 rfl rfl (by omega) (by omega)) rfl ?_
      refine WL.load1 rfl TrydT.ag118 rfl rfl (by exact Blk.segAt (H.l 0 rfl) (Seg.word 4 (by (simp [kc_length, kw_length, *]; done))) (by rfl)) ?_
      refine WL.pv (PV.indexArr rfl TrydT.ar119 TrydT.sz118 rfl rfl (by omega) (by omega)) rfl ?_
      refine WL.load1 rfl TrydT.ag118 rfl rfl (by exact Blk.segAt (H.l 0 rfl) (Seg.word 5 (by (simp [kc_length, kw_length, *]; done))) (by rfl)) ?_
      refine WL.pv (PV.indexArr rfl TrydT.ar119 TrydT.sz118 rfl rfl (by omega) (by omega)) rfl ?_
      refine WL.load1 rfl TrydT.ag118 rfl rfl (by exact Blk.segAt (H.l 0 rfl) (Seg.word 6 (by (simp [kc_length, kw_length, *]; done))) (by rfl)) ?_
      refine WL.pv (PV.buildA rfl TrydT.ar119 TrydT.sz118 TrydT.ze119 (Fl.cons rfl (by rfl) (by (simp only [kc_length, kw_length, List.length_replicate, List.length_append, List.length_cons, List.length_nil]; done)) (Laid.wordA 0 (by (simp only [kc_length, kw_length, List.length_replicate, List.length_append, List.length_cons, List.length_nil]; omega))) (Fl.cons rfl (by rfl) (by (simp only [kc_length, kw_length, List.length_replicate, List.length_append, List.length_cons, List.length_nil]; done)) (Laid.wordA 1 (by (simp [kc_length, kw_length, *]; done))) (Fl.cons rfl (by rfl) (by (simp only [kc_length, kw_length, List.length_replicate, List.length_append, List.length_cons, List.length_nil]; done)) (Laid.wordA 2 (by (simp [kc_length, kw_length, *]; done))) (Fl.cons rfl (by rfl) (by (simp only [kc_length, kw_length, List.length_replicate, List.length_append, List.length_cons, List.length_nil]; done)) (Laid.wordA 3 (by (simp [kc_length, kw_length, *]; done))) (Fl.cons rfl (by rfl) (by (simp only [kc_length, kw_length, List.length_replicate, List.length_append, List.length_cons, List.length_nil]; done)) (Laid.wordA 4 (by (simp [kc_length, kw_length, *]; done))) (Fl.cons rfl (by rfl) (by (simp only [kc_length, kw_length, List.length_replicate, List.length_append, List.length_cons, List.length_nil]; done)) (Laid.wordA 5 (by (simp [kc_length, kw_length, *]; done))) (Fl.cons rfl (by rfl) (by (simp only [kc_length, kw_length, List.length_replicate, List.length_append, List.length_cons, List.length_nil]; done)) (Laid.wordA 6 (by (simp [kc_length, kw_length, *]; done))) (Fl.cons rfl (by rfl) (by (simp only [kc_length, kw_length, List.length_replicate, List.length_append, List.length_cons, List.length_nil]; done)) (Laid.wordA 7 (by (simp [kc_length, kw_length, *]; done))) Fl.nil))))))))) rfl ?_
      refine WL.storeL H 0 rfl rfl rfl (new := _) rfl (by exact TrydT.sz119) (by exact kw_one _) (Laid.at (Laid.all (by (simp [kc_length, kw_length]; omega))) (by rfl)) rfl ?_
      intro w17 H
      refine WL.nil ?_
      refine WE.reg ?_
      refine WL.mv rfl rfl ?_
      refine WL.pv (PV.add64 rfl rfl rfl (by omega) (by omega)) rfl ?_
      refine WL.as rfl rfl ?_
      refine WL.nil ?_
      have e := rnds_succ (sched (((padOf la).drop (64 * n)).take 64) 48) (shaSt (padOf la) n) hS i hlt2 (by omega)
      rw [stp_eq _ hR] at e
      exact ⟨i + 1, (by repeat (first | with_reducible exact Off.refl _ _ | refine Off.upd rfl ?_ | refine Off.setAll rfl ?_ | refine Off.forget' rfl ?_)), ⟨rfl, trivial⟩, rfl, ⟨by omega, H.conv (by rw [e]; rfl)⟩, (by omega)⟩
    · skip
      try simp only [decide_eq_true_eq, decide_eq_false_iff_not, ne_eq, Decidable.not_not, Bool.not_eq_true', Bool.not_eq_false', Bool.and_eq_true, Bool.or_eq_true, Bool.not_not, Bool.and_eq_false_iff, Bool.or_eq_false_iff, Int.not_lt, Int.not_le] at hc33
      obtain rfl : i = 64 := by omega
      refine WE.exit ?_
      refine WE.seq_reg ?_
      refine WL.as rfl rfl ?_
      refine WL.nil ?_
      refine WE.block ?_
      refine WE.loop (α := Nat) [12, 122, 123, 124, 125, 126, 127, 128, 129, 130, 131, 132, 133] (fun i => [(12, .int .i64 i)]) (fun i wl => i ≤ 8 ∧ St X w wl [] [Ent.blk b8 119 (kw (rnds (sched (((padOf la).drop (64 * n)).take 64) 48) (shaSt (padOf la) n) 64)), Ent.blk b3 119 (kw (addTo (shaSt (padOf la) n) (rnds (sched (((padOf la).drop (64 * n)).take 64) 48) (shaSt (padOf la) n) 64) i)), Ent.blk b2 29 (kc (List.replicate 32 0))] (SlW v30 (sched (((padOf la).drop (64 * n)).take 64) 48) :: [SlB v18 (padOf la), SlW v16 roundsL, SlB a la])) (fun i => 8 - i) 0 ⟨rfl, trivial⟩ ⟨Nat.zero_le _, by rw [addTo_zero _ _ hS]; exact H⟩ ?_
      intro i γ2 w18 hI
      try dsimp only at hI
      obtain ⟨hi, H⟩ := hI
      have hR2 := rnds_length (sched (((padOf la).drop (64 * n)).take 64) 48) (shaSt (padOf la) n) hS 64
      refine WE.seq ?_
      refine WE.seq_reg ?_
      refine WL.mv rfl rfl ?_
      refine WL.pv (PV.lss rfl rfl rfl) rfl ?_
      refine WL.nil ?_
      refine WE.cond rfl (fun hc123 => ?_) (fun hc123 => ?_)
      · skip
        try simp only [decide_eq_true_eq, decide_eq_false_iff_not, ne_eq, Decidable.not_not, Bool.not_eq_true', Bool.not_eq_false', Bool.and_eq_true, Bool.or_eq_true, Bool.not_not, Bool.and_eq_false_iff, Bool.or_eq_false_iff, Int.not_lt, Int.not_le] at hc123
        have hlt3 : i < 8 := by omega
        refine WE.skip ?_
        refine WE.seq ?_
        refine WE.block ?_
        refine WE.draw (.take 0 (.take 1 (.take 2 (.take 3 (.take 4 (.take 5 (.take 6 (.take 7 (.pick1 8 .done))))))))) TrydT.mixed (by kernel_rfl) ?_
        replace H := H.out (Out.drew _)
        refine WP.mv rfl rfl rfl ?_
        refine WP.take_pure rfl rfl (PV.indexArr rfl TrydT.ar119 TrydT.sz118 rfl rfl (by omega) (by omega)) ?_
        refine WP.take_read rfl rfl (RV.loadOne rfl TrydT.ag118 rfl) (by exact Blk.segAt (H.l 1 rfl) (Seg.word i (by simp [addTo_length, *])) (by (simp; done))) ?_
        refine WP.mv rfl rfl rfl ?_
        refine WP.take_pure rfl rfl (PV.indexArr rfl TrydT.ar119 TrydT.sz118 rfl rfl (by omega) (by omega)) ?_
        refine WP.take_read rfl rfl (RV.loadOne rfl TrydT.ag118 rfl) (by exact Blk.segAt (H.l 0 rfl) (Seg.word i (by simp [addTo_length, *])) (by (simp; done))) ?_
        refine WP.take_pure rfl rfl (PV.add32 rfl rfl rfl) ?_
        refine WP.take_pure rfl rfl (PV.indexArr rfl TrydT.ar119 TrydT.sz118 rfl rfl (by omega) (by omega)) ?_
        refine WP.pick1 rfl ?_
        refine WL.storeL H 1 rfl rfl rfl (new := _) rfl (by exact TrydT.sz118) (by exact one_lit _ rfl) (Laid.at (Laid.wordA i (by simp [addTo_length, *])) (by (simp; done))) rfl ?_
        intro w19 H
        refine WL.nil ⟨(List.forall_mem_cons.2 ⟨(by exact (fun h => absurd (show waits _ 8 5 = false from h) (by decide +kernel))), (List.forall_mem_cons.2 ⟨(by exact (fun h => absurd (show waits _ 8 2 = false from h) (by decide +kernel))), (fun _ h => by cases h)⟩)⟩), ?_⟩
        refine WP.done ?_
        refine WE.reg ?_
        refine WL.mv rfl rfl ?_
        refine WL.pv (PV.add64 rfl rfl rfl (by omega) (by omega)) rfl ?_
        refine WL.as rfl rfl ?_
        refine WL.nil ?_
        have e := addTo_set (shaSt (padOf la) n) (rnds (sched (((padOf la).drop (64 * n)).take 64) 48) (shaSt (padOf la) n) 64) i hS hR2 hlt3
        exact ⟨i + 1, (by repeat (first | with_reducible exact Off.refl _ _ | refine Off.upd rfl ?_ | refine Off.setAll rfl ?_ | refine Off.forget' rfl ?_)), ⟨rfl, trivial⟩, rfl, ⟨by omega, H.conv (by rw [← e]; rfl)⟩, (by omega)⟩
      · skip
        try simp only [decide_eq_true_eq, decide_eq_false_iff_not, ne_eq, Decidable.not_not, Bool.not_eq_true', Bool.not_eq_false', Bool.and_eq_true, Bool.or_eq_true, Bool.not_not, Bool.and_eq_false_iff, Bool.or_eq_false_iff, Int.not_lt, Int.not_le] at hc123
        obtain rfl : i = 8 := by omega
        refine WE.exit ?_
        refine WE.reg ?_
        refine WL.mv rfl rfl ?_
        refine WL.pv (PV.add64 rfl rfl rfl (by omega) (by omega)) rfl ?_
        refine WL.as rfl rfl ?_
        refine WL.nil ?_
        replace H := H.forget 0
        replace H := H.drop (fun p hp => List.mem_cons_of_mem _ hp)
        exact ⟨n + 1, (by repeat (first | with_reducible exact Off.refl _ _ | refine Off.upd rfl ?_ | refine Off.setAll rfl ?_ | refine Off.forget' rfl ?_)), ⟨rfl, trivial⟩, rfl, ⟨by omega, H⟩, (by omega)⟩
  · skip
    try simp only [decide_eq_true_eq, decide_eq_false_iff_not, ne_eq, Decidable.not_not, Bool.not_eq_true', Bool.not_eq_false', Bool.and_eq_true, Bool.or_eq_true, Bool.not_not, Bool.and_eq_false_iff, Bool.or_eq_false_iff, Int.not_lt, Int.not_le] at hc22
    have hge : n = (padOf la).length / 64 := by omega
    refine WE.exit ?_
    refine WE.seq_reg ?_
    refine WL.alloc H rfl TrydT.ze29 rfl ?_
    intro b13 w20 H
    refine WL.nil ?_
    refine WE.seq ?_
    refine WE.seq_reg ?_
    refine WL.as rfl rfl ?_
    refine WL.nil ?_
    refine WE.block ?_
    refine WE.loop (α := Nat) [14, 134, 135, 136, 137, 138, 139, 140, 141, 142, 143, 144, 145, 146, 147, 148, 149, 150] (fun i => [(14, .int .i64 i)]) (fun i wl => i ≤ 32 ∧ St X w wl [] [Ent.blk b13 29 (kc (fillZ 32 i (outOf (shaSt (padOf la) n)))), Ent.blk b3 119 (kw (shaSt (padOf la) n)), Ent.blk b2 29 (kc (List.replicate 32 0))] [SlB v18 (padOf la), SlW v16 roundsL, SlB a la]) (fun i => 32 - i) 0 ⟨rfl, trivial⟩ ⟨Nat.zero_le _, by rw [fillZ_zero]; exact H⟩ ?_
    intro i γ3 w21 hI
    try dsimp only at hI
    obtain ⟨hi, H⟩ := hI
    refine WE.seq ?_
    refine WE.seq_reg ?_
    refine WL.mv rfl rfl ?_
    refine WL.pv (PV.lss rfl rfl rfl) rfl ?_
    refine WL.nil ?_
    refine WE.cond rfl (fun hc135 => ?_) (fun hc135 => ?_)
    · skip
      try simp only [decide_eq_true_eq, decide_eq_false_iff_not, ne_eq, Decidable.not_not, Bool.not_eq_true', Bool.not_eq_false', Bool.and_eq_true, Bool.or_eq_true, Bool.not_not, Bool.and_eq_false_iff, Bool.or_eq_false_iff, Int.not_lt, Int.not_le] at hc135
      have hlt4 : i < 32 := by omega
      refine WE.skip ?_
      refine WE.seq ?_
      refine WE.block ?_
      refine WE.reg ?_
      refine WL.mv rfl rfl ?_
      refine WL.mv rfl rfl ?_
      refine WL.pv (PV.eq (v' := .int .i64 ((i / 4 : Nat) : Int)) (PV.quo64 rfl rfl rfl (by omega) (by omega) (by omega)) (by rfl)) rfl ?_
      refine WL.pv (PV.indexArr rfl TrydT.ar119 TrydT.sz118 rfl rfl (by omega) (by omega)) rfl ?_
      refine WL.load1 rfl TrydT.ag118 rfl rfl (by exact Blk.segAt (H.l 1 rfl) (Seg.word (i / 4) (by rw [hS]; omega)) (by omega)) ?_
      refine WL.mv rfl rfl ?_
      refine WL.pv (PV.eq (v' := .int .i64 ((i % 4 : Nat) : Int)) (PV.rem64 rfl rfl rfl (by omega) (by omega)) (by rfl)) rfl ?_
      refine WL.pv (PV.eq (v' := .int .i64 ((8 * (i % 4) : Nat) : Int)) (PV.mul64 rfl rfl rfl (by omega) (by omega)) (by rfl)) rfl ?_
      refine WL.pv (PV.eq (v' := .int .i64 ((24 - 8 * (i % 4) : Nat) : Int)) (PV.sub64 rfl rfl rfl (by omega) (by omega)) (by (congr 1; omega))) rfl ?_
      refine WL.pv (PV.convN (n := 24 - 8 * (i % 4)) rfl TrydT.in3 TrydT.in135 rfl rfl (by omega)) rfl ?_
      refine WL.pv (PV.shr32 (n := 24 - 8 * (i % 4)) rfl rfl rfl (by omega)) rfl ?_
      refine WL.pv (PV.c32_8 rfl TrydT.in118 TrydT.in5 rfl) rfl ?_
      refine WL.pv (PV.indexArr rfl TrydT.ar29 TrydT.sz5 rfl rfl (by omega) (by omega)) rfl ?_
      refine WL.storeL H 0 rfl rfl rfl (new := _) rfl (by exact TrydT.sz5) (by exact one_lit _ rfl) (Laid.at (Laid.byteA i (by rw [fillZ_length (by omega) (by rw [outOf_length]; omega)]; omega)) (by (simp; done))) rfl ?_
      intro w22 H
      refine WL.nil ?_
      refine WE.reg ?_
      refine WL.mv rfl rfl ?_
      refine WL.pv (PV.add64 rfl rfl rfl (by omega) (by omega)) rfl ?_
      refine WL.as rfl rfl ?_
      refine WL.nil ?_
      have e := fillZ_set (m := 32) (k := i) (l := outOf (shaSt (padOf la) n)) (by omega) (by rw [outOf_length]; omega)
      rw [outOf_get _ _ _ (by rw [hS]; omega)] at e
      exact ⟨i + 1, (by repeat (first | with_reducible exact Off.refl _ _ | refine Off.upd rfl ?_ | refine Off.setAll rfl ?_ | refine Off.forget' rfl ?_)), ⟨rfl, trivial⟩, rfl, ⟨by omega, H.conv (by rw [← e]; rfl)⟩, (by omega)⟩
    · skip
      try simp only [decide_eq_true_eq, decide_eq_false_iff_not, ne_eq, Decidable.not_not, Bool.not_eq_true', Bool.not_eq_false', Bool.and_eq_true, Bool.or_eq_true, Bool.not_not, Bool.and_eq_false_iff, Bool.or_eq_false_iff, Int.not_lt, Int.not_le] at hc135
      obtain rfl : i = 32 := by omega
      refine WE.exit ?_
      refine WE.seq_reg ?_
      have e32 := fillZ_all (m := 32) (l := outOf (shaSt (padOf la) n)) (outOf_length _)
      rw [e32] at H
      refine WL.loadR rfl TrydT.ag29 rfl rfl (by exact Blk.segAt (H.l 0 rfl) (Seg.all _) (by rfl)) (by exact TrydT.sz29) ?_
      refine WL.storeL H 2 rfl rfl rfl (new := _) rfl (by exact TrydT.sz29) (by exact kc_one _) (Laid.at (Laid.all (by rfl)) (by rfl)) rfl ?_
      intro w23 H
      refine WL.nil ?_
      refine WE.ret ?_
      refine ⟨[_], _, .nil _, ⟨⟨_, rfl, run_loadVar_aggR TrydT.ag29 (by exact Blk.segAt (H.l 2 rfl) (Seg.all _) rfl) (by exact TrydT.sz29)⟩, trivial⟩, ?_⟩
      subst hge
      exact ⟨rfl, H.toOut0⟩

end Go.Sp.Tryd
