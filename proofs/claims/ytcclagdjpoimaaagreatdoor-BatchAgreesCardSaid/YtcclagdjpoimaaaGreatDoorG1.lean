/- Walks of functions, printed by a program of this session (gen.py) from notes on each function. -/
import Derived.Test.YtcclagdjpoimaaaGreatDoorTy
import Derived.Test.YtcclagdjpoimaaaGreatDoorBytes
set_option maxRecDepth 100000
set_option maxHeartbeats 1000000
set_option linter.unusedVariables false
set_option linter.unusedSimpArgs false
namespace Go.Sp.Tryz
open Go.Proofs Go.RowKit Go.Sp

end Go.Sp.Tryz

set_option maxRecDepth 100000
set_option maxHeartbeats 1000000
set_option linter.unusedVariables false
set_option linter.unusedSimpArgs false
namespace Go.Sp.Tryz
open Go.Proofs Go.RowKit Go.Sp

def kindOf (l : List UInt8) : Int := match l with
  | [] => -1
  | x :: xs => if (x.toNat ≤ 1 ∧ xs.length = 64) ∨ x.toNat = 2 ∨ (x.toNat = 3 ∧ xs.length = 0) then x.toNat else -1
theorem Grow_c {X : Nat → Prop} {w : World} {n : Nat} (hX : ∀ b, X b → b < w.heap.size) (hn : n ≤ 70368744177664) :
    Ret Tryz.prog 123 [.slice none 0 0, .int .i64 n].toArray w fun v w' => Out Nil w w' ∧ w'.ownsRow w.heap.size 5 1 v 0 [] := by
  refine Ret.of_body (N := 27) Tryz.func123 rfl rfl (by simp) ?_
  have H := St.begin hX
  refine WE.seq_reg ?_
  refine WL.as rfl rfl ?_
  refine WL.nil ?_
  refine WE.seq ?_
  refine WE.seq_reg ?_
  refine WL.mv rfl rfl ?_
  refine WL.pv (PV.lss rfl rfl rfl) rfl ?_
  refine WL.nil ?_
  refine WE.cond_f' rfl (by simp) ?_
  refine WE.skip ?_
  refine WE.seq ?_
  refine WE.seq_reg ?_
  refine WL.mv rfl rfl ?_
  refine WL.mv rfl rfl ?_
  refine WL.pv (PV.capSl TryzT.sl32 rfl) rfl ?_
  refine WL.mv rfl rfl ?_
  refine WL.pv (PV.lenSl TryzT.sl32 rfl) rfl ?_
  refine WL.pv (PV.sub64 rfl rfl rfl (by omega) (by omega)) rfl ?_
  refine WL.pv (PV.sub64 rfl rfl rfl (by omega) (by omega)) rfl ?_
  refine WL.as rfl rfl ?_
  refine WL.nil ?_
  refine WE.seq_reg ?_
  refine WL.mv rfl rfl ?_
  refine WL.pv (PV.gtr rfl rfl rfl) rfl ?_
  refine WL.nil ?_
  refine WE.cond rfl (fun hc16 => ?_) (fun hc16 => ?_)
  · skip
    try simp only [decide_eq_true_eq, decide_eq_false_iff_not, ne_eq, Decidable.not_not, Bool.not_eq_true', Bool.not_eq_false', Bool.and_eq_true, Bool.or_eq_true, Bool.not_not, Bool.and_eq_false_iff, Bool.or_eq_false_iff, Int.not_lt, Int.not_le] at hc16
    have hpos : 0 < n := by omega
    refine WE.reg ?_
    refine WL.mv rfl rfl ?_
    refine WL.mv rfl rfl ?_
    refine WL.pv (PV.capSl TryzT.sl32 rfl) rfl ?_
    refine WL.pv (PV.subH rfl (SlC.nil w 1) TryzT.sl32 TryzT.sz5 rfl rfl (by omega) (by omega)) rfl ?_
    refine WL.mv rfl rfl ?_
    refine WL.appendZeros (n := n) H TryzT.st32 TryzT.in3 (by decide) rfl (by simp [ev]; rfl) hpos (by omega) (by decide) rfl ?_
    intro g cap cs w2 H
    refine WL.mv rfl rfl ?_
    refine WL.pv (PV.lenSl TryzT.sl32 rfl) rfl ?_
    refine WL.own0 H 0 rfl TryzT.sl32 rfl rfl rfl rfl rfl ?_
    intro H
    refine WL.as rfl rfl ?_
    refine WL.nil ?_
    refine WE.seq_reg ?_
    refine WL.mv rfl rfl ?_
    refine WL.as rfl rfl ?_
    refine WL.nil ?_
    refine WE.ret ?_
    refine ⟨[_], _, .nil _, ⟨rfl, trivial⟩, ?_⟩
    exact ⟨H.toOut0, H.l 0 rfl⟩
  · skip
    try simp only [decide_eq_true_eq, decide_eq_false_iff_not, ne_eq, Decidable.not_not, Bool.not_eq_true', Bool.not_eq_false', Bool.and_eq_true, Bool.or_eq_true, Bool.not_not, Bool.and_eq_false_iff, Bool.or_eq_false_iff, Int.not_lt, Int.not_le] at hc16
    have hz : n = 0 := by omega
    refine WE.skip ?_
    refine WE.seq_reg ?_
    refine WL.mv rfl rfl ?_
    refine WL.as rfl rfl ?_
    refine WL.nil ?_
    refine WE.ret ?_
    refine ⟨[_], _, .nil _, ⟨rfl, trivial⟩, ?_⟩
    exact ⟨H.toOut0, World.ownsRow_nil _ _ _ _⟩

theorem flatten_take_succ (ls : List (List UInt8)) (k : Nat) (h : k < ls.length) : (ls.take (k + 1)).flatten = (ls.take k).flatten ++ ls[k] := by
  rw [List.take_succ_eq_append_getElem h, List.flatten_append]; simp
theorem flatten_take_le (ls : List (List UInt8)) (k : Nat) : (ls.take k).flatten.length ≤ ls.flatten.length := by
  have h : ls.flatten = (ls.take k).flatten ++ (ls.drop k).flatten := by rw [← List.flatten_append, List.take_append_drop]
  rw [h, List.length_append]; omega

theorem Concat_c {X : Nat → Prop} {w : World} {s : Value} {vs : List Value} {ls : List (List UInt8)} (hX : ∀ b, X b → b < w.heap.size) (hf0 : Rob X (SlV s vs) w) (hf1 : Rob X (SlL vs ls) w) (hvs : vs.length ≤ 1000000) (htot : ls.flatten.length ≤ 70368744177664) :
    Ret Tryz.prog 101 [s].toArray w fun v w' => Out Nil w w' ∧ Rob X (SlB v ls.flatten) w' := by
  refine Ret.of_body (N := 36) Tryz.func101 rfl rfl (by simp) ?_
  have H := St.begin hX
  replace H := H.add (rob0 hf1)
  replace H := H.add (rob0 hf0)
  have hlen : vs.length = ls.length := (H.p 1 rfl : SlL vs ls w).1
  refine WE.seq_reg ?_
  refine WL.as rfl rfl ?_
  refine WL.nil ?_
  refine WE.seq_reg ?_
  refine WL.as rfl rfl ?_
  refine WL.nil ?_
  refine WE.seq ?_
  refine WE.seq_reg ?_
  refine WL.mv rfl rfl ?_
  refine WL.pv (PV.lenS (H.p 0 rfl) TryzT.sl155 rfl) rfl ?_
  refine WL.mv rfl rfl ?_
  refine WL.nil ?_
  refine WE.block ?_
  refine WE.loop (α := Nat) [3, 5, 11, 12, 13, 14, 15, 16, 17, 18, 19, 20, 21, 22] (fun k => [(11, .int .i64 k), (3, .int .i64 ((ls.take k).flatten.length : Int))]) (fun k wl => k ≤ vs.length ∧ St X w wl [] [] [SlV s vs, SlL vs ls]) (fun k => vs.length - k) 0 ⟨rfl, rfl, trivial⟩ ⟨Nat.zero_le _, H⟩ ?_
  intro k γ0 w1 hI
  try dsimp only at hI
  obtain ⟨hk, H⟩ := hI
  refine WE.seq_reg ?_
  refine WL.pv (PV.lss rfl rfl rfl) rfl ?_
  refine WL.nil ?_
  refine WE.seq ?_
  refine WE.cond rfl (fun hc12 => ?_) (fun hc12 => ?_)
  · skip
    try simp only [decide_eq_true_eq, decide_eq_false_iff_not, ne_eq, Decidable.not_not, Bool.not_eq_true', Bool.not_eq_false', Bool.and_eq_true, Bool.or_eq_true, Bool.not_not, Bool.and_eq_false_iff, Bool.or_eq_false_iff, Int.not_lt, Int.not_le] at hc12
    have hlt : k < vs.length := by omega
    have hF := flatten_take_succ ls k (by omega)
    have hG := flatten_take_le ls (k + 1)
    rw [hF, List.length_append] at hG
    refine WE.skip ?_
    refine WE.seq ?_
    refine WE.block ?_
    refine WE.seq_reg ?_
    refine WL.pv (PV.idxS rfl (H.p 0 rfl) TryzT.sl155 TryzT.sz32 rfl rfl (by omega) (by omega)) rfl ?_
    refine WL.load1 rfl TryzT.ag32 rfl rfl (SlV.rd (H.p 0 rfl) k hlt) ?_
    refine WL.as rfl rfl ?_
    refine WL.nil ?_
    refine WE.seq_reg ?_
    refine WL.mv rfl rfl ?_
    refine WL.mv rfl rfl ?_
    refine WL.pv (PV.lenS ((H.p 1 rfl : SlL vs ls _).2 k hlt (by omega)) TryzT.sl32 rfl) rfl ?_
    refine WL.pv (PV.add64 rfl rfl rfl (by omega) (by omega)) rfl ?_
    refine WL.as rfl rfl ?_
    refine WL.nil ?_
    refine WE.seq_reg ?_
    refine WL.mv rfl rfl ?_
    refine WL.pv (PV.lss rfl rfl rfl) rfl ?_
    refine WL.nil ?_
    refine WE.cond_f' rfl (by simp; omega) ?_
    refine WE.skip ?_
    refine WE.reg ?_
    refine WL.pv (PV.add64 rfl rfl rfl (by omega) (by omega)) rfl ?_
    refine WL.mv rfl rfl ?_
    refine WL.nil ?_
    exact ⟨k + 1, (by repeat (first | with_reducible exact Off.refl _ _ | refine Off.upd rfl ?_ | refine Off.setAll rfl ?_ | refine Off.forget' rfl ?_)), ⟨rfl, by rw [hF, List.length_append]; rfl, trivial⟩, rfl, ⟨by omega, H⟩, (by omega)⟩
  · skip
    try simp only [decide_eq_true_eq, decide_eq_false_iff_not, ne_eq, Decidable.not_not, Bool.not_eq_true', Bool.not_eq_false', Bool.and_eq_true, Bool.or_eq_true, Bool.not_not, Bool.and_eq_false_iff, Bool.or_eq_false_iff, Int.not_lt, Int.not_le] at hc12
    have hge : k = vs.length := by omega
    refine WE.exit ?_
    refine WE.seq_reg ?_
    refine WL.mv rfl rfl ?_
    refine WL.call TryzT.fb123 rfl (Grow_c (n := (ls.take k).flatten.length) H.yylt (by have := flatten_take_le ls k; omega)) ?_
    rintro v24 w2 ⟨hO, hOwn⟩
    replace H := H.push hO (Ent.osl w.heap.size v24 5 1 0 []) (ownsRow_base hOwn H.size) (fun b hb => (hOwn.lt b hb).1)
    refine WL.as rfl rfl ?_
    refine WL.nil ?_
    refine WE.seq ?_
    refine WE.seq_reg ?_
    refine WL.mv rfl rfl ?_
    refine WL.pv (PV.lenS (H.p 0 rfl) TryzT.sl155 rfl) rfl ?_
    refine WL.mv rfl rfl ?_
    refine WL.nil ?_
    refine WE.block ?_
    refine WE.loop (α := Nat × Value) [6, 8, 27, 28, 29, 30, 31, 32, 33, 34] (fun p => [(27, .int .i64 p.1), (6, p.2)]) (fun p wl => p.1 ≤ vs.length ∧ St X w wl [] [Ent.osl w.heap.size p.2 5 1 (ls.take p.1).flatten.length (kc (ls.take p.1).flatten)] [SlV s vs, SlL vs ls]) (fun p => vs.length - p.1) (0, v24) ⟨rfl, rfl, trivial⟩ ⟨Nat.zero_le _, H⟩ ?_
    intro ⟨k, v⟩ γ1 w3 hI
    try dsimp only at hI
    obtain ⟨hk, H⟩ := hI
    refine WE.seq_reg ?_
    refine WL.pv (PV.lss rfl rfl rfl) rfl ?_
    refine WL.nil ?_
    refine WE.seq ?_
    refine WE.cond rfl (fun hc28 => ?_) (fun hc28 => ?_)
    · skip
      try simp only [decide_eq_true_eq, decide_eq_false_iff_not, ne_eq, Decidable.not_not, Bool.not_eq_true', Bool.not_eq_false', Bool.and_eq_true, Bool.or_eq_true, Bool.not_not, Bool.and_eq_false_iff, Bool.or_eq_false_iff, Int.not_lt, Int.not_le] at hc28
      have hlt : k < vs.length := by omega
      have hF := flatten_take_succ ls k (by omega)
      have hG := flatten_take_le ls (k + 1)
      rw [hF, List.length_append] at hG
      refine WE.skip ?_
      refine WE.seq ?_
      refine WE.block ?_
      refine WE.seq_reg ?_
      refine WL.pv (PV.idxS rfl (H.p 0 rfl) TryzT.sl155 TryzT.sz32 rfl rfl (by omega) (by omega)) rfl ?_
      refine WL.load1 rfl TryzT.ag32 rfl rfl (SlV.rd (H.p 0 rfl) k hlt) ?_
      refine WL.as rfl rfl ?_
      refine WL.nil ?_
      refine WE.reg ?_
      refine WL.mv rfl rfl ?_
      refine WL.mv rfl rfl ?_
      refine WL.append (m := (ls[k]'(by omega)).length) H 0 TryzT.st32 (by decide) rfl rfl rfl ((H.p 1 rfl : SlL vs ls _).2 k hlt (by omega)) (by exact kc_one _) (by omega) (by decide) rfl ?_
      intro v33 w4 H
      refine WL.as rfl rfl ?_
      refine WL.nil ?_
      refine WE.reg ?_
      refine WL.pv (PV.add64 rfl rfl rfl (by omega) (by omega)) rfl ?_
      refine WL.mv rfl rfl ?_
      refine WL.nil ?_
      replace H : St X w w4 [] [Ent.osl w.heap.size v33 5 1 (ls.take (k+1)).flatten.length (kc (ls.take (k+1)).flatten)] [SlV s vs, SlL vs ls] := by rw [hF, List.length_append, kc_append]; exact H
      exact ⟨(k + 1, v33), (by repeat (first | with_reducible exact Off.refl _ _ | refine Off.upd rfl ?_ | refine Off.setAll rfl ?_ | refine Off.forget' rfl ?_)), ⟨rfl, rfl, trivial⟩, rfl, ⟨by dsimp only; omega, H⟩, (by dsimp only; omega)⟩
    · skip
      try simp only [decide_eq_true_eq, decide_eq_false_iff_not, ne_eq, Decidable.not_not, Bool.not_eq_true', Bool.not_eq_false', Bool.and_eq_true, Bool.or_eq_true, Bool.not_not, Bool.and_eq_false_iff, Bool.or_eq_false_iff, Int.not_lt, Int.not_le] at hc28
      have hge : k = vs.length := by omega
      refine WE.exit ?_
      refine WE.seq_reg ?_
      refine WL.mv rfl rfl ?_
      refine WL.as rfl rfl ?_
      refine WL.nil ?_
      refine WE.ret ?_
      refine ⟨[_], _, .nil _, ⟨rfl, trivial⟩, ?_⟩
      replace H := H.freeze (i := 0) rfl
      have hall : ls.take k = ls := List.take_of_length_le (by omega)
      exact ⟨H.toOut0, H.give ((H.rob 0 rfl).imp fun _ h => by have := SlB.of_own h; rwa [hall] at this)⟩

end Go.Sp.Tryz

set_option maxRecDepth 100000
set_option maxHeartbeats 1000000
set_option linter.unusedVariables false
set_option linter.unusedSimpArgs false
namespace Go.Sp.Tryz
open Go.Proofs Go.RowKit Go.Sp
theorem build_c {X : Nat → Prop} {w : World} {x : UInt8} {s : Value} {vs : List Value} {ls : List (List UInt8)} (hX : ∀ b, X b → b < w.heap.size) (hf0 : Rob X (SlV s vs) w) (hf1 : Rob X (SlL vs ls) w) (hvs : vs.length ≤ 1000000) (htot : ls.flatten.length ≤ 70368744177000) :
    Ret Tryz.prog 66 [.int .u8 (x.toNat : Int), s].toArray w fun v w' => Out Nil w w' ∧ Rob X (SlB v (x :: ls.flatten)) w' := by
  refine Ret.of_body (N := 10) Tryz.func66 rfl rfl (by simp) ?_
  have H := St.begin hX
  replace H := H.add (rob0 hf1)
  replace H := H.add (rob0 hf0)
  refine WE.seq_reg ?_
  refine WL.as rfl rfl ?_
  refine WL.nil ?_
  refine WE.seq_reg ?_
  refine WL.mv rfl rfl ?_
  refine WL.buildSliceF (l0 := [.int .u8 (0)]) H rfl TryzT.st32 (by decide) (zrow_one _ _) (Fl.cons rfl (by rfl) (by (simp only [kc_length, kw_length, List.length_replicate, List.length_append, List.length_cons, List.length_nil]; done)) Laid.head Fl.nil) rfl ?_
  intro b6 w1 H
  replace H := H.toOsl (n := 1) (sz := 1) (i := 0) rfl rfl (by decide)
  refine WL.mv rfl rfl ?_
  refine WL.call TryzT.fb101 rfl (Concat_c  H.yylt (by exact H.rob 0 rfl) (by exact H.rob 1 rfl) (by assumption) (by omega)) ?_
  rintro v8 w2 ⟨hO, hR⟩
  replace H := (H.out hO).add hR
  refine WL.append H 0 TryzT.st32 (by decide) rfl rfl rfl (by exact H.p 0 rfl) (by exact kc_one _) (by omega) (by decide) rfl ?_
  intro v9 w3 H
  refine WL.as rfl rfl ?_
  refine WL.nil ?_
  refine WE.ret ?_
  refine ⟨[_], _, .nil _, ⟨rfl, trivial⟩, ?_⟩
  replace H := H.freeze (i := 0) rfl
  exact ⟨H.toOut0, H.give ((H.rob 0 rfl).imp fun _ h => SlB.of_own (l := x :: ls.flatten) h)⟩

theorem Value_c {X : Nat → Prop} {w : World} {a : Value} {la : List UInt8} (hX : ∀ b, X b → b < w.heap.size) (hf0 : Rob X (SlB a la) w) (hla : la.length ≤ 70368744177000) :
    Ret Tryz.prog 118 [a].toArray w fun v w' => Out Nil w w' ∧ Rob X (SlB v (2 :: la)) w' := by
  refine Ret.of_body (N := 6) Tryz.func118 rfl rfl (by simp) ?_
  have H := St.begin hX
  replace H := H.add (rob0 hf0)
  refine WE.seq_reg ?_
  refine WL.as rfl rfl ?_
  refine WL.nil ?_
  refine WE.seq_reg ?_
  refine WL.mv rfl rfl ?_
  refine WL.buildSliceF (l0 := [.slice none 0 0]) H rfl TryzT.st155 (by decide) (zrow_one _ _) (Fl.cons rfl (by exact SlC.cells (H.p 0 rfl)) (by (simp only [kc_length, kw_length, List.length_replicate, List.length_append, List.length_cons, List.length_nil]; done)) Laid.head Fl.nil) rfl ?_
  intro b4 w1 H
  replace H := H.freeze (i := 0) rfl
  replace H := H.add ((H.rob 0 rfl).imp fun _ h => SlV.of_blk h rfl)
  replace H := H.add ((H.rob 2 rfl).imp fun w h => SlL.cons h (SlL.nil w))
  refine WL.call TryzT.fb66 rfl (build_c (x := 2) (vs := [a]) (ls := [la]) H.yylt (H.rob 1 rfl) (H.rob 0 rfl) (by simp) (by simpa using hla)) ?_
  rintro v5 w2 ⟨hO, hR⟩
  replace H := (H.out hO).add hR
  refine WL.as rfl rfl ?_
  refine WL.nil ?_
  refine WE.ret ?_
  refine ⟨[_], _, .nil _, ⟨rfl, trivial⟩, ?_⟩
  exact ⟨H.toOut0, H.give ((H.rob 0 rfl).imp fun _ h => (show SlB v5 (2 :: la) _ by simpa using h))⟩

theorem Empty_c {X : Nat → Prop} {w : World}  (hX : ∀ b, X b → b < w.heap.size) :
    Ret Tryz.prog 38 [].toArray w fun v w' => Out Nil w w' ∧ Rob X (SlB v [3]) w' := by
  refine Ret.of_body (N := 2) Tryz.func38 rfl rfl (by decide +revert) ?_
  have H := St.begin hX
  refine WE.seq_reg ?_
  refine WL.as rfl rfl ?_
  refine WL.nil ?_
  refine WE.seq_reg ?_
  refine WL.call TryzT.fb66 rfl (build_c (x := 3) (vs := []) (ls := []) H.yylt (fun w _ => SlC.nil w 1) (fun w _ => SlL.nil w) (by simp) (by simp)) ?_
  rintro v1 w1 ⟨hO, hR⟩
  replace H := (H.out hO).add hR
  refine WL.as rfl rfl ?_
  refine WL.nil ?_
  refine WE.ret ?_
  refine ⟨[_], _, .nil _, ⟨rfl, trivial⟩, ?_⟩
  exact ⟨H.toOut0, H.give (H.rob 0 rfl)⟩

theorem Leaf_c {X : Nat → Prop} {w : World} {k l : List UInt8} (hX : ∀ b, X b → b < w.heap.size) (hk : k.length = 32) (hl : l.length = 32) :
    Ret Tryz.prog 154 [.agg (kc k ++ kc l).toArray].toArray w fun v w' => Out Nil w w' ∧ Rob X (SlB v (0 :: (k ++ l))) w' := by
  refine Ret.of_body (N := 9) Tryz.func154 rfl rfl (by simp) ?_
  have H := St.begin hX
  refine WE.seq_reg ?_
  refine WL.box (l := _) H rfl (by rfl) rfl ?_
  intro b1 w1 H
  refine WL.as rfl rfl ?_
  refine WL.nil ?_
  refine WE.seq_draw (.take 0 (.take 1 (.take 2 (.take 3 (.pick1 4 (.pick1 5 (.take 6 .done))))))) TryzT.mixed (by kernel_rfl) ?_
  replace H := H.out (Out.drew _)
  refine WP.take_pure rfl rfl (PV.fieldAddr rfl TryzT.fd93_0 rfl) ?_
  refine WP.take_pure rfl rfl (PV.sliceArr rfl TryzT.ar31 (by rw [TryzT.sz5]; rfl) rfl) ?_
  refine WP.take_pure rfl rfl (PV.fieldAddr rfl TryzT.fd93_1 rfl) ?_
  refine WP.take_pure rfl rfl (PV.sliceArr rfl TryzT.ar42 (by rw [TryzT.sz5]; rfl) rfl) ?_
  refine WP.pick1 rfl ?_
  refine WL.buildSliceF (l0 := [.slice none 0 0, .slice none 0 0]) H rfl TryzT.st155 (by decide) (zrow_one _ _) (Fl.cons rfl (by rfl) (by (simp only [kc_length, kw_length, List.length_replicate, List.length_append, List.length_cons, List.length_nil]; done)) Laid.head (Fl.cons rfl (by rfl) (by (simp only [kc_length, kw_length, List.length_replicate, List.length_append, List.length_cons, List.length_nil]; done)) (Laid.tail Laid.head rfl) Fl.nil)) rfl ?_
  intro b7 w2 H
  replace H := H.freeze (i := 0) rfl
  replace H := H.freeze (i := 0) rfl
  replace H := H.add ((H.rob 1 rfl).imp fun _ h => SlV.of_blk h rfl)
  replace H := H.add ((H.rob 1 rfl).imp fun w h => SlL.cons (SlB.of_rd (a := ⟨b1, 0, none⟩) (Blk.segAt h (Seg.l (Seg.all (kc k))) rfl) hk (Nat.le_refl _)) (SlL.cons (SlB.of_rd (a := ⟨b1, 32, none⟩) (Blk.segAt h (Seg.r (Seg.all (kc l)) rfl) (by simp [kc_length, hk])) hl (Nat.le_refl _)) (SlL.nil w)))
  refine WL.nil ⟨(fun _ h => by cases h), ?_⟩
  refine WP.pick1 rfl ?_
  refine WL.call TryzT.fb66 rfl (build_c (x := 0) (vs := [_, _]) (ls := [k, l]) H.yylt (H.rob 1 rfl) (H.rob 0 rfl) (by simp) (by simp [hk, hl])) ?_
  rintro v8 w3 ⟨hO, hR⟩
  replace H := (H.out hO).add hR
  refine WL.nil ⟨(fun _ h => by cases h), ?_⟩
  refine WP.as rfl rfl rfl ?_
  refine WP.done ?_
  refine WE.ret ?_
  refine ⟨[_], _, .nil _, ⟨rfl, trivial⟩, ?_⟩
  exact ⟨H.toOut0, H.give ((H.rob 0 rfl).imp fun _ h => (show SlB v8 (0 :: (k ++ l)) _ by simpa using h))⟩

theorem Node_c {X : Nat → Prop} {w : World} {k l : List UInt8} (hX : ∀ b, X b → b < w.heap.size) (hk : k.length = 32) (hl : l.length = 32) :
    Ret Tryz.prog 151 [.agg (kc k).toArray, .agg (kc l).toArray].toArray w fun v w' => Out Nil w w' ∧ Rob X (SlB v (1 :: (k ++ l))) w' := by
  refine Ret.of_body (N := 9) Tryz.func151 rfl rfl (by simp) ?_
  have H := St.begin hX
  refine WE.seq_reg ?_
  refine WL.box (l := _) H rfl (by rfl) rfl ?_
  intro b2 w1 H
  refine WL.box (l := _) H rfl (by rfl) rfl ?_
  intro b3 w2 H
  refine WL.as rfl rfl ?_
  refine WL.nil ?_
  refine WE.seq_draw (.take 0 (.take 1 (.pick1 2 (.pick1 3 (.take 4 .done))))) TryzT.mixed (by kernel_rfl) ?_
  replace H := H.out (Out.drew _)
  refine WP.take_pure rfl rfl (PV.sliceArr rfl TryzT.ar42 (by rw [TryzT.sz5]; rfl) rfl) ?_
  refine WP.take_pure rfl rfl (PV.sliceArr rfl TryzT.ar42 (by rw [TryzT.sz5]; rfl) rfl) ?_
  refine WP.pick1 rfl ?_
  refine WL.buildSliceF (l0 := [.slice none 0 0, .slice none 0 0]) H rfl TryzT.st155 (by decide) (zrow_one _ _) (Fl.cons rfl (by rfl) (by (simp only [kc_length, kw_length, List.length_replicate, List.length_append, List.length_cons, List.length_nil]; done)) Laid.head (Fl.cons rfl (by rfl) (by (simp only [kc_length, kw_length, List.length_replicate, List.length_append, List.length_cons, List.length_nil]; done)) (Laid.tail Laid.head rfl) Fl.nil)) rfl ?_
  intro b7 w3 H
  replace H := H.freeze (i := 0) rfl
  replace H := H.freeze (i := 0) rfl
  replace H := H.freeze (i := 0) rfl
  replace H := H.add ((H.rob 2 rfl).imp fun _ h => SlV.of_blk h rfl)
  replace H := H.add (((H.rob 1 rfl).and (H.rob 2 rfl)).imp fun w h => SlL.cons (SlB.of_blk h.1 hk) (SlL.cons (SlB.of_blk h.2 hl) (SlL.nil w)))
  refine WL.nil ⟨(fun _ h => by cases h), ?_⟩
  refine WP.pick1 rfl ?_
  refine WL.call TryzT.fb66 rfl (build_c (x := 1) (vs := [_, _]) (ls := [k, l]) H.yylt (H.rob 1 rfl) (H.rob 0 rfl) (by simp) (by simp [hk, hl])) ?_
  rintro v8 w4 ⟨hO, hR⟩
  replace H := (H.out hO).add hR
  refine WL.nil ⟨(fun _ h => by cases h), ?_⟩
  refine WP.as rfl rfl rfl ?_
  refine WP.done ?_
  refine WE.ret ?_
  refine ⟨[_], _, .nil _, ⟨rfl, trivial⟩, ?_⟩
  exact ⟨H.toOut0, H.give ((H.rob 0 rfl).imp fun _ h => (show SlB v8 (1 :: (k ++ l)) _ by simpa using h))⟩

def half (la : List UInt8) (kd : Int) (i : Nat) : List UInt8 := if kindOf la = kd then (la.drop i).take 32 else List.replicate 32 0
end Go.Sp.Tryz

set_option maxRecDepth 100000
set_option maxHeartbeats 1000000
set_option linter.unusedVariables false
set_option linter.unusedSimpArgs false
namespace Go.Sp.Tryz
open Go.Proofs Go.RowKit Go.Sp
theorem CloneO_c {X : Nat → Prop} {w : World} {a : Value} {la : List UInt8} (hX : ∀ b, X b → b < w.heap.size) (hf0 : Rob X (SlB a la) w) (hla : la.length ≤ 70368744177664) :
    Ret Tryz.prog 94 [a].toArray w fun v w' => Out Nil w w' ∧ w'.ownsRow w.heap.size 5 1 v la.length (kc la) := by
  refine Ret.of_body (N := 8) Tryz.func94 rfl rfl (by simp) ?_
  have H := St.begin hX
  replace H := H.add (rob0 hf0)
  refine WE.seq_reg ?_
  refine WL.as rfl rfl ?_
  refine WL.nil ?_
  refine WE.seq ?_
  refine WE.seq_reg ?_
  refine WL.mv rfl rfl ?_
  refine WL.pv (PV.eqlSn rfl (H.p 0 rfl) TryzT.sl32 rfl rfl) rfl ?_
  refine WL.nil ?_
  refine WE.cond rfl (fun hc4 => ?_) (fun hc4 => ?_)
  · skip
    try simp only [decide_eq_true_eq, decide_eq_false_iff_not, ne_eq, Decidable.not_not, Bool.not_eq_true', Bool.not_eq_false', Bool.and_eq_true, Bool.or_eq_true, Bool.not_not, Bool.and_eq_false_iff, Bool.or_eq_false_iff, Int.not_lt, Int.not_le] at hc4
    have h0 : la = [] := List.eq_nil_of_length_eq_zero (SlC.nilLen (H.p 0 rfl) hc4)
    subst h0
    refine WE.seq_reg ?_
    refine WL.as rfl rfl ?_
    refine WL.nil ?_
    refine WE.ret ?_
    refine ⟨[_], _, .nil _, ⟨rfl, trivial⟩, ?_⟩
    exact ⟨H.toOut0, World.ownsRow_nil _ _ _ _⟩
  · skip
    try simp only [decide_eq_true_eq, decide_eq_false_iff_not, ne_eq, Decidable.not_not, Bool.not_eq_true', Bool.not_eq_false', Bool.and_eq_true, Bool.or_eq_true, Bool.not_not, Bool.and_eq_false_iff, Bool.or_eq_false_iff, Int.not_lt, Int.not_le] at hc4
    refine WE.skip ?_
    refine WE.seq_reg ?_
    refine WL.buildSliceF (l0 := []) H rfl TryzT.st32 (by decide) (zrow_one _ _) Fl.nil rfl ?_
    intro b5 w1 H
    replace H := H.toOsl (n := 0) (sz := 1) (i := 0) rfl rfl (by decide)
    refine WL.mv rfl rfl ?_
    refine WL.append H 0 TryzT.st32 (by decide) rfl rfl rfl (H.p 0 rfl) (by exact kc_one _) (by omega) (by decide) rfl ?_
    intro v7 w2 H
    refine WL.as rfl rfl ?_
    refine WL.nil ?_
    refine WE.ret ?_
    refine ⟨[_], _, .nil _, ⟨rfl, trivial⟩, ?_⟩
    exact ⟨H.toOut0, by have := H.l 0 rfl; rw [Nat.zero_add] at this; exact this⟩

end Go.Sp.Tryz

