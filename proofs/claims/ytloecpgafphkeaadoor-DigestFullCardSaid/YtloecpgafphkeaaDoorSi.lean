/- Walks of functions, printed by a program of this session (gen.py) from notes on each function. -/
import Derived.Test.YtloecpgafphkeaaDoorSh
set_option maxRecDepth 100000
set_option maxHeartbeats 1000000
set_option linter.unusedVariables false
set_option linter.unusedSimpArgs false
namespace Go.Sp.Tryd
open Go.Proofs Go.RowKit Go.Sp

theorem cut3 (l : List UInt8) (p q : Nat) (h : p ≤ q) : [l.take p, (l.drop p).take (q - p), l.drop q].flatten = l := by
  have e : l.drop q = (l.drop p).drop (q - p) := by rw [List.drop_drop]; congr 1; omega
  simp only [List.flatten_cons, List.flatten_nil, List.append_nil, e]
  rw [List.take_append_drop, List.take_append_drop]
theorem SlL.nils (n : Nat) {w : World} : SlL (List.replicate n (.slice none 0 0)) (List.replicate n []) w :=
  ⟨by simp, fun i h h' => by simp; exact SlB.nil _⟩

theorem ShaPads_c {X : Nat → Prop} {w : World} {a : Value} {la : List UInt8} (hX : ∀ b, X b → b < w.heap.size) (hf0 : Rob X (SlB a la) w) (hf1 : Rob X (Rounds) w) (hla : la.length ≤ 9223372036854775807) :
    Ret Tryd.prog 3 [a].toArray w fun v w' => v = .bool true ∧ Out Nil w w' := by
  refine Ret.of_body (N := 26) Tryd.func3 rfl rfl (by simp) ?_
  have H := St.begin hX
  replace H := H.add (rob0 hf1)
  replace H := H.add (rob0 hf0)
  refine WE.seq_reg ?_
  refine WL.as rfl rfl ?_
  refine WL.nil ?_
  refine WE.seq ?_
  refine WE.seq_reg ?_
  refine WL.mv rfl rfl ?_
  first | refine WL.pv (PV.lenSl TrydT.sl22 rfl) rfl ?_ | refine WL.pv (PV.lenS (H.p 0 rfl) TrydT.sl22 rfl) rfl ?_ | refine WL.pv (PV.lenS (H.p 1 rfl) TrydT.sl22 rfl) rfl ?_ | refine WL.pv (PV.lenS (H.p 2 rfl) TrydT.sl22 rfl) rfl ?_ | refine WL.pv (PV.lenS (H.p 3 rfl) TrydT.sl22 rfl) rfl ?_ | refine WL.pv (PV.lenS (H.p 4 rfl) TrydT.sl22 rfl) rfl ?_ | refine WL.pv (PV.lenS (H.p 5 rfl) TrydT.sl22 rfl) rfl ?_ | refine WL.pv (PV.lenS (H.p 6 rfl) TrydT.sl22 rfl) rfl ?_ | refine WL.pv (PV.lenS (H.p 7 rfl) TrydT.sl22 rfl) rfl ?_
  refine WL.pv (PV.gtr rfl rfl rfl) rfl ?_
  refine WL.nil ?_
  refine WE.cond rfl (fun hc6 => ?_) (fun hc6 => ?_)
  · skip
    try simp only [decide_eq_true_eq, decide_eq_false_iff_not, ne_eq, Decidable.not_not, Bool.not_eq_true', Bool.not_eq_false', Bool.and_eq_true, Bool.or_eq_true, Bool.not_not, Bool.and_eq_false_iff, Bool.or_eq_false_iff, Int.not_lt, Int.not_le] at hc6
    refine WE.seq_reg ?_
    refine WL.call TrydT.fb13 rfl (alive04_c H.yylt (by first | exact H.rob 0 rfl | exact H.rob 1 rfl | exact H.rob 2 rfl | exact H.rob 3 rfl | exact H.rob 4 rfl | exact H.rob 5 rfl | exact H.rob 6 rfl | exact H.rob 7 rfl | exact (fun _ _ => SlB.nil _))) ?_
    rintro _ w1 ⟨rfl, hO⟩
    replace H := H.out hO
    refine WL.as rfl rfl ?_
    refine WL.nil ?_
    refine WE.ret ?_
    refine ⟨[_], _, .nil _, ⟨rfl, trivial⟩, ?_⟩
    exact ⟨rfl, H.toOut0⟩
  · skip
    try simp only [decide_eq_true_eq, decide_eq_false_iff_not, ne_eq, Decidable.not_not, Bool.not_eq_true', Bool.not_eq_false', Bool.and_eq_true, Bool.or_eq_true, Bool.not_not, Bool.and_eq_false_iff, Bool.or_eq_false_iff, Int.not_lt, Int.not_le] at hc6
    have hle : la.length ≤ 2000 := by omega
    have hT := padT (n := la.length) (by omega)
    have hz64 : zc la.length < 64 := by unfold zc; omega
    have hpl := padOf_length la
    refine WE.skip ?_
    refine WE.seq_reg ?_
    refine WL.mv rfl rfl ?_
    refine WL.call TrydT.fb14 rfl (Pad_c (la := la) H.yylt (H.rob 0 rfl) (by omega)) ?_
    rintro v9 w2 ⟨hO, hR⟩
    replace H := (H.out hO).add hR
    refine WL.as rfl rfl ?_
    refine WL.nil ?_
    refine WE.seq_reg ?_
    refine WL.call TrydT.fb13 rfl (alive04_c H.yylt (by first | exact H.rob 0 rfl | exact H.rob 1 rfl | exact H.rob 2 rfl | exact H.rob 3 rfl | exact H.rob 4 rfl | exact H.rob 5 rfl | exact H.rob 6 rfl | exact H.rob 7 rfl | exact (fun _ _ => SlB.nil _))) ?_
    rintro _ w3 ⟨rfl, hO⟩
    replace H := H.out hO
    refine WL.mv rfl rfl ?_
    refine WL.known (t := 11) (c := true) rfl (by simp) ?_
    refine WL.mv rfl rfl ?_
    refine WL.mv rfl rfl ?_
    refine WL.call TrydT.fb16 rfl (refPad_c (la := la) H.yylt (H.rob 1 rfl) (by omega)) ?_
    rintro v14 w4 ⟨hO, hR⟩
    replace H := (H.out hO).add hR
    refine WL.call TrydT.fb15 rfl (Same_c (la := padOf la) (lb := padOf la) H.yylt (by first | exact H.rob 0 rfl | exact H.rob 1 rfl | exact H.rob 2 rfl | exact H.rob 3 rfl | exact H.rob 4 rfl | exact H.rob 5 rfl | exact H.rob 6 rfl | exact H.rob 7 rfl | exact (fun _ _ => SlB.nil _)) (by first | exact H.rob 0 rfl | exact H.rob 1 rfl | exact H.rob 2 rfl | exact H.rob 3 rfl | exact H.rob 4 rfl | exact H.rob 5 rfl | exact H.rob 6 rfl | exact H.rob 7 rfl | exact (fun _ _ => SlB.nil _)) (by first | omega | simp [shaOf_length])) ?_
    rintro _ w5 ⟨rfl, hO⟩
    replace H := H.out hO
    first | refine WL.pv (PV.pick_t rfl rfl rfl) rfl ?_ | refine WL.pv (PV.pick_f rfl rfl rfl) rfl ?_ | refine WL.pv (PV.pick rfl rfl) rfl ?_
    refine WL.mv rfl rfl ?_
    refine WL.known (t := 17) (c := true) rfl (by simp) ?_
    refine WL.mv rfl rfl ?_
    first | refine WL.pv (PV.lenSl TrydT.sl22 rfl) rfl ?_ | refine WL.pv (PV.lenS (H.p 0 rfl) TrydT.sl22 rfl) rfl ?_ | refine WL.pv (PV.lenS (H.p 1 rfl) TrydT.sl22 rfl) rfl ?_ | refine WL.pv (PV.lenS (H.p 2 rfl) TrydT.sl22 rfl) rfl ?_ | refine WL.pv (PV.lenS (H.p 3 rfl) TrydT.sl22 rfl) rfl ?_ | refine WL.pv (PV.lenS (H.p 4 rfl) TrydT.sl22 rfl) rfl ?_ | refine WL.pv (PV.lenS (H.p 5 rfl) TrydT.sl22 rfl) rfl ?_ | refine WL.pv (PV.lenS (H.p 6 rfl) TrydT.sl22 rfl) rfl ?_ | refine WL.pv (PV.lenS (H.p 7 rfl) TrydT.sl22 rfl) rfl ?_
    refine WL.mv rfl rfl ?_
    first | refine WL.pv (PV.lenSl TrydT.sl22 rfl) rfl ?_ | refine WL.pv (PV.lenS (H.p 0 rfl) TrydT.sl22 rfl) rfl ?_ | refine WL.pv (PV.lenS (H.p 1 rfl) TrydT.sl22 rfl) rfl ?_ | refine WL.pv (PV.lenS (H.p 2 rfl) TrydT.sl22 rfl) rfl ?_ | refine WL.pv (PV.lenS (H.p 3 rfl) TrydT.sl22 rfl) rfl ?_ | refine WL.pv (PV.lenS (H.p 4 rfl) TrydT.sl22 rfl) rfl ?_ | refine WL.pv (PV.lenS (H.p 5 rfl) TrydT.sl22 rfl) rfl ?_ | refine WL.pv (PV.lenS (H.p 6 rfl) TrydT.sl22 rfl) rfl ?_ | refine WL.pv (PV.lenS (H.p 7 rfl) TrydT.sl22 rfl) rfl ?_
    refine WL.call TrydT.fb17 rfl (Blocks_c (n := (la.length : Int)) H.yylt (by omega)) ?_
    rintro _ w6 ⟨rfl, hO⟩
    replace H := H.out hO
    first | refine WL.pv (PV.mul64 rfl rfl rfl (by omega) (by omega)) rfl ?_ | refine WL.pv (PV.mulw rfl rfl rfl) rfl ?_
    refine WL.pv (PV.eql rfl rfl rfl) rfl ?_
    first | refine WL.pv (PV.pick_t rfl rfl rfl) rfl ?_ | refine WL.pv (PV.pick_f rfl rfl rfl) rfl ?_ | refine WL.pv (PV.pick rfl rfl) rfl ?_
    refine WL.as rfl rfl ?_
    refine WL.nil ?_
    refine WE.ret ?_
    refine ⟨[_], _, .nil _, ⟨rfl, trivial⟩, ?_⟩
    refine ⟨?_, H.toOut0⟩
    show Value.bool _ = Value.bool true
    first | rfl | (congr 1; first | (simp; done) | exact decide_eq_true (by omega) | (simp; omega))

theorem ShaBlocks_c {X : Nat → Prop} {w : World} {n : Int} (hX : ∀ b, X b → b < w.heap.size) (hf0 : Rob X (Rounds) w) (hn : -9223372036854775808 ≤ n ∧ n ≤ 9223372036854775807) :
    Ret Tryd.prog 4 [.int .i64 n].toArray w fun v w' => v = .bool true ∧ Out Nil w w' := by
  refine Ret.of_body (N := 37) Tryd.func4 rfl rfl (by simp) ?_
  have H := St.begin hX
  replace H := H.add (rob0 hf0)
  have hB : (n < 0 ∨ 1152921504606846976 < n) ∧ blocksOf n = 0 ∨ (0 ≤ n ∧ n ≤ 1152921504606846976) ∧ blocksOf n = (n + 72) / 64 := by unfold blocksOf; by_cases h : n < 0 ∨ 1152921504606846976 < n; exact .inl ⟨h, if_pos h⟩; exact .inr ⟨by omega, if_neg h⟩
  refine WE.seq_reg ?_
  refine WL.as rfl rfl ?_
  refine WL.nil ?_
  refine WE.seq_reg ?_
  refine WL.mv rfl rfl ?_
  refine WL.call TrydT.fb17 rfl (Blocks_c (n := n) H.yylt hn) ?_
  rintro _ w1 ⟨rfl, hO⟩
  replace H := H.out hO
  refine WL.as rfl rfl ?_
  refine WL.nil ?_
  refine WE.seq ?_
  refine WE.seq_reg ?_
  refine WL.mv rfl rfl ?_
  refine WL.pv (PV.lss rfl rfl rfl) rfl ?_
  refine WL.mv rfl rfl ?_
  refine WL.split (t := 8) rfl (fun hg8 => ?_) (fun hg8 => ?_)
  · skip
    try simp only [decide_eq_true_eq, decide_eq_false_iff_not, ne_eq, Decidable.not_not, Bool.not_eq_true', Bool.not_eq_false', Bool.and_eq_true, Bool.or_eq_true, Bool.not_not, Bool.and_eq_false_iff, Bool.or_eq_false_iff, Int.not_lt, Int.not_le] at hg8
    refine WL.off rfl ?_
    refine WL.off rfl ?_
    first | refine WL.pv (PV.pick_t rfl rfl rfl) rfl ?_ | refine WL.pv (PV.pick_f rfl rfl rfl) rfl ?_ | refine WL.pv (PV.pick rfl rfl) rfl ?_
    refine WL.nil ?_
    refine WE.cond_t rfl ?_
    refine WE.seq_reg ?_
    refine WL.call TrydT.fb13 rfl (alive04_c H.yylt (by first | exact H.rob 0 rfl | exact H.rob 1 rfl | exact H.rob 2 rfl | exact H.rob 3 rfl | exact H.rob 4 rfl | exact H.rob 5 rfl | exact H.rob 6 rfl | exact H.rob 7 rfl | exact (fun _ _ => SlB.nil _))) ?_
    rintro _ w2 ⟨rfl, hO⟩
    replace H := H.out hO
    refine WL.mv rfl rfl ?_
    refine WL.known (t := 13) (c := true) rfl (by first | rfl | exact decide_eq_true (by omega)) ?_
    refine WL.mv rfl rfl ?_
    refine WL.pv (PV.eql rfl rfl rfl) rfl ?_
    first | refine WL.pv (PV.pick_t rfl rfl rfl) rfl ?_ | refine WL.pv (PV.pick_f rfl rfl rfl) rfl ?_ | refine WL.pv (PV.pick rfl rfl) rfl ?_
    refine WL.as rfl rfl ?_
    refine WL.nil ?_
    refine WE.ret ?_
    refine ⟨[_], _, .nil _, ⟨rfl, trivial⟩, ?_⟩
    refine ⟨?_, H.toOut0⟩
    show Value.bool _ = Value.bool true
    first | rfl | (congr 1; first | (simp; done) | exact decide_eq_true (by omega) | (simp; omega))
  · skip
    try simp only [decide_eq_true_eq, decide_eq_false_iff_not, ne_eq, Decidable.not_not, Bool.not_eq_true', Bool.not_eq_false', Bool.and_eq_true, Bool.or_eq_true, Bool.not_not, Bool.and_eq_false_iff, Bool.or_eq_false_iff, Int.not_lt, Int.not_le] at hg8
    refine WL.mv rfl rfl ?_
    refine WL.pv (PV.gtr rfl rfl rfl) rfl ?_
    first | refine WL.pv (PV.pick_t rfl rfl rfl) rfl ?_ | refine WL.pv (PV.pick_f rfl rfl rfl) rfl ?_ | refine WL.pv (PV.pick rfl rfl) rfl ?_
    refine WL.nil ?_
    refine WE.cond rfl (fun hc11 => ?_) (fun hc11 => ?_)
    · skip
      try simp only [decide_eq_true_eq, decide_eq_false_iff_not, ne_eq, Decidable.not_not, Bool.not_eq_true', Bool.not_eq_false', Bool.and_eq_true, Bool.or_eq_true, Bool.not_not, Bool.and_eq_false_iff, Bool.or_eq_false_iff, Int.not_lt, Int.not_le] at hc11
      refine WE.seq_reg ?_
      refine WL.call TrydT.fb13 rfl (alive04_c H.yylt (by first | exact H.rob 0 rfl | exact H.rob 1 rfl | exact H.rob 2 rfl | exact H.rob 3 rfl | exact H.rob 4 rfl | exact H.rob 5 rfl | exact H.rob 6 rfl | exact H.rob 7 rfl | exact (fun _ _ => SlB.nil _))) ?_
      rintro _ w3 ⟨rfl, hO⟩
      replace H := H.out hO
      refine WL.mv rfl rfl ?_
      refine WL.known (t := 13) (c := true) rfl (by first | rfl | exact decide_eq_true (by omega)) ?_
      refine WL.mv rfl rfl ?_
      refine WL.pv (PV.eql rfl rfl rfl) rfl ?_
      first | refine WL.pv (PV.pick_t rfl rfl rfl) rfl ?_ | refine WL.pv (PV.pick_f rfl rfl rfl) rfl ?_ | refine WL.pv (PV.pick rfl rfl) rfl ?_
      refine WL.as rfl rfl ?_
      refine WL.nil ?_
      refine WE.ret ?_
      refine ⟨[_], _, .nil _, ⟨rfl, trivial⟩, ?_⟩
      refine ⟨?_, H.toOut0⟩
      show Value.bool _ = Value.bool true
      first | rfl | (congr 1; first | (simp; done) | exact decide_eq_true (by omega) | (simp; omega))
    · skip
      try simp only [decide_eq_true_eq, decide_eq_false_iff_not, ne_eq, Decidable.not_not, Bool.not_eq_true', Bool.not_eq_false', Bool.and_eq_true, Bool.or_eq_true, Bool.not_not, Bool.and_eq_false_iff, Bool.or_eq_false_iff, Int.not_lt, Int.not_le] at hc11
      refine WE.skip ?_
      refine WE.seq_reg ?_
      refine WL.call TrydT.fb13 rfl (alive04_c H.yylt (by first | exact H.rob 0 rfl | exact H.rob 1 rfl | exact H.rob 2 rfl | exact H.rob 3 rfl | exact H.rob 4 rfl | exact H.rob 5 rfl | exact H.rob 6 rfl | exact H.rob 7 rfl | exact (fun _ _ => SlB.nil _))) ?_
      rintro _ w4 ⟨rfl, hO⟩
      replace H := H.out hO
      refine WL.mv rfl rfl ?_
      refine WL.known (t := 18) (c := true) rfl (by first | rfl | exact decide_eq_true (by omega)) ?_
      refine WL.mv rfl rfl ?_
      refine WL.pv (PV.geq rfl rfl rfl) rfl ?_
      first | refine WL.pv (PV.pick_t rfl rfl rfl) rfl ?_ | refine WL.pv (PV.pick_f rfl rfl rfl) rfl ?_ | refine WL.pv (PV.pick rfl rfl) rfl ?_
      refine WL.mv rfl rfl ?_
      refine WL.known (t := 22) (c := true) rfl (by first | rfl | exact decide_eq_true (by omega)) ?_
      refine WL.mv rfl rfl ?_
      first | refine WL.pv (PV.mul64 rfl rfl rfl (by omega) (by omega)) rfl ?_ | refine WL.pv (PV.mulw rfl rfl rfl) rfl ?_
      refine WL.mv rfl rfl ?_
      first | refine WL.pv (PV.add64 rfl rfl rfl (by omega) (by omega)) rfl ?_ | refine WL.pv (PV.addw rfl rfl rfl) rfl ?_
      refine WL.pv (PV.geq rfl rfl rfl) rfl ?_
      first | refine WL.pv (PV.pick_t rfl rfl rfl) rfl ?_ | refine WL.pv (PV.pick_f rfl rfl rfl) rfl ?_ | refine WL.pv (PV.pick rfl rfl) rfl ?_
      refine WL.mv rfl rfl ?_
      refine WL.known (t := 29) (c := true) rfl (by first | rfl | exact decide_eq_true (by omega)) ?_
      refine WL.mv rfl rfl ?_
      first | refine WL.pv (PV.sub64 rfl rfl rfl (by omega) (by omega)) rfl ?_ | refine WL.pv (PV.subw rfl rfl rfl) rfl ?_
      first | refine WL.pv (PV.mul64 rfl rfl rfl (by omega) (by omega)) rfl ?_ | refine WL.pv (PV.mulw rfl rfl rfl) rfl ?_
      refine WL.mv rfl rfl ?_
      first | refine WL.pv (PV.add64 rfl rfl rfl (by omega) (by omega)) rfl ?_ | refine WL.pv (PV.addw rfl rfl rfl) rfl ?_
      refine WL.pv (PV.lss rfl rfl rfl) rfl ?_
      first | refine WL.pv (PV.pick_t rfl rfl rfl) rfl ?_ | refine WL.pv (PV.pick_f rfl rfl rfl) rfl ?_ | refine WL.pv (PV.pick rfl rfl) rfl ?_
      refine WL.as rfl rfl ?_
      refine WL.nil ?_
      refine WE.ret ?_
      refine ⟨[_], _, .nil _, ⟨rfl, trivial⟩, ?_⟩
      refine ⟨?_, H.toOut0⟩
      show Value.bool _ = Value.bool true
      first | rfl | (congr 1; first | (simp; done) | exact decide_eq_true (by omega) | (simp; omega))

theorem ShaJoins_c {X : Nat → Prop} {w : World} {a : Value} {la : List UInt8} {i j : Int} (hX : ∀ b, X b → b < w.heap.size) (hf0 : Rob X (SlB a la) w) (hf1 : Rob X (Rounds) w) (hla : la.length ≤ 9223372036854775807) (hi : 0 ≤ i ∧ i ≤ 65535) (hj : 0 ≤ j ∧ j ≤ 65535) :
    Ret Tryd.prog 5 [a, .int .u16 i, .int .u16 j].toArray w fun v w' => v = .bool true ∧ Out Nil w w' := by
  refine Ret.of_body (N := 65) Tryd.func5 rfl rfl (by simp) ?_
  have H := St.begin hX
  replace H := H.add (rob0 hf1)
  replace H := H.add (rob0 hf0)
  refine WE.seq_reg ?_
  refine WL.as rfl rfl ?_
  refine WL.nil ?_
  refine WE.seq ?_
  refine WE.seq_reg ?_
  refine WL.mv rfl rfl ?_
  first | refine WL.pv (PV.lenSl TrydT.sl22 rfl) rfl ?_ | refine WL.pv (PV.lenS (H.p 0 rfl) TrydT.sl22 rfl) rfl ?_ | refine WL.pv (PV.lenS (H.p 1 rfl) TrydT.sl22 rfl) rfl ?_ | refine WL.pv (PV.lenS (H.p 2 rfl) TrydT.sl22 rfl) rfl ?_ | refine WL.pv (PV.lenS (H.p 3 rfl) TrydT.sl22 rfl) rfl ?_ | refine WL.pv (PV.lenS (H.p 4 rfl) TrydT.sl22 rfl) rfl ?_ | refine WL.pv (PV.lenS (H.p 5 rfl) TrydT.sl22 rfl) rfl ?_ | refine WL.pv (PV.lenS (H.p 6 rfl) TrydT.sl22 rfl) rfl ?_ | refine WL.pv (PV.lenS (H.p 7 rfl) TrydT.sl22 rfl) rfl ?_ | refine WL.pv (PV.lenS (H.p 8 rfl) TrydT.sl22 rfl) rfl ?_ | refine WL.pv (PV.lenS (H.p 9 rfl) TrydT.sl22 rfl) rfl ?_ | refine WL.pv (PV.lenS (H.p 10 rfl) TrydT.sl22 rfl) rfl ?_ | refine WL.pv (PV.lenS (H.p 11 rfl) TrydT.sl22 rfl) rfl ?_
  refine WL.pv (PV.gtr rfl rfl rfl) rfl ?_
  refine WL.nil ?_
  refine WE.cond rfl (fun hc12 => ?_) (fun hc12 => ?_)
  · skip
    try simp only [decide_eq_true_eq, decide_eq_false_iff_not, ne_eq, Decidable.not_not, Bool.not_eq_true', Bool.not_eq_false', Bool.and_eq_true, Bool.or_eq_true, Bool.not_not, Bool.and_eq_false_iff, Bool.or_eq_false_iff, Int.not_lt, Int.not_le] at hc12
    refine WE.seq_reg ?_
    refine WL.call TrydT.fb13 rfl (alive04_c H.yylt (by first | exact H.rob 0 rfl | exact H.rob 1 rfl | exact H.rob 2 rfl | exact H.rob 3 rfl | exact H.rob 4 rfl | exact H.rob 5 rfl | exact H.rob 6 rfl | exact H.rob 7 rfl | exact (fun _ _ => SlB.nil _))) ?_
    rintro _ w1 ⟨rfl, hO⟩
    replace H := H.out hO
    refine WL.as rfl rfl ?_
    refine WL.nil ?_
    refine WE.ret ?_
    refine ⟨[_], _, .nil _, ⟨rfl, trivial⟩, ?_⟩
    exact ⟨rfl, H.toOut0⟩
  · skip
    try simp only [decide_eq_true_eq, decide_eq_false_iff_not, ne_eq, Decidable.not_not, Bool.not_eq_true', Bool.not_eq_false', Bool.and_eq_true, Bool.or_eq_true, Bool.not_not, Bool.and_eq_false_iff, Bool.or_eq_false_iff, Int.not_lt, Int.not_le] at hc12
    have hle : la.length ≤ 2000 := by omega
    have hi1 := Int.emod_nonneg i (show (la.length : Int) + 1 ≠ 0 by omega)
    have hi2 := Int.emod_lt_of_pos i (show 0 < (la.length : Int) + 1 by omega)
    have hj1 := Int.emod_nonneg j (show (la.length : Int) + 1 ≠ 0 by omega)
    have hj2 := Int.emod_lt_of_pos j (show 0 < (la.length : Int) + 1 by omega)
    obtain ⟨x, hx⟩ : ∃ x : Nat, i % ((la.length : Int) + 1) = (x : Int) := ⟨_, (Int.toNat_of_nonneg hi1).symm⟩
    obtain ⟨y, hy⟩ : ∃ y : Nat, j % ((la.length : Int) + 1) = (y : Int) := ⟨_, (Int.toNat_of_nonneg hj1).symm⟩
    obtain ⟨p, hp⟩ : ∃ p : Nat, min (x : Int) (y : Int) = (p : Int) := ⟨min x y, by omega⟩
    obtain ⟨q, hq⟩ : ∃ q : Nat, max (x : Int) (y : Int) = (q : Int) := ⟨max x y, by omega⟩
    have hpq : p ≤ q ∧ q ≤ la.length := by omega
    have hfl := cut3 la p q hpq.1
    refine WE.skip ?_
    refine WE.seq_draw (.take 0 (.take 1 (.take 2 (.take 3 (.take 4 (.take 5 (.take 6 (.take 7 (.take 8 (.take 9 (.take 10 (.take 11 (.take 12 (.take 13 .done)))))))))))))) TrydT.mixed (by kernel_rfl) ?_
    replace H := H.out (Out.drew _)
    refine WP.mv rfl rfl rfl ?_
    first | refine WP.take_pure rfl rfl (PV.conv64 rfl TrydT.in29 TrydT.in3 rfl (by omega) (by omega)) ?_ | refine WP.take_pure rfl rfl (PV.conv rfl TrydT.in29 TrydT.in3 rfl) ?_
    refine WP.mv rfl rfl rfl ?_
    first | refine WP.take_pure rfl rfl (PV.lenSl TrydT.sl22 rfl) ?_ | refine WP.take_pure rfl rfl (PV.lenS (H.p 0 rfl) TrydT.sl22 rfl) ?_ | refine WP.take_pure rfl rfl (PV.lenS (H.p 1 rfl) TrydT.sl22 rfl) ?_ | refine WP.take_pure rfl rfl (PV.lenS (H.p 2 rfl) TrydT.sl22 rfl) ?_ | refine WP.take_pure rfl rfl (PV.lenS (H.p 3 rfl) TrydT.sl22 rfl) ?_ | refine WP.take_pure rfl rfl (PV.lenS (H.p 4 rfl) TrydT.sl22 rfl) ?_ | refine WP.take_pure rfl rfl (PV.lenS (H.p 5 rfl) TrydT.sl22 rfl) ?_ | refine WP.take_pure rfl rfl (PV.lenS (H.p 6 rfl) TrydT.sl22 rfl) ?_ | refine WP.take_pure rfl rfl (PV.lenS (H.p 7 rfl) TrydT.sl22 rfl) ?_ | refine WP.take_pure rfl rfl (PV.lenS (H.p 8 rfl) TrydT.sl22 rfl) ?_ | refine WP.take_pure rfl rfl (PV.lenS (H.p 9 rfl) TrydT.sl22 rfl) ?_ | refine WP.take_pure rfl rfl (PV.lenS (H.p 10 rfl) TrydT.sl22 rfl) ?_ | refine WP.take_pure rfl rfl (PV.lenS (H.p 11 rfl) TrydT.sl22 rfl) ?_
    first | refine WP.take_pure rfl rfl (PV.add64 rfl rfl rfl (by omega) (by omega)) ?_ | refine WP.take_pure rfl rfl (PV.addw rfl rfl rfl) ?_
    refine WP.take_pure rfl rfl (PV.eq (v' := .int .i64 (x : Int)) (PV.rem64 rfl rfl rfl (by omega) (by omega)) (congrArg _ hx)) ?_
    refine WP.mv rfl rfl rfl ?_
    first | refine WP.take_pure rfl rfl (PV.conv64 rfl TrydT.in29 TrydT.in3 rfl (by omega) (by omega)) ?_ | refine WP.take_pure rfl rfl (PV.conv rfl TrydT.in29 TrydT.in3 rfl) ?_
    refine WP.mv rfl rfl rfl ?_
    first | refine WP.take_pure rfl rfl (PV.lenSl TrydT.sl22 rfl) ?_ | refine WP.take_pure rfl rfl (PV.lenS (H.p 0 rfl) TrydT.sl22 rfl) ?_ | refine WP.take_pure rfl rfl (PV.lenS (H.p 1 rfl) TrydT.sl22 rfl) ?_ | refine WP.take_pure rfl rfl (PV.lenS (H.p 2 rfl) TrydT.sl22 rfl) ?_ | refine WP.take_pure rfl rfl (PV.lenS (H.p 3 rfl) TrydT.sl22 rfl) ?_ | refine WP.take_pure rfl rfl (PV.lenS (H.p 4 rfl) TrydT.sl22 rfl) ?_ | refine WP.take_pure rfl rfl (PV.lenS (H.p 5 rfl) TrydT.sl22 rfl) ?_ | refine WP.take_pure rfl rfl (PV.lenS (H.p 6 rfl) TrydT.sl22 rfl) ?_ | refine WP.take_pure rfl rfl (PV.lenS (H.p 7 rfl) TrydT.sl22 rfl) ?_ | refine WP.take_pure rfl rfl (PV.lenS (H.p 8 rfl) TrydT.sl22 rfl) ?_ | refine WP.take_pure rfl rfl (PV.lenS (H.p 9 rfl) TrydT.sl22 rfl) ?_ | refine WP.take_pure rfl rfl (PV.lenS (H.p 10 rfl) TrydT.sl22 rfl) ?_ | refine WP.take_pure rfl rfl (PV.lenS (H.p 11 rfl) TrydT.sl22 rfl) ?_
    first | refine WP.take_pure rfl rfl (PV.add64 rfl rfl rfl (by omega) (by omega)) ?_ | refine WP.take_pure rfl rfl (PV.addw rfl rfl rfl) ?_
    refine WP.take_pure rfl rfl (PV.eq (v' := .int .i64 (y : Int)) (PV.rem64 rfl rfl rfl (by omega) (by omega)) (congrArg _ hy)) ?_
    refine WP.as rfl rfl rfl ?_
    refine WP.as rfl rfl rfl ?_
    refine WP.done ?_
    refine WE.seq_reg ?_
    refine WL.mv rfl rfl ?_
    refine WL.mv rfl rfl ?_
    refine WL.pv (PV.eq (v' := .int .i64 (p : Int)) (PV.minI rfl rfl) (congrArg _ hp)) rfl ?_
    refine WL.mv rfl rfl ?_
    refine WL.mv rfl rfl ?_
    refine WL.pv (PV.eq (v' := .int .i64 (q : Int)) (PV.maxI rfl rfl) (congrArg _ hq)) rfl ?_
    refine WL.as rfl rfl ?_
    refine WL.as rfl rfl ?_
    refine WL.nil ?_
    refine WE.seq_reg ?_
    refine WL.mv rfl rfl ?_
    refine WL.call TrydT.fb18 rfl (refSum_c (la := la) H.yylt (H.rob 0 rfl) (by omega)) ?_
    rintro _ w2 ⟨rfl, hO⟩
    replace H := H.out hO
    refine WL.alloc H rfl TrydT.ze31 rfl ?_
    intro b9 w3 H
    first | refine WL.storeL H 0 rfl rfl rfl (new := _) rfl (by first | exact TrydT.sz31 | (rw [TrydT.sz31]; simp [kc_length, kw_length, *])) (by first | exact kc_one _ | exact kw_one _ | exact one_append (kc_one _) (kc_one _) | exact one_lit _ rfl | exact one_append (kc_one _) (one_lit _ rfl)) (Laid.at (Laid.all (by first | rfl | (simp only [kc_length, kw_length, List.length_replicate]; omega) | (simp [kc_length, kw_length]; omega) | (simp [kc_length, kw_length, *]))) (by first | rfl | (simp; done) | (simp [kc_length, kw_length, *]; done) | omega)) rfl ?_ | refine WL.storeL H 1 rfl rfl rfl (new := _) rfl (by first | exact TrydT.sz31 | (rw [TrydT.sz31]; simp [kc_length, kw_length, *])) (by first | exact kc_one _ | exact kw_one _ | exact one_append (kc_one _) (kc_one _) | exact one_lit _ rfl | exact one_append (kc_one _) (one_lit _ rfl)) (Laid.at (Laid.all (by first | rfl | (simp only [kc_length, kw_length, List.length_replicate]; omega) | (simp [kc_length, kw_length]; omega) | (simp [kc_length, kw_length, *]))) (by first | rfl | (simp; done) | (simp [kc_length, kw_length, *]; done) | omega)) rfl ?_ | refine WL.storeL H 2 rfl rfl rfl (new := _) rfl (by first | exact TrydT.sz31 | (rw [TrydT.sz31]; simp [kc_length, kw_length, *])) (by first | exact kc_one _ | exact kw_one _ | exact one_append (kc_one _) (kc_one _) | exact one_lit _ rfl | exact one_append (kc_one _) (one_lit _ rfl)) (Laid.at (Laid.all (by first | rfl | (simp only [kc_length, kw_length, List.length_replicate]; omega) | (simp [kc_length, kw_length]; omega) | (simp [kc_length, kw_length, *]))) (by first | rfl | (simp; done) | (simp [kc_length, kw_length, *]; done) | omega)) rfl ?_
    intro w4 H
    refine WL.nil ?_
    refine WE.seq_draw (.pick1 0 (.take 1 (.take 2 (.take 3 (.take 4 (.take 5 (.take 6 (.take 7 (.take 8 (.take 9 (.take 10 (.take 11 (.take 14 (.pick1 12 (.pick1 13 (.take 15 (.take 16 (.take 17 (.take 18 (.take 21 (.pick1 19 (.pick1 20 (.take 22 (.take 23 (.take 24 (.take 25 (.take 28 (.pick1 26 (.pick1 27 (.take 29 (.take 30 (.take 31 .done)))))))))))))))))))))))))))))))) TrydT.mixed (by kernel_rfl) ?_
    replace H := H.out (Out.drew _)
    refine WP.pick1 rfl ?_
    refine WL.call TrydT.fb13 rfl (alive04_c H.yylt (by first | exact H.rob 0 rfl | exact H.rob 1 rfl | exact H.rob 2 rfl | exact H.rob 3 rfl | exact H.rob 4 rfl | exact H.rob 5 rfl | exact H.rob 6 rfl | exact H.rob 7 rfl | exact (fun _ _ => SlB.nil _))) ?_
    rintro _ w5 ⟨rfl, hO⟩
    replace H := H.out hO
    refine WL.nil ⟨(fun _ h => by cases h), ?_⟩
    refine WP.mv rfl rfl rfl ?_
    refine WP.known (t := 35) (c := true) rfl (by first | rfl | simp [hfl] | simp) ?_
    refine WP.mv rfl rfl rfl ?_
    refine WP.mv rfl rfl rfl ?_
    refine WP.take_pure rfl rfl (PV.eq (v' := subSl a 1 0 p) (PV.subH rfl (H.p 0 rfl) TrydT.sl22 TrydT.sz5 rfl rfl (by omega) (by omega)) rfl) ?_
    refine WP.mv rfl rfl rfl ?_
    refine WP.mv rfl rfl rfl ?_
    refine WP.mv rfl rfl rfl ?_
    refine WP.take_pure rfl rfl (PV.eq (v' := subSl a 1 p q) (PV.subLH rfl (H.p 0 rfl) TrydT.sl22 TrydT.sz5 rfl rfl rfl (by omega) (by omega)) rfl) ?_
    refine WP.mv rfl rfl rfl ?_
    refine WP.mv rfl rfl rfl ?_
    refine WP.take_pure rfl rfl (PV.eq (v' := subSl a 1 q la.length) (PV.subL rfl (H.p 0 rfl) TrydT.sl22 TrydT.sz5 rfl rfl (by omega) (by omega)) rfl) ?_
    refine WP.readA rfl rfl rfl TrydT.ag31 rfl (by first | exact Blk.segAt (H.l 0 rfl) (Seg.all _) (by first | rfl | (simp; done) | (simp [kc_length, kw_length, *]; done) | omega) | exact Blk.segAt (H.l 1 rfl) (Seg.all _) (by first | rfl | (simp; done) | (simp [kc_length, kw_length, *]; done) | omega) | exact Blk.segAt (H.l 2 rfl) (Seg.all _) (by first | rfl | (simp; done) | (simp [kc_length, kw_length, *]; done) | omega) | exact Blk.segAt (H.p 0 rfl) (Seg.all _) (by first | rfl | (simp; done) | (simp [kc_length, kw_length, *]; done) | omega) | exact Blk.segAt (H.p 1 rfl) (Seg.all _) (by first | rfl | (simp; done) | (simp [kc_length, kw_length, *]; done) | omega) | exact Blk.segAt (H.p 2 rfl) (Seg.all _) (by first | rfl | (simp; done) | (simp [kc_length, kw_length, *]; done) | omega) | exact Blk.segAt (H.p 3 rfl) (Seg.all _) (by first | rfl | (simp; done) | (simp [kc_length, kw_length, *]; done) | omega) | exact Blk.segAt (H.p 4 rfl) (Seg.all _) (by first | rfl | (simp; done) | (simp [kc_length, kw_length, *]; done) | omega) | exact Blk.segAt (H.p 5 rfl) (Seg.all _) (by first | rfl | (simp; done) | (simp [kc_length, kw_length, *]; done) | omega) | exact Blk.segAt (H.p 6 rfl) (Seg.all _) (by first | rfl | (simp; done) | (simp [kc_length, kw_length, *]; done) | omega) | exact Blk.segAt (H.p 7 rfl) (Seg.all _) (by first | rfl | (simp; done) | (simp [kc_length, kw_length, *]; done) | omega) | exact Blk.segAt (H.p 8 rfl) (Seg.all _) (by first | rfl | (simp; done) | (simp [kc_length, kw_length, *]; done) | omega) | exact Blk.segAt (H.p 9 rfl) (Seg.all _) (by first | rfl | (simp; done) | (simp [kc_length, kw_length, *]; done) | omega)) (by first | exact TrydT.sz31 | (rw [TrydT.sz31]; simp [kc_length, kw_length, *])) ?_
    refine WP.pick1 rfl ?_
    refine WL.buildSliceF (l0 := [.slice none 0 0, .slice none 0 0, .slice none 0 0]) H rfl TrydT.st35 (by decide) (zrow_one _ _) (Fl.cons rfl (SlC.cells (SlB.sub (lo := 0) (hi := p) (H.p 0 rfl) (by omega) (by omega))) (by first | rfl | (simp only [kc_length, kw_length, List.length_replicate]; omega) | (simp [kc_length, kw_length]; omega) | (simp [kc_length, kw_length, *])) Laid.head (Fl.cons rfl (SlC.cells (SlB.sub (lo := p) (hi := q) (H.p 0 rfl) (by omega) (by omega))) (by first | rfl | (simp only [kc_length, kw_length, List.length_replicate]; omega) | (simp [kc_length, kw_length]; omega) | (simp [kc_length, kw_length, *])) (Laid.tail Laid.head rfl) (Fl.cons rfl (SlC.cells (SlB.sub (lo := q) (hi := la.length) (H.p 0 rfl) (by omega) (by omega))) (by first | rfl | (simp only [kc_length, kw_length, List.length_replicate]; omega) | (simp [kc_length, kw_length]; omega) | (simp [kc_length, kw_length, *])) (Laid.tail (Laid.tail Laid.head rfl) rfl) Fl.nil))) rfl ?_
    intro b46 w6 H
    replace H := H.freeze (i := 0) rfl
    replace H := H.add ((H.rob 1 rfl).imp fun _ h => SlL.cons (by have := SlB.sub (lo := 0) (hi := p) h (by omega) (by omega); simpa using this) (SlL.cons (SlB.sub (lo := p) (hi := q) h (by omega) (by omega)) (SlL.cons (by have := SlB.sub (lo := q) (hi := la.length) h (by omega) (by omega); rw [List.take_of_length_le (by simp)] at this; exact this) (SlL.nil _))))
    replace H := H.add ((H.rob 1 rfl).imp fun _ h => SlV.of_blk h rfl)
    refine WL.nil ⟨(List.forall_mem_cons.2 ⟨(fun _ _ => (by first | exact Blk.segAt (H.l 0 rfl) (Seg.all _) (by first | rfl | (simp; done) | (simp [kc_length, kw_length, *]; done) | omega) | exact Blk.segAt (H.l 1 rfl) (Seg.all _) (by first | rfl | (simp; done) | (simp [kc_length, kw_length, *]; done) | omega) | exact Blk.segAt (H.l 2 rfl) (Seg.all _) (by first | rfl | (simp; done) | (simp [kc_length, kw_length, *]; done) | omega) | exact Blk.segAt (H.p 0 rfl) (Seg.all _) (by first | rfl | (simp; done) | (simp [kc_length, kw_length, *]; done) | omega) | exact Blk.segAt (H.p 1 rfl) (Seg.all _) (by first | rfl | (simp; done) | (simp [kc_length, kw_length, *]; done) | omega) | exact Blk.segAt (H.p 2 rfl) (Seg.all _) (by first | rfl | (simp; done) | (simp [kc_length, kw_length, *]; done) | omega) | exact Blk.segAt (H.p 3 rfl) (Seg.all _) (by first | rfl | (simp; done) | (simp [kc_length, kw_length, *]; done) | omega) | exact Blk.segAt (H.p 4 rfl) (Seg.all _) (by first | rfl | (simp; done) | (simp [kc_length, kw_length, *]; done) | omega) | exact Blk.segAt (H.p 5 rfl) (Seg.all _) (by first | rfl | (simp; done) | (simp [kc_length, kw_length, *]; done) | omega) | exact Blk.segAt (H.p 6 rfl) (Seg.all _) (by first | rfl | (simp; done) | (simp [kc_length, kw_length, *]; done) | omega) | exact Blk.segAt (H.p 7 rfl) (Seg.all _) (by first | rfl | (simp; done) | (simp [kc_length, kw_length, *]; done) | omega) | exact Blk.segAt (H.p 8 rfl) (Seg.all _) (by first | rfl | (simp; done) | (simp [kc_length, kw_length, *]; done) | omega) | exact Blk.segAt (H.p 9 rfl) (Seg.all _) (by first | rfl | (simp; done) | (simp [kc_length, kw_length, *]; done) | omega))), (fun _ h => by cases h)⟩), ?_⟩
    refine WP.pick1 rfl ?_
    refine WL.call TrydT.fb19 rfl (Join_c (ls := [la.take p, (la.drop p).take (q - p), la.drop q]) H.yylt (H.rob 0 rfl) (H.rob 1 rfl) (by first | exact H.rob 0 rfl | exact H.rob 1 rfl | exact H.rob 2 rfl | exact H.rob 3 rfl | exact H.rob 4 rfl | exact H.rob 5 rfl | exact H.rob 6 rfl | exact H.rob 7 rfl | exact H.rob 8 rfl | exact H.rob 9 rfl | exact H.rob 10 rfl | exact H.rob 11 rfl | exact (fun _ _ => SlB.nil _)) (by simp) (by rw [hfl]; omega)) ?_
    rintro _ w7 ⟨rfl, hO⟩
    replace H := H.out hO
    refine WL.nil ⟨(List.forall_mem_cons.2 ⟨(fun _ _ => (by first | exact Blk.segAt (H.l 0 rfl) (Seg.all _) (by first | rfl | (simp; done) | (simp [kc_length, kw_length, *]; done) | omega) | exact Blk.segAt (H.l 1 rfl) (Seg.all _) (by first | rfl | (simp; done) | (simp [kc_length, kw_length, *]; done) | omega) | exact Blk.segAt (H.l 2 rfl) (Seg.all _) (by first | rfl | (simp; done) | (simp [kc_length, kw_length, *]; done) | omega) | exact Blk.segAt (H.p 0 rfl) (Seg.all _) (by first | rfl | (simp; done) | (simp [kc_length, kw_length, *]; done) | omega) | exact Blk.segAt (H.p 1 rfl) (Seg.all _) (by first | rfl | (simp; done) | (simp [kc_length, kw_length, *]; done) | omega) | exact Blk.segAt (H.p 2 rfl) (Seg.all _) (by first | rfl | (simp; done) | (simp [kc_length, kw_length, *]; done) | omega) | exact Blk.segAt (H.p 3 rfl) (Seg.all _) (by first | rfl | (simp; done) | (simp [kc_length, kw_length, *]; done) | omega) | exact Blk.segAt (H.p 4 rfl) (Seg.all _) (by first | rfl | (simp; done) | (simp [kc_length, kw_length, *]; done) | omega) | exact Blk.segAt (H.p 5 rfl) (Seg.all _) (by first | rfl | (simp; done) | (simp [kc_length, kw_length, *]; done) | omega) | exact Blk.segAt (H.p 6 rfl) (Seg.all _) (by first | rfl | (simp; done) | (simp [kc_length, kw_length, *]; done) | omega) | exact Blk.segAt (H.p 7 rfl) (Seg.all _) (by first | rfl | (simp; done) | (simp [kc_length, kw_length, *]; done) | omega) | exact Blk.segAt (H.p 8 rfl) (Seg.all _) (by first | rfl | (simp; done) | (simp [kc_length, kw_length, *]; done) | omega) | exact Blk.segAt (H.p 9 rfl) (Seg.all _) (by first | rfl | (simp; done) | (simp [kc_length, kw_length, *]; done) | omega))), (fun _ h => by cases h)⟩), ?_⟩
    refine WP.take_pure rfl rfl (PV.eqlB rfl TrydT.ar31 TrydT.in5 TrydT.sz5 (by kernel_rfl) rfl rfl (by first | assumption | exact shaOf_length _ | simp [*]) (by first | assumption | exact shaOf_length _ | simp [*])) ?_
    first | refine WP.take_pure rfl rfl (PV.pick_t rfl rfl rfl) ?_ | refine WP.take_pure rfl rfl (PV.pick_f rfl rfl rfl) ?_ | refine WP.take_pure rfl rfl (PV.pick rfl rfl) ?_
    refine WP.mv rfl rfl rfl ?_
    refine WP.known (t := 51) (c := true) rfl (by first | rfl | simp [hfl] | simp) ?_
    refine WP.mv rfl rfl rfl ?_
    refine WP.readA rfl rfl rfl TrydT.ag31 rfl (by first | exact Blk.segAt (H.l 0 rfl) (Seg.all _) (by first | rfl | (simp; done) | (simp [kc_length, kw_length, *]; done) | omega) | exact Blk.segAt (H.l 1 rfl) (Seg.all _) (by first | rfl | (simp; done) | (simp [kc_length, kw_length, *]; done) | omega) | exact Blk.segAt (H.l 2 rfl) (Seg.all _) (by first | rfl | (simp; done) | (simp [kc_length, kw_length, *]; done) | omega) | exact Blk.segAt (H.p 0 rfl) (Seg.all _) (by first | rfl | (simp; done) | (simp [kc_length, kw_length, *]; done) | omega) | exact Blk.segAt (H.p 1 rfl) (Seg.all _) (by first | rfl | (simp; done) | (simp [kc_length, kw_length, *]; done) | omega) | exact Blk.segAt (H.p 2 rfl) (Seg.all _) (by first | rfl | (simp; done) | (simp [kc_length, kw_length, *]; done) | omega) | exact Blk.segAt (H.p 3 rfl) (Seg.all _) (by first | rfl | (simp; done) | (simp [kc_length, kw_length, *]; done) | omega) | exact Blk.segAt (H.p 4 rfl) (Seg.all _) (by first | rfl | (simp; done) | (simp [kc_length, kw_length, *]; done) | omega) | exact Blk.segAt (H.p 5 rfl) (Seg.all _) (by first | rfl | (simp; done) | (simp [kc_length, kw_length, *]; done) | omega) | exact Blk.segAt (H.p 6 rfl) (Seg.all _) (by first | rfl | (simp; done) | (simp [kc_length, kw_length, *]; done) | omega) | exact Blk.segAt (H.p 7 rfl) (Seg.all _) (by first | rfl | (simp; done) | (simp [kc_length, kw_length, *]; done) | omega) | exact Blk.segAt (H.p 8 rfl) (Seg.all _) (by first | rfl | (simp; done) | (simp [kc_length, kw_length, *]; done) | omega) | exact Blk.segAt (H.p 9 rfl) (Seg.all _) (by first | rfl | (simp; done) | (simp [kc_length, kw_length, *]; done) | omega)) (by first | exact TrydT.sz31 | (rw [TrydT.sz31]; simp [kc_length, kw_length, *])) ?_
    refine WP.pick1 rfl ?_
    refine WL.buildSliceF (l0 := [.slice none 0 0]) H rfl TrydT.st35 (by decide) (zrow_one _ _) (Fl.cons rfl (by first | rfl | exact SlC.cells (H.p 0 rfl) | exact SlC.cells (H.p 1 rfl) | exact SlC.cells (H.p 2 rfl) | exact SlC.cells (H.p 3 rfl) | exact SlC.cells (H.p 4 rfl) | exact SlC.cells (H.p 5 rfl) | exact SlC.cells (H.p 6 rfl) | exact SlC.cells (H.p 7 rfl) | exact SlC.cells (H.p 8 rfl) | exact SlC.cells (H.p 9 rfl) | exact SlC.cells (H.p 10 rfl) | exact SlC.cells (H.p 11 rfl)) (by first | rfl | (simp only [kc_length, kw_length, List.length_replicate]; omega) | (simp [kc_length, kw_length]; omega) | (simp [kc_length, kw_length, *])) Laid.head Fl.nil) rfl ?_
    intro b53 w8 H
    replace H := H.freeze (i := 0) rfl
    replace H := H.add ((H.rob 4 rfl).imp fun _ h => SlL.cons (l := la) h (SlL.nil _))
    replace H := H.add ((H.rob 1 rfl).imp fun _ h => SlV.of_blk h rfl)
    refine WL.nil ⟨(List.forall_mem_cons.2 ⟨(fun _ _ => (by first | exact Blk.segAt (H.l 0 rfl) (Seg.all _) (by first | rfl | (simp; done) | (simp [kc_length, kw_length, *]; done) | omega) | exact Blk.segAt (H.l 1 rfl) (Seg.all _) (by first | rfl | (simp; done) | (simp [kc_length, kw_length, *]; done) | omega) | exact Blk.segAt (H.l 2 rfl) (Seg.all _) (by first | rfl | (simp; done) | (simp [kc_length, kw_length, *]; done) | omega) | exact Blk.segAt (H.p 0 rfl) (Seg.all _) (by first | rfl | (simp; done) | (simp [kc_length, kw_length, *]; done) | omega) | exact Blk.segAt (H.p 1 rfl) (Seg.all _) (by first | rfl | (simp; done) | (simp [kc_length, kw_length, *]; done) | omega) | exact Blk.segAt (H.p 2 rfl) (Seg.all _) (by first | rfl | (simp; done) | (simp [kc_length, kw_length, *]; done) | omega) | exact Blk.segAt (H.p 3 rfl) (Seg.all _) (by first | rfl | (simp; done) | (simp [kc_length, kw_length, *]; done) | omega) | exact Blk.segAt (H.p 4 rfl) (Seg.all _) (by first | rfl | (simp; done) | (simp [kc_length, kw_length, *]; done) | omega) | exact Blk.segAt (H.p 5 rfl) (Seg.all _) (by first | rfl | (simp; done) | (simp [kc_length, kw_length, *]; done) | omega) | exact Blk.segAt (H.p 6 rfl) (Seg.all _) (by first | rfl | (simp; done) | (simp [kc_length, kw_length, *]; done) | omega) | exact Blk.segAt (H.p 7 rfl) (Seg.all _) (by first | rfl | (simp; done) | (simp [kc_length, kw_length, *]; done) | omega) | exact Blk.segAt (H.p 8 rfl) (Seg.all _) (by first | rfl | (simp; done) | (simp [kc_length, kw_length, *]; done) | omega) | exact Blk.segAt (H.p 9 rfl) (Seg.all _) (by first | rfl | (simp; done) | (simp [kc_length, kw_length, *]; done) | omega))), (List.forall_mem_cons.2 ⟨(by first | exact (fun h => absurd (show waits _ 19 14 = false from h) (by decide +kernel)) | exact (fun _ _ => (by first | exact Blk.segAt (H.l 0 rfl) (Seg.all _) (by first | rfl | (simp; done) | (simp [kc_length, kw_length, *]; done) | omega) | exact Blk.segAt (H.l 1 rfl) (Seg.all _) (by first | rfl | (simp; done) | (simp [kc_length, kw_length, *]; done) | omega) | exact Blk.segAt (H.l 2 rfl) (Seg.all _) (by first | rfl | (simp; done) | (simp [kc_length, kw_length, *]; done) | omega) | exact Blk.segAt (H.p 0 rfl) (Seg.all _) (by first | rfl | (simp; done) | (simp [kc_length, kw_length, *]; done) | omega) | exact Blk.segAt (H.p 1 rfl) (Seg.all _) (by first | rfl | (simp; done) | (simp [kc_length, kw_length, *]; done) | omega) | exact Blk.segAt (H.p 2 rfl) (Seg.all _) (by first | rfl | (simp; done) | (simp [kc_length, kw_length, *]; done) | omega) | exact Blk.segAt (H.p 3 rfl) (Seg.all _) (by first | rfl | (simp; done) | (simp [kc_length, kw_length, *]; done) | omega) | exact Blk.segAt (H.p 4 rfl) (Seg.all _) (by first | rfl | (simp; done) | (simp [kc_length, kw_length, *]; done) | omega) | exact Blk.segAt (H.p 5 rfl) (Seg.all _) (by first | rfl | (simp; done) | (simp [kc_length, kw_length, *]; done) | omega) | exact Blk.segAt (H.p 6 rfl) (Seg.all _) (by first | rfl | (simp; done) | (simp [kc_length, kw_length, *]; done) | omega) | exact Blk.segAt (H.p 7 rfl) (Seg.all _) (by first | rfl | (simp; done) | (simp [kc_length, kw_length, *]; done) | omega) | exact Blk.segAt (H.p 8 rfl) (Seg.all _) (by first | rfl | (simp; done) | (simp [kc_length, kw_length, *]; done) | omega) | exact Blk.segAt (H.p 9 rfl) (Seg.all _) (by first | rfl | (simp; done) | (simp [kc_length, kw_length, *]; done) | omega)))), (fun _ h => by cases h)⟩)⟩), ?_⟩
    refine WP.pick1 rfl ?_
    refine WL.call TrydT.fb19 rfl (Join_c (ls := [la]) H.yylt (H.rob 0 rfl) (H.rob 1 rfl) (by first | exact H.rob 0 rfl | exact H.rob 1 rfl | exact H.rob 2 rfl | exact H.rob 3 rfl | exact H.rob 4 rfl | exact H.rob 5 rfl | exact H.rob 6 rfl | exact H.rob 7 rfl | exact H.rob 8 rfl | exact H.rob 9 rfl | exact H.rob 10 rfl | exact H.rob 11 rfl | exact (fun _ _ => SlB.nil _)) (by simp) (by simp; omega)) ?_
    rintro _ w9 ⟨rfl, hO⟩
    replace H := H.out hO
    refine WL.nil ⟨(List.forall_mem_cons.2 ⟨(fun _ _ => (by first | exact Blk.segAt (H.l 0 rfl) (Seg.all _) (by first | rfl | (simp; done) | (simp [kc_length, kw_length, *]; done) | omega) | exact Blk.segAt (H.l 1 rfl) (Seg.all _) (by first | rfl | (simp; done) | (simp [kc_length, kw_length, *]; done) | omega) | exact Blk.segAt (H.l 2 rfl) (Seg.all _) (by first | rfl | (simp; done) | (simp [kc_length, kw_length, *]; done) | omega) | exact Blk.segAt (H.p 0 rfl) (Seg.all _) (by first | rfl | (simp; done) | (simp [kc_length, kw_length, *]; done) | omega) | exact Blk.segAt (H.p 1 rfl) (Seg.all _) (by first | rfl | (simp; done) | (simp [kc_length, kw_length, *]; done) | omega) | exact Blk.segAt (H.p 2 rfl) (Seg.all _) (by first | rfl | (simp; done) | (simp [kc_length, kw_length, *]; done) | omega) | exact Blk.segAt (H.p 3 rfl) (Seg.all _) (by first | rfl | (simp; done) | (simp [kc_length, kw_length, *]; done) | omega) | exact Blk.segAt (H.p 4 rfl) (Seg.all _) (by first | rfl | (simp; done) | (simp [kc_length, kw_length, *]; done) | omega) | exact Blk.segAt (H.p 5 rfl) (Seg.all _) (by first | rfl | (simp; done) | (simp [kc_length, kw_length, *]; done) | omega) | exact Blk.segAt (H.p 6 rfl) (Seg.all _) (by first | rfl | (simp; done) | (simp [kc_length, kw_length, *]; done) | omega) | exact Blk.segAt (H.p 7 rfl) (Seg.all _) (by first | rfl | (simp; done) | (simp [kc_length, kw_length, *]; done) | omega) | exact Blk.segAt (H.p 8 rfl) (Seg.all _) (by first | rfl | (simp; done) | (simp [kc_length, kw_length, *]; done) | omega) | exact Blk.segAt (H.p 9 rfl) (Seg.all _) (by first | rfl | (simp; done) | (simp [kc_length, kw_length, *]; done) | omega))), (List.forall_mem_cons.2 ⟨(by first | exact (fun h => absurd (show waits _ 20 14 = false from h) (by decide +kernel)) | exact (fun _ _ => (by first | exact Blk.segAt (H.l 0 rfl) (Seg.all _) (by first | rfl | (simp; done) | (simp [kc_length, kw_length, *]; done) | omega) | exact Blk.segAt (H.l 1 rfl) (Seg.all _) (by first | rfl | (simp; done) | (simp [kc_length, kw_length, *]; done) | omega) | exact Blk.segAt (H.l 2 rfl) (Seg.all _) (by first | rfl | (simp; done) | (simp [kc_length, kw_length, *]; done) | omega) | exact Blk.segAt (H.p 0 rfl) (Seg.all _) (by first | rfl | (simp; done) | (simp [kc_length, kw_length, *]; done) | omega) | exact Blk.segAt (H.p 1 rfl) (Seg.all _) (by first | rfl | (simp; done) | (simp [kc_length, kw_length, *]; done) | omega) | exact Blk.segAt (H.p 2 rfl) (Seg.all _) (by first | rfl | (simp; done) | (simp [kc_length, kw_length, *]; done) | omega) | exact Blk.segAt (H.p 3 rfl) (Seg.all _) (by first | rfl | (simp; done) | (simp [kc_length, kw_length, *]; done) | omega) | exact Blk.segAt (H.p 4 rfl) (Seg.all _) (by first | rfl | (simp; done) | (simp [kc_length, kw_length, *]; done) | omega) | exact Blk.segAt (H.p 5 rfl) (Seg.all _) (by first | rfl | (simp; done) | (simp [kc_length, kw_length, *]; done) | omega) | exact Blk.segAt (H.p 6 rfl) (Seg.all _) (by first | rfl | (simp; done) | (simp [kc_length, kw_length, *]; done) | omega) | exact Blk.segAt (H.p 7 rfl) (Seg.all _) (by first | rfl | (simp; done) | (simp [kc_length, kw_length, *]; done) | omega) | exact Blk.segAt (H.p 8 rfl) (Seg.all _) (by first | rfl | (simp; done) | (simp [kc_length, kw_length, *]; done) | omega) | exact Blk.segAt (H.p 9 rfl) (Seg.all _) (by first | rfl | (simp; done) | (simp [kc_length, kw_length, *]; done) | omega)))), (fun _ h => by cases h)⟩)⟩), ?_⟩
    refine WP.take_pure rfl rfl (PV.eqlB rfl TrydT.ar31 TrydT.in5 TrydT.sz5 (by kernel_rfl) rfl rfl (by first | assumption | exact shaOf_length _ | simp [*]) (by first | assumption | exact shaOf_length _ | simp [*])) ?_
    first | refine WP.take_pure rfl rfl (PV.pick_t rfl rfl rfl) ?_ | refine WP.take_pure rfl rfl (PV.pick_f rfl rfl rfl) ?_ | refine WP.take_pure rfl rfl (PV.pick rfl rfl) ?_
    refine WP.mv rfl rfl rfl ?_
    refine WP.known (t := 58) (c := true) rfl (by first | rfl | simp [hfl] | simp) ?_
    refine WP.mv rfl rfl rfl ?_
    refine WP.readA rfl rfl rfl TrydT.ag31 rfl (by first | exact Blk.segAt (H.l 0 rfl) (Seg.all _) (by first | rfl | (simp; done) | (simp [kc_length, kw_length, *]; done) | omega) | exact Blk.segAt (H.l 1 rfl) (Seg.all _) (by first | rfl | (simp; done) | (simp [kc_length, kw_length, *]; done) | omega) | exact Blk.segAt (H.l 2 rfl) (Seg.all _) (by first | rfl | (simp; done) | (simp [kc_length, kw_length, *]; done) | omega) | exact Blk.segAt (H.p 0 rfl) (Seg.all _) (by first | rfl | (simp; done) | (simp [kc_length, kw_length, *]; done) | omega) | exact Blk.segAt (H.p 1 rfl) (Seg.all _) (by first | rfl | (simp; done) | (simp [kc_length, kw_length, *]; done) | omega) | exact Blk.segAt (H.p 2 rfl) (Seg.all _) (by first | rfl | (simp; done) | (simp [kc_length, kw_length, *]; done) | omega) | exact Blk.segAt (H.p 3 rfl) (Seg.all _) (by first | rfl | (simp; done) | (simp [kc_length, kw_length, *]; done) | omega) | exact Blk.segAt (H.p 4 rfl) (Seg.all _) (by first | rfl | (simp; done) | (simp [kc_length, kw_length, *]; done) | omega) | exact Blk.segAt (H.p 5 rfl) (Seg.all _) (by first | rfl | (simp; done) | (simp [kc_length, kw_length, *]; done) | omega) | exact Blk.segAt (H.p 6 rfl) (Seg.all _) (by first | rfl | (simp; done) | (simp [kc_length, kw_length, *]; done) | omega) | exact Blk.segAt (H.p 7 rfl) (Seg.all _) (by first | rfl | (simp; done) | (simp [kc_length, kw_length, *]; done) | omega) | exact Blk.segAt (H.p 8 rfl) (Seg.all _) (by first | rfl | (simp; done) | (simp [kc_length, kw_length, *]; done) | omega) | exact Blk.segAt (H.p 9 rfl) (Seg.all _) (by first | rfl | (simp; done) | (simp [kc_length, kw_length, *]; done) | omega)) (by first | exact TrydT.sz31 | (rw [TrydT.sz31]; simp [kc_length, kw_length, *])) ?_
    refine WP.pick1 rfl ?_
    refine WL.buildSliceF (l0 := [.slice none 0 0, .slice none 0 0, .slice none 0 0]) H rfl TrydT.st35 (by decide) (zrow_one _ _) (Fl.cons rfl (by first | rfl | exact SlC.cells (H.p 0 rfl) | exact SlC.cells (H.p 1 rfl) | exact SlC.cells (H.p 2 rfl) | exact SlC.cells (H.p 3 rfl) | exact SlC.cells (H.p 4 rfl) | exact SlC.cells (H.p 5 rfl) | exact SlC.cells (H.p 6 rfl) | exact SlC.cells (H.p 7 rfl) | exact SlC.cells (H.p 8 rfl) | exact SlC.cells (H.p 9 rfl) | exact SlC.cells (H.p 10 rfl) | exact SlC.cells (H.p 11 rfl)) (by first | rfl | (simp only [kc_length, kw_length, List.length_replicate]; omega) | (simp [kc_length, kw_length]; omega) | (simp [kc_length, kw_length, *])) Laid.head (Fl.cons rfl (by first | rfl | exact SlC.cells (H.p 0 rfl) | exact SlC.cells (H.p 1 rfl) | exact SlC.cells (H.p 2 rfl) | exact SlC.cells (H.p 3 rfl) | exact SlC.cells (H.p 4 rfl) | exact SlC.cells (H.p 5 rfl) | exact SlC.cells (H.p 6 rfl) | exact SlC.cells (H.p 7 rfl) | exact SlC.cells (H.p 8 rfl) | exact SlC.cells (H.p 9 rfl) | exact SlC.cells (H.p 10 rfl) | exact SlC.cells (H.p 11 rfl)) (by first | rfl | (simp only [kc_length, kw_length, List.length_replicate]; omega) | (simp [kc_length, kw_length]; omega) | (simp [kc_length, kw_length, *])) (Laid.tail Laid.head rfl) (Fl.cons rfl (by first | rfl | exact SlC.cells (H.p 0 rfl) | exact SlC.cells (H.p 1 rfl) | exact SlC.cells (H.p 2 rfl) | exact SlC.cells (H.p 3 rfl) | exact SlC.cells (H.p 4 rfl) | exact SlC.cells (H.p 5 rfl) | exact SlC.cells (H.p 6 rfl) | exact SlC.cells (H.p 7 rfl) | exact SlC.cells (H.p 8 rfl) | exact SlC.cells (H.p 9 rfl) | exact SlC.cells (H.p 10 rfl) | exact SlC.cells (H.p 11 rfl)) (by first | rfl | (simp only [kc_length, kw_length, List.length_replicate]; omega) | (simp [kc_length, kw_length]; omega) | (simp [kc_length, kw_length, *])) (Laid.tail (Laid.tail Laid.head rfl) rfl) Fl.nil))) rfl ?_
    intro b60 w10 H
    replace H := H.freeze (i := 0) rfl
    replace H := H.add ((H.rob 7 rfl).imp fun _ h => SlL.cons (SlB.nil _) (SlL.cons (l := la) h (SlL.cons (SlB.nil _) (SlL.nil _))))
    replace H := H.add ((H.rob 1 rfl).imp fun _ h => SlV.of_blk h rfl)
    refine WL.nil ⟨(List.forall_mem_cons.2 ⟨(fun _ _ => (by first | exact Blk.segAt (H.l 0 rfl) (Seg.all _) (by first | rfl | (simp; done) | (simp [kc_length, kw_length, *]; done) | omega) | exact Blk.segAt (H.l 1 rfl) (Seg.all _) (by first | rfl | (simp; done) | (simp [kc_length, kw_length, *]; done) | omega) | exact Blk.segAt (H.l 2 rfl) (Seg.all _) (by first | rfl | (simp; done) | (simp [kc_length, kw_length, *]; done) | omega) | exact Blk.segAt (H.p 0 rfl) (Seg.all _) (by first | rfl | (simp; done) | (simp [kc_length, kw_length, *]; done) | omega) | exact Blk.segAt (H.p 1 rfl) (Seg.all _) (by first | rfl | (simp; done) | (simp [kc_length, kw_length, *]; done) | omega) | exact Blk.segAt (H.p 2 rfl) (Seg.all _) (by first | rfl | (simp; done) | (simp [kc_length, kw_length, *]; done) | omega) | exact Blk.segAt (H.p 3 rfl) (Seg.all _) (by first | rfl | (simp; done) | (simp [kc_length, kw_length, *]; done) | omega) | exact Blk.segAt (H.p 4 rfl) (Seg.all _) (by first | rfl | (simp; done) | (simp [kc_length, kw_length, *]; done) | omega) | exact Blk.segAt (H.p 5 rfl) (Seg.all _) (by first | rfl | (simp; done) | (simp [kc_length, kw_length, *]; done) | omega) | exact Blk.segAt (H.p 6 rfl) (Seg.all _) (by first | rfl | (simp; done) | (simp [kc_length, kw_length, *]; done) | omega) | exact Blk.segAt (H.p 7 rfl) (Seg.all _) (by first | rfl | (simp; done) | (simp [kc_length, kw_length, *]; done) | omega) | exact Blk.segAt (H.p 8 rfl) (Seg.all _) (by first | rfl | (simp; done) | (simp [kc_length, kw_length, *]; done) | omega) | exact Blk.segAt (H.p 9 rfl) (Seg.all _) (by first | rfl | (simp; done) | (simp [kc_length, kw_length, *]; done) | omega))), (List.forall_mem_cons.2 ⟨(by first | exact (fun h => absurd (show waits _ 26 21 = false from h) (by decide +kernel)) | exact (fun _ _ => (by first | exact Blk.segAt (H.l 0 rfl) (Seg.all _) (by first | rfl | (simp; done) | (simp [kc_length, kw_length, *]; done) | omega) | exact Blk.segAt (H.l 1 rfl) (Seg.all _) (by first | rfl | (simp; done) | (simp [kc_length, kw_length, *]; done) | omega) | exact Blk.segAt (H.l 2 rfl) (Seg.all _) (by first | rfl | (simp; done) | (simp [kc_length, kw_length, *]; done) | omega) | exact Blk.segAt (H.p 0 rfl) (Seg.all _) (by first | rfl | (simp; done) | (simp [kc_length, kw_length, *]; done) | omega) | exact Blk.segAt (H.p 1 rfl) (Seg.all _) (by first | rfl | (simp; done) | (simp [kc_length, kw_length, *]; done) | omega) | exact Blk.segAt (H.p 2 rfl) (Seg.all _) (by first | rfl | (simp; done) | (simp [kc_length, kw_length, *]; done) | omega) | exact Blk.segAt (H.p 3 rfl) (Seg.all _) (by first | rfl | (simp; done) | (simp [kc_length, kw_length, *]; done) | omega) | exact Blk.segAt (H.p 4 rfl) (Seg.all _) (by first | rfl | (simp; done) | (simp [kc_length, kw_length, *]; done) | omega) | exact Blk.segAt (H.p 5 rfl) (Seg.all _) (by first | rfl | (simp; done) | (simp [kc_length, kw_length, *]; done) | omega) | exact Blk.segAt (H.p 6 rfl) (Seg.all _) (by first | rfl | (simp; done) | (simp [kc_length, kw_length, *]; done) | omega) | exact Blk.segAt (H.p 7 rfl) (Seg.all _) (by first | rfl | (simp; done) | (simp [kc_length, kw_length, *]; done) | omega) | exact Blk.segAt (H.p 8 rfl) (Seg.all _) (by first | rfl | (simp; done) | (simp [kc_length, kw_length, *]; done) | omega) | exact Blk.segAt (H.p 9 rfl) (Seg.all _) (by first | rfl | (simp; done) | (simp [kc_length, kw_length, *]; done) | omega)))), (List.forall_mem_cons.2 ⟨(by first | exact (fun h => absurd (show waits _ 26 14 = false from h) (by decide +kernel)) | exact (fun _ _ => (by first | exact Blk.segAt (H.l 0 rfl) (Seg.all _) (by first | rfl | (simp; done) | (simp [kc_length, kw_length, *]; done) | omega) | exact Blk.segAt (H.l 1 rfl) (Seg.all _) (by first | rfl | (simp; done) | (simp [kc_length, kw_length, *]; done) | omega) | exact Blk.segAt (H.l 2 rfl) (Seg.all _) (by first | rfl | (simp; done) | (simp [kc_length, kw_length, *]; done) | omega) | exact Blk.segAt (H.p 0 rfl) (Seg.all _) (by first | rfl | (simp; done) | (simp [kc_length, kw_length, *]; done) | omega) | exact Blk.segAt (H.p 1 rfl) (Seg.all _) (by first | rfl | (simp; done) | (simp [kc_length, kw_length, *]; done) | omega) | exact Blk.segAt (H.p 2 rfl) (Seg.all _) (by first | rfl | (simp; done) | (simp [kc_length, kw_length, *]; done) | omega) | exact Blk.segAt (H.p 3 rfl) (Seg.all _) (by first | rfl | (simp; done) | (simp [kc_length, kw_length, *]; done) | omega) | exact Blk.segAt (H.p 4 rfl) (Seg.all _) (by first | rfl | (simp; done) | (simp [kc_length, kw_length, *]; done) | omega) | exact Blk.segAt (H.p 5 rfl) (Seg.all _) (by first | rfl | (simp; done) | (simp [kc_length, kw_length, *]; done) | omega) | exact Blk.segAt (H.p 6 rfl) (Seg.all _) (by first | rfl | (simp; done) | (simp [kc_length, kw_length, *]; done) | omega) | exact Blk.segAt (H.p 7 rfl) (Seg.all _) (by first | rfl | (simp; done) | (simp [kc_length, kw_length, *]; done) | omega) | exact Blk.segAt (H.p 8 rfl) (Seg.all _) (by first | rfl | (simp; done) | (simp [kc_length, kw_length, *]; done) | omega) | exact Blk.segAt (H.p 9 rfl) (Seg.all _) (by first | rfl | (simp; done) | (simp [kc_length, kw_length, *]; done) | omega)))), (fun _ h => by cases h)⟩)⟩)⟩), ?_⟩
    refine WP.pick1 rfl ?_
    refine WL.call TrydT.fb19 rfl (Join_c (ls := [[], la, []]) H.yylt (H.rob 0 rfl) (H.rob 1 rfl) (by first | exact H.rob 0 rfl | exact H.rob 1 rfl | exact H.rob 2 rfl | exact H.rob 3 rfl | exact H.rob 4 rfl | exact H.rob 5 rfl | exact H.rob 6 rfl | exact H.rob 7 rfl | exact H.rob 8 rfl | exact H.rob 9 rfl | exact H.rob 10 rfl | exact H.rob 11 rfl | exact (fun _ _ => SlB.nil _)) (by simp) (by simp; omega)) ?_
    rintro _ w11 ⟨rfl, hO⟩
    replace H := H.out hO
    refine WL.nil ⟨(List.forall_mem_cons.2 ⟨(fun _ _ => (by first | exact Blk.segAt (H.l 0 rfl) (Seg.all _) (by first | rfl | (simp; done) | (simp [kc_length, kw_length, *]; done) | omega) | exact Blk.segAt (H.l 1 rfl) (Seg.all _) (by first | rfl | (simp; done) | (simp [kc_length, kw_length, *]; done) | omega) | exact Blk.segAt (H.l 2 rfl) (Seg.all _) (by first | rfl | (simp; done) | (simp [kc_length, kw_length, *]; done) | omega) | exact Blk.segAt (H.p 0 rfl) (Seg.all _) (by first | rfl | (simp; done) | (simp [kc_length, kw_length, *]; done) | omega) | exact Blk.segAt (H.p 1 rfl) (Seg.all _) (by first | rfl | (simp; done) | (simp [kc_length, kw_length, *]; done) | omega) | exact Blk.segAt (H.p 2 rfl) (Seg.all _) (by first | rfl | (simp; done) | (simp [kc_length, kw_length, *]; done) | omega) | exact Blk.segAt (H.p 3 rfl) (Seg.all _) (by first | rfl | (simp; done) | (simp [kc_length, kw_length, *]; done) | omega) | exact Blk.segAt (H.p 4 rfl) (Seg.all _) (by first | rfl | (simp; done) | (simp [kc_length, kw_length, *]; done) | omega) | exact Blk.segAt (H.p 5 rfl) (Seg.all _) (by first | rfl | (simp; done) | (simp [kc_length, kw_length, *]; done) | omega) | exact Blk.segAt (H.p 6 rfl) (Seg.all _) (by first | rfl | (simp; done) | (simp [kc_length, kw_length, *]; done) | omega) | exact Blk.segAt (H.p 7 rfl) (Seg.all _) (by first | rfl | (simp; done) | (simp [kc_length, kw_length, *]; done) | omega) | exact Blk.segAt (H.p 8 rfl) (Seg.all _) (by first | rfl | (simp; done) | (simp [kc_length, kw_length, *]; done) | omega) | exact Blk.segAt (H.p 9 rfl) (Seg.all _) (by first | rfl | (simp; done) | (simp [kc_length, kw_length, *]; done) | omega))), (List.forall_mem_cons.2 ⟨(by first | exact (fun h => absurd (show waits _ 27 21 = false from h) (by decide +kernel)) | exact (fun _ _ => (by first | exact Blk.segAt (H.l 0 rfl) (Seg.all _) (by first | rfl | (simp; done) | (simp [kc_length, kw_length, *]; done) | omega) | exact Blk.segAt (H.l 1 rfl) (Seg.all _) (by first | rfl | (simp; done) | (simp [kc_length, kw_length, *]; done) | omega) | exact Blk.segAt (H.l 2 rfl) (Seg.all _) (by first | rfl | (simp; done) | (simp [kc_length, kw_length, *]; done) | omega) | exact Blk.segAt (H.p 0 rfl) (Seg.all _) (by first | rfl | (simp; done) | (simp [kc_length, kw_length, *]; done) | omega) | exact Blk.segAt (H.p 1 rfl) (Seg.all _) (by first | rfl | (simp; done) | (simp [kc_length, kw_length, *]; done) | omega) | exact Blk.segAt (H.p 2 rfl) (Seg.all _) (by first | rfl | (simp; done) | (simp [kc_length, kw_length, *]; done) | omega) | exact Blk.segAt (H.p 3 rfl) (Seg.all _) (by first | rfl | (simp; done) | (simp [kc_length, kw_length, *]; done) | omega) | exact Blk.segAt (H.p 4 rfl) (Seg.all _) (by first | rfl | (simp; done) | (simp [kc_length, kw_length, *]; done) | omega) | exact Blk.segAt (H.p 5 rfl) (Seg.all _) (by first | rfl | (simp; done) | (simp [kc_length, kw_length, *]; done) | omega) | exact Blk.segAt (H.p 6 rfl) (Seg.all _) (by first | rfl | (simp; done) | (simp [kc_length, kw_length, *]; done) | omega) | exact Blk.segAt (H.p 7 rfl) (Seg.all _) (by first | rfl | (simp; done) | (simp [kc_length, kw_length, *]; done) | omega) | exact Blk.segAt (H.p 8 rfl) (Seg.all _) (by first | rfl | (simp; done) | (simp [kc_length, kw_length, *]; done) | omega) | exact Blk.segAt (H.p 9 rfl) (Seg.all _) (by first | rfl | (simp; done) | (simp [kc_length, kw_length, *]; done) | omega)))), (List.forall_mem_cons.2 ⟨(by first | exact (fun h => absurd (show waits _ 27 14 = false from h) (by decide +kernel)) | exact (fun _ _ => (by first | exact Blk.segAt (H.l 0 rfl) (Seg.all _) (by first | rfl | (simp; done) | (simp [kc_length, kw_length, *]; done) | omega) | exact Blk.segAt (H.l 1 rfl) (Seg.all _) (by first | rfl | (simp; done) | (simp [kc_length, kw_length, *]; done) | omega) | exact Blk.segAt (H.l 2 rfl) (Seg.all _) (by first | rfl | (simp; done) | (simp [kc_length, kw_length, *]; done) | omega) | exact Blk.segAt (H.p 0 rfl) (Seg.all _) (by first | rfl | (simp; done) | (simp [kc_length, kw_length, *]; done) | omega) | exact Blk.segAt (H.p 1 rfl) (Seg.all _) (by first | rfl | (simp; done) | (simp [kc_length, kw_length, *]; done) | omega) | exact Blk.segAt (H.p 2 rfl) (Seg.all _) (by first | rfl | (simp; done) | (simp [kc_length, kw_length, *]; done) | omega) | exact Blk.segAt (H.p 3 rfl) (Seg.all _) (by first | rfl | (simp; done) | (simp [kc_length, kw_length, *]; done) | omega) | exact Blk.segAt (H.p 4 rfl) (Seg.all _) (by first | rfl | (simp; done) | (simp [kc_length, kw_length, *]; done) | omega) | exact Blk.segAt (H.p 5 rfl) (Seg.all _) (by first | rfl | (simp; done) | (simp [kc_length, kw_length, *]; done) | omega) | exact Blk.segAt (H.p 6 rfl) (Seg.all _) (by first | rfl | (simp; done) | (simp [kc_length, kw_length, *]; done) | omega) | exact Blk.segAt (H.p 7 rfl) (Seg.all _) (by first | rfl | (simp; done) | (simp [kc_length, kw_length, *]; done) | omega) | exact Blk.segAt (H.p 8 rfl) (Seg.all _) (by first | rfl | (simp; done) | (simp [kc_length, kw_length, *]; done) | omega) | exact Blk.segAt (H.p 9 rfl) (Seg.all _) (by first | rfl | (simp; done) | (simp [kc_length, kw_length, *]; done) | omega)))), (fun _ h => by cases h)⟩)⟩)⟩), ?_⟩
    refine WP.take_pure rfl rfl (PV.eqlB rfl TrydT.ar31 TrydT.in5 TrydT.sz5 (by kernel_rfl) rfl rfl (by first | assumption | exact shaOf_length _ | simp [*]) (by first | assumption | exact shaOf_length _ | simp [*])) ?_
    first | refine WP.take_pure rfl rfl (PV.pick_t rfl rfl rfl) ?_ | refine WP.take_pure rfl rfl (PV.pick_f rfl rfl rfl) ?_ | refine WP.take_pure rfl rfl (PV.pick rfl rfl) ?_
    refine WP.as rfl rfl rfl ?_
    refine WP.done ?_
    refine WE.ret ?_
    refine ⟨[_], _, .nil _, ⟨rfl, trivial⟩, ?_⟩
    refine ⟨?_, H.toOut0⟩
    show Value.bool _ = Value.bool true
    first | rfl | (congr 1; first | (simp; done) | exact decide_eq_true (by omega) | (simp; omega))

theorem ShaEmpty_c {X : Nat → Prop} {w : World} {n : Nat} (hX : ∀ b, X b → b < w.heap.size) (hf0 : Rob X (Rounds) w) (hn : n ≤ 255) :
    Ret Tryd.prog 6 [.int .u8 (n : Int)].toArray w fun v w' => v = .bool true ∧ Out Nil w w' := by
  refine Ret.of_body (N := 11) Tryd.func6 rfl rfl (by simp) ?_
  have H := St.begin hX
  replace H := H.add (rob0 hf0)
  have hfl : (List.replicate n ([] : List UInt8)).flatten = [] := by simp
  refine WE.seq_reg ?_
  refine WL.as rfl rfl ?_
  refine WL.nil ?_
  refine WE.seq_reg ?_
  refine WL.call TrydT.fb13 rfl (alive04_c H.yylt (by first | exact H.rob 0 rfl | exact H.rob 1 rfl | exact H.rob 2 rfl | exact H.rob 3 rfl | exact H.rob 4 rfl | exact H.rob 5 rfl | exact H.rob 6 rfl | exact H.rob 7 rfl | exact (fun _ _ => SlB.nil _))) ?_
  rintro _ w1 ⟨rfl, hO⟩
  replace H := H.out hO
  refine WL.mv rfl rfl ?_
  refine WL.known (t := 4) (c := true) rfl (by first | rfl | simp) ?_
  refine WL.mv rfl rfl ?_
  refine WL.makeSlice (n := n) H rfl TrydT.st35 rfl (by omega) (by omega) rfl ?_
  intro b6 w3 H
  replace H := H.freeze (i := 0) rfl
  replace H := H.add (p := SlL (List.replicate n (.slice none 0 0)) (List.replicate n [])) (fun _ _ => SlL.nils n)
  replace H := H.add ((H.rob 1 rfl).imp fun _ h => SlV.of_blk (cs := List.replicate n (.slice none 0 0)) (n := n) (by rw [zrow_one] at h; exact h) (by simp))
  refine WL.call TrydT.fb19 rfl (Join_c (ls := List.replicate n []) H.yylt (H.rob 0 rfl) (H.rob 1 rfl) (by first | exact H.rob 0 rfl | exact H.rob 1 rfl | exact H.rob 2 rfl | exact H.rob 3 rfl | exact H.rob 4 rfl | exact H.rob 5 rfl | exact H.rob 6 rfl | exact H.rob 7 rfl | exact (fun _ _ => SlB.nil _)) (by simp; omega) (by rw [hfl]; simp)) ?_
  rintro _ w7 ⟨rfl, hO⟩
  replace H := H.out hO
  refine WL.call TrydT.fb20 rfl (Sum_c (la := []) H.yylt (fun _ _ => SlB.nil _) (by first | exact H.rob 0 rfl | exact H.rob 1 rfl | exact H.rob 2 rfl | exact H.rob 3 rfl | exact H.rob 4 rfl | exact H.rob 5 rfl | exact H.rob 6 rfl | exact H.rob 7 rfl | exact (fun _ _ => SlB.nil _)) (by simp)) ?_
  rintro _ w8 ⟨rfl, hO⟩
  replace H := H.out hO
  refine WL.pv (PV.eqlB rfl TrydT.ar31 TrydT.in5 TrydT.sz5 (by kernel_rfl) rfl rfl (by first | assumption | exact shaOf_length _ | simp [*]) (by first | assumption | exact shaOf_length _ | simp [*])) rfl ?_
  first | refine WL.pv (PV.pick_t rfl rfl rfl) rfl ?_ | refine WL.pv (PV.pick_f rfl rfl rfl) rfl ?_ | refine WL.pv (PV.pick rfl rfl) rfl ?_
  refine WL.as rfl rfl ?_
  refine WL.nil ?_
  refine WE.ret ?_
  refine ⟨[_], _, .nil _, ⟨rfl, trivial⟩, ?_⟩
  refine ⟨?_, H.toOut0⟩
  show Value.bool _ = Value.bool true
  rw [hfl]; simp

theorem ShaMatchesReference_c {X : Nat → Prop} {w : World} {a : Value} {la : List UInt8} (hX : ∀ b, X b → b < w.heap.size) (hf0 : Rob X (SlB a la) w) (hf1 : Rob X (Rounds) w) (hla : la.length ≤ 9223372036854775807) :
    Ret Tryd.prog 11 [a].toArray w fun v w' => v = .bool true ∧ Out Nil w w' := by
  refine Ret.of_body (N := 23) Tryd.func11 rfl rfl (by simp) ?_
  have H := St.begin hX
  replace H := H.add (rob0 hf1)
  replace H := H.add (rob0 hf0)
  refine WE.seq_reg ?_
  refine WL.as rfl rfl ?_
  refine WL.nil ?_
  refine WE.seq ?_
  refine WE.seq_reg ?_
  refine WL.mv rfl rfl ?_
  first | refine WL.pv (PV.lenSl TrydT.sl22 rfl) rfl ?_ | refine WL.pv (PV.lenS (H.p 0 rfl) TrydT.sl22 rfl) rfl ?_ | refine WL.pv (PV.lenS (H.p 1 rfl) TrydT.sl22 rfl) rfl ?_ | refine WL.pv (PV.lenS (H.p 2 rfl) TrydT.sl22 rfl) rfl ?_ | refine WL.pv (PV.lenS (H.p 3 rfl) TrydT.sl22 rfl) rfl ?_ | refine WL.pv (PV.lenS (H.p 4 rfl) TrydT.sl22 rfl) rfl ?_ | refine WL.pv (PV.lenS (H.p 5 rfl) TrydT.sl22 rfl) rfl ?_ | refine WL.pv (PV.lenS (H.p 6 rfl) TrydT.sl22 rfl) rfl ?_ | refine WL.pv (PV.lenS (H.p 7 rfl) TrydT.sl22 rfl) rfl ?_
  refine WL.pv (PV.gtr rfl rfl rfl) rfl ?_
  refine WL.nil ?_
  refine WE.cond rfl (fun hc6 => ?_) (fun hc6 => ?_)
  · skip
    try simp only [decide_eq_true_eq, decide_eq_false_iff_not, ne_eq, Decidable.not_not, Bool.not_eq_true', Bool.not_eq_false', Bool.and_eq_true, Bool.or_eq_true, Bool.not_not, Bool.and_eq_false_iff, Bool.or_eq_false_iff, Int.not_lt, Int.not_le] at hc6
    refine WE.seq_reg ?_
    refine WL.call TrydT.fb13 rfl (alive04_c H.yylt (by first | exact H.rob 0 rfl | exact H.rob 1 rfl | exact H.rob 2 rfl | exact H.rob 3 rfl | exact H.rob 4 rfl | exact H.rob 5 rfl | exact H.rob 6 rfl | exact H.rob 7 rfl | exact (fun _ _ => SlB.nil _))) ?_
    rintro _ w1 ⟨rfl, hO⟩
    replace H := H.out hO
    refine WL.as rfl rfl ?_
    refine WL.nil ?_
    refine WE.ret ?_
    refine ⟨[_], _, .nil _, ⟨rfl, trivial⟩, ?_⟩
    exact ⟨rfl, H.toOut0⟩
  · skip
    try simp only [decide_eq_true_eq, decide_eq_false_iff_not, ne_eq, Decidable.not_not, Bool.not_eq_true', Bool.not_eq_false', Bool.and_eq_true, Bool.or_eq_true, Bool.not_not, Bool.and_eq_false_iff, Bool.or_eq_false_iff, Int.not_lt, Int.not_le] at hc6
    have hle : la.length ≤ 2000 := by omega
    refine WE.skip ?_
    refine WE.seq_reg ?_
    refine WL.mv rfl rfl ?_
    refine WL.call TrydT.fb30 rfl (Clone_c (la := la) H.yylt (H.rob 0 rfl) (by omega)) ?_
    rintro v9 w2 ⟨hO, hR⟩
    replace H := (H.out hO).add hR
    refine WL.as rfl rfl ?_
    refine WL.nil ?_
    refine WE.seq_reg ?_
    refine WL.call TrydT.fb13 rfl (alive04_c H.yylt (by first | exact H.rob 0 rfl | exact H.rob 1 rfl | exact H.rob 2 rfl | exact H.rob 3 rfl | exact H.rob 4 rfl | exact H.rob 5 rfl | exact H.rob 6 rfl | exact H.rob 7 rfl | exact (fun _ _ => SlB.nil _))) ?_
    rintro _ w3 ⟨rfl, hO⟩
    replace H := H.out hO
    refine WL.mv rfl rfl ?_
    refine WL.known (t := 11) (c := true) rfl (by simp) ?_
    refine WL.mv rfl rfl ?_
    refine WL.call TrydT.fb20 rfl (Sum_c (la := la) H.yylt (H.rob 0 rfl) (H.rob 2 rfl) (by omega)) ?_
    rintro _ w4 ⟨rfl, hO⟩
    replace H := H.out hO
    refine WL.mv rfl rfl ?_
    refine WL.call TrydT.fb18 rfl (refSum_c (la := la) H.yylt (H.rob 1 rfl) (by omega)) ?_
    rintro _ w5 ⟨rfl, hO⟩
    replace H := H.out hO
    refine WL.pv (PV.eqlB rfl TrydT.ar31 TrydT.in5 TrydT.sz5 (by kernel_rfl) rfl rfl (by first | assumption | exact shaOf_length _ | simp [*]) (by first | assumption | exact shaOf_length _ | simp [*])) rfl ?_
    first | refine WL.pv (PV.pick_t rfl rfl rfl) rfl ?_ | refine WL.pv (PV.pick_f rfl rfl rfl) rfl ?_ | refine WL.pv (PV.pick rfl rfl) rfl ?_
    refine WL.mv rfl rfl ?_
    refine WL.known (t := 18) (c := true) rfl (by simp) ?_
    refine WL.mv rfl rfl ?_
    refine WL.mv rfl rfl ?_
    refine WL.call TrydT.fb15 rfl (Same_c (la := la) (lb := la) H.yylt (by first | exact H.rob 0 rfl | exact H.rob 1 rfl | exact H.rob 2 rfl | exact H.rob 3 rfl | exact H.rob 4 rfl | exact H.rob 5 rfl | exact H.rob 6 rfl | exact H.rob 7 rfl | exact (fun _ _ => SlB.nil _)) (by first | exact H.rob 0 rfl | exact H.rob 1 rfl | exact H.rob 2 rfl | exact H.rob 3 rfl | exact H.rob 4 rfl | exact H.rob 5 rfl | exact H.rob 6 rfl | exact H.rob 7 rfl | exact (fun _ _ => SlB.nil _)) (by first | omega | simp [shaOf_length])) ?_
    rintro _ w6 ⟨rfl, hO⟩
    replace H := H.out hO
    first | refine WL.pv (PV.pick_t rfl rfl rfl) rfl ?_ | refine WL.pv (PV.pick_f rfl rfl rfl) rfl ?_ | refine WL.pv (PV.pick rfl rfl) rfl ?_
    refine WL.as rfl rfl ?_
    refine WL.nil ?_
    refine WE.ret ?_
    refine ⟨[_], _, .nil _, ⟨rfl, trivial⟩, ?_⟩
    refine ⟨?_, H.toOut0⟩
    show Value.bool _ = Value.bool true
    first | rfl | (congr 1; first | (simp; done) | exact decide_eq_true (by omega) | (simp; omega))

theorem ShaOwns_c {X : Nat → Prop} {w : World} {a : Value} {la : List UInt8} {i : Int} (hX : ∀ b, X b → b < w.heap.size) (hf0 : Rob X (SlB a la) w) (hf1 : Rob X (Rounds) w) (hla : la.length ≤ 9223372036854775807) (hi : 0 ≤ i ∧ i ≤ 65535) :
    Ret Tryd.prog 12 [a, .int .u16 i].toArray w fun v w' => v = .bool true ∧ Out Nil w w' := by
  refine Ret.of_body (N := 41) Tryd.func12 rfl rfl (by simp) ?_
  have H := St.begin hX
  replace H := H.add (rob0 hf1)
  replace H := H.add (rob0 hf0)
  refine WE.seq_reg ?_
  refine WL.as rfl rfl ?_
  refine WL.nil ?_
  refine WE.seq ?_
  refine WE.seq_reg ?_
  refine WL.mv rfl rfl ?_
  first | refine WL.pv (PV.lenSl TrydT.sl22 rfl) rfl ?_ | refine WL.pv (PV.lenS (H.p 0 rfl) TrydT.sl22 rfl) rfl ?_ | refine WL.pv (PV.lenS (H.p 1 rfl) TrydT.sl22 rfl) rfl ?_ | refine WL.pv (PV.lenS (H.p 2 rfl) TrydT.sl22 rfl) rfl ?_ | refine WL.pv (PV.lenS (H.p 3 rfl) TrydT.sl22 rfl) rfl ?_ | refine WL.pv (PV.lenS (H.p 4 rfl) TrydT.sl22 rfl) rfl ?_ | refine WL.pv (PV.lenS (H.p 5 rfl) TrydT.sl22 rfl) rfl ?_ | refine WL.pv (PV.lenS (H.p 6 rfl) TrydT.sl22 rfl) rfl ?_ | refine WL.pv (PV.lenS (H.p 7 rfl) TrydT.sl22 rfl) rfl ?_
  refine WL.pv (PV.gtr rfl rfl rfl) rfl ?_
  refine WL.nil ?_
  refine WE.cond rfl (fun hc9 => ?_) (fun hc9 => ?_)
  · skip
    try simp only [decide_eq_true_eq, decide_eq_false_iff_not, ne_eq, Decidable.not_not, Bool.not_eq_true', Bool.not_eq_false', Bool.and_eq_true, Bool.or_eq_true, Bool.not_not, Bool.and_eq_false_iff, Bool.or_eq_false_iff, Int.not_lt, Int.not_le] at hc9
    refine WE.seq_reg ?_
    refine WL.call TrydT.fb13 rfl (alive04_c H.yylt (by first | exact H.rob 0 rfl | exact H.rob 1 rfl | exact H.rob 2 rfl | exact H.rob 3 rfl | exact H.rob 4 rfl | exact H.rob 5 rfl | exact H.rob 6 rfl | exact H.rob 7 rfl | exact (fun _ _ => SlB.nil _))) ?_
    rintro _ w1 ⟨rfl, hO⟩
    replace H := H.out hO
    refine WL.as rfl rfl ?_
    refine WL.nil ?_
    refine WE.ret ?_
    refine ⟨[_], _, .nil _, ⟨rfl, trivial⟩, ?_⟩
    exact ⟨rfl, H.toOut0⟩
  · skip
    try simp only [decide_eq_true_eq, decide_eq_false_iff_not, ne_eq, Decidable.not_not, Bool.not_eq_true', Bool.not_eq_false', Bool.and_eq_true, Bool.or_eq_true, Bool.not_not, Bool.and_eq_false_iff, Bool.or_eq_false_iff, Int.not_lt, Int.not_le] at hc9
    have hle : la.length ≤ 2000 := by omega
    have hz64 : zc la.length < 64 := by unfold zc; omega
    have hpl := padOf_length la
    refine WE.skip ?_
    refine WE.seq_reg ?_
    refine WL.mv rfl rfl ?_
    refine WL.call TrydT.fb30 rfl (Clone_c (la := la) H.yylt (H.rob 0 rfl) (by omega)) ?_
    rintro v12 w2 ⟨hO, hR⟩
    replace H := (H.out hO).add hR
    refine WL.as rfl rfl ?_
    refine WL.nil ?_
    refine WE.seq_reg ?_
    refine WL.mv rfl rfl ?_
    refine WL.call TrydT.fb14 rfl (PadO_c (la := la) H.yylt (H.rob 0 rfl) (by omega)) ?_
    rintro _ w3 ⟨hO, bp, rfl, hge, hB⟩
    replace H := H.push hO (Ent.blk bp 5 (kc (padOf la))) hB (fun c hc => by cases hc; exact hge)
    have hm1 := Int.emod_nonneg i (show ((padOf la).length : Int) ≠ 0 by omega)
    have hm2 := Int.emod_lt_of_pos i (show 0 < ((padOf la).length : Int) by omega)
    obtain ⟨x, hx⟩ : ∃ x : Nat, i % ((padOf la).length : Int) = (x : Int) := ⟨_, (Int.toNat_of_nonneg hm1).symm⟩
    refine WL.as rfl rfl ?_
    refine WL.nil ?_
    refine WE.seq ?_
    refine WE.seq_reg ?_
    refine WL.mv rfl rfl ?_
    first | refine WL.pv (PV.lenSl TrydT.sl22 rfl) rfl ?_ | refine WL.pv (PV.lenS (H.p 0 rfl) TrydT.sl22 rfl) rfl ?_ | refine WL.pv (PV.lenS (H.p 1 rfl) TrydT.sl22 rfl) rfl ?_ | refine WL.pv (PV.lenS (H.p 2 rfl) TrydT.sl22 rfl) rfl ?_ | refine WL.pv (PV.lenS (H.p 3 rfl) TrydT.sl22 rfl) rfl ?_ | refine WL.pv (PV.lenS (H.p 4 rfl) TrydT.sl22 rfl) rfl ?_ | refine WL.pv (PV.lenS (H.p 5 rfl) TrydT.sl22 rfl) rfl ?_ | refine WL.pv (PV.lenS (H.p 6 rfl) TrydT.sl22 rfl) rfl ?_ | refine WL.pv (PV.lenS (H.p 7 rfl) TrydT.sl22 rfl) rfl ?_
    refine WL.pv (PV.eql rfl rfl rfl) rfl ?_
    refine WL.nil ?_
    refine WE.cond_f' rfl (decide_eq_false (by omega)) ?_
    refine WE.skip ?_
    refine WE.seq_reg ?_
    refine WL.mv rfl rfl ?_
    refine WL.mv rfl rfl ?_
    first | refine WL.pv (PV.conv64 rfl TrydT.in29 TrydT.in3 rfl (by omega) (by omega)) rfl ?_ | refine WL.pv (PV.conv rfl TrydT.in29 TrydT.in3 rfl) rfl ?_
    refine WL.mv rfl rfl ?_
    first | refine WL.pv (PV.lenSl TrydT.sl22 rfl) rfl ?_ | refine WL.pv (PV.lenS (H.p 0 rfl) TrydT.sl22 rfl) rfl ?_ | refine WL.pv (PV.lenS (H.p 1 rfl) TrydT.sl22 rfl) rfl ?_ | refine WL.pv (PV.lenS (H.p 2 rfl) TrydT.sl22 rfl) rfl ?_ | refine WL.pv (PV.lenS (H.p 3 rfl) TrydT.sl22 rfl) rfl ?_ | refine WL.pv (PV.lenS (H.p 4 rfl) TrydT.sl22 rfl) rfl ?_ | refine WL.pv (PV.lenS (H.p 5 rfl) TrydT.sl22 rfl) rfl ?_ | refine WL.pv (PV.lenS (H.p 6 rfl) TrydT.sl22 rfl) rfl ?_ | refine WL.pv (PV.lenS (H.p 7 rfl) TrydT.sl22 rfl) rfl ?_
    refine WL.pv (PV.eq (v' := .int .i64 (x : Int)) (PV.rem64 rfl rfl rfl (by omega) (by omega)) (congrArg _ hx)) rfl ?_
    refine WL.pv (PV.indexSl rfl TrydT.sl22 TrydT.sz5 rfl rfl (by omega) (by omega)) rfl ?_
    refine WL.load1 rfl TrydT.ag5 rfl rfl (Blk.segAt (o' := 0 + (x : Int).toNat * 1) (H.l 0 rfl) (Seg.byte x (by omega)) (by omega)) ?_
    refine WL.pv (PV.add8 (b := 1) rfl rfl rfl) rfl ?_
    refine WL.pv (PV.indexSl rfl TrydT.sl22 TrydT.sz5 rfl rfl (by omega) (by omega)) rfl ?_
    first | refine WL.storeL H 0 rfl rfl rfl (new := _) rfl (by first | exact TrydT.sz5 | (rw [TrydT.sz5]; simp [kc_length, kw_length, *])) (by first | exact kc_one _ | exact kw_one _ | exact one_append (kc_one _) (kc_one _) | exact one_lit _ rfl | exact one_append (kc_one _) (one_lit _ rfl)) (Laid.at (Laid.byteA x (by omega)) (by omega)) rfl ?_ | refine WL.storeL H 1 rfl rfl rfl (new := _) rfl (by first | exact TrydT.sz5 | (rw [TrydT.sz5]; simp [kc_length, kw_length, *])) (by first | exact kc_one _ | exact kw_one _ | exact one_append (kc_one _) (kc_one _) | exact one_lit _ rfl | exact one_append (kc_one _) (one_lit _ rfl)) (Laid.at (Laid.byteA x (by omega)) (by omega)) rfl ?_ | refine WL.storeL H 2 rfl rfl rfl (new := _) rfl (by first | exact TrydT.sz5 | (rw [TrydT.sz5]; simp [kc_length, kw_length, *])) (by first | exact kc_one _ | exact kw_one _ | exact one_append (kc_one _) (kc_one _) | exact one_lit _ rfl | exact one_append (kc_one _) (one_lit _ rfl)) (Laid.at (Laid.byteA x (by omega)) (by omega)) rfl ?_
    intro w4 H
    refine WL.nil ?_
    refine WE.seq_reg ?_
    refine WL.call TrydT.fb13 rfl (alive04_c H.yylt (by first | exact H.rob 0 rfl | exact H.rob 1 rfl | exact H.rob 2 rfl | exact H.rob 3 rfl | exact H.rob 4 rfl | exact H.rob 5 rfl | exact H.rob 6 rfl | exact H.rob 7 rfl | exact (fun _ _ => SlB.nil _))) ?_
    rintro _ w5 ⟨rfl, hO⟩
    replace H := H.out hO
    refine WL.mv rfl rfl ?_
    refine WL.known (t := 29) (c := true) rfl (by simp) ?_
    refine WL.mv rfl rfl ?_
    refine WL.mv rfl rfl ?_
    refine WL.call TrydT.fb15 rfl (Same_c (la := la) (lb := la) H.yylt (by first | exact H.rob 0 rfl | exact H.rob 1 rfl | exact H.rob 2 rfl | exact H.rob 3 rfl | exact H.rob 4 rfl | exact H.rob 5 rfl | exact H.rob 6 rfl | exact H.rob 7 rfl | exact (fun _ _ => SlB.nil _)) (by first | exact H.rob 0 rfl | exact H.rob 1 rfl | exact H.rob 2 rfl | exact H.rob 3 rfl | exact H.rob 4 rfl | exact H.rob 5 rfl | exact H.rob 6 rfl | exact H.rob 7 rfl | exact (fun _ _ => SlB.nil _)) (by first | omega | simp [shaOf_length])) ?_
    rintro _ w6 ⟨rfl, hO⟩
    replace H := H.out hO
    first | refine WL.pv (PV.pick_t rfl rfl rfl) rfl ?_ | refine WL.pv (PV.pick_f rfl rfl rfl) rfl ?_ | refine WL.pv (PV.pick rfl rfl) rfl ?_
    refine WL.mv rfl rfl ?_
    refine WL.known (t := 34) (c := true) rfl (by simp) ?_
    refine WL.mv rfl rfl ?_
    refine WL.call TrydT.fb14 rfl (Pad_c (la := la) H.yylt (H.rob 0 rfl) (by omega)) ?_
    rintro v36 w7 ⟨hO, hR⟩
    replace H := (H.out hO).add hR
    refine WL.mv rfl rfl ?_
    refine WL.call TrydT.fb16 rfl (refPad_c (la := la) H.yylt (H.rob 2 rfl) (by omega)) ?_
    rintro v38 w8 ⟨hO, hR⟩
    replace H := (H.out hO).add hR
    refine WL.call TrydT.fb15 rfl (Same_c (la := padOf la) (lb := padOf la) H.yylt (by first | exact H.rob 0 rfl | exact H.rob 1 rfl | exact H.rob 2 rfl | exact H.rob 3 rfl | exact H.rob 4 rfl | exact H.rob 5 rfl | exact H.rob 6 rfl | exact H.rob 7 rfl | exact (fun _ _ => SlB.nil _)) (by first | exact H.rob 0 rfl | exact H.rob 1 rfl | exact H.rob 2 rfl | exact H.rob 3 rfl | exact H.rob 4 rfl | exact H.rob 5 rfl | exact H.rob 6 rfl | exact H.rob 7 rfl | exact (fun _ _ => SlB.nil _)) (by first | omega | simp [shaOf_length])) ?_
    rintro _ w9 ⟨rfl, hO⟩
    replace H := H.out hO
    first | refine WL.pv (PV.pick_t rfl rfl rfl) rfl ?_ | refine WL.pv (PV.pick_f rfl rfl rfl) rfl ?_ | refine WL.pv (PV.pick rfl rfl) rfl ?_
    refine WL.as rfl rfl ?_
    refine WL.nil ?_
    refine WE.ret ?_
    refine ⟨[_], _, .nil _, ⟨rfl, trivial⟩, ?_⟩
    refine ⟨?_, H.toOut0⟩
    show Value.bool _ = Value.bool true
    first | rfl | (congr 1; first | (simp; done) | exact decide_eq_true (by omega) | (simp; omega))

end Go.Sp.Tryd
