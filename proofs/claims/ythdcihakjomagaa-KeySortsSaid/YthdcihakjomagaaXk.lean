/- Walks of functions, printed by a program of this session (gen.py) from notes on each function. -/
import Derived.Test.YthdcihakjomagaaXj
set_option maxRecDepth 100000
set_option maxHeartbeats 1000000
set_option linter.unusedVariables false
set_option linter.unusedSimpArgs false
namespace Go.Sp.Try
open Go.Proofs Go.RowKit Go.Sp

def digL : List UInt8 := [48, 49, 50, 51, 52, 53, 54, 55, 56, 57, 97, 98, 99, 100, 101, 102]
def hd (n : Nat) : UInt8 := digL.getD n 0
def hexB (x : UInt8) : List UInt8 := [hd (x.toNat / 16), hd (x.toNat % 16)]
def hexL (l : List UInt8) : List UInt8 := l.flatMap hexB
theorem hd_dg : ∀ n < 16, dg (hd n).toNat = n := by decide
theorem hd_sub : ∀ n < 16, (digL.drop n).take (n + 1 - n) = [hd n] := by decide
theorem hd_get : ∀ n, (h : n < 16) → digL[n]'h = hd n := by decide
theorem hexL_snoc {l : List UInt8} {i : Nat} (h : i < l.length) : hexL (l.take (i + 1)) = hexL (l.take i) ++ hexB l[i] := by
  unfold hexL
  rw [List.take_succ_eq_append_getElem h, List.flatMap_append, List.flatMap_singleton]
theorem hexL_len : ∀ l : List UInt8, (hexL l).length = 2 * l.length
  | [] => rfl
  | x :: l => by
    show (hexB x ++ hexL l).length = _
    rw [List.length_append, hexL_len l]
    simp [hexB]; omega
theorem hexL_ok (l : List UInt8) : okS (hexL l) := by
  refine ⟨by rw [hexL_len]; omega, fun x hx => ?_⟩
  obtain ⟨y, _, hy⟩ := List.mem_flatMap.1 hx
  have h1 := y.toNat_lt
  rcases List.mem_cons.1 hy with rfl | hy
  · rw [hd_dg _ (by omega)]; omega
  · rw [List.mem_singleton.1 hy, hd_dg _ (by omega)]; omega
theorem hexL_get : ∀ (l : List UInt8) (k : Nat) (h : k < l.length), (hexL l).getD (2 * k) 0 = hd (l[k].toNat / 16) ∧ (hexL l).getD (2 * k + 1) 0 = hd (l[k].toNat % 16)
  | x :: l, 0, _ => ⟨rfl, rfl⟩
  | x :: l, k + 1, h => by
    have ih := hexL_get l k (by simpa using h)
    have e1 : hexL (x :: l) = hd (x.toNat / 16) :: hd (x.toNat % 16) :: hexL l := rfl
    rw [e1, show 2 * (k + 1) = 2 * k + 1 + 1 by omega, List.getD_cons_succ, List.getD_cons_succ, List.getD_cons_succ, List.getD_cons_succ]
    exact ih
theorem par_hex (l : List UInt8) : parL (hexL l) = l := by
  have hl : (hexL l).length / 2 = l.length := by rw [hexL_len]; omega
  refine List.ext_getElem (by simp [parL, fullL, hl]) fun k h1 h2 => ?_
  have hg := hexL_get l k h2
  have hx := l[k].toNat_lt
  simp only [parL, fullL, List.getElem_map, List.getElem_range]
  rw [hg.1, hg.2]
  have e1 : dgN (hd (l[k].toNat / 16)) = l[k].toNat / 16 := by unfold dgN; rw [hd_dg _ (by omega)]; omega
  have e2 : dgN (hd (l[k].toNat % 16)) = l[k].toNat % 16 := by unfold dgN; rw [hd_dg _ (by omega)]; omega
  rw [e1, e2, show 16 * (l[k].toNat / 16) + l[k].toNat % 16 = l[k].toNat by omega]
  exact UInt8.ofNat_toNat
theorem okS_mem {l : List UInt8} (h : okS l) (i : Nat) (hi : i < l.length) : 0 ≤ dg l[i].toNat := h.2 _ (List.getElem_mem hi)
theorem flen (l : List UInt8) (n : Nat) : (fullL l n).length = n := by simp [fullL]

theorem refParse_c {X : Nat → Prop} {w : World} {l : List UInt8} (hX : ∀ b, X b → b < w.heap.size) (hl : l.length ≤ 1000000) :
    Ret Try.prog 16 [strV l].toArray w fun v w' => Out Nil w w' ∧ (okS l → ∃ s, v = .tuple [s, .bool true].toArray ∧ Rob X (SlB s (parL l)) w') ∧ (¬ okS l → v = .tuple [.slice none 0 0, .bool false].toArray) := by
  refine Ret.of_body (N := 42) Try.func16 rfl rfl (by simp) ?_
  have H := St.begin hX
  refine WE.seq_reg ?_
  refine WL.as rfl rfl ?_
  refine WL.as rfl rfl ?_
  refine WL.nil ?_
  refine WE.seq ?_
  refine WE.seq_reg ?_
  refine WL.mv rfl rfl ?_
  refine WL.pv (PV.lenStr Try.underlying9 rfl) rfl ?_
  refine WL.pv (PV.eq (v' := .int .i64 ((l.length % 2 : Nat) : Int)) (PV.rem64 rfl rfl rfl (by omega) (by omega)) (by rfl)) rfl ?_
  refine WL.pv (PV.eql rfl rfl rfl) rfl ?_
  refine WL.nil ?_
  refine WE.cond rfl (fun hc11 => ?_) (fun hc11 => ?_)
  · skip
    try simp only [decide_eq_true_eq, decide_eq_false_iff_not, ne_eq, Decidable.not_not, Bool.not_eq_true', Bool.not_eq_false', Bool.and_eq_true, Bool.or_eq_true, Bool.not_not, Bool.and_eq_false_iff, Bool.or_eq_false_iff, Int.not_lt, Int.not_le] at hc11
    have hodd : l.length % 2 = 1 := by omega
    refine WE.seq_reg ?_
    refine WL.as rfl rfl ?_
    refine WL.as rfl rfl ?_
    refine WL.nil ?_
    refine WE.ret ?_
    refine ⟨[_, _], _, .nil _, ⟨rfl, rfl, trivial⟩, ?_⟩
    exact ⟨H.toOut0, (fun h => absurd h.1 (by omega)), fun _ => rfl⟩
  · skip
    try simp only [decide_eq_true_eq, decide_eq_false_iff_not, ne_eq, Decidable.not_not, Bool.not_eq_true', Bool.not_eq_false', Bool.and_eq_true, Bool.or_eq_true, Bool.not_not, Bool.and_eq_false_iff, Bool.or_eq_false_iff, Int.not_lt, Int.not_le] at hc11
    have heven : l.length % 2 = 0 := by omega
    refine WE.skip ?_
    refine WE.seq_reg ?_
    refine WL.as rfl rfl ?_
    refine WL.nil ?_
    refine WE.seq ?_
    refine WE.seq_reg ?_
    refine WL.as rfl rfl ?_
    refine WL.nil ?_
    refine WE.block ?_
    replace H := H.nilOsl 5 1
    refine WE.loop (α := Nat × Value) [2, 3, 4, 5, 6, 7, 12, 13, 14, 15, 16, 17, 18, 19, 20, 21, 22, 23, 24, 25, 26, 27, 28, 29, 30, 31, 32, 33, 34, 35, 36, 37, 38, 39, 40] (fun p => [(5, .int .i64 ((2 * p.1 : Nat) : Int)), (4, p.2)]) (fun p wl => p.1 ≤ l.length / 2 ∧ (∀ j (h : j < l.length), j < 2 * p.1 → 0 ≤ dg l[j].toNat) ∧ St X w wl [] [Ent.osl w.heap.size p.2 5 1 (p.1) (kc (fullL l (p.1)))] []) (fun p => l.length / 2 - p.1) (0, .slice none 0 0) ⟨rfl, rfl, trivial⟩ ⟨Nat.zero_le _, (fun j _ h => absurd h (by dsimp only; omega)), H⟩ ?_
    intro ⟨k, v⟩ γ0 w1 hI
    try dsimp only at hI
    obtain ⟨hi, hdg, H⟩ := hI
    try dsimp only at hi hdg
    refine WE.seq ?_
    refine WE.seq_reg ?_
    refine WL.mv rfl rfl ?_
    refine WL.mv rfl rfl ?_
    refine WL.pv (PV.lenStr Try.underlying9 rfl) rfl ?_
    refine WL.pv (PV.lss rfl rfl rfl) rfl ?_
    refine WL.nil ?_
    refine WE.cond rfl (fun hc15 => ?_) (fun hc15 => ?_)
    · skip
      try simp only [decide_eq_true_eq, decide_eq_false_iff_not, ne_eq, Decidable.not_not, Bool.not_eq_true', Bool.not_eq_false', Bool.and_eq_true, Bool.or_eq_true, Bool.not_not, Bool.and_eq_false_iff, Bool.or_eq_false_iff, Int.not_lt, Int.not_le] at hc15
      have h1 : 2 * k < l.length := by omega
      have h2 : 2 * k + 1 < l.length := by omega
      refine WE.skip ?_
      refine WE.seq ?_
      refine WE.block ?_
      refine WE.seq_reg ?_
      refine WL.mv rfl rfl ?_
      refine WL.mv rfl rfl ?_
      refine WL.pv (PV.idxStr (i := 2 * k) rfl Try.underlying9 rfl rfl h1) rfl ?_
      refine WL.call TryT.fb29 rfl (refDigit_c (c := l[2 * k].toNat) H.yylt  (by have h_ := l[2 * k].toNat_lt; omega)) ?_
      rintro _ w2 ⟨rfl, hO⟩
      replace H := H.out hO
      refine WL.as rfl rfl ?_
      refine WL.nil ?_
      refine WE.seq_reg ?_
      refine WL.mv rfl rfl ?_
      refine WL.mv rfl rfl ?_
      refine WL.pv (PV.eq (v' := .int .i64 ((2 * k + 1 : Nat) : Int)) (PV.add64 rfl rfl rfl (by omega) (by omega)) (by rfl)) rfl ?_
      refine WL.pv (PV.idxStr (i := 2 * k + 1) rfl Try.underlying9 rfl rfl h2) rfl ?_
      refine WL.call TryT.fb29 rfl (refDigit_c (c := l[2 * k + 1].toNat) H.yylt  (by have h_ := l[2 * k + 1].toNat_lt; omega)) ?_
      rintro _ w3 ⟨rfl, hO⟩
      replace H := H.out hO
      refine WL.as rfl rfl ?_
      refine WL.nil ?_
      refine WE.seq ?_
      refine WE.seq_reg ?_
      refine WL.mv rfl rfl ?_
      refine WL.pv (PV.lss rfl rfl rfl) rfl ?_
      refine WL.mv rfl rfl ?_
      refine WL.split (t := 29) rfl (fun hg29 => ?_) (fun hg29 => ?_)
      · skip
        refine WL.known (t := 28) (c := true) rfl hg29 ?_
        try simp only [decide_eq_true_eq, decide_eq_false_iff_not, ne_eq, Decidable.not_not, Bool.not_eq_true', Bool.not_eq_false', Bool.and_eq_true, Bool.or_eq_true, Bool.not_not, Bool.and_eq_false_iff, Bool.or_eq_false_iff, Int.not_lt, Int.not_le] at hg29
        have hbad : ¬ okS l := fun h => by have h1_ := okS_mem h _ h1; omega
        refine WL.off rfl ?_
        refine WL.off rfl ?_
        refine WL.pv (PV.pick_t rfl rfl rfl) rfl ?_
        refine WL.nil ?_
        refine WE.cond_t rfl ?_
        refine WE.seq_reg ?_
        refine WL.as rfl rfl ?_
        refine WL.as rfl rfl ?_
        refine WL.nil ?_
        refine WE.ret ?_
        refine ⟨[_, _], _, .nil _, ⟨rfl, rfl, trivial⟩, ?_⟩
        exact ⟨H.toOut0, (fun h => absurd h hbad), fun _ => rfl⟩
      · skip
        refine WL.known (t := 28) (c := false) rfl hg29 ?_
        try simp only [decide_eq_true_eq, decide_eq_false_iff_not, ne_eq, Decidable.not_not, Bool.not_eq_true', Bool.not_eq_false', Bool.and_eq_true, Bool.or_eq_true, Bool.not_not, Bool.and_eq_false_iff, Bool.or_eq_false_iff, Int.not_lt, Int.not_le] at hg29
        refine WL.mv rfl rfl ?_
        refine WL.pv (PV.lss rfl rfl rfl) rfl ?_
        refine WL.pv (PV.pick_f rfl rfl rfl) rfl ?_
        refine WL.nil ?_
        refine WE.cond rfl (fun hc32 => ?_) (fun hc32 => ?_)
        · skip
          try simp only [decide_eq_true_eq, decide_eq_false_iff_not, ne_eq, Decidable.not_not, Bool.not_eq_true', Bool.not_eq_false', Bool.and_eq_true, Bool.or_eq_true, Bool.not_not, Bool.and_eq_false_iff, Bool.or_eq_false_iff, Int.not_lt, Int.not_le] at hc32
          have hbad : ¬ okS l := fun h => by have h1_ := okS_mem h _ h1; have h2_ := okS_mem h _ h2; omega
          refine WE.seq_reg ?_
          refine WL.as rfl rfl ?_
          refine WL.as rfl rfl ?_
          refine WL.nil ?_
          refine WE.ret ?_
          refine ⟨[_, _], _, .nil _, ⟨rfl, rfl, trivial⟩, ?_⟩
          exact ⟨H.toOut0, (fun h => absurd h hbad), fun _ => rfl⟩
        · skip
          try simp only [decide_eq_true_eq, decide_eq_false_iff_not, ne_eq, Decidable.not_not, Bool.not_eq_true', Bool.not_eq_false', Bool.and_eq_true, Bool.or_eq_true, Bool.not_not, Bool.and_eq_false_iff, Bool.or_eq_false_iff, Int.not_lt, Int.not_le] at hc32
          have hd1 : 0 ≤ dg l[2 * k].toNat := by omega
          have hd2 : 0 ≤ dg l[2 * k + 1].toNat := by omega
          have he1 := dgN_eq hd1
          have he2 := dgN_eq hd2
          have hl1 := dgN_lt l[2 * k]
          have hl2 := dgN_lt l[2 * k + 1]
          have hS := fullL_snoc l k
          rw [getD_at8 h1, getD_at8 h2] at hS
          refine WE.skip ?_
          refine WE.reg ?_
          refine WL.mv rfl rfl ?_
          refine WL.mv rfl rfl ?_
          refine WL.pv (PV.eq (v' := .int .i64 ((16 * dgN l[2 * k] : Nat) : Int)) (PV.mul64 rfl rfl rfl (by omega) (by omega)) (by (congr 1; omega))) rfl ?_
          refine WL.mv rfl rfl ?_
          refine WL.pv (PV.eq (v' := .int .i64 ((16 * dgN l[2 * k] + dgN l[2 * k + 1] : Nat) : Int)) (PV.add64 rfl rfl rfl (by omega) (by omega)) (by (congr 1; omega))) rfl ?_
          refine WL.pv (PV.eq (v' := .int .u8 ((UInt8.ofNat (16 * dgN l[2 * k] + dgN l[2 * k + 1])).toNat : Int)) (PV.conv rfl TryT.in3 TryT.in5 rfl) (by have h1_ := dgN_lt l[2 * k]; have h2_ := dgN_lt l[2 * k + 1]; rw [u8_of (by omega), wrap8]; congr 1; omega)) rfl ?_
          refine WL.buildSliceF (l0 := [.int .u8 (0)]) H rfl TryT.st22 (by decide) (zrow_one _ _) (Fl.cons rfl (by rfl) (by (simp only [kc_length, kw_length, List.length_replicate, List.length_append, List.length_cons, List.length_nil]; done)) Laid.head Fl.nil) rfl ?_
          intro b39 w4 H
          refine WL.append (m := 1) H 1 TryT.st22 (by decide) rfl rfl rfl (SlC.of_blk (n := 1) (H.l 0 rfl) rfl) (one_lit _ rfl) (by omega) (by decide) rfl ?_
          intro v40 w5 H
          replace H := H.forget 0
          replace H := H.conv (L' := [Ent.osl w.heap.size v40 5 1 (k + 1) (kc (fullL l (k + 1)))]) (by rw [hS, kc_append]; rfl)
          refine WL.as rfl rfl ?_
          refine WL.nil ?_
          refine WE.reg ?_
          refine WL.mv rfl rfl ?_
          refine WL.pv (PV.eq (v' := .int .i64 ((2 * (k + 1) : Nat) : Int)) (PV.add64 rfl rfl rfl (by omega) (by omega)) (by rfl)) rfl ?_
          refine WL.as rfl rfl ?_
          refine WL.nil ?_
          exact ⟨(k + 1, v40), (by repeat (first | with_reducible exact Off.refl _ _ | refine Off.upd rfl ?_ | refine Off.setAll rfl ?_ | refine Off.forget' rfl ?_)), ⟨rfl, rfl, trivial⟩, rfl, ⟨by dsimp only; omega, (fun j hj hji => by dsimp only at hji; rcases Nat.lt_or_ge j (2 * k) with h_ | h_; exact hdg j hj h_; rcases (show j = 2 * k ∨ j = 2 * k + 1 by omega) with e_ | e_; subst e_; exact hd1; subst e_; exact hd2), H⟩, (by dsimp only; omega)⟩
    · skip
      try simp only [decide_eq_true_eq, decide_eq_false_iff_not, ne_eq, Decidable.not_not, Bool.not_eq_true', Bool.not_eq_false', Bool.and_eq_true, Bool.or_eq_true, Bool.not_not, Bool.and_eq_false_iff, Bool.or_eq_false_iff, Int.not_lt, Int.not_le] at hc15
      have hke : k = l.length / 2 := by omega
      refine WE.exit ?_
      refine WE.seq_reg ?_
      refine WL.mv rfl rfl ?_
      refine WL.as rfl rfl ?_
      refine WL.as rfl rfl ?_
      refine WL.nil ?_
      refine WE.ret ?_
      refine ⟨[_, _], _, .nil _, ⟨rfl, rfl, trivial⟩, ?_⟩
      have hok : okS l := ⟨heven, fun x hx => by obtain ⟨j, hj, rfl⟩ := List.getElem_of_mem hx; exact hdg j hj (by omega)⟩
      subst hke
      exact ⟨H.toOut0, (fun _ => ⟨_, rfl, (rob_own hX (H.l 0 rfl)).imp fun _ h => SlB.of_own h⟩), fun h => absurd hok h⟩

theorem refHex_c {X : Nat → Prop} {w : World} {s : Value} {la : List UInt8} (hX : ∀ b, X b → b < w.heap.size) (hf0 : Rob X (SlB s la) w) (hla : la.length ≤ 1000000) :
    Ret Try.prog 14 [s].toArray w fun v w' => v = strV (hexL la) ∧ Out Nil w w' := by
  refine Ret.of_body (N := 36) Try.func14 rfl rfl (by simp) ?_
  have H := St.begin hX
  replace H := H.add (rob0 hf0)
  refine WE.seq_reg ?_
  refine WL.as rfl rfl ?_
  refine WL.nil ?_
  refine WE.seq_reg ?_
  refine WL.as rfl rfl ?_
  refine WL.nil ?_
  refine WE.seq_reg ?_
  refine WL.as rfl rfl ?_
  refine WL.nil ?_
  refine WE.seq ?_
  refine WE.seq_reg ?_
  refine WL.as rfl rfl ?_
  refine WL.nil ?_
  refine WE.block ?_
  refine WE.loop (α := Nat) [4, 5, 6, 7, 8, 9, 10, 11, 12, 13, 14, 15, 16, 17, 18, 19, 20, 21, 22, 23, 24, 25, 26, 27, 28, 29, 30, 31, 32, 33, 34] (fun i => [(5, .int .i64 (i : Int)), (4, strV (hexL (la.take i)))]) (fun i wl => i ≤ la.length ∧ St X w wl [] [] [SlB s la]) (fun i => la.length - i) 0 ⟨rfl, rfl, trivial⟩ ⟨Nat.zero_le _, H⟩ ?_
  intro i γ0 w1 hI
  try dsimp only at hI
  obtain ⟨hi, H⟩ := hI
  refine WE.seq ?_
  refine WE.seq_reg ?_
  refine WL.mv rfl rfl ?_
  refine WL.mv rfl rfl ?_
  refine WL.pv (PV.lenS (H.p 0 rfl) TryT.sl22 rfl) rfl ?_
  refine WL.pv (PV.lss rfl rfl rfl) rfl ?_
  refine WL.nil ?_
  refine WE.cond rfl (fun hc10 => ?_) (fun hc10 => ?_)
  · skip
    try simp only [decide_eq_true_eq, decide_eq_false_iff_not, ne_eq, Decidable.not_not, Bool.not_eq_true', Bool.not_eq_false', Bool.and_eq_true, Bool.or_eq_true, Bool.not_not, Bool.and_eq_false_iff, Bool.or_eq_false_iff, Int.not_lt, Int.not_le] at hc10
    have hlt : i < la.length := by omega
    have hx := la[i].toNat_lt
    have hxl := hexL_len (la.take i)
    have htl : (la.take i).length = i := by rw [List.length_take]; omega
    have hS := hexL_snoc hlt
    refine WE.skip ?_
    refine WE.seq ?_
    refine WE.block ?_
    refine WE.seq_reg ?_
    refine WL.mv rfl rfl ?_
    refine WL.mv rfl rfl ?_
    refine WL.pv (PV.idxS rfl (H.p 0 rfl) TryT.sl22 TryT.sz5 rfl rfl (by omega) (by omega)) rfl ?_
    refine WL.load1 rfl TryT.ag5 rfl rfl (SlB.rd (H.p 0 rfl) i hlt) ?_
    refine WL.pv (PV.conv64 rfl TryT.in5 TryT.in3 rfl (by omega) (by omega)) rfl ?_
    refine WL.as rfl rfl ?_
    refine WL.nil ?_
    refine WE.draw (.take 0 (.take 1 (.take 2 (.take 3 (.take 4 (.take 5 (.take 6 (.take 7 (.take 8 (.take 9 (.take 10 (.take 11 (.take 12 (.take 13 (.take 14 (.take 15 (.take 16 (.take 17 .done)))))))))))))))))) TryT.mixed (by kernel_rfl) ?_
    replace H := H.out (Out.drew _)
    refine WP.mv rfl rfl rfl ?_
    refine WP.mv rfl rfl rfl ?_
    refine WP.mv rfl rfl rfl ?_
    refine WP.take_pure rfl rfl (PV.eq (v' := .int .i64 (((la[i].toNat / 16) : Nat) : Int)) (PV.quo64 rfl rfl rfl (by omega) (by omega) (by omega)) (by rfl)) ?_
    refine WP.mv rfl rfl rfl ?_
    refine WP.take_pure rfl rfl (PV.eq (v' := .int .i64 (((la[i].toNat / 16) : Nat) : Int)) (PV.quo64 rfl rfl rfl (by omega) (by omega) (by omega)) (by rfl)) ?_
    refine WP.take_pure rfl rfl (PV.eq (v' := .int .i64 (((la[i].toNat / 16) + 1 : Nat) : Int)) (PV.add64 rfl rfl rfl (by omega) (by omega)) (by rfl)) ?_
    refine WP.take_pure rfl rfl (PV.eq (v' := strV [hd (la[i].toNat / 16)]) (PV.subStr (l := digL) (i := (la[i].toNat / 16)) (j := (la[i].toNat / 16) + 1) rfl Try.underlying9 rfl rfl rfl (by omega) (by show _ ≤ 16; omega)) (by rw [hd_sub _ (by omega)])) ?_
    refine WP.mv rfl rfl rfl ?_
    refine WP.mv rfl rfl rfl ?_
    refine WP.take_pure rfl rfl (PV.eq (v' := .int .i64 (((la[i].toNat % 16) : Nat) : Int)) (PV.rem64 rfl rfl rfl (by omega) (by omega)) (by rfl)) ?_
    refine WP.mv rfl rfl rfl ?_
    refine WP.take_pure rfl rfl (PV.eq (v' := .int .i64 (((la[i].toNat % 16) : Nat) : Int)) (PV.rem64 rfl rfl rfl (by omega) (by omega)) (by rfl)) ?_
    refine WP.take_pure rfl rfl (PV.eq (v' := .int .i64 (((la[i].toNat % 16) + 1 : Nat) : Int)) (PV.add64 rfl rfl rfl (by omega) (by omega)) (by rfl)) ?_
    refine WP.take_pure rfl rfl (PV.eq (v' := strV [hd (la[i].toNat % 16)]) (PV.subStr (l := digL) (i := (la[i].toNat % 16)) (j := (la[i].toNat % 16) + 1) rfl Try.underlying9 rfl rfl rfl (by omega) (by show _ ≤ 16; omega)) (by rw [hd_sub _ (by omega)])) ?_
    refine WP.take_pure rfl rfl (PV.eq (v' := strV (hexB la[i])) (PV.addStr rfl rfl rfl (by show 1 + 1 ≤ _; omega)) rfl) ?_
    refine WP.take_pure rfl rfl (PV.eq (v' := strV (hexL (la.take (i + 1)))) (PV.addStr rfl rfl rfl (by rw [hxl]; show _ + 2 ≤ _; omega)) (by rw [hS])) ?_
    refine WP.as rfl rfl rfl ?_
    refine WP.done ?_
    refine WE.reg ?_
    refine WL.mv rfl rfl ?_
    refine WL.pv (PV.add64 rfl rfl rfl (by omega) (by omega)) rfl ?_
    refine WL.as rfl rfl ?_
    refine WL.nil ?_
    exact ⟨i + 1, (by repeat (first | with_reducible exact Off.refl _ _ | refine Off.upd rfl ?_ | refine Off.setAll rfl ?_ | refine Off.forget' rfl ?_)), ⟨rfl, rfl, trivial⟩, rfl, ⟨by omega, H⟩, (by omega)⟩
  · skip
    try simp only [decide_eq_true_eq, decide_eq_false_iff_not, ne_eq, Decidable.not_not, Bool.not_eq_true', Bool.not_eq_false', Bool.and_eq_true, Bool.or_eq_true, Bool.not_not, Bool.and_eq_false_iff, Bool.or_eq_false_iff, Int.not_lt, Int.not_le] at hc10
    have hie : la.take i = la := List.take_of_length_le (by omega)
    refine WE.exit ?_
    refine WE.seq_reg ?_
    refine WL.mv rfl rfl ?_
    refine WL.as rfl rfl ?_
    refine WL.nil ?_
    refine WE.ret ?_
    refine ⟨[_], _, .nil _, ⟨rfl, trivial⟩, ?_⟩
    rw [hie]
    exact ⟨rfl, H.toOut0⟩

end Go.Sp.Try
