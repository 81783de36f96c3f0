/- Walks of functions, printed by a program of this session (gen.py) from notes on each function. -/
import Derived.Test.YthdcihakjomagaaDoorWh
import Derived.Test.YthdcihakjomagaaDoorRng
import Derived.Test.YthdcihakjomagaaDoorGF
set_option maxRecDepth 100000
set_option maxHeartbeats 1000000
set_option linter.unusedVariables false
set_option linter.unusedSimpArgs false
namespace Go.Sp.Tryd
open Go.Proofs Go.RowKit Go.Sp

theorem flat_take : ∀ (m : List En), KL m → ∀ n, (m.flatMap enC).take (n * 33) = (m.take n).flatMap enC
  | [], _, n => by simp
  | e :: m, hk, 0 => by simp
  | e :: m, hk, n + 1 => by
    have he := enC_length (hk e (by simp))
    rw [List.flatMap_cons, List.take_succ_cons, List.flatMap_cons, show (n + 1) * 33 = (enC e).length + n * 33 by rw [he]; omega, List.take_length_add_append, flat_take m (fun x hx => hk x (List.mem_cons_of_mem _ hx)) n]
theorem flat_drop : ∀ (m : List En), KL m → ∀ n, (m.flatMap enC).drop (n * 33) = (m.drop n).flatMap enC
  | [], _, n => by simp
  | e :: m, hk, 0 => by simp
  | e :: m, hk, n + 1 => by
    have he := enC_length (hk e (by simp))
    rw [List.flatMap_cons, List.drop_succ_cons, show (n + 1) * 33 = (enC e).length + n * 33 by rw [he]; omega, List.drop_length_add_append, flat_drop m (fun x hx => hk x (List.mem_cons_of_mem _ hx)) n]
theorem KL.drop {m : List En} (h : KL m) (n : Nat) : KL (m.drop n) := fun e he => h e (List.mem_of_mem_drop he)
theorem SlE.sub {v : Value} {m : List En} {w : World} (h : SlE v m w) (hk : KL m) {lo hi : Nat} (h1 : lo ≤ hi) (h2 : hi ≤ m.length) : SlE (subSl v 33 lo hi) ((m.drop lo).take (hi - lo)) w := by
  have := SlC.sub h h1 h2
  rw [flat_drop m hk, flat_take _ (hk.drop lo)] at this
  unfold SlE
  rwa [show ((m.drop lo).take (hi - lo)).length = hi - lo by simp; omega]
theorem SameE.of_kv {a b : List En} (h : kvL a = kvL b) : SameE a b := kvL_eq h
theorem kvL_drop (m : List En) (n : Nat) : kvL (m.drop n) = (kvL m).drop n := List.map_drop
theorem kvL_take (m : List En) (n : Nat) : kvL (m.take n) = (kvL m).take n := List.map_take
theorem KL.of_kv {a b : List En} (h : kvL a = kvL b) (hb : KL b) : KL a := fun e he => by
  obtain ⟨i, hi, rfl⟩ := List.getElem_of_mem he
  have h1 := kvL_eq h
  rw [(h1.2 i hi (by omega)).1]
  exact hb _ (List.getElem_mem _)
theorem SV.of_kv {a b : List En} (h : kvL a = kvL b) {n : Nat} (hb : ∀ e ∈ b, e.v.length ≤ n) : ∀ e ∈ a, e.v.length ≤ n := fun e he => by
  obtain ⟨i, hi, rfl⟩ := List.getElem_of_mem he
  have h1 := kvL_eq h
  rw [(h1.2 i hi (by omega)).2]
  exact hb _ (List.getElem_mem _)
theorem rank_nth {m : List En} (hs : Srt m) {i : Nat} (h : i < m.length) : rankM m m[i].k = i := by
  have e : m = m.take i ++ m.drop i := (List.take_append_drop i m).symm
  have hp := hs
  unfold Srt at hp
  rw [List.pairwise_iff_getElem] at hp
  obtain ⟨k, hk⟩ : ∃ k, k = m[i].k := ⟨_, rfl⟩
  rw [← hk]
  conv => lhs; rw [e]
  rw [rankM_append, rankM_all (m := m.take i), rankM_none (m := m.drop i)]
  · simp; omega
  · intro x hx
    obtain ⟨j, hj, rfl⟩ := List.getElem_of_mem hx
    rw [List.getElem_drop, hk]
    rcases Nat.eq_zero_or_pos j with h0 | h0
    · subst h0; exact Nat.le_refl _
    · exact Nat.le_of_lt (hp i (i + j) h (by simp at hj; omega) (by omega))
  · intro x hx
    obtain ⟨j, hj, rfl⟩ := List.getElem_of_mem hx
    rw [List.getElem_take, hk]
    simp at hj
    exact hp j i (by omega) h (by omega)

theorem WalkRanks_c {X : Nat → Prop} {w : World} {i : Int} {s : Value} {l : List En} {k : List UInt8} (hX : ∀ b, X b → b < w.heap.size) (hf0 : Rob X (SlE s l) w) (hf1 : Rob X (Vals l) w) (hf2 : Rob X (Rounds) w) (hkl : KL l) (hlen : l.length ≤ 9223372036854775807) (hvl : ∀ e ∈ l, e.v.length ≤ 9223372036854775807) (hk : k.length = 32) :
    Ret Tryd.prog 6 [.int .i64 i, s, .agg (kc k).toArray].toArray w fun v w' => v = .bool true ∧ Out Nil w w' := by
  refine Ret.of_body (N := 30) Tryd.func6 rfl rfl (by simp) ?_
  have H := St.begin hX
  replace H := H.add (rob0 hf2)
  replace H := H.add (rob0 hf1)
  replace H := H.add (rob0 hf0)
  refine WE.seq_reg ?_
  refine WL.box (l := kc k) H rfl (by rfl) rfl ?_
  intro b5 w1 H
  refine WL.as rfl rfl ?_
  refine WL.nil ?_
  refine WE.seq_reg ?_
  refine WL.mv rfl rfl ?_
  refine WL.mv rfl rfl ?_
  refine WL.call TrydT.fb10 rfl (Tree_c (i := i) (l := l) H.yylt (by exact H.rob 0 rfl) (by exact H.rob 1 rfl) (by exact H.rob 2 rfl) (by assumption) (by assumption) (by assumption)) ?_
  rintro _ w2 ⟨bv13, sv13, Tv13, mv13, rfl, hTv13, hbv13, hO, hS_, hR⟩
  replace H := ((H.out hO).add hR).add hS_
  refine WL.mv rfl rfl ?_
  refine WL.pv (PV.extract rfl rfl rfl) rfl ?_
  refine WL.pv (PV.extract rfl rfl rfl) rfl ?_
  refine WL.pv (PV.extract rfl rfl rfl) rfl ?_
  refine WL.as rfl rfl ?_
  refine WL.as rfl rfl ?_
  refine WL.as rfl rfl ?_
  refine WL.nil ?_
  refine WE.seq ?_
  refine WE.seq_reg ?_
  refine WL.mv rfl rfl ?_
  refine WL.pv (PV.not rfl rfl) rfl ?_
  refine WL.nil ?_
  refine WE.cond rfl (fun hc18 => ?_) (fun hc18 => ?_)
  · skip
    try simp only [decide_eq_true_eq, decide_eq_false_iff_not, ne_eq, Decidable.not_not, Bool.not_eq_true', Bool.not_eq_false', Bool.and_eq_true, Bool.or_eq_true, Bool.not_not, Bool.and_eq_false_iff, Bool.or_eq_false_iff, Int.not_lt, Int.not_le] at hc18
    refine WE.seq_reg ?_
    refine WL.call TrydT.fb11 rfl (alive11_c  H.yylt (by exact H.rob 4 rfl) ) ?_
    rintro _ w3 ⟨rfl, hO⟩
    replace H := H.out hO
    refine WL.as rfl rfl ?_
    refine WL.nil ?_
    refine WE.ret ?_
    refine ⟨[_], _, .nil _, ⟨rfl, trivial⟩, ?_⟩
    refine ⟨?_, H.toOut0⟩
    rfl
  · skip
    try simp only [decide_eq_true_eq, decide_eq_false_iff_not, ne_eq, Decidable.not_not, Bool.not_eq_true', Bool.not_eq_false', Bool.and_eq_true, Bool.or_eq_true, Bool.not_not, Bool.and_eq_false_iff, Bool.or_eq_false_iff, Int.not_lt, Int.not_le] at hc18
    obtain ⟨rfl, -, hfew⟩ := hbv13 (by exact hc18)
    have hok := ofM_ok l hkl
    have hpm := ofM_pm l hkl
    have hml : (ofM l).length ≤ 12 := Nat.le_trans hok.2.2.1 hfew.1
    have hvs := ofM_short hkl hfew.2
    have hsv : ShortV (ofM l) := fun e he => Nat.le_trans (hvs e he) (by decide)
    replace H := H.add (by exact (H.rob 3 rfl : Rob _ (Vals l) _).imp fun _ h => h.sub hok.2.2.2)
    have hone : OneS (ofM l) := OneS.of (H.p 0 rfl)
    have hfit : Tv13.er.fit 0 := hTv13 ▸ grow_fit hpm
    refine WE.skip ?_
    refine WE.seq_draw (.pick1 0 (.take 1 (.take 2 (.take 3 (.take 5 (.take 6 (.pick1 4 (.pick1 7 (.take 8 (.take 9 (.take 10 .done))))))))))) TrydT.mixed (by kernel_rfl) ?_
    replace H := H.out (Out.drew _)
    refine WP.pick1 rfl ?_
    refine WL.call TrydT.fb11 rfl (alive11_c  H.yylt (by exact H.rob 5 rfl) ) ?_
    rintro _ w4 ⟨rfl, hO⟩
    replace H := H.out hO
    refine WL.nil ⟨(fun _ h => by cases h), ?_⟩
    refine WP.mv rfl rfl rfl ?_
    refine WP.known (t := 21) (c := true) rfl (by rfl) ?_
    refine WP.mv rfl rfl rfl ?_
    refine WP.readA rfl rfl rfl TrydT.ag31 rfl (by exact Blk.segAt (H.l 0 rfl) (Seg.all _) (by rfl)) (by (rw [TrydT.sz31]; refine congrArg some ?_; (simp only [kc_length, kw_length, List.length_replicate, List.length_append, List.length_cons, List.length_nil, cutI_length, shaOf_length, dig_length, valD_length, rootM_length]; omega))) ?_
    refine WP.mv rfl rfl rfl ?_
    refine WP.readA rfl rfl rfl TrydT.ag31 rfl (by exact Blk.segAt (H.l 0 rfl) (Seg.all _) (by rfl)) (by (rw [TrydT.sz31]; refine congrArg some ?_; (simp only [kc_length, kw_length, List.length_replicate, List.length_append, List.length_cons, List.length_nil, cutI_length, shaOf_length, dig_length, valD_length, rootM_length]; omega))) ?_
    refine WP.pick1 rfl ?_
    refine WL.call TrydT.fb18 rfl (Rank_c (T := Tv13) (bits := i) (k := k) (m := ofM l) H.yylt (by exact H.rob 2 rfl) hTv13 hpm hok.1 hk (by omega)) ?_
    rintro _ w5 ⟨rfl, hO⟩
    replace H := H.out hO
    refine WL.nil ⟨(List.forall_mem_cons.2 ⟨(fun _ _ => (by exact Blk.segAt (H.l 0 rfl) (Seg.all _) (by rfl))), (List.forall_mem_cons.2 ⟨(by exact (fun h => absurd (show waits _ 4 3 = false from h) (by decide +kernel))), (fun _ h => by cases h)⟩)⟩), ?_⟩
    refine WP.pick1 rfl ?_
    refine WL.call TrydT.fb16 rfl (refRank_c (s := sv13) (m := ofM l) (k := k) H.yylt (by exact H.rob 1 rfl) hok.2.1 (by omega) hk) ?_
    rintro _ w6 ⟨rfl, hO⟩
    replace H := H.out hO
    refine WL.nil ⟨(List.forall_mem_cons.2 ⟨(by exact (fun h => absurd (show waits _ 7 6 = false from h) (by decide +kernel))), (List.forall_mem_cons.2 ⟨(by exact (fun h => absurd (show waits _ 7 3 = false from h) (by decide +kernel))), (fun _ h => by cases h)⟩)⟩), ?_⟩
    refine WP.take_pure rfl rfl (PV.eql rfl rfl rfl) ?_
    refine WP.take_pure rfl rfl (PV.pick_t rfl rfl rfl) ?_
    refine WP.as rfl rfl rfl ?_
    refine WP.done ?_
    refine WE.ret ?_
    refine ⟨[_], _, .nil _, ⟨rfl, trivial⟩, ?_⟩
    refine ⟨?_, H.toOut0⟩
    (show Value.bool _ = Value.bool true; (simp; done))

theorem WalkDepths_c {X : Nat → Prop} {w : World} {i : Int} {s : Value} {l : List En} (hX : ∀ b, X b → b < w.heap.size) (hf0 : Rob X (SlE s l) w) (hf1 : Rob X (Vals l) w) (hf2 : Rob X (Rounds) w) (hkl : KL l) (hlen : l.length ≤ 9223372036854775807) (hvl : ∀ e ∈ l, e.v.length ≤ 9223372036854775807) :
    Ret Tryd.prog 9 [.int .i64 i, s].toArray w fun v w' => v = .bool true ∧ Out Nil w w' := by
  refine Ret.of_body (N := 63) Tryd.func9 rfl rfl (by simp) ?_
  have H := St.begin hX
  replace H := H.add (rob0 hf2)
  replace H := H.add (rob0 hf1)
  replace H := H.add (rob0 hf0)
  refine WE.seq_reg ?_
  refine WL.as rfl rfl ?_
  refine WL.nil ?_
  refine WE.seq_reg ?_
  refine WL.mv rfl rfl ?_
  refine WL.mv rfl rfl ?_
  refine WL.call TrydT.fb10 rfl (Tree_c (i := i) (l := l) H.yylt (by exact H.rob 0 rfl) (by exact H.rob 1 rfl) (by exact H.rob 2 rfl) (by assumption) (by assumption) (by assumption)) ?_
  rintro _ w1 ⟨bv16, sv16, Tv16, mv16, rfl, hTv16, hbv16, hO, hS_, hR⟩
  replace H := ((H.out hO).add hR).add hS_
  refine WL.mv rfl rfl ?_
  refine WL.pv (PV.extract rfl rfl rfl) rfl ?_
  refine WL.pv (PV.extract rfl rfl rfl) rfl ?_
  refine WL.pv (PV.extract rfl rfl rfl) rfl ?_
  refine WL.as rfl rfl ?_
  refine WL.as rfl rfl ?_
  refine WL.as rfl rfl ?_
  refine WL.nil ?_
  refine WE.seq ?_
  refine WE.seq_reg ?_
  refine WL.mv rfl rfl ?_
  refine WL.pv (PV.not rfl rfl) rfl ?_
  refine WL.nil ?_
  refine WE.cond rfl (fun hc21 => ?_) (fun hc21 => ?_)
  · skip
    try simp only [decide_eq_true_eq, decide_eq_false_iff_not, ne_eq, Decidable.not_not, Bool.not_eq_true', Bool.not_eq_false', Bool.and_eq_true, Bool.or_eq_true, Bool.not_not, Bool.and_eq_false_iff, Bool.or_eq_false_iff, Int.not_lt, Int.not_le] at hc21
    refine WE.seq_reg ?_
    refine WL.call TrydT.fb11 rfl (alive11_c  H.yylt (by exact H.rob 4 rfl) ) ?_
    rintro _ w2 ⟨rfl, hO⟩
    replace H := H.out hO
    refine WL.as rfl rfl ?_
    refine WL.nil ?_
    refine WE.ret ?_
    refine ⟨[_], _, .nil _, ⟨rfl, trivial⟩, ?_⟩
    refine ⟨?_, H.toOut0⟩
    rfl
  · skip
    try simp only [decide_eq_true_eq, decide_eq_false_iff_not, ne_eq, Decidable.not_not, Bool.not_eq_true', Bool.not_eq_false', Bool.and_eq_true, Bool.or_eq_true, Bool.not_not, Bool.and_eq_false_iff, Bool.or_eq_false_iff, Int.not_lt, Int.not_le] at hc21
    obtain ⟨rfl, -, hfew⟩ := hbv16 (by exact hc21)
    have hok := ofM_ok l hkl
    have hpm := ofM_pm l hkl
    have hml : (ofM l).length ≤ 12 := Nat.le_trans hok.2.2.1 hfew.1
    have hvs := ofM_short hkl hfew.2
    have hsv : ShortV (ofM l) := fun e he => Nat.le_trans (hvs e he) (by decide)
    replace H := H.add (by exact (H.rob 3 rfl : Rob _ (Vals l) _).imp fun _ h => h.sub hok.2.2.2)
    have hone : OneS (ofM l) := OneS.of (H.p 0 rfl)
    have hfit : Tv16.er.fit 0 := hTv16 ▸ grow_fit hpm
    have hcm : Tv16.er.cnt = (ofM l).length := by rw [hTv16]; exact grow_cnt hpm
    refine WE.skip ?_
    refine WE.seq_reg ?_
    refine WL.mv rfl rfl ?_
    refine WL.call TrydT.fb27 rfl (Depths_c (T := Tv16) (bits := i) H.yylt (by exact H.rob 2 rfl) hfit (by omega)) ?_
    rintro v24 w3 ⟨hO, hR⟩
    replace H := (H.out hO).add hR
    refine WL.as rfl rfl ?_
    refine WL.nil ?_
    refine WE.seq ?_
    refine WE.seq_reg ?_
    refine WL.mv rfl rfl ?_
    refine WL.pv (PV.lenS (H.p 0 rfl : SlD v24 (depL Tv16) _) TrydT.sl61 rfl) rfl ?_
    refine WL.mv rfl rfl ?_
    refine WL.pv (PV.lenS (H.p 2 rfl : SlE sv16 (ofM l) _) TrydT.sl22 rfl) rfl ?_
    refine WL.pv (PV.neq rfl rfl rfl) rfl ?_
    refine WL.nil ?_
    refine WE.cond_f' rfl (by simp [depL_len, hcm]) ?_
    refine WE.skip ?_
    refine WE.seq ?_
    refine WE.seq_reg ?_
    refine WL.mv rfl rfl ?_
    refine WL.pv (PV.lenS (H.p 2 rfl : SlE sv16 (ofM l) _) TrydT.sl22 rfl) rfl ?_
    refine WL.mv rfl rfl ?_
    refine WL.nil ?_
    refine WE.block ?_
    refine WE.loop (α := Nat) [4, 9, 10, 11, 12, 32, 33, 34, 35, 36, 37, 38, 39, 40, 41, 42, 43, 44, 45, 46, 47, 48, 49, 50, 51, 52, 53, 54, 55, 56, 57, 58, 59, 60, 61] (fun j => [(32, .int .i64 (j : Int))]) (fun j wl => j ≤ (ofM l).length ∧ St X w wl [] [] [SlD v24 (depL Tv16), fun x => Vals (ofM l) x, SlE sv16 (ofM l), TrA i Tv16, SlE s l, Vals l, Rounds]) (fun j => (ofM l).length - j) 0 ⟨rfl, trivial⟩ ⟨Nat.zero_le _, H⟩ ?_
    intro j γ0 w4 hI
    try dsimp only at hI
    obtain ⟨hj, H⟩ := hI
    refine WE.seq_reg ?_
    refine WL.pv (PV.lss rfl rfl rfl) rfl ?_
    refine WL.nil ?_
    refine WE.seq ?_
    refine WE.cond rfl (fun hc33 => ?_) (fun hc33 => ?_)
    · skip
      try simp only [decide_eq_true_eq, decide_eq_false_iff_not, ne_eq, Decidable.not_not, Bool.not_eq_true', Bool.not_eq_false', Bool.and_eq_true, Bool.or_eq_true, Bool.not_not, Bool.and_eq_false_iff, Bool.or_eq_false_iff, Int.not_lt, Int.not_le] at hc33
      have hlt : j < (ofM l).length := by omega
      have hjd : j < (depL Tv16).length := by rw [depL_len]; omega
      have hkj := hok.2.1 _ (List.getElem_mem hlt)
      have hdj := depL_get hTv16 hpm hok.1 j hjd hlt
      have hdr := depR_eq hTv16 hpm (List.getElem_mem hlt)
      have hE2 : (enC (ofM l)[j]).length = 33 := enC_length hkj
      have hvj := hone _ (List.getElem_mem hlt)
      refine WE.skip ?_
      refine WE.seq ?_
      refine WE.block ?_
      refine WE.seq_reg ?_
      refine WL.mv rfl rfl ?_
      refine WL.pv (PV.idxS rfl (H.p 2 rfl : SlE sv16 (ofM l) _) TrydT.sl22 TrydT.sz34 rfl rfl (by omega) (by omega)) rfl ?_
      refine WL.loadR rfl TrydT.ag34 rfl rfl (SlE.rd (H.p 2 rfl : SlE sv16 (ofM l) _) hok.2.1 j hlt) (by (rw [TrydT.sz34]; refine congrArg some ?_; (simp [kc_length, kw_length, *]; done))) ?_
      refine WL.alloc H rfl TrydT.ze34 rfl ?_
      intro b10 w5 H
      refine WL.as rfl rfl ?_
      refine WL.storeL H 0 rfl rfl rfl (new := enC (ofM l)[j]) rfl (by (rw [TrydT.sz34]; refine congrArg some ?_; (simp [kc_length, kw_length, *]; done))) (one_enC hvj) (Laid.at (Laid.all (by (simp only [kc_length, kw_length, List.length_replicate, List.length_append, List.length_cons, List.length_nil, cutI_length, shaOf_length, dig_length, valD_length, rootM_length]; omega))) (by rfl)) rfl ?_
      intro w6 H
      refine WL.nil ?_
      refine WE.seq_reg ?_
      refine WL.mv rfl rfl ?_
      refine WL.pv (PV.fieldAddr rfl TrydT.fd34_0 rfl) rfl ?_
      refine WL.loadR rfl TrydT.ag31 rfl rfl (by exact Blk.segAt (H.l 0 rfl) (Seg.l (Seg.all _)) (by rfl)) (by (rw [TrydT.sz31]; refine congrArg some ?_; (simp only [kc_length, kw_length, List.length_replicate, List.length_append, List.length_cons, List.length_nil, cutI_length, shaOf_length, dig_length, valD_length, rootM_length]; omega))) ?_
      refine WL.call TrydT.fb28 rfl (Locate_c (T := Tv16) (k := (ofM l)[j].k) (bits := i) H.yylt (by exact H.rob 3 rfl) hkj hfit) ?_
      rintro _ w7 ⟨rfl, hO⟩
      replace H := H.out hO
      refine WL.mv rfl rfl ?_
      refine WL.pv (PV.extract rfl rfl rfl) rfl ?_
      refine WL.pv (PV.extract rfl rfl rfl) rfl ?_
      refine WL.as rfl rfl ?_
      refine WL.as rfl rfl ?_
      refine WL.nil ?_
      refine WE.seq_draw (.take 0 (.take 1 (.take 2 (.take 3 (.take 4 (.take 5 (.take 6 (.pick1 7 (.take 8 (.take 9 (.take 10 (.take 11 (.take 12 (.take 13 (.take 14 (.take 15 (.take 16 .done))))))))))))))))) TrydT.mixed (by kernel_rfl) ?_
      replace H := H.out (Out.drew _)
      refine WP.mv rfl rfl rfl ?_
      refine WP.mv rfl rfl rfl ?_
      refine WP.take_pure rfl rfl (PV.idxS rfl (H.p 0 rfl : SlD v24 (depL Tv16) _) TrydT.sl61 TrydT.sz3 rfl rfl (by omega) (by omega)) ?_
      refine WP.take_read rfl rfl (RV.loadOne rfl TrydT.ag3 rfl) (SlD.rd (H.p 0 rfl : SlD v24 (depL Tv16) _) j hjd) ?_
      refine WP.mv rfl rfl rfl ?_
      refine WP.take_pure rfl rfl (PV.fieldAddr rfl TrydT.fd34_0 rfl) ?_
      refine WP.readA rfl rfl rfl TrydT.ag31 rfl (by exact Blk.segAt (H.l 0 rfl) (Seg.l (Seg.all _)) (by rfl)) (by (rw [TrydT.sz31]; refine congrArg some ?_; (simp only [kc_length, kw_length, List.length_replicate, List.length_append, List.length_cons, List.length_nil, cutI_length, shaOf_length, dig_length, valD_length, rootM_length]; omega))) ?_
      refine WP.pick1 rfl ?_
      refine WL.call TrydT.fb29 rfl (refDepth_c (s := sv16) (m := ofM l) (k := (ofM l)[j].k) H.yylt (by exact H.rob 2 rfl) hok.2.1 (by omega) hkj) ?_
      rintro _ w8 ⟨rfl, hO⟩
      replace H := H.out hO
      refine WL.nil ⟨(List.forall_mem_cons.2 ⟨(by exact (fun h => absurd (show waits _ 7 6 = false from h) (by decide +kernel))), (List.forall_mem_cons.2 ⟨(fun _ _ => (SlD.rd (H.p 0 rfl : SlD v24 (depL Tv16) _) j hjd)), (fun _ h => by cases h)⟩)⟩), ?_⟩
      refine WP.take_pure rfl rfl (PV.neq rfl rfl rfl) ?_
      refine WP.mv rfl rfl rfl ?_
      refine WP.known (t := 53) (c := false) rfl (by (rw [hdj, hdr]; simp; done)) ?_
      refine WP.mv rfl rfl rfl ?_
      refine WP.mv rfl rfl rfl ?_
      refine WP.mv rfl rfl rfl ?_
      refine WP.take_pure rfl rfl (PV.idxS rfl (H.p 0 rfl : SlD v24 (depL Tv16) _) TrydT.sl61 TrydT.sz3 rfl rfl (by omega) (by omega)) ?_
      refine WP.take_read rfl rfl (RV.loadOne rfl TrydT.ag3 rfl) (SlD.rd (H.p 0 rfl : SlD v24 (depL Tv16) _) j hjd) ?_
      refine WP.take_pure rfl rfl (PV.neq rfl rfl rfl) ?_
      refine WP.take_pure rfl rfl (PV.pick_f rfl rfl rfl) ?_
      refine WP.done ?_
      refine WE.cond_f' rfl (by (rw [hdj]; simp; done)) ?_
      refine WE.skip ?_
      refine WE.reg ?_
      refine WL.pv (PV.add64 rfl rfl rfl (by omega) (by omega)) rfl ?_
      refine WL.mv rfl rfl ?_
      refine WL.nil ?_
      replace H := H.forget 0
      exact ⟨j + 1, (by repeat (first | with_reducible exact Off.refl _ _ | refine Off.upd rfl ?_ | refine Off.setAll rfl ?_ | refine Off.forget' rfl ?_)), ⟨rfl, trivial⟩, rfl, ⟨by omega, H⟩, (by omega)⟩
    · skip
      try simp only [decide_eq_true_eq, decide_eq_false_iff_not, ne_eq, Decidable.not_not, Bool.not_eq_true', Bool.not_eq_false', Bool.and_eq_true, Bool.or_eq_true, Bool.not_not, Bool.and_eq_false_iff, Bool.or_eq_false_iff, Int.not_lt, Int.not_le] at hc33
      refine WE.exit ?_
      refine WE.seq_reg ?_
      refine WL.call TrydT.fb11 rfl (alive11_c  H.yylt (by exact H.rob 6 rfl) ) ?_
      rintro _ w9 ⟨rfl, hO⟩
      replace H := H.out hO
      refine WL.as rfl rfl ?_
      refine WL.nil ?_
      refine WE.ret ?_
      refine ⟨[_], _, .nil _, ⟨rfl, trivial⟩, ?_⟩
      refine ⟨?_, H.toOut0⟩
      rfl

end Go.Sp.Tryd

set_option maxRecDepth 100000
set_option maxHeartbeats 1000000
set_option linter.unusedVariables false
set_option linter.unusedSimpArgs false
namespace Go.Sp.Tryd
open Go.Proofs Go.RowKit Go.Sp
theorem WalkNth_c {X : Nat → Prop} {w : World} {i z : Int} {s : Value} {l : List En} (hX : ∀ b, X b → b < w.heap.size) (hf0 : Rob X (SlE s l) w) (hf1 : Rob X (Vals l) w) (hf2 : Rob X (Rounds) w) (hkl : KL l) (hlen : l.length ≤ 9223372036854775807) (hvl : ∀ e ∈ l, e.v.length ≤ 9223372036854775807) :
    Ret Tryd.prog 7 [.int .i64 i, s, .int .i64 z].toArray w fun v w' => v = .bool true ∧ Out Nil w w' := by
  refine Ret.of_body (N := 75) Tryd.func7 rfl rfl (by simp) ?_
  have H := St.begin hX
  replace H := H.add (rob0 hf2)
  replace H := H.add (rob0 hf1)
  replace H := H.add (rob0 hf0)
  refine WE.seq_reg ?_
  refine WL.as rfl rfl ?_
  refine WL.nil ?_
  refine WE.seq_reg ?_
  refine WL.mv rfl rfl ?_
  refine WL.mv rfl rfl ?_
  refine WL.call TrydT.fb10 rfl (Tree_c (i := i) (l := l) H.yylt (by exact H.rob 0 rfl) (by exact H.rob 1 rfl) (by exact H.rob 2 rfl) (by assumption) (by assumption) (by assumption)) ?_
  rintro _ w1 ⟨bv15, sv15, Tv15, mv15, rfl, hTv15, hbv15, hO, hS_, hR⟩
  replace H := ((H.out hO).add hR).add hS_
  refine WL.mv rfl rfl ?_
  refine WL.pv (PV.extract rfl rfl rfl) rfl ?_
  refine WL.pv (PV.extract rfl rfl rfl) rfl ?_
  refine WL.pv (PV.extract rfl rfl rfl) rfl ?_
  refine WL.as rfl rfl ?_
  refine WL.as rfl rfl ?_
  refine WL.as rfl rfl ?_
  refine WL.nil ?_
  refine WE.seq ?_
  refine WE.seq_reg ?_
  refine WL.mv rfl rfl ?_
  refine WL.pv (PV.not rfl rfl) rfl ?_
  refine WL.nil ?_
  refine WE.cond rfl (fun hc20 => ?_) (fun hc20 => ?_)
  · skip
    try simp only [decide_eq_true_eq, decide_eq_false_iff_not, ne_eq, Decidable.not_not, Bool.not_eq_true', Bool.not_eq_false', Bool.and_eq_true, Bool.or_eq_true, Bool.not_not, Bool.and_eq_false_iff, Bool.or_eq_false_iff, Int.not_lt, Int.not_le] at hc20
    refine WE.seq_reg ?_
    refine WL.call TrydT.fb11 rfl (alive11_c  H.yylt (by exact H.rob 4 rfl) ) ?_
    rintro _ w2 ⟨rfl, hO⟩
    replace H := H.out hO
    refine WL.as rfl rfl ?_
    refine WL.nil ?_
    refine WE.ret ?_
    refine ⟨[_], _, .nil _, ⟨rfl, trivial⟩, ?_⟩
    refine ⟨?_, H.toOut0⟩
    rfl
  · skip
    try simp only [decide_eq_true_eq, decide_eq_false_iff_not, ne_eq, Decidable.not_not, Bool.not_eq_true', Bool.not_eq_false', Bool.and_eq_true, Bool.or_eq_true, Bool.not_not, Bool.and_eq_false_iff, Bool.or_eq_false_iff, Int.not_lt, Int.not_le] at hc20
    obtain ⟨rfl, -, hfew⟩ := hbv15 (by exact hc20)
    have hok := ofM_ok l hkl
    have hpm := ofM_pm l hkl
    have hml : (ofM l).length ≤ 12 := Nat.le_trans hok.2.2.1 hfew.1
    have hvs := ofM_short hkl hfew.2
    have hsv : ShortV (ofM l) := fun e he => Nat.le_trans (hvs e he) (by decide)
    replace H := H.add (by exact (H.rob 3 rfl : Rob _ (Vals l) _).imp fun _ h => h.sub hok.2.2.2)
    have hone : OneS (ofM l) := OneS.of (H.p 0 rfl)
    have hfit : Tv15.er.fit 0 := hTv15 ▸ grow_fit hpm
    have hcm : Tv15.er.cnt = (ofM l).length := by rw [hTv15]; exact grow_cnt hpm
    refine WE.skip ?_
    refine WE.seq_reg ?_
    refine WL.mv rfl rfl ?_
    refine WL.mv rfl rfl ?_
    refine WL.call TrydT.fb19 rfl (Nth_c (T := Tv15) (bits := i) H.yylt (by exact (H.rob 2 rfl : Rob _ (TrA i Tv15) _)) (by omega)) ?_
    rintro _ w3 ⟨b25, q25, u25, s25, rfl, hq25, hO, hOwn, hb25, hv25, hz25⟩
    have hs25 := SlC.one1 (SlB.of_own hOwn)
    have hr25 := (rob_own H.yylt hOwn).imp fun _ h => SlB.of_own h
    replace H := (H.out hO).add hr25
    have hE2 : (kc q25 ++ [s25]).length = 33 := by simp [kc_length, hq25]
    refine WL.mv rfl rfl ?_
    refine WL.pv (PV.extract rfl rfl rfl) rfl ?_
    refine WL.pv (PV.extract rfl rfl rfl) rfl ?_
    refine WL.alloc H rfl TrydT.ze34 rfl ?_
    intro b10 w4 H
    refine WL.storeL H 0 rfl rfl rfl (new := kc q25 ++ [s25]) rfl (by (rw [TrydT.sz34]; refine congrArg some ?_; (simp only [kc_length, kw_length, List.length_replicate, List.length_append, List.length_cons, List.length_nil, cutI_length, shaOf_length, dig_length, valD_length, rootM_length]; omega))) (one_en hs25) (Laid.at (Laid.all (by (simp only [kc_length, kw_length, List.length_replicate, List.length_append, List.length_cons, List.length_nil, cutI_length, shaOf_length, dig_length, valD_length, rootM_length]; omega))) (by rfl)) rfl ?_
    intro w5 H
    refine WL.as rfl rfl ?_
    refine WL.nil ?_
    refine WE.seq ?_
    refine WE.seq_reg ?_
    refine WL.mv rfl rfl ?_
    refine WL.pv (PV.lss rfl rfl rfl) rfl ?_
    refine WL.mv rfl rfl ?_
    refine WL.split (t := 30) rfl (fun hg30 => ?_) (fun hg30 => ?_)
    · skip
      refine WL.known (t := 29) (c := true) rfl hg30 ?_
      try simp only [decide_eq_true_eq, decide_eq_false_iff_not, ne_eq, Decidable.not_not, Bool.not_eq_true', Bool.not_eq_false', Bool.and_eq_true, Bool.or_eq_true, Bool.not_not, Bool.and_eq_false_iff, Bool.or_eq_false_iff, Int.not_lt, Int.not_le] at hg30
      have hzo : z < 0 := by exact hg30
      obtain rfl : b25 = false := by cases hb_ : b25; rfl; exact absurd (hb25.1 hb_) (by omega)
      obtain ⟨rfl, rfl⟩ := hz25 rfl
      refine WL.off rfl ?_
      refine WL.off rfl ?_
      refine WL.off rfl ?_
      refine WL.off rfl ?_
      refine WL.pv (PV.pick_t rfl rfl rfl) rfl ?_
      refine WL.nil ?_
      refine WE.cond_t rfl ?_
      refine WE.seq_reg ?_
      refine WL.call TrydT.fb11 rfl (alive11_c  H.yylt (by exact H.rob 6 rfl) ) ?_
      rintro _ w6 ⟨rfl, hO⟩
      replace H := H.out hO
      refine WL.mv rfl rfl ?_
      refine WL.known (t := 37) (c := true) rfl (by rfl) ?_
      refine WL.mv rfl rfl ?_
      refine WL.pv (PV.not rfl rfl) rfl ?_
      refine WL.pv (PV.pick_t rfl rfl rfl) rfl ?_
      refine WL.mv rfl rfl ?_
      refine WL.known (t := 41) (c := true) rfl (by rfl) ?_
      refine WL.pv (PV.fieldAddr rfl TrydT.fd34_0 rfl) rfl ?_
      refine WL.loadR rfl TrydT.ag31 rfl rfl (by exact Blk.segAt (H.l 0 rfl) (Seg.l (Seg.all _)) (by rfl)) (by exact TrydT.sz31) ?_
      refine WL.pv (PV.buildA rfl TrydT.ar31 TrydT.sz5 TrydT.ze31 Fl.nil) rfl ?_
      refine WL.pv (PV.eqlB rfl TrydT.ar31 TrydT.in5 TrydT.sz5 (by kernel_rfl) rfl rfl (by assumption) (by assumption)) rfl ?_
      refine WL.pv (PV.pick_t rfl rfl rfl) rfl ?_
      refine WL.mv rfl rfl ?_
      refine WL.known (t := 47) (c := true) rfl (by rfl) ?_
      refine WL.pv (PV.fieldAddr rfl TrydT.fd34_1 rfl) rfl ?_
      refine WL.load1 rfl TrydT.ag32 rfl rfl (by exact Blk.segAt (H.l 0 rfl) (Seg.r (Seg.all _) (by with_reducible rfl)) (by rfl)) ?_
      refine WL.pv (PV.lenS (H.p 0 rfl) TrydT.sl32 rfl) rfl ?_
      refine WL.pv (PV.eql rfl rfl rfl) rfl ?_
      refine WL.pv (PV.pick_t rfl rfl rfl) rfl ?_
      refine WL.as rfl rfl ?_
      refine WL.nil ?_
      refine WE.ret ?_
      refine ⟨[_], _, .nil _, ⟨rfl, trivial⟩, ?_⟩
      refine ⟨?_, H.toOut0⟩
      rfl
    · skip
      refine WL.known (t := 29) (c := false) rfl hg30 ?_
      try simp only [decide_eq_true_eq, decide_eq_false_iff_not, ne_eq, Decidable.not_not, Bool.not_eq_true', Bool.not_eq_false', Bool.and_eq_true, Bool.or_eq_true, Bool.not_not, Bool.and_eq_false_iff, Bool.or_eq_false_iff, Int.not_lt, Int.not_le] at hg30
      have hzp : ¬ z < 0 := by omega
      refine WL.mv rfl rfl ?_
      refine WL.mv rfl rfl ?_
      refine WL.pv (PV.lenS (by exact (H.p 2 rfl : SlE sv15 (ofM l) _)) TrydT.sl22 rfl) rfl ?_
      refine WL.pv (PV.geq rfl rfl rfl) rfl ?_
      refine WL.pv (PV.pick_f rfl rfl rfl) rfl ?_
      refine WL.nil ?_
      refine WE.cond rfl (fun hc35 => ?_) (fun hc35 => ?_)
      · skip
        try simp only [decide_eq_true_eq, decide_eq_false_iff_not, ne_eq, Decidable.not_not, Bool.not_eq_true', Bool.not_eq_false', Bool.and_eq_true, Bool.or_eq_true, Bool.not_not, Bool.and_eq_false_iff, Bool.or_eq_false_iff, Int.not_lt, Int.not_le] at hc35
        obtain rfl : b25 = false := by cases hb_ : b25; rfl; exact absurd (hb25.1 hb_) (by omega)
        obtain ⟨rfl, rfl⟩ := hz25 rfl
        refine WE.seq_reg ?_
        refine WL.call TrydT.fb11 rfl (alive11_c  H.yylt (by exact H.rob 6 rfl) ) ?_
        rintro _ w7 ⟨rfl, hO⟩
        replace H := H.out hO
        refine WL.mv rfl rfl ?_
        refine WL.known (t := 37) (c := true) rfl (by rfl) ?_
        refine WL.mv rfl rfl ?_
        refine WL.pv (PV.not rfl rfl) rfl ?_
        refine WL.pv (PV.pick_t rfl rfl rfl) rfl ?_
        refine WL.mv rfl rfl ?_
        refine WL.known (t := 41) (c := true) rfl (by rfl) ?_
        refine WL.pv (PV.fieldAddr rfl TrydT.fd34_0 rfl) rfl ?_
        refine WL.loadR rfl TrydT.ag31 rfl rfl (by exact Blk.segAt (H.l 0 rfl) (Seg.l (Seg.all _)) (by rfl)) (by exact TrydT.sz31) ?_
        refine WL.pv (PV.buildA rfl TrydT.ar31 TrydT.sz5 TrydT.ze31 Fl.nil) rfl ?_
        refine WL.pv (PV.eqlB rfl TrydT.ar31 TrydT.in5 TrydT.sz5 (by kernel_rfl) rfl rfl (by assumption) (by assumption)) rfl ?_
        refine WL.pv (PV.pick_t rfl rfl rfl) rfl ?_
        refine WL.mv rfl rfl ?_
        refine WL.known (t := 47) (c := true) rfl (by rfl) ?_
        refine WL.pv (PV.fieldAddr rfl TrydT.fd34_1 rfl) rfl ?_
        refine WL.load1 rfl TrydT.ag32 rfl rfl (by exact Blk.segAt (H.l 0 rfl) (Seg.r (Seg.all _) (by with_reducible rfl)) (by rfl)) ?_
        refine WL.pv (PV.lenS (H.p 0 rfl) TrydT.sl32 rfl) rfl ?_
        refine WL.pv (PV.eql rfl rfl rfl) rfl ?_
        refine WL.pv (PV.pick_t rfl rfl rfl) rfl ?_
        refine WL.as rfl rfl ?_
        refine WL.nil ?_
        refine WE.ret ?_
        refine ⟨[_], _, .nil _, ⟨rfl, trivial⟩, ?_⟩
        refine ⟨?_, H.toOut0⟩
        rfl
      · skip
        try simp only [decide_eq_true_eq, decide_eq_false_iff_not, ne_eq, Decidable.not_not, Bool.not_eq_true', Bool.not_eq_false', Bool.and_eq_true, Bool.or_eq_true, Bool.not_not, Bool.and_eq_false_iff, Bool.or_eq_false_iff, Int.not_lt, Int.not_le] at hc35
        have hin : 0 ≤ z ∧ z < ((ofM l).length : Int) := by omega
        obtain rfl : b25 = true := hb25.2 (by omega)
        obtain ⟨n, rfl⟩ := Int.eq_ofNat_of_zero_le hin.1
        have hn : n < (ofM l).length := by omega
        have hng := nth_get hTv15 hpm hok.1 hn
        have hqk : q25 = (ofM l)[n].k := (hv25 rfl).1.trans hng.1
        have huv : u25 = (ofM l)[n].v := (hv25 rfl).2.trans hng.2
        have hkn := hok.2.1 _ (List.getElem_mem hn)
        have hvn := hsv _ (List.getElem_mem hn)
        have hrk : rankM (ofM l) q25 = n := by rw [hqk]; exact rank_nth hok.1 hn
        have hdt : ((ofM l).drop n).take (n + 1 - n) = [(ofM l)[n]] := by rw [List.drop_eq_getElem_cons hn, show n + 1 - n = 1 by omega]; rfl
        have hkA : KL [(En.mk q25 s25 u25)] := fun e he => by rw [List.mem_singleton.1 he]; exact hq25
        have hkB : KL (((ofM l).drop n).take (n + 1 - n)) := (hok.2.1.drop n).take _
        have hvA : ∀ e ∈ [(En.mk q25 s25 u25)], e.v.length ≤ 1000000 := fun e he => by rw [List.mem_singleton.1 he]; show u25.length ≤ _; rw [huv]; exact hvn
        have hSm : SameE [(En.mk q25 s25 u25)] (((ofM l).drop n).take (n + 1 - n)) := by rw [hdt]; exact SameE.of_kv (by simp [kvL, hqk, huv])
        replace H := H.add (show Rob _ (Vals (((ofM l).drop n).take (n + 1 - n))) _ from (by exact (H.rob 1 rfl : Rob _ (Vals (ofM l)) _).imp fun _ h e he => h e (List.mem_of_mem_drop (List.mem_of_mem_take he))))
        replace H := H.add (show Rob _ (SlE (subSl sv15 33 n (n + 1)) (((ofM l).drop n).take (n + 1 - n))) _ from (by exact (H.rob 3 rfl : Rob _ (SlE sv15 (ofM l)) _).imp fun _ h => SlE.sub h hok.2.1 (by omega) (by omega)))
        refine WE.skip ?_
        refine WE.seq_draw (.pick1 0 (.take 1 (.take 2 (.take 3 (.take 4 (.take 5 (.take 7 (.take 8 (.take 9 (.take 10 (.take 11 (.pick1 6 (.pick1 12 (.take 13 (.take 14 (.take 15 (.take 16 (.take 17 (.take 19 (.pick1 18 (.take 20 (.take 21 (.take 22 .done))))))))))))))))))))))) TrydT.mixed (by kernel_rfl) ?_
        replace H := H.out (Out.drew _)
        refine WP.pick1 rfl ?_
        refine WL.call TrydT.fb11 rfl (alive11_c  H.yylt (by exact H.rob 8 rfl) ) ?_
        rintro _ w8 ⟨rfl, hO⟩
        replace H := H.out hO
        refine WL.nil ⟨(fun _ h => by cases h), ?_⟩
        refine WP.mv rfl rfl rfl ?_
        refine WP.known (t := 54) (c := true) rfl (by rfl) ?_
        refine WP.mv rfl rfl rfl ?_
        refine WP.take_pure rfl rfl (PV.pick_t rfl rfl rfl) ?_
        refine WP.mv rfl rfl rfl ?_
        refine WP.known (t := 57) (c := true) rfl (by rfl) ?_
        refine WP.readA rfl rfl rfl TrydT.ag34 rfl (by exact Blk.segAt (H.l 0 rfl) (Seg.all _) (by rfl)) (by (rw [TrydT.sz34]; refine congrArg some ?_; (simp only [kc_length, kw_length, List.length_replicate, List.length_append, List.length_cons, List.length_nil, cutI_length, shaOf_length, dig_length, valD_length, rootM_length]; omega))) ?_
        refine WP.mv rfl rfl rfl ?_
        refine WP.mv rfl rfl rfl ?_
        refine WP.mv rfl rfl rfl ?_
        refine WP.take_pure rfl rfl (PV.add64 rfl rfl rfl (by omega) (by omega)) ?_
        refine WP.take_pure rfl rfl (PV.subLH rfl (by exact (H.p 4 rfl : SlE sv15 (ofM l) _)) TrydT.sl22 TrydT.sz34 rfl rfl rfl (by omega) (by omega)) ?_
        refine WP.pick1 rfl ?_
        refine WL.buildSliceF (l0 := ((kc (List.replicate 32 0) ++ ([.slice none 0 0])))) H rfl TrydT.st22 (by decide) (by rfl) (Fl.cons rfl (by rfl) (by (simp only [kc_length, kw_length, List.length_replicate, List.length_append, List.length_cons, List.length_nil, cutI_length, shaOf_length, dig_length, valD_length, rootM_length]; omega)) (Laid.all (by (simp only [kc_length, kw_length, List.length_replicate, List.length_append, List.length_cons, List.length_nil, cutI_length, shaOf_length, dig_length, valD_length, rootM_length]; omega))) Fl.nil) rfl ?_
        intro b59 w9 H
        replace H := H.freeze (i := 0) rfl
        replace H := H.add (show Rob _ (Vals [(En.mk q25 s25 u25)]) _ from (by first | exact (H.rob 0 rfl : Rob _ (SlB s25 u25) _).imp fun _ h e he => by rw [List.mem_singleton.1 he]; exact h | exact (H.rob 1 rfl : Rob _ (SlB s25 u25) _).imp fun _ h e he => by rw [List.mem_singleton.1 he]; exact h | exact (H.rob 2 rfl : Rob _ (SlB s25 u25) _).imp fun _ h e he => by rw [List.mem_singleton.1 he]; exact h | exact (H.rob 3 rfl : Rob _ (SlB s25 u25) _).imp fun _ h e he => by rw [List.mem_singleton.1 he]; exact h))
        replace H := H.add (show Rob _ (SlE (.slice (some ⟨b59, 0, none⟩) 1 1) [(En.mk q25 s25 u25)]) _ from (H.rob 1 rfl).imp fun _ h => SlE.of1 (e := En.mk q25 s25 u25) (by exact h) hq25)
        refine WL.nil ⟨(List.forall_mem_cons.2 ⟨(by exact (fun h => absurd (show waits _ 6 5 = false from h) (by decide +kernel))), (fun _ h => by cases h)⟩), ?_⟩
        refine WP.pick1 rfl ?_
        refine WL.call TrydT.fb14 rfl (refSameE_c (la := [(En.mk q25 s25 u25)]) (lb := ((ofM l).drop n).take (n + 1 - n)) H.yylt (by exact (H.rob 0 rfl : Rob _ (SlE (.slice (some ⟨b59, 0, none⟩) 1 1) [(En.mk q25 s25 u25)]) _)) (by exact (H.rob 1 rfl : Rob _ (Vals [(En.mk q25 s25 u25)]) _)) (by exact (H.rob 3 rfl : Rob _ (SlE (subSl sv15 33 n (n + 1)) (((ofM l).drop n).take (n + 1 - n))) _)) (by exact (H.rob 4 rfl : Rob _ (Vals (((ofM l).drop n).take (n + 1 - n))) _)) hkA hkB (by simp) hvA hSm) ?_
        rintro _ w10 ⟨rfl, hO⟩
        replace H := H.out hO
        refine WL.nil ⟨(List.forall_mem_cons.2 ⟨(by exact (fun h => absurd (show waits _ 12 5 = false from h) (by decide +kernel))), (fun _ h => by cases h)⟩), ?_⟩
        refine WP.take_pure rfl rfl (PV.pick_t rfl rfl rfl) ?_
        refine WP.mv rfl rfl rfl ?_
        refine WP.known (t := 67) (c := true) rfl (by rfl) ?_
        refine WP.mv rfl rfl rfl ?_
        refine WP.take_pure rfl rfl (PV.fieldAddr rfl TrydT.fd34_0 rfl) ?_
        refine WP.readA rfl rfl rfl TrydT.ag31 rfl (by exact Blk.segAt (H.l 0 rfl) (Seg.l (Seg.all _)) (by rfl)) (by (rw [TrydT.sz31]; refine congrArg some ?_; (simp only [kc_length, kw_length, List.length_replicate, List.length_append, List.length_cons, List.length_nil, cutI_length, shaOf_length, dig_length, valD_length, rootM_length]; omega))) ?_
        refine WP.mv rfl rfl rfl ?_
        refine WP.pick1 rfl ?_
        refine WL.call TrydT.fb18 rfl (Rank_c (T := Tv15) (bits := i) (k := q25) (m := ofM l) H.yylt (by exact H.rob 8 rfl) hTv15 hpm hok.1 hq25 (by omega)) ?_
        rintro _ w11 ⟨rfl, hO⟩
        replace H := H.out hO
        rw [hrk]
        refine WL.nil ⟨(List.forall_mem_cons.2 ⟨(by exact (fun h => absurd (show waits _ 18 17 = false from h) (by decide +kernel))), (List.forall_mem_cons.2 ⟨(by exact (fun h => absurd (show waits _ 18 5 = false from h) (by decide +kernel))), (fun _ h => by cases h)⟩)⟩), ?_⟩
        refine WP.take_pure rfl rfl (PV.eql rfl rfl rfl) ?_
        refine WP.take_pure rfl rfl (PV.pick_t rfl rfl rfl) ?_
        refine WP.as rfl rfl rfl ?_
        refine WP.done ?_
        refine WE.ret ?_
        refine ⟨[_], _, .nil _, ⟨rfl, trivial⟩, ?_⟩
        refine ⟨?_, H.toOut0⟩
        (show Value.bool _ = Value.bool true; (simp; done))

theorem WalkFrom_c {X : Nat → Prop} {w : World} {i z : Int} {s : Value} {l : List En} {k : List UInt8} (hX : ∀ b, X b → b < w.heap.size) (hf0 : Rob X (SlE s l) w) (hf1 : Rob X (Vals l) w) (hf2 : Rob X (Rounds) w) (hkl : KL l) (hlen : l.length ≤ 9223372036854775807) (hvl : ∀ e ∈ l, e.v.length ≤ 9223372036854775807) (hk : k.length = 32) :
    Ret Tryd.prog 5 [.int .i64 i, s, .agg (kc k ++ [Value.int .i64 z]).toArray].toArray w fun v w' => v = .bool true ∧ Out Nil w w' := by
  refine Ret.of_body (N := 50) Tryd.func5 rfl rfl (by simp) ?_
  have H := St.begin hX
  replace H := H.add (rob0 hf2)
  replace H := H.add (rob0 hf1)
  replace H := H.add (rob0 hf0)
  refine WE.seq_reg ?_
  refine WL.box (l := kc k ++ [Value.int .i64 z]) H rfl (by rfl) rfl ?_
  intro b5 w1 H
  refine WL.as rfl rfl ?_
  refine WL.nil ?_
  refine WE.seq_reg ?_
  refine WL.mv rfl rfl ?_
  refine WL.mv rfl rfl ?_
  refine WL.call TrydT.fb10 rfl (Tree_c (i := i) (l := l) H.yylt (by exact H.rob 0 rfl) (by exact H.rob 1 rfl) (by exact H.rob 2 rfl) (by assumption) (by assumption) (by assumption)) ?_
  rintro _ w2 ⟨bv15, sv15, Tv15, mv15, rfl, hTv15, hbv15, hO, hS_, hR⟩
  replace H := ((H.out hO).add hR).add hS_
  refine WL.mv rfl rfl ?_
  refine WL.pv (PV.extract rfl rfl rfl) rfl ?_
  refine WL.pv (PV.extract rfl rfl rfl) rfl ?_
  refine WL.pv (PV.extract rfl rfl rfl) rfl ?_
  refine WL.as rfl rfl ?_
  refine WL.as rfl rfl ?_
  refine WL.as rfl rfl ?_
  refine WL.nil ?_
  refine WE.seq ?_
  refine WE.seq_reg ?_
  refine WL.mv rfl rfl ?_
  refine WL.pv (PV.not rfl rfl) rfl ?_
  refine WL.nil ?_
  refine WE.cond rfl (fun hc20 => ?_) (fun hc20 => ?_)
  · skip
    try simp only [decide_eq_true_eq, decide_eq_false_iff_not, ne_eq, Decidable.not_not, Bool.not_eq_true', Bool.not_eq_false', Bool.and_eq_true, Bool.or_eq_true, Bool.not_not, Bool.and_eq_false_iff, Bool.or_eq_false_iff, Int.not_lt, Int.not_le] at hc20
    refine WE.seq_reg ?_
    refine WL.call TrydT.fb11 rfl (alive11_c  H.yylt (by exact H.rob 4 rfl) ) ?_
    rintro _ w3 ⟨rfl, hO⟩
    replace H := H.out hO
    refine WL.as rfl rfl ?_
    refine WL.nil ?_
    refine WE.ret ?_
    refine ⟨[_], _, .nil _, ⟨rfl, trivial⟩, ?_⟩
    refine ⟨?_, H.toOut0⟩
    rfl
  · skip
    try simp only [decide_eq_true_eq, decide_eq_false_iff_not, ne_eq, Decidable.not_not, Bool.not_eq_true', Bool.not_eq_false', Bool.and_eq_true, Bool.or_eq_true, Bool.not_not, Bool.and_eq_false_iff, Bool.or_eq_false_iff, Int.not_lt, Int.not_le] at hc20
    obtain ⟨rfl, -, hfew⟩ := hbv15 (by exact hc20)
    have hok := ofM_ok l hkl
    have hpm := ofM_pm l hkl
    have hml : (ofM l).length ≤ 12 := Nat.le_trans hok.2.2.1 hfew.1
    have hvs := ofM_short hkl hfew.2
    have hsv : ShortV (ofM l) := fun e he => Nat.le_trans (hvs e he) (by decide)
    replace H := H.add (by exact (H.rob 3 rfl : Rob _ (Vals l) _).imp fun _ h => h.sub hok.2.2.2)
    have hone : OneS (ofM l) := OneS.of (H.p 0 rfl)
    have hfit : Tv15.er.fit 0 := hTv15 ▸ grow_fit hpm
    have hcm : Tv15.er.cnt = (ofM l).length := by rw [hTv15]; exact grow_cnt hpm
    have hrl := rankM_le (ofM l) k
    have hDl : ((ofM l).drop (rankM (ofM l) k)).length = (ofM l).length - (rankM (ofM l) k) := List.length_drop
    have hkD : KL ((ofM l).drop (rankM (ofM l) k)) := hok.2.1.drop _
    replace H := H.add (show Rob _ (Vals (((ofM l).drop (rankM (ofM l) k)).take z.toNat)) _ from (by exact (H.rob 0 rfl : Rob _ (Vals (ofM l)) _).imp fun _ h => fun e he => h e (List.mem_of_mem_drop (List.mem_of_mem_take he))))
    refine WE.skip ?_
    refine WE.seq_reg ?_
    refine WL.mv rfl rfl ?_
    refine WL.pv (PV.fieldAddr rfl TrydT.fd41_0 rfl) rfl ?_
    refine WL.loadR rfl TrydT.ag31 rfl rfl (by exact Blk.segAt (H.l 0 rfl) (Seg.l (Seg.all _)) (by rfl)) (by (rw [TrydT.sz31]; refine congrArg some ?_; (simp only [kc_length, kw_length, List.length_replicate, List.length_append, List.length_cons, List.length_nil, cutI_length, shaOf_length, dig_length, valD_length, rootM_length]; omega))) ?_
    refine WL.call TrydT.fb16 rfl (refRank_c (s := sv15) (m := ofM l) (k := k) H.yylt (by exact H.rob 2 rfl) hok.2.1 (by omega) hk) ?_
    rintro _ w4 ⟨rfl, hO⟩
    replace H := H.out hO
    refine WL.as rfl rfl ?_
    refine WL.nil ?_
    refine WE.seq_reg ?_
    refine WL.mv rfl rfl ?_
    refine WL.mv rfl rfl ?_
    refine WL.pv (PV.eq (v' := (subSl sv15 33 (rankM (ofM l) k) (ofM l).length)) (PV.subL rfl (by exact (H.p 2 rfl : (SlE sv15 (ofM l)) _)) TrydT.sl22 TrydT.sz34 rfl rfl (by omega) (by omega)) rfl) rfl ?_
    replace H := H.add (show Rob _ (SlE (subSl sv15 33 (rankM (ofM l) k) (ofM l).length) ((ofM l).drop (rankM (ofM l) k))) _ from (by exact (H.rob 2 rfl : Rob _ (SlE sv15 (ofM l)) _).imp fun _ h => (by have h_ := SlE.sub h hok.2.1 hrl (Nat.le_refl _); rwa [List.take_of_length_le (by omega)] at h_)))
    refine WL.as rfl rfl ?_
    refine WL.nil ?_
    refine WE.seq ?_
    refine WE.seq_reg ?_
    refine WL.pv (PV.fieldAddr rfl TrydT.fd41_1 rfl) rfl ?_
    refine WL.load1 rfl TrydT.ag3 rfl rfl (by exact Blk.segAt (H.l 0 rfl) (Seg.r (Seg.all _) (by with_reducible rfl)) (by (simp [kc_length, kw_length, *]; done))) ?_
    refine WL.mv rfl rfl ?_
    refine WL.pv (PV.lenS (by exact (H.p 0 rfl : (SlE (subSl sv15 33 (rankM (ofM l) k) (ofM l).length) ((ofM l).drop (rankM (ofM l) k))) _)) TrydT.sl22 rfl) rfl ?_
    refine WL.pv (PV.lss rfl rfl rfl) rfl ?_
    refine WL.nil ?_
    refine WE.cond rfl (fun hc33 => ?_) (fun hc33 => ?_)
    · skip
      try simp only [decide_eq_true_eq, decide_eq_false_iff_not, ne_eq, Decidable.not_not, Bool.not_eq_true', Bool.not_eq_false', Bool.and_eq_true, Bool.or_eq_true, Bool.not_not, Bool.and_eq_false_iff, Bool.or_eq_false_iff, Int.not_lt, Int.not_le] at hc33
      have hzl : z < ((((ofM l).drop (rankM (ofM l) k)).length : Nat) : Int) := by exact hc33
      refine WE.reg ?_
      refine WL.mv rfl rfl ?_
      refine WL.pv (PV.fieldAddr rfl TrydT.fd41_1 rfl) rfl ?_
      refine WL.load1 rfl TrydT.ag3 rfl rfl (by exact Blk.segAt (H.l 0 rfl) (Seg.r (Seg.all _) (by with_reducible rfl)) (by (simp [kc_length, kw_length, *]; done))) ?_
      refine WL.pv (PV.eq (v' := .int .i64 ((z.toNat : Nat) : Int)) (PV.maxI rfl rfl) (by congr 1; omega)) rfl ?_
      refine WL.pv (PV.eq (v' := (subSl (subSl sv15 33 (rankM (ofM l) k) (ofM l).length) 33 0 z.toNat)) (PV.subH rfl (by exact (H.p 0 rfl : (SlE (subSl sv15 33 (rankM (ofM l) k) (ofM l).length) ((ofM l).drop (rankM (ofM l) k))) _)) TrydT.sl22 TrydT.sz34 rfl rfl (by omega) (by omega)) rfl) rfl ?_
      replace H := H.add (show Rob _ (SlE (subSl (subSl sv15 33 (rankM (ofM l) k) (ofM l).length) 33 0 z.toNat) (((ofM l).drop (rankM (ofM l) k)).take z.toNat)) _ from (by exact (H.rob 0 rfl : Rob _ (SlE (subSl sv15 33 (rankM (ofM l) k) (ofM l).length) ((ofM l).drop (rankM (ofM l) k))) _).imp fun _ h => (by have h_ := SlE.sub h hkD (Nat.zero_le z.toNat) (by omega); rwa [List.drop_zero, Nat.sub_zero] at h_)))
      refine WL.as rfl rfl ?_
      refine WL.nil ?_
      refine WE.seq_reg ?_
      refine WL.call TrydT.fb11 rfl (alive11_c  H.yylt (by exact H.rob 8 rfl) ) ?_
      rintro _ w5 ⟨rfl, hO⟩
      replace H := H.out hO
      refine WL.mv rfl rfl ?_
      refine WL.known (t := 40) (c := true) rfl (by rfl) ?_
      refine WL.mv rfl rfl ?_
      refine WL.pv (PV.fieldAddr rfl TrydT.fd41_0 rfl) rfl ?_
      refine WL.loadR rfl TrydT.ag31 rfl rfl (by exact Blk.segAt (H.l 0 rfl) (Seg.l (Seg.all _)) (by rfl)) (by (rw [TrydT.sz31]; refine congrArg some ?_; (simp only [kc_length, kw_length, List.length_replicate, List.length_append, List.length_cons, List.length_nil, cutI_length, shaOf_length, dig_length, valD_length, rootM_length]; omega))) ?_
      refine WL.pv (PV.fieldAddr rfl TrydT.fd41_1 rfl) rfl ?_
      refine WL.load1 rfl TrydT.ag3 rfl rfl (by exact Blk.segAt (H.l 0 rfl) (Seg.r (Seg.all _) (by with_reducible rfl)) (by (simp [kc_length, kw_length, *]; done))) ?_
      refine WL.call TrydT.fb17 rfl (From_c (T := Tv15) (bits := i) (k := k) (m := ofM l) (z := z) H.yylt (by exact (H.rob 5 rfl : Rob _ (TrA i Tv15) _)) hTv15 hpm hok.1 hk (by omega)) ?_
      rintro v46 w6 ⟨es46, hO, hS46, hV46, hes46⟩
      replace H := ((H.out hO).add hV46).add hS46
      have hkv : kvL es46 = kvL (((ofM l).drop (rankM (ofM l) k)).take z.toNat) := by rw [kvL_take]; exact hes46
      have hkL : KL (((ofM l).drop (rankM (ofM l) k)).take z.toNat) := hkD.take _
      have hvL : ∀ e ∈ (((ofM l).drop (rankM (ofM l) k)).take z.toNat), e.v.length ≤ 1000000 := fun e he => hsv e (List.mem_of_mem_drop (List.mem_of_mem_take he))
      have hel46 := (kvL_eq hkv).1
      have hlL : (((ofM l).drop (rankM (ofM l) k)).take z.toNat).length ≤ 12 := by rw [List.length_take]; omega
      refine WL.mv rfl rfl ?_
      refine WL.call TrydT.fb14 rfl (refSameE_c (la := es46) (lb := (((ofM l).drop (rankM (ofM l) k)).take z.toNat)) H.yylt (by exact (H.rob 0 rfl : Rob _ (SlE v46 es46) _)) (by exact (H.rob 1 rfl : Rob _ (Vals es46) _)) (by exact (H.rob 2 rfl : Rob _ (SlE _ (((ofM l).drop (rankM (ofM l) k)).take z.toNat)) _)) (by exact (H.rob 4 rfl : Rob _ (Vals (((ofM l).drop (rankM (ofM l) k)).take z.toNat)) _)) (KL.of_kv hkv hkL) hkL (by omega) (SV.of_kv hkv hvL) (SameE.of_kv hkv)) ?_
      rintro _ w7 ⟨rfl, hO⟩
      replace H := H.out hO
      refine WL.pv (PV.pick_t rfl rfl rfl) rfl ?_
      refine WL.as rfl rfl ?_
      refine WL.nil ?_
      refine WE.ret ?_
      refine ⟨[_], _, .nil _, ⟨rfl, trivial⟩, ?_⟩
      refine ⟨?_, H.toOut0⟩
      rfl
    · skip
      try simp only [decide_eq_true_eq, decide_eq_false_iff_not, ne_eq, Decidable.not_not, Bool.not_eq_true', Bool.not_eq_false', Bool.and_eq_true, Bool.or_eq_true, Bool.not_not, Bool.and_eq_false_iff, Bool.or_eq_false_iff, Int.not_lt, Int.not_le] at hc33
      have hzl : ¬ z < ((((ofM l).drop (rankM (ofM l) k)).length : Nat) : Int) := by simpa using hc33
      have htk : (((ofM l).drop (rankM (ofM l) k)).take z.toNat) = ((ofM l).drop (rankM (ofM l) k)) := List.take_of_length_le (by omega)
      replace H := H.add (show Rob _ (SlE (subSl sv15 33 (rankM (ofM l) k) (ofM l).length) (((ofM l).drop (rankM (ofM l) k)).take z.toNat)) _ from by rw [htk]; exact (by exact (H.rob 0 rfl : Rob _ (SlE (subSl sv15 33 (rankM (ofM l) k) (ofM l).length) ((ofM l).drop (rankM (ofM l) k))) _)))
      refine WE.skip ?_
      refine WE.seq_reg ?_
      refine WL.call TrydT.fb11 rfl (alive11_c  H.yylt (by exact H.rob 8 rfl) ) ?_
      rintro _ w8 ⟨rfl, hO⟩
      replace H := H.out hO
      refine WL.mv rfl rfl ?_
      refine WL.known (t := 40) (c := true) rfl (by rfl) ?_
      refine WL.mv rfl rfl ?_
      refine WL.pv (PV.fieldAddr rfl TrydT.fd41_0 rfl) rfl ?_
      refine WL.loadR rfl TrydT.ag31 rfl rfl (by exact Blk.segAt (H.l 0 rfl) (Seg.l (Seg.all _)) (by rfl)) (by (rw [TrydT.sz31]; refine congrArg some ?_; (simp only [kc_length, kw_length, List.length_replicate, List.length_append, List.length_cons, List.length_nil, cutI_length, shaOf_length, dig_length, valD_length, rootM_length]; omega))) ?_
      refine WL.pv (PV.fieldAddr rfl TrydT.fd41_1 rfl) rfl ?_
      refine WL.load1 rfl TrydT.ag3 rfl rfl (by exact Blk.segAt (H.l 0 rfl) (Seg.r (Seg.all _) (by with_reducible rfl)) (by (simp [kc_length, kw_length, *]; done))) ?_
      refine WL.call TrydT.fb17 rfl (From_c (T := Tv15) (bits := i) (k := k) (m := ofM l) (z := z) H.yylt (by exact (H.rob 5 rfl : Rob _ (TrA i Tv15) _)) hTv15 hpm hok.1 hk (by omega)) ?_
      rintro v46 w9 ⟨es46, hO, hS46, hV46, hes46⟩
      replace H := ((H.out hO).add hV46).add hS46
      have hkv : kvL es46 = kvL (((ofM l).drop (rankM (ofM l) k)).take z.toNat) := by rw [kvL_take]; exact hes46
      have hkL : KL (((ofM l).drop (rankM (ofM l) k)).take z.toNat) := hkD.take _
      have hvL : ∀ e ∈ (((ofM l).drop (rankM (ofM l) k)).take z.toNat), e.v.length ≤ 1000000 := fun e he => hsv e (List.mem_of_mem_drop (List.mem_of_mem_take he))
      have hel46 := (kvL_eq hkv).1
      have hlL : (((ofM l).drop (rankM (ofM l) k)).take z.toNat).length ≤ 12 := by rw [List.length_take]; omega
      refine WL.mv rfl rfl ?_
      refine WL.call TrydT.fb14 rfl (refSameE_c (la := es46) (lb := (((ofM l).drop (rankM (ofM l) k)).take z.toNat)) H.yylt (by exact (H.rob 0 rfl : Rob _ (SlE v46 es46) _)) (by exact (H.rob 1 rfl : Rob _ (Vals es46) _)) (by exact (H.rob 2 rfl : Rob _ (SlE _ (((ofM l).drop (rankM (ofM l) k)).take z.toNat)) _)) (by exact (H.rob 4 rfl : Rob _ (Vals (((ofM l).drop (rankM (ofM l) k)).take z.toNat)) _)) (KL.of_kv hkv hkL) hkL (by omega) (SV.of_kv hkv hvL) (SameE.of_kv hkv)) ?_
      rintro _ w10 ⟨rfl, hO⟩
      replace H := H.out hO
      refine WL.pv (PV.pick_t rfl rfl rfl) rfl ?_
      refine WL.as rfl rfl ?_
      refine WL.nil ?_
      refine WE.ret ?_
      refine ⟨[_], _, .nil _, ⟨rfl, trivial⟩, ?_⟩
      refine ⟨?_, H.toOut0⟩
      rfl

end Go.Sp.Tryd

set_option maxRecDepth 100000
set_option maxHeartbeats 1000000
set_option linter.unusedVariables false
set_option linter.unusedSimpArgs false
namespace Go.Sp.Tryd
open Go.Proofs Go.RowKit Go.Sp

theorem allV_sl {L : List (Tr × Nat)} {i : Nat} {p : Tr × Nat} {a s : Value} {w : World} (hp : L[i]? = some p) (h : allV L i [a, s] w) : SlB s p.1.val w := by
  obtain ⟨q, t, h1, h2, h3⟩ := h
  rw [hp] at h1
  injection h1 with h1
  injection h2 with _ h2
  injection h2 with h2 _
  rw [h1, h2]; exact h3

theorem WalkLists_c {X : Nat → Prop} {w : World} {i : Int} {s : Value} {l : List En} (hX : ∀ b, X b → b < w.heap.size) (hf0 : Rob X (SlE s l) w) (hf1 : Rob X (Vals l) w) (hf2 : Rob X (Rounds) w) (hkl : KL l) (hlen : l.length ≤ 9223372036854775807) (hvl : ∀ e ∈ l, e.v.length ≤ 9223372036854775807) :
    Ret Tryd.prog 3 [.int .i64 i, s].toArray w fun v w' => v = .bool true ∧ Out Nil w w' := by
  refine Ret.of_body (N := 66) Tryd.func3 rfl rfl (by simp) ?_
  have H := St.begin hX
  replace H := H.add (rob0 hf2)
  replace H := H.add (rob0 hf1)
  replace H := H.add (rob0 hf0)
  refine WE.seq_reg ?_
  refine WL.alloc H rfl TrydT.ze4 rfl ?_
  intro b4 w1 H
  refine WL.nil ?_
  refine WE.seq_reg ?_
  refine WL.mv rfl rfl ?_
  refine WL.mv rfl rfl ?_
  refine WL.call TrydT.fb10 rfl (Tree_c (i := i) (l := l) H.yylt (by exact H.rob 0 rfl) (by exact H.rob 1 rfl) (by exact H.rob 2 rfl) (by assumption) (by assumption) (by assumption)) ?_
  rintro _ w2 ⟨bv15, sv15, Tv15, mv15, rfl, hTv15, hbv15, hO, hS_, hR⟩
  replace H := ((H.out hO).add hR).add hS_
  have hs15 : sv15.oneCell' = true := SlC.one1 (show SlC _ sv15 33 _ _ from hS_.here)
  refine WL.mv rfl rfl ?_
  refine WL.pv (PV.extract rfl rfl rfl) rfl ?_
  refine WL.pv (PV.extract rfl rfl rfl) rfl ?_
  refine WL.pv (PV.extract rfl rfl rfl) rfl ?_
  refine WL.alloc H rfl TrydT.ze22 rfl ?_
  intro b5 w3 H
  refine WL.storeL H 0 rfl rfl rfl (new := [sv15]) (cells_one hs15) (by exact TrydT.sz22) (one_sing hs15) (Laid.at (Laid.all (by (simp only [kc_length, kw_length, List.length_replicate, List.length_append, List.length_cons, List.length_nil, cutI_length, shaOf_length, dig_length, valD_length, rootM_length]; done))) (by rfl)) rfl ?_
  intro w4 H
  refine WL.as rfl rfl ?_
  refine WL.as rfl rfl ?_
  refine WL.nil ?_
  refine WE.seq ?_
  refine WE.seq_reg ?_
  refine WL.mv rfl rfl ?_
  refine WL.pv (PV.not rfl rfl) rfl ?_
  refine WL.nil ?_
  refine WE.cond rfl (fun hc20 => ?_) (fun hc20 => ?_)
  · skip
    try simp only [decide_eq_true_eq, decide_eq_false_iff_not, ne_eq, Decidable.not_not, Bool.not_eq_true', Bool.not_eq_false', Bool.and_eq_true, Bool.or_eq_true, Bool.not_not, Bool.and_eq_false_iff, Bool.or_eq_false_iff, Int.not_lt, Int.not_le] at hc20
    refine WE.seq_reg ?_
    refine WL.call TrydT.fb11 rfl (alive11_c  H.yylt (by exact H.rob 4 rfl) ) ?_
    rintro _ w5 ⟨rfl, hO⟩
    replace H := H.out hO
    refine WL.storeL H 1 rfl rfl rfl (new := _) rfl (by exact TrydT.sz4) (by exact one_lit _ rfl) (Laid.at (Laid.all (by (simp only [kc_length, kw_length, List.length_replicate, List.length_append, List.length_cons, List.length_nil, cutI_length, shaOf_length, dig_length, valD_length, rootM_length]; done))) (by rfl)) rfl ?_
    intro w6 H
    refine WL.nil ?_
    refine WE.ret ?_
    refine ⟨[_], _, .nil _, ⟨⟨_, rfl, run_loadVar_one TrydT.ag4 (by exact Blk.segAt (H.l 1 rfl) (Seg.all _) rfl)⟩, trivial⟩, ?_⟩
    refine ⟨?_, H.toOut0⟩
    rfl
  · skip
    try simp only [decide_eq_true_eq, decide_eq_false_iff_not, ne_eq, Decidable.not_not, Bool.not_eq_true', Bool.not_eq_false', Bool.and_eq_true, Bool.or_eq_true, Bool.not_not, Bool.and_eq_false_iff, Bool.or_eq_false_iff, Int.not_lt, Int.not_le] at hc20
    obtain ⟨rfl, -, hfew⟩ := hbv15 (by exact hc20)
    have hok := ofM_ok l hkl
    have hpm := ofM_pm l hkl
    have hml : (ofM l).length ≤ 12 := Nat.le_trans hok.2.2.1 hfew.1
    have hvs := ofM_short hkl hfew.2
    have hsv : ShortV (ofM l) := fun e he => Nat.le_trans (hvs e he) (by decide)
    replace H := H.add (by exact (H.rob 3 rfl : Rob _ (Vals l) _).imp fun _ h => h.sub hok.2.2.2)
    have hone : OneS (ofM l) := OneS.of (H.p 0 rfl)
    have hfit : Tv15.er.fit 0 := hTv15 ▸ grow_fit hpm
    have hcm : Tv15.er.cnt = (ofM l).length := by rw [hTv15]; exact grow_cnt hpm
    have hln : (Tv15.lvs 0).length = (ofM l).length := (lvs_len _ 0).trans hcm
    refine WE.skip ?_
    refine WE.seq_reg ?_
    refine WL.mv rfl rfl ?_
    refine WL.call TrydT.fb12 rfl (All_c (T := Tv15) H.yylt  ) ?_
    rintro _ w7 ⟨bav23, rfl, hO, hR⟩
    replace H := (H.out hO).add hR
    refine WL.as rfl rfl ?_
    refine WL.nil ?_
    refine WE.seq ?_
    refine WE.seq_reg ?_
    refine WL.mv rfl rfl ?_
    refine WL.nil ?_
    refine WE.block ?_
    refine WE.loop_rounds 3 ?_
    refine roundsE.step ?_
    refine WE.seq_reg ?_
    refine WL.pv (PV.lss rfl rfl rfl) rfl ?_
    refine WL.nil ?_
    refine WE.seq ?_
    refine WE.cond_t' rfl (by simp) ?_
    refine WE.skip ?_
    refine WE.seq ?_
    refine WE.block ?_
    refine WE.seq_reg ?_
    refine WL.alloc H rfl TrydT.ze3 rfl ?_
    intro b9 w8 H
    refine WL.storeL H 0 rfl rfl rfl (new := _) rfl (by exact TrydT.sz3) (by exact one_lit _ rfl) (Laid.at (Laid.all (by (simp only [kc_length, kw_length, List.length_replicate, List.length_append, List.length_cons, List.length_nil, cutI_length, shaOf_length, dig_length, valD_length, rootM_length]; done))) (by rfl)) rfl ?_
    intro w9 H
    refine WL.nil ?_
    refine WE.seq ?_
    refine WE.seq_reg ?_
    refine WL.mv rfl rfl ?_
    refine WL.nil ?_
    refine WE.block ?_
    replace H := H.pushNil
    refine WE.rangeF2 (α := Unit) (fun j _ => True) (fun j _ => []) (fun j _ => [Ent.blk b9 3 [.int .i64 (j : Int)], Ent.blk b5 22 [sv15], Ent.blk b4 4 [.bool false]]) (fun j _ => [fun w => RdA w ⟨bav23, 0, none⟩ [Tv15.ptr], fun x => Vals (ofM l) x, SlE sv15 (ofM l), TrA i Tv15, SlE s l, Vals l, Rounds]) (fun _ _ => False) (fun _ _ => []) (fun _ _ => []) (fun _ _ => []) () H rfl TrydT.fb35 (fun W0 hO => all1_seq (T := Tv15) (bits := i) (H.ccLt hO) (H.ccRob0 hO 0 rfl) (H.ccRob0 hO 3 rfl) hfit) (allV_len) ⟨trivial, rfl, rfl, rfl⟩ ?_ ?_ ?_
    · skip
      intro j _ xs_ l_ d_ oo_ o_ T_ sc_ w10 hi_ hR_ hV_ H
      obtain ⟨p, sj, hLp, rfl, -⟩ := hV_
      obtain ⟨hjl, hpe⟩ := List.getElem?_eq_some_iff.1 hLp
      have hjm : j < (ofM l).length := by omega
      have hg := lvs_get hTv15 hpm hok.1 j hjl hjm
      rw [hpe] at hg
      have hkj := hok.2.1 _ (List.getElem_mem hjm)
      have hkp : p.1.key.length = 32 := by rw [hg.1]; exact hkj
      have hvj := hsv _ (List.getElem_mem hjm)
      have hvp : p.1.val.length ≤ 1000000 := by rw [hg.2]; exact hvj
      replace H := H.add (show Rob _ (SlB sj p.1.val) _ from (H.rob 0 rfl).imp fun _ h => allV_sl hLp h)
      refine WE.seq_reg ?_
      refine WL.alloc H rfl TrydT.ze31 rfl ?_
      intro b10 w11 H
      refine WL.storeL H 0 rfl rfl rfl (new := kc p.1.key) rfl (by (rw [TrydT.sz31]; refine congrArg some ?_; (simp only [kc_length, kw_length, List.length_replicate, List.length_append, List.length_cons, List.length_nil, cutI_length, shaOf_length, dig_length, valD_length, rootM_length]; omega))) (by exact kc_one _) (Laid.at (Laid.all (by (simp only [kc_length, kw_length, List.length_replicate, List.length_append, List.length_cons, List.length_nil, cutI_length, shaOf_length, dig_length, valD_length, rootM_length]; omega))) (by rfl)) rfl ?_
      intro w12 H
      refine WL.nil ?_
      refine WE.reg ?_
      refine WL.as rfl rfl ?_
      refine WL.nil ?_
      refine ⟨rfl, rfl, _, [Ent.blk b10 31 (kc p.1.key), Ent.blk b9 3 [.int .i64 (j : Int)], Ent.blk b5 22 [sv15], Ent.blk b4 4 [.bool false]], _, H, ?_⟩
      intro w13 H
      refine WE.block ?_
      refine WE.seq ?_
      refine WE.seq_draw (.take 0 (.take 1 (.take 2 (.take 3 (.take 4 (.take 5 (.take 6 (.take 7 (.take 8 (.take 9 (.take 10 (.take 11 (.take 12 (.take 13 (.take 14 (.take 15 (.take 16 (.take 17 (.take 18 (.take 19 (.pick1 20 (.take 21 (.take 22 .done))))))))))))))))))))))) TrydT.mixed (by kernel_rfl) ?_
      replace H := H.out (Out.drew _)
      refine WP.take_read rfl rfl (RV.loadOne rfl TrydT.ag3 rfl) (by exact Blk.segAt (H.l 1 rfl) (Seg.all _) (by rfl)) ?_
      refine WP.take_read rfl rfl (RV.loadOne rfl TrydT.ag22 rfl) (by exact Blk.segAt (H.l 2 rfl) (Seg.all _) (by rfl)) ?_
      refine WP.take_pure rfl rfl (PV.lenS (by exact (H.p 4 rfl : (SlE sv15 (ofM l)) _)) TrydT.sl22 rfl) ?_
      refine WP.take_pure rfl rfl (PV.geq rfl rfl rfl) ?_
      refine WP.mv rfl rfl rfl ?_
      refine WP.known (t := 33) (c := false) rfl (by (simp; omega)) ?_
      refine WP.readA rfl rfl rfl TrydT.ag31 rfl (by exact Blk.segAt (H.l 0 rfl) (Seg.all _) (by rfl)) (by (rw [TrydT.sz31]; refine congrArg some ?_; (simp only [kc_length, kw_length, List.length_replicate, List.length_append, List.length_cons, List.length_nil, cutI_length, shaOf_length, dig_length, valD_length, rootM_length]; omega))) ?_
      refine WP.take_read rfl rfl (RV.loadOne rfl TrydT.ag22 rfl) (by exact Blk.segAt (H.l 2 rfl) (Seg.all _) (by rfl)) ?_
      refine WP.take_read rfl rfl (RV.loadOne rfl TrydT.ag3 rfl) (by exact Blk.segAt (H.l 1 rfl) (Seg.all _) (by rfl)) ?_
      refine WP.take_pure rfl rfl (PV.idxS rfl (by exact (H.p 4 rfl : (SlE sv15 (ofM l)) _)) TrydT.sl22 TrydT.sz34 rfl rfl (by omega) (by omega)) ?_
      refine WP.take_pure rfl rfl (PV.fieldAddrA rfl TrydT.fd34_0 rfl) ?_
      refine WP.readA rfl rfl rfl TrydT.ag31 rfl (SlE.rdk (by exact (H.p 4 rfl : (SlE sv15 (ofM l)) _)) hok.2.1 j hjm) (by (rw [TrydT.sz31]; refine congrArg some ?_; (simp only [kc_length, kw_length, List.length_replicate, List.length_append, List.length_cons, List.length_nil, cutI_length, shaOf_length, dig_length, valD_length, rootM_length]; omega))) ?_
      refine WP.take_pure rfl rfl (PV.neqB rfl TrydT.ar31 TrydT.in5 TrydT.sz5 (by kernel_rfl) rfl rfl (by assumption) (by assumption)) ?_
      refine WP.take_pure rfl rfl (PV.pick_f rfl rfl rfl) ?_
      refine WP.mv rfl rfl rfl ?_
      refine WP.known (t := 42) (c := false) rfl (by (rw [hg.1]; simp; done)) ?_
      refine WP.mv rfl rfl rfl ?_
      refine WP.take_read rfl rfl (RV.loadOne rfl TrydT.ag22 rfl) (by exact Blk.segAt (H.l 2 rfl) (Seg.all _) (by rfl)) ?_
      refine WP.take_read rfl rfl (RV.loadOne rfl TrydT.ag3 rfl) (by exact Blk.segAt (H.l 1 rfl) (Seg.all _) (by rfl)) ?_
      refine WP.take_pure rfl rfl (PV.idxS rfl (by exact (H.p 4 rfl : (SlE sv15 (ofM l)) _)) TrydT.sl22 TrydT.sz34 rfl rfl (by omega) (by omega)) ?_
      refine WP.take_pure rfl rfl (PV.fieldAddrA rfl TrydT.fd34_1 rfl) ?_
      refine WP.take_read rfl rfl (RV.loadOne rfl TrydT.ag32 rfl) (SlE.rdv (by exact (H.p 4 rfl : (SlE sv15 (ofM l)) _)) hok.2.1 j hjm) ?_
      refine WP.pick1 rfl ?_
      refine WL.call TrydT.fb13 rfl (Same_c (la := p.1.val) (lb := (ofM l)[j].v) H.yylt (by exact (H.rob 0 rfl : Rob _ (SlB sj p.1.val) _)) (by exact (H.rob 3 rfl : Rob _ (Vals (ofM l)) _).imp fun _ h => h _ (List.getElem_mem hjm)) (by omega)) ?_
      rintro _ w14 ⟨rfl, hO⟩
      replace H := H.out hO
      refine WL.nil ⟨(List.forall_mem_cons.2 ⟨(by exact (fun h => absurd (show waits _ 20 19 = false from h) (by decide +kernel))), (List.forall_mem_cons.2 ⟨(by exact (fun h => absurd (show waits _ 20 16 = false from h) (by decide +kernel))), (List.forall_mem_cons.2 ⟨(by exact (fun h => absurd (show waits _ 20 15 = false from h) (by decide +kernel))), (List.forall_mem_cons.2 ⟨(by exact (fun h => absurd (show waits _ 20 10 = false from h) (by decide +kernel))), (List.forall_mem_cons.2 ⟨(by exact (fun h => absurd (show waits _ 20 7 = false from h) (by decide +kernel))), (List.forall_mem_cons.2 ⟨(by exact (fun h => absurd (show waits _ 20 6 = false from h) (by decide +kernel))), (List.forall_mem_cons.2 ⟨(by exact (fun h => absurd (show waits _ 20 5 = false from h) (by decide +kernel))), (List.forall_mem_cons.2 ⟨(by exact (fun h => absurd (show waits _ 20 1 = false from h) (by decide +kernel))), (List.forall_mem_cons.2 ⟨(by exact (fun h => absurd (show waits _ 20 0 = false from h) (by decide +kernel))), (fun _ h => by cases h)⟩)⟩)⟩)⟩)⟩)⟩)⟩)⟩)⟩), ?_⟩
      refine WP.take_pure rfl rfl (PV.not rfl rfl) ?_
      refine WP.take_pure rfl rfl (PV.pick_f rfl rfl rfl) ?_
      refine WP.done ?_
      refine WE.cond_f' rfl (by (simp [hg.2]; done)) ?_
      refine WE.skip ?_
      refine WE.reg ?_
      refine WL.load1 rfl TrydT.ag3 rfl rfl (by exact Blk.segAt (H.l 1 rfl) (Seg.all _) (by rfl)) ?_
      refine WL.pv (PV.eq (v' := .int .i64 ((j + 1 : Nat) : Int)) (PV.add64 rfl rfl rfl (by omega) (by omega)) (by rfl)) rfl ?_
      refine WL.storeL H 1 rfl rfl rfl (new := _) rfl (by exact TrydT.sz3) (by exact one_lit _ rfl) (Laid.at (Laid.all (by (simp only [kc_length, kw_length, List.length_replicate, List.length_append, List.length_cons, List.length_nil, cutI_length, shaOf_length, dig_length, valD_length, rootM_length]; done))) (by rfl)) rfl ?_
      intro w15 H
      refine WL.nil ?_
      replace H := H.forget 0
      replace H := H.drop (fun p hp => List.mem_cons_of_mem _ (List.mem_cons_of_mem _ hp))
      exact ⟨(), trivial, H⟩
    · skip
      intro _ d_0 w16 hR_ H
      refine WE.seq_reg ?_
      refine WL.load1 rfl TrydT.ag3 rfl rfl (by exact Blk.segAt (H.l 1 rfl) (Seg.all _) (by rfl)) ?_
      refine WL.load1 rfl TrydT.ag22 rfl rfl (by exact Blk.segAt (H.l 2 rfl) (Seg.all _) (by rfl)) ?_
      refine WL.pv (PV.lenS (by exact (H.p 2 rfl : (SlE sv15 (ofM l)) _)) TrydT.sl22 rfl) rfl ?_
      refine WL.pv (PV.neq rfl rfl rfl) rfl ?_
      refine WL.nil ?_
      refine WE.cond_f' rfl (by simp [hln]) ?_
      refine WE.skip ?_
      refine WE.reg ?_
      refine WL.pv (PV.add64 rfl rfl rfl (by omega) (by omega)) rfl ?_
      refine WL.mv rfl rfl ?_
      refine WL.nil ?_
      replace H := H.forget 1
      refine roundsE.step ?_
      refine WE.seq_reg ?_
      refine WL.pv (PV.lss rfl rfl rfl) rfl ?_
      refine WL.nil ?_
      refine WE.seq ?_
      refine WE.cond_t' rfl (by simp) ?_
      refine WE.skip ?_
      refine WE.seq ?_
      refine WE.block ?_
      refine WE.seq_reg ?_
      refine WL.alloc H rfl TrydT.ze3 rfl ?_
      intro b9 w17 H
      refine WL.storeL H 0 rfl rfl rfl (new := _) rfl (by exact TrydT.sz3) (by exact one_lit _ rfl) (Laid.at (Laid.all (by (simp only [kc_length, kw_length, List.length_replicate, List.length_append, List.length_cons, List.length_nil, cutI_length, shaOf_length, dig_length, valD_length, rootM_length]; done))) (by rfl)) rfl ?_
      intro w18 H
      refine WL.nil ?_
      refine WE.seq ?_
      refine WE.seq_reg ?_
      refine WL.mv rfl rfl ?_
      refine WL.nil ?_
      refine WE.block ?_
      replace H := H.pushNil
      refine WE.rangeF2 (α := Unit) (fun j _ => True) (fun j _ => []) (fun j _ => [Ent.blk b9 3 [.int .i64 (j : Int)], Ent.obj d_0 (.deferred (some [])), Ent.blk b5 22 [sv15], Ent.blk b4 4 [.bool false]]) (fun j _ => [fun w => RdA w ⟨bav23, 0, none⟩ [Tv15.ptr], fun x => Vals (ofM l) x, SlE sv15 (ofM l), TrA i Tv15, SlE s l, Vals l, Rounds]) (fun _ _ => False) (fun _ _ => []) (fun _ _ => []) (fun _ _ => []) () H rfl TrydT.fb35 (fun W0 hO => all1_seq (T := Tv15) (bits := i) (H.ccLt hO) (H.ccRob0 hO 0 rfl) (H.ccRob0 hO 3 rfl) hfit) (allV_len) ⟨trivial, rfl, rfl, rfl⟩ ?_ ?_ ?_
      · skip
        intro j _ xs_ l_ d_ oo_ o_ T_ sc_ w19 hi_ hR_ hV_ H
        obtain ⟨p, sj, hLp, rfl, -⟩ := hV_
        obtain ⟨hjl, hpe⟩ := List.getElem?_eq_some_iff.1 hLp
        have hjm : j < (ofM l).length := by omega
        have hg := lvs_get hTv15 hpm hok.1 j hjl hjm
        rw [hpe] at hg
        have hkj := hok.2.1 _ (List.getElem_mem hjm)
        have hkp : p.1.key.length = 32 := by rw [hg.1]; exact hkj
        have hvj := hsv _ (List.getElem_mem hjm)
        have hvp : p.1.val.length ≤ 1000000 := by rw [hg.2]; exact hvj
        replace H := H.add (show Rob _ (SlB sj p.1.val) _ from (H.rob 0 rfl).imp fun _ h => allV_sl hLp h)
        refine WE.seq_reg ?_
        refine WL.alloc H rfl TrydT.ze31 rfl ?_
        intro b10 w20 H
        refine WL.storeL H 0 rfl rfl rfl (new := kc p.1.key) rfl (by (rw [TrydT.sz31]; refine congrArg some ?_; (simp only [kc_length, kw_length, List.length_replicate, List.length_append, List.length_cons, List.length_nil, cutI_length, shaOf_length, dig_length, valD_length, rootM_length]; omega))) (by exact kc_one _) (Laid.at (Laid.all (by (simp only [kc_length, kw_length, List.length_replicate, List.length_append, List.length_cons, List.length_nil, cutI_length, shaOf_length, dig_length, valD_length, rootM_length]; omega))) (by rfl)) rfl ?_
        intro w21 H
        refine WL.nil ?_
        refine WE.reg ?_
        refine WL.as rfl rfl ?_
        refine WL.nil ?_
        refine ⟨rfl, rfl, _, [Ent.blk b10 31 (kc p.1.key), Ent.blk b9 3 [.int .i64 (j : Int)], Ent.obj d_0 (.deferred (some [])), Ent.blk b5 22 [sv15], Ent.blk b4 4 [.bool false]], _, H, ?_⟩
        intro w22 H
        refine WE.block ?_
        refine WE.seq ?_
        refine WE.seq_draw (.take 0 (.take 1 (.take 2 (.take 3 (.take 4 (.take 5 (.take 6 (.take 7 (.take 8 (.take 9 (.take 10 (.take 11 (.take 12 (.take 13 (.take 14 (.take 15 (.take 16 (.take 17 (.take 18 (.take 19 (.pick1 20 (.take 21 (.take 22 .done))))))))))))))))))))))) TrydT.mixed (by kernel_rfl) ?_
        replace H := H.out (Out.drew _)
        refine WP.take_read rfl rfl (RV.loadOne rfl TrydT.ag3 rfl) (by exact Blk.segAt (H.l 1 rfl) (Seg.all _) (by rfl)) ?_
        refine WP.take_read rfl rfl (RV.loadOne rfl TrydT.ag22 rfl) (by exact Blk.segAt (H.l 3 rfl) (Seg.all _) (by rfl)) ?_
        refine WP.take_pure rfl rfl (PV.lenS (by exact (H.p 4 rfl : (SlE sv15 (ofM l)) _)) TrydT.sl22 rfl) ?_
        refine WP.take_pure rfl rfl (PV.geq rfl rfl rfl) ?_
        refine WP.mv rfl rfl rfl ?_
        refine WP.known (t := 33) (c := false) rfl (by (simp; omega)) ?_
        refine WP.readA rfl rfl rfl TrydT.ag31 rfl (by exact Blk.segAt (H.l 0 rfl) (Seg.all _) (by rfl)) (by (rw [TrydT.sz31]; refine congrArg some ?_; (simp only [kc_length, kw_length, List.length_replicate, List.length_append, List.length_cons, List.length_nil, cutI_length, shaOf_length, dig_length, valD_length, rootM_length]; omega))) ?_
        refine WP.take_read rfl rfl (RV.loadOne rfl TrydT.ag22 rfl) (by exact Blk.segAt (H.l 3 rfl) (Seg.all _) (by rfl)) ?_
        refine WP.take_read rfl rfl (RV.loadOne rfl TrydT.ag3 rfl) (by exact Blk.segAt (H.l 1 rfl) (Seg.all _) (by rfl)) ?_
        refine WP.take_pure rfl rfl (PV.idxS rfl (by exact (H.p 4 rfl : (SlE sv15 (ofM l)) _)) TrydT.sl22 TrydT.sz34 rfl rfl (by omega) (by omega)) ?_
        refine WP.take_pure rfl rfl (PV.fieldAddrA rfl TrydT.fd34_0 rfl) ?_
        refine WP.readA rfl rfl rfl TrydT.ag31 rfl (SlE.rdk (by exact (H.p 4 rfl : (SlE sv15 (ofM l)) _)) hok.2.1 j hjm) (by (rw [TrydT.sz31]; refine congrArg some ?_; (simp only [kc_length, kw_length, List.length_replicate, List.length_append, List.length_cons, List.length_nil, cutI_length, shaOf_length, dig_length, valD_length, rootM_length]; omega))) ?_
        refine WP.take_pure rfl rfl (PV.neqB rfl TrydT.ar31 TrydT.in5 TrydT.sz5 (by kernel_rfl) rfl rfl (by assumption) (by assumption)) ?_
        refine WP.take_pure rfl rfl (PV.pick_f rfl rfl rfl) ?_
        refine WP.mv rfl rfl rfl ?_
        refine WP.known (t := 42) (c := false) rfl (by (rw [hg.1]; simp; done)) ?_
        refine WP.mv rfl rfl rfl ?_
        refine WP.take_read rfl rfl (RV.loadOne rfl TrydT.ag22 rfl) (by exact Blk.segAt (H.l 3 rfl) (Seg.all _) (by rfl)) ?_
        refine WP.take_read rfl rfl (RV.loadOne rfl TrydT.ag3 rfl) (by exact Blk.segAt (H.l 1 rfl) (Seg.all _) (by rfl)) ?_
        refine WP.take_pure rfl rfl (PV.idxS rfl (by exact (H.p 4 rfl : (SlE sv15 (ofM l)) _)) TrydT.sl22 TrydT.sz34 rfl rfl (by omega) (by omega)) ?_
        refine WP.take_pure rfl rfl (PV.fieldAddrA rfl TrydT.fd34_1 rfl) ?_
        refine WP.take_read rfl rfl (RV.loadOne rfl TrydT.ag32 rfl) (SlE.rdv (by exact (H.p 4 rfl : (SlE sv15 (ofM l)) _)) hok.2.1 j hjm) ?_
        refine WP.pick1 rfl ?_
        refine WL.call TrydT.fb13 rfl (Same_c (la := p.1.val) (lb := (ofM l)[j].v) H.yylt (by exact (H.rob 0 rfl : Rob _ (SlB sj p.1.val) _)) (by exact (H.rob 3 rfl : Rob _ (Vals (ofM l)) _).imp fun _ h => h _ (List.getElem_mem hjm)) (by omega)) ?_
        rintro _ w23 ⟨rfl, hO⟩
        replace H := H.out hO
        refine WL.nil ⟨(List.forall_mem_cons.2 ⟨(by exact (fun h => absurd (show waits _ 20 19 = false from h) (by decide +kernel))), (List.forall_mem_cons.2 ⟨(by exact (fun h => absurd (show waits _ 20 16 = false from h) (by decide +kernel))), (List.forall_mem_cons.2 ⟨(by exact (fun h => absurd (show waits _ 20 15 = false from h) (by decide +kernel))), (List.forall_mem_cons.2 ⟨(by exact (fun h => absurd (show waits _ 20 10 = false from h) (by decide +kernel))), (List.forall_mem_cons.2 ⟨(by exact (fun h => absurd (show waits _ 20 7 = false from h) (by decide +kernel))), (List.forall_mem_cons.2 ⟨(by exact (fun h => absurd (show waits _ 20 6 = false from h) (by decide +kernel))), (List.forall_mem_cons.2 ⟨(by exact (fun h => absurd (show waits _ 20 5 = false from h) (by decide +kernel))), (List.forall_mem_cons.2 ⟨(by exact (fun h => absurd (show waits _ 20 1 = false from h) (by decide +kernel))), (List.forall_mem_cons.2 ⟨(by exact (fun h => absurd (show waits _ 20 0 = false from h) (by decide +kernel))), (fun _ h => by cases h)⟩)⟩)⟩)⟩)⟩)⟩)⟩)⟩)⟩), ?_⟩
        refine WP.take_pure rfl rfl (PV.not rfl rfl) ?_
        refine WP.take_pure rfl rfl (PV.pick_f rfl rfl rfl) ?_
        refine WP.done ?_
        refine WE.cond_f' rfl (by (simp [hg.2]; done)) ?_
        refine WE.skip ?_
        refine WE.reg ?_
        refine WL.load1 rfl TrydT.ag3 rfl rfl (by exact Blk.segAt (H.l 1 rfl) (Seg.all _) (by rfl)) ?_
        refine WL.pv (PV.eq (v' := .int .i64 ((j + 1 : Nat) : Int)) (PV.add64 rfl rfl rfl (by omega) (by omega)) (by rfl)) rfl ?_
        refine WL.storeL H 1 rfl rfl rfl (new := _) rfl (by exact TrydT.sz3) (by exact one_lit _ rfl) (Laid.at (Laid.all (by (simp only [kc_length, kw_length, List.length_replicate, List.length_append, List.length_cons, List.length_nil, cutI_length, shaOf_length, dig_length, valD_length, rootM_length]; done))) (by rfl)) rfl ?_
        intro w24 H
        refine WL.nil ?_
        replace H := H.forget 0
        replace H := H.drop (fun p hp => List.mem_cons_of_mem _ (List.mem_cons_of_mem _ hp))
        exact ⟨(), trivial, H⟩
      · skip
        intro _ d_1 w25 hR_ H
        refine WE.seq_reg ?_
        refine WL.load1 rfl TrydT.ag3 rfl rfl (by exact Blk.segAt (H.l 1 rfl) (Seg.all _) (by rfl)) ?_
        refine WL.load1 rfl TrydT.ag22 rfl rfl (by exact Blk.segAt (H.l 3 rfl) (Seg.all _) (by rfl)) ?_
        refine WL.pv (PV.lenS (by exact (H.p 2 rfl : (SlE sv15 (ofM l)) _)) TrydT.sl22 rfl) rfl ?_
        refine WL.pv (PV.neq rfl rfl rfl) rfl ?_
        refine WL.nil ?_
        refine WE.cond_f' rfl (by simp [hln]) ?_
        refine WE.skip ?_
        refine WE.reg ?_
        refine WL.pv (PV.add64 rfl rfl rfl (by omega) (by omega)) rfl ?_
        refine WL.mv rfl rfl ?_
        refine WL.nil ?_
        replace H := H.forget 1
        refine roundsE.step ?_
        refine WE.seq_reg ?_
        refine WL.pv (PV.lss rfl rfl rfl) rfl ?_
        refine WL.nil ?_
        refine WE.seq ?_
        refine WE.cond_f' rfl (by simp) ?_
        refine WE.exit ?_
        refine WE.seq_draw (.pick1 0 (.take 1 (.take 2 (.take 4 (.pick1 3 (.pick1 5 (.take 6 (.pick1 7 .done)))))))) TrydT.mixed (by kernel_rfl) ?_
        replace H := H.out (Out.drew _)
        refine WP.pick1 rfl ?_
        refine WL.call TrydT.fb11 rfl (alive11_c  H.yylt (by exact H.rob 6 rfl) ) ?_
        rintro _ w26 ⟨rfl, hO⟩
        replace H := H.out hO
        refine WL.nil ⟨(fun _ h => by cases h), ?_⟩
        refine WP.mv rfl rfl rfl ?_
        refine WP.known (t := 60) (c := true) rfl (by rfl) ?_
        refine WP.mv rfl rfl rfl ?_
        refine WP.take_read rfl rfl (RV.loadOne rfl TrydT.ag22 rfl) (by exact Blk.segAt (H.l 2 rfl) (Seg.all _) (by rfl)) ?_
        refine WP.pick1 rfl ?_
        refine WL.call TrydT.fb15 rfl (Entries_c (T := Tv15) (bits := i) H.yylt (by exact (H.rob 3 rfl : Rob _ (TrA i Tv15) _)) hfit (by omega)) ?_
        rintro v62 w27 ⟨es62, hO, hS62, hV62, hes62⟩
        replace H := ((H.out hO).add hV62).add hS62
        have hkv : kvL es62 = kvL (ofM l) := hes62.trans (kvT_map hTv15 hpm hok.1)
        have hel62 := (kvL_eq hkv).1
        refine WL.nil ⟨(List.forall_mem_cons.2 ⟨(fun _ _ => (by exact Blk.segAt (H.l 2 rfl) (Seg.all _) (by rfl))), (fun _ h => by cases h)⟩), ?_⟩
        refine WP.pick1 rfl ?_
        refine WL.call TrydT.fb14 rfl (refSameE_c (la := es62) (lb := ofM l) H.yylt (by exact (H.rob 0 rfl : Rob _ (SlE v62 es62) _)) (by exact (H.rob 1 rfl : Rob _ (Vals es62) _)) (by exact (H.rob 4 rfl : Rob _ (SlE sv15 (ofM l)) _)) (by exact (H.rob 3 rfl : Rob _ (Vals (ofM l)) _)) (KL.of_kv hkv hok.2.1) hok.2.1 (by omega) (SV.of_kv hkv hsv) (SameE.of_kv hkv)) ?_
        rintro _ w28 ⟨rfl, hO⟩
        replace H := H.out hO
        refine WL.nil ⟨(List.forall_mem_cons.2 ⟨(by exact (fun h => absurd (show waits _ 5 4 = false from h) (by decide +kernel))), (fun _ h => by cases h)⟩), ?_⟩
        refine WP.take_pure rfl rfl (PV.pick_t rfl rfl rfl) ?_
        refine WP.pick1 rfl ?_
        refine WL.storeL H 3 rfl rfl rfl (new := _) rfl (by exact TrydT.sz4) (by exact one_lit _ rfl) (Laid.at (Laid.all (by (simp only [kc_length, kw_length, List.length_replicate, List.length_append, List.length_cons, List.length_nil, cutI_length, shaOf_length, dig_length, valD_length, rootM_length]; done))) (by rfl)) rfl ?_
        intro w29 H
        refine WL.nil ⟨(List.forall_mem_cons.2 ⟨(by exact (fun h => absurd (show waits _ 7 4 = false from h) (by decide +kernel))), (fun _ h => by cases h)⟩), ?_⟩
        refine WP.done ?_
        refine WE.ret ?_
        (obtain ⟨w30, hl_0, H⟩ := H.unmark 0 rfl)
        (obtain ⟨w31, hl_1, H⟩ := H.unmark 0 rfl)
        refine ⟨[_], _, (hl_0 _ (hl_1 _ (.nil _))), ⟨⟨_, rfl, run_loadVar_one TrydT.ag4 (by exact Blk.segAt (H.l 1 rfl) (Seg.all _) rfl)⟩, trivial⟩, ?_⟩
        refine ⟨?_, H.toOut0⟩
        rfl
      · skip
        intro e_ _ d_1 w32 he_ hR_ H
        exact hR_.elim
    · skip
      intro e_ _ d_0 w33 he_ hR_ H
      exact hR_.elim

theorem WalkStops_c {X : Nat → Prop} {w : World} {i y : Int} {s : Value} {l : List En} (hX : ∀ b, X b → b < w.heap.size) (hf0 : Rob X (SlE s l) w) (hf1 : Rob X (Vals l) w) (hf2 : Rob X (Rounds) w) (hkl : KL l) (hlen : l.length ≤ 9223372036854775807) (hvl : ∀ e ∈ l, e.v.length ≤ 9223372036854775807) (hy : 0 ≤ y ∧ y < 256) :
    Ret Tryd.prog 4 [.int .i64 i, s, .int .u8 y].toArray w fun v w' => v = .bool true ∧ Out Nil w w' := by
  refine Ret.of_body (N := 56) Tryd.func4 rfl rfl (by simp) ?_
  have H := St.begin hX
  replace H := H.add (rob0 hf2)
  replace H := H.add (rob0 hf1)
  replace H := H.add (rob0 hf0)
  refine WE.seq_reg ?_
  refine WL.box (l := [.int .u8 y]) H rfl (rfl) rfl ?_
  intro b5 w1 H
  refine WL.alloc H rfl TrydT.ze4 rfl ?_
  intro b6 w2 H
  refine WL.nil ?_
  refine WE.seq_reg ?_
  refine WL.mv rfl rfl ?_
  refine WL.mv rfl rfl ?_
  refine WL.call TrydT.fb10 rfl (Tree_c (i := i) (l := l) H.yylt (by exact H.rob 0 rfl) (by exact H.rob 1 rfl) (by exact H.rob 2 rfl) (by assumption) (by assumption) (by assumption)) ?_
  rintro _ w3 ⟨bv15, sv15, Tv15, mv15, rfl, hTv15, hbv15, hO, hS_, hR⟩
  replace H := ((H.out hO).add hR).add hS_
  have hs15 : sv15.oneCell' = true := SlC.one1 (show SlC _ sv15 33 _ _ from hS_.here)
  refine WL.mv rfl rfl ?_
  refine WL.pv (PV.extract rfl rfl rfl) rfl ?_
  refine WL.pv (PV.extract rfl rfl rfl) rfl ?_
  refine WL.pv (PV.extract rfl rfl rfl) rfl ?_
  refine WL.alloc H rfl TrydT.ze22 rfl ?_
  intro b7 w4 H
  refine WL.storeL H 0 rfl rfl rfl (new := [sv15]) (cells_one hs15) (by exact TrydT.sz22) (one_sing hs15) (Laid.at (Laid.all (by (simp only [kc_length, kw_length, List.length_replicate, List.length_append, List.length_cons, List.length_nil, cutI_length, shaOf_length, dig_length, valD_length, rootM_length]; done))) (by rfl)) rfl ?_
  intro w5 H
  refine WL.as rfl rfl ?_
  refine WL.as rfl rfl ?_
  refine WL.nil ?_
  refine WE.seq ?_
  refine WE.seq_reg ?_
  refine WL.mv rfl rfl ?_
  refine WL.pv (PV.not rfl rfl) rfl ?_
  refine WL.nil ?_
  refine WE.cond rfl (fun hc20 => ?_) (fun hc20 => ?_)
  · skip
    try simp only [decide_eq_true_eq, decide_eq_false_iff_not, ne_eq, Decidable.not_not, Bool.not_eq_true', Bool.not_eq_false', Bool.and_eq_true, Bool.or_eq_true, Bool.not_not, Bool.and_eq_false_iff, Bool.or_eq_false_iff, Int.not_lt, Int.not_le] at hc20
    refine WE.seq_reg ?_
    refine WL.call TrydT.fb11 rfl (alive11_c  H.yylt (by exact H.rob 4 rfl) ) ?_
    rintro _ w6 ⟨rfl, hO⟩
    replace H := H.out hO
    refine WL.storeL H 1 rfl rfl rfl (new := _) rfl (by exact TrydT.sz4) (by exact one_lit _ rfl) (Laid.at (Laid.all (by (simp only [kc_length, kw_length, List.length_replicate, List.length_append, List.length_cons, List.length_nil, cutI_length, shaOf_length, dig_length, valD_length, rootM_length]; done))) (by rfl)) rfl ?_
    intro w7 H
    refine WL.nil ?_
    refine WE.ret ?_
    refine ⟨[_], _, .nil _, ⟨⟨_, rfl, run_loadVar_one TrydT.ag4 (by exact Blk.segAt (H.l 1 rfl) (Seg.all _) rfl)⟩, trivial⟩, ?_⟩
    refine ⟨?_, H.toOut0⟩
    rfl
  · skip
    try simp only [decide_eq_true_eq, decide_eq_false_iff_not, ne_eq, Decidable.not_not, Bool.not_eq_true', Bool.not_eq_false', Bool.and_eq_true, Bool.or_eq_true, Bool.not_not, Bool.and_eq_false_iff, Bool.or_eq_false_iff, Int.not_lt, Int.not_le] at hc20
    obtain ⟨rfl, -, hfew⟩ := hbv15 (by exact hc20)
    have hok := ofM_ok l hkl
    have hpm := ofM_pm l hkl
    have hml : (ofM l).length ≤ 12 := Nat.le_trans hok.2.2.1 hfew.1
    have hvs := ofM_short hkl hfew.2
    have hsv : ShortV (ofM l) := fun e he => Nat.le_trans (hvs e he) (by decide)
    replace H := H.add (by exact (H.rob 3 rfl : Rob _ (Vals l) _).imp fun _ h => h.sub hok.2.2.2)
    have hone : OneS (ofM l) := OneS.of (H.p 0 rfl)
    have hfit : Tv15.er.fit 0 := hTv15 ▸ grow_fit hpm
    have hcm : Tv15.er.cnt = (ofM l).length := by rw [hTv15]; exact grow_cnt hpm
    have hln : (Tv15.lvs 0).length = (ofM l).length := (lvs_len _ 0).trans hcm
    refine WE.skip ?_
    refine WE.seq_reg ?_
    refine WL.alloc H rfl TrydT.ze3 rfl ?_
    intro b10 w8 H
    refine WL.storeL H 0 rfl rfl rfl (new := _) rfl (by exact TrydT.sz3) (by exact one_lit _ rfl) (Laid.at (Laid.all (by (simp only [kc_length, kw_length, List.length_replicate, List.length_append, List.length_cons, List.length_nil, cutI_length, shaOf_length, dig_length, valD_length, rootM_length]; done))) (by rfl)) rfl ?_
    intro w9 H
    refine WL.nil ?_
    refine WE.seq ?_
    refine WE.seq_reg ?_
    refine WL.mv rfl rfl ?_
    refine WL.call TrydT.fb12 rfl (All_c (T := Tv15) H.yylt  ) ?_
    rintro _ w10 ⟨bav23, rfl, hO, hR⟩
    replace H := (H.out hO).add hR
    refine WL.nil ?_
    refine WE.block ?_
    replace H := H.pushNil
    refine WE.rangeF2 (α := Nat) (fun j x => (j : Int) ≤ y) (fun j x => []) (fun j x => [Ent.blk b10 3 [.int .i64 (j : Int)], Ent.blk b7 22 [sv15], Ent.blk b6 4 [.bool false], Ent.blk b5 5 [.int .u8 y]]) (fun j x => [fun w => RdA w ⟨bav23, 0, none⟩ [Tv15.ptr], fun x => Vals (ofM l) x, SlE sv15 (ofM l), TrA i Tv15, SlE s l, Vals l, Rounds]) (fun e_ x => match e_ with | .exit 0 => (x : Int) = y + 1 ∧ x ≤ (ofM l).length | _ => False) (fun e_ x => match e_ with | .exit 0 => [] | _ => []) (fun e_ x => match e_ with | .exit 0 => [Ent.blk b10 3 [.int .i64 (x : Int)], Ent.blk b7 22 [sv15], Ent.blk b6 4 [.bool false], Ent.blk b5 5 [.int .u8 y]] | _ => []) (fun e_ x => match e_ with | .exit 0 => [fun w => RdA w ⟨bav23, 0, none⟩ [Tv15.ptr], fun x => Vals (ofM l) x, SlE sv15 (ofM l), TrA i Tv15, SlE s l, Vals l, Rounds] | _ => []) 0 H rfl TrydT.fb35 (fun W0 hO => all1_seq (T := Tv15) (bits := i) (H.ccLt hO) (H.ccRob0 hO 0 rfl) (H.ccRob0 hO 3 rfl) hfit) (allV_len) ⟨hy.1, rfl, rfl, rfl⟩ ?_ ?_ ?_
    · skip
      intro j x xs_ l_ d_ oo_ o_ T_ sc_ w11 hi_ hR_ hV_ H
      obtain ⟨p, sj, hLp, rfl, -⟩ := hV_
      obtain ⟨hjl, hpe⟩ := List.getElem?_eq_some_iff.1 hLp
      have hjm : j < (ofM l).length := by omega
      have hg := lvs_get hTv15 hpm hok.1 j hjl hjm
      rw [hpe] at hg
      have hkj := hok.2.1 _ (List.getElem_mem hjm)
      have hkp : p.1.key.length = 32 := by rw [hg.1]; exact hkj
      have hvj := hsv _ (List.getElem_mem hjm)
      have hvp : p.1.val.length ≤ 1000000 := by rw [hg.2]; exact hvj
      replace H := H.add (show Rob _ (SlB sj p.1.val) _ from (H.rob 0 rfl).imp fun _ h => allV_sl hLp h)
      refine WE.reg ?_
      refine WL.alloc H rfl TrydT.ze31 rfl ?_
      intro b11 w12 H
      refine WL.storeL H 0 rfl rfl rfl (new := kc p.1.key) rfl (by (rw [TrydT.sz31]; refine congrArg some ?_; (simp only [kc_length, kw_length, List.length_replicate, List.length_append, List.length_cons, List.length_nil, cutI_length, shaOf_length, dig_length, valD_length, rootM_length]; omega))) (by exact kc_one _) (Laid.at (Laid.all (by (simp only [kc_length, kw_length, List.length_replicate, List.length_append, List.length_cons, List.length_nil, cutI_length, shaOf_length, dig_length, valD_length, rootM_length]; omega))) (by rfl)) rfl ?_
      intro w13 H
      refine WL.nil ?_
      refine ⟨rfl, rfl, _, [Ent.blk b11 31 (kc p.1.key), Ent.blk b10 3 [.int .i64 (j : Int)], Ent.blk b7 22 [sv15], Ent.blk b6 4 [.bool false], Ent.blk b5 5 [.int .u8 y]], _, H, ?_⟩
      intro w14 H
      refine WE.block ?_
      refine WE.seq ?_
      refine WE.seq_draw (.take 0 (.take 1 (.take 2 (.take 3 (.take 4 (.take 5 (.take 6 (.take 7 (.take 8 (.take 9 (.take 10 (.take 11 (.take 12 .done))))))))))))) TrydT.mixed (by kernel_rfl) ?_
      replace H := H.out (Out.drew _)
      refine WP.take_read rfl rfl (RV.loadOne rfl TrydT.ag3 rfl) (by exact Blk.segAt (H.l 1 rfl) (Seg.all _) (by rfl)) ?_
      refine WP.take_read rfl rfl (RV.loadOne rfl TrydT.ag22 rfl) (by exact Blk.segAt (H.l 2 rfl) (Seg.all _) (by rfl)) ?_
      refine WP.take_pure rfl rfl (PV.lenS (by exact (H.p 4 rfl : (SlE sv15 (ofM l)) _)) TrydT.sl22 rfl) ?_
      refine WP.take_pure rfl rfl (PV.geq rfl rfl rfl) ?_
      refine WP.mv rfl rfl rfl ?_
      refine WP.known (t := 30) (c := false) rfl (by (simp; omega)) ?_
      refine WP.readA rfl rfl rfl TrydT.ag31 rfl (by exact Blk.segAt (H.l 0 rfl) (Seg.all _) (by rfl)) (by (rw [TrydT.sz31]; refine congrArg some ?_; (simp only [kc_length, kw_length, List.length_replicate, List.length_append, List.length_cons, List.length_nil, cutI_length, shaOf_length, dig_length, valD_length, rootM_length]; omega))) ?_
      refine WP.take_read rfl rfl (RV.loadOne rfl TrydT.ag22 rfl) (by exact Blk.segAt (H.l 2 rfl) (Seg.all _) (by rfl)) ?_
      refine WP.take_read rfl rfl (RV.loadOne rfl TrydT.ag3 rfl) (by exact Blk.segAt (H.l 1 rfl) (Seg.all _) (by rfl)) ?_
      refine WP.take_pure rfl rfl (PV.idxS rfl (by exact (H.p 4 rfl : (SlE sv15 (ofM l)) _)) TrydT.sl22 TrydT.sz34 rfl rfl (by omega) (by omega)) ?_
      refine WP.take_pure rfl rfl (PV.fieldAddrA rfl TrydT.fd34_0 rfl) ?_
      refine WP.readA rfl rfl rfl TrydT.ag31 rfl (SlE.rdk (by exact (H.p 4 rfl : (SlE sv15 (ofM l)) _)) hok.2.1 j hjm) (by (rw [TrydT.sz31]; refine congrArg some ?_; (simp only [kc_length, kw_length, List.length_replicate, List.length_append, List.length_cons, List.length_nil, cutI_length, shaOf_length, dig_length, valD_length, rootM_length]; omega))) ?_
      refine WP.take_pure rfl rfl (PV.neqB rfl TrydT.ar31 TrydT.in5 TrydT.sz5 (by kernel_rfl) rfl rfl (by assumption) (by assumption)) ?_
      refine WP.take_pure rfl rfl (PV.pick_f rfl rfl rfl) ?_
      refine WP.done ?_
      refine WE.cond_f' rfl (by (simp [hg.1]; done)) ?_
      refine WE.skip ?_
      refine WE.seq_reg ?_
      refine WL.load1 rfl TrydT.ag3 rfl rfl (by exact Blk.segAt (H.l 1 rfl) (Seg.all _) (by rfl)) ?_
      refine WL.pv (PV.eq (v' := .int .i64 ((j + 1 : Nat) : Int)) (PV.add64 rfl rfl rfl (by omega) (by omega)) (by rfl)) rfl ?_
      refine WL.storeL H 1 rfl rfl rfl (new := _) rfl (by exact TrydT.sz3) (by exact one_lit _ rfl) (Laid.at (Laid.all (by (simp only [kc_length, kw_length, List.length_replicate, List.length_append, List.length_cons, List.length_nil, cutI_length, shaOf_length, dig_length, valD_length, rootM_length]; done))) (by rfl)) rfl ?_
      intro w15 H
      refine WL.nil ?_
      refine WE.seq_reg ?_
      refine WL.load1 rfl TrydT.ag3 rfl rfl (by exact Blk.segAt (H.l 1 rfl) (Seg.all _) (by rfl)) ?_
      refine WL.load1 rfl TrydT.ag5 rfl rfl (by exact Blk.segAt (H.l 4 rfl) (Seg.all _) (by rfl)) ?_
      refine WL.pv (PV.conv64 rfl TrydT.in5 TrydT.in3 rfl (by omega) (by omega)) rfl ?_
      refine WL.pv (PV.gtr rfl rfl rfl) rfl ?_
      refine WL.nil ?_
      refine WE.cond rfl (fun hc44 => ?_) (fun hc44 => ?_)
      · skip
        try simp only [decide_eq_true_eq, decide_eq_false_iff_not, ne_eq, Decidable.not_not, Bool.not_eq_true', Bool.not_eq_false', Bool.and_eq_true, Bool.or_eq_true, Bool.not_not, Bool.and_eq_false_iff, Bool.or_eq_false_iff, Int.not_lt, Int.not_le] at hc44
        refine WE.exit ?_
        replace H := H.forget 0
        replace H := H.drop (fun p hp => List.mem_cons_of_mem _ (List.mem_cons_of_mem _ hp))
        exact ⟨(j + 1), (by have h_ := hc44; constructor <;> omega), H⟩
      · skip
        try simp only [decide_eq_true_eq, decide_eq_false_iff_not, ne_eq, Decidable.not_not, Bool.not_eq_true', Bool.not_eq_false', Bool.and_eq_true, Bool.or_eq_true, Bool.not_not, Bool.and_eq_false_iff, Bool.or_eq_false_iff, Int.not_lt, Int.not_le] at hc44
        refine WE.skip ?_
        replace H := H.forget 0
        replace H := H.drop (fun p hp => List.mem_cons_of_mem _ (List.mem_cons_of_mem _ hp))
        exact ⟨0, (by have h_ := hc44; omega), H⟩
    · skip
      intro x d_0 w16 hR_ H
      refine WE.seq_reg ?_
      refine WL.call TrydT.fb11 rfl (alive11_c  H.yylt (by exact H.rob 6 rfl) ) ?_
      rintro _ w17 ⟨rfl, hO⟩
      replace H := H.out hO
      refine WL.mv rfl rfl ?_
      refine WL.known (t := 46) (c := true) rfl (by rfl) ?_
      refine WL.load1 rfl TrydT.ag3 rfl rfl (by exact Blk.segAt (H.l 1 rfl) (Seg.all _) (by rfl)) ?_
      refine WL.load1 rfl TrydT.ag22 rfl rfl (by exact Blk.segAt (H.l 2 rfl) (Seg.all _) (by rfl)) ?_
      refine WL.pv (PV.lenS (by exact (H.p 2 rfl : (SlE sv15 (ofM l)) _)) TrydT.sl22 rfl) rfl ?_
      refine WL.load1 rfl TrydT.ag5 rfl rfl (by exact Blk.segAt (H.l 4 rfl) (Seg.all _) (by rfl)) ?_
      refine WL.pv (PV.conv64 rfl TrydT.in5 TrydT.in3 rfl (by omega) (by omega)) rfl ?_
      refine WL.pv (PV.add64 rfl rfl rfl (by omega) (by omega)) rfl ?_
      refine WL.pv (PV.minI rfl rfl) rfl ?_
      refine WL.pv (PV.eql rfl rfl rfl) rfl ?_
      refine WL.pv (PV.pick_t rfl rfl rfl) rfl ?_
      refine WL.storeL H 3 rfl rfl rfl (new := _) rfl (by exact TrydT.sz4) (by exact one_lit _ rfl) (Laid.at (Laid.all (by (simp only [kc_length, kw_length, List.length_replicate, List.length_append, List.length_cons, List.length_nil, cutI_length, shaOf_length, dig_length, valD_length, rootM_length]; done))) (by rfl)) rfl ?_
      intro w18 H
      refine WL.nil ?_
      refine WE.ret ?_
      (obtain ⟨w19, hl_0, H⟩ := H.unmark 0 rfl)
      refine ⟨[_], _, (hl_0 _ (.nil _)), ⟨⟨_, rfl, run_loadVar_one TrydT.ag4 (by exact Blk.segAt (H.l 2 rfl) (Seg.all _) rfl)⟩, trivial⟩, ?_⟩
      refine ⟨?_, H.toOut0⟩
      show Value.bool _ = Value.bool true
      congr 1
      exact decide_eq_true (by have h1_ := hR_; rw [hln] at h1_ ⊢; omega)
    · skip
      intro e_ x d_0 w20 he_ hR_ H
      rcases he_ with rfl | ⟨id_, rfl⟩
      · skip
        exact hR_.elim
      · skip
        by_cases hid_ : id_ = 0
        · subst hid_
          refine WE.seq_reg ?_
          refine WL.call TrydT.fb11 rfl (alive11_c  H.yylt (by exact H.rob 6 rfl) ) ?_
          rintro _ w21 ⟨rfl, hO⟩
          replace H := H.out hO
          refine WL.mv rfl rfl ?_
          refine WL.known (t := 46) (c := true) rfl (by rfl) ?_
          refine WL.load1 rfl TrydT.ag3 rfl rfl (by exact Blk.segAt (H.l 1 rfl) (Seg.all _) (by rfl)) ?_
          refine WL.load1 rfl TrydT.ag22 rfl rfl (by exact Blk.segAt (H.l 2 rfl) (Seg.all _) (by rfl)) ?_
          refine WL.pv (PV.lenS (by exact (H.p 2 rfl : (SlE sv15 (ofM l)) _)) TrydT.sl22 rfl) rfl ?_
          refine WL.load1 rfl TrydT.ag5 rfl rfl (by exact Blk.segAt (H.l 4 rfl) (Seg.all _) (by rfl)) ?_
          refine WL.pv (PV.conv64 rfl TrydT.in5 TrydT.in3 rfl (by omega) (by omega)) rfl ?_
          refine WL.pv (PV.add64 rfl rfl rfl (by omega) (by omega)) rfl ?_
          refine WL.pv (PV.minI rfl rfl) rfl ?_
          refine WL.pv (PV.eql rfl rfl rfl) rfl ?_
          refine WL.pv (PV.pick_t rfl rfl rfl) rfl ?_
          refine WL.storeL H 3 rfl rfl rfl (new := _) rfl (by exact TrydT.sz4) (by exact one_lit _ rfl) (Laid.at (Laid.all (by (simp only [kc_length, kw_length, List.length_replicate, List.length_append, List.length_cons, List.length_nil, cutI_length, shaOf_length, dig_length, valD_length, rootM_length]; done))) (by rfl)) rfl ?_
          intro w22 H
          refine WL.nil ?_
          refine WE.ret ?_
          (obtain ⟨w23, hl_0, H⟩ := H.unmark 0 rfl)
          refine ⟨[_], _, (hl_0 _ (.nil _)), ⟨⟨_, rfl, run_loadVar_one TrydT.ag4 (by exact Blk.segAt (H.l 2 rfl) (Seg.all _) rfl)⟩, trivial⟩, ?_⟩
          refine ⟨?_, H.toOut0⟩
          show Value.bool _ = Value.bool true
          congr 1
          exact decide_eq_true (by obtain ⟨h1_, h2_⟩ := hR_; omega)
        · exfalso; revert hR_; simp [hid_]

end Go.Sp.Tryd

