/- Walks of functions, printed by a program of this session (gen.py) from notes on each function. -/
import Derived.Test.YtcclagdjpoimaaaGreatDoorY1
import Derived.Test.YtcclagdjpoimaaaGreatDoorIns
import Derived.Test.YtcclagdjpoimaaaGreatDoorGH
import Derived.Test.YtcclagdjpoimaaaGreatDoorG6
set_option maxRecDepth 100000
set_option maxHeartbeats 1000000
set_option linter.unusedVariables false
set_option linter.unusedSimpArgs false
namespace Go.Sp.Tryz
open Go.Proofs Go.RowKit Go.Sp

theorem cmpI_zero {a b : List UInt8} : cmpI a b = 0 ↔ num a = num b := by
  unfold cmpI
  by_cases h : num a < num b
  · simp [h]; omega
  · by_cases h2 : num b < num a
    · simp [h, h2]; omega
    · simp [h, h2]; omega

theorem merge1_c {X : Nat → Prop} {w : World} {k q : List UInt8} {s : Value} {d : Bool} (hX : ∀ b, X b → b < w.heap.size) (hk : k.length = 32) (hq : q.length = 32) :
    Ret Tryz.prog 103 [.agg (kc k ++ ([s] ++ [Value.bool d])).toArray, .agg (kc q).toArray].toArray w fun v w' => v = .int .i64 (cmpI k q) ∧ Out Nil w w' := by
  refine Ret.of_body (N := 9) Tryz.func103 rfl rfl (by simp) ?_
  have H := St.begin hX
  refine WE.seq_reg ?_
  refine WL.box (l := kc k ++ ([s] ++ [Value.bool d])) H rfl (rfl) rfl ?_
  intro b2 w1 H
  refine WL.box (l := kc q) H rfl (by rfl) rfl ?_
  intro b3 w2 H
  refine WL.as rfl rfl ?_
  refine WL.nil ?_
  refine WE.seq_reg ?_
  refine WL.pv (PV.fieldAddr rfl TryzT.fd69_0 rfl) rfl ?_
  refine WL.loadR rfl TryzT.ag31 rfl rfl (by exact Blk.segAt (H.l 1 rfl) (Seg.l (Seg.all _)) (by rfl)) (by (rw [TryzT.sz31]; refine congrArg some ?_; (simp only [kc_length, kw_length, List.length_replicate, List.length_append, List.length_cons, List.length_nil]; omega))) ?_
  refine WL.loadR rfl TryzT.ag31 rfl rfl (by exact Blk.segAt (H.l 0 rfl) (Seg.all _) (by rfl)) (by (rw [TryzT.sz31]; refine congrArg some ?_; (simp only [kc_length, kw_length, List.length_replicate, List.length_append, List.length_cons, List.length_nil]; omega))) ?_
  refine WL.call TryzT.fb77 rfl (bitsCompare_c (k := k) (l := q) H.yylt  hk hq) ?_
  rintro _ w3 ⟨rfl, hO⟩
  replace H := H.out hO
  refine WL.as rfl rfl ?_
  refine WL.nil ?_
  refine WE.ret ?_
  refine ⟨[_], _, .nil _, ⟨rfl, trivial⟩, ?_⟩
  exact ⟨rfl, H.toOut0⟩

theorem Bin_c {X : Nat → Prop} {w : World} {s f : Value} {l : List Ch} {k : List UInt8} (hX : ∀ b, X b → b < w.heap.size) (hf0 : Rob X (SlX s l) w) (hx : XL l) (hl : LtX l) (hlen : l.length ≤ 1000000) (hk : k.length = 32) (hf : ∀ (c : Ch) (W : World), c.k.length = 32 → CallV Tryz.prog f [.agg (chC c).toArray, .agg (kc k).toArray] W fun v W' => v = .int .i64 (cmpI c.k k) ∧ Out Nil W W') :
    Ret Tryz.prog 102 [s, .agg (kc k).toArray, f].toArray w fun v w' => ∃ (r : Nat) (b : Bool), v = .tuple [.int .i64 (r : Int), .bool b].toArray ∧ Out Nil w w' ∧ r ≤ l.length ∧ (∀ i (h : i < l.length), i < r → num l[i].k < num k) ∧ (∀ i (h : i < l.length), r ≤ i → num k ≤ num l[i].k) ∧ (b = true ↔ ∃ h : r < l.length, num l[r].k = num k) := by
  refine Ret.of_body (N := 49) Tryz.func102 rfl rfl (by simp) ?_
  have H := St.begin hX
  replace H := H.add (rob0 hf0)
  refine WE.seq_reg ?_
  refine WL.box (l := kc k) H rfl (by rfl) rfl ?_
  intro b4 w1 H
  refine WL.as rfl rfl ?_
  refine WL.as rfl rfl ?_
  refine WL.nil ?_
  refine WE.seq_reg ?_
  refine WL.mv rfl rfl ?_
  refine WL.pv (PV.lenS (by exact (H.p 0 rfl : SlX s l _)) TryzT.sl47 rfl) rfl ?_
  refine WL.as rfl rfl ?_
  refine WL.nil ?_
  refine WE.seq_reg ?_
  refine WL.mv rfl rfl ?_
  refine WL.as rfl rfl ?_
  refine WL.as rfl rfl ?_
  refine WL.nil ?_
  refine WE.seq ?_
  refine WE.block ?_
  refine WE.loop (α := Nat × Nat) [9, 10, 11, 15, 16, 17, 18, 19, 20, 21, 22, 23, 24, 25, 26, 27, 28, 29, 30, 31, 32, 33, 34] (fun q => [(9, .int .i64 (q.1 : Int)), (10, .int .i64 (q.2 : Int))]) (fun q wl => ((q.1 ≤ q.2 ∧ q.2 ≤ l.length) ∧ (∀ i (h : i < l.length), i < q.1 → num l[i].k < num k) ∧ (∀ i (h : i < l.length), q.2 ≤ i → num k ≤ num l[i].k)) ∧ St X w wl [] [Ent.blk b4 31 (kc k)] [SlX s l]) (fun q => q.2 - q.1) (0, l.length) ⟨rfl, rfl, trivial⟩ ⟨⟨⟨Nat.zero_le _, Nat.le_refl _⟩, (fun i _ h => absurd h (Nat.not_lt_zero _)), fun i h h2 => absurd h (Nat.not_lt.2 h2)⟩, H⟩ ?_
  intro ⟨lo, hi_⟩ γ0 w2 hI
  try dsimp only at hI
  obtain ⟨⟨⟨hlh, hhi_⟩, hlo, hge⟩, H⟩ := hI
  try dsimp only at hlh hhi_ hlo hge
  refine WE.seq ?_
  refine WE.seq_reg ?_
  refine WL.mv rfl rfl ?_
  refine WL.mv rfl rfl ?_
  refine WL.pv (PV.lss rfl rfl rfl) rfl ?_
  refine WL.nil ?_
  refine WE.cond rfl (fun hc17 => ?_) (fun hc17 => ?_)
  · skip
    try simp only [decide_eq_true_eq, decide_eq_false_iff_not, ne_eq, Decidable.not_not, Bool.not_eq_true', Bool.not_eq_false', Bool.and_eq_true, Bool.or_eq_true, Bool.not_not, Bool.and_eq_false_iff, Bool.or_eq_false_iff, Int.not_lt, Int.not_le] at hc17
    have hlt : lo < hi_ := by omega
    have hmid : (lo + hi_) / 2 < l.length := by omega
    have hkm := hx _ (List.getElem_mem hmid)
    have hc34 := chC_len hkm
    refine WE.skip ?_
    refine WE.block ?_
    refine WE.seq_reg ?_
    refine WL.mv rfl rfl ?_
    refine WL.mv rfl rfl ?_
    refine WL.pv (PV.eq (v' := .int .i64 ((lo + hi_ : Nat) : Int)) (PV.add64 rfl rfl rfl (by omega) (by omega)) (by rfl)) rfl ?_
    refine WL.pv (PV.eq (v' := .int .u64 ((lo + hi_ : Nat) : Int)) (PV.conv rfl TryzT.in3 TryzT.in171 rfl) (by (rw [wrapu64]; congr 1; omega))) rfl ?_
    refine WL.pv (PV.eq (v' := .int .u64 (((lo + hi_) / 2 : Nat) : Int)) (PV.shrw rfl rfl rfl (by omega)) (by (congr 1; show Int.fdiv _ 2 = _; rw [Int.fdiv_eq_ediv_of_nonneg _ (by omega)]; omega))) rfl ?_
    refine WL.pv (PV.eq (v' := .int .i64 (((lo + hi_) / 2 : Nat) : Int)) (PV.conv64 rfl TryzT.in171 TryzT.in3 rfl (by omega) (by omega)) (by rfl)) rfl ?_
    refine WL.as rfl rfl ?_
    refine WL.nil ?_
    refine WE.seq_draw (.take 0 (.take 1 (.take 2 (.take 3 (.take 4 (.take 5 (.pick1 6 (.take 7 .done)))))))) TryzT.mixed (by kernel_rfl) ?_
    replace H := H.out (Out.drew _)
    refine WP.mv rfl rfl rfl ?_
    refine WP.mv rfl rfl rfl ?_
    refine WP.mv rfl rfl rfl ?_
    refine WP.take_pure rfl rfl (PV.idxS rfl (by exact (H.p 0 rfl : SlX s l _)) TryzT.sl47 TryzT.sz69 rfl rfl (by omega) (by omega)) ?_
    refine WP.readA rfl rfl rfl TryzT.ag69 rfl (SlX.rd (by exact (H.p 0 rfl : SlX s l _)) hx ((lo + hi_) / 2) hmid) (by (rw [TryzT.sz69]; refine congrArg some ?_; (simp [kc_length, kw_length, *]; done))) ?_
    refine WP.readA rfl rfl rfl TryzT.ag31 rfl (by exact Blk.segAt (H.l 0 rfl) (Seg.all _) (by rfl)) (by (rw [TryzT.sz31]; refine congrArg some ?_; (simp only [kc_length, kw_length, List.length_replicate, List.length_append, List.length_cons, List.length_nil]; omega))) ?_
    refine WP.pick1 rfl ?_
    refine WL.callV rfl rfl (hf l[(lo + hi_) / 2] _ hkm) ?_
    rintro _ w4 ⟨rfl, hO⟩
    replace H := H.out hO
    refine WL.nil ⟨(List.forall_mem_cons.2 ⟨(by exact (fun h => absurd (show waits _ 6 5 = false from h) (by decide +kernel))), (List.forall_mem_cons.2 ⟨(by exact (fun h => absurd (show waits _ 6 4 = false from h) (by decide +kernel))), (fun _ h => by cases h)⟩)⟩), ?_⟩
    refine WP.take_pure rfl rfl (PV.lss rfl rfl rfl) ?_
    refine WP.done ?_
    refine WE.cond rfl (fun hc31 => ?_) (fun hc31 => ?_)
    · skip
      try simp only [decide_eq_true_eq, decide_eq_false_iff_not, ne_eq, Decidable.not_not, Bool.not_eq_true', Bool.not_eq_false', Bool.and_eq_true, Bool.or_eq_true, Bool.not_not, Bool.and_eq_false_iff, Bool.or_eq_false_iff, Int.not_lt, Int.not_le] at hc31
      have hcm : num l[(lo + hi_) / 2].k < num k := cmpI_neg.1 (by exact hc31)
      let q2 : Nat × Nat := ((lo + hi_) / 2 + 1, hi_)
      have hq2 : (q2.1 ≤ q2.2 ∧ q2.2 ≤ l.length) ∧ (∀ i (h : i < l.length), i < q2.1 → num l[i].k < num k) ∧ (∀ i (h : i < l.length), q2.2 ≤ i → num k ≤ num l[i].k) := ⟨⟨by show (lo + hi_) / 2 + 1 ≤ hi_; omega, hhi_⟩, (fun i h hi => by have hi2 : i < (lo + hi_) / 2 + 1 := hi; rcases Nat.lt_or_ge i ((lo + hi_) / 2) with h_ | h_; exact Nat.lt_trans (List.pairwise_iff_getElem.1 hl i _ h hmid h_) hcm; (have e_ : i = (lo + hi_) / 2 := by omega); subst e_; exact hcm), hge⟩
      have hd2 : q2.2 - q2.1 < hi_ - lo := by show hi_ - ((lo + hi_) / 2 + 1) < hi_ - lo; omega
      refine WE.reg ?_
      refine WL.mv rfl rfl ?_
      refine WL.pv (PV.eq (v' := .int .i64 (((lo + hi_) / 2 + 1 : Nat) : Int)) (PV.add64 rfl rfl rfl (by omega) (by omega)) (by rfl)) rfl ?_
      refine WL.as rfl rfl ?_
      refine WL.nil ?_
      exact ⟨q2, (by repeat (first | with_reducible exact Off.refl _ _ | refine Off.upd rfl ?_ | refine Off.setAll rfl ?_ | refine Off.forget' rfl ?_)), ⟨rfl, rfl, trivial⟩, rfl, ⟨hq2, H⟩, hd2⟩
    · skip
      try simp only [decide_eq_true_eq, decide_eq_false_iff_not, ne_eq, Decidable.not_not, Bool.not_eq_true', Bool.not_eq_false', Bool.and_eq_true, Bool.or_eq_true, Bool.not_not, Bool.and_eq_false_iff, Bool.or_eq_false_iff, Int.not_lt, Int.not_le] at hc31
      have hcm : num k ≤ num l[(lo + hi_) / 2].k := by rcases Nat.lt_or_ge (num l[(lo + hi_) / 2].k) (num k) with h_ | h_; have h2_ := cmpI_neg.2 h_; omega; exact h_
      let q2 : Nat × Nat := (lo, (lo + hi_) / 2)
      have hq2 : (q2.1 ≤ q2.2 ∧ q2.2 ≤ l.length) ∧ (∀ i (h : i < l.length), i < q2.1 → num l[i].k < num k) ∧ (∀ i (h : i < l.length), q2.2 ≤ i → num k ≤ num l[i].k) := ⟨⟨by show lo ≤ (lo + hi_) / 2; omega, by show (lo + hi_) / 2 ≤ l.length; omega⟩, hlo, (fun i h hi => by have hi2 : (lo + hi_) / 2 ≤ i := hi; rcases Nat.lt_or_ge ((lo + hi_) / 2) i with h_ | h_; exact Nat.le_of_lt (Nat.lt_of_le_of_lt hcm (List.pairwise_iff_getElem.1 hl _ i hmid h h_)); (have e_ : i = (lo + hi_) / 2 := by omega); subst e_; exact hcm)⟩
      have hd2 : q2.2 - q2.1 < hi_ - lo := by show (lo + hi_) / 2 - lo < hi_ - lo; omega
      refine WE.reg ?_
      refine WL.mv rfl rfl ?_
      refine WL.as rfl rfl ?_
      refine WL.nil ?_
      exact ⟨q2, (by repeat (first | with_reducible exact Off.refl _ _ | refine Off.upd rfl ?_ | refine Off.setAll rfl ?_ | refine Off.forget' rfl ?_)), ⟨rfl, rfl, trivial⟩, rfl, ⟨hq2, H⟩, hd2⟩
  · skip
    try simp only [decide_eq_true_eq, decide_eq_false_iff_not, ne_eq, Decidable.not_not, Bool.not_eq_true', Bool.not_eq_false', Bool.and_eq_true, Bool.or_eq_true, Bool.not_not, Bool.and_eq_false_iff, Bool.or_eq_false_iff, Int.not_lt, Int.not_le] at hc17
    have heq : lo = hi_ := by omega
    refine WE.exit ?_
    refine WE.seq_draw (.take 0 (.take 1 (.take 2 (.take 3 (.take 4 (.take 5 (.take 6 (.take 7 (.take 8 (.take 9 (.take 10 (.pick1 11 (.take 12 (.take 13 (.take 14 (.take 15 .done)))))))))))))))) TryzT.mixed (by kernel_rfl) ?_
    replace H := H.out (Out.drew _)
    refine WP.mv rfl rfl rfl ?_
    refine WP.mv rfl rfl rfl ?_
    refine WP.mv rfl rfl rfl ?_
    refine WP.take_pure rfl rfl (PV.lss rfl rfl rfl) ?_
    refine WP.mv rfl rfl rfl ?_
    refine WP.split (t := 39) rfl (fun hg39 => ?_) (fun hg39 => ?_)
    · skip
      refine WP.known (t := 38) (c := true) rfl hg39 ?_
      try simp only [decide_eq_true_eq, decide_eq_false_iff_not, ne_eq, Decidable.not_not, Bool.not_eq_true', Bool.not_eq_false', Bool.and_eq_true, Bool.or_eq_true, Bool.not_not, Bool.and_eq_false_iff, Bool.or_eq_false_iff, Int.not_lt, Int.not_le] at hg39
      have hlon : lo < l.length := by omega
      have hkl2 := hx _ (List.getElem_mem hlon)
      have hc34 := chC_len hkl2
      refine WP.mv rfl rfl rfl ?_
      refine WP.mv rfl rfl rfl ?_
      refine WP.mv rfl rfl rfl ?_
      refine WP.take_pure rfl rfl (PV.idxS rfl (by exact (H.p 0 rfl : SlX s l _)) TryzT.sl47 TryzT.sz69 rfl rfl (by omega) (by omega)) ?_
      refine WP.readA rfl rfl rfl TryzT.ag69 rfl (SlX.rd (by exact (H.p 0 rfl : SlX s l _)) hx lo hlon) (by (rw [TryzT.sz69]; refine congrArg some ?_; (symm; assumption))) ?_
      refine WP.readA rfl rfl rfl TryzT.ag31 rfl (by exact Blk.segAt (H.l 0 rfl) (Seg.all _) (by rfl)) (by (rw [TryzT.sz31]; refine congrArg some ?_; (simp only [kc_length, kw_length, List.length_replicate, List.length_append, List.length_cons, List.length_nil]; omega))) ?_
      refine WP.pick1 rfl ?_
      refine WL.callV rfl rfl (hf l[lo] _ hkl2) ?_
      rintro _ w7 ⟨rfl, hO⟩
      replace H := H.out hO
      refine WL.nil ⟨(List.forall_mem_cons.2 ⟨(by exact (fun h => absurd (show waits _ 11 10 = false from h) (by decide +kernel))), (List.forall_mem_cons.2 ⟨(by exact (fun h => absurd (show waits _ 11 9 = false from h) (by decide +kernel))), (fun _ h => by cases h)⟩)⟩), ?_⟩
      refine WP.take_pure rfl rfl (PV.eql rfl rfl rfl) ?_
      refine WP.take_pure rfl rfl (PV.pick_t rfl rfl rfl) ?_
      refine WP.as rfl rfl rfl ?_
      refine WP.as rfl rfl rfl ?_
      refine WP.done ?_
      refine WE.ret ?_
      refine ⟨[_, _], _, .nil _, ⟨rfl, rfl, trivial⟩, ?_⟩
      refine ⟨lo, _, rfl, H.toOut0, by omega, hlo, (by rw [heq]; exact hge), ?_⟩
      (constructor; (intro h_; exact ⟨hlon, cmpI_zero.1 (by simpa using h_)⟩); (rintro ⟨_, h_⟩; simpa using cmpI_zero.2 h_))
    · skip
      refine WP.known (t := 38) (c := false) rfl hg39 ?_
      try simp only [decide_eq_true_eq, decide_eq_false_iff_not, ne_eq, Decidable.not_not, Bool.not_eq_true', Bool.not_eq_false', Bool.and_eq_true, Bool.or_eq_true, Bool.not_not, Bool.and_eq_false_iff, Bool.or_eq_false_iff, Int.not_lt, Int.not_le] at hg39
      have hlon : ¬ lo < l.length := by omega
      refine WP.take_off rfl rfl ?_
      refine WP.take_off rfl rfl ?_
      refine WP.take_off rfl rfl ?_
      refine WP.take_off rfl rfl ?_
      refine WP.take_off rfl rfl ?_
      refine WP.take_off rfl rfl ?_
      refine WP.pick1 rfl ?_
      refine WL.off rfl ?_
      refine WL.nil ⟨(fun _ h => by cases h), ?_⟩
      refine WP.take_off rfl rfl ?_
      refine WP.take_pure rfl rfl (PV.pick_f rfl rfl rfl) ?_
      refine WP.as rfl rfl rfl ?_
      refine WP.as rfl rfl rfl ?_
      refine WP.done ?_
      refine WE.ret ?_
      refine ⟨[_, _], _, .nil _, ⟨rfl, rfl, trivial⟩, ?_⟩
      refine ⟨lo, _, rfl, H.toOut0, by omega, hlo, (by rw [heq]; exact hge), ?_⟩
      (constructor; (intro h_; cases h_); (rintro ⟨h_, _⟩; exact absurd h_ hlon))

end Go.Sp.Tryz

set_option maxRecDepth 100000
set_option maxHeartbeats 1000000
set_option linter.unusedVariables false
set_option linter.unusedSimpArgs false
namespace Go.Sp.Tryz
open Go.Proofs Go.RowKit Go.Sp

def insX (l : List Ch) (r : Nat) (x : Ch) : List Ch := l.take r ++ x :: l.drop r
theorem insX_len (l : List Ch) {r : Nat} (x : Ch) (hr : r ≤ l.length) : (insX l r x).length = l.length + 1 := by simp [insX]; omega
theorem mem_insX {l : List Ch} {r : Nat} {x c : Ch} : c ∈ insX l r x ↔ c = x ∨ c ∈ l := by
  have e : c ∈ l ↔ c ∈ l.take r ∨ c ∈ l.drop r := by rw [← List.mem_append, List.take_append_drop]
  unfold insX
  rw [List.mem_append, List.mem_cons, e]
  constructor
  · rintro (h | h | h)
    · exact .inr (.inl h)
    · exact .inl h
    · exact .inr (.inr h)
  · rintro (h | h | h)
    · exact .inr (.inl h)
    · exact .inl h
    · exact .inr (.inr h)
theorem insX_lt {l : List Ch} {r : Nat} {x : Ch} (hl : LtX l) (h1 : ∀ i (h : i < l.length), i < r → num l[i].k < num x.k) (h2 : ∀ i (h : i < l.length), r ≤ i → num x.k < num l[i].k) : LtX (insX l r x) := by
  unfold LtX insX
  rw [List.pairwise_append]
  refine ⟨hl.sublist (List.take_sublist ..), List.pairwise_cons.2 ⟨fun c hc => ?_, hl.sublist (List.drop_sublist ..)⟩, fun a ha b hb => ?_⟩
  · obtain ⟨i, hi, rfl⟩ := List.getElem_of_mem hc
    rw [List.length_drop] at hi
    rw [List.getElem_drop]
    exact h2 _ (by omega) (by omega)
  · obtain ⟨i, hi, rfl⟩ := List.getElem_of_mem ha
    rw [List.length_take] at hi
    rw [List.getElem_take]
    have e1 := h1 i (by omega) (by omega)
    rcases List.mem_cons.1 hb with rfl | hb
    · exact e1
    · obtain ⟨j, hj, rfl⟩ := List.getElem_of_mem hb
      rw [List.length_drop] at hj
      rw [List.getElem_drop]
      exact Nat.lt_trans e1 (h2 _ (by omega) (by omega))
theorem zrow_flat (q : Nat) (zl : List Value) (hz : 0 < zl.length) : zrow q zl = (List.replicate q zl).flatMap id := by
  have hl : ∀ x ∈ List.replicate q zl, (id x).length = zl.length := fun x hx => by rw [(List.mem_replicate.1 hx).2]; rfl
  have hlen := flG_len (C := id) (List.replicate q zl) hl
  rw [List.length_replicate] at hlen
  refine List.ext_getElem (by rw [hlen]; simp [zrow]) fun j h1 h2 => ?_
  have hj : j < q * zl.length := by rw [hlen] at h2; exact h2
  have hq : j / zl.length < q := (Nat.div_lt_iff_lt_mul hz).2 hj
  have hs := flG_seg (C := id) (List.replicate q zl) hl (j / zl.length) (by rw [List.length_replicate]; exact hq)
  rw [List.getElem_replicate] at hs
  have hm := Nat.mod_lt j hz
  have e1 : ((List.replicate q zl).flatMap id)[j]? = zl[j % zl.length]? := by
    have : (((List.replicate q zl).flatMap id).drop (j / zl.length * zl.length)).take zl.length = zl := hs
    have e2 : zl[j % zl.length]? = ((((List.replicate q zl).flatMap id).drop (j / zl.length * zl.length)).take zl.length)[j % zl.length]? := by rw [this]
    rw [e2, List.getElem?_take_of_lt hm, List.getElem?_drop]
    congr 1
    have := Nat.div_add_mod j zl.length
    rw [Nat.mul_comm] at this
    omega
  have e3 : (zrow q zl)[j]? = zl[j % zl.length]? := by
    unfold zrow
    rw [List.getElem?_map, List.getElem?_range (by exact hj), Option.map_some, getElem!_pos zl _ hm, List.getElem?_eq_getElem hm]
  rw [← Option.some_inj, ← List.getElem?_eq_getElem, ← List.getElem?_eq_getElem, e1, e3]
def zCh : Ch := ⟨List.replicate 32 0, .slice none 0 0, [], false⟩
theorem zrow_ch (q : Nat) : zrow q (chC zCh) = (List.replicate q zCh).flatMap chC := by
  rw [zrow_flat q _ (by decide), List.flatMap_replicate, List.flatMap_replicate]; rfl
theorem SlC.ofBlk {w : World} {g n c : Nat} {t : TypeId} {l : List Value} (h : Blk w g t l) (hn : n * 34 ≤ l.length) (hc : n ≤ c) : SlC w (.slice (some ⟨g, 0, none⟩) n c) 34 n (l.take (n * 34)) :=
  SlC.of_rd (h.segAt (show Seg l 0 (l.take (n * 34)) from ⟨[], l.drop (n * 34), by rw [List.nil_append, List.take_append_drop], rfl⟩) rfl) (by rw [List.length_take]; omega) hc
theorem St.beginR {X : Nat → Prop} {w : World} {base sz n : Nat} {e : TypeId} {xs : List Value} {v : Value} (hX : ∀ b, X b → b < w.heap.size) (hrow : w.ownsRow base e sz v n xs) : St X w w [Ent.osl base v e sz n xs] [] [] :=
  St.start hX (fun x hx => by rw [List.mem_singleton.1 hx]; exact hrow) (List.pairwise_singleton _ _) (fun _ hp => by cases hp)
theorem robR {X : Nat → Prop} {w : World} {p : World → Prop} {base sz n : Nat} {e : TypeId} {xs : List Value} {v : Value} (h : Rob (fun c => X c ∨ v.ownBlock = some c) p w) : Rob (YY X [Ent.osl base v e sz n xs] []) p w :=
  h.mono fun c _ hc => by
    rcases hc with hc | ⟨x, hx, hc⟩ | ⟨x, hx, _⟩
    · exact .inl hc
    · rw [List.mem_singleton.1 hx] at hc; exact .inr hc
    · cases hx
theorem laid_tail {a : List Ch} {b c : List Ch} {more : List Value} {oo : Nat} (ha : XL a) (hb : XL b) (hc : XL c) (hbc : b.length = c.length) (ho : oo = a.length * 34) : Laid ((a ++ b).flatMap chC ++ more) oo (c.flatMap chC) ((a ++ c).flatMap chC ++ more) := by
  refine Laid.left ?_
  rw [List.flatMap_append, List.flatMap_append]
  exact Laid.right (o := 0) (Laid.all (by rw [flG_len _ hc.len, flG_len _ hb.len, hbc])) (by rw [ho, flG_len _ ha.len]; omega)

theorem ins_set {l : List Ch} {i : Nat} {x : Ch} (hi : i < l.length) : (l.take (i + 1) ++ l.drop i).set i x = insX l i x := by
  unfold insX
  rw [List.take_succ_eq_append_getElem hi, List.append_assoc, List.set_append_right (h := by rw [List.length_take]; omega), show i - (l.take i).length = 0 by rw [List.length_take]; omega]
  rfl
theorem seg_shift {l : List Ch} {i : Nat} {r1 r2 : List Value} (hx : XL l) (hi : i ≤ l.length) : Seg (l.flatMap chC ++ (r1 ++ r2)) (i * 34) ((l.drop i).flatMap chC ++ r1) := by
  refine ⟨(l.take i).flatMap chC, r2, ?_, by rw [flG_len _ (hx.take i).len, List.length_take]; congr 1; omega⟩
  have e : l.flatMap chC = (l.take i).flatMap chC ++ (l.drop i).flatMap chC := by rw [← List.flatMap_append, List.take_append_drop]
  rw [e]
  simp only [List.append_assoc]
theorem laid_shift {l : List Ch} {i oo : Nat} {r1 r2 : List Value} (hx : XL l) (hi : i < l.length) (hr1 : r1.length = 34) (ho : oo = (i + 1) * 34 := by rfl) : Laid (l.flatMap chC ++ (r1 ++ r2)) oo (((l.drop i).flatMap chC ++ r1).take ((l.length - i) * 34)) ((l.take (i + 1) ++ l.drop i).flatMap chC ++ r2) := by
  have hd : ((l.drop i).flatMap chC).length = (l.length - i) * 34 := by rw [flG_len _ (hx.drop i).len, List.length_drop]
  have ht : ((l.take (i + 1)).flatMap chC).length = (i + 1) * 34 := by rw [flG_len _ (hx.take _).len, List.length_take]; congr 1; omega
  rw [List.take_left' hd]
  have e1 : l.flatMap chC ++ (r1 ++ r2) = (l.take (i + 1)).flatMap chC ++ (((l.drop (i + 1)).flatMap chC ++ r1) ++ r2) := by
    have e : l.flatMap chC = (l.take (i + 1)).flatMap chC ++ (l.drop (i + 1)).flatMap chC := by rw [← List.flatMap_append, List.take_append_drop]
    rw [e]
    simp only [List.append_assoc]
  have e2 : (l.take (i + 1) ++ l.drop i).flatMap chC ++ r2 = (l.take (i + 1)).flatMap chC ++ ((l.drop i).flatMap chC ++ r2) := by rw [List.flatMap_append, List.append_assoc]
  rw [e1, e2]
  refine Laid.right (o := 0) (Laid.left (Laid.all ?_)) (by rw [ht, ho]; omega)
  rw [hd, List.length_append, flG_len _ (hx.drop _).len, List.length_drop, hr1]; omega

theorem InsEnd_c {X : Nat → Prop} {w : World} {v : Value} {base vb : Nat} {l : List Ch} {x : Ch} (hX : ∀ b, X b → b < w.heap.size) (hf0 : Rob (fun c_ => X c_ ∨ v.ownBlock = some c_) (fun w => Blk w vb 69 (chC x)) w) (hx : XL l) (hxk : x.k.length = 32) (hone : ∀ c ∈ l, c.s.oneCell' = true) (hxo : x.s.oneCell' = true) (hlen : l.length ≤ 1000000) (hrow : w.ownsRow base 69 34 v l.length (l.flatMap chC)) (hbase : base ≤ w.heap.size) :
    Ret Tryz.prog 104 [v, .int .i64 ((l.length : Nat) : Int), .slice (some ⟨vb, 0, none⟩) 1 1].toArray w fun v' w' => Out (fun c => v.ownBlock = some c) w w' ∧ w'.ownsRow base 69 34 v' (l.length + 1) ((insX l l.length x).flatMap chC) ∧ ∀ b, v'.ownBlock = some b → v.ownBlock = some b ∨ w.heap.size ≤ b := by
  refine Ret.of_body (N := 95) Tryz.func104 rfl rfl (by simp) ?_
  have H := St.beginR hX hrow
  replace H := H.add (robR hf0)
  have hx34 : (chC x).length = 1 * 34 := chC_len hxk
  refine WE.seq_reg ?_
  refine WL.as rfl rfl ?_
  refine WL.nil ?_
  refine WE.seq_reg ?_
  refine WL.mv rfl rfl ?_
  refine WL.mv rfl rfl ?_
  refine WL.pv (PV.subL rfl (SlC.of_own (H.o 0 rfl)) TryzT.sl47 TryzT.sz69 rfl rfl (by omega) (by omega)) rfl ?_
  refine WL.nil ?_
  refine WE.seq_reg ?_
  refine WL.mv rfl rfl ?_
  refine WL.pv (PV.lenS (by exact SlC.of_blk (n := 1) (H.p 0 rfl) hx34) TryzT.sl47 rfl) rfl ?_
  refine WL.as rfl rfl ?_
  refine WL.nil ?_
  refine WE.seq ?_
  refine WE.seq_reg ?_
  refine WL.mv rfl rfl ?_
  refine WL.pv (PV.eql rfl rfl rfl) rfl ?_
  refine WL.nil ?_
  refine WE.cond_f' rfl rfl ?_
  refine WE.skip ?_
  refine WE.seq_reg ?_
  refine WL.mv rfl rfl ?_
  refine WL.pv (PV.lenS (SlC.of_own (H.o 0 rfl)) TryzT.sl47 rfl) rfl ?_
  refine WL.as rfl rfl ?_
  refine WL.nil ?_
  refine WE.seq ?_
  refine WE.seq_reg ?_
  refine WL.mv rfl rfl ?_
  refine WL.mv rfl rfl ?_
  refine WL.pv (PV.eql rfl rfl rfl) rfl ?_
  refine WL.nil ?_
  refine WE.cond_t' rfl (by simp) ?_
  refine WE.seq_reg ?_
  refine WL.mv rfl rfl ?_
  refine WL.mv rfl rfl ?_
  refine WL.appendO (m := 1) H 0 hbase TryzT.st47 (by decide) rfl rfl rfl (by exact SlC.of_blk (n := 1) (H.p 0 rfl) hx34) (one_chC hxo) (by omega) (by decide) rfl ?_ ?_
  · skip
    intro v25 w1 hgr H
    refine WL.as rfl rfl ?_
    refine WL.nil ?_
    refine WE.ret ?_
    refine ⟨[_], _, .nil _, ⟨rfl, trivial⟩, ?_⟩
    have hin : (insX l l.length x).flatMap chC = l.flatMap chC ++ chC x := by unfold insX; rw [List.take_length, List.drop_length, List.flatMap_append, List.flatMap_singleton]
    rw [hin]
    exact ⟨H.toOut.mono fun c _ ⟨e, he, hc⟩ => (by rw [List.mem_singleton.1 he] at hc; exact hgr c hc), H.o 0 rfl, fun b hb => .inl (hgr b hb)⟩
  · skip
    intro v25 w2 hgr H
    refine WL.as rfl rfl ?_
    refine WL.nil ?_
    refine WE.ret ?_
    refine ⟨[_], _, .nil _, ⟨rfl, trivial⟩, ?_⟩
    have hin : (insX l l.length x).flatMap chC = l.flatMap chC ++ chC x := by unfold insX; rw [List.take_length, List.drop_length, List.flatMap_append, List.flatMap_singleton]
    rw [hin]
    exact ⟨H.toOut.mono fun c _ ⟨e, he, hc⟩ => (by rw [List.mem_singleton.1 he] at hc; exact hc), H.l 0 rfl, fun b hb => .inr (hgr b hb)⟩

theorem InsGrow_c {X : Nat → Prop} {w : World} {g cap i vb : Nat} {l : List Ch} {x : Ch} {rest : List Value} (hX : ∀ b, X b → b < w.heap.size) (ho0 : Blk w g 69 (l.flatMap chC ++ rest)) (hf0 : Rob (fun c_ => X c_ ∨ c_ = g) (fun w => Blk w vb 69 (chC x)) w) (hx : XL l) (hxk : x.k.length = 32) (hone : ∀ c ∈ l, c.s.oneCell' = true) (hxo : x.s.oneCell' = true) (hlen : l.length ≤ 1000000) (hcap : l.length ≤ cap) (hi : i < l.length) (hfull : cap < l.length + 1) :
    Ret Tryz.prog 104 [.slice (some ⟨g, 0, none⟩) l.length cap, .int .i64 (i : Int), .slice (some ⟨vb, 0, none⟩) 1 1].toArray w fun v' w' => ∃ (b c : Nat) (more : List Value), v' = .slice (some ⟨b, 0, none⟩) (l.length + 1) c ∧ Out Nil w w' ∧ w.heap.size ≤ b ∧ Blk w' b 69 ((insX l i x).flatMap chC ++ more) ∧ l.length + 1 ≤ c ∧ c ≤ maxLen ∧ more.length = (c - (l.length + 1)) * 34 := by
  refine Ret.of_body (N := 95) Tryz.func104 rfl rfl (by simp) ?_
  have H := St.begin1 (b := g) (t := 69) (l := l.flatMap chC ++ rest) hX ho0
  replace H := H.add (rob1 hf0)
  have hx34 : (chC x).length = 1 * 34 := chC_len hxk
  refine WE.seq_reg ?_
  refine WL.as rfl rfl ?_
  refine WL.nil ?_
  refine WE.seq_reg ?_
  refine WL.mv rfl rfl ?_
  refine WL.mv rfl rfl ?_
  refine WL.pv (PV.subL rfl (SlX.at0 (cap := cap) (H.o 0 rfl) hx rfl hcap) TryzT.sl47 TryzT.sz69 rfl rfl (by omega) (by omega)) rfl ?_
  refine WL.nil ?_
  refine WE.seq_reg ?_
  refine WL.mv rfl rfl ?_
  refine WL.pv (PV.lenS (by exact SlC.of_blk (n := 1) (H.p 0 rfl) hx34) TryzT.sl47 rfl) rfl ?_
  refine WL.as rfl rfl ?_
  refine WL.nil ?_
  refine WE.seq ?_
  refine WE.seq_reg ?_
  refine WL.mv rfl rfl ?_
  refine WL.pv (PV.eql rfl rfl rfl) rfl ?_
  refine WL.nil ?_
  refine WE.cond_f' rfl rfl ?_
  refine WE.skip ?_
  refine WE.seq_reg ?_
  refine WL.mv rfl rfl ?_
  refine WL.pv (PV.lenS (SlX.at0 (cap := cap) (H.o 0 rfl) hx rfl hcap) TryzT.sl47 rfl) rfl ?_
  refine WL.as rfl rfl ?_
  refine WL.nil ?_
  refine WE.seq ?_
  refine WE.seq_reg ?_
  refine WL.mv rfl rfl ?_
  refine WL.mv rfl rfl ?_
  refine WL.pv (PV.eql rfl rfl rfl) rfl ?_
  refine WL.nil ?_
  refine WE.cond_f' rfl (by simp; omega) ?_
  refine WE.skip ?_
  refine WE.seq ?_
  refine WE.seq_reg ?_
  refine WL.mv rfl rfl ?_
  refine WL.mv rfl rfl ?_
  refine WL.pv (PV.eq (v' := .int .i64 ((l.length + 1 : Nat) : Int)) (PV.add64 rfl rfl rfl (by omega) (by omega)) (by rfl)) rfl ?_
  refine WL.mv rfl rfl ?_
  refine WL.pv (PV.capSl TryzT.sl47 rfl) rfl ?_
  refine WL.pv (PV.gtr rfl rfl rfl) rfl ?_
  refine WL.nil ?_
  refine WE.cond_t' rfl (by simp; omega) ?_
  refine WE.seq_reg ?_
  refine WL.mv rfl rfl ?_
  refine WL.mv rfl rfl ?_
  refine WL.pv (PV.eq (v' := .slice (some ⟨g, 0, none⟩) i cap) (PV.subH rfl (SlX.at0 (cap := cap) (H.o 0 rfl) hx rfl hcap) TryzT.sl47 TryzT.sz69 rfl rfl (by omega) (by omega)) (by have h_ := subSl_eqX (g := g) (n := l.length) (cap := cap) (lo := 0) (hi := i) (by omega); rw [Nat.zero_mul] at h_; exact h_)) rfl ?_
  refine WL.mv rfl rfl ?_
  refine WL.mv rfl rfl ?_
  refine WL.pv (PV.eq (v' := .int .i64 ((l.length + 1 : Nat) : Int)) (PV.add64 rfl rfl rfl (by omega) (by omega)) (by rfl)) rfl ?_
  refine WL.mv rfl rfl ?_
  refine WL.pv (PV.eq (v' := .int .i64 ((l.length + 1 - i : Nat) : Int)) (PV.sub64 rfl rfl rfl (by omega) (by omega)) (by (congr 1; omega))) rfl ?_
  have hl0 : ((l.take i).flatMap chC).length = i * 34 := by rw [flG_len _ (hx.take i).len, List.length_take]; congr 1; omega
  refine WL.growZ (zl := chC zCh) (olds := (l.take i).flatMap chC) H TryzT.st47 (by decide) Tryz.underlying3 rfl rfl (Blk.segAt (H.o 0 rfl) (show Seg (l.flatMap chC ++ rest) 0 _ from ⟨[], (l.drop i).flatMap chC ++ rest, by rw [List.nil_append, ← List.append_assoc, ← List.flatMap_append, List.take_append_drop], rfl⟩) rfl) hl0 (by omega) (by omega) (by omega) (by omega) rfl ?_
  intro b40 c40 w3 more hc1 hc2 hml H
  rw [show i + (l.length + 1 - i) = l.length + 1 by omega] at hc1 hml ⊢
  have hge40 : w.heap.size ≤ b40 := H.geL _ (List.mem_of_getElem? (i := 0) rfl) b40 rfl
  obtain ⟨rs, hrs⟩ : ∃ rs, rs = l.take i ++ List.replicate (l.length + 1 - i) zCh := ⟨_, rfl⟩
  have hrl : rs.length = l.length + 1 := by rw [hrs]; simp; omega
  have hxr : XL rs := by rw [hrs]; intro c hc; rcases List.mem_append.1 hc with h_ | h_; exact hx.take i c h_; rw [(List.mem_replicate.1 h_).2]; rfl
  replace H := H.conv (L' := [Ent.blk b40 69 (rs.flatMap chC ++ more)]) (by rw [zrow_ch, hrs, List.flatMap_append])
  have hSN := SlX.at0 (cap := c40) (H.l 0 rfl) hxr hrl hc1
  refine WL.as rfl rfl ?_
  refine WL.nil ?_
  refine WE.seq_reg ?_
  refine WL.mv rfl rfl ?_
  refine WL.mv rfl rfl ?_
  refine WL.pv (PV.eq (v' := .slice (some ⟨b40, (i) * 34, none⟩) (l.length + 1 - i) (c40 - i)) (PV.subL rfl hSN TryzT.sl47 TryzT.sz69 rfl rfl (by omega) (by omega)) (subSl_eqX (by omega))) rfl ?_
  refine WL.mv rfl rfl ?_
  have hset : rs.set i x = (l.take i ++ [x]) ++ List.replicate (l.length - i) zCh := by rw [hrs, List.set_append_right (h := by rw [List.length_take]; omega), show l.length + 1 - i = (l.length - i) + 1 by omega, List.replicate_succ, show i - (l.take i).length = 0 by rw [List.length_take]; omega, List.set_cons_zero, List.append_assoc]; rfl
  refine WL.copyL (sz := 34) (l' := (rs.set i x).flatMap chC ++ more) H 0 TryzT.sl47 TryzT.sz69 rfl rfl rfl (by exact SlC.of_blk (n := 1) (H.p 0 rfl) hx34) (one_take (one_chC hxo) _) (by rw [show min 1 (l.length + 1 - i) = 1 by omega, List.take_of_length_le (l := chC x) (by omega)]; exact flG_laid (C := chC) rs hxr.len more (i := i) (by omega) (chC_len hxk) rfl) rfl ?_
  intro w13 H
  replace H := H.conv (L' := [Ent.blk b40 69 (((l.take i ++ [x]) ++ List.replicate (l.length - i) zCh).flatMap chC ++ more)]) (by rw [← hset]; rfl)
  have hxr2 : XL (l.take i ++ [x]) := by intro c hc; rcases List.mem_append.1 hc with h_ | h_; exact hx.take i c h_; rw [List.mem_singleton.1 h_]; exact hxk
  have hxz : XL (List.replicate (l.length - i) zCh) := by intro c hc; rw [(List.mem_replicate.1 hc).2]; rfl
  have hxr3 : XL ((l.take i ++ [x]) ++ List.replicate (l.length - i) zCh) := by intro c hc; rcases List.mem_append.1 hc with h_ | h_; exact hxr2 c h_; exact hxz c h_
  clear hSN
  have hSN := SlX.at0 (cap := c40) (H.l 0 rfl) hxr3 (by simp; omega) hc1
  refine WL.nil ?_
  refine WE.seq_draw (.take 0 (.take 1 (.take 2 (.take 3 (.take 4 (.take 5 (.take 6 (.take 7 (.pick1 8 .done))))))))) TryzT.mixed (by kernel_rfl) ?_
  replace H := H.out (Out.drew _)
  refine WP.mv rfl rfl rfl ?_
  refine WP.mv rfl rfl rfl ?_
  refine WP.mv rfl rfl rfl ?_
  refine WP.take_pure rfl rfl (PV.eq (v' := .int .i64 ((i + 1 : Nat) : Int)) (PV.add64 rfl rfl rfl (by omega) (by omega)) (by rfl)) ?_
  refine WP.take_pure rfl rfl (PV.eq (v' := .slice (some ⟨b40, (i + 1) * 34, none⟩) (l.length + 1 - (i + 1)) (c40 - (i + 1))) (PV.subL rfl hSN TryzT.sl47 TryzT.sz69 rfl rfl (by omega) (by omega)) (by rcases Nat.lt_or_ge (i + 1) c40 with h_ | h_; exact subSl_eqX h_; omega)) ?_
  refine WP.mv rfl rfl rfl ?_
  refine WP.mv rfl rfl rfl ?_
  refine WP.take_pure rfl rfl (PV.eq (v' := .slice (some ⟨g, (i) * 34, none⟩) (l.length - i) (cap - i)) (PV.subL rfl (SlX.at0 (cap := cap) (H.o 0 rfl) hx rfl hcap) TryzT.sl47 TryzT.sz69 rfl rfl (by omega) (by omega)) (subSl_eqX (by omega))) ?_
  refine WP.pick1 rfl ?_
  have hSD : SlC _ (.slice (some ⟨g, (i) * 34, none⟩) (l.length - i) (cap - i)) 34 (l.length - i) ((l.drop i).flatMap chC) := SlC.of_rd (Blk.segAt (H.o 0 rfl) (flG_Seg l hx.len rest i (by omega)) rfl) (by rw [flG_len _ (hx.drop i).len, List.length_drop]) (by omega)
  refine WL.copyL (sz := 34) (l' := ((l.take i ++ [x]) ++ l.drop i).flatMap chC ++ more) H 0 TryzT.sl47 TryzT.sz69 rfl rfl rfl hSD (one_take (one_flX fun c hc => hone c (List.mem_of_mem_drop hc)) _) (by rw [show min (l.length - i) (l.length + 1 - (i + 1)) = l.length - i by omega, List.take_of_length_le (l := (l.drop i).flatMap chC) (by rw [flG_len _ (hx.drop i).len, List.length_drop]; exact Nat.le_refl _)]; exact laid_tail hxr2 hxz (hx.drop i) (by simp) (by rw [List.length_append, List.length_take, List.length_singleton]; omega)) rfl ?_
  intro w22 H
  refine WL.nil ⟨(fun _ h => by cases h), ?_⟩
  refine WP.done ?_
  refine WE.seq_reg ?_
  refine WL.mv rfl rfl ?_
  refine WL.as rfl rfl ?_
  refine WL.nil ?_
  refine WE.ret ?_
  refine ⟨[_], _, .nil _, ⟨rfl, trivial⟩, ?_⟩
  refine ⟨b40, c40, more, rfl, ?_, hge40, ?_, hc1, hc2, hml⟩
  · exact ⟨H.os, H.tape, H.output, H.size, fun b hb _ => by by_cases hbg : b = g; (subst hbg; exact (H.o 0 rfl).trans ho0.symm); exact H.old b hb (by intro e he hc; rw [List.mem_singleton.1 he] at hc; exact hbg hc)⟩
  · have h_ := H.l 0 rfl; have e_ : insX l i x = (l.take i ++ [x]) ++ l.drop i := by unfold insX; rw [List.append_assoc]; rfl
    rw [e_]; exact h_

theorem InsShift_c {X : Nat → Prop} {w : World} {g cap i vb : Nat} {l : List Ch} {x : Ch} {r1 r2 : List Value} (hX : ∀ b, X b → b < w.heap.size) (ho0 : Blk w g 69 (l.flatMap chC ++ (r1 ++ r2))) (hf0 : Rob (fun c_ => X c_ ∨ c_ = g) (fun w => Blk w vb 69 (chC x)) w) (hx : XL l) (hxk : x.k.length = 32) (hone : ∀ c ∈ l, c.s.oneCell' = true) (hxo : x.s.oneCell' = true) (hlen : l.length ≤ 1000000) (hcap : l.length + 1 ≤ cap) (hi : i < l.length) (hr1 : r1.length = 34) (hne : vb ≠ g) :
    Ret Tryz.prog 104 [.slice (some ⟨g, 0, none⟩) l.length cap, .int .i64 (i : Int), .slice (some ⟨vb, 0, none⟩) 1 1].toArray w fun v' w' => v' = .slice (some ⟨g, 0, none⟩) (l.length + 1) cap ∧ Out (· = g) w w' ∧ Blk w' g 69 ((insX l i x).flatMap chC ++ r2) := by
  refine Ret.of_body (N := 95) Tryz.func104 rfl rfl (by simp) ?_
  have H := St.begin1 (b := g) (t := 69) (l := l.flatMap chC ++ (r1 ++ r2)) hX ho0
  replace H := H.add (rob1 hf0)
  have hx34 : (chC x).length = 1 * 34 := chC_len hxk
  have hll := flG_len (C := chC) l hx.len
  have hx2 : XL (l.take (i + 1) ++ l.drop i) := by intro c hc; rcases List.mem_append.1 hc with h_ | h_; exact hx.take _ c h_; exact hx.drop _ c h_
  refine WE.seq_reg ?_
  refine WL.as rfl rfl ?_
  refine WL.nil ?_
  refine WE.seq_reg ?_
  refine WL.mv rfl rfl ?_
  refine WL.mv rfl rfl ?_
  refine WL.pv (PV.subL rfl (SlX.at0 (cap := cap) (H.o 0 rfl) hx rfl (by omega)) TryzT.sl47 TryzT.sz69 rfl rfl (by omega) (by omega)) rfl ?_
  refine WL.nil ?_
  refine WE.seq_reg ?_
  refine WL.mv rfl rfl ?_
  refine WL.pv (PV.lenS (by exact SlC.of_blk (n := 1) (H.p 0 rfl) hx34) TryzT.sl47 rfl) rfl ?_
  refine WL.as rfl rfl ?_
  refine WL.nil ?_
  refine WE.seq ?_
  refine WE.seq_reg ?_
  refine WL.mv rfl rfl ?_
  refine WL.pv (PV.eql rfl rfl rfl) rfl ?_
  refine WL.nil ?_
  refine WE.cond_f' rfl rfl ?_
  refine WE.skip ?_
  refine WE.seq_reg ?_
  refine WL.mv rfl rfl ?_
  refine WL.pv (PV.lenS (SlX.at0 (cap := cap) (H.o 0 rfl) hx rfl (by omega)) TryzT.sl47 rfl) rfl ?_
  refine WL.as rfl rfl ?_
  refine WL.nil ?_
  refine WE.seq ?_
  refine WE.seq_reg ?_
  refine WL.mv rfl rfl ?_
  refine WL.mv rfl rfl ?_
  refine WL.pv (PV.eql rfl rfl rfl) rfl ?_
  refine WL.nil ?_
  refine WE.cond_f' rfl (by simp; omega) ?_
  refine WE.skip ?_
  refine WE.seq ?_
  refine WE.seq_reg ?_
  refine WL.mv rfl rfl ?_
  refine WL.mv rfl rfl ?_
  refine WL.pv (PV.eq (v' := .int .i64 ((l.length + 1 : Nat) : Int)) (PV.add64 rfl rfl rfl (by omega) (by omega)) (by rfl)) rfl ?_
  refine WL.mv rfl rfl ?_
  refine WL.pv (PV.capSl TryzT.sl47 rfl) rfl ?_
  refine WL.pv (PV.gtr rfl rfl rfl) rfl ?_
  refine WL.nil ?_
  refine WE.cond_f' rfl (by simp; omega) ?_
  refine WE.skip ?_
  refine WE.seq_reg ?_
  refine WL.mv rfl rfl ?_
  refine WL.mv rfl rfl ?_
  refine WL.mv rfl rfl ?_
  refine WL.pv (PV.eq (v' := .int .i64 ((l.length + 1 : Nat) : Int)) (PV.add64 rfl rfl rfl (by omega) (by omega)) (by rfl)) rfl ?_
  have hSW := SlC.ofBlk (n := l.length + 1) (c := cap) (H.o 0 rfl) (by rw [List.length_append, List.length_append, hll, hr1]; omega) hcap
  refine WL.pv (PV.subHc (j := l.length + 1) rfl TryzT.sl47 TryzT.sz69 rfl rfl hcap) rfl ?_
  refine WL.as rfl rfl ?_
  refine WL.nil ?_
  refine WE.seq ?_
  refine WE.seq_reg ?_
  refine WL.mv rfl rfl ?_
  refine WL.mv rfl rfl ?_
  refine WL.mv rfl rfl ?_
  refine WL.mv rfl rfl ?_
  refine WL.pv (PV.eq (v' := .int .i64 ((i + 1 : Nat) : Int)) (PV.add64 rfl rfl rfl (by omega) (by omega)) (by rfl)) rfl ?_
  refine WL.pv (PV.eq (v' := .slice (some ⟨g, (i + 1) * 34, none⟩) (l.length + 1 - (i + 1)) (cap - (i + 1))) (PV.subL rfl hSW TryzT.sl47 TryzT.sz69 rfl rfl (by omega) (by omega)) (subSl_eqX (by omega))) rfl ?_
  refine WL.extern (e := Extern.SlicesOverlaps.overlaps #[47, 47] #[4]) (v := .bool false) Tryz.func124 (by kernel_rfl) (by kernel_rfl) (by kernel_rfl) (by kernel_rfl) rfl (run_overlapsB TryzT.sl47 TryzT.sz69 (by exact H.p 0 rfl) (H.o 0 rfl) hne (by intro h_; have h2_ := congrArg List.length h_; rw [List.length_append, List.length_append, hr1] at h2_; simp at h2_)) ?_
  refine WL.pv (PV.not rfl rfl) rfl ?_
  refine WL.nil ?_
  refine WE.cond_t' rfl rfl ?_
  refine WE.seq_draw (.take 0 (.take 1 (.take 2 (.take 3 (.take 4 (.take 5 (.take 6 (.take 7 (.pick1 8 .done))))))))) TryzT.mixed (by kernel_rfl) ?_
  replace H := H.out (Out.drew _)
  refine WP.mv rfl rfl rfl ?_
  refine WP.mv rfl rfl rfl ?_
  refine WP.mv rfl rfl rfl ?_
  refine WP.take_pure rfl rfl (PV.eq (v' := .int .i64 ((i + 1 : Nat) : Int)) (PV.add64 rfl rfl rfl (by omega) (by omega)) (by rfl)) ?_
  refine WP.take_pure rfl rfl (PV.eq (v' := .slice (some ⟨g, (i + 1) * 34, none⟩) (l.length + 1 - (i + 1)) (cap - (i + 1))) (PV.subL rfl hSW TryzT.sl47 TryzT.sz69 rfl rfl (by omega) (by omega)) (subSl_eqX (by omega))) ?_
  refine WP.mv rfl rfl rfl ?_
  refine WP.mv rfl rfl rfl ?_
  refine WP.take_pure rfl rfl (PV.eq (v' := .slice (some ⟨g, (i) * 34, none⟩) (l.length + 1 - i) (cap - i)) (PV.subL rfl hSW TryzT.sl47 TryzT.sz69 rfl rfl (by omega) (by omega)) (subSl_eqX (by omega))) ?_
  refine WP.pick1 rfl ?_
  have hSD : SlC _ (.slice (some ⟨g, (i) * 34, none⟩) (l.length + 1 - i) (cap - i)) 34 (l.length + 1 - i) ((l.drop i).flatMap chC ++ r1) := SlC.of_rd (Blk.segAt (H.o 0 rfl) (seg_shift hx (by omega)) rfl) (by rw [List.length_append, flG_len _ (hx.drop i).len, List.length_drop, hr1]; omega) (by omega)
  refine WL.copyO (sz := 34) (l' := (l.take (i + 1) ++ l.drop i).flatMap chC ++ r2) H 0 TryzT.sl47 TryzT.sz69 rfl rfl rfl hSD (by rw [show min (l.length + 1 - i) (l.length + 1 - (i + 1)) = l.length - i by omega, List.take_left' (by rw [flG_len _ (hx.drop i).len, List.length_drop])]; exact one_flX fun c hc => hone c (List.mem_of_mem_drop hc)) (by rw [show min (l.length + 1 - i) (l.length + 1 - (i + 1)) = l.length - i by omega]; exact laid_shift hx hi hr1) rfl ?_
  intro w4 H
  clear hSW
  have hSW := SlC.ofBlk (n := l.length + 1) (c := cap) (H.o 0 rfl) (by rw [List.length_append, flG_len _ hx2.len]; simp; omega) hcap
  refine WL.nil ⟨(fun _ h => by cases h), ?_⟩
  refine WP.done ?_
  refine WE.seq_reg ?_
  refine WL.mv rfl rfl ?_
  refine WL.mv rfl rfl ?_
  refine WL.pv (PV.eq (v' := .slice (some ⟨g, (i) * 34, none⟩) (l.length + 1 - i) (cap - i)) (PV.subL rfl hSW TryzT.sl47 TryzT.sz69 rfl rfl (by omega) (by omega)) (subSl_eqX (by omega))) rfl ?_
  refine WL.mv rfl rfl ?_
  refine WL.copyO (sz := 34) (l' := ((l.take (i + 1) ++ l.drop i).set i x).flatMap chC ++ r2) H 0 TryzT.sl47 TryzT.sz69 rfl rfl rfl (by exact SlC.of_blk (n := 1) (H.p 0 rfl) hx34) (one_take (one_chC hxo) _) (by rw [show min 1 (l.length + 1 - i) = 1 by omega, List.take_of_length_le (l := chC x) (by omega)]; exact flG_laid (C := chC) _ hx2.len r2 (i := i) (by simp; omega) (chC_len hxk) rfl) rfl ?_
  intro w8 H
  refine WL.nil ?_
  refine WE.seq_reg ?_
  refine WL.mv rfl rfl ?_
  refine WL.as rfl rfl ?_
  refine WL.nil ?_
  refine WE.ret ?_
  refine ⟨[_], _, .nil _, ⟨rfl, trivial⟩, ?_⟩
  refine ⟨rfl, H.toOut.mono fun b _ ⟨_, he, hb⟩ => (by cases List.mem_singleton.1 he; exact hb), ?_⟩
  have h_ := H.o 0 rfl
  have e_ : (l.take (i + 1) ++ l.drop i).set i x = insX l i x := ins_set hi
  rw [← e_]; exact h_

end Go.Sp.Tryz

set_option maxRecDepth 100000
set_option maxHeartbeats 1000000
set_option linter.unusedVariables false
set_option linter.unusedSimpArgs false
namespace Go.Sp.Tryz
open Go.Proofs Go.RowKit Go.Sp

theorem Insert_c {w : World} {base vb i : Nat} {v : Value} {l : List Ch} {x : Ch} (hf : Rob (fun c => v.ownBlock = some c) (fun w => Blk w vb 69 (chC x)) w) (hx : XL l) (hxk : x.k.length = 32) (hone : ∀ c ∈ l, c.s.oneCell' = true) (hxo : x.s.oneCell' = true) (hlen : l.length ≤ 1000000)
    (hrow : w.ownsRow base 69 34 v l.length (l.flatMap chC)) (hbase : base ≤ w.heap.size) (hne : ¬ v.ownBlock = some vb) (hi : i ≤ l.length) :
    Ret Tryz.prog 104 [v, .int .i64 (i : Int), .slice (some ⟨vb, 0, none⟩) 1 1].toArray w fun v' w' => Out (fun c => v.ownBlock = some c) w w' ∧ w'.ownsRow base 69 34 v' (insX l i x).length ((insX l i x).flatMap chC) ∧ ∀ b, v'.ownBlock = some b → v.ownBlock = some b ∨ w.heap.size ≤ b := by
  have hil := insX_len l x hi
  have hix : XL (insX l i x) := fun c hc => by
    rcases mem_insX.1 hc with rfl | h
    · exact hxk
    · exact hx c h
  by_cases he : i = l.length
  · subst he
    rw [hil]
    exact InsEnd_c (X := Nil) (fun _ h => h.elim) (hf.mono fun b _ h => h.elim (fun h => h.elim) id) hx hxk hone hxo hlen hrow hbase
  · have hlt : i < l.length := by omega
    obtain ⟨h1, ⟨rfl, h2⟩ | ⟨g, cap, cur, rfl, hg, hcur, hcap, hmax, hsz, htake⟩⟩ := hrow
    · omega
    · obtain ⟨rest, hrest⟩ : ∃ rest, rest = cur.toList.drop (l.length * 34) := ⟨_, rfl⟩
      have hB : Blk w g 69 (l.flatMap chC ++ rest) := by
        unfold Blk
        rw [hrest, ← htake, List.take_append_drop]
        exact hcur
      have hrl : rest.length = cap * 34 - l.length * 34 := by rw [hrest, List.length_drop, Array.length_toList, hsz]
      have hgl : g < w.heap.size := hB.lt
      rcases Nat.lt_or_ge cap (l.length + 1) with hc | hc
      · refine (InsGrow_c (X := Nil) (i := i) (vb := vb) (x := x) (fun _ h => h.elim) hB (hf.mono fun b _ h => by rcases h with h | h; exact h.elim; rw [h]; rfl) hx hxk hone hxo hlen hcap hlt hc).mono ?_
        rintro v' w' ⟨b, c, more, rfl, hO, hge, hB', hc1, hc2, hml⟩
        rw [hil]
        refine ⟨hO.mono fun _ _ h => h.elim, ⟨by rw [flG_len _ hix.len, hil], .inr ⟨b, c, ((insX l i x).flatMap chC ++ more).toArray, rfl, Nat.le_trans hbase hge, hB', by omega, hc2, ?_, ?_⟩⟩, fun b' hb' => .inr (by have h_ : b = b' := Option.some.inj hb'; omega)⟩
        · simp only [List.size_toArray, List.length_append]
          rw [flG_len _ hix.len, hml, hil]
          omega
        · rw [List.toList_toArray, List.take_left' (by rw [flG_len _ hix.len, hil])]
      · have hr34 : 34 ≤ rest.length := by rw [hrl]; omega
        have hr : rest = rest.take 34 ++ rest.drop 34 := (List.take_append_drop 34 rest).symm
        rw [hr] at hB
        refine (InsShift_c (X := Nil) (i := i) (vb := vb) (x := x) (fun _ h => h.elim) hB (hf.mono fun b _ h => by rcases h with h | h; exact h.elim; rw [h]; rfl) hx hxk hone hxo hlen hc hlt (by rw [List.length_take]; omega) (fun h => hne (by rw [h]; rfl))).mono ?_
        rintro v' w' ⟨rfl, hO, hB'⟩
        rw [hil]
        refine ⟨hO.mono fun b _ h => by rw [h]; rfl, ⟨by rw [flG_len _ hix.len, hil], .inr ⟨g, cap, ((insX l i x).flatMap chC ++ rest.drop 34).toArray, rfl, hg, hB', by omega, hmax, ?_, ?_⟩⟩, fun b' hb' => .inl hb'⟩
        · simp only [List.size_toArray, List.length_append]
          rw [flG_len _ hix.len, hil, List.length_drop, hrl]
          omega
        · rw [List.toList_toArray, List.take_left' (by rw [flG_len _ hix.len, hil])]
theorem merge1_call {k : List UInt8} (hk : k.length = 32) (c : Ch) (W : World) (h : c.k.length = 32) : CallV Tryz.prog (fnV 103) [.agg (chC c).toArray, .agg (kc k).toArray] W fun v W' => v = .int .i64 (cmpI c.k k) ∧ Out Nil W W' :=
  CallV.of_ret (fs := []) (cs := []) TryzT.fb103 (merge1_c (X := Nil) (fun _ h => h.elim) h hk)
theorem num_key {a b : List UInt8} (ha : a.length = 32) (hb : b.length = 32) : num a = num b ↔ a = b := ⟨num_inj _ _ (by rw [ha, hb]), fun h => by rw [h]⟩
theorem rmM_kv {m m' : List En} {k : List UInt8} (h : m.map kv = m'.map kv) : (rmM m k).map kv = (rmM m' k).map kv := by
  have e : ∀ l : List En, (rmM l k).map kv = (l.map kv).filter fun x => decide (x.1 ≠ k) := fun l => by rw [List.filter_map]; rfl
  rw [e, e, h]
theorem ins_kv2 (e : En) : ∀ l l' : List En, l.map kv = l'.map kv → (ins e l).map kv = (ins e l').map kv
  | [], [], _ => rfl
  | [], _ :: _, h => by simp at h
  | _ :: _, [], h => by simp at h
  | x :: l, y :: l', h => by
    rw [List.map_cons, List.map_cons] at h
    injection h with h1 h2
    have hk : x.k = y.k := congrArg Prod.fst h1
    have ih := ins_kv2 e l l' h2
    unfold ins
    rw [hk]
    split
    · rw [List.map_cons, List.map_cons, List.map_cons, List.map_cons, h1, h2]
    · rw [List.map_cons, List.map_cons, h1, ih]
theorem putM_kv2 {m m' : List En} {e : En} (h : m.map kv = m'.map kv) : (putM m e).map kv = (putM m' e).map kv := ins_kv2 e _ _ (rmM_kv h)
theorem apM_kv : ∀ (l : List Ch) (m m' : List En), m.map kv = m'.map kv → (apM m l).map kv = (apM m' l).map kv
  | [], _, _, h => h
  | c :: l, m, m', h => apM_kv l (apC m c) (apC m' c) (by
    unfold apC
    split
    · exact rmM_kv h
    · exact putM_kv2 h)
theorem St.robFP {X : Nat → Prop} {w0 w : World} {O L : List Ent} {Ps : List (World → Prop)} (H : St X w0 w O L Ps) (i j : Nat) {e1 e2 : Ent} (hi : L[i]? = some e1) (hj : L[j]? = some e2) (hij : i ≠ j) : Rob e1.fp e2.ok w := fun w' hw =>
  e2.loc w w' (fun b hb => hw b (H.ltL e2 (List.mem_of_getElem? hj) b hb) fun h => pair_apart H.disL hij hi hj b ⟨h, hb⟩) (H.l j hj)

theorem merge_c {X : Nat → Prop} {w : World} {bits : Int} {s s0 : Value} {l : List Ch} {a : Nat} {q u : List UInt8} (hX : ∀ b, X b → b < w.heap.size) (hf0 : Rob X (TrA bits (.leaf a q u s0 : Tr)) w) (hf1 : Rob X (SlX s l) w) (hf2 : Rob X (CVals l) w) (hx : XL l) (hl : LtX l) (hsh : CShort l) (hlen : l.length ≤ 999999) :
    Ret Tryz.prog 70 [(.leaf a q u s0 : Tr).ptr, s].toArray w fun v w' => ∃ l' : List Ch, Out Nil w w' ∧ Rob X (SlX v l') w' ∧ Rob X (CVals l') w' ∧ (XL l' ∧ LtX l' ∧ CShort l') ∧ l'.length ≤ l.length + 1 ∧ (∀ c ∈ l', c ∈ l ∨ c.k = q) ∧ ∀ (d : Nat) (e : En), e.k = q → e.v = u → grow d (apM [] l') = grow d (apM [e] l) := by
  refine Ret.of_body (N := 29) Tryz.func70 rfl rfl (by simp) ?_
  have H := St.begin hX
  replace H := H.add (rob0 hf2)
  replace H := H.add (rob0 hf1)
  replace H := H.add (rob0 hf0)
  have hq : q.length = 32 := TrA.key_length (hf0.here)
  have hul : u.length ≤ 1000000 := TrA.vlen (hf0.here)
  have hone := SlX.one (s := s) (hf2.here)
  refine WE.seq_reg ?_
  refine WL.as rfl rfl ?_
  refine WL.nil ?_
  refine WE.seq_reg ?_
  refine WL.mv rfl rfl ?_
  refine WL.call TryzT.fb63 rfl (Entry_c (T := (.leaf a q u s0 : Tr)) (bits := bits) H.yylt (by exact H.rob 0 rfl) ) ?_
  rintro _ w1 ⟨sv9, rfl, hO, hOwn⟩
  have hs1v9 := SlC.one1 (SlB.of_own hOwn)
  have hr_ := (rob_own H.yylt hOwn).imp fun _ h => SlB.of_own h
  replace H := (H.out hO).add hr_
  refine WL.alloc H rfl TryzT.ze34 rfl ?_
  intro b5 w2 H
  refine WL.storeL H 0 rfl rfl rfl (new := kc q ++ [sv9]) rfl (by (rw [TryzT.sz34]; refine congrArg some ?_; (simp only [kc_length, kw_length, List.length_replicate, List.length_append, List.length_cons, List.length_nil]; omega))) (one_append (kc_one _) (one_lit _ (by simp [hs1v9]))) (Laid.at (Laid.all (by (simp only [kc_length, kw_length, List.length_replicate, List.length_append, List.length_cons, List.length_nil]; omega))) (by rfl)) rfl ?_
  intro w3 H
  refine WL.nil ?_
  refine WE.seq_reg ?_
  refine WL.mv rfl rfl ?_
  refine WL.pv (PV.fieldAddr rfl TryzT.fd34_0 rfl) rfl ?_
  refine WL.loadR rfl TryzT.ag31 rfl rfl (by exact Blk.segAt (H.l 0 rfl) (Seg.l (Seg.all _)) (by rfl)) (by (rw [TryzT.sz31]; refine congrArg some ?_; (simp only [kc_length, kw_length, List.length_replicate, List.length_append, List.length_cons, List.length_nil]; omega))) ?_
  refine WL.call TryzT.fb102 rfl (Bin_c (s := s) (l := l) (k := q) (f := fnV 103) H.yylt (by exact (H.rob 2 rfl : Rob _ (SlX s l) _)) hx hl (by omega) hq (merge1_call hq)) ?_
  rintro _ w4 ⟨r, b, rfl, hO, hr, hlo, hge, hb⟩
  replace H := H.out hO
  refine WL.mv rfl rfl ?_
  refine WL.pv (PV.extract rfl rfl rfl) rfl ?_
  refine WL.pv (PV.extract rfl rfl rfl) rfl ?_
  refine WL.as rfl rfl ?_
  refine WL.as rfl rfl ?_
  refine WL.nil ?_
  refine WE.seq ?_
  refine WE.seq_reg ?_
  refine WL.mv rfl rfl ?_
  refine WL.nil ?_
  refine WE.cond rfl (fun hc17 => ?_) (fun hc17 => ?_)
  · skip
    try simp only [decide_eq_true_eq, decide_eq_false_iff_not, ne_eq, Decidable.not_not, Bool.not_eq_true', Bool.not_eq_false', Bool.and_eq_true, Bool.or_eq_true, Bool.not_not, Bool.and_eq_false_iff, Bool.or_eq_false_iff, Int.not_lt, Int.not_le] at hc17
    have hbt : b = true := by exact hc17
    obtain ⟨hrl, hrn⟩ := hb.1 hbt
    have hrk : l[r].k = q := (num_key (hx _ (List.getElem_mem hrl)) hq).1 hrn
    refine WE.seq_reg ?_
    refine WL.mv rfl rfl ?_
    refine WL.as rfl rfl ?_
    refine WL.nil ?_
    refine WE.ret ?_
    refine ⟨[_], _, .nil _, ⟨rfl, trivial⟩, ?_⟩
    refine ⟨l, H.toOut0, H.give (by exact (H.rob 2 rfl : Rob _ (SlX s l) _)), H.give (by exact (H.rob 3 rfl : Rob _ (CVals l) _)), ⟨hx, hl, hsh⟩, Nat.le_succ _, (fun c hc => .inl hc), fun d e he _ => ?_⟩
    rw [apM_found hx hl (by rw [he]; exact hq) ⟨l[r], List.getElem_mem hrl, by rw [he]; exact hrk⟩]
  · skip
    try simp only [decide_eq_true_eq, decide_eq_false_iff_not, ne_eq, Decidable.not_not, Bool.not_eq_true', Bool.not_eq_false', Bool.and_eq_true, Bool.or_eq_true, Bool.not_not, Bool.and_eq_false_iff, Bool.or_eq_false_iff, Int.not_lt, Int.not_le] at hc17
    have hbf : b = false := by exact hc17
    have hnot : ∀ c ∈ l, c.k ≠ q := fun c hc hh => by obtain ⟨i, hi, rfl⟩ := List.getElem_of_mem hc; rcases Nat.lt_or_ge i r with h_ | h_; have h2_ := hlo i hi h_; rw [hh] at h2_; omega; rcases Nat.lt_or_ge r i with h3_ | h3_; have h4_ := List.pairwise_iff_getElem.1 hl r i (by omega) hi h3_; have h5_ := hge r (by omega) (Nat.le_refl _); rw [hh] at h4_; omega; (have h6_ : i = r := by omega); subst h6_; have h7_ := hb.2 ⟨hi, by rw [hh]⟩; rw [hbf] at h7_; cases h7_
    refine WE.skip ?_
    refine WE.seq_draw (.take 0 (.take 2 (.take 3 (.take 4 (.take 5 (.take 6 (.take 7 (.pick2 1 (.pick1 8 (.pick1 9 (.take 10 .done))) 8 (.pick1 1 (.pick1 9 (.take 10 .done))))))))))) TryzT.mixed (by kernel_rfl) ?_
    replace H := H.out (Out.drew _)
    refine WP.mv rfl rfl rfl ?_
    refine WP.mv rfl rfl rfl ?_
    refine WP.take_pure rfl rfl (PV.fieldAddr rfl TryzT.fd34_0 rfl) ?_
    refine WP.readA rfl rfl rfl TryzT.ag31 rfl (by exact Blk.segAt (H.l 0 rfl) (Seg.l (Seg.all _)) (by rfl)) (by (rw [TryzT.sz31]; refine congrArg some ?_; (simp only [kc_length, kw_length, List.length_replicate, List.length_append, List.length_cons, List.length_nil]; omega))) ?_
    refine WP.take_pure rfl rfl (PV.fieldAddr rfl TryzT.fd34_1 rfl) ?_
    refine WP.take_read rfl rfl (RV.loadOne rfl TryzT.ag32 rfl) (by exact Blk.segAt (H.l 0 rfl) (Seg.r (Seg.all _) (by with_reducible rfl)) (by (simp [kc_length, kw_length, *]; done))) ?_
    refine WP.take_pure rfl rfl (PV.buildS rfl TryzT.pl69 TryzT.ze69 (Fl.cons rfl (by rfl) (by (simp only [kc_length, kw_length, List.length_replicate, List.length_append, List.length_cons, List.length_nil]; omega)) (Laid.left (Laid.all (by (simp only [kc_length, kw_length, List.length_replicate, List.length_append, List.length_cons, List.length_nil]; omega)))) (Fl.cons rfl (cells_one hs1v9) (by (simp only [kc_length, kw_length, List.length_replicate, List.length_append, List.length_cons, List.length_nil]; done)) (Laid.right (Laid.left (Laid.all (by (simp only [kc_length, kw_length, List.length_replicate, List.length_append, List.length_cons, List.length_nil]; done)))) (by (simp only [kc_length, kw_length, List.length_replicate, List.length_append, List.length_cons, List.length_nil]; omega))) Fl.nil))) ?_
    refine WP.pick2 rfl rfl ?_ ?_ 
    · skip
      refine WL.call TryzT.fb72 rfl (CloneX_c (l := l) H.yylt (by exact (H.rob 2 rfl : Rob _ (SlX s l) _)) hx (by omega) hone) ?_
      rintro v20 w5 ⟨hO, hOwn⟩
      replace H := H.push hO (Ent.osl w.heap.size v20 69 34 _ _) (ownsRow_base hOwn H.size) (fun b hb => (hOwn.lt b hb).1)
      refine WL.nil ⟨(List.forall_mem_cons.2 ⟨(fun _ _ => (by exact Blk.segAt (H.l 1 rfl) (Seg.r (Seg.all _) (by with_reducible rfl)) (by (simp [kc_length, kw_length, *]; done)))), (List.forall_mem_cons.2 ⟨(fun _ _ => (by exact Blk.segAt (H.l 1 rfl) (Seg.l (Seg.all _)) (by rfl))), (fun _ h => by cases h)⟩)⟩), ?_⟩
      refine WP.pick1 rfl ?_
      refine WL.buildSliceF (l0 := ((kc (List.replicate 32 0) ++ ([.slice none 0 0] ++ ([.bool false]))))) H rfl TryzT.st47 (by decide) (by rfl) (Fl.cons rfl (by rfl) (by (simp only [kc_length, kw_length, List.length_replicate, List.length_append, List.length_cons, List.length_nil]; omega)) (Laid.all (by (simp only [kc_length, kw_length, List.length_replicate, List.length_append, List.length_cons, List.length_nil]; omega))) Fl.nil) rfl ?_
      intro b27 w6 H
      refine WL.nil ⟨(List.forall_mem_cons.2 ⟨(by exact (fun h => absurd (show waits _ 8 6 = false from h) (by decide +kernel))), (List.forall_mem_cons.2 ⟨(by exact (fun h => absurd (show waits _ 8 4 = false from h) (by decide +kernel))), (fun _ h => by cases h)⟩)⟩), ?_⟩
      refine WP.pick1 rfl ?_
      have hnv : ¬ v20.ownBlock = some b27 := by exact fun h => pair_apart H.disL (i := 1) (j := 0) (by decide) rfl rfl b27 ⟨h, rfl⟩
      refine WL.call TryzT.fb104 rfl (Insert_c (base := w.heap.size) (vb := b27) (l := l) (x := ⟨q, sv9, u, false⟩) (by exact St.robFP H 1 0 rfl rfl (by decide)) hx hq hone hs1v9 (by omega) (by exact H.l 1 rfl) H.size hnv hr) ?_
      rintro v28 w7 ⟨hO, hOwn, hfp⟩
      replace H := H.setL (i := 1) rfl hO (Ent.osl w.heap.size v28 69 34 _ _) hOwn hfp
      refine WL.nil ⟨(List.forall_mem_cons.2 ⟨(by exact (fun h => absurd (show waits _ 9 6 = false from h) (by decide +kernel))), (List.forall_mem_cons.2 ⟨(by exact (fun h => absurd (show waits _ 9 4 = false from h) (by decide +kernel))), (fun _ h => by cases h)⟩)⟩), ?_⟩
      refine WP.as rfl rfl rfl ?_
      refine WP.done ?_
      refine WE.ret ?_
      refine ⟨[_], _, .nil _, ⟨rfl, trivial⟩, ?_⟩
      have hlt : LtX (insX l r ⟨q, sv9, u, false⟩) := insX_lt hl hlo (fun i h hi => by have h2_ := hge i h hi; rcases Nat.lt_or_ge (num q) (num l[i].k) with h3_ | h3_; exact h3_; exact absurd ((num_key (hx _ (List.getElem_mem h)) hq).1 (by omega)) (hnot _ (List.getElem_mem h)))
      refine ⟨insX l r ⟨q, sv9, u, false⟩, H.toOut0, (by exact (rob_own hX (H.l 1 rfl)).imp fun _ h => SlC.of_own h), (H.give (Rob.and (by exact (H.rob 3 rfl : Rob _ (CVals l) _)) (by exact (H.rob 0 rfl : Rob _ (SlB sv9 u) _)))).imp fun _ h c hc => ?_, ⟨fun c hc => ?_, hlt, fun c hc => ?_⟩, by rw [insX_len l _ hr]; exact Nat.le_refl _, fun c hc => ?_, fun d e he hv => ?_⟩
      · rcases mem_insX.1 hc with rfl | h_; exact h.2; exact h.1 c h_
      · rcases mem_insX.1 hc with rfl | h_; exact hq; exact hx c h_
      · rcases mem_insX.1 hc with rfl | h_; exact hul; exact hsh c h_
      · rcases mem_insX.1 hc with rfl | h_; exact .inr rfl; exact .inl h_
      · rw [apM_put (l := l) (e := ⟨q, sv9, u⟩) hx hl hlt hq hnot (fun c => mem_insX)]; exact grow_kv (apM_kv l _ _ (by obtain ⟨ek, es, ev⟩ := e; subst he; subst hv; rfl))
    · skip
      refine WL.buildSliceF (l0 := ((kc (List.replicate 32 0) ++ ([.slice none 0 0] ++ ([.bool false]))))) H rfl TryzT.st47 (by decide) (by rfl) (Fl.cons rfl (by rfl) (by (simp only [kc_length, kw_length, List.length_replicate, List.length_append, List.length_cons, List.length_nil]; omega)) (Laid.all (by (simp only [kc_length, kw_length, List.length_replicate, List.length_append, List.length_cons, List.length_nil]; omega))) Fl.nil) rfl ?_
      intro b27 w8 H
      refine WL.nil ⟨(List.forall_mem_cons.2 ⟨(by exact (fun h => absurd (show waits _ 8 6 = false from h) (by decide +kernel))), (List.forall_mem_cons.2 ⟨(by exact (fun h => absurd (show waits _ 8 4 = false from h) (by decide +kernel))), (fun _ h => by cases h)⟩)⟩), ?_⟩
      refine WP.pick1 rfl ?_
      refine WL.call TryzT.fb72 rfl (CloneX_c (l := l) H.yylt (by exact (H.rob 2 rfl : Rob _ (SlX s l) _)) hx (by omega) hone) ?_
      rintro v20 w9 ⟨hO, hOwn⟩
      replace H := H.push hO (Ent.osl w.heap.size v20 69 34 _ _) (ownsRow_base hOwn H.size) (fun b hb => (hOwn.lt b hb).1)
      refine WL.nil ⟨(List.forall_mem_cons.2 ⟨(fun _ _ => (by exact Blk.segAt (H.l 2 rfl) (Seg.r (Seg.all _) (by with_reducible rfl)) (by (simp [kc_length, kw_length, *]; done)))), (List.forall_mem_cons.2 ⟨(fun _ _ => (by exact Blk.segAt (H.l 2 rfl) (Seg.l (Seg.all _)) (by rfl))), (fun _ h => by cases h)⟩)⟩), ?_⟩
      refine WP.pick1 rfl ?_
      have hnv : ¬ v20.ownBlock = some b27 := by exact fun h => pair_apart H.disL (i := 0) (j := 1) (by decide) rfl rfl b27 ⟨h, rfl⟩
      refine WL.call TryzT.fb104 rfl (Insert_c (base := w.heap.size) (vb := b27) (l := l) (x := ⟨q, sv9, u, false⟩) (by exact St.robFP H 0 1 rfl rfl (by decide)) hx hq hone hs1v9 (by omega) (by exact H.l 0 rfl) H.size hnv hr) ?_
      rintro v28 w10 ⟨hO, hOwn, hfp⟩
      replace H := H.setL (i := 0) rfl hO (Ent.osl w.heap.size v28 69 34 _ _) hOwn hfp
      refine WL.nil ⟨(List.forall_mem_cons.2 ⟨(by exact (fun h => absurd (show waits _ 9 6 = false from h) (by decide +kernel))), (List.forall_mem_cons.2 ⟨(by exact (fun h => absurd (show waits _ 9 4 = false from h) (by decide +kernel))), (fun _ h => by cases h)⟩)⟩), ?_⟩
      refine WP.as rfl rfl rfl ?_
      refine WP.done ?_
      refine WE.ret ?_
      refine ⟨[_], _, .nil _, ⟨rfl, trivial⟩, ?_⟩
      have hlt : LtX (insX l r ⟨q, sv9, u, false⟩) := insX_lt hl hlo (fun i h hi => by have h2_ := hge i h hi; rcases Nat.lt_or_ge (num q) (num l[i].k) with h3_ | h3_; exact h3_; exact absurd ((num_key (hx _ (List.getElem_mem h)) hq).1 (by omega)) (hnot _ (List.getElem_mem h)))
      refine ⟨insX l r ⟨q, sv9, u, false⟩, H.toOut0, (by exact (rob_own hX (H.l 0 rfl)).imp fun _ h => SlC.of_own h), (H.give (Rob.and (by exact (H.rob 3 rfl : Rob _ (CVals l) _)) (by exact (H.rob 0 rfl : Rob _ (SlB sv9 u) _)))).imp fun _ h c hc => ?_, ⟨fun c hc => ?_, hlt, fun c hc => ?_⟩, by rw [insX_len l _ hr]; exact Nat.le_refl _, fun c hc => ?_, fun d e he hv => ?_⟩
      · rcases mem_insX.1 hc with rfl | h_; exact h.2; exact h.1 c h_
      · rcases mem_insX.1 hc with rfl | h_; exact hq; exact hx c h_
      · rcases mem_insX.1 hc with rfl | h_; exact hul; exact hsh c h_
      · rcases mem_insX.1 hc with rfl | h_; exact .inr rfl; exact .inl h_
      · rw [apM_put (l := l) (e := ⟨q, sv9, u⟩) hx hl hlt hq hnot (fun c => mem_insX)]; exact grow_kv (apM_kv l _ _ (by obtain ⟨ek, es, ev⟩ := e; subst he; subst hv; rfl))

end Go.Sp.Tryz

