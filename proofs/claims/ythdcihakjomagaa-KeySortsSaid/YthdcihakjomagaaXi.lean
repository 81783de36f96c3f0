/- Walks of functions, printed by a program of this session (gen.py) from notes on each function. -/
import Derived.Test.YthdcihakjomagaaXh
set_option maxRecDepth 100000
set_option maxHeartbeats 1000000
set_option linter.unusedVariables false
set_option linter.unusedSimpArgs false
namespace Go.Sp.Try
open Go.Proofs Go.RowKit Go.Sp
theorem Search_c {X : Nat → Prop} {w : World} {n : Nat} {f : Value} {p : Nat → Bool} (hX : ∀ b, X b → b < w.heap.size) (hf : ∀ (i : Nat) (W : World), i < n → Out Nil w W → CallV Try.prog f [.int .i64 (i : Int)] W fun v W' => v = .bool (p i) ∧ Out Nil W W') (hn : n ≤ 1000000) :
    Ret Try.prog 32 [.int .i64 (n : Int), f].toArray w fun v w' => ∃ r : Nat, v = .int .i64 (r : Int) ∧ Out Nil w w' ∧ r ≤ n ∧ (∀ i, i + 1 = r → p i = false) ∧ (r < n → p r = true) := by
  refine Ret.of_body (N := 26) Try.func32 rfl rfl (by simp) ?_
  have H := St.begin hX
  refine WE.seq_reg ?_
  refine WL.as rfl rfl ?_
  refine WL.nil ?_
  refine WE.seq_reg ?_
  refine WL.mv rfl rfl ?_
  refine WL.as rfl rfl ?_
  refine WL.as rfl rfl ?_
  refine WL.nil ?_
  refine WE.seq ?_
  refine WE.block ?_
  refine WE.loop (α := Nat × Nat) [5, 6, 7, 9, 10, 11, 12, 13, 14, 15, 16, 17, 18, 19, 20, 21, 22, 23, 24] (fun q => [(5, .int .i64 (q.1 : Int)), (6, .int .i64 (q.2 : Int))]) (fun q wl => (q.1 ≤ q.2 ∧ q.2 ≤ n ∧ (∀ i, i + 1 = q.1 → p i = false) ∧ (q.2 < n → p q.2 = true)) ∧ St X w wl [] [] []) (fun q => q.2 - q.1) (0, n) ⟨rfl, rfl, trivial⟩ ⟨⟨Nat.zero_le _, Nat.le_refl _, (fun i h => by cases h), fun h => absurd h (Nat.lt_irrefl _)⟩, H⟩ ?_
  intro ⟨lo, hi_⟩ γ0 w1 hI
  try dsimp only at hI
  obtain ⟨hq, H⟩ := hI
  have hq1_ : lo ≤ hi_ := hq.1
  have hq2_ : hi_ ≤ n := hq.2.1
  refine WE.seq ?_
  refine WE.seq_reg ?_
  refine WL.mv rfl rfl ?_
  refine WL.mv rfl rfl ?_
  refine WL.pv (PV.lss rfl rfl rfl) rfl ?_
  refine WL.nil ?_
  refine WE.cond rfl (fun hc11 => ?_) (fun hc11 => ?_)
  · skip
    try simp only [decide_eq_true_eq, decide_eq_false_iff_not, ne_eq, Decidable.not_not, Bool.not_eq_true', Bool.not_eq_false', Bool.and_eq_true, Bool.or_eq_true, Bool.not_not, Bool.and_eq_false_iff, Bool.or_eq_false_iff, Int.not_lt, Int.not_le] at hc11
    have hlt : lo < hi_ := by omega
    refine WE.skip ?_
    refine WE.block ?_
    refine WE.seq_reg ?_
    refine WL.mv rfl rfl ?_
    refine WL.mv rfl rfl ?_
    refine WL.pv (PV.eq (v' := .int .i64 ((lo + hi_ : Nat) : Int)) (PV.add64 rfl rfl rfl (by omega) (by omega)) (by rfl)) rfl ?_
    refine WL.pv (PV.eq (v' := .int .u64 ((lo + hi_ : Nat) : Int)) (PV.conv rfl TryT.in3 TryT.in54 rfl) (by (rw [wrapu64]; congr 1; omega))) rfl ?_
    refine WL.pv (PV.eq (v' := .int .u64 (((lo + hi_) / 2 : Nat) : Int)) (PV.shrw rfl rfl rfl (by omega)) (by (congr 1; show Int.fdiv _ 2 = _; rw [Int.fdiv_eq_ediv_of_nonneg _ (by omega)]; omega))) rfl ?_
    refine WL.pv (PV.eq (v' := .int .i64 (((lo + hi_) / 2 : Nat) : Int)) (PV.conv64 rfl TryT.in54 TryT.in3 rfl (by omega) (by omega)) (by rfl)) rfl ?_
    refine WL.as rfl rfl ?_
    refine WL.nil ?_
    refine WE.seq_reg ?_
    refine WL.mv rfl rfl ?_
    refine WL.mv rfl rfl ?_
    have hcall := hf ((lo + hi_) / 2) _ (by omega) H.toOut0
    refine WL.callV rfl rfl hcall ?_
    rintro _ w4 ⟨rfl, hO⟩
    replace H := H.out hO
    refine WL.pv (PV.not rfl rfl) rfl ?_
    refine WL.nil ?_
    refine WE.cond rfl (fun hc21 => ?_) (fun hc21 => ?_)
    · skip
      try simp only [decide_eq_true_eq, decide_eq_false_iff_not, ne_eq, Decidable.not_not, Bool.not_eq_true', Bool.not_eq_false', Bool.and_eq_true, Bool.or_eq_true, Bool.not_not, Bool.and_eq_false_iff, Bool.or_eq_false_iff, Int.not_lt, Int.not_le] at hc21
      have hpf : p ((lo + hi_) / 2) = false := by exact hc21
      let q2 : Nat × Nat := ((lo + hi_) / 2 + 1, hi_)
      have hq2 : q2.1 ≤ q2.2 ∧ q2.2 ≤ n ∧ (∀ i, i + 1 = q2.1 → p i = false) ∧ (q2.2 < n → p q2.2 = true) := ⟨by show (lo + hi_) / 2 + 1 ≤ hi_; omega, hq2_, (fun i hi => by have h_ : i = (lo + hi_) / 2 := Nat.succ.inj hi; rw [h_]; exact hpf), hq.2.2.2⟩
      have hd2 : q2.2 - q2.1 < hi_ - lo := by show hi_ - ((lo + hi_) / 2 + 1) < hi_ - lo; omega
      refine WE.reg ?_
      refine WL.mv rfl rfl ?_
      refine WL.pv (PV.eq (v' := .int .i64 (((lo + hi_) / 2 + 1 : Nat) : Int)) (PV.add64 rfl rfl rfl (by omega) (by omega)) (by rfl)) rfl ?_
      refine WL.as rfl rfl ?_
      refine WL.nil ?_
      exact ⟨q2, (by repeat (first | with_reducible exact Off.refl _ _ | refine Off.upd rfl ?_ | refine Off.setAll rfl ?_ | refine Off.forget' rfl ?_)), ⟨rfl, rfl, trivial⟩, rfl, ⟨hq2, H⟩, hd2⟩
    · skip
      try simp only [decide_eq_true_eq, decide_eq_false_iff_not, ne_eq, Decidable.not_not, Bool.not_eq_true', Bool.not_eq_false', Bool.and_eq_true, Bool.or_eq_true, Bool.not_not, Bool.and_eq_false_iff, Bool.or_eq_false_iff, Int.not_lt, Int.not_le] at hc21
      have hpt : p ((lo + hi_) / 2) = true := by exact hc21
      let q2 : Nat × Nat := (lo, (lo + hi_) / 2)
      have hq2 : q2.1 ≤ q2.2 ∧ q2.2 ≤ n ∧ (∀ i, i + 1 = q2.1 → p i = false) ∧ (q2.2 < n → p q2.2 = true) := ⟨by show lo ≤ (lo + hi_) / 2; omega, by show (lo + hi_) / 2 ≤ n; have h_ := hq.2.1; omega, hq.2.2.1, fun _ => hpt⟩
      have hd2 : q2.2 - q2.1 < hi_ - lo := by show (lo + hi_) / 2 - lo < hi_ - lo; omega
      refine WE.reg ?_
      refine WL.mv rfl rfl ?_
      refine WL.as rfl rfl ?_
      refine WL.nil ?_
      exact ⟨q2, (by repeat (first | with_reducible exact Off.refl _ _ | refine Off.upd rfl ?_ | refine Off.setAll rfl ?_ | refine Off.forget' rfl ?_)), ⟨rfl, rfl, trivial⟩, rfl, ⟨hq2, H⟩, hd2⟩
  · skip
    try simp only [decide_eq_true_eq, decide_eq_false_iff_not, ne_eq, Decidable.not_not, Bool.not_eq_true', Bool.not_eq_false', Bool.and_eq_true, Bool.or_eq_true, Bool.not_not, Bool.and_eq_false_iff, Bool.or_eq_false_iff, Int.not_lt, Int.not_le] at hc11
    have heq : lo = hi_ := by omega
    refine WE.exit ?_
    refine WE.seq_reg ?_
    refine WL.mv rfl rfl ?_
    refine WL.as rfl rfl ?_
    refine WL.nil ?_
    refine WE.ret ?_
    refine ⟨[_], _, .nil _, ⟨rfl, trivial⟩, ?_⟩
    refine ⟨lo, rfl, H.toOut0, by omega, hq.2.2.1, fun h => ?_⟩
    rw [heq]; exact hq.2.2.2 (by omega)

theorem Split1_c {X : Nat → Prop} {w : World} {b1 b2 : Nat} {s : Value} {ks : List (List UInt8)} {i d : Nat} (hX : ∀ b, X b → b < w.heap.size) (hf0 : Rob X (fun w => RdA w ⟨b1, 0, none⟩ [s]) w) (hf1 : Rob X (fun w => RdA w ⟨b2, 0, none⟩ [.int .i64 (d : Int)]) w) (hf2 : Rob X (SlK s ks) w) (hkl : K32 ks) (hi : i < ks.length) (hd : d < 256) :
    Ret Try.prog 33 [.int .i64 (i : Int), .pointer (some ⟨b1, 0, none⟩), .pointer (some ⟨b2, 0, none⟩)].toArray w fun v w' => v = .bool (decide ((bitN ks[i] d : Int) = 1)) ∧ Out Nil w w' := by
  refine Ret.of_body (N := 12) Try.func33 rfl rfl (by simp) ?_
  have H := St.begin hX
  replace H := H.add (rob0 hf2)
  replace H := H.add (rob0 hf1)
  replace H := H.add (rob0 hf0)
  have hki := hkl _ (List.getElem_mem hi)
  refine WE.seq_reg ?_
  refine WL.as rfl rfl ?_
  refine WL.nil ?_
  refine WE.seq_draw (.take 0 (.take 1 (.take 2 (.take 3 (.take 4 (.pick1 5 (.take 6 (.take 7 .done)))))))) TryT.mixed (by kernel_rfl) ?_
  replace H := H.out (Out.drew _)
  refine WP.take_read rfl rfl (RV.loadOne rfl TryT.ag38 rfl) (H.p 0 rfl) ?_
  refine WP.mv rfl rfl rfl ?_
  refine WP.take_pure rfl rfl (PV.idxS rfl (by exact (H.p 2 rfl : SlK s ks _)) TryT.sl38 TryT.sz24 rfl rfl (by omega) (by omega)) ?_
  refine WP.readA rfl rfl rfl TryT.ag24 rfl (SlK.rd (by exact (H.p 2 rfl : SlK s ks _)) hkl i hi) (by (rw [TryT.sz24]; refine congrArg some ?_; (simp only [kc_length, kw_length, List.length_replicate, List.length_append, List.length_cons, List.length_nil]; omega))) ?_
  refine WP.take_read rfl rfl (RV.loadOne rfl TryT.ag3 rfl) (H.p 1 rfl) ?_
  refine WP.pick1 rfl ?_
  refine WL.call TryT.fb34 rfl (bitsBit_c (k := ks[i]) (d := d) H.yylt  hki hd) ?_
  rintro _ w1 ⟨rfl, hO⟩
  replace H := H.out hO
  refine WL.nil ⟨(List.forall_mem_cons.2 ⟨(by exact (fun h => absurd (show waits _ 5 4 = false from h) (by decide +kernel))), (List.forall_mem_cons.2 ⟨(by exact (fun h => absurd (show waits _ 5 3 = false from h) (by decide +kernel))), (List.forall_mem_cons.2 ⟨(by exact (fun h => absurd (show waits _ 5 0 = false from h) (by decide +kernel))), (fun _ h => by cases h)⟩)⟩)⟩), ?_⟩
  refine WP.take_pure rfl rfl (PV.eql rfl rfl rfl) ?_
  refine WP.as rfl rfl rfl ?_
  refine WP.done ?_
  refine WE.ret ?_
  refine ⟨[_], _, .nil _, ⟨rfl, trivial⟩, ?_⟩
  exact ⟨rfl, H.toOut0⟩


def sp1F (b2 b3 : Nat) : Value := .func (.func 33) ([] : List Value).toArray [.pointer (some ⟨b2, 0, none⟩), .pointer (some ⟨b3, 0, none⟩)].toArray
theorem Split1_call {X : Nat → Prop} {w : World} {s : Value} {ks : List (List UInt8)} {d b2 b3 : Nat} (hR1 : Rob X (fun w => RdA w ⟨b2, 0, none⟩ [s]) w) (hR2 : Rob X (fun w => RdA w ⟨b3, 0, none⟩ [.int .i64 (d : Int)]) w) (hR3 : Rob X (SlK s ks) w) (hkl : K32 ks) (hd : d < 256) (i : Nat) (W : World) (hi : i < ks.length) (hW : Out Nil w W) :
    CallV Try.prog (sp1F b2 b3) [.int .i64 (i : Int)] W fun v W' => v = .bool (decide ((bitN (ks.getD i []) d : Int) = 1)) ∧ Out Nil W W' := by
  refine CallV.of_ret (fs := []) (cs := [.pointer (some ⟨b2, 0, none⟩), .pointer (some ⟨b3, 0, none⟩)]) TryT.fb33 ?_
  refine (Split1_c (X := Nil) (s := s) (ks := ks) (i := i) (d := d) (b1 := b2) (b2 := b3) (fun _ h => h.elim) (hR1.out hW (fun _ _ h => h.elim) (fun _ _ h => h.elim)) (hR2.out hW (fun _ _ h => h.elim) (fun _ _ h => h.elim)) (hR3.out hW (fun _ _ h => h.elim) (fun _ _ h => h.elim)) hkl hi hd).mono fun v W' hv => ?_
  rw [List.getD_eq_getElem?_getD, List.getElem?_eq_getElem hi]
  exact hv

theorem Split_c {X : Nat → Prop} {w : World} {s : Value} {ks : List (List UInt8)} {d : Nat} (hX : ∀ b, X b → b < w.heap.size) (hf0 : Rob X (SlK s ks) w) (hkl : K32 ks) (hlen : ks.length ≤ 1000000) (hd : d < 256) :
    Ret Try.prog 21 [s, .int .i64 (d : Int)].toArray w fun v w' => ∃ r : Nat, v = .int .i64 (r : Int) ∧ Out Nil w w' ∧ r ≤ ks.length ∧ (∀ i (h : i < ks.length), i + 1 = r → bitN ks[i] d ≠ 1) ∧ (∀ h : r < ks.length, bitN ks[r] d = 1) := by
  refine Ret.of_body (N := 9) Try.func21 rfl rfl (by simp) ?_
  have H := St.begin hX
  replace H := H.add (rob0 hf0)
  have hs1 : s.oneCell' = true := SlC.one1 (H.p 0 rfl : SlK s ks _)
  refine WE.seq_reg ?_
  refine WL.box (l := [s]) H rfl (cells_one hs1) rfl ?_
  intro b2 w1 H
  refine WL.box (l := [.int .i64 (d : Int)]) H rfl (rfl) rfl ?_
  intro b3 w2 H
  refine WL.as rfl rfl ?_
  refine WL.nil ?_
  refine WE.seq_reg ?_
  refine WL.load1 rfl TryT.ag38 rfl rfl (by exact Blk.segAt (H.l 1 rfl) (Seg.all _) (by rfl)) ?_
  refine WL.pv (PV.lenS (by exact (H.p 0 rfl : SlK s ks _)) TryT.sl38 rfl) rfl ?_
  refine WL.pv (PV.makeFunc rfl) rfl ?_
  replace H := H.freeze (i := 0) rfl
  replace H := H.freeze (i := 0) rfl
  have hR1 := (H.rob 0 rfl).imp fun _ h => h.rd
  have hR2 := (H.rob 1 rfl).imp fun _ h => h.rd
  have hR3 := H.rob 2 rfl
  refine WL.call TryT.fb32 rfl (Search_c (X := Nil) (f := sp1F b2 b3) (p := fun i => decide ((bitN (ks.getD i []) d : Int) = 1)) (fun _ h => h.elim) (Split1_call hR1 hR2 hR3 hkl hd) hlen) ?_
  rintro _ w3 ⟨r, rfl, hO, hr1, hr2, hr3⟩
  replace H := H.out hO
  refine WL.as rfl rfl ?_
  refine WL.nil ?_
  refine WE.ret ?_
  refine ⟨[_], _, .nil _, ⟨rfl, trivial⟩, ?_⟩
  refine ⟨r, rfl, H.toOut0, hr1, fun i hi he h1 => ?_, fun h => ?_⟩
  · have h_ := hr2 i he; rw [List.getD_eq_getElem?_getD, List.getElem?_eq_getElem hi] at h_; simp [h1] at h_
  · have h_ := hr3 h; rw [List.getD_eq_getElem?_getD, List.getElem?_eq_getElem h] at h_; simp at h_; omega

end Go.Sp.Try
