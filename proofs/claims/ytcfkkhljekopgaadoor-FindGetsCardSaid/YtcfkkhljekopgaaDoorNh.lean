/- Walks of functions, printed by a program of this session (gen.py) from notes on each function. -/
import Derived.Test.YtcfkkhljekopgaaDoorNg
import Derived.Test.YtcfkkhljekopgaaDoorTb
import Derived.Test.YtcfkkhljekopgaaDoorNe
set_option maxRecDepth 100000
set_option maxHeartbeats 1000000
set_option linter.unusedVariables false
set_option linter.unusedSimpArgs false
namespace Go.Sp.Tryd
open Go.Proofs Go.RowKit Go.Sp

theorem rootM_length (bits : Int) (d : Nat) (m : List En) : (rootM bits d m).length = 32 := dig_length _ _
def ShortV (m : List En) : Prop := ∀ e ∈ m, e.v.length ≤ 1000000
theorem ShortV.part {m : List En} {d b : Nat} (h : ShortV m) : ShortV (partM m d b) := fun e he => h e (partM_mem.1 he).1
theorem partM_le (m : List En) (d b : Nat) : (partM m d b).length ≤ m.length := List.length_filter_le _ _
theorem OneS.part {m : List En} {d b : Nat} (h : OneS m) : OneS (partM m d b) := fun e he => h e (partM_mem.1 he).1
def RootOK (bits : Int) (d : Nat) : Prop := ∀ {X : Nat → Prop} {w : World} {s : Value} {m : List En}, (∀ b, X b → b < w.heap.size) → Rob X (SlE s m) w → Rob X (Vals m) w → Rob X Rounds w → Pm d m → m.length ≤ 1000000 → ShortV m → 0 ≤ bits ∧ bits ≤ 256 →
  Ret Tryd.prog 33 [.int .i64 bits, s, .int .i64 (d : Int)].toArray w fun v w' => v = .agg (kc (rootM bits d m)).toArray ∧ Out Nil w w'

theorem Root_s {X : Nat → Prop} {w : World} {bits : Int} {s : Value} {m : List En} {d : Nat} (hX : ∀ b, X b → b < w.heap.size) (hf0 : Rob X (SlE s m) w) (hf1 : Rob X (Vals m) w) (hf2 : Rob X (Rounds) w) (hpm : Pm d m) (hlen : m.length ≤ 1000000) (hsv : ShortV m) (hbits : 0 ≤ bits ∧ bits ≤ 256) (ih : RootOK bits (d + 1)) :
    Ret Tryd.prog 33 [.int .i64 bits, s, .int .i64 (d : Int)].toArray w fun v w' => v = .agg (kc (rootM bits d m)).toArray ∧ Out Nil w w' := by
  refine Ret.of_body (N := 49) Tryd.func33 rfl rfl (by simp) ?_
  have H := St.begin hX
  replace H := H.add (rob0 hf2)
  replace H := H.add (rob0 hf1)
  replace H := H.add (rob0 hf0)
  have hkl := hpm.kl
  have hone := OneS.of (hf1.here)
  refine WE.seq_reg ?_
  refine WL.alloc H rfl TrydT.ze29 rfl ?_
  intro b6 w1 H
  refine WL.nil ?_
  refine WE.seq ?_
  refine WE.seq_reg ?_
  refine WL.mv rfl rfl ?_
  refine WL.pv (PV.lenS (by exact H.p 0 rfl : SlE s m _) TrydT.sl42 rfl) rfl ?_
  refine WL.pv (PV.eql rfl rfl rfl) rfl ?_
  refine WL.nil ?_
  refine WE.cond rfl (fun hc11 => ?_) (fun hc11 => ?_)
  · skip
    try simp only [decide_eq_true_eq, decide_eq_false_iff_not, ne_eq, Decidable.not_not, Bool.not_eq_true', Bool.not_eq_false', Bool.and_eq_true, Bool.or_eq_true, Bool.not_not, Bool.and_eq_false_iff, Bool.or_eq_false_iff, Int.not_lt, Int.not_le] at hc11
    obtain rfl : m = [] := List.eq_nil_of_length_eq_zero (by omega)
    refine WE.seq_reg ?_
    refine WL.mv rfl rfl ?_
    refine WL.call TrydT.fb43 rfl (refEmpty_c (i := bits) H.yylt (by exact H.rob 2 rfl) (by assumption)) ?_
    rintro _ w2 ⟨rfl, hO⟩
    replace H := H.out hO
    refine WL.storeL H 0 rfl rfl rfl (new := _) rfl (by exact TrydT.sz29) (by exact kc_one _) (Laid.at (Laid.all (by rfl)) (by rfl)) rfl ?_
    intro w3 H
    refine WL.nil ?_
    refine WE.ret ?_
    refine ⟨[_], _, .nil _, ⟨⟨_, rfl, run_loadVar_aggR TrydT.ag29 (by exact Blk.segAt (H.l 0 rfl) (Seg.all _) rfl) (by exact TrydT.sz29)⟩, trivial⟩, ?_⟩
    refine ⟨?_, H.toOut0⟩
    rw [rootM, grow_nil]; rfl
  · skip
    try simp only [decide_eq_true_eq, decide_eq_false_iff_not, ne_eq, Decidable.not_not, Bool.not_eq_true', Bool.not_eq_false', Bool.and_eq_true, Bool.or_eq_true, Bool.not_not, Bool.and_eq_false_iff, Bool.or_eq_false_iff, Int.not_lt, Int.not_le] at hc11
    refine WE.skip ?_
    refine WE.seq ?_
    refine WE.seq_reg ?_
    refine WL.mv rfl rfl ?_
    refine WL.pv (PV.lenS (by exact H.p 0 rfl : SlE s m _) TrydT.sl42 rfl) rfl ?_
    refine WL.pv (PV.eql rfl rfl rfl) rfl ?_
    refine WL.nil ?_
    refine WE.cond rfl (fun hc16 => ?_) (fun hc16 => ?_)
    · skip
      try simp only [decide_eq_true_eq, decide_eq_false_iff_not, ne_eq, Decidable.not_not, Bool.not_eq_true', Bool.not_eq_false', Bool.and_eq_true, Bool.or_eq_true, Bool.not_not, Bool.and_eq_false_iff, Bool.or_eq_false_iff, Int.not_lt, Int.not_le] at hc16
      obtain ⟨e, rfl⟩ : ∃ e, m = [e] := List.length_eq_one_iff.1 (by omega)
      have hk := hkl e (by simp)
      have hv := hsv e (by simp)
      have hvd := valD_length bits e.v
      refine WE.seq_draw (.take 0 (.take 1 (.take 2 (.take 3 (.take 4 (.take 5 (.take 6 (.take 7 (.take 8 (.take 9 (.pick1 10 (.pick1 11 (.pick1 12 (.pick1 13 .done)))))))))))))) TrydT.mixed (by kernel_rfl) ?_
      replace H := H.out (Out.drew _)
      refine WP.mv rfl rfl rfl ?_
      refine WP.mv rfl rfl rfl ?_
      refine WP.mv rfl rfl rfl ?_
      refine WP.take_pure rfl rfl (PV.idxS rfl (by exact H.p 0 rfl : SlE s _ _) TrydT.sl42 TrydT.sz52 rfl rfl (by omega) (by simp)) ?_
      refine WP.take_pure rfl rfl (PV.fieldAddrA rfl TrydT.fd52_0 rfl) ?_
      refine WP.readA rfl rfl rfl TrydT.ag36 rfl (SlE.rdk (H.p 0 rfl) hkl 0 (by simp)) (by (rw [TrydT.sz36]; refine congrArg some ?_; (simp [kc_length, kw_length, *]; done))) ?_
      refine WP.mv rfl rfl rfl ?_
      refine WP.take_pure rfl rfl (PV.idxS rfl (by exact H.p 0 rfl : SlE s _ _) TrydT.sl42 TrydT.sz52 rfl rfl (by omega) (by simp)) ?_
      refine WP.take_pure rfl rfl (PV.fieldAddrA rfl TrydT.fd52_1 rfl) ?_
      refine WP.take_read rfl rfl (RV.loadOne rfl TrydT.ag33 rfl) (SlE.rdv (H.p 0 rfl) hkl 0 (by simp)) ?_
      refine WP.pick1 rfl ?_
      refine WL.call TrydT.fb26 rfl (refLeafOf_c (k := e.k) (la := e.v) (i := bits) H.yylt (by exact (H.rob 1 rfl).imp fun _ h => h e (by simp)) (by exact H.rob 2 rfl) (by assumption) (by assumption) (by assumption)) ?_
      rintro _ w4 ⟨rfl, hO⟩
      replace H := H.out hO
      refine WL.nil ⟨(List.forall_mem_cons.2 ⟨(by exact (fun h => absurd (show waits _ 10 9 = false from h) (by decide +kernel))), (List.forall_mem_cons.2 ⟨(by exact (fun h => absurd (show waits _ 10 5 = false from h) (by decide +kernel))), (fun _ h => by cases h)⟩)⟩), ?_⟩
      refine WP.pick1 rfl ?_
      refine WL.call TrydT.fb72 rfl (refLeaf_c (k := e.k) (l := valD bits e.v) H.yylt  (by assumption) (by assumption)) ?_
      rintro v28 w5 ⟨hO, hR⟩
      replace H := (H.out hO).add hR
      refine WL.nil ⟨(List.forall_mem_cons.2 ⟨(by exact (fun h => absurd (show waits _ 11 9 = false from h) (by decide +kernel))), (List.forall_mem_cons.2 ⟨(by exact (fun h => absurd (show waits _ 11 5 = false from h) (by decide +kernel))), (fun _ h => by cases h)⟩)⟩), ?_⟩
      refine WP.pick1 rfl ?_
      refine WL.call TrydT.fb68 rfl (refSum5_c (la := 0 :: (e.k ++ valD bits e.v)) (i := bits) H.yylt (by exact H.rob 0 rfl) (by (simp; omega)) (by omega)) ?_
      rintro _ w6 ⟨rfl, hO⟩
      replace H := H.out hO
      refine WL.nil ⟨(List.forall_mem_cons.2 ⟨(by exact (fun h => absurd (show waits _ 12 9 = false from h) (by decide +kernel))), (List.forall_mem_cons.2 ⟨(by exact (fun h => absurd (show waits _ 12 5 = false from h) (by decide +kernel))), (fun _ h => by cases h)⟩)⟩), ?_⟩
      refine WP.pick1 rfl ?_
      refine WL.storeL H 0 rfl rfl rfl (new := _) rfl (by exact TrydT.sz29) (by exact kc_one _) (Laid.at (Laid.all (by (simp only [kc_length, kw_length, List.length_replicate, List.length_append, List.length_cons, List.length_nil, cutI_length, shaOf_length, dig_length, valD_length, rootM_length]; done))) (by rfl)) rfl ?_
      intro w7 H
      refine WL.nil ⟨(List.forall_mem_cons.2 ⟨(by exact (fun h => absurd (show waits _ 13 9 = false from h) (by decide +kernel))), (List.forall_mem_cons.2 ⟨(by exact (fun h => absurd (show waits _ 13 5 = false from h) (by decide +kernel))), (fun _ h => by cases h)⟩)⟩), ?_⟩
      refine WP.done ?_
      refine WE.ret ?_
      refine ⟨[_], _, .nil _, ⟨⟨_, rfl, run_loadVar_aggR TrydT.ag29 (by exact Blk.segAt (H.l 0 rfl) (Seg.all _) rfl) (by exact TrydT.sz29)⟩, trivial⟩, ?_⟩
      refine ⟨?_, H.toOut0⟩
      rw [rootM, grow_one]; rfl
    · skip
      try simp only [decide_eq_true_eq, decide_eq_false_iff_not, ne_eq, Decidable.not_not, Bool.not_eq_true', Bool.not_eq_false', Bool.and_eq_true, Bool.or_eq_true, Bool.not_not, Bool.and_eq_false_iff, Bool.or_eq_false_iff, Int.not_lt, Int.not_le] at hc16
      have h2 : 2 ≤ m.length := by omega
      have hd := hpm.lt h2
      refine WE.skip ?_
      refine WE.seq_reg ?_
      refine WL.mv rfl rfl ?_
      refine WL.mv rfl rfl ?_
      refine WL.mv rfl rfl ?_
      refine WL.call TrydT.fb71 rfl (Part_c (m := m) (d := d) (b := 0) H.yylt (by exact H.rob 0 rfl) (by assumption) (by assumption) (by assumption) (by assumption)) ?_
      rintro v33 w8 ⟨hO, hR⟩
      replace H := (H.out hO).add hR
      refine WL.mv rfl rfl ?_
      refine WL.pv (PV.eq (v' := .int .i64 ((d + 1 : Nat) : Int)) (PV.add64 rfl rfl rfl (by omega) (by omega)) rfl) rfl ?_
      refine WL.call TrydT.fb33 rfl (ih (m := partM m d 0) H.yylt (H.rob 0 rfl) (by exact (H.rob 2 rfl).imp fun _ h => vals_part h) (by exact H.rob 3 rfl) (by exact hpm.part hd _) (by exact Nat.le_trans (partM_le _ _ _) hlen) (by exact ShortV.part hsv) hbits) ?_
      rintro _ w9 ⟨rfl, hO⟩
      replace H := H.out hO
      refine WL.alloc H rfl TrydT.ze29 rfl ?_
      intro b7 w10 H
      refine WL.storeL H 0 rfl rfl rfl (new := _) rfl (by (rw [TrydT.sz29]; refine congrArg some ?_; (simp only [kc_length, kw_length, List.length_replicate, List.length_append, List.length_cons, List.length_nil, cutI_length, shaOf_length, dig_length, valD_length, rootM_length]; done))) (by exact kc_one _) (Laid.at (Laid.all (by (simp only [kc_length, kw_length, List.length_replicate, List.length_append, List.length_cons, List.length_nil, cutI_length, shaOf_length, dig_length, valD_length, rootM_length]; done))) (by rfl)) rfl ?_
      intro w11 H
      refine WL.nil ?_
      refine WE.seq_reg ?_
      refine WL.mv rfl rfl ?_
      refine WL.mv rfl rfl ?_
      refine WL.mv rfl rfl ?_
      refine WL.call TrydT.fb71 rfl (Part_c (m := m) (d := d) (b := 1) H.yylt (by exact H.rob 1 rfl) (by assumption) (by assumption) (by assumption) (by assumption)) ?_
      rintro v40 w12 ⟨hO, hR⟩
      replace H := (H.out hO).add hR
      refine WL.mv rfl rfl ?_
      refine WL.pv (PV.eq (v' := .int .i64 ((d + 1 : Nat) : Int)) (PV.add64 rfl rfl rfl (by omega) (by omega)) rfl) rfl ?_
      refine WL.call TrydT.fb33 rfl (ih (m := partM m d 1) H.yylt (H.rob 0 rfl) (by exact (H.rob 3 rfl).imp fun _ h => vals_part h) (by exact H.rob 4 rfl) (by exact hpm.part hd _) (by exact Nat.le_trans (partM_le _ _ _) hlen) (by exact ShortV.part hsv) hbits) ?_
      rintro _ w13 ⟨rfl, hO⟩
      replace H := H.out hO
      refine WL.alloc H rfl TrydT.ze29 rfl ?_
      intro b8 w14 H
      refine WL.storeL H 0 rfl rfl rfl (new := _) rfl (by (rw [TrydT.sz29]; refine congrArg some ?_; (simp only [kc_length, kw_length, List.length_replicate, List.length_append, List.length_cons, List.length_nil, cutI_length, shaOf_length, dig_length, valD_length, rootM_length]; done))) (by exact kc_one _) (Laid.at (Laid.all (by (simp only [kc_length, kw_length, List.length_replicate, List.length_append, List.length_cons, List.length_nil, cutI_length, shaOf_length, dig_length, valD_length, rootM_length]; done))) (by rfl)) rfl ?_
      intro w15 H
      refine WL.nil ?_
      refine WE.seq_reg ?_
      refine WL.mv rfl rfl ?_
      refine WL.loadR rfl TrydT.ag29 rfl rfl (by exact Blk.segAt (H.l 1 rfl) (Seg.all _) (by rfl)) (by (rw [TrydT.sz29]; refine congrArg some ?_; (simp only [kc_length, kw_length, List.length_replicate, List.length_append, List.length_cons, List.length_nil, cutI_length, shaOf_length, dig_length, valD_length, rootM_length]; done))) ?_
      refine WL.loadR rfl TrydT.ag29 rfl rfl (by exact Blk.segAt (H.l 0 rfl) (Seg.all _) (by rfl)) (by (rw [TrydT.sz29]; refine congrArg some ?_; (simp only [kc_length, kw_length, List.length_replicate, List.length_append, List.length_cons, List.length_nil, cutI_length, shaOf_length, dig_length, valD_length, rootM_length]; done))) ?_
      refine WL.call TrydT.fb73 rfl (refNode_c (k := rootM bits (d + 1) (partM m d 0)) (l := rootM bits (d + 1) (partM m d 1)) H.yylt  (dig_length _ _) (dig_length _ _)) ?_
      rintro v47 w16 ⟨hO, hR⟩
      replace H := (H.out hO).add hR
      refine WL.call TrydT.fb68 rfl (refSum5_c (la := 1 :: (rootM bits (d + 1) (partM m d 0) ++ rootM bits (d + 1) (partM m d 1))) (i := bits) H.yylt (by exact H.rob 0 rfl) (by simp [rootM, dig_length]) (by omega)) ?_
      rintro _ w17 ⟨rfl, hO⟩
      replace H := H.out hO
      refine WL.storeL H 2 rfl rfl rfl (new := _) rfl (by exact TrydT.sz29) (by exact kc_one _) (Laid.at (Laid.all (by (simp only [kc_length, kw_length, List.length_replicate, List.length_append, List.length_cons, List.length_nil, cutI_length, shaOf_length, dig_length, valD_length, rootM_length]; done))) (by rfl)) rfl ?_
      intro w18 H
      refine WL.nil ?_
      refine WE.ret ?_
      refine ⟨[_], _, .nil _, ⟨⟨_, rfl, run_loadVar_aggR TrydT.ag29 (by exact Blk.segAt (H.l 2 rfl) (Seg.all _) rfl) (by exact TrydT.sz29)⟩, trivial⟩, ?_⟩
      refine ⟨?_, H.toOut0⟩
      have e0 : rootM bits d m = _ := congrArg (Sh.dig bits) (grow_many d m hd h2)
      rw [e0]; rfl


theorem Root_ok (bits : Int) : ∀ (n d : Nat), 256 - d = n → RootOK bits d := by
  intro n
  induction n with
  | zero =>
    intro d hn X w s m hX h0 h1 h2 hp hl hs hb
    exact Root_s hX h0 h1 h2 hp hl hs hb (fun _ _ _ _ hp' => absurd hp'.le (by omega))
  | succ n ih =>
    intro d hn X w s m hX h0 h1 h2 hp hl hs hb
    exact Root_s hX h0 h1 h2 hp hl hs hb (ih (d + 1) (by omega))
theorem Root_c {X : Nat → Prop} {w : World} {s : Value} {m : List En} {bits : Int} {d : Nat} (hX : ∀ b, X b → b < w.heap.size) (h0 : Rob X (SlE s m) w) (h1 : Rob X (Vals m) w) (h2 : Rob X Rounds w) (hp : Pm d m) (hl : m.length ≤ 1000000) (hs : ShortV m) (hb : 0 ≤ bits ∧ bits ≤ 256) :
    Ret Tryd.prog 33 [.int .i64 bits, s, .int .i64 (d : Int)].toArray w fun v w' => v = .agg (kc (rootM bits d m)).toArray ∧ Out Nil w w' :=
  Root_ok bits _ d rfl hX h0 h1 h2 hp hl hs hb

end Go.Sp.Tryd
