/- Walks of functions, printed by a program of this session (gen.py) from notes on each function. -/
import Derived.Test.YtcfkkhljekopgaaDoorNh
set_option maxRecDepth 100000
set_option maxHeartbeats 1000000
set_option linter.unusedVariables false
set_option linter.unusedSimpArgs false
namespace Go.Sp.Tryd
open Go.Proofs Go.RowKit Go.Sp

def GrowOK (d : Nat) : Prop := ∀ {X : Nat → Prop} {w : World} {bh bc : Nat} {bits n : Int} {s : Value} {m : List En}, (∀ b, X b → b < w.heap.size) → Blk w bc 86 [.int .i64 n] → Rob (fun c => X c ∨ c = bc) (HAt bh bc bits) w →
  Rob (fun c => X c ∨ c = bc) (SlE s m) w → Rob (fun c => X c ∨ c = bc) (Vals m) w → Rob (fun c => X c ∨ c = bc) Rounds w → Pm d m → m.length ≤ 1000000 → ShortV m → 0 ≤ bits ∧ bits ≤ 256 →
  Ret Tryd.prog 32 [.pointer (some ⟨bh, 0, none⟩), s, .int .i64 (d : Int)].toArray w fun v w' => ∃ (T : Tr) (k : Int), v = T.ptr ∧ T.er = grow d m ∧ Out (· = bc) w w' ∧ Blk w' bc 86 [.int .i64 k] ∧ Rob (fun c => X c ∨ c = bc) (TrA bits T) w'
theorem Pm.cnt {d : Nat} {m : List En} (h : Pm d m) : (grow d m).cnt = m.length := grow_cnt h

theorem GrowT_s {X : Nat → Prop} {w : World} {bh bc : Nat} {bits n : Int} {s : Value} {m : List En} {d : Nat} (hX : ∀ b, X b → b < w.heap.size) (ho0 : Blk w bc 86 ([.int .i64 n])) (hf0 : Rob (fun c_ => X c_ ∨ c_ = bc) (HAt bh bc bits) w) (hf1 : Rob (fun c_ => X c_ ∨ c_ = bc) (SlE s m) w) (hf2 : Rob (fun c_ => X c_ ∨ c_ = bc) (Vals m) w) (hf3 : Rob (fun c_ => X c_ ∨ c_ = bc) (Rounds) w) (hpm : Pm d m) (hlen : m.length ≤ 1000000) (hsv : ShortV m) (hbits : 0 ≤ bits ∧ bits ≤ 256) (ih : GrowOK (d + 1)) :
    Ret Tryd.prog 32 [.pointer (some ⟨bh, 0, none⟩), s, .int .i64 (d : Int)].toArray w fun v w' => ∃ (T : Tr) (k : Int), v = T.ptr ∧ T.er = grow d m ∧ Out (· = bc) w w' ∧ Blk w' bc 86 [.int .i64 k] ∧ Rob (fun c => X c ∨ c = bc) (TrA bits T) w' := by
  refine Ret.of_body (N := 34) Tryd.func32 rfl rfl (by simp) ?_
  have H := St.begin1 (b := bc) (t := 86) (l := [.int .i64 n]) hX ho0
  replace H := H.add (rob1 hf3)
  replace H := H.add (rob1 hf2)
  replace H := H.add (rob1 hf1)
  replace H := H.add (rob1 hf0)
  have hkl := hpm.kl
  have hone := OneS.of (hf2.here)
  refine WE.seq_reg ?_
  refine WL.as rfl rfl ?_
  refine WL.nil ?_
  refine WE.seq ?_
  refine WE.seq_reg ?_
  refine WL.mv rfl rfl ?_
  refine WL.pv (PV.lenS (by exact H.p 1 rfl : SlE s m _) TrydT.sl42 rfl) rfl ?_
  refine WL.nil ?_
  refine WE.block ?_
  refine WE.seq_reg ?_
  refine WL.pv (PV.eql rfl rfl rfl) rfl ?_
  refine WL.as rfl rfl ?_
  refine WL.nil ?_
  refine WE.cond rfl (fun hc9 => ?_) (fun hc9 => ?_)
  · skip
    try simp only [decide_eq_true_eq, decide_eq_false_iff_not, ne_eq, Decidable.not_not, Bool.not_eq_true', Bool.not_eq_false', Bool.and_eq_true, Bool.or_eq_true, Bool.not_not, Bool.and_eq_false_iff, Bool.or_eq_false_iff, Int.not_lt, Int.not_le] at hc9
    obtain rfl : m = [] := List.eq_nil_of_length_eq_zero (by omega)
    refine WE.seq_reg ?_
    refine WL.as rfl rfl ?_
    refine WL.nil ?_
    refine WE.ret ?_
    refine ⟨[_], _, .nil _, ⟨rfl, trivial⟩, ?_⟩
    exact ⟨.nil, n, rfl, (grow_nil d).symm, H.toOut1, H.o 0 rfl, Rob.pure trivial⟩
  · skip
    try simp only [decide_eq_true_eq, decide_eq_false_iff_not, ne_eq, Decidable.not_not, Bool.not_eq_true', Bool.not_eq_false', Bool.and_eq_true, Bool.or_eq_true, Bool.not_not, Bool.and_eq_false_iff, Bool.or_eq_false_iff, Int.not_lt, Int.not_le] at hc9
    refine WE.seq_reg ?_
    refine WL.pv (PV.eql rfl rfl rfl) rfl ?_
    refine WL.as rfl rfl ?_
    refine WL.nil ?_
    refine WE.cond rfl (fun hc11 => ?_) (fun hc11 => ?_)
    · skip
      try simp only [decide_eq_true_eq, decide_eq_false_iff_not, ne_eq, Decidable.not_not, Bool.not_eq_true', Bool.not_eq_false', Bool.and_eq_true, Bool.or_eq_true, Bool.not_not, Bool.and_eq_false_iff, Bool.or_eq_false_iff, Int.not_lt, Int.not_le] at hc11
      obtain ⟨e, rfl⟩ : ∃ e, m = [e] := List.length_eq_one_iff.1 (by omega)
      have hk := hkl e (by simp)
      have hv := hsv e (by simp)
      have henc : (enC e).length = 33 := enC_length hk
      refine WE.seq_reg ?_
      refine WL.mv rfl rfl ?_
      refine WL.mv rfl rfl ?_
      refine WL.pv (PV.idxS rfl (by exact H.p 1 rfl : SlE s _ _) TrydT.sl42 TrydT.sz52 rfl rfl (by omega) (by simp)) rfl ?_
      refine WL.loadR rfl TrydT.ag52 rfl rfl ((show SlE s [e] _ from H.p 1 rfl).rd hkl 0 (by simp)) (by (rw [TrydT.sz52]; refine congrArg some ?_; (simp [kc_length, kw_length, *]; done))) ?_
      refine WL.call TrydT.fb35 rfl (NewLeaf_c (k := e.k) (lv := e.v) (s := e.s) H.yylt (H.o 0 rfl) (by exact H.robOld 0 rfl 0 rfl) ((H.robOld 0 rfl 2 rfl).imp fun _ h => h e (by simp)) (by exact H.robOld 0 rfl 3 rfl) hbits hv hk) ?_
      rintro _ w1 ⟨Tv17, mv17, rfl, hTv17, hO, hB, hR⟩
      replace H := H.calledOR 0 rfl hO hB hR
      refine WL.as rfl rfl ?_
      refine WL.nil ?_
      refine WE.ret ?_
      refine ⟨[_], _, .nil _, ⟨rfl, trivial⟩, ?_⟩
      exact ⟨Tv17, _, rfl, hTv17.trans (grow_one d e).symm, H.toOut1, H.o 0 rfl, H.giveO (H.rob 0 rfl)⟩
    · skip
      try simp only [decide_eq_true_eq, decide_eq_false_iff_not, ne_eq, Decidable.not_not, Bool.not_eq_true', Bool.not_eq_false', Bool.and_eq_true, Bool.or_eq_true, Bool.not_not, Bool.and_eq_false_iff, Bool.or_eq_false_iff, Int.not_lt, Int.not_le] at hc11
      have h2 : 2 ≤ m.length := by omega
      have hd := hpm.lt h2
      refine WE.skip ?_
      refine WE.seq_reg ?_
      refine WL.mv rfl rfl ?_
      refine WL.mv rfl rfl ?_
      refine WL.mv rfl rfl ?_
      refine WL.mv rfl rfl ?_
      refine WL.call TrydT.fb71 rfl (Part_c (m := m) (d := d) (b := 0) H.yylt (by exact H.rob 1 rfl) (by assumption) (by assumption) (by assumption) (by assumption)) ?_
      rintro v22 w2 ⟨hO, hR⟩
      replace H := (H.out hO).add hR
      refine WL.mv rfl rfl ?_
      refine WL.pv (PV.eq (v' := .int .i64 ((d + 1 : Nat) : Int)) (PV.add64 rfl rfl rfl (by omega) (by omega)) rfl) rfl ?_
      refine WL.call TrydT.fb32 rfl (ih (m := partM m d 0) H.yylt (H.o 0 rfl) (by exact H.robOld 0 rfl 1 rfl) (by exact H.robOld 0 rfl 0 rfl) (by exact (H.robOld 0 rfl 3 rfl).imp fun _ h => vals_part h) (by exact H.robOld 0 rfl 4 rfl) (by exact hpm.part hd _) (by exact Nat.le_trans (partM_le _ _ _) hlen) (by exact ShortV.part hsv) hbits) ?_
      rintro _ w3 ⟨Tv25, mv25, rfl, hTv25, hO, hB, hR⟩
      replace H := H.calledOR 0 rfl hO hB hR
      refine WL.mv rfl rfl ?_
      refine WL.mv rfl rfl ?_
      refine WL.mv rfl rfl ?_
      refine WL.call TrydT.fb71 rfl (Part_c (m := m) (d := d) (b := 1) H.yylt (by exact H.rob 3 rfl) (by assumption) (by assumption) (by assumption) (by assumption)) ?_
      rintro v29 w4 ⟨hO, hR⟩
      replace H := (H.out hO).add hR
      refine WL.mv rfl rfl ?_
      refine WL.pv (PV.eq (v' := .int .i64 ((d + 1 : Nat) : Int)) (PV.add64 rfl rfl rfl (by omega) (by omega)) rfl) rfl ?_
      refine WL.call TrydT.fb32 rfl (ih (m := partM m d 1) H.yylt (H.o 0 rfl) (by exact H.robOld 0 rfl 3 rfl) (by exact H.robOld 0 rfl 0 rfl) (by exact (H.robOld 0 rfl 5 rfl).imp fun _ h => vals_part h) (by exact H.robOld 0 rfl 6 rfl) (by exact hpm.part hd _) (by exact Nat.le_trans (partM_le _ _ _) hlen) (by exact ShortV.part hsv) hbits) ?_
      rintro _ w5 ⟨Tv32, mv32, rfl, hTv32, hO, hB, hR⟩
      replace H := H.calledOR 0 rfl hO hB hR
      refine WL.call TrydT.fb34 rfl (Join_c (bits := bits) H.yylt (H.o 0 rfl) (by exact H.robOld 0 rfl 4 rfl) (by exact H.robOld 0 rfl 2 rfl) (by exact H.robOld 0 rfl 0 rfl) (by exact H.robOld 0 rfl 7 rfl) hbits (by rw [hTv25, hTv32, (hpm.part hd 0).cnt, (hpm.part hd 1).cnt]; have := part_len m d; omega)) ?_
      rintro _ w6 ⟨Tv33, mv33, rfl, hTv33, hO, hB, hR⟩
      replace H := H.calledOR 0 rfl hO hB hR
      refine WL.as rfl rfl ?_
      refine WL.nil ?_
      refine WE.ret ?_
      refine ⟨[_], _, .nil _, ⟨rfl, trivial⟩, ?_⟩
      refine ⟨Tv33, _, rfl, ?_, H.toOut1, H.o 0 rfl, H.giveO (H.rob 0 rfl)⟩
      rw [hTv33, hTv25, hTv32, joinS_inner (by rw [(hpm.part hd 0).cnt, (hpm.part hd 1).cnt]; have := part_len m d; omega), grow_many d m hd h2]


theorem GrowT_ok : ∀ (q d : Nat), 256 - d = q → GrowOK d := by
  intro q
  induction q with
  | zero =>
    intro d hn X w bh bc bits n s m hX hb0 h0 h1 h2 h3 hp hl hs hb
    exact GrowT_s hX hb0 h0 h1 h2 h3 hp hl hs hb (fun _ _ _ _ _ _ hp' => absurd hp'.le (by omega))
  | succ q ih =>
    intro d hn X w bh bc bits n s m hX hb0 h0 h1 h2 h3 hp hl hs hb
    exact GrowT_s hX hb0 h0 h1 h2 h3 hp hl hs hb (ih (d + 1) (by omega))
theorem GrowT_c {X : Nat → Prop} {w : World} {bh bc : Nat} {bits n : Int} {s : Value} {m : List En} {d : Nat} (hX : ∀ b, X b → b < w.heap.size) (ho0 : Blk w bc 86 [.int .i64 n]) (hf0 : Rob (fun c => X c ∨ c = bc) (HAt bh bc bits) w)
    (hf1 : Rob (fun c => X c ∨ c = bc) (SlE s m) w) (hf2 : Rob (fun c => X c ∨ c = bc) (Vals m) w) (hf3 : Rob (fun c => X c ∨ c = bc) Rounds w) (hp : Pm d m) (hl : m.length ≤ 1000000) (hs : ShortV m) (hb : 0 ≤ bits ∧ bits ≤ 256) :
    Ret Tryd.prog 32 [.pointer (some ⟨bh, 0, none⟩), s, .int .i64 (d : Int)].toArray w fun v w' => ∃ (T : Tr) (k : Int), v = T.ptr ∧ T.er = grow d m ∧ Out (· = bc) w w' ∧ Blk w' bc 86 [.int .i64 k] ∧ Rob (fun c => X c ∨ c = bc) (TrA bits T) w' :=
  GrowT_ok _ d rfl hX ho0 hf0 hf1 hf2 hf3 hp hl hs hb

end Go.Sp.Tryd
