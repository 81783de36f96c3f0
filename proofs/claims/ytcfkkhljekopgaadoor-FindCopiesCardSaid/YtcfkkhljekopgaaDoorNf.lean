/- Walks of functions, printed by a program of this session (gen.py) from notes on each function. -/
import Derived.Test.YtcfkkhljekopgaaDoorG5
import Derived.Test.YtcfkkhljekopgaaDoorDb
import Derived.Test.YtcfkkhljekopgaaDoorG4
set_option maxRecDepth 100000
set_option maxHeartbeats 1000000
set_option linter.unusedVariables false
set_option linter.unusedSimpArgs false
namespace Go.Sp.Tryd
open Go.Proofs Go.RowKit Go.Sp
theorem ForkNil_c {X : Nat → Prop} {w : World}  (hX : ∀ b, X b → b < w.heap.size) :
    Ret Tryd.prog 21 [.pointer none].toArray w fun v w' => v = .pointer none ∧ Out Nil w w' := by
  refine Ret.of_body (N := 13) Tryd.func21 rfl rfl (by simp) ?_
  have H := St.begin hX
  refine WE.seq_reg ?_
  refine WL.as rfl rfl ?_
  refine WL.nil ?_
  refine WE.seq ?_
  refine WE.seq_reg ?_
  refine WL.mv rfl rfl ?_
  refine WL.pv (PV.eqlPn rfl TrydT.pt24 rfl rfl) rfl ?_
  refine WL.nil ?_
  refine WE.cond_t' rfl rfl ?_
  refine WE.seq_reg ?_
  refine WL.as rfl rfl ?_
  refine WL.nil ?_
  refine WE.ret ?_
  refine ⟨[_], _, .nil _, ⟨rfl, trivial⟩, ?_⟩
  exact ⟨rfl, H.toOut0⟩

theorem DigestNil2_c {X : Nat → Prop} {w : World} {a : Value} {la : List UInt8} (hX : ∀ b, X b → b < w.heap.size) (hf0 : Rob X (SlB a la) w) (hf1 : Rob X (Rounds) w) :
    Ret Tryd.prog 4 [a].toArray w fun v w' => v = .bool true ∧ Out Nil w w' := by
  refine Ret.of_body (N := 27) Tryd.func4 rfl rfl (by simp) ?_
  have H := St.begin hX
  replace H := H.add (rob0 hf1)
  replace H := H.add (rob0 hf0)
  refine WE.seq_reg ?_
  refine WL.as rfl rfl ?_
  refine WL.nil ?_
  refine WE.seq_reg ?_
  refine WL.as rfl rfl ?_
  refine WL.nil ?_
  refine WE.seq_reg ?_
  refine WL.call TrydT.fb18 rfl (alive05_c H.yylt (by exact H.rob 1 rfl)) ?_
  rintro _ w1 ⟨rfl, hO⟩
  replace H := H.out hO
  refine WL.mv rfl rfl ?_
  refine WL.known (t := 5) (c := true) rfl (by rfl) ?_
  refine WL.mv rfl rfl ?_
  refine WL.mv rfl rfl ?_
  refine WL.call TrydT.fb20 rfl (HSumNil_c  H.yylt  ) ?_
  rintro _ w2 ⟨rfl, hO⟩
  replace H := H.out hO
  refine WL.pv (PV.buildA rfl TrydT.ar29 TrydT.sz5 TrydT.ze29 Fl.nil) rfl ?_
  refine WL.pv (PV.eqlB rfl TrydT.ar29 TrydT.in5 TrydT.sz5 (by kernel_rfl) rfl rfl (by simp [*]) (by simp [*])) rfl ?_
  refine WL.pv (PV.pick_t rfl rfl rfl) rfl ?_
  refine WL.mv rfl rfl ?_
  refine WL.known (t := 12) (c := true) rfl (by rfl) ?_
  refine WL.mv rfl rfl ?_
  refine WL.call TrydT.fb23 rfl (BitsNil_c  H.yylt  ) ?_
  rintro _ w3 ⟨rfl, hO⟩
  replace H := H.out hO
  refine WL.pv (PV.eql rfl rfl rfl) rfl ?_
  refine WL.pv (PV.pick_t rfl rfl rfl) rfl ?_
  refine WL.mv rfl rfl ?_
  refine WL.known (t := 17) (c := true) rfl (by rfl) ?_
  refine WL.mv rfl rfl ?_
  refine WL.call TrydT.fb22 rfl (CallsNil_c  H.yylt  ) ?_
  rintro _ w4 ⟨rfl, hO⟩
  replace H := H.out hO
  refine WL.pv (PV.eql rfl rfl rfl) rfl ?_
  refine WL.pv (PV.pick_t rfl rfl rfl) rfl ?_
  refine WL.mv rfl rfl ?_
  refine WL.known (t := 22) (c := true) rfl (by rfl) ?_
  refine WL.mv rfl rfl ?_
  refine WL.call TrydT.fb21 rfl (ForkNil_c (X := Nil) (nilX _)) ?_
  rintro _ w5 ⟨rfl, hO⟩
  replace H := H.out hO
  refine WL.pv (PV.eqlPn rfl TrydT.pt24 rfl rfl) rfl ?_
  refine WL.pv (PV.pick_t rfl rfl rfl) rfl ?_
  refine WL.as rfl rfl ?_
  refine WL.nil ?_
  refine WE.ret ?_
  refine ⟨[_], _, .nil _, ⟨rfl, trivial⟩, ?_⟩
  refine ⟨?_, H.toOut0⟩
  rfl

theorem Fork_c {X : Nat → Prop} {w : World} {bh bc : Nat} {bits : Int} (hX : ∀ b, X b → b < w.heap.size) (hf0 : Rob X (HAt bh bc bits) w) :
    Ret Tryd.prog 21 [.pointer (some ⟨bh, 0, none⟩)].toArray w fun v w' => ∃ bh bc, v = .pointer (some ⟨bh, 0, none⟩) ∧ Out Nil w w' ∧ w.heap.size ≤ bc ∧ Blk w' bc 86 [.int .i64 0] ∧ Rob (fun c => X c ∨ c = bc) (HAt bh bc bits) w' := by
  refine Ret.of_body (N := 13) Tryd.func21 rfl rfl (by simp) ?_
  have H := St.begin hX
  replace H := H.add (rob0 hf0)
  refine WE.seq_reg ?_
  refine WL.as rfl rfl ?_
  refine WL.nil ?_
  refine WE.seq ?_
  refine WE.seq_reg ?_
  refine WL.mv rfl rfl ?_
  refine WL.pv (PV.eqlPn rfl TrydT.pt24 rfl rfl) rfl ?_
  refine WL.nil ?_
  refine WE.cond_f' rfl rfl ?_
  refine WE.skip ?_
  refine WE.seq_reg ?_
  refine WL.pv (PV.buildS rfl TrydT.pl86 TrydT.ze86 Fl.nil) rfl ?_
  refine WL.box (l := _) H rfl (by rfl) rfl ?_
  intro b6 w1 H
  refine WL.mv rfl rfl ?_
  refine WL.pv (PV.nilCheck rfl rfl) rfl ?_
  refine WL.pv (PV.fieldAddr rfl TrydT.fd88_1 rfl) rfl ?_
  refine WL.load1 rfl TrydT.ag3 rfl rfl (by exact RdA.at_ (o := 1) (H.p 0 rfl) rfl rfl) ?_
  refine WL.pv (PV.buildS rfl TrydT.pl88 TrydT.ze88 (Fl.cons rfl (by rfl) (by (simp only [kc_length, kw_length, List.length_replicate, List.length_append, List.length_cons, List.length_nil, cutI_length, shaOf_length, dig_length, valD_length]; done)) Laid.head (Fl.cons rfl (by rfl) (by (simp only [kc_length, kw_length, List.length_replicate, List.length_append, List.length_cons, List.length_nil, cutI_length, shaOf_length, dig_length, valD_length]; done)) (Laid.tail Laid.head rfl) Fl.nil))) rfl ?_
  refine WL.box (l := _) H rfl (by rfl) rfl ?_
  intro b12 w2 H
  refine WL.as rfl rfl ?_
  refine WL.nil ?_
  refine WE.ret ?_
  refine ⟨[_], _, .nil _, ⟨rfl, trivial⟩, ?_⟩
  replace H := H.freeze (i := 0) rfl
  exact ⟨_, _, rfl, H.toOut0, H.geL _ (List.mem_of_getElem? (i := 0) rfl) _ rfl, H.l 0 rfl, (H.give1 0 rfl).imp fun _ h => h.rd⟩

theorem DigestForks_c {X : Nat → Prop} {w : World} {i a b : Int} (hX : ∀ b, X b → b < w.heap.size) (hf0 : Rob X (Rounds) w) (hbits : 0 ≤ i ∧ i ≤ 256) (ha : 0 ≤ a ∧ a < 256) (hb : 0 ≤ b ∧ b < 256) :
    Ret Tryd.prog 3 [.int .i64 i, .int .u8 a, .int .u8 b].toArray w fun v w' => v = .bool true ∧ Out Nil w w' := by
  refine Ret.of_body (N := 79) Tryd.func3 rfl rfl (by simp) ?_
  have H := St.begin hX
  replace H := H.add (rob0 hf0)
  refine WE.seq_reg ?_
  refine WL.as rfl rfl ?_
  refine WL.nil ?_
  refine WE.seq ?_
  refine WE.seq_reg ?_
  refine WL.mv rfl rfl ?_
  refine WL.call TrydT.fb17 rfl (Right_c  H.yylt  ) ?_
  rintro _ w1 ⟨rfl, hO⟩
  replace H := H.out hO
  refine WL.pv (PV.not rfl rfl) rfl ?_
  refine WL.nil ?_
  refine WE.cond_f' rfl (by simp [hbits]) ?_
  refine WE.skip ?_
  refine WE.seq_reg ?_
  refine WL.mv rfl rfl ?_
  refine WL.call TrydT.fb19 rfl (New_c (i := i) H.yylt (by assumption)) ?_
  rintro _ w2 ⟨bh1, bc1, rfl, hO, hge, hB, hR⟩
  replace H := H.pushR hO (Ent.blk bc1 86 [.int .i64 0]) hB (fun c hc => by cases hc; exact hge) hR
  refine WL.mv rfl rfl ?_
  refine WL.pv (PV.extract rfl rfl rfl) rfl ?_
  refine WL.pv (PV.extract rfl rfl rfl) rfl ?_
  refine WL.as rfl rfl ?_
  refine WL.as rfl rfl ?_
  refine WL.nil ?_
  refine WE.seq ?_
  refine WE.seq_reg ?_
  refine WL.mv rfl rfl ?_
  refine WL.pv (PV.eqlPn rfl TrydT.pt24 rfl rfl) rfl ?_
  refine WL.mv rfl rfl ?_
  refine WL.known (t := 21) (c := false) rfl (by rfl) ?_
  refine WL.mv rfl rfl ?_
  refine WL.pv (PV.neq rfl rfl rfl) rfl ?_
  refine WL.pv (PV.pick_f rfl rfl rfl) rfl ?_
  refine WL.nil ?_
  refine WE.cond_f' rfl (by rfl) ?_
  refine WE.skip ?_
  refine WE.seq ?_
  refine WE.seq_reg ?_
  refine WL.mv rfl rfl ?_
  refine WL.pv (PV.eq (v' := .int .u8 (a % 9)) (PV.remw rfl rfl rfl (by omega)) (by rw [Int.tmod_eq_emod_of_nonneg (by omega)])) rfl ?_
  refine WL.mv rfl rfl ?_
  refine WL.nil ?_
  refine WE.block ?_
  refine WE.loop (α := Int) [27, 28, 29, 30, 31] (fun k => [(27, .int .u8 k)]) (fun k wl => (0 ≤ k ∧ k ≤ a % 9) ∧ St X w wl [] [Ent.blk bc1 86 [.int .i64 k]] [HAt bh1 bc1 i, Rounds]) (fun k => (a % 9 - k).toNat) 0 ⟨rfl, trivial⟩ ⟨⟨by omega, by omega⟩, H⟩ ?_
  intro k γ0 w3 hI
  try dsimp only at hI
  obtain ⟨hk, H⟩ := hI
  refine WE.seq_reg ?_
  refine WL.pv (PV.lss rfl rfl rfl) rfl ?_
  refine WL.nil ?_
  refine WE.seq ?_
  refine WE.cond rfl (fun hc28 => ?_) (fun hc28 => ?_)
  · skip
    try simp only [decide_eq_true_eq, decide_eq_false_iff_not, ne_eq, Decidable.not_not, Bool.not_eq_true', Bool.not_eq_false', Bool.and_eq_true, Bool.or_eq_true, Bool.not_not, Bool.and_eq_false_iff, Bool.or_eq_false_iff, Int.not_lt, Int.not_le] at hc28
    have hlt : k < a % 9 := by omega
    refine WE.skip ?_
    refine WE.seq ?_
    refine WE.block ?_
    refine WE.reg ?_
    refine WL.mv rfl rfl ?_
    refine WL.call TrydT.fb20 rfl (HSum_c (bits := i) (n := k) (la := []) H.yylt (H.l 0 rfl) (by exact H.robL 0 rfl 0 rfl) (by exact (fun _ _ => SlB.nil _)) (by exact H.robL 0 rfl 1 rfl) (by omega) (by simp)) ?_
    rintro _ w4 ⟨rfl, hO, hB⟩
    rw [wrap64_in (by omega) (by omega)] at hB
    replace H := H.called 0 rfl hO hB
    refine WL.nil ?_
    refine WE.reg ?_
    refine WL.pv (PV.eq (v' := .int .u8 (k + 1)) (PV.addw rfl rfl rfl) (by rw [wrap8]; congr 1; omega)) rfl ?_
    refine WL.mv rfl rfl ?_
    refine WL.nil ?_
    exact ⟨k + 1, (by repeat (first | with_reducible exact Off.refl _ _ | refine Off.upd rfl ?_ | refine Off.setAll rfl ?_ | refine Off.forget' rfl ?_)), ⟨rfl, trivial⟩, rfl, ⟨⟨by omega, by omega⟩, H⟩, (by omega)⟩
  · skip
    try simp only [decide_eq_true_eq, decide_eq_false_iff_not, ne_eq, Decidable.not_not, Bool.not_eq_true', Bool.not_eq_false', Bool.and_eq_true, Bool.or_eq_true, Bool.not_not, Bool.and_eq_false_iff, Bool.or_eq_false_iff, Int.not_lt, Int.not_le] at hc28
    have hk9 : k = a % 9 := by omega
    refine WE.exit ?_
    refine WE.seq_reg ?_
    refine WL.mv rfl rfl ?_
    refine WL.call TrydT.fb21 rfl (Fork_c (bh := bh1) (bc := bc1) (bits := i) H.yylt (H.rob 0 rfl)) ?_
    rintro _ w5 ⟨bh2, bc2, rfl, hO, hge, hB, hR⟩
    replace H := H.pushR hO (Ent.blk bc2 86 [.int .i64 0]) hB (fun c hc => by cases hc; exact hge) hR
    refine WL.as rfl rfl ?_
    refine WL.nil ?_
    refine WE.seq ?_
    refine WE.seq_reg ?_
    refine WL.mv rfl rfl ?_
    refine WL.pv (PV.eqlPn rfl TrydT.pt24 rfl rfl) rfl ?_
    refine WL.mv rfl rfl ?_
    refine WL.known (t := 36) (c := false) rfl (by rfl) ?_
    refine WL.mv rfl rfl ?_
    refine WL.call TrydT.fb22 rfl (Calls_c (X := Nil) (n := 0) (nilX _) (by exact (H.rob 0 rfl).nil) ((H.robN 0 rfl).imp fun _ h => h.rd)) ?_
    rintro _ w6 ⟨rfl, hO⟩
    replace H := H.out hO
    refine WL.pv (PV.neq rfl rfl rfl) rfl ?_
    refine WL.pv (PV.pick_f rfl rfl rfl) rfl ?_
    refine WL.mv rfl rfl ?_
    refine WL.known (t := 41) (c := false) rfl (by rfl) ?_
    refine WL.mv rfl rfl ?_
    refine WL.call TrydT.fb23 rfl (Bits_c (X := Nil) (bits := i) (nilX _) (by exact (H.rob 0 rfl).nil)) ?_
    rintro _ w7 ⟨rfl, hO⟩
    replace H := H.out hO
    refine WL.mv rfl rfl ?_
    refine WL.pv (PV.neq rfl rfl rfl) rfl ?_
    refine WL.pv (PV.pick_f rfl rfl rfl) rfl ?_
    refine WL.nil ?_
    refine WE.cond_f' rfl (by simp) ?_
    refine WE.skip ?_
    refine WE.seq ?_
    refine WE.seq_reg ?_
    refine WL.mv rfl rfl ?_
    refine WL.pv (PV.eq (v' := .int .u8 (b % 9)) (PV.remw rfl rfl rfl (by omega)) (by rw [Int.tmod_eq_emod_of_nonneg (by omega)])) rfl ?_
    refine WL.mv rfl rfl ?_
    refine WL.nil ?_
    refine WE.block ?_
    refine WE.loop (α := Int) [49, 50, 51, 52, 53, 54] (fun k => [(49, .int .u8 k)]) (fun k wl => (0 ≤ k ∧ k ≤ b % 9) ∧ St X w wl [] [Ent.blk bc2 86 [.int .i64 k], Ent.blk bc1 86 [.int .i64 (a % 9)]] [HAt bh2 bc2 i, HAt bh1 bc1 i, Rounds]) (fun k => (b % 9 - k).toNat) 0 ⟨rfl, trivial⟩ ⟨⟨by omega, by omega⟩, hk9 ▸ H⟩ ?_
    intro k γ1 w8 hI
    try dsimp only at hI
    obtain ⟨hk, H⟩ := hI
    refine WE.seq_reg ?_
    refine WL.pv (PV.lss rfl rfl rfl) rfl ?_
    refine WL.nil ?_
    refine WE.seq ?_
    refine WE.cond rfl (fun hc50 => ?_) (fun hc50 => ?_)
    · skip
      try simp only [decide_eq_true_eq, decide_eq_false_iff_not, ne_eq, Decidable.not_not, Bool.not_eq_true', Bool.not_eq_false', Bool.and_eq_true, Bool.or_eq_true, Bool.not_not, Bool.and_eq_false_iff, Bool.or_eq_false_iff, Int.not_lt, Int.not_le] at hc50
      have hlt : k < b % 9 := by omega
      refine WE.skip ?_
      refine WE.seq ?_
      refine WE.block ?_
      refine WE.reg ?_
      refine WL.mv rfl rfl ?_
      refine WL.buildSliceF (l0 := [.int .u8 (0)]) H rfl TrydT.st33 (by decide) (zrow_one _ _) (Fl.cons rfl (by rfl) (by (simp only [kc_length, kw_length, List.length_replicate, List.length_append, List.length_cons, List.length_nil, cutI_length, shaOf_length, dig_length, valD_length]; done)) Laid.head Fl.nil) rfl ?_
      intro b52 w9 H
      replace H := H.freeze (i := 0) rfl
      replace H := H.add ((H.rob 0 rfl).imp fun _ h => SlB.of_blk (l := [1]) h rfl)
      refine WL.call TrydT.fb20 rfl (HSum_c (bits := i) (n := k) (la := [1]) H.yylt (H.l 0 rfl) (by exact H.robL 0 rfl 2 rfl) (by exact H.robL 0 rfl 0 rfl) (by exact H.robL 0 rfl 4 rfl) (by omega) (by simp)) ?_
      rintro _ w10 ⟨rfl, hO, hB⟩
      rw [wrap64_in (by omega) (by omega)] at hB
      replace H := H.called 0 rfl hO hB
      refine WL.nil ?_
      refine WE.reg ?_
      refine WL.pv (PV.eq (v' := .int .u8 (k + 1)) (PV.addw rfl rfl rfl) (by rw [wrap8]; congr 1; omega)) rfl ?_
      refine WL.mv rfl rfl ?_
      refine WL.nil ?_
      exact ⟨k + 1, (by repeat (first | with_reducible exact Off.refl _ _ | refine Off.upd rfl ?_ | refine Off.setAll rfl ?_ | refine Off.forget' rfl ?_)), ⟨rfl, trivial⟩, rfl, ⟨⟨by omega, by omega⟩, H.sel [2, 3, 4]⟩, (by omega)⟩
    · skip
      try simp only [decide_eq_true_eq, decide_eq_false_iff_not, ne_eq, Decidable.not_not, Bool.not_eq_true', Bool.not_eq_false', Bool.and_eq_true, Bool.or_eq_true, Bool.not_not, Bool.and_eq_false_iff, Bool.or_eq_false_iff, Int.not_lt, Int.not_le] at hc50
      have hk9 : k = b % 9 := by omega
      rw [hk9] at H
      refine WE.exit ?_
      refine WE.seq_reg ?_
      refine WL.call TrydT.fb18 rfl (alive05_c H.yylt (by exact H.rob 2 rfl)) ?_
      rintro _ w11 ⟨rfl, hO⟩
      replace H := H.out hO
      refine WL.mv rfl rfl ?_
      refine WL.known (t := 56) (c := true) rfl (by rfl) ?_
      refine WL.mv rfl rfl ?_
      refine WL.call TrydT.fb22 rfl (Calls_c (X := Nil) (n := (a % 9)) (nilX _) (by exact (H.rob 1 rfl).nil) ((H.robN 1 rfl).imp fun _ h => h.rd)) ?_
      rintro _ w12 ⟨rfl, hO⟩
      replace H := H.out hO
      refine WL.mv rfl rfl ?_
      refine WL.pv (PV.eq (v' := .int .u8 (a % 9)) (PV.remw rfl rfl rfl (by omega)) (by rw [Int.tmod_eq_emod_of_nonneg (by omega)])) rfl ?_
      refine WL.pv (PV.conv64 rfl TrydT.in5 TrydT.in3 rfl (by omega) (by omega)) rfl ?_
      refine WL.pv (PV.eql rfl rfl rfl) rfl ?_
      refine WL.pv (PV.pick_t rfl rfl rfl) rfl ?_
      refine WL.mv rfl rfl ?_
      refine WL.known (t := 64) (c := true) rfl (by simp) ?_
      refine WL.mv rfl rfl ?_
      refine WL.call TrydT.fb22 rfl (Calls_c (X := Nil) (n := (b % 9)) (nilX _) (by exact (H.rob 0 rfl).nil) ((H.robN 0 rfl).imp fun _ h => h.rd)) ?_
      rintro _ w13 ⟨rfl, hO⟩
      replace H := H.out hO
      refine WL.mv rfl rfl ?_
      refine WL.pv (PV.eq (v' := .int .u8 (b % 9)) (PV.remw rfl rfl rfl (by omega)) (by rw [Int.tmod_eq_emod_of_nonneg (by omega)])) rfl ?_
      refine WL.pv (PV.conv64 rfl TrydT.in5 TrydT.in3 rfl (by omega) (by omega)) rfl ?_
      refine WL.pv (PV.eql rfl rfl rfl) rfl ?_
      refine WL.pv (PV.pick_t rfl rfl rfl) rfl ?_
      refine WL.mv rfl rfl ?_
      refine WL.known (t := 72) (c := true) rfl (by simp) ?_
      refine WL.mv rfl rfl ?_
      refine WL.call TrydT.fb20 rfl (HSum_c (bits := i) (n := (b % 9)) (la := []) H.yylt (H.l 0 rfl) (by exact H.robL 0 rfl 0 rfl) (by exact (fun _ _ => SlB.nil _)) (by exact H.robL 0 rfl 2 rfl) (by omega) (by simp)) ?_
      rintro _ w14 ⟨rfl, hO, hB⟩
      rw [wrap64_in (by omega) (by omega)] at hB
      replace H := H.called 0 rfl hO hB
      refine WL.mv rfl rfl ?_
      refine WL.call TrydT.fb20 rfl (HSum_c (bits := i) (n := (a % 9)) (la := []) H.yylt (H.l 1 rfl) (by exact H.robL 1 rfl 1 rfl) (by exact (fun _ _ => SlB.nil _)) (by exact H.robL 1 rfl 2 rfl) (by omega) (by simp)) ?_
      rintro _ w15 ⟨rfl, hO, hB⟩
      rw [wrap64_in (by omega) (by omega)] at hB
      replace H := H.called 1 rfl hO hB
      refine WL.pv (PV.eqlB rfl TrydT.ar29 TrydT.in5 TrydT.sz5 (by kernel_rfl) rfl rfl (by (simp only [cutI_length, shaOf_length]; done)) (by (simp only [cutI_length, shaOf_length]; done))) rfl ?_
      refine WL.pv (PV.pick_t rfl rfl rfl) rfl ?_
      refine WL.as rfl rfl ?_
      refine WL.nil ?_
      refine WE.ret ?_
      refine ⟨[_], _, .nil _, ⟨rfl, trivial⟩, ?_⟩
      refine ⟨?_, H.toOut0⟩
      show Value.bool _ = Value.bool true
      simp

theorem DigestForksBad_c {X : Nat → Prop} {w : World} {i a b : Int} (hX : ∀ b, X b → b < w.heap.size) (hf0 : Rob X (Rounds) w) (hi : ¬ (0 ≤ i ∧ i ≤ 256)) :
    Ret Tryd.prog 3 [.int .i64 i, .int .u8 a, .int .u8 b].toArray w fun v w' => v = .bool true ∧ Out Nil w w' := by
  refine Ret.of_body (N := 79) Tryd.func3 rfl rfl (by simp) ?_
  have H := St.begin hX
  replace H := H.add (rob0 hf0)
  refine WE.seq_reg ?_
  refine WL.as rfl rfl ?_
  refine WL.nil ?_
  refine WE.seq ?_
  refine WE.seq_reg ?_
  refine WL.mv rfl rfl ?_
  refine WL.call TrydT.fb17 rfl (Right_c  H.yylt  ) ?_
  rintro _ w1 ⟨rfl, hO⟩
  replace H := H.out hO
  refine WL.pv (PV.not rfl rfl) rfl ?_
  refine WL.nil ?_
  refine WE.cond_t' rfl (by simp [hi]) ?_
  refine WE.seq_reg ?_
  refine WL.call TrydT.fb18 rfl (alive05_c H.yylt (by exact H.rob 0 rfl)) ?_
  rintro _ w2 ⟨rfl, hO⟩
  replace H := H.out hO
  refine WL.as rfl rfl ?_
  refine WL.nil ?_
  refine WE.ret ?_
  refine ⟨[_], _, .nil _, ⟨rfl, trivial⟩, ?_⟩
  refine ⟨?_, H.toOut0⟩
  rfl

end Go.Sp.Tryd
