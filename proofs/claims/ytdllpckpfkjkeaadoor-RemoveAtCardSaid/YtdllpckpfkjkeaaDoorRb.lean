/- Walks of functions, printed by a program of this session (gen.py) from notes on each function. -/
import Derived.Test.YtdllpckpfkjkeaaDoorRa
set_option maxRecDepth 100000
set_option maxHeartbeats 1000000
set_option linter.unusedVariables false
set_option linter.unusedSimpArgs false
namespace Go.Sp.Tryd
open Go.Proofs Go.RowKit Go.Sp

def SlK (v : Value) (ks : List (List UInt8)) (w : World) : Prop := SlC w v 32 ks.length (ks.flatMap kc)
def K32 (ks : List (List UInt8)) : Prop := ∀ k ∈ ks, k.length = 32
theorem K32.take {l : List (List UInt8)} (h : K32 l) (i : Nat) : K32 (l.take i) := fun e he => h e (List.mem_of_mem_take he)
theorem kc_seg : ∀ (ks : List (List UInt8)) (hk : K32 ks) (i : Nat) (hi : i < ks.length), ((ks.flatMap kc).drop (i * 32)).take 32 = kc ks[i] := by
  intro ks
  induction ks with
  | nil => intro _ i hi; simp at hi
  | cons x ks ih =>
    intro hk i hi
    have hx := hk x (by simp)
    have hl : (kc x).length = 32 := by rw [kc_length, hx]
    cases i with
    | zero =>
      rw [List.flatMap_cons, Nat.zero_mul, List.drop_zero, List.take_left' hl]; rfl
    | succ i =>
      rw [List.flatMap_cons, show (i + 1) * 32 = 32 + i * 32 by omega, ← List.drop_drop, List.drop_left' hl]
      exact ih (fun k h => hk k (List.mem_cons_of_mem _ h)) i (by simpa using hi)
theorem SlK.rd {v : Value} {ks : List (List UInt8)} {w : World} (h : SlK v ks w) (hk : K32 ks) (i : Nat) (hi : i < ks.length) : RdA w (sAddr v (i * 32)) (kc ks[i]) := by
  have := SlC.rd h i hi
  rwa [kc_seg ks hk i hi] at this
theorem rmAll_snoc {l : List (List UInt8)} {m : List En} {i : Nat} (h : i < l.length) : (l.take (i + 1)).foldl rmM m = rmM ((l.take i).foldl rmM m) l[i] := by
  rw [List.take_succ_eq_append_getElem h, List.foldl_append]; rfl
theorem rmAll_ok : ∀ (l : List (List UInt8)) (m : List En), Srt m → KL m → Srt (l.foldl rmM m) ∧ KL (l.foldl rmM m) ∧ (l.foldl rmM m).length ≤ m.length ∧ ∀ e ∈ l.foldl rmM m, e ∈ m := by
  intro l
  induction l with
  | nil => intro m h1 h2; exact ⟨h1, h2, Nat.le_refl _, fun _ h => h⟩
  | cons x l ih =>
    intro m h1 h2
    have := ih (rmM m x) (h1.filter _) (fun e he => h2 e (List.mem_filter.1 he).1)
    exact ⟨this.1, this.2.1, Nat.le_trans this.2.2.1 (List.length_filter_le _ _), fun e he => (List.mem_filter.1 (this.2.2.2 e he)).1⟩
theorem rmM_has : ∀ {m : List En} {k : List UInt8}, Srt m → hasM m k = true → (rmM m k).length + 1 = m.length := by
  intro m
  induction m with
  | nil => intro k _ h; cases h
  | cons x m ih =>
    intro k hs h
    have h1 := List.pairwise_cons.1 hs
    by_cases hx : x.k = k
    · have : rmM (x :: m) k = m := by
        unfold rmM
        rw [List.filter_cons_of_neg (by simp [hx]), List.filter_eq_self]
        intro e he
        have := h1.1 e he
        simp
        intro hk
        rw [hx, hk] at this
        omega
      rw [this]; rfl
    · have : rmM (x :: m) k = x :: rmM m k := List.filter_cons_of_pos (by simp [hx])
      rw [this, List.length_cons, List.length_cons, ih h1.2 (by
        unfold hasM getM at h ⊢
        rw [List.find?_cons, show (x.k == k) = false by simpa using hx] at h
        exact h)]

theorem rmAll_c {X : Nat → Prop} {w : World} {bh bc : Nat} {bits c0 : Int} {T : Tr} {M : List En} {ks : List (List UInt8)} {s : Value} (hX : ∀ b, X b → b < w.heap.size) (ho0 : Blk w bc 127 ([.int .i64 c0])) (hf0 : Rob (fun c_ => X c_ ∨ c_ = bc) (HAt bh bc bits) w) (hf1 : Rob (fun c_ => X c_ ∨ c_ = bc) (TrA bits T) w) (hf2 : Rob (fun c_ => X c_ ∨ c_ = bc) (SlK s ks) w) (hf3 : Rob (fun c_ => X c_ ∨ c_ = bc) (Rounds) w) (hbits : 0 ≤ bits ∧ bits ≤ 256) (hT : T.er = grow 0 M) (hkM : KL M) (hs : Srt M) (hkl : K32 ks) (hml : M.length ≤ 100000000) (hkn : ks.length ≤ 100000000) :
    Ret Tryd.prog 41 [.pointer (some ⟨bh, 0, none⟩), T.ptr, s].toArray w fun v w' => ∃ (T : Tr) (m : Int), v = .tuple [T.ptr, .int .i64 ((M.length : Int) - (ks.foldl rmM M).length)].toArray ∧ T.er = grow 0 (ks.foldl rmM M) ∧ Out (· = bc) w w' ∧ Blk w' bc 127 [.int .i64 m] ∧ Rob (fun c => X c ∨ c = bc) (TrA bits T) w' := by
  refine Ret.of_body (N := 33) Tryd.func41 rfl rfl (by simp) ?_
  have H := St.begin1 (b := bc) (t := 127) (l := [.int .i64 c0]) hX ho0
  replace H := H.add (rob1 hf3)
  replace H := H.add (rob1 hf2)
  replace H := H.add (rob1 hf1)
  replace H := H.add (rob1 hf0)
  refine WE.seq_reg ?_
  refine WL.as rfl rfl ?_
  refine WL.as rfl rfl ?_
  refine WL.nil ?_
  refine WE.seq_reg ?_
  refine WL.as rfl rfl ?_
  refine WL.nil ?_
  refine WE.seq ?_
  refine WE.seq_reg ?_
  refine WL.mv rfl rfl ?_
  refine WL.pv (PV.lenS (by exact (H.p 2 rfl : SlK s ks _)) TrydT.sl72 rfl) rfl ?_
  refine WL.mv rfl rfl ?_
  refine WL.nil ?_
  refine WE.block ?_
  refine WE.loop (α := Nat × Tr × Nat × Int) [1, 8, 10, 11, 12, 15, 16, 17, 18, 19, 20, 21, 22, 23, 24, 25, 26, 27, 28, 29, 30] (fun g => [(15, .int .i64 g.1), (1, g.2.1.ptr), (8, .int .i64 g.2.2.1)]) (fun g wl => g.1 ≤ ks.length ∧ g.2.1.er = grow 0 ((ks.take g.1).foldl rmM M) ∧ g.2.2.1 + ((ks.take g.1).foldl rmM M).length = M.length ∧ St X w wl [Ent.blk bc 127 [.int .i64 g.2.2.2]] [] [HAt bh bc bits, TrA bits g.2.1, SlK s ks, Rounds]) (fun g => ks.length - g.1) (0, T, 0, c0) ⟨rfl, rfl, rfl, trivial⟩ ⟨Nat.zero_le _, hT, by simp, H⟩ ?_
  intro ⟨i, Tf, n, c⟩ γ0 w1 hI
  try dsimp only at hI
  obtain ⟨hi, hTf, hnf, H⟩ := hI
  refine WE.seq_reg ?_
  refine WL.pv (PV.lss rfl rfl rfl) rfl ?_
  refine WL.nil ?_
  refine WE.seq ?_
  refine WE.cond rfl (fun hc16 => ?_) (fun hc16 => ?_)
  · skip
    try simp only [decide_eq_true_eq, decide_eq_false_iff_not, ne_eq, Decidable.not_not, Bool.not_eq_true', Bool.not_eq_false', Bool.and_eq_true, Bool.or_eq_true, Bool.not_not, Bool.and_eq_false_iff, Bool.or_eq_false_iff, Int.not_lt, Int.not_le] at hc16
    have hlt : i < ks.length := by omega
    have hke := hkl _ (List.getElem_mem hlt)
    have hfo := rmAll_ok (ks.take i) M hs hkM
    refine WE.skip ?_
    refine WE.seq ?_
    refine WE.block ?_
    refine WE.seq_reg ?_
    refine WL.pv (PV.idxS rfl (by exact (H.p 2 rfl : SlK s ks _)) TrydT.sl72 TrydT.sz24 rfl rfl (by omega) (by omega)) rfl ?_
    refine WL.loadR rfl TrydT.ag24 rfl rfl (SlK.rd (by exact (H.p 2 rfl : SlK s ks _)) hkl i hlt) (by (rw [TrydT.sz24]; refine congrArg some ?_; (simp only [kc_length, kw_length, List.length_replicate, List.length_append, List.length_cons, List.length_nil, cutI_length, shaOf_length, dig_length, valD_length, rootM_length]; omega))) ?_
    refine WL.alloc H rfl TrydT.ze24 rfl ?_
    intro b10 w2 H
    refine WL.storeL H 0 rfl rfl rfl (new := kc ks[i]) rfl (by (rw [TrydT.sz24]; refine congrArg some ?_; (simp only [kc_length, kw_length, List.length_replicate, List.length_append, List.length_cons, List.length_nil, cutI_length, shaOf_length, dig_length, valD_length, rootM_length]; omega))) (by exact kc_one _) (Laid.at (Laid.all (by (simp only [kc_length, kw_length, List.length_replicate, List.length_append, List.length_cons, List.length_nil, cutI_length, shaOf_length, dig_length, valD_length, rootM_length]; omega))) (by rfl)) rfl ?_
    intro w3 H
    refine WL.nil ?_
    refine WE.seq_reg ?_
    refine WL.mv rfl rfl ?_
    refine WL.mv rfl rfl ?_
    refine WL.loadR rfl TrydT.ag24 rfl rfl (by exact Blk.segAt (H.l 0 rfl) (Seg.all _) (by rfl)) (by (rw [TrydT.sz24]; refine congrArg some ?_; (simp only [kc_length, kw_length, List.length_replicate, List.length_append, List.length_cons, List.length_nil, cutI_length, shaOf_length, dig_length, valD_length, rootM_length]; omega))) ?_
    refine WL.call TrydT.fb36 rfl (Remove2_c (T := Tf) (M := ((ks.take i).foldl rmM M)) (k := ks[i]) (bits := bits) H.yylt (H.o 0 rfl) (by exact H.robOld 0 rfl 0 rfl) (by exact H.robOld 0 rfl 1 rfl) (by exact H.robOld 0 rfl 3 rfl) hbits hke hTf (hfo.1.pm hfo.2.1) (by omega)) ?_
    rintro _ w4 ⟨Tv23, cv23, fv23, rfl, hTv23, hfv23, hnv23, hO, hB, hR⟩
    replace H := H.calledOR 0 rfl hO hB hR
    refine WL.mv rfl rfl ?_
    refine WL.pv (PV.extract rfl rfl rfl) rfl ?_
    refine WL.pv (PV.extract rfl rfl rfl) rfl ?_
    refine WL.as rfl rfl ?_
    refine WL.as rfl rfl ?_
    refine WL.nil ?_
    refine WE.seq_reg ?_
    refine WL.mv rfl rfl ?_
    refine WL.nil ?_
    refine WE.cond rfl (fun hc26 => ?_) (fun hc26 => ?_)
    · skip
      try simp only [decide_eq_true_eq, decide_eq_false_iff_not, ne_eq, Decidable.not_not, Bool.not_eq_true', Bool.not_eq_false', Bool.and_eq_true, Bool.or_eq_true, Bool.not_not, Bool.and_eq_false_iff, Bool.or_eq_false_iff, Int.not_lt, Int.not_le] at hc26
      (obtain rfl : fv23 = true := hc26)
      let n9 : Nat := n + 1
      have hn9 : n9 = n + 1 := rfl
      have hlh := rmM_has hfo.1 hfv23.symm
      refine WE.seq_reg ?_
      refine WL.mv rfl rfl ?_
      refine WL.as rfl rfl ?_
      refine WL.nil ?_
      refine WE.reg ?_
      refine WL.mv rfl rfl ?_
      refine WL.pv (PV.eq (v' := .int .i64 ((n + 1 : Nat) : Int)) (PV.add64 rfl rfl rfl (by dsimp only; omega) (by dsimp only; omega)) rfl) rfl ?_
      refine WL.as rfl rfl ?_
      refine WL.nil ?_
      refine WE.reg ?_
      refine WL.pv (PV.add64 rfl rfl rfl (by omega) (by omega)) rfl ?_
      refine WL.mv rfl rfl ?_
      refine WL.nil ?_
      replace H := H.forget 0
      exact ⟨(i + 1, Tv23, n9, cv23), (by repeat (first | with_reducible exact Off.refl _ _ | refine Off.upd rfl ?_ | refine Off.setAll rfl ?_ | refine Off.forget' rfl ?_)), ⟨rfl, rfl, rfl, trivial⟩, rfl, ⟨by dsimp only; omega, by dsimp only; rw [hTv23, rmAll_snoc hlt], (by dsimp only; rw [rmAll_snoc hlt]; omega), H.sel [1, 0, 3, 4]⟩, (by dsimp only; omega)⟩
    · skip
      try simp only [decide_eq_true_eq, decide_eq_false_iff_not, ne_eq, Decidable.not_not, Bool.not_eq_true', Bool.not_eq_false', Bool.and_eq_true, Bool.or_eq_true, Bool.not_not, Bool.and_eq_false_iff, Bool.or_eq_false_iff, Int.not_lt, Int.not_le] at hc26
      (obtain rfl : fv23 = false := hc26)
      let n9 : Nat := n
      have hn9 : n9 = n := rfl
      obtain ⟨rfl, rfl⟩ := hnv23 rfl
      have hlh := congrArg List.length (rmM_not hfv23.symm)
      refine WE.skip ?_
      refine WE.reg ?_
      refine WL.pv (PV.add64 rfl rfl rfl (by omega) (by omega)) rfl ?_
      refine WL.mv rfl rfl ?_
      refine WL.nil ?_
      replace H := H.forget 0
      exact ⟨(i + 1, Tv23, n9, cv23), (by repeat (first | with_reducible exact Off.refl _ _ | refine Off.upd rfl ?_ | refine Off.setAll rfl ?_ | refine Off.forget' rfl ?_)), ⟨rfl, rfl, rfl, trivial⟩, rfl, ⟨by dsimp only; omega, by dsimp only; rw [hTv23, rmAll_snoc hlt], (by dsimp only; rw [rmAll_snoc hlt]; omega), H.sel [1, 0, 3, 4]⟩, (by dsimp only; omega)⟩
  · skip
    try simp only [decide_eq_true_eq, decide_eq_false_iff_not, ne_eq, Decidable.not_not, Bool.not_eq_true', Bool.not_eq_false', Bool.and_eq_true, Bool.or_eq_true, Bool.not_not, Bool.and_eq_false_iff, Bool.or_eq_false_iff, Int.not_lt, Int.not_le] at hc16
    have hie : ks.take i = ks := List.take_of_length_le (by omega)
    refine WE.exit ?_
    refine WE.seq_reg ?_
    refine WL.mv rfl rfl ?_
    refine WL.mv rfl rfl ?_
    refine WL.as rfl rfl ?_
    refine WL.as rfl rfl ?_
    refine WL.nil ?_
    refine WE.ret ?_
    refine ⟨[_, _], _, .nil _, ⟨rfl, rfl, trivial⟩, ?_⟩
    refine ⟨Tf, c, ?_, ?_, H.toOut1, H.o 0 rfl, H.giveO (H.rob 1 rfl)⟩
    (rw [hie] at hnf; rw [show ((M.length : Int) - (ks.foldl rmM M).length) = (n : Int) by omega]; rfl)
    rw [hTf, hie]

theorem refAll10_c {X : Nat → Prop} {w : World} {s s2 : Value} {M : List En} {ks : List (List UInt8)} (hX : ∀ b, X b → b < w.heap.size) (hf0 : Rob X (SlE s2 M) w) (hf1 : Rob X (SlK s ks) w) (hkM : KL M) (hs : Srt M) (hone : OneS M) (hkl : K32 ks) (hml : M.length ≤ 1000000) (hkn : ks.length ≤ 100000000) :
    Ret Tryd.prog 42 [s2, s].toArray w fun v w' => ∃ s3, v = .tuple [s3, .int .i64 ((M.length : Int) - (ks.foldl rmM M).length)].toArray ∧ Out Nil w w' ∧ Rob X (SlE s3 (ks.foldl rmM M)) w' := by
  refine Ret.of_body (N := 31) Tryd.func42 rfl rfl (by simp) ?_
  have H := St.begin hX
  replace H := H.add (rob0 hf1)
  replace H := H.add (rob0 hf0)
  refine WE.seq_reg ?_
  refine WL.as rfl rfl ?_
  refine WL.as rfl rfl ?_
  refine WL.nil ?_
  refine WE.seq_reg ?_
  refine WL.as rfl rfl ?_
  refine WL.nil ?_
  refine WE.seq ?_
  refine WE.seq_reg ?_
  refine WL.as rfl rfl ?_
  refine WL.nil ?_
  refine WE.block ?_
  refine WE.loop (α := Nat × Value × Nat) [0, 6, 7, 8, 9, 10, 11, 12, 13, 14, 15, 16, 17, 18, 19, 20, 21, 22, 23, 24, 25, 26, 27, 28] (fun p => [(7, .int .i64 p.1), (0, p.2.1), (6, .int .i64 p.2.2)]) (fun p wl => p.1 ≤ ks.length ∧ p.2.2 + ((ks.take p.1).foldl rmM M).length = M.length ∧ St X w wl [] [] [SlE p.2.1 ((ks.take p.1).foldl rmM M), SlK s ks]) (fun p => ks.length - p.1) (0, s2, 0) ⟨rfl, rfl, rfl, trivial⟩ ⟨Nat.zero_le _, by simp, H⟩ ?_
  intro ⟨i, v, n⟩ γ0 w1 hI
  try dsimp only at hI
  obtain ⟨hi, hnf, H⟩ := hI
  refine WE.seq ?_
  refine WE.seq_reg ?_
  refine WL.mv rfl rfl ?_
  refine WL.mv rfl rfl ?_
  refine WL.pv (PV.lenS (by exact (H.p 1 rfl : SlK s ks _)) TrydT.sl72 rfl) rfl ?_
  refine WL.pv (PV.lss rfl rfl rfl) rfl ?_
  refine WL.nil ?_
  refine WE.cond rfl (fun hc12 => ?_) (fun hc12 => ?_)
  · skip
    try simp only [decide_eq_true_eq, decide_eq_false_iff_not, ne_eq, Decidable.not_not, Bool.not_eq_true', Bool.not_eq_false', Bool.and_eq_true, Bool.or_eq_true, Bool.not_not, Bool.and_eq_false_iff, Bool.or_eq_false_iff, Int.not_lt, Int.not_le] at hc12
    have hlt : i < ks.length := by omega
    have hke := hkl _ (List.getElem_mem hlt)
    have hfo := rmAll_ok (ks.take i) M hs hkM
    have hof : OneS ((ks.take i).foldl rmM M) := fun e he => hone e (hfo.2.2.2 e he)
    have hrl : (rmM ((ks.take i).foldl rmM M) ks[i]).length ≤ ((ks.take i).foldl rmM M).length := List.length_filter_le _ _
    refine WE.skip ?_
    refine WE.seq ?_
    refine WE.block ?_
    refine WE.seq_reg ?_
    refine WL.mv rfl rfl ?_
    refine WL.mv rfl rfl ?_
    refine WL.mv rfl rfl ?_
    refine WL.pv (PV.idxS rfl (by exact (H.p 1 rfl : SlK s ks _)) TrydT.sl72 TrydT.sz24 rfl rfl (by omega) (by omega)) rfl ?_
    refine WL.loadR rfl TrydT.ag24 rfl rfl (SlK.rd (by exact (H.p 1 rfl : SlK s ks _)) hkl i hlt) (by (rw [TrydT.sz24]; refine congrArg some ?_; (simp only [kc_length, kw_length, List.length_replicate, List.length_append, List.length_cons, List.length_nil, cutI_length, shaOf_length, dig_length, valD_length, rootM_length]; omega))) ?_
    refine WL.call TrydT.fb40 rfl (Remove_c (m := ((ks.take i).foldl rmM M)) (q := ks[i]) H.yylt (H.rob 0 rfl) hfo.2.1 hof (by omega) hke) ?_
    rintro v20 w2 ⟨hO, hR⟩
    replace H := (H.out hO).add hR
    refine WL.as rfl rfl ?_
    refine WL.nil ?_
    refine WE.seq_reg ?_
    refine WL.mv rfl rfl ?_
    refine WL.mv rfl rfl ?_
    refine WL.pv (PV.lenS (by exact (H.p 1 rfl : SlE v ((ks.take i).foldl rmM M) _)) TrydT.sl22 rfl) rfl ?_
    refine WL.mv rfl rfl ?_
    refine WL.pv (PV.lenS (by exact (H.p 0 rfl : SlE v20 (rmM ((ks.take i).foldl rmM M) ks[i]) _)) TrydT.sl22 rfl) rfl ?_
    refine WL.pv (PV.sub64 rfl rfl rfl (by omega) (by omega)) rfl ?_
    refine WL.pv (PV.eq (v' := .int .i64 ((n + (((ks.take i).foldl rmM M).length - (rmM ((ks.take i).foldl rmM M) ks[i]).length) : Nat) : Int)) (PV.add64 rfl rfl rfl (by dsimp only; omega) (by dsimp only; omega)) (by dsimp only; congr 1; omega)) rfl ?_
    refine WL.as rfl rfl ?_
    refine WL.nil ?_
    refine WE.reg ?_
    refine WL.mv rfl rfl ?_
    refine WL.as rfl rfl ?_
    refine WL.nil ?_
    refine WE.reg ?_
    refine WL.mv rfl rfl ?_
    refine WL.pv (PV.add64 rfl rfl rfl (by omega) (by omega)) rfl ?_
    refine WL.as rfl rfl ?_
    refine WL.nil ?_
    exact ⟨(i + 1, v20, n + (((ks.take i).foldl rmM M).length - (rmM ((ks.take i).foldl rmM M) ks[i]).length)), (by repeat (first | with_reducible exact Off.refl _ _ | refine Off.upd rfl ?_ | refine Off.setAll rfl ?_ | refine Off.forget' rfl ?_)), ⟨rfl, rfl, rfl, trivial⟩, rfl, ⟨by dsimp only; omega, (by dsimp only; rw [rmAll_snoc hlt]; omega), by dsimp only; rw [rmAll_snoc hlt]; exact H.sel [0, 2]⟩, (by dsimp only; omega)⟩
  · skip
    try simp only [decide_eq_true_eq, decide_eq_false_iff_not, ne_eq, Decidable.not_not, Bool.not_eq_true', Bool.not_eq_false', Bool.and_eq_true, Bool.or_eq_true, Bool.not_not, Bool.and_eq_false_iff, Bool.or_eq_false_iff, Int.not_lt, Int.not_le] at hc12
    have hie : ks.take i = ks := List.take_of_length_le (by omega)
    refine WE.exit ?_
    refine WE.seq_reg ?_
    refine WL.mv rfl rfl ?_
    refine WL.mv rfl rfl ?_
    refine WL.as rfl rfl ?_
    refine WL.as rfl rfl ?_
    refine WL.nil ?_
    refine WE.ret ?_
    refine ⟨[_, _], _, .nil _, ⟨rfl, rfl, trivial⟩, ?_⟩
    refine ⟨v, ?_, H.toOut0, H.give ((H.rob 0 rfl).imp fun _ h => by rw [hie] at h; exact h)⟩
    (rw [hie] at hnf; rw [show ((M.length : Int) - (ks.foldl rmM M).length) = (n : Int) by omega]; rfl)

end Go.Sp.Tryd
