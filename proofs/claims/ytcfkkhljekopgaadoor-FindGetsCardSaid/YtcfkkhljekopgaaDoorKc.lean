/- Walks of functions, printed by a program of this session (gen.py) from notes on each function. -/
import Derived.Test.YtcfkkhljekopgaaDoorKb
set_option maxRecDepth 100000
set_option maxHeartbeats 1000000
set_option linter.unusedVariables false
set_option linter.unusedSimpArgs false
namespace Go.Sp.Tryd
open Go.Proofs Go.RowKit Go.Sp

theorem bitI_nat (k : List UInt8) {d : Nat} (hd : d < 256) : bitI k (d : Int) = (bitN k d : Int) := by rw [bitI, if_neg (by omega), Int.toNat_natCast]
theorem refBitN_c {X : Nat → Prop} {w : World} {k : List UInt8} {d : Nat} (hX : ∀ b, X b → b < w.heap.size) (hk : k.length = 32) (hd : d < 256) :
    Ret Tryd.prog 54 [.agg (kc k).toArray, .int .i64 (d : Int)].toArray w fun v w' => v = .int .i64 (bitN k d : Int) ∧ Out Nil w w' := by
  have := refBit_c (l := k) (i := (d : Int)) hX hk (by omega)
  rw [bitI_nat k hd] at this
  exact this
theorem getM_here {m : List En} {k : List UInt8} {i : Nat} (hi : i < m.length) (h : ∀ x ∈ m.take i, x.k ≠ k) (he : m[i].k = k) : getM m k = some m[i] := by
  unfold getM
  rw [List.find?_eq_some_iff_append]
  refine ⟨by simp [he], m.take i, m.drop (i + 1), ?_, fun x hx => by simpa using h x hx⟩
  rw [← List.drop_eq_getElem_cons hi, List.take_append_drop]
theorem getM_none {m : List En} {k : List UInt8} (h : ∀ x ∈ m, x.k ≠ k) : getM m k = none := by
  unfold getM
  rw [List.find?_eq_none]
  intro x hx
  simpa using h x hx
def getR (m : List En) (k : List UInt8) : Value := match getM m k with
  | none => .tuple [.slice none 0 0, .bool false].toArray
  | some e => .tuple [e.s, .bool true].toArray
theorem OneS.at {m : List En} {k : List UInt8} {d i : Nat} (h : OneS m) : OneS (atM k d m i) := fun e he => h e (atM_mem he)
theorem KL.at {m : List En} {k : List UInt8} {d i : Nat} (h : KL m) : KL (atM k d m i) := fun e he => h e (atM_mem he)
def SameE (a b : List En) : Prop := a.length = b.length ∧ ∀ i (h : i < a.length) (h' : i < b.length), a[i].k = b[i].k ∧ a[i].v = b[i].v

theorem refGet_c {X : Nat → Prop} {w : World} {s : Value} {m : List En} {k : List UInt8} (hX : ∀ b, X b → b < w.heap.size) (hf0 : Rob X (SlE s m) w) (hkl : KL m) (hlen : m.length ≤ 1000000) (hk : k.length = 32) :
    Ret Tryd.prog 50 [s, .agg (kc k).toArray].toArray w fun v w' => v = getR m k ∧ Out Nil w w' := by
  refine Ret.of_body (N := 25) Tryd.func50 rfl rfl (by simp) ?_
  have H := St.begin hX
  replace H := H.add (rob0 hf0)
  refine WE.seq_reg ?_
  refine WL.box (l := kc k) H rfl (by rfl) rfl ?_
  intro b3 w1 H
  refine WL.as rfl rfl ?_
  refine WL.as rfl rfl ?_
  refine WL.nil ?_
  refine WE.seq ?_
  refine WE.seq_reg ?_
  refine WL.as rfl rfl ?_
  refine WL.nil ?_
  refine WE.block ?_
  refine WE.loop (α := Nat) [4, 5, 6, 7, 8, 9, 10, 11, 12, 13, 14, 15, 16, 17, 18, 19, 20, 21, 22, 23, 24] (fun i => [(6, .int .i64 i)]) (fun i wl => i ≤ m.length ∧ (∀ x ∈ m.take i, x.k ≠ k) ∧ St X w wl [] [Ent.blk b3 36 (kc k)] [SlE s m]) (fun i => m.length - i) 0 ⟨rfl, trivial⟩ ⟨Nat.zero_le _, by simp, H⟩ ?_
  intro i γ0 w2 hI
  try dsimp only at hI
  obtain ⟨hi, hall, H⟩ := hI
  refine WE.seq ?_
  refine WE.seq_reg ?_
  refine WL.mv rfl rfl ?_
  refine WL.mv rfl rfl ?_
  refine WL.pv (PV.lenS (by exact H.p 0 rfl : SlE s m _) TrydT.sl42 rfl) rfl ?_
  refine WL.pv (PV.lss rfl rfl rfl) rfl ?_
  refine WL.nil ?_
  refine WE.cond rfl (fun hc10 => ?_) (fun hc10 => ?_)
  · skip
    try simp only [decide_eq_true_eq, decide_eq_false_iff_not, ne_eq, Decidable.not_not, Bool.not_eq_true', Bool.not_eq_false', Bool.and_eq_true, Bool.or_eq_true, Bool.not_not, Bool.and_eq_false_iff, Bool.or_eq_false_iff, Int.not_lt, Int.not_le] at hc10
    have hlt : i < m.length := by omega
    have hkk := hkl _ (List.getElem_mem hlt)
    refine WE.skip ?_
    refine WE.seq ?_
    refine WE.block ?_
    refine WE.seq_draw (.take 0 (.take 1 (.take 2 (.take 3 (.take 4 (.take 5 (.take 6 .done))))))) TrydT.mixed (by kernel_rfl) ?_
    replace H := H.out (Out.drew _)
    refine WP.mv rfl rfl rfl ?_
    refine WP.mv rfl rfl rfl ?_
    refine WP.take_pure rfl rfl (PV.idxS rfl (by exact H.p 0 rfl : SlE s m _) TrydT.sl42 TrydT.sz52 rfl rfl (by omega) (by omega)) ?_
    refine WP.take_pure rfl rfl (PV.fieldAddrA rfl TrydT.fd52_0 rfl) ?_
    refine WP.readA rfl rfl rfl TrydT.ag36 rfl (SlE.rdk (H.p 0 rfl) hkl i hlt) (by (rw [TrydT.sz36]; refine congrArg some ?_; (simp only [kc_length, kw_length, List.length_replicate, List.length_append, List.length_cons, List.length_nil, cutI_length, shaOf_length, dig_length, valD_length, rootM_length]; omega))) ?_
    refine WP.readA rfl rfl rfl TrydT.ag36 rfl (by exact Blk.segAt (H.l 0 rfl) (Seg.all _) (by rfl)) (by (rw [TrydT.sz36]; refine congrArg some ?_; (simp only [kc_length, kw_length, List.length_replicate, List.length_append, List.length_cons, List.length_nil, cutI_length, shaOf_length, dig_length, valD_length, rootM_length]; omega))) ?_
    refine WP.take_pure rfl rfl (PV.eqlB rfl TrydT.ar36 TrydT.in5 TrydT.sz5 (by kernel_rfl) rfl rfl (by assumption) (by assumption)) ?_
    refine WP.done ?_
    refine WE.cond rfl (fun hc19 => ?_) (fun hc19 => ?_)
    · skip
      try simp only [decide_eq_true_eq, decide_eq_false_iff_not, ne_eq, Decidable.not_not, Bool.not_eq_true', Bool.not_eq_false', Bool.and_eq_true, Bool.or_eq_true, Bool.not_not, Bool.and_eq_false_iff, Bool.or_eq_false_iff, Int.not_lt, Int.not_le] at hc19
      have he : m[i].k = k := by exact hc19
      refine WE.seq_reg ?_
      refine WL.mv rfl rfl ?_
      refine WL.mv rfl rfl ?_
      refine WL.pv (PV.idxS rfl (by exact H.p 0 rfl : SlE s m _) TrydT.sl42 TrydT.sz52 rfl rfl (by omega) (by omega)) rfl ?_
      refine WL.pv (PV.fieldAddrA rfl TrydT.fd52_1 rfl) rfl ?_
      refine WL.load1 rfl TrydT.ag33 rfl rfl (SlE.rdv (H.p 0 rfl) hkl i hlt) ?_
      refine WL.as rfl rfl ?_
      refine WL.as rfl rfl ?_
      refine WL.nil ?_
      refine WE.ret ?_
      refine ⟨[_, _], _, .nil _, ⟨rfl, rfl, trivial⟩, ?_⟩
      refine ⟨?_, H.toOut0⟩
      rw [getR, getM_here hlt hall he]; rfl
    · skip
      try simp only [decide_eq_true_eq, decide_eq_false_iff_not, ne_eq, Decidable.not_not, Bool.not_eq_true', Bool.not_eq_false', Bool.and_eq_true, Bool.or_eq_true, Bool.not_not, Bool.and_eq_false_iff, Bool.or_eq_false_iff, Int.not_lt, Int.not_le] at hc19
      have he : m[i].k ≠ k := by exact hc19
      refine WE.skip ?_
      refine WE.reg ?_
      refine WL.mv rfl rfl ?_
      refine WL.pv (PV.add64 rfl rfl rfl (by omega) (by omega)) rfl ?_
      refine WL.as rfl rfl ?_
      refine WL.nil ?_
      exact ⟨i + 1, (by repeat (first | with_reducible exact Off.refl _ _ | refine Off.upd rfl ?_ | refine Off.setAll rfl ?_ | refine Off.forget' rfl ?_)), ⟨rfl, trivial⟩, rfl, ⟨by omega, (by rw [List.take_succ_eq_append_getElem hlt]; intro x hx; rcases List.mem_append.1 hx with h | h; exact hall x h; simp at h; subst h; exact he), H⟩, (by omega)⟩
  · skip
    try simp only [decide_eq_true_eq, decide_eq_false_iff_not, ne_eq, Decidable.not_not, Bool.not_eq_true', Bool.not_eq_false', Bool.and_eq_true, Bool.or_eq_true, Bool.not_not, Bool.and_eq_false_iff, Bool.or_eq_false_iff, Int.not_lt, Int.not_le] at hc10
    have hke : m.take i = m := List.take_of_length_le (by omega)
    refine WE.exit ?_
    refine WE.seq_reg ?_
    refine WL.as rfl rfl ?_
    refine WL.as rfl rfl ?_
    refine WL.nil ?_
    refine WE.ret ?_
    refine ⟨[_, _], _, .nil _, ⟨rfl, rfl, trivial⟩, ?_⟩
    refine ⟨?_, H.toOut0⟩
    rw [hke] at hall
    rw [getR, getM_none hall]; rfl

theorem refEnd_c {X : Nat → Prop} {w : World} {s : Value} {m : List En} {k : List UInt8} {D : Nat} (hX : ∀ b, X b → b < w.heap.size) (hf0 : Rob X (SlE s m) w) (hkl : KL m) (hone : OneS m) (hlen : m.length ≤ 1000000) (hk : k.length = 32) (hD : ∀ i, i < D → 2 ≤ (atM k 0 m i).length) (hE : (atM k 0 m D).length ≤ 1) (hD2 : D ≤ 256) :
    Ret Tryd.prog 47 [s, .agg (kc k).toArray].toArray w fun v w' => ∃ s', v = .tuple [s', .int .i64 (D : Int)].toArray ∧ Out Nil w w' ∧ Rob X (SlE s' (atM k 0 m D)) w' := by
  refine Ret.of_body (N := 20) Tryd.func47 rfl rfl (by simp) ?_
  have H := St.begin hX
  replace H := H.add (rob0 hf0)
  refine WE.seq_reg ?_
  refine WL.box (l := kc k) H rfl (by rfl) rfl ?_
  intro b3 w1 H
  refine WL.as rfl rfl ?_
  refine WL.as rfl rfl ?_
  refine WL.nil ?_
  refine WE.seq_reg ?_
  refine WL.as rfl rfl ?_
  refine WL.nil ?_
  refine WE.seq ?_
  refine WE.block ?_
  refine WE.loop (α := Nat × Value) [0, 6, 7, 8, 9, 10, 11, 12, 13, 14, 15, 16, 17] (fun p => [(6, .int .i64 p.1), (0, p.2)]) (fun p wl => p.1 ≤ D ∧ St X w wl [] [Ent.blk b3 36 (kc k)] [SlE p.2 (atM k 0 m p.1)]) (fun p => D - p.1) (0, s) ⟨rfl, rfl, trivial⟩ ⟨Nat.zero_le _, H⟩ ?_
  intro ⟨i, sv⟩ γ0 w2 hI
  try dsimp only at hI
  obtain ⟨hi, H⟩ := hI
  refine WE.seq ?_
  refine WE.seq_reg ?_
  refine WL.mv rfl rfl ?_
  refine WL.pv (PV.lenS (by exact H.p 0 rfl : SlE sv (atM k 0 m i) _) TrydT.sl42 rfl) rfl ?_
  refine WL.pv (PV.gtr rfl rfl rfl) rfl ?_
  refine WL.nil ?_
  refine WE.cond rfl (fun hc9 => ?_) (fun hc9 => ?_)
  · skip
    try simp only [decide_eq_true_eq, decide_eq_false_iff_not, ne_eq, Decidable.not_not, Bool.not_eq_true', Bool.not_eq_false', Bool.and_eq_true, Bool.or_eq_true, Bool.not_not, Bool.and_eq_false_iff, Bool.or_eq_false_iff, Int.not_lt, Int.not_le] at hc9
    have hlt : i < D := by rcases Nat.lt_or_ge i D with h | h; exact h; have e : i = D := (by omega); subst e; omega
    refine WE.skip ?_
    refine WE.block ?_
    refine WE.seq_reg ?_
    refine WL.mv rfl rfl ?_
    refine WL.mv rfl rfl ?_
    refine WL.loadR rfl TrydT.ag36 rfl rfl (by exact Blk.segAt (H.l 0 rfl) (Seg.all _) (by rfl)) (by (rw [TrydT.sz36]; refine congrArg some ?_; (simp only [kc_length, kw_length, List.length_replicate, List.length_append, List.length_cons, List.length_nil, cutI_length, shaOf_length, dig_length, valD_length, rootM_length]; omega))) ?_
    refine WL.mv rfl rfl ?_
    refine WL.call TrydT.fb54 rfl (refBitN_c (k := k) (d := i) H.yylt  (by assumption) (by omega)) ?_
    rintro _ w3 ⟨rfl, hO⟩
    replace H := H.out hO
    refine WL.call TrydT.fb71 rfl (Part_c (m := atM k 0 m i) (d := i) (b := bitN k i) H.yylt (by exact H.rob 0 rfl) hkl.at hone.at (Nat.le_trans (atM_len k 0 m i) hlen) (by omega)) ?_
    rintro v15 w4 ⟨hO, hR⟩
    replace H := (H.out hO).add hR
    refine WL.as rfl rfl ?_
    refine WL.nil ?_
    refine WE.reg ?_
    refine WL.mv rfl rfl ?_
    refine WL.pv (PV.add64 rfl rfl rfl (by omega) (by omega)) rfl ?_
    refine WL.as rfl rfl ?_
    refine WL.nil ?_
    replace H := H.drop (Ps' := [SlE v15 (atM k 0 m (i + 1))]) (by intro p hp; simp at hp; subst hp; exact List.mem_cons_self)
    exact ⟨(i + 1, v15), (by repeat (first | with_reducible exact Off.refl _ _ | refine Off.upd rfl ?_ | refine Off.setAll rfl ?_ | refine Off.forget' rfl ?_)), ⟨rfl, rfl, trivial⟩, rfl, ⟨by dsimp only; omega, H⟩, (by dsimp only; omega)⟩
  · skip
    try simp only [decide_eq_true_eq, decide_eq_false_iff_not, ne_eq, Decidable.not_not, Bool.not_eq_true', Bool.not_eq_false', Bool.and_eq_true, Bool.or_eq_true, Bool.not_not, Bool.and_eq_false_iff, Bool.or_eq_false_iff, Int.not_lt, Int.not_le] at hc9
    have hiD : i = D := by rcases Nat.lt_or_ge i D with h | h; exact absurd (hD i h) (by omega); omega
    subst hiD
    refine WE.exit ?_
    refine WE.seq_reg ?_
    refine WL.mv rfl rfl ?_
    refine WL.mv rfl rfl ?_
    refine WL.as rfl rfl ?_
    refine WL.as rfl rfl ?_
    refine WL.nil ?_
    refine WE.ret ?_
    refine ⟨[_, _], _, .nil _, ⟨rfl, rfl, trivial⟩, ?_⟩
    exact ⟨sv, rfl, H.toOut0, H.give (H.rob 0 rfl)⟩

theorem refSib_c {X : Nat → Prop} {w : World} {s : Value} {m : List En} {k : List UInt8} {D : Nat} (hX : ∀ b, X b → b < w.heap.size) (hf0 : Rob X (SlE s m) w) (hkl : KL m) (hone : OneS m) (hlen : m.length ≤ 1000000) (hk : k.length = 32) (hD2 : D < 256) :
    Ret Tryd.prog 52 [s, .agg (kc k).toArray, .int .i64 (D : Int)].toArray w fun v w' => Out Nil w w' ∧ Rob X (SlE v (partM (atM k 0 m D) D (1 - bitN k D))) w' := by
  refine Ret.of_body (N := 26) Tryd.func52 rfl rfl (by simp) ?_
  have H := St.begin hX
  replace H := H.add (rob0 hf0)
  refine WE.seq_reg ?_
  refine WL.box (l := kc k) H rfl (by rfl) rfl ?_
  intro b4 w1 H
  refine WL.as rfl rfl ?_
  refine WL.nil ?_
  refine WE.seq ?_
  refine WE.seq_reg ?_
  refine WL.as rfl rfl ?_
  refine WL.nil ?_
  refine WE.block ?_
  refine WE.loop (α := Nat × Value) [0, 7, 8, 9, 10, 11, 12, 13, 14, 15, 16, 17, 18] (fun p => [(7, .int .i64 p.1), (0, p.2)]) (fun p wl => p.1 ≤ D ∧ St X w wl [] [Ent.blk b4 36 (kc k)] [SlE p.2 (atM k 0 m p.1)]) (fun p => D - p.1) (0, s) ⟨rfl, rfl, trivial⟩ ⟨Nat.zero_le _, H⟩ ?_
  intro ⟨i, sv⟩ γ0 w2 hI
  try dsimp only at hI
  obtain ⟨hi, H⟩ := hI
  refine WE.seq ?_
  refine WE.seq_reg ?_
  refine WL.mv rfl rfl ?_
  refine WL.mv rfl rfl ?_
  refine WL.pv (PV.lss rfl rfl rfl) rfl ?_
  refine WL.nil ?_
  refine WE.cond rfl (fun hc10 => ?_) (fun hc10 => ?_)
  · skip
    try simp only [decide_eq_true_eq, decide_eq_false_iff_not, ne_eq, Decidable.not_not, Bool.not_eq_true', Bool.not_eq_false', Bool.and_eq_true, Bool.or_eq_true, Bool.not_not, Bool.and_eq_false_iff, Bool.or_eq_false_iff, Int.not_lt, Int.not_le] at hc10
    have hlt : i < D := by omega
    refine WE.skip ?_
    refine WE.seq ?_
    refine WE.block ?_
    refine WE.reg ?_
    refine WL.mv rfl rfl ?_
    refine WL.mv rfl rfl ?_
    refine WL.loadR rfl TrydT.ag36 rfl rfl (by exact Blk.segAt (H.l 0 rfl) (Seg.all _) (by rfl)) (by (rw [TrydT.sz36]; refine congrArg some ?_; (simp only [kc_length, kw_length, List.length_replicate, List.length_append, List.length_cons, List.length_nil, cutI_length, shaOf_length, dig_length, valD_length, rootM_length]; omega))) ?_
    refine WL.mv rfl rfl ?_
    refine WL.call TrydT.fb54 rfl (refBitN_c (k := k) (d := i) H.yylt  (by assumption) (by omega)) ?_
    rintro _ w3 ⟨rfl, hO⟩
    replace H := H.out hO
    refine WL.call TrydT.fb71 rfl (Part_c (m := atM k 0 m i) (d := i) (b := bitN k i) H.yylt (by exact H.rob 0 rfl) hkl.at hone.at (Nat.le_trans (atM_len k 0 m i) hlen) (by omega)) ?_
    rintro v18 w4 ⟨hO, hR⟩
    replace H := (H.out hO).add hR
    refine WL.as rfl rfl ?_
    refine WL.nil ?_
    refine WE.reg ?_
    refine WL.mv rfl rfl ?_
    refine WL.pv (PV.add64 rfl rfl rfl (by omega) (by omega)) rfl ?_
    refine WL.as rfl rfl ?_
    refine WL.nil ?_
    replace H := H.drop (Ps' := [SlE v18 (atM k 0 m (i + 1))]) (by intro p hp; simp at hp; subst hp; exact List.mem_cons_self)
    exact ⟨(i + 1, v18), (by repeat (first | with_reducible exact Off.refl _ _ | refine Off.upd rfl ?_ | refine Off.setAll rfl ?_ | refine Off.forget' rfl ?_)), ⟨rfl, rfl, trivial⟩, rfl, ⟨by dsimp only; omega, H⟩, (by dsimp only; omega)⟩
  · skip
    try simp only [decide_eq_true_eq, decide_eq_false_iff_not, ne_eq, Decidable.not_not, Bool.not_eq_true', Bool.not_eq_false', Bool.and_eq_true, Bool.or_eq_true, Bool.not_not, Bool.and_eq_false_iff, Bool.or_eq_false_iff, Int.not_lt, Int.not_le] at hc10
    obtain rfl : D = i := by omega
    refine WE.exit ?_
    refine WE.seq_reg ?_
    refine WL.mv rfl rfl ?_
    refine WL.mv rfl rfl ?_
    refine WL.loadR rfl TrydT.ag36 rfl rfl (by exact Blk.segAt (H.l 0 rfl) (Seg.all _) (by rfl)) (by (rw [TrydT.sz36]; refine congrArg some ?_; (simp only [kc_length, kw_length, List.length_replicate, List.length_append, List.length_cons, List.length_nil, cutI_length, shaOf_length, dig_length, valD_length, rootM_length]; omega))) ?_
    refine WL.mv rfl rfl ?_
    refine WL.call TrydT.fb54 rfl (refBitN_c (k := k) (d := D) H.yylt  (by assumption) (by assumption)) ?_
    rintro _ w5 ⟨rfl, hO⟩
    replace H := H.out hO
    refine WL.pv (PV.eq (v' := .int .i64 ((1 - bitN k D : Nat) : Int)) (PV.sub64 rfl rfl rfl (by have := bitN_lt k D; omega) (by omega)) (by have := bitN_lt k D; congr 1; omega)) rfl ?_
    refine WL.call TrydT.fb71 rfl (Part_c (m := atM k 0 m D) (d := D) (b := 1 - bitN k D) H.yylt (by exact H.rob 0 rfl) hkl.at hone.at (Nat.le_trans (atM_len k 0 m D) hlen) (by omega)) ?_
    rintro v25 w6 ⟨hO, hR⟩
    replace H := (H.out hO).add hR
    refine WL.as rfl rfl ?_
    refine WL.nil ?_
    refine WE.ret ?_
    refine ⟨[_], _, .nil _, ⟨rfl, trivial⟩, ?_⟩
    exact ⟨H.toOut0, H.give (H.rob 0 rfl)⟩

theorem refSameE_c {X : Nat → Prop} {w : World} {a b : Value} {la lb : List En} (hX : ∀ b, X b → b < w.heap.size) (hf0 : Rob X (SlE a la) w) (hf1 : Rob X (Vals la) w) (hf2 : Rob X (SlE b lb) w) (hf3 : Rob X (Vals lb) w) (hka : KL la) (hkb : KL lb) (hlen : la.length ≤ 1000000) (hva : ∀ e ∈ la, e.v.length ≤ 1000000) (hs : SameE la lb) :
    Ret Tryd.prog 48 [a, b].toArray w fun v w' => v = .bool true ∧ Out Nil w w' := by
  refine Ret.of_body (N := 42) Tryd.func48 rfl rfl (by simp) ?_
  have H := St.begin hX
  replace H := H.add (rob0 hf3)
  replace H := H.add (rob0 hf2)
  replace H := H.add (rob0 hf1)
  replace H := H.add (rob0 hf0)
  have hlen2 : lb.length = la.length := hs.1.symm
  refine WE.seq_reg ?_
  refine WL.as rfl rfl ?_
  refine WL.nil ?_
  refine WE.seq ?_
  refine WE.seq_reg ?_
  refine WL.mv rfl rfl ?_
  refine WL.pv (PV.lenS (by exact H.p 0 rfl : SlE a la _) TrydT.sl42 rfl) rfl ?_
  refine WL.mv rfl rfl ?_
  refine WL.pv (PV.lenS (by exact H.p 2 rfl : SlE b lb _) TrydT.sl42 rfl) rfl ?_
  refine WL.pv (PV.neq rfl rfl rfl) rfl ?_
  refine WL.nil ?_
  refine WE.cond_f' rfl (by simp [hlen2]) ?_
  refine WE.skip ?_
  refine WE.seq ?_
  refine WE.seq_reg ?_
  refine WL.as rfl rfl ?_
  refine WL.nil ?_
  refine WE.block ?_
  refine WE.loop (α := Nat) [4, 5, 11, 12, 13, 14, 15, 16, 17, 18, 19, 20, 21, 22, 23, 24, 25, 26, 27, 28, 29, 30, 31, 32, 33, 34, 35, 36, 37, 38, 39, 40, 41] (fun i => [(5, .int .i64 i)]) (fun i wl => i ≤ la.length ∧ St X w wl [] [] [SlE a la, Vals la, SlE b lb, Vals lb]) (fun i => la.length - i) 0 ⟨rfl, trivial⟩ ⟨Nat.zero_le _, H⟩ ?_
  intro i γ0 w1 hI
  try dsimp only at hI
  obtain ⟨hi, H⟩ := hI
  refine WE.seq ?_
  refine WE.seq_reg ?_
  refine WL.mv rfl rfl ?_
  refine WL.mv rfl rfl ?_
  refine WL.pv (PV.lenS (by exact H.p 0 rfl : SlE a la _) TrydT.sl42 rfl) rfl ?_
  refine WL.pv (PV.lss rfl rfl rfl) rfl ?_
  refine WL.nil ?_
  refine WE.cond rfl (fun hc14 => ?_) (fun hc14 => ?_)
  · skip
    try simp only [decide_eq_true_eq, decide_eq_false_iff_not, ne_eq, Decidable.not_not, Bool.not_eq_true', Bool.not_eq_false', Bool.and_eq_true, Bool.or_eq_true, Bool.not_not, Bool.and_eq_false_iff, Bool.or_eq_false_iff, Int.not_lt, Int.not_le] at hc14
    have hlt : i < la.length := by omega
    have hlt2 : i < lb.length := by omega
    have hii := hs.2 i hlt hlt2
    have hvi := hva _ (List.getElem_mem hlt)
    have hkk1 := hka _ (List.getElem_mem hlt)
    have hkk2 := hkb _ (List.getElem_mem hlt2)
    refine WE.skip ?_
    refine WE.seq ?_
    refine WE.block ?_
    refine WE.seq_draw (.take 0 (.take 1 (.take 2 (.take 3 (.take 4 (.take 5 (.take 6 (.take 7 (.take 8 (.take 9 (.take 10 (.take 11 (.take 12 (.take 13 (.take 14 (.take 15 (.take 16 (.take 17 (.take 18 (.take 19 (.take 20 (.take 21 (.pick1 22 (.take 23 (.take 24 .done))))))))))))))))))))))))) TrydT.mixed (by kernel_rfl) ?_
    replace H := H.out (Out.drew _)
    refine WP.mv rfl rfl rfl ?_
    refine WP.mv rfl rfl rfl ?_
    refine WP.take_pure rfl rfl (PV.idxS rfl (by exact H.p 0 rfl : SlE a la _) TrydT.sl42 TrydT.sz52 rfl rfl (by omega) (by omega)) ?_
    refine WP.take_pure rfl rfl (PV.fieldAddrA rfl TrydT.fd52_0 rfl) ?_
    refine WP.readA rfl rfl rfl TrydT.ag36 rfl (SlE.rdk (H.p 0 rfl) hka i hlt) (by (rw [TrydT.sz36]; refine congrArg some ?_; (simp only [kc_length, kw_length, List.length_replicate, List.length_append, List.length_cons, List.length_nil, cutI_length, shaOf_length, dig_length, valD_length, rootM_length]; omega))) ?_
    refine WP.mv rfl rfl rfl ?_
    refine WP.mv rfl rfl rfl ?_
    refine WP.take_pure rfl rfl (PV.idxS rfl (by exact H.p 2 rfl : SlE b lb _) TrydT.sl42 TrydT.sz52 rfl rfl (by omega) (by omega)) ?_
    refine WP.take_pure rfl rfl (PV.fieldAddrA rfl TrydT.fd52_0 rfl) ?_
    refine WP.readA rfl rfl rfl TrydT.ag36 rfl (SlE.rdk (H.p 2 rfl) hkb i hlt2) (by (rw [TrydT.sz36]; refine congrArg some ?_; (simp only [kc_length, kw_length, List.length_replicate, List.length_append, List.length_cons, List.length_nil, cutI_length, shaOf_length, dig_length, valD_length, rootM_length]; omega))) ?_
    refine WP.take_pure rfl rfl (PV.neqB rfl TrydT.ar36 TrydT.in5 TrydT.sz5 (by kernel_rfl) rfl rfl (by assumption) (by assumption)) ?_
    refine WP.mv rfl rfl rfl ?_
    refine WP.known (t := 28) (c := false) rfl (by simp [hii.1]) ?_
    refine WP.mv rfl rfl rfl ?_
    refine WP.mv rfl rfl rfl ?_
    refine WP.take_pure rfl rfl (PV.idxS rfl (by exact H.p 0 rfl : SlE a la _) TrydT.sl42 TrydT.sz52 rfl rfl (by omega) (by omega)) ?_
    refine WP.take_pure rfl rfl (PV.fieldAddrA rfl TrydT.fd52_1 rfl) ?_
    refine WP.take_read rfl rfl (RV.loadOne rfl TrydT.ag33 rfl) (SlE.rdv (H.p 0 rfl) hka i hlt) ?_
    refine WP.mv rfl rfl rfl ?_
    refine WP.mv rfl rfl rfl ?_
    refine WP.take_pure rfl rfl (PV.idxS rfl (by exact H.p 2 rfl : SlE b lb _) TrydT.sl42 TrydT.sz52 rfl rfl (by omega) (by omega)) ?_
    refine WP.take_pure rfl rfl (PV.fieldAddrA rfl TrydT.fd52_1 rfl) ?_
    refine WP.take_read rfl rfl (RV.loadOne rfl TrydT.ag33 rfl) (SlE.rdv (H.p 2 rfl) hkb i hlt2) ?_
    refine WP.pick1 rfl ?_
    refine WL.call TrydT.fb38 rfl (Same_c (la := la[i].v) (lb := lb[i].v) H.yylt ((H.rob 1 rfl).imp fun _ h => h _ (List.getElem_mem hlt)) ((H.rob 3 rfl).imp fun _ h => h _ (List.getElem_mem hlt2)) (by omega)) ?_
    rintro _ w2 ⟨rfl, hO⟩
    replace H := H.out hO
    refine WL.nil ⟨(List.forall_mem_cons.2 ⟨(by exact (fun h => absurd (show waits _ 22 21 = false from h) (by decide +kernel))), (List.forall_mem_cons.2 ⟨(by exact (fun h => absurd (show waits _ 22 16 = false from h) (by decide +kernel))), (List.forall_mem_cons.2 ⟨(by exact (fun h => absurd (show waits _ 22 9 = false from h) (by decide +kernel))), (List.forall_mem_cons.2 ⟨(by exact (fun h => absurd (show waits _ 22 4 = false from h) (by decide +kernel))), (fun _ h => by cases h)⟩)⟩)⟩)⟩), ?_⟩
    refine WP.take_pure rfl rfl (PV.not rfl rfl) ?_
    refine WP.take_pure rfl rfl (PV.pick_f rfl rfl rfl) ?_
    refine WP.done ?_
    refine WE.cond_f' rfl (by simp [hii.2]) ?_
    refine WE.skip ?_
    refine WE.reg ?_
    refine WL.mv rfl rfl ?_
    refine WL.pv (PV.add64 rfl rfl rfl (by omega) (by omega)) rfl ?_
    refine WL.as rfl rfl ?_
    refine WL.nil ?_
    exact ⟨i + 1, (by repeat (first | with_reducible exact Off.refl _ _ | refine Off.upd rfl ?_ | refine Off.setAll rfl ?_ | refine Off.forget' rfl ?_)), ⟨rfl, trivial⟩, rfl, ⟨by omega, H⟩, (by omega)⟩
  · skip
    try simp only [decide_eq_true_eq, decide_eq_false_iff_not, ne_eq, Decidable.not_not, Bool.not_eq_true', Bool.not_eq_false', Bool.and_eq_true, Bool.or_eq_true, Bool.not_not, Bool.and_eq_false_iff, Bool.or_eq_false_iff, Int.not_lt, Int.not_le] at hc14
    refine WE.exit ?_
    refine WE.seq_reg ?_
    refine WL.as rfl rfl ?_
    refine WL.nil ?_
    refine WE.ret ?_
    refine ⟨[_], _, .nil _, ⟨rfl, trivial⟩, ?_⟩
    refine ⟨?_, H.toOut0⟩
    rfl

end Go.Sp.Tryd
