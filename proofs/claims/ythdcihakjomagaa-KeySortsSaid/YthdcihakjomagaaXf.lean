/- Walks of functions, printed by a program of this session (gen.py) from notes on each function. -/
import Derived.Test.YthdcihakjomagaaXe
import Derived.Test.YthdcihakjomagaaStr
set_option maxRecDepth 100000
set_option maxHeartbeats 1000000
set_option linter.unusedVariables false
set_option linter.unusedSimpArgs false
namespace Go.Sp.Try
open Go.Proofs Go.RowKit Go.Sp

/-! equal neighbours once -/
def compK : List (List UInt8) → List (List UInt8)
  | a :: b :: r => if a = b then compK (b :: r) else a :: compK (b :: r)
  | l => l
theorem compK_cons2 (a b : List UInt8) (r : List (List UInt8)) : compK (a :: b :: r) = if a = b then compK (b :: r) else a :: compK (b :: r) := by rw [compK]
theorem compK_one (a : List UInt8) : compK [a] = [a] := by simp [compK]
theorem compK_short {l : List (List UInt8)} (h : l.length < 2) : compK l = l := by
  match l, h with
  | [], _ => simp [compK]
  | [a], _ => simp [compK]
theorem compK_snoc : ∀ (l : List (List UInt8)) (a b : List UInt8), compK (l ++ [a, b]) = if a = b then compK (l ++ [a]) else compK (l ++ [a]) ++ [b]
  | [], a, b => by
    show compK [a, b] = if a = b then compK [a] else compK [a] ++ [b]
    rw [compK_cons2, compK_one, compK_one]
    split
    · rename_i h; rw [h]
    · rfl
  | [x], a, b => by
    show compK (x :: a :: [b]) = if a = b then compK [x, a] else compK [x, a] ++ [b]
    rw [compK_cons2, compK_cons2 x a, compK_cons2 a b, compK_one, compK_one]
    by_cases h1 : x = a <;> by_cases h2 : a = b <;> simp [h1, h2]
  | x :: y :: l, a, b => by
    have ih := compK_snoc (y :: l) a b
    show compK (x :: y :: (l ++ [a, b])) = if a = b then compK (x :: y :: (l ++ [a])) else compK (x :: y :: (l ++ [a])) ++ [b]
    rw [compK_cons2, compK_cons2]
    rw [List.cons_append, List.cons_append] at ih
    rw [ih]
    by_cases h1 : x = y <;> by_cases h2 : a = b <;> simp [h1, h2]
theorem compK_take {ks : List (List UInt8)} {q : Nat} (h1 : 1 ≤ q) (h : q < ks.length) : compK (ks.take (q + 1)) = if ks[q - 1] = ks[q] then compK (ks.take q) else compK (ks.take q) ++ [ks[q]] := by
  obtain ⟨p, rfl⟩ : ∃ p, q = p + 1 := ⟨q - 1, by omega⟩
  have e1 : ks.take (p + 1 + 1) = ks.take p ++ [ks[p], ks[p + 1]] := by
    rw [List.take_succ_eq_append_getElem h, List.take_succ_eq_append_getElem (by omega : p < ks.length), List.append_assoc]; rfl
  have e2 : ks.take (p + 1) = ks.take p ++ [ks[p]] := List.take_succ_eq_append_getElem (by omega)
  rw [e1, e2, compK_snoc]
  rfl
theorem compK_len : ∀ l : List (List UInt8), (compK l).length ≤ l.length
  | [] => by simp [compK]
  | [a] => by simp [compK]
  | a :: b :: r => by
    rw [compK_cons2]
    have := compK_len (b :: r)
    split
    · rw [List.length_cons]; omega
    · rw [List.length_cons, List.length_cons]; omega
theorem compK_mem : ∀ (l : List (List UInt8)) (x : List UInt8), x ∈ compK l ↔ x ∈ l
  | [], x => by simp [compK]
  | [a], x => by simp [compK]
  | a :: b :: r, x => by
    rw [compK_cons2]
    have := compK_mem (b :: r) x
    split
    · rename_i h; subst h; rw [this]; simp
    · rw [List.mem_cons, this, List.mem_cons (a := x) (b := a)]
theorem K32.drop {l : List (List UInt8)} (h : K32 l) (i : Nat) : K32 (l.drop i) := fun e he => h e (List.mem_of_mem_drop he)
theorem K32.set {l : List (List UInt8)} (h : K32 l) (i : Nat) {x : List UInt8} (hx : x.length = 32) : K32 (l.set i x) := fun e he => by
  rcases List.mem_or_eq_of_mem_set he with h1 | h1
  · exact h e h1
  · rw [h1]; exact hx
theorem flatK_drop (rs : List (List UInt8)) (hk : K32 rs) (lo : Nat) (rest : List Value) : Seg (rs.flatMap kc ++ rest) ((min lo rs.length) * 32) ((rs.drop lo).flatMap kc) := by
  refine ⟨(rs.take lo).flatMap kc, rest, ?_, ?_⟩
  · rw [← List.append_assoc, ← List.flatMap_append, List.take_append_drop]
  · rw [flat_len _ (hk.take lo), List.length_take]
theorem SlK.at {w : World} {g lo n cap : Nat} {t : TypeId} {rs : List (List UInt8)} {rest : List Value} (h : Blk w g t (rs.flatMap kc ++ rest)) (hk : K32 rs) (hn : n + lo = rs.length) (hc : n ≤ cap) : SlK (.slice (some ⟨g, lo * 32, none⟩) n cap) (rs.drop lo) w := by
  have e : (rs.drop lo).length = n := by rw [List.length_drop]; omega
  have e2 : min lo rs.length = lo := by omega
  have := flatK_drop rs hk lo rest
  rw [e2] at this
  unfold SlK
  rw [e]
  exact SlC.of_rd (h.segAt this rfl) (by rw [flat_len _ (hk.drop lo), e]) hc
theorem SlK.at0 {w : World} {g n cap : Nat} {t : TypeId} {rs : List (List UInt8)} {rest : List Value} (h : Blk w g t (rs.flatMap kc ++ rest)) (hk : K32 rs) (hn : n = rs.length) (hc : n ≤ cap) : SlK (.slice (some ⟨g, 0, none⟩) n cap) rs w := by
  have := SlK.at (lo := 0) h hk (by omega) hc
  rwa [List.drop_zero, Nat.zero_mul] at this
theorem SlC.at0 {w : World} {g n cap : Nat} {t : TypeId} {rs : List (List UInt8)} {rest : List Value} (h : Blk w g t (rs.flatMap kc ++ rest)) (hk : K32 rs) (hn : rs.length = n) (hc : n ≤ cap) : SlC w (.slice (some ⟨g, 0, none⟩) n cap) 32 n (rs.flatMap kc) := by
  have := SlK.at0 h hk hn.symm hc
  unfold SlK at this
  rwa [hn] at this
theorem flat_takeN (rs : List (List UInt8)) (hk : K32 rs) (t : Nat) (ht : t ≤ rs.length) (rest : List Value) : (rs.flatMap kc ++ rest).take (t * 32) = (rs.take t).flatMap kc := by
  have h1 : ((rs.take t).flatMap kc).length = t * 32 := by rw [flat_len _ (hk.take t), List.length_take]; congr 1; omega
  have h2 : rs.flatMap kc = (rs.take t).flatMap kc ++ (rs.drop t).flatMap kc := by rw [← List.flatMap_append, List.take_append_drop]
  rw [h2, List.append_assoc, List.take_left' h1]
theorem keyAt {w : World} {g lo i j q : Nat} {t : TypeId} {rs ks : List (List UInt8)} {rest : List Value} (h : Blk w g t (rs.flatMap kc ++ rest)) (hk : K32 rs) (hrl : rs.length = ks.length) (hd : rs.drop q = ks.drop q) (hj : lo + i = j) (hq : q ≤ j) (hl : j < ks.length) (n c : Nat) : RdA w (sAddr (.slice (some ⟨g, lo * 32, none⟩) n c) (i * 32)) (kc ks[j]) := by
  have h1 : rs[j]'(by omega) = ks[j] := by
    have e1 : rs.drop q = ks.drop q := hd
    have e2 : (rs.drop q)[j - q]'(by rw [List.length_drop]; omega) = (ks.drop q)[j - q]'(by rw [List.length_drop]; omega) := by simp only [e1]
    rw [List.getElem_drop, List.getElem_drop] at e2
    simpa [show q + (j - q) = j by omega] using e2
  have h2 := SlK.rd (SlK.at0 (cap := rs.length) h hk rfl (Nat.le_refl _)) hk j (by omega)
  rw [h1] at h2
  have e : (sAddr (.slice (some ⟨g, 0, none⟩) rs.length rs.length) (j * 32)) = sAddr (.slice (some ⟨g, lo * 32, none⟩) n c) (i * 32) := by
    show (⟨g, 0, none⟩ : Addr).add (j * 32) = (⟨g, lo * 32, none⟩ : Addr).add (i * 32)
    rw [add_mk, add_mk, ← hj]; congr 1; omega
  rwa [e] at h2
theorem keyAt0 {w : World} {g j q : Nat} {t : TypeId} {rs ks : List (List UInt8)} {rest : List Value} (h : Blk w g t (rs.flatMap kc ++ rest)) (hk : K32 rs) (hrl : rs.length = ks.length) (hd : rs.drop q = ks.drop q) (hq : q ≤ j) (hl : j < ks.length) (n c : Nat) : RdA w (sAddr (.slice (some ⟨g, 0, none⟩) n c) (j * 32)) (kc ks[j]) := by
  have := keyAt (lo := 0) (i := j) h hk hrl hd (by omega) hq hl n c
  rwa [Nat.zero_mul] at this
theorem Laid.keyS {rs : List (List UInt8)} {rest : List Value} {i oo : Nat} {x : List UInt8} (hi : i < rs.length) (hk : K32 rs) (hx : x.length = 32) (ho : oo = i * 32) : Laid (rs.flatMap kc ++ rest) oo (kc x) ((rs.set i x).flatMap kc ++ rest) := by
  subst ho
  refine Laid.left ?_
  have e : rs = rs.take i ++ ([rs[i]] ++ rs.drop (i + 1)) := by
    rw [List.singleton_append, ← List.drop_eq_getElem_cons hi, List.take_append_drop]
  have e2 : rs.set i x = rs.take i ++ ([x] ++ rs.drop (i + 1)) := by
    rw [List.set_eq_take_append_cons_drop, if_pos hi]; rfl
  have hl : ((rs.take i).flatMap kc).length = i * 32 := by rw [flat_len _ (hk.take i), List.length_take]; congr 1; omega
  have h1 : (kc (rs[i])).length = 32 := by rw [kc_length]; exact hk _ (List.getElem_mem hi)
  have := Laid.right (a := (rs.take i).flatMap kc) (p := i * 32) (o := 0) (Laid.left (b := (rs.drop (i + 1)).flatMap kc) (Laid.all (l := kc rs[i]) (new := kc x) (by rw [h1, kc_length, hx]))) (by omega)
  rw [e2, List.flatMap_append, List.flatMap_append, List.flatMap_singleton]
  rw [← List.flatMap_singleton (f := kc) rs[i], ← List.flatMap_append, ← List.flatMap_append, ← e] at this
  exact this
theorem take_set_snoc {α : Type} {l : List α} {i : Nat} {x : α} (h : i < l.length) : (l.set i x).take (i + 1) = l.take i ++ [x] := by
  rw [List.take_succ_eq_append_getElem (by rw [List.length_set]; exact h), List.getElem_set_self, List.take_set, List.set_eq_of_length_le (by rw [List.length_take]; omega)]
theorem drop_more {α : Type} {l m : List α} {i j : Nat} (h : l.drop i = m.drop i) (hj : i ≤ j) : l.drop j = m.drop j := by
  have := congrArg (List.drop (j - i)) h
  rwa [List.drop_drop, List.drop_drop, show i + (j - i) = j by omega] at this
theorem subSl_eq {g n cap lo hi : Nat} (h : lo < cap) : subSl (.slice (some ⟨g, 0, none⟩) n cap) 32 lo hi = .slice (some ⟨g, lo * 32, none⟩) (hi - lo) (cap - lo) := by
  show Value.slice (if cap = lo then _ else _) _ _ = _
  rw [if_neg (by omega)]
  simp [add_mk]

theorem Compact_c {X : Nat → Prop} {w : World} {g cap : Nat} {ks : List (List UInt8)} {rest : List Value} (hX : ∀ b, X b → b < w.heap.size) (ho0 : Blk w g 24 (ks.flatMap kc ++ rest)) (hkl : K32 ks) (hlen : ks.length ≤ 1000000) (hcap : ks.length ≤ cap) :
    Ret Try.prog 35 [.slice (some ⟨g, 0, none⟩) ks.length cap].toArray w fun v w' => v = .slice (some ⟨g, 0, none⟩) (compK ks).length cap ∧ Out (· = g) w w' ∧ ∃ rest', Blk w' g 24 ((compK ks).flatMap kc ++ rest') ∧ rest'.length + (compK ks).length * 32 = rest.length + ks.length * 32 := by
  refine Ret.of_body (N := 61) Try.func35 rfl rfl (by simp) ?_
  have H := St.begin1 (b := g) (t := 24) (l := ks.flatMap kc ++ rest) hX ho0
  have hkr := hkl
  have hrl : ks.length = ks.length := rfl
  have hdr : ks.drop 0 = ks.drop 0 := rfl
  refine WE.seq_reg ?_
  refine WL.as rfl rfl ?_
  refine WL.nil ?_
  refine WE.seq ?_
  refine WE.seq_reg ?_
  refine WL.mv rfl rfl ?_
  refine WL.pv (PV.lenS (SlC.at0 (cap := cap) (H.o 0 rfl) hkr hrl hcap) TryT.sl38 rfl) rfl ?_
  refine WL.pv (PV.lss rfl rfl rfl) rfl ?_
  refine WL.nil ?_
  refine WE.cond rfl (fun hc8 => ?_) (fun hc8 => ?_)
  · skip
    try simp only [decide_eq_true_eq, decide_eq_false_iff_not, ne_eq, Decidable.not_not, Bool.not_eq_true', Bool.not_eq_false', Bool.and_eq_true, Bool.or_eq_true, Bool.not_not, Bool.and_eq_false_iff, Bool.or_eq_false_iff, Int.not_lt, Int.not_le] at hc8
    have hsh : ks.length < 2 := by omega
    refine WE.seq_reg ?_
    refine WL.mv rfl rfl ?_
    refine WL.as rfl rfl ?_
    refine WL.nil ?_
    refine WE.ret ?_
    refine ⟨[_], _, .nil _, ⟨rfl, trivial⟩, ?_⟩
    rw [compK_short hsh]
    exact ⟨rfl, H.toOut.mono fun b _ ⟨_, he, hb⟩ => (by cases List.mem_singleton.1 he; exact hb), rest, H.o 0 rfl, rfl⟩
  · skip
    try simp only [decide_eq_true_eq, decide_eq_false_iff_not, ne_eq, Decidable.not_not, Bool.not_eq_true', Bool.not_eq_false', Bool.and_eq_true, Bool.or_eq_true, Bool.not_not, Bool.and_eq_false_iff, Bool.or_eq_false_iff, Int.not_lt, Int.not_le] at hc8
    refine WE.skip ?_
    refine WE.seq ?_
    refine WE.seq_reg ?_
    refine WL.as rfl rfl ?_
    refine WL.nil ?_
    refine WE.block ?_
    refine WE.loop (α := Nat) [2, 3, 4, 5, 10, 11, 12, 13, 14, 15, 16, 17, 18, 19, 20, 21, 22, 23, 24, 25, 26, 27, 28, 29, 30, 31, 32, 33, 34, 35, 36, 37, 38, 39, 40, 41, 42, 43, 44, 45, 46, 47, 48, 49, 50, 51, 52, 53, 54, 55, 56, 57, 58, 59] (fun p => [(3, .int .i64 (p : Int))]) (fun p wl => 1 ≤ p ∧ p ≤ ks.length ∧ compK (ks.take p) = ks.take p ∧ St X w wl [Ent.blk g 24 ((ks).flatMap kc ++ rest)] [] []) (fun p => ks.length - p) 1 ⟨rfl, trivial⟩ ⟨Nat.le_refl _, by omega, compK_short (by rw [List.length_take]; omega), H⟩ ?_
    intro p γ0 w1 hI
    try dsimp only at hI
    obtain ⟨hp1, hp, hcm, H⟩ := hI
    refine WE.seq ?_
    refine WE.seq_reg ?_
    refine WL.mv rfl rfl ?_
    refine WL.mv rfl rfl ?_
    refine WL.pv (PV.lenS (SlC.at0 (cap := cap) (H.o 0 rfl) hkr hrl hcap) TryT.sl38 rfl) rfl ?_
    refine WL.pv (PV.lss rfl rfl rfl) rfl ?_
    refine WL.nil ?_
    refine WE.cond rfl (fun hc13 => ?_) (fun hc13 => ?_)
    · skip
      try simp only [decide_eq_true_eq, decide_eq_false_iff_not, ne_eq, Decidable.not_not, Bool.not_eq_true', Bool.not_eq_false', Bool.and_eq_true, Bool.or_eq_true, Bool.not_not, Bool.and_eq_false_iff, Bool.or_eq_false_iff, Int.not_lt, Int.not_le] at hc13
      have hlt : p < ks.length := by omega
      have hk1 := hkl _ (List.getElem_mem hlt)
      have hk2 := hkl _ (List.getElem_mem (show p - 1 < ks.length by omega))
      have hct := compK_take hp1 hlt
      refine WE.skip ?_
      refine WE.seq ?_
      refine WE.block ?_
      refine WE.seq_draw (.take 0 (.take 1 (.take 2 (.take 3 (.take 4 (.take 5 (.take 6 (.take 7 (.take 8 (.take 9 .done)))))))))) TryT.mixed (by kernel_rfl) ?_
      replace H := H.out (Out.drew _)
      refine WP.mv rfl rfl rfl ?_
      refine WP.mv rfl rfl rfl ?_
      refine WP.take_pure rfl rfl (PV.idxS rfl (SlC.at0 (cap := cap) (H.o 0 rfl) hkr hrl hcap) TryT.sl38 TryT.sz24 rfl rfl (by omega) (by omega)) ?_
      refine WP.readA rfl rfl rfl TryT.ag24 rfl ((keyAt0 (j := p) (q := 0) (ks := ks) (H.o 0 rfl) hkr hrl hdr (by omega) (by omega) _ _)) (by (rw [TryT.sz24]; refine congrArg some ?_; (simp only [kc_length, kw_length, List.length_replicate, List.length_append, List.length_cons, List.length_nil]; omega))) ?_
      refine WP.mv rfl rfl rfl ?_
      refine WP.mv rfl rfl rfl ?_
      refine WP.take_pure rfl rfl (PV.eq (v' := .int .i64 ((p - 1 : Nat) : Int)) (PV.sub64 rfl rfl rfl (by omega) (by omega)) (by (congr 1; omega))) ?_
      refine WP.take_pure rfl rfl (PV.idxS rfl (SlC.at0 (cap := cap) (H.o 0 rfl) hkr hrl hcap) TryT.sl38 TryT.sz24 rfl rfl (by omega) (by omega)) ?_
      refine WP.readA rfl rfl rfl TryT.ag24 rfl ((keyAt0 (j := (p - 1)) (q := 0) (ks := ks) (H.o 0 rfl) hkr hrl hdr (by omega) (by omega) _ _)) (by (rw [TryT.sz24]; refine congrArg some ?_; (simp only [kc_length, kw_length, List.length_replicate, List.length_append, List.length_cons, List.length_nil]; omega))) ?_
      refine WP.take_pure rfl rfl (PV.eqlB rfl TryT.ar24 TryT.in5 TryT.sz5 (by kernel_rfl) rfl rfl (by assumption) (by assumption)) ?_
      refine WP.done ?_
      refine WE.cond rfl (fun hc25 => ?_) (fun hc25 => ?_)
      · skip
        try simp only [decide_eq_true_eq, decide_eq_false_iff_not, ne_eq, Decidable.not_not, Bool.not_eq_true', Bool.not_eq_false', Bool.and_eq_true, Bool.or_eq_true, Bool.not_not, Bool.and_eq_false_iff, Bool.or_eq_false_iff, Int.not_lt, Int.not_le] at hc25
        have hce : ks[p - 1] = ks[p] := by exact hc25.symm
        rw [if_pos hce, hcm] at hct
        have hpc : p < cap := by omega
        refine WE.seq_reg ?_
        refine WL.mv rfl rfl ?_
        refine WL.mv rfl rfl ?_
        refine WL.pv (PV.eq (v' := .slice (some ⟨g, p * 32, none⟩) (ks.length - p) (cap - p)) (PV.subL rfl (SlC.at0 (cap := cap) (H.o 0 rfl) hkr hrl hcap) TryT.sl38 TryT.sz24 rfl rfl (by omega) (by omega)) (subSl_eq hpc)) rfl ?_
        refine WL.as rfl rfl ?_
        refine WL.nil ?_
        refine WE.seq ?_
        refine WE.seq_reg ?_
        refine WL.as rfl rfl ?_
        refine WL.nil ?_
        refine WE.block ?_
        refine WE.loop (α := Nat × Nat × List (List UInt8)) [3, 5, 29, 30, 31, 32, 33, 34, 35, 36, 37, 38, 39, 40, 41, 42, 43, 44, 45, 46, 47, 48, 49, 50, 51, 52, 53] (fun q => [(3, .int .i64 (q.1 : Int)), (5, .int .i64 (q.2.1 : Int))]) (fun q wl => (1 ≤ q.2.1 ∧ q.1 + 1 ≤ p + q.2.1 ∧ p + q.2.1 ≤ ks.length) ∧ (K32 q.2.2 ∧ q.2.2.length = ks.length) ∧ (q.2.2.take q.1 = compK (ks.take (p + q.2.1)) ∧ q.2.2.drop (p + q.2.1 - 1) = ks.drop (p + q.2.1 - 1)) ∧ St X w wl [Ent.blk g 24 ((q.2.2).flatMap kc ++ rest)] [] []) (fun q => ks.length - (p + q.2.1)) (p, 1, ks) ⟨rfl, rfl, trivial⟩ ⟨⟨by dsimp only; omega, by dsimp only; omega, by dsimp only; omega⟩, ⟨hkl, rfl⟩, ⟨hct.symm, rfl⟩, H⟩ ?_
        intro ⟨t, i, rs⟩ γ1 w2 hI
        try dsimp only at hI
        obtain ⟨⟨hi1, hti, hpi⟩, ⟨hkr, hrl⟩, ⟨htk, hdr⟩, H⟩ := hI
        try dsimp only at hi1 hti hpi hkr hrl htk hdr
        have hq1 : (((t, i, rs) : Nat × Nat × List (List UInt8)).snd.fst) = i := rfl
        have hq0 : (((t, i, rs) : Nat × Nat × List (List UInt8)).fst) = t := rfl
        have hdl : (rs.drop p).length = ks.length - p := by rw [List.length_drop, hrl]
        refine WE.seq ?_
        refine WE.seq_reg ?_
        refine WL.mv rfl rfl ?_
        refine WL.mv rfl rfl ?_
        refine WL.pv (PV.lenS (SlK.at (lo := p) (n := ks.length - p) (cap := cap - p) (H.o 0 rfl) hkr (by omega) (by omega)) TryT.sl38 rfl) rfl ?_
        refine WL.pv (PV.lss rfl rfl rfl) rfl ?_
        refine WL.nil ?_
        refine WE.cond rfl (fun hc32 => ?_) (fun hc32 => ?_)
        · skip
          try simp only [decide_eq_true_eq, decide_eq_false_iff_not, ne_eq, Decidable.not_not, Bool.not_eq_true', Bool.not_eq_false', Bool.and_eq_true, Bool.or_eq_true, Bool.not_not, Bool.and_eq_false_iff, Bool.or_eq_false_iff, Int.not_lt, Int.not_le] at hc32
          have hlt2 : p + i < ks.length := by omega
          have hk3 := hkl _ (List.getElem_mem hlt2)
          have hk4 := hkl _ (List.getElem_mem (show p + i - 1 < ks.length by omega))
          have hct2 := compK_take (show 1 ≤ p + i by omega) hlt2
          refine WE.skip ?_
          refine WE.seq ?_
          refine WE.block ?_
          refine WE.seq_draw (.take 0 (.take 1 (.take 2 (.take 3 (.take 4 (.take 5 (.take 6 (.take 7 (.take 8 (.take 9 .done)))))))))) TryT.mixed (by kernel_rfl) ?_
          replace H := H.out (Out.drew _)
          refine WP.mv rfl rfl rfl ?_
          refine WP.mv rfl rfl rfl ?_
          refine WP.take_pure rfl rfl (PV.idxS rfl (SlK.at (lo := p) (n := ks.length - p) (cap := cap - p) (H.o 0 rfl) hkr (by omega) (by omega)) TryT.sl38 TryT.sz24 rfl rfl (by omega) (by omega)) ?_
          refine WP.readA rfl rfl rfl TryT.ag24 rfl ((keyAt (lo := p) (i := i) (j := (p + i)) (q := (p + i - 1)) (ks := ks) (H.o 0 rfl) hkr hrl hdr (by omega) (by omega) (by omega) _ _)) (by (rw [TryT.sz24]; refine congrArg some ?_; (simp only [kc_length, kw_length, List.length_replicate, List.length_append, List.length_cons, List.length_nil]; omega))) ?_
          refine WP.mv rfl rfl rfl ?_
          refine WP.mv rfl rfl rfl ?_
          refine WP.take_pure rfl rfl (PV.eq (v' := .int .i64 ((i - 1 : Nat) : Int)) (PV.sub64 rfl rfl rfl (by omega) (by omega)) (by (congr 1; omega))) ?_
          refine WP.take_pure rfl rfl (PV.idxS rfl (SlK.at (lo := p) (n := ks.length - p) (cap := cap - p) (H.o 0 rfl) hkr (by omega) (by omega)) TryT.sl38 TryT.sz24 rfl rfl (by omega) (by omega)) ?_
          refine WP.readA rfl rfl rfl TryT.ag24 rfl ((keyAt (lo := p) (i := (i - 1)) (j := (p + i - 1)) (q := (p + i - 1)) (ks := ks) (H.o 0 rfl) hkr hrl hdr (by omega) (by omega) (by omega) _ _)) (by (rw [TryT.sz24]; refine congrArg some ?_; (simp only [kc_length, kw_length, List.length_replicate, List.length_append, List.length_cons, List.length_nil]; omega))) ?_
          refine WP.take_pure rfl rfl (PV.neqB rfl TryT.ar24 TryT.in5 TryT.sz5 (by kernel_rfl) rfl rfl (by assumption) (by assumption)) ?_
          refine WP.done ?_
          refine WE.cond rfl (fun hc44 => ?_) (fun hc44 => ?_)
          · skip
            try simp only [decide_eq_true_eq, decide_eq_false_iff_not, ne_eq, Decidable.not_not, Bool.not_eq_true', Bool.not_eq_false', Bool.and_eq_true, Bool.or_eq_true, Bool.not_not, Bool.and_eq_false_iff, Bool.or_eq_false_iff, Int.not_lt, Int.not_le] at hc44
            have hcn2 : ¬ ks[p + i - 1] = ks[p + i] := by intro h_; apply hc44; exact h_.symm
            rw [if_neg hcn2] at hct2
            let t2 := t + 1
            let rs2 := rs.set t ks[p + i]
            have ht2 : t2 ≤ t + 1 := Nat.le_refl _
            have hkr2 : K32 rs2 := hkr.set _ hk3
            have hrl2 : rs2.length = ks.length := by show (rs.set _ _).length = _; rw [List.length_set]; exact hrl
            have htk2 : rs2.take t2 = compK (ks.take (p + (i + 1))) := by show (rs.set t ks[p + i]).take (t + 1) = _; rw [← Nat.add_assoc, hct2, ← htk, take_set_snoc (by omega)]
            have hdr2 : rs2.drop (p + (i + 1) - 1) = ks.drop (p + (i + 1) - 1) := by show (rs.set t ks[p + i]).drop _ = _; rw [List.drop_set_of_lt (by omega)]; exact drop_more hdr (by omega)
            refine WE.seq_reg ?_
            refine WL.mv rfl rfl ?_
            refine WL.mv rfl rfl ?_
            refine WL.mv rfl rfl ?_
            refine WL.mv rfl rfl ?_
            refine WL.pv (PV.idxS rfl (SlK.at (lo := p) (n := ks.length - p) (cap := cap - p) (H.o 0 rfl) hkr (by omega) (by omega)) TryT.sl38 TryT.sz24 rfl rfl (by omega) (by omega)) rfl ?_
            refine WL.loadR rfl TryT.ag24 rfl rfl ((keyAt (lo := p) (i := i) (j := (p + i)) (q := (p + i - 1)) (ks := ks) (H.o 0 rfl) hkr hrl hdr (by omega) (by omega) (by omega) _ _)) (by (rw [TryT.sz24]; refine congrArg some ?_; (simp only [kc_length, kw_length, List.length_replicate, List.length_append, List.length_cons, List.length_nil]; omega))) ?_
            refine WL.pv (PV.eq (v' := .pointer (some ⟨g, t * 32, none⟩)) (PV.idxS rfl (SlC.at0 (cap := cap) (H.o 0 rfl) hkr hrl hcap) TryT.sl38 TryT.sz24 rfl rfl (by omega) (by omega)) (by show Value.pointer (some ((⟨g, 0, none⟩ : Addr).add (Int.toNat (t : Int) * 32))) = _; rw [add_mk, Int.toNat_natCast, Nat.zero_add])) rfl ?_
            refine WL.storeO H 0 rfl rfl rfl (new := kc ks[p + i]) rfl (by (rw [TryT.sz24]; refine congrArg some ?_; (simp only [kc_length, kw_length, List.length_replicate, List.length_append, List.length_cons, List.length_nil]; omega))) (by exact kc_one _) (Laid.keyS (i := t) (by omega) hkr hk3 rfl) rfl ?_
            intro w3 H
            refine WL.nil ?_
            refine WE.reg ?_
            refine WL.mv rfl rfl ?_
            refine WL.pv (PV.eq (v' := .int .i64 ((t + 1 : Nat) : Int)) (PV.add64 rfl rfl rfl (by omega) (by omega)) (by rfl)) rfl ?_
            refine WL.as rfl rfl ?_
            refine WL.nil ?_
            refine WE.reg ?_
            refine WL.mv rfl rfl ?_
            refine WL.pv (PV.eq (v' := .int .i64 ((i + 1 : Nat) : Int)) (PV.add64 rfl rfl rfl (by omega) (by omega)) (by rfl)) rfl ?_
            refine WL.as rfl rfl ?_
            refine WL.nil ?_
            exact ⟨(t2, i + 1, rs2), (by repeat (first | with_reducible exact Off.refl _ _ | refine Off.upd rfl ?_ | refine Off.setAll rfl ?_ | refine Off.forget' rfl ?_)), ⟨rfl, rfl, trivial⟩, rfl, ⟨⟨by dsimp only; omega, by dsimp only; omega, by dsimp only; omega⟩, ⟨hkr2, hrl2⟩, ⟨htk2, hdr2⟩, H⟩, (by dsimp only; omega)⟩
          · skip
            try simp only [decide_eq_true_eq, decide_eq_false_iff_not, ne_eq, Decidable.not_not, Bool.not_eq_true', Bool.not_eq_false', Bool.and_eq_true, Bool.or_eq_true, Bool.not_not, Bool.and_eq_false_iff, Bool.or_eq_false_iff, Int.not_lt, Int.not_le] at hc44
            have hce2 : ks[p + i - 1] = ks[p + i] := by exact hc44.symm
            rw [if_pos hce2] at hct2
            let t2 := t
            let rs2 := rs
            have ht2 : t2 ≤ t + 1 := Nat.le_succ _
            have hkr2 : K32 rs2 := hkr
            have hrl2 : rs2.length = ks.length := hrl
            have htk2 : rs2.take t2 = compK (ks.take (p + (i + 1))) := by rw [← Nat.add_assoc, hct2]; exact htk
            have hdr2 : rs2.drop (p + (i + 1) - 1) = ks.drop (p + (i + 1) - 1) := drop_more hdr (by omega)
            refine WE.skip ?_
            refine WE.reg ?_
            refine WL.mv rfl rfl ?_
            refine WL.pv (PV.eq (v' := .int .i64 ((i + 1 : Nat) : Int)) (PV.add64 rfl rfl rfl (by omega) (by omega)) (by rfl)) rfl ?_
            refine WL.as rfl rfl ?_
            refine WL.nil ?_
            exact ⟨(t2, i + 1, rs2), (by repeat (first | with_reducible exact Off.refl _ _ | refine Off.upd rfl ?_ | refine Off.setAll rfl ?_ | refine Off.forget' rfl ?_)), ⟨rfl, rfl, trivial⟩, rfl, ⟨⟨by dsimp only; omega, by dsimp only; omega, by dsimp only; omega⟩, ⟨hkr2, hrl2⟩, ⟨htk2, hdr2⟩, H⟩, (by dsimp only; omega)⟩
        · skip
          try simp only [decide_eq_true_eq, decide_eq_false_iff_not, ne_eq, Decidable.not_not, Bool.not_eq_true', Bool.not_eq_false', Bool.and_eq_true, Bool.or_eq_true, Bool.not_not, Bool.and_eq_false_iff, Bool.or_eq_false_iff, Int.not_lt, Int.not_le] at hc32
          have hqe : p + i = ks.length := by omega
          refine WE.exit ?_
          refine WE.seq_reg ?_
          refine WL.mv rfl rfl ?_
          refine WL.mv rfl rfl ?_
          refine WL.pv (PV.eq (v' := .slice (some ⟨g, t * 32, none⟩) (ks.length - t) (cap - t)) (PV.subL rfl (SlC.at0 (cap := cap) (H.o 0 rfl) hkr hrl hcap) TryT.sl38 TryT.sz24 rfl rfl (by omega) (by omega)) (subSl_eq (by omega))) rfl ?_
          have hSl := (SlC.at0 (cap := cap) (H.o 0 rfl) hkr hrl hcap)
          refine WL.clearO (sz := 32) (zl := _) H 0 TryT.sl38 TryT.ze24 (one_lit _ rfl) rfl rfl rfl (by omega) (by rw [List.length_append, flat_len _ hkr, hrl]; omega) rfl ?_
          intro w6 new hnl H
          refine WL.nil ?_
          refine WE.seq_reg ?_
          refine WL.mv rfl rfl ?_
          refine WL.mv rfl rfl ?_
          refine WL.pv (PV.eq (v' := .slice (some ⟨g, 0, none⟩) t cap) (PV.subH rfl hSl TryT.sl38 TryT.sz24 rfl rfl (by omega) (by omega)) (by have h_ := subSl_eq (g := g) (n := ks.length) (cap := cap) (lo := 0) (hi := t) (by omega); rw [Nat.zero_mul] at h_; exact h_)) rfl ?_
          refine WL.as rfl rfl ?_
          refine WL.nil ?_
          refine WE.ret ?_
          refine ⟨[_], _, .nil _, ⟨rfl, trivial⟩, ?_⟩
          have hck : rs.take t = compK ks := by have h_ := htk; rw [hqe, List.take_length] at h_; exact h_
          have hcl : (compK ks).length = t := by rw [← hck, List.length_take]; omega
          have hB_ := H.o 0 rfl
          have hB2_ := show Blk _ g _ _ from hB_
          rw [flat_takeN rs hkr t (by omega), hck, List.append_assoc] at hB2_
          rw [hcl]
          refine ⟨rfl, H.toOut.mono fun b _ ⟨_, he, hb⟩ => (by cases List.mem_singleton.1 he; exact hb), _, hB2_, ?_⟩
          rw [List.length_append, hnl, List.length_drop, List.length_append, flat_len _ hkr, hrl]; omega
      · skip
        try simp only [decide_eq_true_eq, decide_eq_false_iff_not, ne_eq, Decidable.not_not, Bool.not_eq_true', Bool.not_eq_false', Bool.and_eq_true, Bool.or_eq_true, Bool.not_not, Bool.and_eq_false_iff, Bool.or_eq_false_iff, Int.not_lt, Int.not_le] at hc25
        have hcn : ¬ ks[p - 1] = ks[p] := by intro h_; apply hc25; exact h_.symm
        rw [if_neg hcn, hcm, ← List.take_succ_eq_append_getElem hlt] at hct
        refine WE.skip ?_
        refine WE.reg ?_
        refine WL.mv rfl rfl ?_
        refine WL.pv (PV.eq (v' := .int .i64 ((p + 1 : Nat) : Int)) (PV.add64 rfl rfl rfl (by omega) (by omega)) (by rfl)) rfl ?_
        refine WL.as rfl rfl ?_
        refine WL.nil ?_
        exact ⟨p + 1, (by repeat (first | with_reducible exact Off.refl _ _ | refine Off.upd rfl ?_ | refine Off.setAll rfl ?_ | refine Off.forget' rfl ?_)), ⟨rfl, trivial⟩, rfl, ⟨by omega, by omega, hct, H⟩, (by omega)⟩
    · skip
      try simp only [decide_eq_true_eq, decide_eq_false_iff_not, ne_eq, Decidable.not_not, Bool.not_eq_true', Bool.not_eq_false', Bool.and_eq_true, Bool.or_eq_true, Bool.not_not, Bool.and_eq_false_iff, Bool.or_eq_false_iff, Int.not_lt, Int.not_le] at hc13
      have hpe : p = ks.length := by omega
      refine WE.exit ?_
      refine WE.seq_reg ?_
      refine WL.mv rfl rfl ?_
      refine WL.as rfl rfl ?_
      refine WL.nil ?_
      refine WE.ret ?_
      refine ⟨[_], _, .nil _, ⟨rfl, trivial⟩, ?_⟩
      have hck : compK ks = ks := by rw [hpe, List.take_length] at hcm; exact hcm
      rw [hck]
      exact ⟨rfl, H.toOut.mono fun b _ ⟨_, he, hb⟩ => (by cases List.mem_singleton.1 he; exact hb), rest, H.o 0 rfl, rfl⟩

end Go.Sp.Try
