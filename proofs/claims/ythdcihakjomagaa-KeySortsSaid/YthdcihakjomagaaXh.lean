/- Walks of functions, printed by a program of this session (gen.py) from notes on each function. -/
import Derived.Test.YthdcihakjomagaaXg
set_option maxRecDepth 100000
set_option maxHeartbeats 1000000
set_option linter.unusedVariables false
set_option linter.unusedSimpArgs false
namespace Go.Sp.Try
open Go.Proofs Go.RowKit Go.Sp

/-! the reference's sort -/
def midK (x : List UInt8) (s : List (List UInt8) × Bool) (y : List UInt8) : List (List UInt8) × Bool :=
  if 0 < cmpI y x ∧ (s.2 || decide (cmpI y x = 0)) = false then (s.1 ++ [x], true) else (s.1, s.2 || decide (cmpI y x = 0))
def stK (x : List UInt8) (s : List (List UInt8) × Bool) (y : List UInt8) : List (List UInt8) × Bool := ((midK x s y).1 ++ [y], (midK x s y).2)
def finK (x : List UInt8) (s : List (List UInt8) × Bool) : List (List UInt8) := if s.2 then s.1 else s.1 ++ [x]
def SK (o : List (List UInt8)) (x : List UInt8) (j : Nat) : List (List UInt8) × Bool := (o.take j).foldl (stK x) ([], false)
theorem SK_snoc {o : List (List UInt8)} {x : List UInt8} {j : Nat} (h : j < o.length) : SK o x (j + 1) = stK x (SK o x j) o[j] := by
  unfold SK
  rw [List.take_succ_eq_append_getElem h, List.foldl_append]; rfl
def insR (x : List UInt8) : List (List UInt8) → List (List UInt8)
  | [] => [x]
  | y :: r => if cmpI y x = 0 then y :: r else if 0 < cmpI y x then x :: y :: r else y :: insR x r
def sortR (ks : List (List UInt8)) : List (List UInt8) := ks.foldl (fun o x => insR x o) []
theorem stK_done (x : List UInt8) : ∀ (out acc : List (List UInt8)), out.foldl (stK x) (acc, true) = (acc ++ out, true)
  | [], acc => by simp
  | y :: r, acc => by
    have e : stK x (acc, true) y = (acc ++ [y], true) := by simp [stK, midK]
    rw [List.foldl_cons, e, stK_done x r, List.append_assoc]; rfl
theorem stK_ins (x : List UInt8) : ∀ (out acc : List (List UInt8)), finK x (out.foldl (stK x) (acc, false)) = acc ++ insR x out
  | [], acc => by simp [finK, insR]
  | y :: r, acc => by
    rw [List.foldl_cons]
    by_cases h0 : cmpI y x = 0
    · have e : stK x (acc, false) y = (acc ++ [y], true) := by simp [stK, midK, h0]
      rw [e, stK_done]
      simp [finK, insR, h0]
    · by_cases h1 : 0 < cmpI y x
      · have e : stK x (acc, false) y = (acc ++ [x] ++ [y], true) := by simp [stK, midK, h0, h1]
        rw [e, stK_done]
        simp [finK, insR, h0, h1]
      · have e : stK x (acc, false) y = (acc ++ [y], false) := by simp [stK, midK, h0, h1]
        rw [e, stK_ins x r]
        simp [insR, h0, h1]
theorem SK_fin (o : List (List UInt8)) (x : List UInt8) : finK x (SK o x o.length) = insR x o := by
  unfold SK
  rw [List.take_length, stK_ins]; rfl
theorem SK_len (o : List (List UInt8)) (x : List UInt8) : ∀ j, (SK o x j).1.length ≤ 2 * j := by
  intro j
  have h : ∀ (l : List (List UInt8)) (s : List (List UInt8) × Bool), (l.foldl (stK x) s).1.length ≤ s.1.length + 2 * l.length := by
    intro l
    induction l with
    | nil => intro s; simp
    | cons y l ih =>
      intro s
      rw [List.foldl_cons]
      have h1 := ih (stK x s y)
      have h2 : (stK x s y).1.length ≤ s.1.length + 2 := by
        unfold stK midK
        split <;> simp
      rw [List.length_cons]; omega
  have := h (o.take j) ([], false)
  rw [List.length_take] at this
  unfold SK
  simp at this ⊢
  omega
theorem insR_len (x : List UInt8) : ∀ o : List (List UInt8), (insR x o).length ≤ o.length + 1
  | [] => by simp [insR]
  | y :: r => by
    have := insR_len x r
    unfold insR
    split
    · simp
    · split
      · simp
      · rw [List.length_cons, List.length_cons]; omega
theorem sortR_snoc {ks : List (List UInt8)} {i : Nat} (h : i < ks.length) : sortR (ks.take (i + 1)) = insR ks[i] (sortR (ks.take i)) := by
  unfold sortR
  rw [List.take_succ_eq_append_getElem h, List.foldl_append]; rfl
theorem sortR_len (ks : List (List UInt8)) : ∀ i, i ≤ ks.length → (sortR (ks.take i)).length ≤ i
  | 0, _ => by simp [sortR]
  | i + 1, h => by
    rw [sortR_snoc (by omega)]
    have h1 := insR_len ks[i] (sortR (ks.take i))
    have h2 := sortR_len ks i (by omega)
    omega
theorem cmpI_zero {a b : List UInt8} : cmpI a b = 0 ↔ num a = num b := by
  unfold cmpI
  by_cases h : num a < num b
  · simp [h]; omega
  · by_cases h2 : num b < num a
    · simp [h, h2]; omega
    · simp [h, h2]; omega
theorem cmpI_pos {a b : List UInt8} : 0 < cmpI a b ↔ num b < num a := by
  unfold cmpI
  by_cases h : num a < num b
  · simp [h]; omega
  · by_cases h2 : num b < num a
    · simp [h, h2]
    · simp [h, h2]
abbrev LtK (l : List (List UInt8)) : Prop := l.Pairwise fun a b => num a < num b
theorem insR_mem (x : List UInt8) : ∀ (o : List (List UInt8)), K32 o → x.length = 32 → ∀ z, z ∈ insR x o ↔ z = x ∨ z ∈ o
  | [], _, _, z => by simp [insR]
  | y :: r, hk, hx, z => by
    have ih := insR_mem x r (fun k h => hk k (List.mem_cons_of_mem _ h)) hx z
    unfold insR
    split
    · rename_i h0
      have e : y = x := num_inj _ _ (by rw [hx, hk y (by simp)]) (cmpI_zero.1 h0)
      rw [e]; simp
    · split
      · simp
      · rw [List.mem_cons, ih, List.mem_cons]
        constructor
        · rintro (h | h | h)
          · exact .inr (.inl h)
          · exact .inl h
          · exact .inr (.inr h)
        · rintro (h | h | h)
          · exact .inr (.inl h)
          · exact .inl h
          · exact .inr (.inr h)
theorem insR_lt (x : List UInt8) : ∀ (o : List (List UInt8)), K32 o → x.length = 32 → LtK o → LtK (insR x o)
  | [], _, _, _ => by simp [insR]
  | y :: r, hk, hx, h => by
    have h1 := List.pairwise_cons.1 h
    have hkr : K32 r := fun k h => hk k (List.mem_cons_of_mem _ h)
    unfold insR
    split
    · exact h
    · rename_i h0
      split
      · rename_i h2
        have h3 := cmpI_pos.1 h2
        refine List.pairwise_cons.2 ⟨fun z hz => ?_, h⟩
        rcases List.mem_cons.1 hz with rfl | hz
        · exact h3
        · have := h1.1 z hz; omega
      · rename_i h2
        have h3 : num y < num x := by
          have e1 : ¬ num x < num y := fun hh => h2 (cmpI_pos.2 hh)
          have e2 : ¬ num y = num x := fun hh => h0 (cmpI_zero.2 hh)
          omega
        refine List.pairwise_cons.2 ⟨fun z hz => ?_, insR_lt x r hkr hx h1.2⟩
        rcases (insR_mem x r hkr hx z).1 hz with rfl | hz
        · exact h3
        · exact h1.1 z hz
theorem sortR_ok (ks : List (List UInt8)) (hk : K32 ks) : ∀ i, i ≤ ks.length → LtK (sortR (ks.take i)) ∧ K32 (sortR (ks.take i)) ∧ ∀ z, z ∈ sortR (ks.take i) ↔ z ∈ ks.take i
  | 0, _ => ⟨.nil, (fun _ h => by cases h), fun z => by simp [sortR]⟩
  | i + 1, h => by
    obtain ⟨h1, h2, h3⟩ := sortR_ok ks hk i (by omega)
    have hx := hk _ (List.getElem_mem (show i < ks.length by omega))
    have hm := insR_mem ks[i] _ h2 hx
    rw [sortR_snoc (by omega)]
    refine ⟨insR_lt _ _ h2 hx h1, fun z hz => ?_, fun z => ?_⟩
    · rcases (hm z).1 hz with rfl | hz
      · exact hx
      · exact h2 z hz
    · rw [hm, h3, List.take_succ_eq_append_getElem (by omega), List.mem_append, List.mem_singleton, or_comm]
theorem sortR_full (ks : List (List UInt8)) (hk : K32 ks) : LtK (sortR ks) ∧ K32 (sortR ks) ∧ ∀ z, z ∈ sortR ks ↔ z ∈ ks := by
  have := sortR_ok ks hk ks.length (Nat.le_refl _)
  rwa [List.take_length] at this
theorem lt_uniq : ∀ (a b : List (List UInt8)), LtK a → LtK b → (∀ z, z ∈ a ↔ z ∈ b) → a = b
  | [], [], _, _, _ => rfl
  | [], y :: b, _, _, h => by have := (h y).2 (by simp); cases this
  | x :: a, [], _, _, h => by have := (h x).1 (by simp); cases this
  | x :: a, y :: b, ha, hb, h => by
    have ha' := List.pairwise_cons.1 ha
    have hb' := List.pairwise_cons.1 hb
    have e : x = y := by
      rcases List.mem_cons.1 ((h x).1 (by simp)) with h1 | h1
      · exact h1
      · rcases List.mem_cons.1 ((h y).2 (by simp)) with h2 | h2
        · exact h2.symm
        · have h3 := ha'.1 y h2
          have h4 := hb'.1 x h1
          omega
    subst e
    congr 1
    refine lt_uniq a b ha'.2 hb'.2 fun z => ⟨fun hz => ?_, fun hz => ?_⟩
    · rcases List.mem_cons.1 ((h z).1 (List.mem_cons_of_mem _ hz)) with rfl | h1
      · have := ha'.1 z hz; omega
      · exact h1
    · rcases List.mem_cons.1 ((h z).2 (List.mem_cons_of_mem _ hz)) with rfl | h1
      · have := hb'.1 z hz; omega
      · exact h1
theorem compK_lt : ∀ (l : List (List UInt8)), K32 l → l.Pairwise (fun a b => num a ≤ num b) → LtK (compK l)
  | [], _, _ => by simp [compK]
  | [a], _, _ => by simp [compK]
  | a :: b :: r, hk, h => by
    have h1 := List.pairwise_cons.1 h
    have ih := compK_lt (b :: r) (fun k hk' => hk k (List.mem_cons_of_mem _ hk')) h1.2
    rw [compK_cons2]
    split
    · exact ih
    · rename_i hne
      refine List.pairwise_cons.2 ⟨fun z hz => ?_, ih⟩
      have hz' := (compK_mem _ z).1 hz
      have h2 := h1.1 b (by simp)
      have h3 : num a ≠ num b := fun e => hne (num_inj _ _ (by rw [hk a (by simp), hk b (by simp)]) e)
      rcases List.mem_cons.1 hz' with rfl | hz'
      · omega
      · have := (List.pairwise_cons.1 h1.2).1 z hz'; omega
theorem sortL_le (ks : List (List UInt8)) : (sortL ks).Pairwise (fun a b => num a ≤ num b) := by
  have := List.pairwise_mergeSort (le := fun a b => decide (num a ≤ num b)) (fun a b c h1 h2 => by simp at *; omega) (fun a b => by simp; omega) ks
  exact this.imp fun h => by simpa using h
theorem sort_eq (ks : List (List UInt8)) (hk : K32 ks) : compK (sortL ks) = sortR ks := by
  obtain ⟨h1, h2, h3⟩ := sortR_full ks hk
  exact lt_uniq _ _ (compK_lt _ (sortL_k32 hk) (sortL_le ks)) h1 fun z => by
    rw [compK_mem, h3]; exact (List.mergeSort_perm _ _).mem_iff
theorem chkK_lt : ∀ (l : List (List UInt8)), LtK l → chkK l = 0
  | [], _ => rfl
  | [a], _ => rfl
  | a :: b :: r, h => by
    have h1 := List.pairwise_cons.1 h
    have h2 := h1.1 b (by simp)
    have e1 : ¬ cmpI a b = 0 := fun e => by have := cmpI_zero.1 e; omega
    have e2 : ¬ 0 < cmpI a b := fun e => by have := cmpI_pos.1 e; omega
    show (if cmpI a b = 0 then 9 else if 0 < cmpI a b then 8 else chkK (b :: r)) = 0
    rw [if_neg e1, if_neg e2]
    exact chkK_lt (b :: r) h1.2

theorem refSort_c {X : Nat → Prop} {w : World} {s : Value} {ks : List (List UInt8)} (hX : ∀ b, X b → b < w.heap.size) (hf0 : Rob X (SlK s ks) w) (hkl : K32 ks) (hlen : ks.length ≤ 1000000) :
    Ret Try.prog 19 [s].toArray w fun v w' => Out Nil w w' ∧ w'.ownsRow w.heap.size 24 32 v (sortR ks).length ((sortR ks).flatMap kc) := by
  refine Ret.of_body (N := 63) Try.func19 rfl rfl (by simp) ?_
  have H := St.begin hX
  replace H := H.add (rob0 hf0)
  refine WE.seq_reg ?_
  refine WL.as rfl rfl ?_
  refine WL.nil ?_
  refine WE.seq_reg ?_
  refine WL.as rfl rfl ?_
  refine WL.nil ?_
  refine WE.seq ?_
  refine WE.seq_reg ?_
  refine WL.as rfl rfl ?_
  refine WL.nil ?_
  refine WE.block ?_
  replace H := H.nilOsl 24 32
  refine WE.loop (α := Nat × Value) [3, 4, 5, 6, 7, 8, 9, 10, 11, 12, 13, 14, 15, 16, 17, 18, 19, 20, 21, 22, 23, 24, 25, 26, 27, 28, 29, 30, 31, 32, 33, 34, 35, 36, 37, 38, 39, 40, 41, 42, 43, 44, 45, 46, 47, 48, 49, 50, 51, 52, 53, 54, 55, 56, 57, 58, 59, 60, 61] (fun p => [(4, .int .i64 p.1), (3, p.2)]) (fun p wl => p.1 ≤ ks.length ∧ St X w wl [] [Ent.osl w.heap.size p.2 24 32 ((sortR (ks.take p.1)).length) ((sortR (ks.take p.1)).flatMap kc)] [SlK s ks]) (fun p => ks.length - p.1) (0, .slice none 0 0) ⟨rfl, rfl, trivial⟩ ⟨Nat.zero_le _, H⟩ ?_
  intro ⟨i, ov⟩ γ0 w1 hI
  try dsimp only at hI
  obtain ⟨hi, H⟩ := hI
  refine WE.seq ?_
  refine WE.seq_reg ?_
  refine WL.mv rfl rfl ?_
  refine WL.mv rfl rfl ?_
  refine WL.pv (PV.lenS (H.p 0 rfl : SlK s ks _) TryT.sl38 rfl) rfl ?_
  refine WL.pv (PV.lss rfl rfl rfl) rfl ?_
  refine WL.nil ?_
  refine WE.cond rfl (fun hc12 => ?_) (fun hc12 => ?_)
  · skip
    try simp only [decide_eq_true_eq, decide_eq_false_iff_not, ne_eq, Decidable.not_not, Bool.not_eq_true', Bool.not_eq_false', Bool.and_eq_true, Bool.or_eq_true, Bool.not_not, Bool.and_eq_false_iff, Bool.or_eq_false_iff, Int.not_lt, Int.not_le] at hc12
    have hil : i < ks.length := by omega
    have hki := hkl _ (List.getElem_mem hil)
    have hok := sortR_ok ks hkl i hi
    have hol := sortR_len ks i hi
    have hsn := sortR_snoc hil
    refine WE.skip ?_
    refine WE.seq ?_
    refine WE.block ?_
    refine WE.seq_reg ?_
    refine WL.as rfl rfl ?_
    refine WL.nil ?_
    refine WE.seq_reg ?_
    refine WL.as rfl rfl ?_
    refine WL.nil ?_
    refine WE.seq ?_
    refine WE.seq_reg ?_
    refine WL.as rfl rfl ?_
    refine WL.nil ?_
    refine WE.block ?_
    replace H := H.nilOsl 24 32
    refine WE.loop (α := Nat × Value) [5, 6, 7, 8, 15, 16, 17, 18, 19, 20, 21, 22, 23, 24, 25, 26, 27, 28, 29, 30, 31, 32, 33, 34, 35, 36, 37, 38, 39, 40, 41, 42, 43, 44, 45, 46, 47, 48, 49, 50, 51] (fun q => [(7, .int .i64 q.1), (5, q.2), (6, .bool (SK (sortR (ks.take i)) ks[i] q.1).2)]) (fun q wl => q.1 ≤ (sortR (ks.take i)).length ∧ St X w wl [] [Ent.osl w.heap.size q.2 24 32 (((SK (sortR (ks.take i)) ks[i] q.1).1).length) (((SK (sortR (ks.take i)) ks[i] q.1).1).flatMap kc), Ent.osl w.heap.size ov 24 32 (((sortR (ks.take i))).length) (((sortR (ks.take i))).flatMap kc)] [SlK s ks]) (fun q => (sortR (ks.take i)).length - q.1) (0, .slice none 0 0) ⟨rfl, rfl, rfl, trivial⟩ ⟨Nat.zero_le _, H⟩ ?_
    intro ⟨j, nv⟩ γ1 w2 hI
    try dsimp only at hI
    obtain ⟨hj, H⟩ := hI
    refine WE.seq ?_
    refine WE.seq_reg ?_
    refine WL.mv rfl rfl ?_
    refine WL.mv rfl rfl ?_
    refine WL.pv (PV.lenS (show SlK ov (sortR (ks.take i)) _ from SlC.of_own (by exact H.l 1 rfl)) TryT.sl38 rfl) rfl ?_
    refine WL.pv (PV.lss rfl rfl rfl) rfl ?_
    refine WL.nil ?_
    refine WE.cond rfl (fun hc18 => ?_) (fun hc18 => ?_)
    · skip
      try simp only [decide_eq_true_eq, decide_eq_false_iff_not, ne_eq, Decidable.not_not, Bool.not_eq_true', Bool.not_eq_false', Bool.and_eq_true, Bool.or_eq_true, Bool.not_not, Bool.and_eq_false_iff, Bool.or_eq_false_iff, Int.not_lt, Int.not_le] at hc18
      have hlt : j < (sortR (ks.take i)).length := by omega
      have hkj := hok.2.1 _ (List.getElem_mem hlt)
      have hsl := SK_len (sortR (ks.take i)) ks[i] j
      have hsk := SK_snoc (x := ks[i]) hlt
      refine WE.skip ?_
      refine WE.seq ?_
      refine WE.block ?_
      refine WE.seq_draw (.take 0 (.take 1 (.take 2 (.take 3 (.take 4 (.take 5 (.take 6 (.take 7 (.pick1 8 (.take 9 .done)))))))))) TryT.mixed (by kernel_rfl) ?_
      replace H := H.out (Out.drew _)
      refine WP.mv rfl rfl rfl ?_
      refine WP.mv rfl rfl rfl ?_
      refine WP.take_pure rfl rfl (PV.idxS rfl (show SlK ov (sortR (ks.take i)) _ from SlC.of_own (by exact H.l 1 rfl)) TryT.sl38 TryT.sz24 rfl rfl (by omega) (by omega)) ?_
      refine WP.readA rfl rfl rfl TryT.ag24 rfl (SlK.rd (show SlK ov (sortR (ks.take i)) _ from SlC.of_own (by exact H.l 1 rfl)) hok.2.1 j hlt) (by (rw [TryT.sz24]; refine congrArg some ?_; (simp only [kc_length, kw_length, List.length_replicate, List.length_append, List.length_cons, List.length_nil]; omega))) ?_
      refine WP.mv rfl rfl rfl ?_
      refine WP.mv rfl rfl rfl ?_
      refine WP.take_pure rfl rfl (PV.idxS rfl (H.p 0 rfl : SlK s ks _) TryT.sl38 TryT.sz24 rfl rfl (by omega) (by omega)) ?_
      refine WP.readA rfl rfl rfl TryT.ag24 rfl (SlK.rd (H.p 0 rfl : SlK s ks _) hkl i hil) (by (rw [TryT.sz24]; refine congrArg some ?_; (simp only [kc_length, kw_length, List.length_replicate, List.length_append, List.length_cons, List.length_nil]; omega))) ?_
      refine WP.pick1 rfl ?_
      refine WL.call TryT.fb31 rfl (refCompare_c (k := (sortR (ks.take i))[j]) (l := ks[i]) H.yylt  hkj hki) ?_
      rintro _ w3 ⟨rfl, hO⟩
      replace H := H.out hO
      refine WL.nil ⟨(List.forall_mem_cons.2 ⟨(by exact (fun h => absurd (show waits _ 8 7 = false from h) (by decide +kernel))), (List.forall_mem_cons.2 ⟨(by exact (fun h => absurd (show waits _ 8 3 = false from h) (by decide +kernel))), (fun _ h => by cases h)⟩)⟩), ?_⟩
      refine WP.as rfl rfl rfl ?_
      refine WP.done ?_
      refine WE.cut (α := Unit) [6, 30, 31] (fun _ => [(6, .bool ((SK (sortR (ks.take i)) ks[i] j).2 || decide (cmpI (sortR (ks.take i))[j] ks[i] = 0)))]) (fun _ wl => St X w wl [] [Ent.osl w.heap.size nv 24 32 (((SK (sortR (ks.take i)) ks[i] j).1).length) (((SK (sortR (ks.take i)) ks[i] j).1).flatMap kc), Ent.osl w.heap.size ov 24 32 (((sortR (ks.take i))).length) (((sortR (ks.take i))).flatMap kc)] [SlK s ks]) ?_ ?_
      · skip
        refine WE.seq_reg ?_
        refine WL.mv rfl rfl ?_
        refine WL.pv (PV.eql rfl rfl rfl) rfl ?_
        refine WL.nil ?_
        refine WE.cond rfl (fun hc31 => ?_) (fun hc31 => ?_)
        · skip
          try simp only [decide_eq_true_eq, decide_eq_false_iff_not, ne_eq, Decidable.not_not, Bool.not_eq_true', Bool.not_eq_false', Bool.and_eq_true, Bool.or_eq_true, Bool.not_not, Bool.and_eq_false_iff, Bool.or_eq_false_iff, Int.not_lt, Int.not_le] at hc31
          have hz : cmpI (sortR (ks.take i))[j] ks[i] = 0 := by exact hc31
          refine WE.reg ?_
          refine WL.as rfl rfl ?_
          refine WL.nil ?_
          exact ⟨(), (by repeat (first | with_reducible exact Off.refl _ _ | refine Off.upd rfl ?_)), ⟨(by (show Value.bool true = _; congr 1; simp [hz])), trivial⟩, rfl, H⟩
        · skip
          try simp only [decide_eq_true_eq, decide_eq_false_iff_not, ne_eq, Decidable.not_not, Bool.not_eq_true', Bool.not_eq_false', Bool.and_eq_true, Bool.or_eq_true, Bool.not_not, Bool.and_eq_false_iff, Bool.or_eq_false_iff, Int.not_lt, Int.not_le] at hc31
          have hz : ¬ cmpI (sortR (ks.take i))[j] ks[i] = 0 := by exact hc31
          refine WE.skip ?_
          exact ⟨(), (by repeat (first | with_reducible exact Off.refl _ _ | refine Off.upd rfl ?_)), ⟨(by (show Value.bool (SK (sortR (ks.take i)) ks[i] j).2 = _; congr 1; simp [hz])), trivial⟩, rfl, H⟩
      · skip
        intro _ γ w4 hI
        try dsimp only at hI
        replace H := hI
        refine WE.cut (α := Value × Bool) [5, 6, 32, 33, 34, 35, 36, 37, 38, 39, 40, 41, 42, 43, 44] (fun g1_ => [(5, g1_.1), (6, .bool g1_.2)]) (fun g1_ wl => g1_.2 = (midK ks[i] (SK (sortR (ks.take i)) ks[i] j) (sortR (ks.take i))[j]).2 ∧ St X w wl [] [Ent.osl w.heap.size g1_.1 24 32 (((midK ks[i] (SK (sortR (ks.take i)) ks[i] j) (sortR (ks.take i))[j]).1).length) (((midK ks[i] (SK (sortR (ks.take i)) ks[i] j) (sortR (ks.take i))[j]).1).flatMap kc), Ent.osl w.heap.size ov 24 32 (((sortR (ks.take i))).length) (((sortR (ks.take i))).flatMap kc)] [SlK s ks]) ?_ ?_
        · skip
          refine WE.seq_reg ?_
          refine WL.mv rfl rfl ?_
          refine WL.pv (PV.gtr rfl rfl rfl) rfl ?_
          refine WL.mv rfl rfl ?_
          refine WL.split (t := 34) rfl (fun hg34 => ?_) (fun hg34 => ?_)
          · skip
            refine WL.known (t := 33) (c := true) rfl hg34 ?_
            try simp only [decide_eq_true_eq, decide_eq_false_iff_not, ne_eq, Decidable.not_not, Bool.not_eq_true', Bool.not_eq_false', Bool.and_eq_true, Bool.or_eq_true, Bool.not_not, Bool.and_eq_false_iff, Bool.or_eq_false_iff, Int.not_lt, Int.not_le] at hg34
            refine WL.mv rfl rfl ?_
            refine WL.pv (PV.not rfl rfl) rfl ?_
            refine WL.pv (PV.pick_t rfl rfl rfl) rfl ?_
            refine WL.nil ?_
            refine WE.cond rfl (fun hc37 => ?_) (fun hc37 => ?_)
            · skip
              try simp only [decide_eq_true_eq, decide_eq_false_iff_not, ne_eq, Decidable.not_not, Bool.not_eq_true', Bool.not_eq_false', Bool.and_eq_true, Bool.or_eq_true, Bool.not_not, Bool.and_eq_false_iff, Bool.or_eq_false_iff, Int.not_lt, Int.not_le] at hc37
              have hmd : (midK ks[i] (SK (sortR (ks.take i)) ks[i] j) (sortR (ks.take i))[j]) = ((SK (sortR (ks.take i)) ks[i] j).1 ++ [ks[i]], true) := by unfold midK; exact if_pos ⟨by exact hg34, by simpa using hc37⟩
              have hS : (midK ks[i] (SK (sortR (ks.take i)) ks[i] j) (sortR (ks.take i))[j]).1 = (SK (sortR (ks.take i)) ks[i] j).1 ++ [ks[i]] := by rw [hmd]
              refine WE.seq_reg ?_
              refine WL.mv rfl rfl ?_
              refine WL.mv rfl rfl ?_
              refine WL.mv rfl rfl ?_
              refine WL.pv (PV.idxS rfl (H.p 0 rfl : SlK s ks _) TryT.sl38 TryT.sz24 rfl rfl (by omega) (by omega)) rfl ?_
              refine WL.loadR rfl TryT.ag24 rfl rfl (SlK.rd (H.p 0 rfl : SlK s ks _) hkl i hil) (by (rw [TryT.sz24]; refine congrArg some ?_; (simp only [kc_length, kw_length, List.length_replicate, List.length_append, List.length_cons, List.length_nil]; omega))) ?_
              refine WL.buildSliceF (l0 := (kc (List.replicate 32 0))) H rfl TryT.st38 (by decide) (by rfl) (Fl.cons rfl (by rfl) (by (simp only [kc_length, kw_length, List.length_replicate, List.length_append, List.length_cons, List.length_nil]; omega)) (Laid.all (by (simp only [kc_length, kw_length, List.length_replicate, List.length_append, List.length_cons, List.length_nil]; omega))) Fl.nil) rfl ?_
              intro b43 w5 H
              refine WL.append (m := 1) H 1 TryT.st38 (by decide) rfl rfl rfl (SlC.of_blk (n := 1) (H.l 0 rfl) (by rw [kc_length]; exact hki)) (kc_one _) (by omega) (by decide) rfl ?_
              intro v44 w6 H
              have hSl := congrArg List.length hS
              rw [List.length_append, List.length_singleton] at hSl
              have hSf := congrArg (List.flatMap kc) hS
              rw [List.flatMap_append, List.flatMap_singleton] at hSf
              replace H := H.forget 0
              replace H := H.conv (L' := [Ent.osl w.heap.size v44 24 32 (((midK ks[i] (SK (sortR (ks.take i)) ks[i] j) (sortR (ks.take i))[j]).1).length) (((midK ks[i] (SK (sortR (ks.take i)) ks[i] j) (sortR (ks.take i))[j]).1).flatMap kc), Ent.osl w.heap.size ov 24 32 (((sortR (ks.take i))).length) (((sortR (ks.take i))).flatMap kc)]) (by rw [hSl, hSf]; rfl)
              refine WL.as rfl rfl ?_
              refine WL.nil ?_
              refine WE.reg ?_
              refine WL.as rfl rfl ?_
              refine WL.nil ?_
              exact ⟨(v44, true), (by repeat (first | with_reducible exact Off.refl _ _ | refine Off.upd rfl ?_)), ⟨rfl, rfl, trivial⟩, rfl, ⟨by rw [hmd], H⟩⟩
            · skip
              try simp only [decide_eq_true_eq, decide_eq_false_iff_not, ne_eq, Decidable.not_not, Bool.not_eq_true', Bool.not_eq_false', Bool.and_eq_true, Bool.or_eq_true, Bool.not_not, Bool.and_eq_false_iff, Bool.or_eq_false_iff, Int.not_lt, Int.not_le] at hc37
              have hmd : (midK ks[i] (SK (sortR (ks.take i)) ks[i] j) (sortR (ks.take i))[j]) = ((SK (sortR (ks.take i)) ks[i] j).1, (SK (sortR (ks.take i)) ks[i] j).2 || decide (cmpI (sortR (ks.take i))[j] ks[i] = 0)) := by unfold midK; exact if_neg (by rintro ⟨_, h2_⟩; simp at h2_; rcases hc37 with h_ | h_; exact absurd (h2_.1.symm.trans h_) (by simp); exact h2_.2 h_)
              refine WE.skip ?_
              exact ⟨(nv, (SK (sortR (ks.take i)) ks[i] j).2 || decide (cmpI (sortR (ks.take i))[j] ks[i] = 0)), (by repeat (first | with_reducible exact Off.refl _ _ | refine Off.upd rfl ?_)), ⟨rfl, rfl, trivial⟩, rfl, ⟨by rw [hmd], H.conv (by rw [hmd])⟩⟩
          · skip
            refine WL.known (t := 33) (c := false) rfl hg34 ?_
            try simp only [decide_eq_true_eq, decide_eq_false_iff_not, ne_eq, Decidable.not_not, Bool.not_eq_true', Bool.not_eq_false', Bool.and_eq_true, Bool.or_eq_true, Bool.not_not, Bool.and_eq_false_iff, Bool.or_eq_false_iff, Int.not_lt, Int.not_le] at hg34
            have hmd : (midK ks[i] (SK (sortR (ks.take i)) ks[i] j) (sortR (ks.take i))[j]) = ((SK (sortR (ks.take i)) ks[i] j).1, (SK (sortR (ks.take i)) ks[i] j).2 || decide (cmpI (sortR (ks.take i))[j] ks[i] = 0)) := by unfold midK; exact if_neg (by rintro ⟨h1_, _⟩; omega)
            refine WL.off rfl ?_
            refine WL.off rfl ?_
            refine WL.pv (PV.pick_f rfl rfl rfl) rfl ?_
            refine WL.nil ?_
            refine WE.cond_f rfl ?_
            refine WE.skip ?_
            exact ⟨(nv, (SK (sortR (ks.take i)) ks[i] j).2 || decide (cmpI (sortR (ks.take i))[j] ks[i] = 0)), (by repeat (first | with_reducible exact Off.refl _ _ | refine Off.upd rfl ?_)), ⟨rfl, rfl, trivial⟩, rfl, ⟨by rw [hmd], H.conv (by rw [hmd])⟩⟩
        · skip
          intro ⟨g1v, g1b⟩ γ w7 hI
          try dsimp only at hI
          obtain ⟨hg12, H⟩ := hI
          have hPS : (SK (sortR (ks.take i)) ks[i] (j + 1)).2 = (midK ks[i] (SK (sortR (ks.take i)) ks[i] j) (sortR (ks.take i))[j]).2 := by rw [hsk]; rfl
          try dsimp only at hg12
          rw [← hPS] at hg12
          subst hg12
          refine WE.reg ?_
          refine WL.mv rfl rfl ?_
          refine WL.mv rfl rfl ?_
          refine WL.mv rfl rfl ?_
          refine WL.pv (PV.idxS rfl (show SlK ov (sortR (ks.take i)) _ from SlC.of_own (by exact H.l 1 rfl)) TryT.sl38 TryT.sz24 rfl rfl (by omega) (by omega)) rfl ?_
          refine WL.loadR rfl TryT.ag24 rfl rfl (SlK.rd (show SlK ov (sortR (ks.take i)) _ from SlC.of_own (by exact H.l 1 rfl)) hok.2.1 j hlt) (by (rw [TryT.sz24]; refine congrArg some ?_; (simp only [kc_length, kw_length, List.length_replicate, List.length_append, List.length_cons, List.length_nil]; omega))) ?_
          refine WL.buildSliceF (l0 := (kc (List.replicate 32 0))) H rfl TryT.st38 (by decide) (by rfl) (Fl.cons rfl (by rfl) (by (simp only [kc_length, kw_length, List.length_replicate, List.length_append, List.length_cons, List.length_nil]; omega)) (Laid.all (by (simp only [kc_length, kw_length, List.length_replicate, List.length_append, List.length_cons, List.length_nil]; omega))) Fl.nil) rfl ?_
          intro b50 w8 H
          have hS : (SK (sortR (ks.take i)) ks[i] (j + 1)).1 = (midK ks[i] (SK (sortR (ks.take i)) ks[i] j) (sortR (ks.take i))[j]).1 ++ [(sortR (ks.take i))[j]] := by rw [hsk]; rfl
          have hml : (midK ks[i] (SK (sortR (ks.take i)) ks[i] j) (sortR (ks.take i))[j]).1.length ≤ 2 * j + 1 := by unfold midK; split <;> (dsimp only; try rw [List.length_append, List.length_singleton]) <;> omega
          refine WL.append (m := 1) H 1 TryT.st38 (by decide) rfl rfl rfl (SlC.of_blk (n := 1) (H.l 0 rfl) (by rw [kc_length]; exact hkj)) (kc_one _) (by omega) (by decide) rfl ?_
          intro v51 w9 H
          have hSl := congrArg List.length hS
          rw [List.length_append, List.length_singleton] at hSl
          have hSf := congrArg (List.flatMap kc) hS
          rw [List.flatMap_append, List.flatMap_singleton] at hSf
          replace H := H.forget 0
          replace H := H.conv (L' := [Ent.osl w.heap.size v51 24 32 (((SK (sortR (ks.take i)) ks[i] (j + 1)).1).length) (((SK (sortR (ks.take i)) ks[i] (j + 1)).1).flatMap kc), Ent.osl w.heap.size ov 24 32 (((sortR (ks.take i))).length) (((sortR (ks.take i))).flatMap kc)]) (by rw [hSl, hSf]; rfl)
          refine WL.as rfl rfl ?_
          refine WL.nil ?_
          refine WE.reg ?_
          refine WL.mv rfl rfl ?_
          refine WL.pv (PV.add64 rfl rfl rfl (by omega) (by omega)) rfl ?_
          refine WL.as rfl rfl ?_
          refine WL.nil ?_
          exact ⟨(j + 1, v51), (by repeat (first | with_reducible exact Off.refl _ _ | refine Off.upd rfl ?_ | refine Off.setAll rfl ?_ | refine Off.forget' rfl ?_)), ⟨rfl, rfl, rfl, trivial⟩, rfl, ⟨by dsimp only; omega, H⟩, (by dsimp only; omega)⟩
    · skip
      try simp only [decide_eq_true_eq, decide_eq_false_iff_not, ne_eq, Decidable.not_not, Bool.not_eq_true', Bool.not_eq_false', Bool.and_eq_true, Bool.or_eq_true, Bool.not_not, Bool.and_eq_false_iff, Bool.or_eq_false_iff, Int.not_lt, Int.not_le] at hc18
      have hje : j = (sortR (ks.take i)).length := by omega
      have hfin := SK_fin (sortR (ks.take i)) ks[i]
      rw [← hje] at hfin
      have hsl := SK_len (sortR (ks.take i)) ks[i] j
      refine WE.exit ?_
      refine WE.cut (α := Value) [5, 52, 53, 54, 55, 56, 57, 58, 59, 60] (fun g1_ => [(5, g1_)]) (fun g1_ wl => St X w wl [] [Ent.osl w.heap.size g1_ 24 32 ((insR ks[i] (sortR (ks.take i))).length) ((insR ks[i] (sortR (ks.take i))).flatMap kc), Ent.osl w.heap.size ov 24 32 (((sortR (ks.take i))).length) (((sortR (ks.take i))).flatMap kc)] [SlK s ks]) ?_ ?_
      · skip
        refine WE.seq_reg ?_
        refine WL.mv rfl rfl ?_
        refine WL.pv (PV.not rfl rfl) rfl ?_
        refine WL.nil ?_
        refine WE.cond rfl (fun hc53 => ?_) (fun hc53 => ?_)
        · skip
          try simp only [decide_eq_true_eq, decide_eq_false_iff_not, ne_eq, Decidable.not_not, Bool.not_eq_true', Bool.not_eq_false', Bool.and_eq_true, Bool.or_eq_true, Bool.not_not, Bool.and_eq_false_iff, Bool.or_eq_false_iff, Int.not_lt, Int.not_le] at hc53
          have hS : insR ks[i] (sortR (ks.take i)) = (SK (sortR (ks.take i)) ks[i] j).1 ++ [ks[i]] := by rw [← hfin]; unfold finK; exact if_neg (by simpa using hc53)
          refine WE.reg ?_
          refine WL.mv rfl rfl ?_
          refine WL.mv rfl rfl ?_
          refine WL.mv rfl rfl ?_
          refine WL.pv (PV.idxS rfl (H.p 0 rfl : SlK s ks _) TryT.sl38 TryT.sz24 rfl rfl (by omega) (by omega)) rfl ?_
          refine WL.loadR rfl TryT.ag24 rfl rfl (SlK.rd (H.p 0 rfl : SlK s ks _) hkl i hil) (by (rw [TryT.sz24]; refine congrArg some ?_; (simp only [kc_length, kw_length, List.length_replicate, List.length_append, List.length_cons, List.length_nil]; omega))) ?_
          refine WL.buildSliceF (l0 := (kc (List.replicate 32 0))) H rfl TryT.st38 (by decide) (by rfl) (Fl.cons rfl (by rfl) (by (simp only [kc_length, kw_length, List.length_replicate, List.length_append, List.length_cons, List.length_nil]; omega)) (Laid.all (by (simp only [kc_length, kw_length, List.length_replicate, List.length_append, List.length_cons, List.length_nil]; omega))) Fl.nil) rfl ?_
          intro b59 w10 H
          refine WL.append (m := 1) H 1 TryT.st38 (by decide) rfl rfl rfl (SlC.of_blk (n := 1) (H.l 0 rfl) (by rw [kc_length]; exact hki)) (kc_one _) (by omega) (by decide) rfl ?_
          intro v60 w11 H
          have hSl := congrArg List.length hS
          rw [List.length_append, List.length_singleton] at hSl
          have hSf := congrArg (List.flatMap kc) hS
          rw [List.flatMap_append, List.flatMap_singleton] at hSf
          replace H := H.forget 0
          replace H := H.conv (L' := [Ent.osl w.heap.size v60 24 32 (((insR ks[i] (sortR (ks.take i)))).length) (((insR ks[i] (sortR (ks.take i)))).flatMap kc), Ent.osl w.heap.size ov 24 32 (((sortR (ks.take i))).length) (((sortR (ks.take i))).flatMap kc)]) (by rw [hSl, hSf]; rfl)
          refine WL.as rfl rfl ?_
          refine WL.nil ?_
          exact ⟨v60, (by repeat (first | with_reducible exact Off.refl _ _ | refine Off.upd rfl ?_)), ⟨rfl, trivial⟩, rfl, H⟩
        · skip
          try simp only [decide_eq_true_eq, decide_eq_false_iff_not, ne_eq, Decidable.not_not, Bool.not_eq_true', Bool.not_eq_false', Bool.and_eq_true, Bool.or_eq_true, Bool.not_not, Bool.and_eq_false_iff, Bool.or_eq_false_iff, Int.not_lt, Int.not_le] at hc53
          have hS2 : insR ks[i] (sortR (ks.take i)) = (SK (sortR (ks.take i)) ks[i] j).1 := by rw [← hfin]; unfold finK; exact if_pos (by exact hc53)
          refine WE.skip ?_
          exact ⟨nv, (by repeat (first | with_reducible exact Off.refl _ _ | refine Off.upd rfl ?_)), ⟨rfl, trivial⟩, rfl, H.conv (by rw [hS2])⟩
      · skip
        intro g1_ γ w12 hI
        try dsimp only at hI
        replace H := hI
        refine WE.reg ?_
        refine WL.mv rfl rfl ?_
        refine WL.as rfl rfl ?_
        refine WL.nil ?_
        refine WE.reg ?_
        refine WL.mv rfl rfl ?_
        refine WL.pv (PV.add64 rfl rfl rfl (by omega) (by omega)) rfl ?_
        refine WL.as rfl rfl ?_
        refine WL.nil ?_
        replace H := H.forget 1
        exact ⟨(i + 1, g1_), (by repeat (first | with_reducible exact Off.refl _ _ | refine Off.upd rfl ?_ | refine Off.setAll rfl ?_ | refine Off.forget' rfl ?_)), ⟨rfl, rfl, trivial⟩, rfl, ⟨by dsimp only; omega, by dsimp only; rw [hsn]; exact H⟩, (by dsimp only; omega)⟩
  · skip
    try simp only [decide_eq_true_eq, decide_eq_false_iff_not, ne_eq, Decidable.not_not, Bool.not_eq_true', Bool.not_eq_false', Bool.and_eq_true, Bool.or_eq_true, Bool.not_not, Bool.and_eq_false_iff, Bool.or_eq_false_iff, Int.not_lt, Int.not_le] at hc12
    have hie : ks.take i = ks := List.take_of_length_le (by omega)
    refine WE.exit ?_
    refine WE.seq_reg ?_
    refine WL.mv rfl rfl ?_
    refine WL.as rfl rfl ?_
    refine WL.nil ?_
    refine WE.ret ?_
    refine ⟨[_], _, .nil _, ⟨rfl, trivial⟩, ?_⟩
    rw [hie] at H
    exact ⟨H.toOut0, H.l 0 rfl⟩

end Go.Sp.Try
