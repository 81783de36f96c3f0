/- Walks of functions, printed by a program of this session (gen.py) from notes on each function. -/
import Derived.Test.YtcclagdjpoimaaaGreatDoorY4
import Derived.Test.YtcclagdjpoimaaaGreatDoorGH
import Derived.Test.YtcclagdjpoimaaaGreatDoorG6
set_option maxRecDepth 100000
set_option maxHeartbeats 1000000
set_option linter.unusedVariables false
set_option linter.unusedSimpArgs false
namespace Go.Sp.Tryz
open Go.Proofs Go.RowKit Go.Sp

theorem key_eq {a b : En} (ha : a.k.length = 32) (hb : b.k.length = 32) (h : num a.k = num b.k) : a.k = b.k := num_inj _ _ (by rw [ha, hb]) h
def InD (a b : List En) (c : Ch) : Prop := (∃ e ∈ a, c = delX e ∧ ∀ f ∈ b, f.k ≠ e.k) ∨ ∃ f ∈ b, c = chE f ∧ ∀ e ∈ a, e.k = f.k → e.v ≠ f.v
theorem diffN_mem : ∀ (n : Nat) (a b : List En), a.length + b.length ≤ n → Srt a → Srt b → KL a → KL b → ∀ c, c ∈ diffN n a b ↔ InD a b c
  | 0, a, b, hn, _, _, _, _, c => by
    have ha : a = [] := List.eq_nil_of_length_eq_zero (by omega)
    have hb : b = [] := List.eq_nil_of_length_eq_zero (by omega)
    subst ha; subst hb
    simp [diffN, InD]
  | n + 1, [], [], _, _, _, _, _, c => by rw [diffN_nil]; simp [InD]
  | n + 1, x :: a, [], hn, hsa, hsb, hka, hkb, c => by
    have hs := List.pairwise_cons.1 hsa
    have ih := diffN_mem n a [] (by simp at hn ⊢; omega) hs.2 hsb hka.tail hkb c
    have e : diffN (n + 1) (x :: a) [] = delX x :: diffN n a [] := rfl
    rw [e, List.mem_cons, ih]
    simp [InD]
  | n + 1, [], y :: b, hn, hsa, hsb, hka, hkb, c => by
    have hs := List.pairwise_cons.1 hsb
    have ih := diffN_mem n [] b (by simp at hn ⊢; omega) hsa hs.2 hka hkb.tail c
    have e : diffN (n + 1) [] (y :: b) = chE y :: diffN n [] b := rfl
    rw [e, List.mem_cons, ih]
    simp [InD]
  | n + 1, x :: a, y :: b, hn, hsa, hsb, hka, hkb, c => by
    have hs1 := List.pairwise_cons.1 hsa
    have hs2 := List.pairwise_cons.1 hsb
    have hx := hka x (by simp)
    have hy := hkb y (by simp)
    have hnb : ∀ f ∈ b, num y.k < num f.k := hs2.1
    have hna : ∀ f ∈ a, num x.k < num f.k := hs1.1
    have ne_of : ∀ {p q : List UInt8}, num p < num q → p ≠ q := fun h e => by rw [e] at h; exact Nat.lt_irrefl _ h
    rcases Nat.lt_trichotomy (num x.k) (num y.k) with h | h | h
    · have hc : cmpI x.k y.k < 0 := cmpI_neg.2 h
      have e : diffN (n + 1) (x :: a) (y :: b) = delX x :: diffN n a (y :: b) := by
        show stepX (x :: a) (y :: b) ++ diffN n (tlA (x :: a) (y :: b)) (tlB (x :: a) (y :: b)) = _
        have e1 : stepX (x :: a) (y :: b) = [delX x] := (ord_neg (a := x :: a) (b := y :: b) hc).2 (by simp)
        have e2 : tlA (x :: a) (y :: b) = a := by unfold tlA; rw [show ordX (x :: a) (y :: b) = cmpI x.k y.k from rfl, if_pos (by omega)]; rfl
        have e3 : tlB (x :: a) (y :: b) = y :: b := by unfold tlB; rw [show ordX (x :: a) (y :: b) = cmpI x.k y.k from rfl, if_neg (by omega)]
        rw [e1, e2, e3]; rfl
      have ih := diffN_mem n a (y :: b) (by simp at hn ⊢; omega) hs1.2 hsb hka.tail hkb c
      rw [e, List.mem_cons, ih]
      have hxb : ∀ f ∈ y :: b, f.k ≠ x.k := fun f hf => by
        rcases List.mem_cons.1 hf with rfl | hf
        · exact (ne_of h).symm
        · exact (ne_of (Nat.lt_trans h (hnb f hf))).symm
      constructor
      · rintro (rfl | ⟨e0, he, rfl, hq⟩ | ⟨f, hf, rfl, hq⟩)
        · exact .inl ⟨x, by simp, rfl, hxb⟩
        · exact .inl ⟨e0, List.mem_cons_of_mem _ he, rfl, hq⟩
        · refine .inr ⟨f, hf, rfl, fun e0 he hk => ?_⟩
          rcases List.mem_cons.1 he with rfl | he
          · exact absurd hk.symm (hxb f hf)
          · exact hq e0 he hk
      · rintro (⟨e0, he, rfl, hq⟩ | ⟨f, hf, rfl, hq⟩)
        · rcases List.mem_cons.1 he with rfl | he
          · exact .inl rfl
          · exact .inr (.inl ⟨e0, he, rfl, hq⟩)
        · exact .inr (.inr ⟨f, hf, rfl, fun e0 he hk => hq e0 (List.mem_cons_of_mem _ he) hk⟩)
    · have hk : x.k = y.k := key_eq hx hy h
      have hc : cmpI x.k y.k = 0 := cmpI_zero.2 h
      have e : diffN (n + 1) (x :: a) (y :: b) = (if x.v = y.v then [] else [chE y]) ++ diffN n a b := by
        show stepX (x :: a) (y :: b) ++ diffN n (tlA (x :: a) (y :: b)) (tlB (x :: a) (y :: b)) = _
        have e1 : stepX (x :: a) (y :: b) = if x.v = y.v then [] else [chE y] := (ord_zero (a := x :: a) (b := y :: b) hc).2.2 (by simp) (by simp)
        have e2 : tlA (x :: a) (y :: b) = a := by unfold tlA; rw [show ordX (x :: a) (y :: b) = cmpI x.k y.k from rfl, if_pos (by omega)]; rfl
        have e3 : tlB (x :: a) (y :: b) = b := by unfold tlB; rw [show ordX (x :: a) (y :: b) = cmpI x.k y.k from rfl, if_pos (by omega)]; rfl
        rw [e1, e2, e3]
      have ih := diffN_mem n a b (by simp at hn ⊢; omega) hs1.2 hs2.2 hka.tail hkb.tail c
      rw [e, List.mem_append, ih]
      have hyb : ∀ f ∈ b, f.k ≠ y.k := fun f hf => (ne_of (hnb f hf)).symm
      have hxa : ∀ f ∈ a, f.k ≠ x.k := fun f hf => (ne_of (hna f hf)).symm
      have hst : c ∈ (if x.v = y.v then ([] : List Ch) else [chE y]) ↔ (c = chE y ∧ x.v ≠ y.v) := by
        split
        · rename_i hv; simp [hv]
        · rename_i hv; simp [hv]
      rw [hst]
      constructor
      · rintro (⟨rfl, hv⟩ | ⟨e0, he, rfl, hq⟩ | ⟨f, hf, rfl, hq⟩)
        · refine .inr ⟨y, by simp, rfl, fun e0 he hk0 => ?_⟩
          rcases List.mem_cons.1 he with rfl | he
          · exact hv
          · exact absurd (hk0.trans hk.symm) (hxa e0 he)
        · refine .inl ⟨e0, List.mem_cons_of_mem _ he, rfl, fun f hf => ?_⟩
          rcases List.mem_cons.1 hf with rfl | hf
          · exact fun hh => hxa e0 he (hh.symm.trans hk.symm)
          · exact hq f hf
        · refine .inr ⟨f, List.mem_cons_of_mem _ hf, rfl, fun e0 he hk0 => ?_⟩
          rcases List.mem_cons.1 he with rfl | he
          · exact absurd (hk0.symm.trans hk) (hyb f hf)
          · exact hq e0 he hk0
      · rintro (⟨e0, he, rfl, hq⟩ | ⟨f, hf, rfl, hq⟩)
        · rcases List.mem_cons.1 he with rfl | he
          · exact absurd hk.symm (hq y (by simp))
          · exact .inr (.inl ⟨e0, he, rfl, fun f hf => hq f (List.mem_cons_of_mem _ hf)⟩)
        · rcases List.mem_cons.1 hf with rfl | hf
          · exact .inl ⟨rfl, hq x (by simp) hk⟩
          · exact .inr (.inr ⟨f, hf, rfl, fun e0 he hk0 => hq e0 (List.mem_cons_of_mem _ he) hk0⟩)
    · have hc : 0 < cmpI x.k y.k := cmpI_pos.2 h
      have hne : ¬ (x :: a = [] ∧ y :: b = []) := by simp
      have e : diffN (n + 1) (x :: a) (y :: b) = chE y :: diffN n (x :: a) b := by
        show stepX (x :: a) (y :: b) ++ diffN n (tlA (x :: a) (y :: b)) (tlB (x :: a) (y :: b)) = _
        have e1 : stepX (x :: a) (y :: b) = [chE y] := (ord_pos (a := x :: a) (b := y :: b) hc hne).2 (by simp)
        have e2 : tlA (x :: a) (y :: b) = x :: a := by unfold tlA; rw [show ordX (x :: a) (y :: b) = cmpI x.k y.k from rfl, if_neg (by omega)]
        have e3 : tlB (x :: a) (y :: b) = b := by unfold tlB; rw [show ordX (x :: a) (y :: b) = cmpI x.k y.k from rfl, if_pos (by omega)]; rfl
        rw [e1, e2, e3]; rfl
      have ih := diffN_mem n (x :: a) b (by simp at hn ⊢; omega) hsa hs2.2 hka hkb.tail c
      rw [e, List.mem_cons, ih]
      have hya : ∀ f ∈ x :: a, f.k ≠ y.k := fun f hf => by
        rcases List.mem_cons.1 hf with rfl | hf
        · exact (ne_of h).symm
        · exact (ne_of (Nat.lt_trans h (hna f hf))).symm
      constructor
      · rintro (rfl | ⟨e0, he, rfl, hq⟩ | ⟨f, hf, rfl, hq⟩)
        · exact .inr ⟨y, by simp, rfl, fun e0 he hk0 => absurd hk0 (hya e0 he)⟩
        · refine .inl ⟨e0, he, rfl, fun f hf => ?_⟩
          rcases List.mem_cons.1 hf with rfl | hf
          · exact (hya e0 he).symm
          · exact hq f hf
        · exact .inr ⟨f, List.mem_cons_of_mem _ hf, rfl, hq⟩
      · rintro (⟨e0, he, rfl, hq⟩ | ⟨f, hf, rfl, hq⟩)
        · exact .inr (.inl ⟨e0, he, rfl, fun f hf => hq f (List.mem_cons_of_mem _ hf)⟩)
        · rcases List.mem_cons.1 hf with rfl | hf
          · exact .inl rfl
          · exact .inr (.inr ⟨f, hf, rfl, hq⟩)
theorem mem_diffX {a b : List En} (ha : Srt a) (hb : Srt b) (hka : KL a) (hkb : KL b) (c : Ch) : c ∈ diffX a b ↔ InD a b c := diffN_mem _ a b (Nat.le_refl _) ha hb hka hkb c

theorem InD.key {a b : List En} {c : Ch} (h : InD a b c) : (∃ e ∈ a, c.k = e.k) ∨ ∃ f ∈ b, c.k = f.k := by
  rcases h with ⟨e, he, rfl, _⟩ | ⟨f, hf, rfl, _⟩
  · exact .inl ⟨e, he, rfl⟩
  · exact .inr ⟨f, hf, rfl⟩
theorem lt_head {n : Nat} {a b : List En} {c : Ch} (hn : a.length + b.length ≤ n) (hsa : Srt a) (hsb : Srt b) (hka : KL a) (hkb : KL b) (ha : ∀ e ∈ a, num c.k < num e.k) (hb : ∀ e ∈ b, num c.k < num e.k) : ∀ d ∈ diffN n a b, num c.k < num d.k := fun d hd => by
  rcases ((diffN_mem n a b hn hsa hsb hka hkb d).1 hd).key with ⟨e, he, hk⟩ | ⟨f, hf, hk⟩
  · rw [hk]; exact ha e he
  · rw [hk]; exact hb f hf
theorem diffN_lt : ∀ (n : Nat) (a b : List En), a.length + b.length ≤ n → Srt a → Srt b → KL a → KL b → LtX (diffN n a b)
  | 0, _, _, _, _, _, _, _ => List.Pairwise.nil
  | n + 1, [], [], _, _, _, _, _ => by rw [diffN_nil]; exact List.Pairwise.nil
  | n + 1, x :: a, [], hn, hsa, hsb, hka, hkb => by
    have hs := List.pairwise_cons.1 hsa
    have e : diffN (n + 1) (x :: a) [] = delX x :: diffN n a [] := rfl
    have hn' : a.length + ([] : List En).length ≤ n := by simp at hn ⊢; omega
    rw [e]
    exact List.pairwise_cons.2 ⟨lt_head (c := delX x) hn' hs.2 hsb hka.tail hkb hs.1 (fun _ h => by cases h), diffN_lt n a [] hn' hs.2 hsb hka.tail hkb⟩
  | n + 1, [], y :: b, hn, hsa, hsb, hka, hkb => by
    have hs := List.pairwise_cons.1 hsb
    have e : diffN (n + 1) [] (y :: b) = chE y :: diffN n [] b := rfl
    have hn' : ([] : List En).length + b.length ≤ n := by simp at hn ⊢; omega
    rw [e]
    exact List.pairwise_cons.2 ⟨lt_head (c := chE y) hn' hsa hs.2 hka hkb.tail (fun _ h => by cases h) hs.1, diffN_lt n [] b hn' hsa hs.2 hka hkb.tail⟩
  | n + 1, x :: a, y :: b, hn, hsa, hsb, hka, hkb => by
    have hs1 := List.pairwise_cons.1 hsa
    have hs2 := List.pairwise_cons.1 hsb
    have hO : ordX (x :: a) (y :: b) = cmpI x.k y.k := rfl
    show LtX (stepX (x :: a) (y :: b) ++ diffN n (tlA (x :: a) (y :: b)) (tlB (x :: a) (y :: b)))
    rcases Nat.lt_trichotomy (num x.k) (num y.k) with h | h | h
    · have hc : cmpI x.k y.k < 0 := cmpI_neg.2 h
      have hn' : a.length + (y :: b).length ≤ n := by simp at hn ⊢; omega
      rw [(ord_neg (a := x :: a) (b := y :: b) hc).2 (by simp), show tlA (x :: a) (y :: b) = a by unfold tlA; rw [hO, if_pos (by omega)]; rfl, show tlB (x :: a) (y :: b) = y :: b by unfold tlB; rw [hO, if_neg (by omega)]]
      refine List.pairwise_cons.2 ⟨lt_head (c := delX x) hn' hs1.2 hsb hka.tail hkb hs1.1 fun f hf => ?_, diffN_lt n a (y :: b) hn' hs1.2 hsb hka.tail hkb⟩
      rcases List.mem_cons.1 hf with rfl | hf
      · exact h
      · exact Nat.lt_trans h (hs2.1 f hf)
    · have hc : cmpI x.k y.k = 0 := cmpI_zero.2 h
      have hn' : a.length + b.length ≤ n := by simp at hn ⊢; omega
      have ih := diffN_lt n a b hn' hs1.2 hs2.2 hka.tail hkb.tail
      rw [(ord_zero (a := x :: a) (b := y :: b) hc).2.2 (by simp) (by simp), show tlA (x :: a) (y :: b) = a by unfold tlA; rw [hO, if_pos (by omega)]; rfl, show tlB (x :: a) (y :: b) = b by unfold tlB; rw [hO, if_pos (by omega)]; rfl]
      split
      · exact ih
      · exact List.pairwise_cons.2 ⟨lt_head (c := chE y) hn' hs1.2 hs2.2 hka.tail hkb.tail (fun e he => by show num y.k < _; rw [← h]; exact hs1.1 e he) hs2.1, ih⟩
    · have hc : 0 < cmpI x.k y.k := cmpI_pos.2 h
      have hn' : (x :: a).length + b.length ≤ n := by simp at hn ⊢; omega
      rw [(ord_pos (a := x :: a) (b := y :: b) hc (by simp)).2 (by simp), show tlA (x :: a) (y :: b) = x :: a by unfold tlA; rw [hO, if_neg (by omega)], show tlB (x :: a) (y :: b) = b by unfold tlB; rw [hO, if_pos (by omega)]; rfl]
      refine List.pairwise_cons.2 ⟨lt_head (c := chE y) hn' hsa hs2.2 hka hkb.tail (fun e he => ?_) hs2.1, diffN_lt n (x :: a) b hn' hsa hs2.2 hka hkb.tail⟩
      rcases List.mem_cons.1 he with rfl | he
      · exact h
      · exact Nat.lt_trans h (hs1.1 e he)
theorem diffX_ok {a b : List En} (ha : Srt a) (hb : Srt b) (hka : KL a) (hkb : KL b) : LtX (diffX a b) ∧ XL (diffX a b) ∧ ∀ {w : World}, Vals b w → CVals (diffX a b) w := by
  refine ⟨diffN_lt _ a b (Nat.le_refl _) ha hb hka hkb, fun c hc => ?_, fun {w} hv c hc => ?_⟩
  · rcases ((mem_diffX ha hb hka hkb c).1 hc).key with ⟨e, he, hk⟩ | ⟨f, hf, hk⟩
    · rw [hk]; exact hka e he
    · rw [hk]; exact hkb f hf
  · rcases (mem_diffX ha hb hka hkb c).1 hc with ⟨e, he, rfl, _⟩ | ⟨f, hf, rfl, _⟩
    · exact SlB.nil w
    · exact hv f hf
theorem kv_ext : ∀ {a b : List En}, Srt a → Srt b → (∀ p, p ∈ a.map kv ↔ p ∈ b.map kv) → a.map kv = b.map kv
  | [], [], _, _, _ => rfl
  | [], y :: b, _, _, h => by have := (h (kv y)).2 (by simp); simp at this
  | x :: a, [], _, _, h => by have := (h (kv x)).1 (by simp); simp at this
  | x :: a, y :: b, ha, hb, h => by
    have ha' := List.pairwise_cons.1 ha
    have hb' := List.pairwise_cons.1 hb
    have memA : ∀ p ∈ a.map kv, num x.k < num p.1 := fun p hp => by obtain ⟨e, he, rfl⟩ := List.mem_map.1 hp; exact ha'.1 e he
    have memB : ∀ p ∈ b.map kv, num y.k < num p.1 := fun p hp => by obtain ⟨e, he, rfl⟩ := List.mem_map.1 hp; exact hb'.1 e he
    have e : kv x = kv y := by
      rcases List.mem_cons.1 (by rw [← List.map_cons]; exact (h (kv x)).1 (by simp)) with h1 | h1
      · exact h1
      · rcases List.mem_cons.1 (by rw [← List.map_cons]; exact (h (kv y)).2 (by simp)) with h2 | h2
        · exact h2.symm
        · have h3 : num y.k < num x.k := memB _ h1
          have h4 : num x.k < num y.k := memA _ h2
          omega
    have hk : x.k = y.k := congrArg Prod.fst e
    rw [List.map_cons, List.map_cons, e]
    congr 1
    refine kv_ext ha'.2 hb'.2 fun p => ⟨fun hp => ?_, fun hp => ?_⟩
    · have := (h p).1 (by rw [List.map_cons]; exact List.mem_cons_of_mem _ hp)
      rw [List.map_cons] at this
      rcases List.mem_cons.1 this with rfl | h1
      · have : num x.k < num y.k := memA _ hp
        rw [hk] at this; omega
      · exact h1
    · have := (h p).2 (by rw [List.map_cons]; exact List.mem_cons_of_mem _ hp)
      rw [List.map_cons] at this
      rcases List.mem_cons.1 this with rfl | h1
      · have : num y.k < num x.k := memB _ hp
        rw [hk] at this; omega
      · exact h1

theorem Srt.uniq {a : List En} (h : Srt a) {e f : En} (he : e ∈ a) (hf : f ∈ a) (hk : e.k = f.k) : e = f := by
  have h1 := getM_self h.dis he
  have h2 := getM_self h.dis hf
  rw [hk, h2] at h1
  exact (Option.some.inj h1).symm
theorem diffX_leads {a b : List En} (ha : Srt a) (hb : Srt b) (hka : KL a) (hkb : KL b) : (apM a (diffX a b)).map kv = b.map kv := by
  have hok := diffX_ok ha hb hka hkb
  have hmem := mem_diffX ha hb hka hkb
  refine kv_ext (apM_ok _ a ha hka hok.2.1).1 hb fun p => ⟨fun hp => ?_, fun hp => ?_⟩
  · obtain ⟨e, he, rfl⟩ := List.mem_map.1 hp
    rcases (mem_apM _ _ _ hok.1).1 he with ⟨c, hc, hd, rfl⟩ | ⟨hea, hno⟩
    · rcases (hmem c).1 hc with ⟨x, _, rfl, _⟩ | ⟨f, hf, rfl, _⟩
      · cases hd
      · exact List.mem_map.2 ⟨f, hf, rfl⟩
    · by_cases hfk : ∃ f ∈ b, f.k = e.k
      · obtain ⟨f, hf, hk⟩ := hfk
        by_cases hv : e.v = f.v
        · exact List.mem_map.2 ⟨f, hf, by unfold kv; rw [hk, hv]⟩
        · exfalso
          refine hno (chE f) ((hmem _).2 (.inr ⟨f, hf, rfl, fun x hx hxk => ?_⟩)) hk.symm
          have := ha.uniq hx hea (hxk.trans hk)
          rw [this]; exact hv
      · exfalso
        exact hno (delX e) ((hmem _).2 (.inl ⟨e, hea, rfl, fun f hf hk => hfk ⟨f, hf, hk⟩⟩)) rfl
  · obtain ⟨f, hf, rfl⟩ := List.mem_map.1 hp
    by_cases hx : ∃ e ∈ a, e.k = f.k ∧ e.v = f.v
    · obtain ⟨e, he, hk, hv⟩ := hx
      refine List.mem_map.2 ⟨e, (mem_apM _ _ _ hok.1).2 (.inr ⟨he, fun c hc hck => ?_⟩), by unfold kv; rw [hk, hv]⟩
      rcases (hmem c).1 hc with ⟨x, hx, rfl, hq⟩ | ⟨g, hg, rfl, hq⟩
      · exact hq f hf (hk.symm.trans hck)
      · have h1 : g = f := hb.uniq hg hf (hck.symm.trans hk)
        subst h1
        exact hq e he hk hv
    · refine List.mem_map.2 ⟨f, (mem_apM _ _ _ hok.1).2 (.inl ⟨chE f, (hmem _).2 (.inr ⟨f, hf, rfl, fun e he hk hv => hx ⟨e, he, hk, hv⟩⟩), rfl, rfl⟩), rfl⟩
def kx (c : Ch) : List UInt8 × List UInt8 × Bool := (c.k, c.v, c.d)
theorem kx_ext : ∀ {a b : List Ch}, LtX a → LtX b → (∀ p, p ∈ a.map kx ↔ p ∈ b.map kx) → a.map kx = b.map kx
  | [], [], _, _, _ => rfl
  | [], y :: b, _, _, h => by have := (h (kx y)).2 (by simp); simp at this
  | x :: a, [], _, _, h => by have := (h (kx x)).1 (by simp); simp at this
  | x :: a, y :: b, ha, hb, h => by
    have ha' := List.pairwise_cons.1 ha
    have hb' := List.pairwise_cons.1 hb
    have memA : ∀ p ∈ a.map kx, num x.k < num p.1 := fun p hp => by obtain ⟨e, he, rfl⟩ := List.mem_map.1 hp; exact ha'.1 e he
    have memB : ∀ p ∈ b.map kx, num y.k < num p.1 := fun p hp => by obtain ⟨e, he, rfl⟩ := List.mem_map.1 hp; exact hb'.1 e he
    have e : kx x = kx y := by
      rcases List.mem_cons.1 (by rw [← List.map_cons]; exact (h (kx x)).1 (by simp)) with h1 | h1
      · exact h1
      · rcases List.mem_cons.1 (by rw [← List.map_cons]; exact (h (kx y)).2 (by simp)) with h2 | h2
        · exact h2.symm
        · have h3 : num y.k < num x.k := memB _ h1
          have h4 : num x.k < num y.k := memA _ h2
          omega
    have hk : x.k = y.k := congrArg Prod.fst e
    rw [List.map_cons, List.map_cons, e]
    congr 1
    refine kx_ext ha'.2 hb'.2 fun p => ⟨fun hp => ?_, fun hp => ?_⟩
    · have := (h p).1 (by rw [List.map_cons]; exact List.mem_cons_of_mem _ hp)
      rw [List.map_cons] at this
      rcases List.mem_cons.1 this with rfl | h1
      · have : num x.k < num y.k := memA _ hp
        rw [hk] at this; omega
      · exact h1
    · have := (h p).2 (by rw [List.map_cons]; exact List.mem_cons_of_mem _ hp)
      rw [List.map_cons] at this
      rcases List.mem_cons.1 this with rfl | h1
      · have : num y.k < num x.k := memB _ hp
        rw [hk] at this; omega
      · exact h1
theorem diffX_same {a b : List En} (ha : Srt a) (hb : Srt b) (hka : KL a) (hkb : KL b) (h : a.map kv = b.map kv) : diffX a b = [] := by
  rcases hd : diffX a b with _ | ⟨c, l⟩
  · rfl
  · exfalso
    have hc : c ∈ diffX a b := by rw [hd]; simp
    rcases (mem_diffX ha hb hka hkb c).1 hc with ⟨e, he, rfl, hq⟩ | ⟨f, hf, rfl, hq⟩
    · have : kv e ∈ b.map kv := by rw [← h]; exact List.mem_map_of_mem he
      obtain ⟨f, hf, hk⟩ := List.mem_map.1 this
      exact hq f hf (congrArg Prod.fst hk)
    · have : kv f ∈ a.map kv := by rw [h]; exact List.mem_map_of_mem hf
      obtain ⟨e, he, hk⟩ := List.mem_map.1 this
      exact hq e he (congrArg Prod.fst hk) (congrArg Prod.snd hk)

end Go.Sp.Tryz

set_option maxRecDepth 100000
set_option maxHeartbeats 1000000
set_option linter.unusedVariables false
set_option linter.unusedSimpArgs false
namespace Go.Sp.Tryz
open Go.Proofs Go.RowKit Go.Sp

section
variable {r : Option Nat} {N : Nat} {σ : Env} {ds : List Deferred} {w : World} {ops : Array Oper} {rest : List Oper} {K : Env → List Deferred → World → Prop}
theorem WL.eqlT {o : Oper} {u : TypeId} {x y : Operand} {T S : Tr} {bits : Int} (h : o.op = .binOp .eql 23 x y u) (h1 : TrA bits T w) (h2 : TrA bits S w) (hx : ev σ x = T.ptr) (hy : ev σ y = S.ptr) (hw : wantedE ops σ o = true) (hd : noDefer o = true)
    (k : WL r Tryz.prog N ops rest K (upd N σ o.dst (.bool (decide (T.addr = S.addr)))) ds w) : WL r Tryz.prog N ops (o :: rest) K σ ds w :=
  WL.val (v := .bool (decide (T.addr = S.addr))) (w' := w) hw hd (by
    have hr := run_eql_tr h1 h2
    unfold Tr.ptr at hr hx hy
    simp [execOp, h, hx, hy, eqGuard, hr]) k
end
theorem Srt.of_kv {a b : List En} (h : a.map kv = b.map kv) (hb : Srt b) : Srt a := by
  have e : ∀ l : List En, Srt l ↔ (l.map kv).Pairwise fun p q => num p.1 < num q.1 := fun l => (List.pairwise_map (f := kv) (R := fun p q => num p.1 < num q.1)).symm
  rw [e, h, ← e]; exact hb
theorem KL.of_kv2 {a b : List En} (h : a.map kv = b.map kv) (hb : KL b) : KL a := fun e he => by
  have : kv e ∈ b.map kv := by rw [← h]; exact List.mem_map_of_mem he
  obtain ⟨f, hf, hk⟩ := List.mem_map.1 this
  have h2 : f.k = e.k := congrArg Prod.fst hk
  rw [← h2]; exact hb f hf
theorem ShortV.of_kv2 {a b : List En} (h : a.map kv = b.map kv) (hb : ShortV b) : ShortV a := fun e he => by
  have : kv e ∈ b.map kv := by rw [← h]; exact List.mem_map_of_mem he
  obtain ⟨f, hf, hk⟩ := List.mem_map.1 this
  have h2 : f.v = e.v := congrArg Prod.snd hk
  rw [← h2]; exact hb f hf
theorem kv_mem {a b : List En} (h : a.map kv = b.map kv) {e : En} (he : e ∈ a) : ∃ f ∈ b, f.k = e.k ∧ f.v = e.v := by
  have : kv e ∈ b.map kv := by rw [← h]; exact List.mem_map_of_mem he
  obtain ⟨f, hf, hk⟩ := List.mem_map.1 this
  exact ⟨f, hf, congrArg Prod.fst hk, congrArg Prod.snd hk⟩
theorem InD_kv {a a' b b' : List En} (ha : a.map kv = a'.map kv) (hb : b.map kv = b'.map kv) {c : Ch} (h : InD a b c) : ∃ c', kx c' = kx c ∧ InD a' b' c' := by
  rcases h with ⟨e, he, rfl, hq⟩ | ⟨f, hf, rfl, hq⟩
  · obtain ⟨e', he', hk, _⟩ := kv_mem ha he
    refine ⟨delX e', by unfold kx delX; rw [hk], .inl ⟨e', he', rfl, fun f' hf' hh => ?_⟩⟩
    obtain ⟨f, hf, hk2, _⟩ := kv_mem hb.symm hf'
    exact hq f hf (hk2.trans (hh.trans hk))
  · obtain ⟨f', hf', hk, hv⟩ := kv_mem hb hf
    refine ⟨chE f', by unfold kx chE; rw [hk, hv], .inr ⟨f', hf', rfl, fun e' he' hh => ?_⟩⟩
    obtain ⟨e, he, hk2, hv2⟩ := kv_mem ha.symm he'
    rw [hv, ← hv2]
    exact hq e he (hk2.trans (hh.trans hk))
theorem diffX_kv {a a' b b' : List En} (ha : a.map kv = a'.map kv) (hb : b.map kv = b'.map kv) (sa : Srt a') (sb : Srt b') (ka : KL a') (kb : KL b') : (diffX a b).map kx = (diffX a' b').map kx := by
  have sa2 := Srt.of_kv ha sa
  have sb2 := Srt.of_kv hb sb
  have ka2 := KL.of_kv2 ha ka
  have kb2 := KL.of_kv2 hb kb
  refine kx_ext (diffX_ok sa2 sb2 ka2 kb2).1 (diffX_ok sa sb ka kb).1 fun p => ⟨fun hp => ?_, fun hp => ?_⟩
  · obtain ⟨c, hc, rfl⟩ := List.mem_map.1 hp
    obtain ⟨c', h1, h2⟩ := InD_kv ha hb ((mem_diffX sa2 sb2 ka2 kb2 c).1 hc)
    exact List.mem_map.2 ⟨c', (mem_diffX sa sb ka kb c').2 h2, h1⟩
  · obtain ⟨c, hc, rfl⟩ := List.mem_map.1 hp
    obtain ⟨c', h1, h2⟩ := InD_kv ha.symm hb.symm ((mem_diffX sa sb ka kb c).1 hc)
    exact List.mem_map.2 ⟨c', (mem_diffX sa2 sb2 ka2 kb2 c').2 h2, h1⟩
theorem diffX_short {a b : List En} (ha : Srt a) (hb : Srt b) (hka : KL a) (hkb : KL b) (hs : ShortV b) : CShort (diffX a b) := fun c hc => by
  rcases (mem_diffX ha hb hka hkb c).1 hc with ⟨e, he, rfl, _⟩ | ⟨f, hf, rfl, _⟩
  · exact Nat.zero_le _
  · exact hs f hf
theorem diffX_len {a b : List En} : (diffX a b).length ≤ a.length + b.length := diffN_len _ a b
structure DF (m n : List En) (cs : List Ch) : Prop where
  xl : XL cs
  lt : LtX cs
  sh : CShort cs
  kx_ : cs.map kx = (diffX m n).map kx
  leads : (apM m cs).map kv = n.map kv
  len : cs.length ≤ m.length + n.length
theorem DF.of {m n es fs : List En} (he : es.map kv = m.map kv) (hf : fs.map kv = n.map kv) (sm : Srt m) (sn : Srt n) (km : KL m) (kn : KL n) (hv : ShortV n) : DF m n (diffX es fs) := by
  have s1 := Srt.of_kv he sm
  have s2 := Srt.of_kv hf sn
  have k1 := KL.of_kv2 he km
  have k2 := KL.of_kv2 hf kn
  have ok := diffX_ok s1 s2 k1 k2
  have l1 : es.length = m.length := by have h := congrArg List.length he; simpa using h
  have l2 : fs.length = n.length := by have h := congrArg List.length hf; simpa using h
  refine ⟨ok.2.1, ok.1, diffX_short s1 s2 k1 k2 (ShortV.of_kv2 hf hv), diffX_kv he hf sm sn km kn, ?_, ?_⟩
  · rw [apM_kv _ m es he.symm, diffX_leads s1 s2 k1 k2, hf]
  · have := diffX_len (a := es) (b := fs); omega
theorem DF.same {m n : List En} (h : m.map kv = n.map kv) (sm : Srt m) (sn : Srt n) (km : KL m) (kn : KL n) : DF m n [] :=
  ⟨(fun _ h => by cases h), List.Pairwise.nil, (fun _ h => by cases h), by rw [diffX_same sm sn km kn h], h, Nat.zero_le _⟩

theorem Diff_c {X : Nat → Prop} {w : World} {bits : Int} {T S : Tr} {m n : List En} (hX : ∀ b, X b → b < w.heap.size) (hf0 : Rob X (TrA bits T) w) (hf1 : Rob X (TrA bits S) w) (hT : T.er = grow 0 m) (hS : S.er = grow 0 n) (sm : Srt m) (sn : Srt n) (km : KL m) (kn : KL n) (hv : ShortV n) (hsz : m.length + n.length ≤ 900000) :
    Ret Tryz.prog 19 [T.ptr, S.ptr].toArray w fun v w' => ∃ cs : List Ch, Out Nil w w' ∧ w'.ownsRow w.heap.size 69 34 v cs.length (cs.flatMap chC) ∧ Rob X (CVals cs) w' ∧ DF m n cs := by
  refine Ret.of_body (N := 13) Tryz.func19 rfl rfl (by simp) ?_
  have H := St.begin hX
  replace H := H.add (rob0 hf1)
  replace H := H.add (rob0 hf0)
  have pm1 := sm.pm km
  have pm2 := sn.pm kn
  have f1 := grow_fit pm1
  rw [← hT] at f1
  have f2 := grow_fit pm2
  rw [← hS] at f2
  have c1 : T.er.cnt = m.length := by rw [hT]; exact grow_cnt pm1
  have c2 : S.er.cnt = n.length := by rw [hS]; exact grow_cnt pm2
  refine WE.seq_reg ?_
  refine WL.as rfl rfl ?_
  refine WL.nil ?_
  refine WE.seq ?_
  refine WE.seq_reg ?_
  refine WL.mv rfl rfl ?_
  refine WL.mv rfl rfl ?_
  refine WL.eqlT (T := T) (S := S) (bits := bits) rfl (by exact (H.p 0 rfl : (TrA bits T) _)) (by exact (H.p 1 rfl : (TrA bits S) _)) rfl rfl rfl rfl ?_
  refine WL.nil ?_
  refine WE.cond rfl (fun hc7 => ?_) (fun hc7 => ?_)
  · skip
    try simp only [decide_eq_true_eq, decide_eq_false_iff_not, ne_eq, Decidable.not_not, Bool.not_eq_true', Bool.not_eq_false', Bool.and_eq_true, Bool.or_eq_true, Bool.not_not, Bool.and_eq_false_iff, Bool.or_eq_false_iff, Int.not_lt, Int.not_le] at hc7
    have hadr : T.addr = S.addr := by exact hc7
    have her : T.er = S.er := TrA.inj (by exact (H.p 0 rfl : (TrA bits T) _)) (by exact (H.p 1 rfl : (TrA bits S) _)) hadr
    have hkv : m.map kv = n.map kv := by have h1_ := kvT_map hT pm1 sm; have h2_ := kvT_map (T := T) (by rw [her]; exact hS) pm2 sn; exact h1_.symm.trans h2_
    refine WE.seq_reg ?_
    refine WL.as rfl rfl ?_
    refine WL.nil ?_
    refine WE.ret ?_
    refine ⟨[_], _, .nil _, ⟨rfl, trivial⟩, ?_⟩
    exact ⟨[], H.toOut0, World.ownsRow_nil _ _ _ _, (fun _ _ _ h => by cases h), DF.same hkv sm sn km kn⟩
  · skip
    try simp only [decide_eq_true_eq, decide_eq_false_iff_not, ne_eq, Decidable.not_not, Bool.not_eq_true', Bool.not_eq_false', Bool.and_eq_true, Bool.or_eq_true, Bool.not_not, Bool.and_eq_false_iff, Bool.or_eq_false_iff, Int.not_lt, Int.not_le] at hc7
    refine WE.skip ?_
    refine WE.seq_reg ?_
    refine WL.mv rfl rfl ?_
    refine WL.call TryzT.fb44 rfl (Entries_c (T := T) (bits := bits) H.yylt (by exact H.rob 0 rfl) f1 (by omega)) ?_
    rintro v9 w2 ⟨esv9, hO, hSv9, hVv9, hesv9⟩
    replace H := ((H.out hO).add hVv9).add hSv9
    refine WL.mv rfl rfl ?_
    refine WL.call TryzT.fb44 rfl (Entries_c (T := S) (bits := bits) H.yylt (by exact H.rob 3 rfl) f2 (by omega)) ?_
    rintro v11 w3 ⟨esv11, hO, hSv11, hVv11, hesv11⟩
    replace H := ((H.out hO).add hVv11).add hSv11
    have he9 : esv9.map kv = m.map kv := hesv9.trans (kvT_map hT pm1 sm)
    have he11 : esv11.map kv = n.map kv := hesv11.trans (kvT_map hS pm2 sn)
    have l9 : esv9.length = m.length := by have h_ := congrArg List.length he9; simpa using h_
    have l11 : esv11.length = n.length := by have h_ := congrArg List.length he11; simpa using h_
    refine WL.call TryzT.fb43 rfl (diff_c (a := esv9) (b := esv11) H.yylt (by exact (H.rob 2 rfl : Rob _ (SlE v9 esv9) _)) (by exact (H.rob 0 rfl : Rob _ (SlE v11 esv11) _)) (by exact (H.rob 3 rfl : Rob _ (Vals esv9) _)) (by exact (H.rob 1 rfl : Rob _ (Vals esv11) _)) (KL.of_kv2 he9 km) (KL.of_kv2 he11 kn) (by omega)) ?_
    rintro v12 w4 ⟨hO, hOwn⟩
    replace H := H.push hO (Ent.osl w.heap.size v12 69 34 _ _) (ownsRow_base hOwn H.size) (fun b hb => (hOwn.lt b hb).1)
    refine WL.as rfl rfl ?_
    refine WL.nil ?_
    refine WE.ret ?_
    refine ⟨[_], _, .nil _, ⟨rfl, trivial⟩, ?_⟩
    refine ⟨diffX esv9 esv11, H.toOut0, H.l 0 rfl, H.give (Rob.imp (show Rob _ (Vals esv11) _ from (by exact (H.rob 1 rfl : Rob _ (Vals esv11) _))) fun _ h => (diffX_ok (Srt.of_kv he9 sm) (Srt.of_kv he11 sn) (KL.of_kv2 he9 km) (KL.of_kv2 he11 kn)).2.2 h), DF.of he9 he11 sm sn km kn hv⟩

end Go.Sp.Tryz

set_option maxRecDepth 100000
set_option maxHeartbeats 1000000
set_option linter.unusedVariables false
set_option linter.unusedSimpArgs false
namespace Go.Sp.Tryz
open Go.Proofs Go.RowKit Go.Sp

theorem two12 {α : Type} {P : α → Prop} {a b : α} (h1 : P a) (h2 : P b) : ∀ e ∈ [a, b], P e := fun e he => by
  rcases List.mem_cons.1 he with rfl | he
  · exact h1
  · rw [List.mem_singleton.1 he]; exact h2
theorem chk12a : chkK (([(En.mk ((List.replicate 32 0).set 0 1) (.slice none 0 0) []), (En.mk ((List.replicate 32 0).set 0 2) (.slice none 0 0) [])] : List En).map En.k) = 0 := by kernel_rfl
theorem chk12b : chkK (([(En.mk ((List.replicate 32 0).set 0 2) (.slice none 0 0) []), (En.mk ((List.replicate 32 0).set 0 1) (.slice none 0 0) [])] : List En).map En.k) = 8 := by kernel_rfl
theorem chk12c : chkK (([(Ch.mk ((List.replicate 32 0).set 0 1) (.slice none 0 0) [] true), (Ch.mk ((List.replicate 32 0).set 0 3) (.slice none 0 0) [] false)] : List Ch).map Ch.k) = 0 := by kernel_rfl
theorem of12 : ofM [(En.mk ((List.replicate 32 0).set 0 1) (.slice none 0 0) []), (En.mk ((List.replicate 32 0).set 0 2) (.slice none 0 0) [])] = [(En.mk ((List.replicate 32 0).set 0 1) (.slice none 0 0) []), (En.mk ((List.replicate 32 0).set 0 2) (.slice none 0 0) [])] := by kernel_rfl
theorem df12 : (diffX [(En.mk ((List.replicate 32 0).set 0 1) (.slice none 0 0) []), (En.mk ((List.replicate 32 0).set 0 2) (.slice none 0 0) [])] (apM [(En.mk ((List.replicate 32 0).set 0 1) (.slice none 0 0) []), (En.mk ((List.replicate 32 0).set 0 2) (.slice none 0 0) [])] [(Ch.mk ((List.replicate 32 0).set 0 1) (.slice none 0 0) [] true), (Ch.mk ((List.replicate 32 0).set 0 3) (.slice none 0 0) [] false)])).map kx = [(((List.replicate 32 0).set 0 1), [], true), (((List.replicate 32 0).set 0 3), [], false)] := by kernel_rfl
theorem cs12 {cs : List Ch} (h : cs.map kx = [(((List.replicate 32 0).set 0 1), [], true), (((List.replicate 32 0).set 0 3), [], false)]) : ∃ s1 s3, cs = [Ch.mk ((List.replicate 32 0).set 0 1) s1 [] true, Ch.mk ((List.replicate 32 0).set 0 3) s3 [] false] := by
  match cs, h with
  | [], h => simp at h
  | [_], h => simp at h
  | [⟨k1, s1, v1, d1⟩, ⟨k3, s3, v3, d3⟩], h =>
    simp only [List.map_cons, List.map_nil, kx] at h
    injection h with h1 h2
    injection h2 with h3 _
    injection h1 with e1 h4
    injection h4 with e2 e3
    injection h3 with e4 h5
    injection h5 with e5 e6
    subst e1; subst e2; subst e3; subst e4; subst e5; subst e6
    exact ⟨s1, s3, rfl⟩
  | _ :: _ :: _ :: _, h => simp at h
theorem srt12 : Srt [(En.mk ((List.replicate 32 0).set 0 1) (.slice none 0 0) []), (En.mk ((List.replicate 32 0).set 0 2) (.slice none 0 0) [])] := by rw [← of12]; exact (ofM_ok _ (two12 (P := fun e : En => e.k.length = 32) (by rfl) (by rfl))).1
theorem kl12 : KL [(En.mk ((List.replicate 32 0).set 0 1) (.slice none 0 0) []), (En.mk ((List.replicate 32 0).set 0 2) (.slice none 0 0) [])] := two12 (P := fun e : En => e.k.length = 32) (by rfl) (by rfl)
theorem kl12b : KL [(En.mk ((List.replicate 32 0).set 0 2) (.slice none 0 0) []), (En.mk ((List.replicate 32 0).set 0 1) (.slice none 0 0) [])] := two12 (P := fun e : En => e.k.length = 32) (by rfl) (by rfl)
theorem sv12 : ShortV [(En.mk ((List.replicate 32 0).set 0 1) (.slice none 0 0) []), (En.mk ((List.replicate 32 0).set 0 2) (.slice none 0 0) [])] := two12 (P := fun e : En => e.v.length ≤ 1000000) (by decide) (by decide)
theorem sv12b : ShortV [(En.mk ((List.replicate 32 0).set 0 2) (.slice none 0 0) []), (En.mk ((List.replicate 32 0).set 0 1) (.slice none 0 0) [])] := two12 (P := fun e : En => e.v.length ≤ 1000000) (by decide) (by decide)
theorem xl12 : XL [(Ch.mk ((List.replicate 32 0).set 0 1) (.slice none 0 0) [] true), (Ch.mk ((List.replicate 32 0).set 0 3) (.slice none 0 0) [] false)] := two12 (P := fun c : Ch => c.k.length = 32) (by rfl) (by rfl)
theorem sh12 : CShort [(Ch.mk ((List.replicate 32 0).set 0 1) (.slice none 0 0) [] true), (Ch.mk ((List.replicate 32 0).set 0 3) (.slice none 0 0) [] false)] := two12 (P := fun c : Ch => c.v.length ≤ 1000000) (by decide) (by decide)
theorem ap12_len : (apM [(En.mk ((List.replicate 32 0).set 0 1) (.slice none 0 0) []), (En.mk ((List.replicate 32 0).set 0 2) (.slice none 0 0) [])] [(Ch.mk ((List.replicate 32 0).set 0 1) (.slice none 0 0) [] true), (Ch.mk ((List.replicate 32 0).set 0 3) (.slice none 0 0) [] false)]).length = 2 := by kernel_rfl

theorem alive12_c {X : Nat → Prop} {w : World}  (hX : ∀ b, X b → b < w.heap.size) (hf0 : Rob X (Rounds) w) :
    Ret Tryz.prog 10 [].toArray w fun v w' => v = .bool true ∧ Out Nil w w' := by
  refine Ret.of_body (N := 100) Tryz.func10 rfl rfl (by decide +revert) ?_
  have H := St.begin hX
  replace H := H.add (rob0 hf0)
  have hltc : LtX [(Ch.mk ((List.replicate 32 0).set 0 1) (.slice none 0 0) [] true), (Ch.mk ((List.replicate 32 0).set 0 3) (.slice none 0 0) [] false)] := LtX.of_chk chk12c
  have hapo := apM_ok [(Ch.mk ((List.replicate 32 0).set 0 1) (.slice none 0 0) [] true), (Ch.mk ((List.replicate 32 0).set 0 3) (.slice none 0 0) [] false)] [(En.mk ((List.replicate 32 0).set 0 1) (.slice none 0 0) []), (En.mk ((List.replicate 32 0).set 0 2) (.slice none 0 0) [])] srt12 kl12 xl12
  have hsvn : ShortV (apM [(En.mk ((List.replicate 32 0).set 0 1) (.slice none 0 0) []), (En.mk ((List.replicate 32 0).set 0 2) (.slice none 0 0) [])] [(Ch.mk ((List.replicate 32 0).set 0 1) (.slice none 0 0) [] true), (Ch.mk ((List.replicate 32 0).set 0 3) (.slice none 0 0) [] false)]) := fun e he => by rcases (mem_apM _ _ _ hltc).1 he with ⟨c, hc, _, rfl⟩ | ⟨h_, _⟩; exact sh12 c hc; exact sv12 e h_
  refine WE.seq_reg ?_
  refine WL.as rfl rfl ?_
  refine WL.nil ?_
  refine WE.seq_reg ?_
  refine WL.call TryzT.fb9 rfl (Hash_c (i := 256) H.yylt  (by omega)) ?_
  rintro _ w1 ⟨bhv9, bcv9, rfl, hO, hge, hB, hR⟩
  replace H := H.pushR hO (Ent.blk bcv9 108 [.int .i64 0]) hB (fun c hc => by cases hc; exact hge) hR
  refine WL.as rfl rfl ?_
  refine WL.nil ?_
  refine WE.seq ?_
  refine WE.seq_reg ?_
  refine WL.mv rfl rfl ?_
  refine WL.pv (PV.eqlPn rfl TryzT.pt26 rfl rfl) rfl ?_
  refine WL.nil ?_
  refine WE.cond_f' rfl rfl ?_
  refine WE.skip ?_
  refine WE.seq_reg ?_
  refine WL.mv rfl rfl ?_
  refine WL.pv (PV.buildA rfl TryzT.ar31 TryzT.sz5 TryzT.ze31 (Fl.cons rfl rfl rfl (Laid.byteA (x := 1) 0 (by simp)) Fl.nil)) rfl ?_
  refine WL.pv (PV.buildS rfl TryzT.pl34 TryzT.ze34 (Fl.cons rfl (by rfl) (by (simp [kc_length, kw_length, *]; done)) (Laid.left (Laid.all (by (simp [kc_length, kw_length, *]; done)))) Fl.nil)) rfl ?_
  refine WL.pv (PV.buildA rfl TryzT.ar31 TryzT.sz5 TryzT.ze31 (Fl.cons rfl rfl rfl (Laid.byteA (x := 2) 0 (by simp)) Fl.nil)) rfl ?_
  refine WL.pv (PV.buildS rfl TryzT.pl34 TryzT.ze34 (Fl.cons rfl (by rfl) (by (simp [kc_length, kw_length, *]; done)) (Laid.left (Laid.all (by (simp [kc_length, kw_length, *]; done)))) Fl.nil)) rfl ?_
  refine WL.buildSliceF (l0 := ((kc (List.replicate 32 0) ++ ([.slice none 0 0])) ++ ((kc (List.replicate 32 0) ++ ([.slice none 0 0]))))) H rfl TryzT.st22 (by decide) (by rfl) (Fl.cons rfl (by rfl) (by (simp [kc_length, kw_length, *]; done)) (Laid.left (Laid.all (by (simp [kc_length, kw_length, *]; done)))) (Fl.cons rfl (by rfl) (by (simp [kc_length, kw_length, *]; done)) (Laid.right (Laid.all (by (simp [kc_length, kw_length, *]; done))) (by (simp [kc_length, kw_length, *]; done))) Fl.nil)) rfl ?_
  intro b18 w2 H
  replace H := H.freeze (i := 0) rfl
  replace H := H.add ((H.rob 0 rfl).imp fun _ h => (SlC.of_blk (n := 2) h rfl : SlE (.slice (some ⟨b18, 0, none⟩) 2 2) [(En.mk ((List.replicate 32 0).set 0 1) (.slice none 0 0) []), (En.mk ((List.replicate 32 0).set 0 2) (.slice none 0 0) [])] _))
  refine WL.call TryzT.fb11 rfl (BuildOk_c (l := [(En.mk ((List.replicate 32 0).set 0 1) (.slice none 0 0) []), (En.mk ((List.replicate 32 0).set 0 2) (.slice none 0 0) [])]) (s := (.slice (some ⟨b18, 0, none⟩) 2 2)) (bits := 256) H.yylt (H.l 0 rfl) (by exact H.robL 0 rfl 2 rfl) (by exact (H.robL 0 rfl 0 rfl : Rob _ (SlE (.slice (some ⟨b18, 0, none⟩) 2 2) [(En.mk ((List.replicate 32 0).set 0 1) (.slice none 0 0) []), (En.mk ((List.replicate 32 0).set 0 2) (.slice none 0 0) [])]) _)) (by exact fun _ _ => two12 (SlB.nil _) (SlB.nil _)) (by exact H.robL 0 rfl 3 rfl) (by decide) kl12 sv12 chk12a (by decide)) ?_
  rintro _ w3 ⟨Tv19, mv19, rfl, hTv19, hO, hB, hR⟩
  replace H := H.calledR 0 rfl hO hB hR
  rw [of12] at hTv19
  have hcnt19 : Tv19.er.cnt = 2 := by rw [hTv19, grow_cnt (srt12.pm kl12)]; rfl
  refine WL.mv rfl rfl ?_
  refine WL.pv (PV.extract rfl rfl rfl) rfl ?_
  refine WL.pv (PV.extract rfl rfl rfl) rfl ?_
  refine WL.as rfl rfl ?_
  refine WL.as rfl rfl ?_
  refine WL.nil ?_
  refine WE.seq_reg ?_
  refine WL.mv rfl rfl ?_
  refine WL.mv rfl rfl ?_
  refine WL.pv (PV.buildA rfl TryzT.ar31 TryzT.sz5 TryzT.ze31 (Fl.cons rfl rfl rfl (Laid.byteA (x := 1) 0 (by simp)) Fl.nil)) rfl ?_
  refine WL.pv (PV.buildS rfl TryzT.pl69 TryzT.ze69 (Fl.cons rfl (by rfl) (by (simp [kc_length, kw_length, *]; done)) (Laid.left (Laid.all (by (simp [kc_length, kw_length, *]; done)))) (Fl.cons rfl (by rfl) (by (simp only [kc_length, kw_length, List.length_replicate, List.length_append, List.length_cons, List.length_nil, cutI_length, shaOf_length, dig_length, valD_length, rootM_length]; done)) (Laid.right (Laid.right (Laid.all (by (simp only [kc_length, kw_length, List.length_replicate, List.length_append, List.length_cons, List.length_nil, cutI_length, shaOf_length, dig_length, valD_length, rootM_length]; done))) (by with_reducible rfl)) (by (simp [kc_length, kw_length, *]; done))) Fl.nil))) rfl ?_
  refine WL.pv (PV.buildA rfl TryzT.ar31 TryzT.sz5 TryzT.ze31 (Fl.cons rfl rfl rfl (Laid.byteA (x := 3) 0 (by simp)) Fl.nil)) rfl ?_
  refine WL.pv (PV.buildS rfl TryzT.pl69 TryzT.ze69 (Fl.cons rfl (by rfl) (by (simp [kc_length, kw_length, *]; done)) (Laid.left (Laid.all (by (simp [kc_length, kw_length, *]; done)))) Fl.nil)) rfl ?_
  refine WL.buildSliceF (l0 := ((kc (List.replicate 32 0) ++ ([.slice none 0 0] ++ ([.bool false]))) ++ ((kc (List.replicate 32 0) ++ ([.slice none 0 0] ++ ([.bool false])))))) H rfl TryzT.st47 (by decide) (by rfl) (Fl.cons rfl (by rfl) (by (simp [kc_length, kw_length, *]; done)) (Laid.left (Laid.all (by (simp [kc_length, kw_length, *]; done)))) (Fl.cons rfl (by rfl) (by (simp [kc_length, kw_length, *]; done)) (Laid.right (Laid.all (by (simp [kc_length, kw_length, *]; done))) (by (simp [kc_length, kw_length, *]; done))) Fl.nil)) rfl ?_
  intro b29 w4 H
  replace H := H.freeze (i := 0) rfl
  replace H := H.add ((H.rob 0 rfl).imp fun _ h => (SlC.of_blk (n := 2) h rfl : SlX (.slice (some ⟨b29, 0, none⟩) 2 2) [(Ch.mk ((List.replicate 32 0).set 0 1) (.slice none 0 0) [] true), (Ch.mk ((List.replicate 32 0).set 0 3) (.slice none 0 0) [] false)] _))
  refine WL.call TryzT.fb16 rfl (ApplyOk_c (T := Tv19) (m := [(En.mk ((List.replicate 32 0).set 0 1) (.slice none 0 0) []), (En.mk ((List.replicate 32 0).set 0 2) (.slice none 0 0) [])]) (l := [(Ch.mk ((List.replicate 32 0).set 0 1) (.slice none 0 0) [] true), (Ch.mk ((List.replicate 32 0).set 0 3) (.slice none 0 0) [] false)]) (s := (.slice (some ⟨b29, 0, none⟩) 2 2)) (bits := 256) H.yylt (H.l 0 rfl) (by exact H.robL 0 rfl 5 rfl) (by exact (H.robL 0 rfl 2 rfl : Rob _ (TrA 256 Tv19) _)) (by exact (H.robL 0 rfl 0 rfl : Rob _ (SlX (.slice (some ⟨b29, 0, none⟩) 2 2) [(Ch.mk ((List.replicate 32 0).set 0 1) (.slice none 0 0) [] true), (Ch.mk ((List.replicate 32 0).set 0 3) (.slice none 0 0) [] false)]) _)) (by exact fun _ _ => two12 (SlB.nil _) (SlB.nil _)) (by exact H.robL 0 rfl 6 rfl) (by decide) hTv19 srt12 kl12 xl12 sh12 chk12c (by decide)) ?_
  rintro _ w5 ⟨Tv30, mv30, rfl, hTv30, hO, hB, hR⟩
  replace H := H.calledR 0 rfl hO hB hR
  have hcnt30 : Tv30.er.cnt = 2 := by rw [hTv30, grow_cnt (hapo.1.pm hapo.2)]; exact ap12_len
  refine WL.mv rfl rfl ?_
  refine WL.pv (PV.extract rfl rfl rfl) rfl ?_
  refine WL.pv (PV.extract rfl rfl rfl) rfl ?_
  refine WL.as rfl rfl ?_
  refine WL.as rfl rfl ?_
  refine WL.nil ?_
  refine WE.seq_reg ?_
  refine WL.mv rfl rfl ?_
  refine WL.pv (PV.buildA rfl TryzT.ar31 TryzT.sz5 TryzT.ze31 (Fl.cons rfl rfl rfl (Laid.byteA (x := 2) 0 (by simp)) Fl.nil)) rfl ?_
  refine WL.pv (PV.buildS rfl TryzT.pl34 TryzT.ze34 (Fl.cons rfl (by rfl) (by (simp [kc_length, kw_length, *]; done)) (Laid.left (Laid.all (by (simp [kc_length, kw_length, *]; done)))) Fl.nil)) rfl ?_
  refine WL.pv (PV.buildA rfl TryzT.ar31 TryzT.sz5 TryzT.ze31 (Fl.cons rfl rfl rfl (Laid.byteA (x := 1) 0 (by simp)) Fl.nil)) rfl ?_
  refine WL.pv (PV.buildS rfl TryzT.pl34 TryzT.ze34 (Fl.cons rfl (by rfl) (by (simp [kc_length, kw_length, *]; done)) (Laid.left (Laid.all (by (simp [kc_length, kw_length, *]; done)))) Fl.nil)) rfl ?_
  refine WL.buildSliceF (l0 := ((kc (List.replicate 32 0) ++ ([.slice none 0 0])) ++ ((kc (List.replicate 32 0) ++ ([.slice none 0 0]))))) H rfl TryzT.st22 (by decide) (by rfl) (Fl.cons rfl (by rfl) (by (simp [kc_length, kw_length, *]; done)) (Laid.left (Laid.all (by (simp [kc_length, kw_length, *]; done)))) (Fl.cons rfl (by rfl) (by (simp [kc_length, kw_length, *]; done)) (Laid.right (Laid.all (by (simp [kc_length, kw_length, *]; done))) (by (simp [kc_length, kw_length, *]; done))) Fl.nil)) rfl ?_
  intro b39 w6 H
  replace H := H.freeze (i := 0) rfl
  replace H := H.add ((H.rob 0 rfl).imp fun _ h => (SlC.of_blk (n := 2) h rfl : SlE (.slice (some ⟨b39, 0, none⟩) 2 2) [(En.mk ((List.replicate 32 0).set 0 2) (.slice none 0 0) []), (En.mk ((List.replicate 32 0).set 0 1) (.slice none 0 0) [])] _))
  refine WL.call TryzT.fb11 rfl (BuildBad_c (l := [(En.mk ((List.replicate 32 0).set 0 2) (.slice none 0 0) []), (En.mk ((List.replicate 32 0).set 0 1) (.slice none 0 0) [])]) (s := (.slice (some ⟨b39, 0, none⟩) 2 2)) H.yylt (by exact (H.rob 0 rfl : Rob _ (SlE (.slice (some ⟨b39, 0, none⟩) 2 2) [(En.mk ((List.replicate 32 0).set 0 2) (.slice none 0 0) []), (En.mk ((List.replicate 32 0).set 0 1) (.slice none 0 0) [])]) _)) (by exact fun _ _ => two12 (SlB.nil _) (SlB.nil _)) kl12b sv12b (by rw [chk12b]; decide) (by decide)) ?_
  rintro _ w7 ⟨rfl, hO⟩
  replace H := H.out hO
  refine WL.mv rfl rfl ?_
  refine WL.pv (PV.extract rfl rfl rfl) rfl ?_
  refine WL.pv (PV.extract rfl rfl rfl) rfl ?_
  refine WL.as rfl rfl ?_
  refine WL.as rfl rfl ?_
  refine WL.nil ?_
  refine WE.seq_reg ?_
  refine WL.mv rfl rfl ?_
  refine WL.mv rfl rfl ?_
  refine WL.call TryzT.fb19 rfl (Diff_c (T := Tv19) (S := Tv30) (m := [(En.mk ((List.replicate 32 0).set 0 1) (.slice none 0 0) []), (En.mk ((List.replicate 32 0).set 0 2) (.slice none 0 0) [])]) (n := apM [(En.mk ((List.replicate 32 0).set 0 1) (.slice none 0 0) []), (En.mk ((List.replicate 32 0).set 0 2) (.slice none 0 0) [])] [(Ch.mk ((List.replicate 32 0).set 0 1) (.slice none 0 0) [] true), (Ch.mk ((List.replicate 32 0).set 0 3) (.slice none 0 0) [] false)]) (bits := 256) H.yylt (by exact (H.rob 5 rfl : Rob _ (TrA 256 Tv19) _)) (by exact (H.rob 2 rfl : Rob _ (TrA 256 Tv30) _)) hTv19 hTv30 srt12 hapo.1 kl12 hapo.2 hsvn (by rw [ap12_len]; decide)) ?_
  rintro v45 w8 ⟨cs, hO, hOwn, hV, hD⟩
  obtain ⟨s1_, s3_, rfl⟩ := cs12 (hD.kx_.trans df12)
  have hR_ := (rob_own H.yylt hOwn).imp fun _ h => SlC.of_own h
  replace H := (H.out hO).add (show Rob _ (SlX v45 [Ch.mk ((List.replicate 32 0).set 0 1) s1_ [] true, Ch.mk ((List.replicate 32 0).set 0 3) s3_ [] false]) _ from hR_)
  have xl12d := hD.xl
  refine WL.as rfl rfl ?_
  refine WL.nil ?_
  refine WE.seq_reg ?_
  refine WL.mv rfl rfl ?_
  refine WL.pv (PV.eql rfl rfl rfl) rfl ?_
  refine WL.mv rfl rfl ?_
  refine WL.known (t := 48) (c := true) rfl (by rfl) ?_
  refine WL.mv rfl rfl ?_
  refine WL.pv (PV.eql rfl rfl rfl) rfl ?_
  refine WL.pv (PV.pick_t rfl rfl rfl) rfl ?_
  refine WL.mv rfl rfl ?_
  refine WL.known (t := 52) (c := true) rfl (by rfl) ?_
  refine WL.mv rfl rfl ?_
  refine WL.pv (PV.eql rfl rfl rfl) rfl ?_
  refine WL.pv (PV.pick_t rfl rfl rfl) rfl ?_
  refine WL.mv rfl rfl ?_
  refine WL.known (t := 56) (c := true) rfl (by rfl) ?_
  refine WL.mv rfl rfl ?_
  refine WL.call TryzT.fb27 rfl (Len_c (T := Tv19) (bits := 256) H.yylt (by exact (H.rob 6 rfl : Rob _ (TrA 256 Tv19) _))) ?_
  rintro _ w9 ⟨rfl, hO⟩
  replace H := H.out hO
  refine WL.pv (PV.eql rfl rfl rfl) rfl ?_
  refine WL.pv (PV.pick_t rfl rfl rfl) rfl ?_
  refine WL.mv rfl rfl ?_
  refine WL.known (t := 61) (c := true) rfl (by (rw [hcnt19]; rfl)) ?_
  refine WL.mv rfl rfl ?_
  refine WL.call TryzT.fb27 rfl (Len_c (T := Tv30) (bits := 256) H.yylt (by exact (H.rob 3 rfl : Rob _ (TrA 256 Tv30) _))) ?_
  rintro _ w10 ⟨rfl, hO⟩
  replace H := H.out hO
  refine WL.pv (PV.eql rfl rfl rfl) rfl ?_
  refine WL.pv (PV.pick_t rfl rfl rfl) rfl ?_
  refine WL.mv rfl rfl ?_
  refine WL.known (t := 66) (c := true) rfl (by (rw [hcnt30]; rfl)) ?_
  refine WL.mv rfl rfl ?_
  refine WL.pv (PV.lenS (by exact (H.p 0 rfl : (SlX v45 [Ch.mk ((List.replicate 32 0).set 0 1) s1_ [] true, Ch.mk ((List.replicate 32 0).set 0 3) s3_ [] false]) _)) TryzT.sl47 rfl) rfl ?_
  refine WL.pv (PV.eql rfl rfl rfl) rfl ?_
  refine WL.pv (PV.pick_t rfl rfl rfl) rfl ?_
  refine WL.mv rfl rfl ?_
  refine WL.known (t := 71) (c := true) rfl (by rfl) ?_
  refine WL.mv rfl rfl ?_
  refine WL.pv (PV.idxS rfl (by exact (H.p 0 rfl : (SlX v45 [Ch.mk ((List.replicate 32 0).set 0 1) s1_ [] true, Ch.mk ((List.replicate 32 0).set 0 3) s3_ [] false]) _)) TryzT.sl47 TryzT.sz69 rfl rfl (by simp) (by simp)) rfl ?_
  refine WL.pv (PV.fieldAddrA rfl TryzT.fd69_0 rfl) rfl ?_
  refine WL.loadR rfl TryzT.ag31 rfl rfl ((rd_key (SlX.rd (by exact (H.p 0 rfl : (SlX v45 [Ch.mk ((List.replicate 32 0).set 0 1) s1_ [] true, Ch.mk ((List.replicate 32 0).set 0 3) s3_ [] false]) _)) xl12d 0 (by simp)))) (by exact TryzT.sz31) ?_
  refine WL.pv (PV.buildA rfl TryzT.ar31 TryzT.sz5 TryzT.ze31 (Fl.cons rfl rfl rfl (Laid.byteA (x := 1) 0 (by simp)) Fl.nil)) rfl ?_
  refine WL.pv (PV.eqlB rfl TryzT.ar31 TryzT.in5 TryzT.sz5 (by kernel_rfl) rfl rfl (by exact rfl) (by exact rfl)) rfl ?_
  refine WL.pv (PV.pick_t rfl rfl rfl) rfl ?_
  refine WL.mv rfl rfl ?_
  refine WL.known (t := 79) (c := true) rfl (by rfl) ?_
  refine WL.mv rfl rfl ?_
  refine WL.pv (PV.idxS rfl (by exact (H.p 0 rfl : (SlX v45 [Ch.mk ((List.replicate 32 0).set 0 1) s1_ [] true, Ch.mk ((List.replicate 32 0).set 0 3) s3_ [] false]) _)) TryzT.sl47 TryzT.sz69 rfl rfl (by simp) (by simp)) rfl ?_
  refine WL.pv (PV.fieldAddrA rfl TryzT.fd69_2 rfl) rfl ?_
  refine WL.load1 rfl TryzT.ag4 rfl rfl ((rd_del (SlX.rd (by exact (H.p 0 rfl : (SlX v45 [Ch.mk ((List.replicate 32 0).set 0 1) s1_ [] true, Ch.mk ((List.replicate 32 0).set 0 3) s3_ [] false]) _)) xl12d 0 (by simp)) rfl)) ?_
  refine WL.pv (PV.pick_t rfl rfl rfl) rfl ?_
  refine WL.mv rfl rfl ?_
  refine WL.known (t := 85) (c := true) rfl (by rfl) ?_
  refine WL.mv rfl rfl ?_
  refine WL.pv (PV.idxS rfl (by exact (H.p 0 rfl : (SlX v45 [Ch.mk ((List.replicate 32 0).set 0 1) s1_ [] true, Ch.mk ((List.replicate 32 0).set 0 3) s3_ [] false]) _)) TryzT.sl47 TryzT.sz69 rfl rfl (by simp) (by simp)) rfl ?_
  refine WL.pv (PV.fieldAddrA rfl TryzT.fd69_0 rfl) rfl ?_
  refine WL.loadR rfl TryzT.ag31 rfl rfl ((rd_key (SlX.rd (by exact (H.p 0 rfl : (SlX v45 [Ch.mk ((List.replicate 32 0).set 0 1) s1_ [] true, Ch.mk ((List.replicate 32 0).set 0 3) s3_ [] false]) _)) xl12d 1 (by simp)))) (by exact TryzT.sz31) ?_
  refine WL.pv (PV.buildA rfl TryzT.ar31 TryzT.sz5 TryzT.ze31 (Fl.cons rfl rfl rfl (Laid.byteA (x := 3) 0 (by simp)) Fl.nil)) rfl ?_
  refine WL.pv (PV.eqlB rfl TryzT.ar31 TryzT.in5 TryzT.sz5 (by kernel_rfl) rfl rfl (by exact rfl) (by exact rfl)) rfl ?_
  refine WL.pv (PV.pick_t rfl rfl rfl) rfl ?_
  refine WL.mv rfl rfl ?_
  refine WL.known (t := 93) (c := true) rfl (by rfl) ?_
  refine WL.mv rfl rfl ?_
  refine WL.pv (PV.idxS rfl (by exact (H.p 0 rfl : (SlX v45 [Ch.mk ((List.replicate 32 0).set 0 1) s1_ [] true, Ch.mk ((List.replicate 32 0).set 0 3) s3_ [] false]) _)) TryzT.sl47 TryzT.sz69 rfl rfl (by simp) (by simp)) rfl ?_
  refine WL.pv (PV.fieldAddrA rfl TryzT.fd69_2 rfl) rfl ?_
  refine WL.load1 rfl TryzT.ag4 rfl rfl ((rd_del (SlX.rd (by exact (H.p 0 rfl : (SlX v45 [Ch.mk ((List.replicate 32 0).set 0 1) s1_ [] true, Ch.mk ((List.replicate 32 0).set 0 3) s3_ [] false]) _)) xl12d 1 (by simp)) rfl)) ?_
  refine WL.pv (PV.not rfl rfl) rfl ?_
  refine WL.pv (PV.pick_t rfl rfl rfl) rfl ?_
  refine WL.as rfl rfl ?_
  refine WL.nil ?_
  refine WE.ret ?_
  refine ⟨[_], _, .nil _, ⟨rfl, trivial⟩, ?_⟩
  refine ⟨?_, H.toOut0⟩
  rfl

end Go.Sp.Tryz

