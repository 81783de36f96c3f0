/- Part of the proof of this claim: walks through the program's functions and the plain laws that they need, printed by a program of this session. -/
import Derived.Test.YthkombhebdjamaaGreatDoorOpen
namespace Go.Sp
open Go.ChangeShapes Go.WideShapes Go.ChangeAt Go.RowKit
section
variable {H : Type} {enc : TypeId × Value → H} {P : Program} {W : World} {r : Reach} {base b0 : Nat} {sp : Nat → Bool} {held : Bool}
theorem l3.WV {t : TypeId} {f0 f1 f2 f3 : Field} {n0 n1 n2 n3 : Nat} {S0 S1 S2 S3 : List Value → Prop} (ht : P.underlying t = some (.struct #[f0, f1, f2, f3])) (h0 : l3 enc P W base sp held f0.type n0 S0) (h1 : l3 enc P W base sp held f1.type n1 S1) (h2 : l3 enc P W base sp held f2.type n2 S2) (h3 : l3 enc P W base sp held f3.type n3 S3)
  (o0 : f0.offset = 0) (o1 : f1.offset = n0) (o2 : f2.offset = n0 + n1) (o3 : f3.offset = n0 + n1 + n2) (hn : P.cellsOf t = n0 + n1 + n2 + n3) : l3 enc P W base sp held t (n0 + n1 + n2 + n3) (fun cs => ∃ a b c d, cs = a ++ b ++ c ++ d ∧ S0 a ∧ S1 b ∧ S2 c ∧ S3 d) :=
 ⟨hn, fun fuel cs x h => by
  obtain ⟨xs, n, _, rfl, hl, hlen, hf⟩ := DataW.trod_struct ht h
  match xs, hlen with
  | [y0, y1, y2, y3], _ =>
   have e0 := hf 0 f0 rfl
   have e1 := hf 1 f1 rfl
   have e2 := hf 2 f2 rfl
   have e3 := hf 3 f3 rfl
   simp only [List.getElem?_cons_zero, List.getElem?_cons_succ] at e0 e1 e2 e3
   refine ⟨_, _, _, _, ?_, h0.2 _ _ _ e0, h1.2 _ _ _ e1, h2.2 _ _ _ e2, h3.2 _ _ _ e3⟩
   rw [o0, o1, o2, o3, h0.1, h1.1, h2.1, h3.1, List.drop_zero, List.take_of_length_le (l := cs.drop (n0 + n1 + n2)) (by simp; omega), ← List.drop_drop, ← List.drop_drop, ← List.drop_drop]
   rw [List.append_assoc, List.append_assoc, List.take_append_drop, List.take_append_drop, List.take_append_drop]⟩
theorem l3.aIo {t t0 t1 t2 t3 : TypeId} {n0 n1 n2 n3 : Nat} {S0 S1 S2 S3 : List Value → Prop} (ht : WS P t = some [(0, t0), (n0, t1), (n0 + n1, t2), (n0 + n1 + n2, t3)]) (h0 : l3 enc P W base sp held t0 n0 S0) (h1 : l3 enc P W base sp held t1 n1 S1) (h2 : l3 enc P W base sp held t2 n2 S2) (h3 : l3 enc P W base sp held t3 n3 S3)
  (hn : P.cellsOf t = n0 + n1 + n2 + n3) : l3 enc P W base sp held t (n0 + n1 + n2 + n3) (fun cs => ∃ a b c d, cs = a ++ b ++ c ++ d ∧ S0 a ∧ S1 b ∧ S2 c ∧ S3 d) := by
 obtain ⟨⟨fs⟩, hu, hf⟩ := QF ht
 have hl : fs.length = 4 := by have := congrArg List.length hf; simpa using this
 match fs, hl with
 | [f0, f1, f2, f3], _ =>
  simp at hf
  obtain ⟨⟨e0, e1⟩, ⟨e2, e3⟩, ⟨e4, e5⟩, e6, e7⟩ := hf
  exact l3.WV (f0 := f0) (f1 := f1) (f2 := f2) (f3 := f3) hu (by rw [e1]; exact h0) (by rw [e3]; exact h1) (by rw [e5]; exact h2) (by rw [e7]; exact h3) e0 e2 e4 e6 hn
theorem l3.slices {α : Type} [Inhabited α] {C : α → List Value} {Q : α → Prop} {t e : TypeId} {n : Nat} (ht : c8 P t = some e) (h0 : 0 < n)
  (he : l3 enc P W base sp held e n (fun cs => ∃ a, cs = C a ∧ Q a)) (hn : P.cellsOf t = 1) :
  l3 enc P W base sp held t 1 (fun cs => ∃ (v : Value) (l : List α), cs = [v] ∧ l.length ≤ 9223372036854775807 ∧ (∀ a ∈ l, Q a) ∧ aJ Nil (fun w => cN w v n l.length (l.flatMap C)) W) := by
 refine ⟨hn, fun fuel cs x hf => ?_⟩
 rcases Deep.open_slice (bX ht) hf with ⟨h, _⟩ | ⟨A, len, cap, m, q, D, Pl, h, _, hle, jT, hm, _, hx⟩
 ·
  subst h
  exact ⟨_, [], rfl, by simp, by simp, fun w' _ => cN.nil w' n⟩
 ·
  subst h
  have hlm : len ≤ m := by rw [hm]; split <;> omega
  obtain ⟨L, hL⟩ := Deep.choose_lt (α := α) (n := len) (p := fun i l => (W.cells? base (A.add (i * n)) n = some (C l)) ∧ Q l) (fun i hi => by
   obtain ⟨cs', h1, h2⟩ := hx i (by omega)
   obtain ⟨l, rfl, hq⟩ := he.2 _ _ _ h2
   rw [he.1] at h1
   exact ⟨l, h1, hq⟩)
  have qC : ∀ i, i < len → (C (L i)).length = n := fun i hi => (World.cells?_some (hL i hi).1).2.1
  have mN : ∀ k, k ≤ len → (((List.range k).map L).flatMap C).length = k * n := by
   intro k
   induction k with
   | zero => intro _; simp
   | succ k ih =>
    intro hk
    rw [List.range_succ, List.map_append, List.flatMap_append, List.length_append, ih (by omega), Nat.succ_mul]
    simp [qC k (by omega)]
  refine ⟨_, (List.range len).map L, rfl, by simp; unfold maxLen at jT; omega, ?_, ?_⟩
  ·
   intro x hx'
   obtain ⟨i, hi, rfl⟩ := List.mem_map.1 hx'
   exact (hL i (List.mem_range.1 hi)).2
  ·
   have hr : dA W A (((List.range len).map L).flatMap C) := by
    have : ∀ k, k ≤ len → dA W A (((List.range k).map L).flatMap C) := by
     intro k
     induction k with
     | zero => intro _ j u hj; simp at hj
     | succ k ih =>
      intro hk j u hj
      rw [List.range_succ, List.map_append, List.flatMap_append] at hj
      rw [List.getElem?_append] at hj
      split at hj
      ·
       exact ih (by omega) j u hj
      ·
       rename_i hge
       rw [mN k (by omega)] at hge hj
       have h1 := (World.cells?_some (hL k (by omega)).1).2.2 (j - k * n)
       simp at hj
       have hlt : j - k * n < n := by
        obtain ⟨h2, _⟩ := List.getElem?_eq_some_iff.1 hj
        rw [qC k (by omega)] at h2; exact h2
       have h3 := h1 hlt
       rw [add_add, show k * n + (j - k * n) = j by omega] at h3
       rw [h3]; exact hj
    exact this len (Nat.le_refl _)
   intro w' hw
   have h2 := QU hr w' hw
   exact ⟨some A, cap, by simp, by simp [mN len (Nat.le_refl _)], by simpa using hle, (fun h => by cases h), fun a ha => by injection ha with ha; subst ha; exact h2⟩
end
end Go.Sp
