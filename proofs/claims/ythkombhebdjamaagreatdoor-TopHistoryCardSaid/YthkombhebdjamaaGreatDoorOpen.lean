/- Part of the proof of this claim: walks through the program's functions and the plain laws that they need, printed by a program of this session. -/
import Derived.Test.YthkombhebdjamaaGreatDoorClose
import Derived.Deep.Strs
namespace Go.Sp
open Go.ChangeShapes Go.WideShapes Go.ChangeAt Go.RowKit
section
variable {H : Type} {enc : TypeId × Value → H} {P : Program} {W : World} {r : Reach} {base b0 : Nat} {sp : Nat → Bool} {held : Bool}
def l3 (enc : TypeId × Value → H) (P : Program) (W : World) (base : Nat) (sp : Nat → Bool) (held : Bool) (t : TypeId) (n : Nat) (S : List Value → Prop) : Prop :=
 P.cellsOf t = n ∧ ∀ fuel cs x, DataW.trod enc P W base sp held fuel t cs = some x → S cs
theorem l3.mono {t : TypeId} {n : Nat} {S S' : List Value → Prop} (h : l3 enc P W base sp held t n S) (hs : ∀ cs, S cs → S' cs) : l3 enc P W base sp held t n S' :=
 ⟨h.1, fun f cs x hx => hs cs (h.2 f cs x hx)⟩
theorem l3.bytes {t e : TypeId} (ht : c8 P t = some e) (he : fR P e = some .u8) (hc : P.cellsOf e = 1) (hn : P.cellsOf t = 1) :
  l3 enc P W base sp held t 1 (fun cs => ∃ v l, cs = [v] ∧ l.length ≤ 9223372036854775807 ∧ aJ Nil (bJ v l) W) :=
 ⟨hn, fun _ _ _ h => JK ht he hc h⟩
theorem l3.int {t : TypeId} {k : IntKind} (ht : fR P t = some k) (hn : P.cellsOf t = 1) : l3 enc P W base sp held t 1 (fun cs => ∃ z, cs = [.int k z] ∧ (Lit.int k z).wf = true) :=
 ⟨hn, fun _ _ _ h => by obtain ⟨z, e1, _, e3⟩ := DataW.trod_int (gB ht) h; exact ⟨z, e1, e3⟩⟩
theorem l3.bool {t : TypeId} (ht : P.underlying t = some .bool) (hn : P.cellsOf t = 1) : l3 enc P W base sp held t 1 (fun cs => ∃ b, cs = [.bool b]) :=
 ⟨hn, fun fuel cs x h => by
  cases fuel with
  | zero => simp [DataW.trod] at h
  | succ m =>
   unfold DataW.trod at h
   rw [ht] at h
   split at h <;> simp_all⟩
theorem l3.WW {t : TypeId} {f0 f1 f2 : Field} {n0 n1 n2 : Nat} {S0 S1 S2 : List Value → Prop} (ht : P.underlying t = some (.struct #[f0, f1, f2])) (h0 : l3 enc P W base sp held f0.type n0 S0) (h1 : l3 enc P W base sp held f1.type n1 S1) (h2 : l3 enc P W base sp held f2.type n2 S2)
  (o0 : f0.offset = 0) (o1 : f1.offset = n0) (o2 : f2.offset = n0 + n1) (hn : P.cellsOf t = n0 + n1 + n2) : l3 enc P W base sp held t (n0 + n1 + n2) (fun cs => ∃ a b c, cs = a ++ b ++ c ∧ S0 a ∧ S1 b ∧ S2 c) :=
 ⟨hn, fun fuel cs x h => by
  obtain ⟨y0, y1, y2, n, rfl, hl, e0, e1, e2⟩ := Deep.trod_struct3 ht h
  refine ⟨_, _, _, ?_, h0.2 _ _ _ e0, h1.2 _ _ _ e1, h2.2 _ _ _ e2⟩
  rw [o0, o1, o2, h0.1, h1.1, h2.1, List.drop_zero, List.take_of_length_le (l := cs.drop (n0 + n1)) (by simp; omega), ← List.drop_drop]
  rw [List.append_assoc, List.take_append_drop, List.take_append_drop]⟩
def WS (P : Program) (t : TypeId) : Option (List (Nat × TypeId)) := match P.underlying t with
 | some (.struct fs) => some (fs.toList.map fun f => (f.offset, f.type))
 | _ => none
theorem QF {t : TypeId} {l : List (Nat × TypeId)} (h : WS P t = some l) : ∃ fs : Array Field, P.underlying t = some (.struct fs) ∧ fs.toList.map (fun f => (f.offset, f.type)) = l := by
 unfold WS at h
 split at h
 ·
  rename_i fs hf
  injection h with h
  exact ⟨fs, hf, h⟩
 ·
  cases h
theorem l3.aIp {t t0 t1 t2 : TypeId} {n0 n1 n2 : Nat} {S0 S1 S2 : List Value → Prop} (ht : WS P t = some [(0, t0), (n0, t1), (n0 + n1, t2)]) (h0 : l3 enc P W base sp held t0 n0 S0) (h1 : l3 enc P W base sp held t1 n1 S1) (h2 : l3 enc P W base sp held t2 n2 S2)
  (hn : P.cellsOf t = n0 + n1 + n2) : l3 enc P W base sp held t (n0 + n1 + n2) (fun cs => ∃ a b c, cs = a ++ b ++ c ∧ S0 a ∧ S1 b ∧ S2 c) := by
 obtain ⟨⟨fs⟩, hu, hf⟩ := QF ht
 have hl : fs.length = 3 := by have := congrArg List.length hf; simpa using this
 match fs, hl with
 | [f0, f1, f2], _ =>
  simp at hf
  obtain ⟨⟨e0, e1⟩, ⟨e2, e3⟩, e4, e5⟩ := hf
  exact l3.WW (f0 := f0) (f1 := f1) (f2 := f2) hu (by rw [e1]; exact h0) (by rw [e3]; exact h1) (by rw [e5]; exact h2) e0 e2 e4 hn
theorem EU {α : Type} [Inhabited α] {C : α → List Value} {Q : α → Prop} {t e : TypeId} {n : Nat} {v : Value} {d : DataW H} {ps : List MemPlace} (ht : c8 P t = some e) (h0 : 0 < n)
  (he : l3 enc P W base sp held e n (fun cs => ∃ a, cs = C a ∧ Q a)) (hval : Value.okWide P W r b0 t v) (hd : DataW.Trod enc P W base sp held t v d ps) :
  ∃ l : List α, l.length ≤ 9223372036854775807 ∧ (∀ a ∈ l, Q a) ∧ aJ Nil (fun w => cN w v n l.length (l.flatMap C)) W := by
 obtain ⟨a, len, cap, rfl⟩ := okWide_slice (bX ht) hval
 obtain ⟨fuel, hf⟩ := hd
 rcases Deep.open_slice (bX ht) hf with ⟨h, _⟩ | ⟨A, len', cap', m, q, D, Pl, h, _, hle, jT, hm, _, hx⟩
 ·
  simp [Value.cells] at h
  obtain ⟨rfl, rfl, rfl⟩ := h
  exact ⟨[], by simp, by simp, fun w' _ => cN.nil w' n⟩
 ·
  simp [Value.cells] at h
  obtain ⟨rfl, rfl, rfl⟩ := h
  have hlm : len ≤ m := by rw [hm]; split <;> omega
  obtain ⟨L, hL⟩ := Deep.choose_lt (α := α) (n := len) (p := fun i l => (W.cells? base (A.add (i * n)) n = some (C l)) ∧ Q l) (fun i hi => by
   obtain ⟨cs', h1, h2⟩ := hx i (by omega)
   obtain ⟨l, rfl, hq⟩ := he.2 _ _ _ h2
   rw [he.1] at h1
   exact ⟨l, h1, hq⟩)
  have qC : ∀ i, i < len → (C (L i)).length = n := fun i hi => (World.cells?_some (hL i hi).1).2.1
  have hlen : (((List.range len).map L).flatMap C).length = len * n := by
   have : ∀ k, k ≤ len → (((List.range k).map L).flatMap C).length = k * n := by
    intro k
    induction k with
    | zero => intro _; simp
    | succ k ih =>
     intro hk
     rw [List.range_succ, List.map_append, List.flatMap_append, List.length_append, ih (by omega), Nat.succ_mul]
     simp [qC k (by omega)]
   exact this len (Nat.le_refl _)
  refine ⟨(List.range len).map L, by simp; unfold maxLen at jT; omega, ?_, ?_⟩
  ·
   intro x hx'
   obtain ⟨i, hi, rfl⟩ := List.mem_map.1 hx'
   exact (hL i (List.mem_range.1 hi)).2
  ·
   have hr : dA W A (((List.range len).map L).flatMap C) := by
    have : ∀ k, k ≤ len → dA W A (((List.range k).map L).flatMap C) := by
     intro k
     induction k with
     | zero => intro _ j u hj; simp at hj
     | succ k ih =>
      intro hk j u hj
      have mN : (((List.range k).map L).flatMap C).length = k * n := by
       have : ∀ k, k ≤ len → (((List.range k).map L).flatMap C).length = k * n := by
        intro k
        induction k with
        | zero => intro _; simp
        | succ k ih =>
         intro hk
         rw [List.range_succ, List.map_append, List.flatMap_append, List.length_append, ih (by omega), Nat.succ_mul]
         simp [qC k (by omega)]
       exact this k (by omega)
      rw [List.range_succ, List.map_append, List.flatMap_append] at hj
      rw [List.getElem?_append] at hj
      split at hj
      ·
       exact ih (by omega) j u hj
      ·
       rename_i hge
       rw [mN] at hge hj
       have h1 := (World.cells?_some (hL k (by omega)).1).2.2 (j - k * n)
       simp at hj
       have hlt : j - k * n < n := by
        obtain ⟨h2, _⟩ := List.getElem?_eq_some_iff.1 hj
        rw [qC k (by omega)] at h2; exact h2
       have h3 := h1 hlt
       rw [add_add, show k * n + (j - k * n) = j by omega] at h3
       rw [h3]; exact hj
    exact this len (Nat.le_refl _)
   intro w' hw
   have h2 := QU hr w' hw
   exact ⟨some A, cap, by simp, by simp [hlen], by simpa using hle, (fun h => by cases h), fun a ha => by injection ha with ha; subst ha; exact h2⟩
end
end Go.Sp
