/- Part of the proof of this claim: walks through the program's functions and the plain laws that they need, printed by a program of this session. -/
import Derived.Test.YthkombhebdjamaaGreatDoorClose
import Derived.Deep.Strs
namespace Go.Sp
open Go.ChangeShapes Go.WideShapes Go.ChangeAt Go.RowKit
section
variable {H : Type} {enc : TypeId × Value → H} {P : Program} {W : World} {r : Reach} {base b0 : Nat} {sp : Nat → Bool} {held : Bool}
def jB (enc : TypeId × Value → H) (P : Program) (W : World) (base : Nat) (sp : Nat → Bool) (held : Bool) (t : TypeId) (n : Nat) (S : List Value → Prop) : Prop :=
 P.cellsOf t = n ∧ ∀ fuel cs x, DataW.trod enc P W base sp held fuel t cs = some x → S cs
theorem jB.mono {t : TypeId} {n : Nat} {S S' : List Value → Prop} (h : jB enc P W base sp held t n S) (hs : ∀ cs, S cs → S' cs) : jB enc P W base sp held t n S' :=
 ⟨h.1, fun f cs x hx => hs cs (h.2 f cs x hx)⟩
theorem jB.bytes {t e : TypeId} (ht : cT P t = some e) (he : fC P e = some .u8) (hc : P.cellsOf e = 1) (hn : P.cellsOf t = 1) :
  jB enc P W base sp held t 1 (fun cs => ∃ v l, cs = [v] ∧ l.length ≤ 9223372036854775807 ∧ aH Nil (bI v l) W) :=
 ⟨hn, fun _ _ _ h => HH ht he hc h⟩
theorem jB.int {t : TypeId} {k : IntKind} (ht : fC P t = some k) (hn : P.cellsOf t = 1) : jB enc P W base sp held t 1 (fun cs => ∃ z, cs = [.int k z] ∧ (Lit.int k z).wf = true) :=
 ⟨hn, fun _ _ _ h => by obtain ⟨z, e1, _, e3⟩ := DataW.trod_int (fD ht) h; exact ⟨z, e1, e3⟩⟩
theorem jB.bool {t : TypeId} (ht : P.underlying t = some .bool) (hn : P.cellsOf t = 1) : jB enc P W base sp held t 1 (fun cs => ∃ b, cs = [.bool b]) :=
 ⟨hn, fun fuel cs x h => by
  cases fuel with
  | zero => simp [DataW.trod] at h
  | succ m =>
   unfold DataW.trod at h
   rw [ht] at h
   split at h <;> simp_all⟩
theorem jB.u8s {t e : TypeId} {n : Nat} (ht : eC P t = some (n, e)) (he : fC P e = some .u8) (hc : P.cellsOf e = 1) (ha : P.cellsOf t = n) :
  jB enc P W base sp held t n (fun cs => ∃ k : List UInt8, k.length = n ∧ cs = kc k) :=
 ⟨ha, fun fuel cs x h => by
  obtain ⟨xs, m, rfl, rfl, hl, hn, hel⟩ := DataW.trod_array (dU ht) h
  refine ⟨cs.map fun v => match v with | .int _ z => UInt8.ofNat z.toNat | _ => 0, by simp [hl, ha], ?_⟩
  unfold kc
  rw [List.map_map]
  symm
  conv => rhs; rw [← List.map_id cs]
  apply List.map_congr_left
  intro v hv
  obtain ⟨i, hi, rfl⟩ := List.getElem_of_mem hv
  have hi' : i < n := by omega
  have h3 := hel i hi'
  rw [hc, kM cs i hi, List.getElem?_eq_getElem (by omega)] at h3
  obtain ⟨z, e1, _, e3⟩ := DataW.trod_int (fD he) h3
  simp at e1
  rw [e1]
  simp only [Function.comp, id]
  rw [YS e3]⟩
theorem jB.UO {t : TypeId} {f0 f1 : Field} {n0 n1 : Nat} {S0 S1 : List Value → Prop} (ht : P.underlying t = some (.struct #[f0, f1])) (h0 : jB enc P W base sp held f0.type n0 S0) (h1 : jB enc P W base sp held f1.type n1 S1)
  (o0 : f0.offset = 0) (o1 : f1.offset = n0) (hn : P.cellsOf t = n0 + n1) : jB enc P W base sp held t (n0 + n1) (fun cs => ∃ a b, cs = a ++ b ∧ S0 a ∧ S1 b) :=
 ⟨hn, fun fuel cs x h => by
  obtain ⟨y0, y1, n, rfl, hl, e0, e1⟩ := trod_struct2 ht h
  refine ⟨_, _, ?_, h0.2 _ _ _ e0, h1.2 _ _ _ e1⟩
  rw [o0, o1, h0.1, h1.1, List.drop_zero, List.take_of_length_le (l := cs.drop n0) (by simp; omega), List.take_append_drop]⟩
theorem jB.UN {t : TypeId} {f0 f1 f2 : Field} {n0 n1 n2 : Nat} {S0 S1 S2 : List Value → Prop} (ht : P.underlying t = some (.struct #[f0, f1, f2])) (h0 : jB enc P W base sp held f0.type n0 S0) (h1 : jB enc P W base sp held f1.type n1 S1) (h2 : jB enc P W base sp held f2.type n2 S2)
  (o0 : f0.offset = 0) (o1 : f1.offset = n0) (o2 : f2.offset = n0 + n1) (hn : P.cellsOf t = n0 + n1 + n2) : jB enc P W base sp held t (n0 + n1 + n2) (fun cs => ∃ a b c, cs = a ++ b ++ c ∧ S0 a ∧ S1 b ∧ S2 c) :=
 ⟨hn, fun fuel cs x h => by
  obtain ⟨y0, y1, y2, n, rfl, hl, e0, e1, e2⟩ := Deep.trod_struct3 ht h
  refine ⟨_, _, _, ?_, h0.2 _ _ _ e0, h1.2 _ _ _ e1, h2.2 _ _ _ e2⟩
  rw [o0, o1, o2, h0.1, h1.1, h2.1, List.drop_zero, List.take_of_length_le (l := cs.drop (n0 + n1)) (by simp; omega), ← List.drop_drop]
  rw [List.append_assoc, List.take_append_drop, List.take_append_drop]⟩
def K4 (P : Program) (t : TypeId) : Option (List (Nat × TypeId)) := match P.underlying t with
 | some (.struct fs) => some (fs.toList.map fun f => (f.offset, f.type))
 | _ => none
theorem F0 {t : TypeId} {l : List (Nat × TypeId)} (h : K4 P t = some l) : ∃ fs : Array Field, P.underlying t = some (.struct fs) ∧ fs.toList.map (fun f => (f.offset, f.type)) = l := by
 unfold K4 at h
 split at h
 ·
  rename_i fs hf
  injection h with h
  exact ⟨fs, hf, h⟩
 ·
  cases h
theorem jB.aG4 {t t0 t1 : TypeId} {n0 n1 : Nat} {S0 S1 : List Value → Prop} (ht : K4 P t = some [(0, t0), (n0, t1)]) (h0 : jB enc P W base sp held t0 n0 S0) (h1 : jB enc P W base sp held t1 n1 S1)
  (hn : P.cellsOf t = n0 + n1) : jB enc P W base sp held t (n0 + n1) (fun cs => ∃ a b, cs = a ++ b ∧ S0 a ∧ S1 b) := by
 obtain ⟨⟨fs⟩, hu, hf⟩ := F0 ht
 have hl : fs.length = 2 := by have := congrArg List.length hf; simpa using this
 match fs, hl with
 | [f0, f1], _ =>
  simp at hf
  obtain ⟨⟨e0, e1⟩, e2, e3⟩ := hf
  exact jB.UO (f0 := f0) (f1 := f1) hu (by rw [e1]; exact h0) (by rw [e3]; exact h1) e0 e2 hn
theorem jB.aG3 {t t0 t1 t2 : TypeId} {n0 n1 n2 : Nat} {S0 S1 S2 : List Value → Prop} (ht : K4 P t = some [(0, t0), (n0, t1), (n0 + n1, t2)]) (h0 : jB enc P W base sp held t0 n0 S0) (h1 : jB enc P W base sp held t1 n1 S1) (h2 : jB enc P W base sp held t2 n2 S2)
  (hn : P.cellsOf t = n0 + n1 + n2) : jB enc P W base sp held t (n0 + n1 + n2) (fun cs => ∃ a b c, cs = a ++ b ++ c ∧ S0 a ∧ S1 b ∧ S2 c) := by
 obtain ⟨⟨fs⟩, hu, hf⟩ := F0 ht
 have hl : fs.length = 3 := by have := congrArg List.length hf; simpa using this
 match fs, hl with
 | [f0, f1, f2], _ =>
  simp at hf
  obtain ⟨⟨e0, e1⟩, ⟨e2, e3⟩, e4, e5⟩ := hf
  exact jB.UN (f0 := f0) (f1 := f1) (f2 := f2) hu (by rw [e1]; exact h0) (by rw [e3]; exact h1) (by rw [e5]; exact h2) e0 e2 e4 hn
theorem DN {α : Type} [Inhabited α] {C : α → List Value} {Q : α → Prop} {t e : TypeId} {n : Nat} {v : Value} {d : DataW H} {ps : List MemPlace} (ht : cT P t = some e) (h0 : 0 < n)
  (he : jB enc P W base sp held e n (fun cs => ∃ a, cs = C a ∧ Q a)) (hval : Value.okWide P W r b0 t v) (hd : DataW.Trod enc P W base sp held t v d ps) :
  ∃ l : List α, l.length ≤ 9223372036854775807 ∧ (∀ a ∈ l, Q a) ∧ aH Nil (fun w => cR w v n l.length (l.flatMap C)) W := by
 obtain ⟨a, len, cap, rfl⟩ := okWide_slice (bS ht) hval
 obtain ⟨fuel, hf⟩ := hd
 rcases Deep.open_slice (bS ht) hf with ⟨h, _⟩ | ⟨A, len', cap', m, q, D, Pl, h, _, hle, jE, hm, _, hx⟩
 ·
  simp [Value.cells] at h
  obtain ⟨rfl, rfl, rfl⟩ := h
  exact ⟨[], by simp, by simp, fun w' _ => cR.nil w' n⟩
 ·
  simp [Value.cells] at h
  obtain ⟨rfl, rfl, rfl⟩ := h
  have hlm : len ≤ m := by rw [hm]; split <;> omega
  obtain ⟨L, hL⟩ := Deep.choose_lt (α := α) (n := len) (p := fun i l => (W.cells? base (A.add (i * n)) n = some (C l)) ∧ Q l) (fun i hi => by
   obtain ⟨cs', h1, h2⟩ := hx i (by omega)
   obtain ⟨l, rfl, hq⟩ := he.2 _ _ _ h2
   rw [he.1] at h1
   exact ⟨l, h1, hq⟩)
  have pU : ∀ i, i < len → (C (L i)).length = n := fun i hi => (World.cells?_some (hL i hi).1).2.1
  have hlen : (((List.range len).map L).flatMap C).length = len * n := by
   have : ∀ k, k ≤ len → (((List.range k).map L).flatMap C).length = k * n := by
    intro k
    induction k with
    | zero => intro _; simp
    | succ k ih =>
     intro hk
     rw [List.range_succ, List.map_append, List.flatMap_append, List.length_append, ih (by omega), Nat.succ_mul]
     simp [pU k (by omega)]
   exact this len (Nat.le_refl _)
  refine ⟨(List.range len).map L, by simp; unfold maxLen at jE; omega, ?_, ?_⟩
  ·
   intro x hx'
   obtain ⟨i, hi, rfl⟩ := List.mem_map.1 hx'
   exact (hL i (List.mem_range.1 hi)).2
  ·
   have hr : cX W A (((List.range len).map L).flatMap C) := by
    have : ∀ k, k ≤ len → cX W A (((List.range k).map L).flatMap C) := by
     intro k
     induction k with
     | zero => intro _ j u hj; simp at hj
     | succ k ih =>
      intro hk j u hj
      have lX : (((List.range k).map L).flatMap C).length = k * n := by
       have : ∀ k, k ≤ len → (((List.range k).map L).flatMap C).length = k * n := by
        intro k
        induction k with
        | zero => intro _; simp
        | succ k ih =>
         intro hk
         rw [List.range_succ, List.map_append, List.flatMap_append, List.length_append, ih (by omega), Nat.succ_mul]
         simp [pU k (by omega)]
       exact this k (by omega)
      rw [List.range_succ, List.map_append, List.flatMap_append] at hj
      rw [List.getElem?_append] at hj
      split at hj
      ·
       exact ih (by omega) j u hj
      ·
       rename_i hge
       rw [lX] at hge hj
       have h1 := (World.cells?_some (hL k (by omega)).1).2.2 (j - k * n)
       simp at hj
       have hlt : j - k * n < n := by
        obtain ⟨h2, _⟩ := List.getElem?_eq_some_iff.1 hj
        rw [pU k (by omega)] at h2; exact h2
       have h3 := h1 hlt
       rw [add_add, show k * n + (j - k * n) = j by omega] at h3
       rw [h3]; exact hj
    exact this len (Nat.le_refl _)
   intro w' hw
   have h2 := OM hr w' hw
   exact ⟨some A, cap, by simp, by simp [hlen], by simpa using hle, (fun h => by cases h), fun a ha => by injection ha with ha; subst ha; exact h2⟩
theorem DO {t : TypeId} {v : Value} (hu : cW P t = some true) (hval : Value.okWide P W r b0 t v) : ∃ cs : List Value, v = .agg cs.toArray := by
 unfold Value.okWide at hval
 unfold cW at hu
 cases hx : P.underlying t with
 | none => rw [hx] at hu; cases hu
 | some u =>
  rw [hx] at hu hval
  cases u <;> first | (obtain ⟨cs, rfl, _⟩ := hval; exact ⟨cs.toList, rfl⟩) | (simp at hu)
theorem PE {t : TypeId} {n : Nat} {S : List Value → Prop} {v : Value} {d : DataW H} {ps : List MemPlace} (hu : cW P t = some true) (h : jB enc P W base sp held t n S) (hval : Value.okWide P W r b0 t v) (hd : DataW.Trod enc P W base sp held t v d ps) :
  ∃ cs, v = .agg cs.toArray ∧ S cs := by
 obtain ⟨cs, rfl⟩ := DO hu hval
 obtain ⟨fuel, hf⟩ := hd
 exact ⟨cs, rfl, h.2 _ _ _ hf⟩
end
end Go.Sp
