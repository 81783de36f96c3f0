/- Part of the proof of this claim: walks through the program's functions and the plain laws that they need, printed by a program of this session. -/
import Derived.Test.YthkombhebdjamaaGreatDoorMade
import Derived.ProofKit
import Derived.OpenShut
import Derived.JoinedCond
import Derived.Deep.Slices
namespace Go.Sp
open Go.ChangeShapes Go.WideShapes Go.ChangeAt Go.RowKit
theorem aDX {z : Int} (h : (Lit.int .u8 z).wf = true) : (((UInt8.ofNat z.toNat).toNat : Nat) : Int) = z := by
 have hx : 0 ≤ z ∧ z ≤ 255 := by simpa [Lit.wf, IntKind.min, IntKind.max, IntKind.signed, IntKind.bits] using h
 simp
 omega
theorem aJ.aEB {v : Value} {l : List UInt8} {W : World} {a : Addr} {n c : Nat} (hv : v = .slice (some a) n c) (h : dA W a (kc l)) (hn : l.length = n) (hc : n ≤ c) : aJ Nil (bJ v l) W := fun w' hw => by
 subst hv
 refine bJ.nY ?_ hn hc
 by_cases h0 : l.length = 0
 ·
  have : l = [] := List.eq_nil_of_length_eq_zero h0
  subst this
  intro j v hj
  simp [kc] at hj
 ·
  have hlt := dA.yR h (by rw [aI]; omega)
  exact h.of_eq (hw _ hlt id)
section
variable {H : Type} {enc : TypeId × Value → H} {P : Program} {W : World} {r : Reach} {base b0 : Nat} {sp : Nat → Bool} {held : Bool}
theorem zJ (hl : laidOutB P = true) {W' : World} (hb : Below W.heap.size W W') : ∀ (ts : List TypeId) (vs : List Value) (ds : List (DataW H)) (ps : List MemPlace),
  (∀ t ∈ ts, P.readableRec t = true ∧ t < P.types.size) → DataW.TrodAll enc P W 0 (fun _ => true) true ts vs ds ps → (∀ x ∈ ps, x.block < W.heap.size) →
  DataW.TrodAll enc P W' 0 (fun b => decide (b < W.heap.size)) true ts vs ds ps := by
 intro ts
 induction ts with
 | nil =>
  intro vs ds ps _ h _
  obtain ⟨rfl, rfl, rfl⟩ := trodAll_nil h
  exact trodAll_mk0
 | cons t ts ih =>
  intro vs ds ps hr h hlt
  obtain ⟨v0, vs0, d0, ds0, p0, q0, rfl, rfl, rfl, h0, r0⟩ := trodAll_cons h
  have R9 := hr t (List.mem_cons_self ..)
  exact trodAll_cons_mk (Below.trod hl R9.1 R9.2 h0 hb fun x hx => hlt x (List.mem_append_left _ hx)) (ih vs0 ds0 q0 (fun t ht => hr t (List.mem_cons_of_mem _ ht)) r0 fun x hx => hlt x (List.mem_append_right _ hx))
theorem OH {f : Func} {s : ChangeSpec} {W' : World} {args : Array Value} {ds gs : List (DataW H)} {before : List MemPlace} {tb : TypeId} (hl : laidOutB P = true) (hp : ∀ t ∈ f.params.toList, P.readableRec t = true ∧ t < P.types.size)
  (hW : DataW.Whole enc P f.params.toList s.vars false W args.toList ds gs before) (hv : s.vars = []) (hb : Below W.heap.size W W') (hr : f.resultTypes = #[tb]) (htb : P.underlying tb = some .bool)
  (h1 : (s.fn H (ds ++ gs)).results = [.lit (.bool true)]) (h2 : (s.fn H (ds ++ gs)).args = ds) (h3 : (s.fn H (ds ++ gs)).vars = []) : s.post enc P f false true false false W args (.bool true) W' := by
 have hW' := hW
 obtain ⟨p, q, hA, hV, rfl, hfz, hnd⟩ := hW
 refine ⟨ds, gs, p ++ q, [], p, [], hW', ?_, ?_, ?_, hb.frame _, fun h => by cases h⟩
 ·
  rw [h1, hr]
  exact trodAll_mk1 (shut_bool htb _)
 ·
  rw [h2]
  exact zJ hl hb _ _ _ _ hp hA fun x hx => by simpa using hW'.lt x (List.mem_append_left _ hx)
 ·
  rw [h3, hv]
  rfl
end
theorem NJ {H : Type} {enc : TypeId × Value → H} {P : Program} {W : World} {base : Nat} {sp : Nat → Bool} {held : Bool} {fuel n : Nat} {t e : TypeId} {k : IntKind} {cs : List Value} {p : List MemPlace} (zs : List Int)
  (ht : P.underlying t = some (.array n e)) (he : P.underlying e = some (.int k)) (hc : P.cellsOf e = 1) (ha : P.cellsOf t = n) (hd : DataW.trod enc P W base sp held fuel t cs = some (.agg (zs.map fun z => .lit (.int k z)), p)) : cs = zs.map fun z => .int k z := by
 obtain ⟨xs, m, rfl, hx, hl, hn, hel⟩ := DataW.trod_array ht hd
 simp only [Prod.mk.injEq, DataW.agg.injEq] at hx
 have hx1 := hx.1
 have hlen : zs.length = n := by rw [← hn]; have := congrArg List.length hx1; simpa using this
 apply List.ext_getElem
 ·
  simp [hl, ha, hlen]
 ·
  intro i h1 h2
  have hi : i < n := by rw [hl, ha] at h1; exact h1
  have h3 := hel i hi
  rw [hc, k5 cs i h1, List.getElem?_eq_getElem (by omega)] at h3
  obtain ⟨z, e1, e2, _⟩ := DataW.trod_int he h3
  have h4 : (zs.map fun z => (DataW.lit (Lit.int k z) : DataW H))[i]? = (xs.map (·.1))[i]? := by rw [hx1]
  rw [List.getElem?_map, List.getElem?_map, List.getElem?_eq_getElem (by omega), List.getElem?_eq_getElem (by omega)] at h4
  simp only [Option.map_some, Option.some.injEq] at h4
  rw [e2] at h4
  simp at h4
  simp at e1
  simp [e1, h4]
theorem AJ {W : World} {g : Nat} {l : List Value} (h : ∀ i, W.cell? ⟨g, i, none⟩ = l[i]?) : aJ Nil (fun w => dA w ⟨g, 0, none⟩ l) W := fun w' hw j v hv => by
 rw [mJ, Nat.zero_add]
 have h1 := h j
 rw [hv] at h1
 have hlt := block_lt_of_cell h1
 rw [World.cell?_of_block (w := W) (hw _ hlt id)]
 exact h1
section
variable {H : Type} {enc : TypeId × Value → H} {P : Program} {W : World} {r : Reach} {base b0 : Nat} {sp : Nat → Bool} {held : Bool}
theorem QU {a : Addr} {l : List Value} (h : dA W a l) : aJ Nil (fun w => dA w a l) W := fun w' hw => by
 by_cases h0 : l.length = 0
 ·
  have : l = [] := List.eq_nil_of_length_eq_zero h0
  subst this
  intro j v hj
  simp at hj
 ·
  exact h.of_eq (hw _ (dA.yR h (by omega)) id)
theorem JK {t e : TypeId} {fuel : Nat} {cs : List Value} {x : DataW H × List MemPlace} (ht : c8 P t = some e) (he : fR P e = some .u8) (hc : P.cellsOf e = 1) (h : DataW.trod enc P W base sp held fuel t cs = some x) :
  ∃ v l, cs = [v] ∧ l.length ≤ 9223372036854775807 ∧ aJ Nil (bJ v l) W := by
 rcases open_ints (bX ht) (gB he) hc h with ⟨rfl, _⟩ | ⟨A, len, cap, zs, rfl, _, hle, jT, hlen, _, aFh, hwf⟩
 ·
  exact ⟨_, [], rfl, by simp, fun w' _ => bJ.nil w'⟩
 ·
  have hzl : len ≤ zs.length := by rw [hlen]; split <;> omega
  have hk : kc ((zs.take len).map fun z => UInt8.ofNat z.toNat) = (zs.take len).map fun z => .int .u8 z := by
   unfold kc
   rw [List.map_map]
   apply List.map_congr_left
   intro z hz
   simp only [Function.comp]
   rw [aDX (hwf z (List.mem_of_mem_take hz))]
  refine ⟨_, (zs.take len).map fun z => UInt8.ofNat z.toNat, rfl, by simp; unfold maxLen at jT; omega, aJ.aEB rfl ?_ (by simp; omega) hle⟩
  rw [hk]
  intro j v hj
  rw [List.getElem?_map, List.getElem?_take] at hj
  split at hj
  ·
   rename_i hj2
   have := aFh j (by omega)
   rw [List.getElem?_eq_getElem (by omega)] at hj
   simp at hj
   rw [this, ← hj]
   simp [List.getElem?_eq_getElem (show j < zs.length by omega)]
  ·
   simp at hj
end
end Go.Sp
