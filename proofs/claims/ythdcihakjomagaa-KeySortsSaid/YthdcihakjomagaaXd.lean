/- Walks of functions, printed by a program of this session (gen.py) from notes on each function. -/
import Derived.Test.YthdcihakjomagaaXc
set_option maxRecDepth 100000
set_option maxHeartbeats 1000000
set_option linter.unusedVariables false
set_option linter.unusedSimpArgs false
namespace Go.Sp.Try
open Go.Proofs Go.RowKit Go.Sp

open Go.Sort Go.Lib
theorem onCells_some {f : Array Value → Array Value} {c : Array Value} {e : TypeId} {p : Nat × Nat} : onCells f (.cells c e p) = .cells (f c) e p := rfl
theorem putRow_at {w : World} {g : Nat} {d : Array Value} {cur : Array Value} {e : TypeId} {p : Nat × Nat} (h : w.heap[g]? = some (.cells cur e p)) : (putRow id w g 0 d).heap[g]? = some (.cells (putCells id 0 d cur) e p) := by
  unfold putRow mapBlock
  show (w.heap.modify g _)[g]? = _
  rw [Array.getElem?_modify, if_pos rfl, h]; rfl
theorem putRow_off {w : World} {g b : Nat} {d : Array Value} (hb : b ≠ g) : (putRow id w g 0 d).heap[b]? = w.heap[b]? := by
  unfold putRow mapBlock
  show (w.heap.modify g _)[b]? = _
  rw [Array.getElem?_modify, if_neg (fun h => hb h.symm)]
theorem putCells_take {d cur : Array Value} (h : d.size ≤ cur.size) : (putCells id 0 d cur).size = cur.size ∧ (putCells id 0 d cur).toList.take d.size = d.toList := by
  have hs : (putCells id 0 d cur).size = cur.size := by simp [putCells]
  refine ⟨hs, List.ext_getElem? fun i => ?_⟩
  rw [List.getElem?_take]
  split
  · rename_i hi
    rw [Array.getElem?_toList, Array.getElem?_toList, Array.getElem?_eq_getElem (by omega), Array.getElem?_eq_getElem hi]
    unfold putCells
    rw [Array.getElem_mapIdx, if_pos ⟨Nat.zero_le _, by omega⟩]
    show some d[i - 0]! = _
    rw [Nat.sub_zero, getElem!_pos d i hi]
  · rename_i hi
    rw [Array.getElem?_toList, Array.getElem?_eq_none (by omega)]
theorem sortL_len (ks : List (List UInt8)) : (sortL ks).length = ks.length := (List.mergeSort_perm _ _).length_eq
theorem sortL_k32 {ks : List (List UInt8)} (h : K32 ks) : K32 (sortL ks) := fun k hk => h k ((List.mergeSort_perm _ _).mem_iff.1 hk)
theorem SortFunc_c {w : World} {base : Nat} {v : Value} {ks : List (List UInt8)} (hown : w.ownsRow base 24 32 v ks.length (ks.flatMap kc)) (hk : K32 ks) (hlen : ks.length ≤ 1000000) :
    Ret Try.prog 41 [v, .func (.func 30) #[] #[]].toArray w fun r w' => r = .tuple #[] ∧ Out (fun b => v.ownBlock = some b) w w' ∧ w'.ownsRow base 24 32 v ks.length ((sortL ks).flatMap kc) := by
  refine Ret.of_calls ?_
  obtain ⟨h1, ⟨rfl, h2⟩ | ⟨g, cap, cur, rfl, hg, hcur, hcap, hmax, hsz, htake⟩⟩ := hown
  · have h3 : ks = [] := List.eq_nil_of_length_eq_zero h2
    subst h3
    refine (AnyF.slices_SortFunc_none (P := Try.prog) (ρ := Try.sortK_ren) { Try.sortK with } none 0 (.func (.func 30) #[] #[]) w).mono ?_
    rintro e w' ⟨rfl, rfl⟩
    exact ⟨_, rfl, rfl, Out.refl _ _, by simp [sortL], .inl ⟨rfl, rfl⟩⟩
  · obtain ⟨d, hd⟩ : ∃ d : Array Key32, d = (wrapK ks hk).toArray := ⟨_, rfl⟩
    have hds : d.size = ks.length := by rw [hd]; simp [wrapK_len]
    have hdv : d.toList.map (·.1) = ks := by rw [hd]; exact wrapK_val ks hk
    have hgl : g < w.heap.size := by
      rcases Nat.lt_or_ge g w.heap.size with h | h
      · exact h
      · rw [Array.getElem?_eq_none h] at hcur; cases hcur
    have hH : HoldsK encK 32 w g 0 d := fun j hj => by
      rw [size_flatK] at hj
      have h3 := flatK_get d j hj
      rw [hdv, ← htake, List.getElem?_take_of_lt (by omega), Array.getElem?_toList] at h3
      refine ⟨?_, ?_⟩
      · show w.cell? ⟨g, 0 + j, none⟩ = some ((flatK encK 32 d)[j]!)
        rw [h3, Nat.zero_add]
        simp [World.cell?, hcur]
      · simp [World.frozen?, hcur]
    have hcon := AnyQ.slices_SortFunc_total Try.sortK 32 (fun w => run_isAgg TryT.ag24 w) (fun w => run_sizeOf' TryT.sz24 w) encK encK_len (fun x v hv => kc_one x.1 v hv) cfK swoK 30 #[] g 0 cap d w (fun args w => run_callFunc TryT.fb30 args w) cmpLaysK hH hgl (by rw [hds]; omega) totK
    rw [hds] at hcon
    refine hcon.mono ?_
    rintro e w' ⟨rfl, n, os, rfl⟩
    obtain ⟨sd, hsd⟩ : ∃ sd : Array Key32, sd = (d.toList.mergeSort fun x y => !(ltOf cfK) y x).toArray := ⟨_, rfl⟩
    rw [← hsd]
    have hsv : sd.toList.map (·.1) = sortL ks := by rw [hsd, List.toList_toArray, sort_val, hdv]
    have hss : sd.size = ks.length := by have h_ := congrArg List.length hsv; rw [List.length_map, sortL_len] at h_; simpa using h_
    have hfl : (flatK encK 32 sd).toList = (sortL ks).flatMap kc := List.ext_getElem? fun j => by
      rcases Nat.lt_or_ge j (sd.size * 32) with hj | hj
      · have h3 := flatK_get sd j hj
        rw [hsv] at h3
        rw [← h3, Array.getElem?_toList, Array.getElem?_eq_getElem (by rw [size_flatK]; exact hj), getElem!_pos _ j (by rw [size_flatK]; exact hj)]
      · rw [Array.getElem?_toList, Array.getElem?_eq_none (by rw [size_flatK]; exact hj), List.getElem?_eq_none]
        rw [flat_len _ (sortL_k32 hk), sortL_len]; omega
    have hpt := putCells_take (d := flatK encK 32 sd) (cur := cur) (by rw [size_flatK, hss, hsz]; exact Nat.mul_le_mul_right _ hcap)
    have hat : (sortWorldK encK 32 w g 0 n sd os).heap[g]? = some (.cells (putCells id 0 (flatK encK 32 sd) cur) 24 (0, 0)) := by
      show ((putRow id (Go.Sort.ahead w n) g 0 (flatK encK 32 sd)).heap ++ os)[g]? = _
      have hc2 : (Go.Sort.ahead w n).heap[g]? = some (.cells cur 24 (0, 0)) := hcur
      have h4 := putRow_at (d := flatK encK 32 sd) hc2
      rw [Array.getElem?_append_left (Array.getElem?_eq_some_iff.1 h4).1, h4]
    refine ⟨_, rfl, rfl, ⟨rfl, rfl, rfl, ?_, fun b hb hn => ?_⟩, ?_⟩
    · show w.heap.size ≤ ((putRow id (Go.Sort.ahead w n) g 0 (flatK encK 32 sd)).heap ++ os).size
      have : (putRow id (Go.Sort.ahead w n) g 0 (flatK encK 32 sd)).heap.size = w.heap.size := by show (w.heap.modify g _).size = _; simp
      rw [Array.size_append, this]; omega
    · have hne : b ≠ g := fun h => hn (by subst h; rfl)
      have : (putRow id (Go.Sort.ahead w n) g 0 (flatK encK 32 sd)).heap.size = w.heap.size := by show (w.heap.modify g _).size = _; simp
      show ((putRow id (Go.Sort.ahead w n) g 0 (flatK encK 32 sd)).heap ++ os)[b]? = _
      rw [Array.getElem?_append_left (by rw [this]; exact hb), putRow_off hne]; rfl
    · refine ⟨?_, .inr ⟨g, cap, _, rfl, hg, hat, hcap, hmax, by rw [hpt.1, hsz], ?_⟩⟩
      · rw [flat_len _ (sortL_k32 hk), sortL_len]
      · have h5 := hpt.2
        rw [size_flatK, hss, hfl] at h5
        exact h5

end Go.Sp.Try
