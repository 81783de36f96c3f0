/- Walks of functions, printed by a program of this session (gen.py) from notes on each function. -/
import Derived.Test.YtdllpckpfkjkeaaDoorKi
set_option maxRecDepth 100000
set_option maxHeartbeats 1000000
set_option linter.unusedVariables false
set_option linter.unusedSimpArgs false
namespace Go.Sp.Tryd
open Go.Proofs Go.RowKit Go.Sp

theorem refGetNo_c {X : Nat → Prop} {w : World} {s : Value} {m : List En} {k : List UInt8} (hX : ∀ b, X b → b < w.heap.size) (hf0 : Rob X (SlE s m) w) (hkl : KL m) (hlen : m.length ≤ 1000000) (hk : k.length = 32) (hg : getM m k = none) :
    Ret Tryd.prog 35 [s, .agg (kc k).toArray].toArray w fun v w' => v = .tuple [.slice none 0 0, .bool false].toArray ∧ Out Nil w w' := by
  have := refGet_c hX hf0 hkl hlen hk
  unfold getR at this
  rw [hg] at this
  exact this
theorem refGetYes_c {X : Nat → Prop} {w : World} {s : Value} {m : List En} {k : List UInt8} {e : En} (hX : ∀ b, X b → b < w.heap.size) (hf0 : Rob X (SlE s m) w) (hkl : KL m) (hlen : m.length ≤ 1000000) (hk : k.length = 32) (hg : getM m k = some e) :
    Ret Tryd.prog 35 [s, .agg (kc k).toArray].toArray w fun v w' => v = .tuple [e.s, .bool true].toArray ∧ Out Nil w w' := by
  have := refGet_c hX hf0 hkl hlen hk
  unfold getR at this
  rw [hg] at this
  exact this
theorem getM_mem {m : List En} {k : List UInt8} {e : En} (h : getM m k = some e) : e ∈ m ∧ e.k = k := ⟨List.mem_of_find?_eq_some h, by have := List.find?_some h; simpa using this⟩
theorem fin_er {T : Tr} {m : List En} {k : List UInt8} (hT : T.er = grow 0 m) (hp : Pm 0 m) : (T.fin k).er = grow (T.dp k 0) (atM k 0 m (T.dp k 0)) ∧ Pm (T.dp k 0) (atM k 0 m (T.dp k 0)) := at_er (k := k) hT hp _ (Nat.le_refl _)
theorem SlE.of1 {w : World} {b : Nat} {t : TypeId} {e : En} (h : Blk w b t (enC e)) (hk : e.k.length = 32) : SlE (.slice (some ⟨b, 0, none⟩) 1 1) [e] w := SlC.of_blk (n := 1) (e := t) (by rw [List.flatMap_cons, List.flatMap_nil, List.append_nil]; exact h) (by simp [enC_length hk])
theorem beside_er {T : Tr} {m : List En} {k : List UInt8} (hT : T.er = grow 0 m) (hp : Pm 0 m) {i : Nat} (hi : i < T.dp k 0) :
    ((T.atN k 0 i).beside k i).er = grow (i + 1) (partM (atM k 0 m i) i (1 - bitN k i)) ∧ Pm (i + 1) (partM (atM k 0 m i) i (1 - bitN k i)) := by
  have h := at_er (k := k) hT hp i (by omega)
  have h2 := grow_step k h.1 h.2 (Tr.atN_in i 0 T hi)
  exact ⟨h2.2.2.2, h.2.part h2.1 _⟩

end Go.Sp.Tryd
