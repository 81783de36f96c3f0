/- Walks of functions, printed by a program of this session (gen.py) from notes on each function. -/
import Derived.Test.YthdcihakjomagaaXb
set_option maxRecDepth 100000
set_option maxHeartbeats 1000000
set_option linter.unusedVariables false
set_option linter.unusedSimpArgs false
namespace Go.Sp.Try
open Go.Proofs Go.RowKit Go.Sp

open Go.Sort Go.Lib
abbrev Key32 := { k : List UInt8 // k.length = 32 }
instance : Inhabited Key32 := ⟨⟨List.replicate 32 0, List.length_replicate⟩⟩
def encK (x : Key32) : List Value := kc x.1
def cfK (x y : Key32) : Int := cmpI x.1 y.1
theorem encK_len (x : Key32) : (encK x).length = 32 := by rw [encK, kc_length, x.2]
theorem ltK (x y : Key32) : ltOf cfK x y = decide (num x.1 < num y.1) := by
  unfold ltOf cfK
  by_cases h : num x.1 < num y.1
  · rw [decide_eq_true (cmpI_neg.2 h), decide_eq_true h]
  · rw [decide_eq_false (fun h2 => h (cmpI_neg.1 h2)), decide_eq_false h]
theorem swoK : Go.Sort.SWO (ltOf cfK) where
  irrefl x := by rw [ltK]; simp
  trans x y z h1 h2 := by rw [ltK] at *; simp at *; omega
  ntrans x y z h1 h2 := by rw [ltK] at *; simp at *; omega
theorem totK (x y : Key32) (h1 : ltOf cfK x y = false) (h2 : ltOf cfK y x = false) : x = y := by
  rw [ltK] at h1 h2
  simp at h1 h2
  exact Subtype.ext (num_inj _ _ (by rw [x.2, y.2]) (by omega))
def sortL (ks : List (List UInt8)) : List (List UInt8) := ks.mergeSort fun a b => decide (num a ≤ num b)
def wrapK : (ks : List (List UInt8)) → K32 ks → List Key32
  | [], _ => []
  | k :: ks, h => ⟨k, h k (by simp)⟩ :: wrapK ks (fun x hx => h x (List.mem_cons_of_mem _ hx))
theorem wrapK_val : ∀ (ks : List (List UInt8)) (h : K32 ks), (wrapK ks h).map (·.1) = ks
  | [], _ => rfl
  | k :: ks, h => congrArg (k :: ·) (wrapK_val ks fun x hx => h x (List.mem_cons_of_mem _ hx))
theorem wrapK_len (ks : List (List UInt8)) (h : K32 ks) : (wrapK ks h).length = ks.length := by
  have := congrArg List.length (wrapK_val ks h)
  simpa using this
theorem sort_val (l : List Key32) : (l.mergeSort fun x y => !(ltOf cfK) y x).map (·.1) = sortL (l.map (·.1)) := by
  unfold sortL
  exact List.map_mergeSort fun a _ b _ => by
    rw [ltK]
    by_cases h : num b.1 < num a.1
    · simp [h]
    · simp [h]; omega
theorem flat_get (ks : List (List UInt8)) (hk : K32 ks) (j : Nat) (hj : j < ks.length * 32) : (ks.flatMap kc)[j]? = (kc (ks[j / 32]'(by omega)))[j % 32]? := by
  have h := kc_seg ks hk (j / 32) (by omega)
  rw [← h, List.getElem?_take_of_lt (by omega), List.getElem?_drop]
  congr 1
  omega
theorem flat_len : ∀ (ks : List (List UInt8)), K32 ks → (ks.flatMap kc).length = ks.length * 32
  | [], _ => rfl
  | k :: ks, h => by
    rw [List.flatMap_cons, List.length_append, kc_length, h k (by simp), flat_len ks (fun x hx => h x (List.mem_cons_of_mem _ hx)), List.length_cons]; omega
theorem flatK_get (d : Array Key32) (j : Nat) (hj : j < d.size * 32) : some ((flatK encK 32 d)[j]!) = ((d.toList.map (·.1)).flatMap kc)[j]? := by
  have h1 : j / 32 < d.size := by omega
  have h2 : (d.toList.map (·.1)).length = d.size := by simp
  rw [get_flatK encK 32 d j hj, flat_get _ (fun k hk => by obtain ⟨x, _, rfl⟩ := List.mem_map.1 hk; exact x.2) j (by rw [h2]; exact hj)]
  have e : (d.toList.map (·.1))[j / 32]'(by rw [h2]; exact h1) = (d[j / 32]!).1 := by
    rw [List.getElem_map, Array.getElem_toList, getElem!_pos d _ h1]
  rw [e]
  show some (encK d[j / 32]!)[j % 32]! = (encK d[j / 32]!)[j % 32]?
  have h3 : j % 32 < (encK d[j / 32]!).length := by rw [encK_len]; omega
  rw [List.getElem?_eq_getElem h3, getElem!_pos (encK d[j / 32]!) (j % 32) h3]
theorem cmpLaysK {blk off size : Nat} {w : World} : CmpLays Try.prog 30 #[] encK 32 cfK blk off size w := fun m os dk _ x y => by
  have h := bitsCompare_e (X := Nil) (w := sortWorldK encK 32 w blk off m dk os) (k := x.1) (l := y.1) (nilX _) x.2 y.2
  have h2 := h.calls
  refine h2.mono ?_
  rintro e w' ⟨v, rfl, rfl, q, os', hw⟩
  exact ⟨rfl, q, os', hw⟩

end Go.Sp.Try
