/- Walks of functions, printed by a program of this session (gen.py) from notes on each function. -/
import Derived.Test.YtcfkkhljekopgaaDoorNa
import Derived.Test.YtcfkkhljekopgaaDoorNd
set_option maxRecDepth 100000
set_option maxHeartbeats 1000000
set_option linter.unusedVariables false
set_option linter.unusedSimpArgs false
namespace Go.Sp.Tryd
open Go.Proofs Go.RowKit Go.Sp

/-! ways of keys, in trees and in maps -/
def Sh.fit : Nat → Sh → Prop
  | d, .inner l r => d < 256 ∧ l.fit (d + 1) ∧ r.fit (d + 1)
  | _, _ => True
theorem grow_fit {d : Nat} {m : List En} (h : Pm d m) : (grow d m).fit d :=
  grow_ind (P := fun d _ s => s.fit d) (fun _ => trivial) (fun _ _ => trivial) (fun _ _ _ hd _ h0 h1 => ⟨hd, h0, h1⟩) _ d m rfl h
theorem grow_kind {d : Nat} {m : List En} (h : Pm d m) : (grow d m).kind = 2 ↔ 2 ≤ m.length := by
  match m, h with
  | [], _ => rw [grow_nil]; simp [Sh.kind]
  | [e], _ => rw [grow_one]; simp [Sh.kind]
  | a :: b :: m, h =>
    rw [grow_many d _ (h.lt (by simp)) (by simp)]
    simp [Sh.kind]
def Tr.child (T : Tr) (b : Nat) : Tr := if b = 0 then T.left else T.right
def Tr.step (k : List UInt8) (d : Nat) (T : Tr) : Tr := T.child (bitN k d)
def Tr.beside (k : List UInt8) (d : Nat) (T : Tr) : Tr := T.child (1 - bitN k d)
def Tr.atN (k : List UInt8) (d : Nat) (T : Tr) : Nat → Tr
  | 0 => T
  | i + 1 => (Tr.atN k d T i).step k (i + d)
def Tr.dp (k : List UInt8) : Nat → Tr → Nat
  | d, .inner _ l r => if bitN k d = 0 then Tr.dp k (d + 1) l + 1 else Tr.dp k (d + 1) r + 1
  | _, _ => 0
theorem Tr.atN_shift (k : List UInt8) (T : Tr) : ∀ (i d : Nat), Tr.atN k d T (i + 1) = Tr.atN k (d + 1) (T.step k d) i := by
  intro i
  induction i with
  | zero => intro d; show T.step k (0 + d) = _; rw [Nat.zero_add]; rfl
  | succ i ih =>
    intro d
    show (Tr.atN k d T (i + 1)).step k (i + 1 + d) = (Tr.atN k (d + 1) (T.step k d) i).step k (i + (d + 1))
    rw [ih, show i + 1 + d = i + (d + 1) by omega]
theorem Tr.dp_step {k : List UInt8} {d : Nat} {T : Tr} (h : T.er.kind = 2) : T.dp k d = (T.step k d).dp k (d + 1) + 1 := by
  obtain ⟨a, l, r, rfl⟩ := Tr.kind2 h
  unfold Tr.step Tr.child
  show (if bitN k d = 0 then _ else _) = _
  split <;> rfl
theorem Tr.dp_end {k : List UInt8} {d : Nat} {T : Tr} (h : T.er.kind ≠ 2) : T.dp k d = 0 := by
  cases T <;> first | rfl | exact absurd rfl h
theorem TrA.step {bits : Int} {T : Tr} {w : World} {k : List UInt8} {d : Nat} (h : TrA bits T w) : TrA bits (T.step k d) w := by
  unfold Tr.step Tr.child; split
  · exact h.left
  · exact h.right
theorem TrA.beside {bits : Int} {T : Tr} {w : World} {k : List UInt8} {d : Nat} (h : TrA bits T w) : TrA bits (T.beside k d) w := by
  unfold Tr.beside Tr.child; split
  · exact h.left
  · exact h.right
theorem TrA.atN {bits : Int} {T : Tr} {w : World} {k : List UInt8} {d : Nat} (h : TrA bits T w) : ∀ i, TrA bits (T.atN k d i) w
  | 0 => h
  | i + 1 => (TrA.atN h i).step
theorem Tr.atN_in {k : List UInt8} : ∀ (i d : Nat) (T : Tr), i < T.dp k d → (T.atN k d i).er.kind = 2 := by
  intro i
  induction i with
  | zero =>
    intro d T h
    show T.er.kind = 2
    cases T <;> first | rfl | (simp [Tr.dp] at h)
  | succ i ih =>
    intro d T h
    have h2 : T.er.kind = 2 := by
      cases T <;> first | rfl | (simp [Tr.dp] at h)
    rw [Tr.atN_shift]
    rw [Tr.dp_step h2] at h
    exact ih _ _ (by omega)
theorem Tr.atN_out {k : List UInt8} : ∀ (n d : Nat) (T : Tr), T.dp k d = n → (T.atN k d n).er.kind ≠ 2 := by
  intro n
  induction n with
  | zero =>
    intro d T h h2
    have h2' : T.er.kind = 2 := h2
    rw [Tr.dp_step h2'] at h
    omega
  | succ n ih =>
    intro d T h
    have h2 : T.er.kind = 2 := by
      cases T <;> first | rfl | (simp [Tr.dp] at h)
    rw [Tr.atN_shift]
    rw [Tr.dp_step h2] at h
    exact ih _ _ (by omega)
theorem Tr.dp_fit {k : List UInt8} : ∀ (n d : Nat) (T : Tr), T.dp k d = n → T.er.fit d → d ≤ 256 → d + T.dp k d ≤ 256 := by
  intro n
  induction n with
  | zero => intro d T h _ _; omega
  | succ n ih =>
    intro d T h hf hd
    have h2 : T.er.kind = 2 := by
      cases T <;> first | rfl | (simp [Tr.dp] at h)
    have h' := h
    rw [Tr.dp_step h2] at h
    obtain ⟨a, l, r, rfl⟩ := Tr.kind2 h2
    have hs : ((Tr.inner a l r).step k d).er.fit (d + 1) := by unfold Tr.step Tr.child; split; exact hf.2.1; exact hf.2.2
    have := ih (d + 1) _ (by omega) hs hf.1
    omega
def atM (k : List UInt8) (d : Nat) (m : List En) : Nat → List En
  | 0 => m
  | i + 1 => partM (atM k d m i) (i + d) (bitN k (i + d))
theorem grow_step {T : Tr} {d : Nat} {m : List En} (k : List UInt8) (hT : T.er = grow d m) (hp : Pm d m) (h2 : T.er.kind = 2) :
    d < 256 ∧ 2 ≤ m.length ∧ (T.step k d).er = grow (d + 1) (partM m d (bitN k d)) ∧ (T.beside k d).er = grow (d + 1) (partM m d (1 - bitN k d)) := by
  rw [hT] at h2
  have hm := (grow_kind hp).1 h2
  have hd := hp.lt hm
  rw [grow_many d m hd hm] at hT
  have hb := bitN_lt k d
  cases T with
  | nil => cases hT
  | leaf => cases hT
  | inner a l r =>
    injection hT with h1 h3
    refine ⟨hd, hm, ?_, ?_⟩
    · unfold Tr.step Tr.child
      by_cases h : bitN k d = 0
      · rw [if_pos h, h]; exact h1
      · rw [if_neg h, show bitN k d = 1 by omega]; exact h3
    · unfold Tr.beside Tr.child
      by_cases h : bitN k d = 0
      · rw [h]; exact h3
      · rw [show bitN k d = 1 by omega]; exact h1
theorem at_er {T : Tr} {d : Nat} {m : List En} {k : List UInt8} (hT : T.er = grow d m) (hp : Pm d m) : ∀ i, i ≤ T.dp k d → (T.atN k d i).er = grow (i + d) (atM k d m i) ∧ Pm (i + d) (atM k d m i) := by
  intro i
  induction i with
  | zero => intro _; rw [Nat.zero_add]; exact ⟨hT, hp⟩
  | succ i ih =>
    intro hi
    have h := ih (by omega)
    have hs := grow_step k h.1 h.2 (Tr.atN_in i d T (by omega))
    rw [show i + 1 + d = i + d + 1 by omega]
    exact ⟨hs.2.2.1, h.2.part hs.1 _⟩
theorem at_len {T : Tr} {d : Nat} {m : List En} {k : List UInt8} (hT : T.er = grow d m) (hp : Pm d m) {i : Nat} (hi : i < T.dp k d) : 2 ≤ (atM k d m i).length ∧ i + d < 256 := by
  have h := at_er (k := k) hT hp i (by omega)
  have hs := grow_step k h.1 h.2 (Tr.atN_in i d T hi)
  exact ⟨hs.2.1, hs.1⟩
theorem at_end {T : Tr} {d : Nat} {m : List En} {k : List UInt8} (hT : T.er = grow d m) (hp : Pm d m) : (atM k d m (T.dp k d)).length ≤ 1 := by
  have h := at_er (k := k) hT hp _ (Nat.le_refl _)
  have h2 := Tr.atN_out _ d T (rfl : T.dp k d = _)
  rw [h.1] at h2
  have := mt (grow_kind h.2).2 h2
  omega
theorem partM_mem {m : List En} {d b : Nat} {e : En} : e ∈ partM m d b ↔ e ∈ m ∧ bitN e.k d = b := by simp [partM]
theorem atM_mem {k : List UInt8} {d : Nat} {m : List En} : ∀ {i : Nat} {e : En}, e ∈ atM k d m i → e ∈ m
  | 0, _, h => h
  | _ + 1, _, h => atM_mem (partM_mem.1 h).1
theorem atM_len (k : List UInt8) (d : Nat) (m : List En) : ∀ i, (atM k d m i).length ≤ m.length
  | 0 => Nat.le_refl _
  | i + 1 => Nat.le_trans (List.length_filter_le _ _) (atM_len k d m i)
/-! the value of a key -/
def getM (m : List En) (k : List UInt8) : Option En := m.find? fun e => e.k == k
theorem getM_part {m : List En} {k : List UInt8} {d : Nat} : getM (partM m d (bitN k d)) k = getM m k := by
  induction m with
  | nil => rfl
  | cons e m ih =>
    have e1 : partM (e :: m) d (bitN k d) = if (bitN e.k d == bitN k d) = true then e :: partM m d (bitN k d) else partM m d (bitN k d) := List.filter_cons
    rw [e1]
    by_cases h : e.k = k
    · subst h
      simp [getM]
    · have h' : (e.k == k) = false := by simpa using h
      by_cases hb : (bitN e.k d == bitN k d) = true
      · rw [if_pos hb]
        show List.find? _ (e :: _) = List.find? _ (e :: _)
        rw [List.find?_cons, List.find?_cons, h']
        exact ih
      · rw [if_neg hb]
        show _ = List.find? _ (e :: _)
        rw [List.find?_cons, h']
        exact ih
theorem getM_at {m : List En} {k : List UInt8} {d : Nat} : ∀ i, getM (atM k d m i) k = getM m k
  | 0 => rfl
  | i + 1 => (getM_part).trans (getM_at i)
theorem vals_part {m : List En} {w : World} {d b : Nat} (h : Vals m w) : Vals (partM m d b) w := fun e he => h e (partM_mem.1 he).1

end Go.Sp.Tryd
