/- Walks of functions, printed by a program of this session (gen.py) from notes on each function. -/
import Derived.Test.YtcfkkhljekopgaaDoorKd
set_option maxRecDepth 100000
set_option maxHeartbeats 1000000
set_option linter.unusedVariables false
set_option linter.unusedSimpArgs false
namespace Go.Sp.Tryd
open Go.Proofs Go.RowKit Go.Sp

/-! how many first bits two keys have in common -/
def comF (a b : List UInt8) : Nat → Nat → Nat
  | 0, i => i
  | f + 1, i => if bitN a i = bitN b i then comF a b f (i + 1) else i
def comN (a b : List UInt8) : Nat := comF a b 256 0
structure IsCom (a b : List UInt8) (c : Nat) : Prop where
  le : c ≤ 256
  eq : ∀ i, i < c → bitN a i = bitN b i
  ne : c < 256 → bitN a c ≠ bitN b c
theorem comF_is (a b : List UInt8) : ∀ (f i : Nat), f + i = 256 → (∀ j, j < i → bitN a j = bitN b j) → IsCom a b (comF a b f i) := by
  intro f
  induction f with
  | zero => intro i h he; exact ⟨by show i ≤ 256; omega, he, fun hl => absurd hl (by show ¬ i < 256; omega)⟩
  | succ f ih =>
    intro i h he
    unfold comF
    by_cases hb : bitN a i = bitN b i
    · rw [if_pos hb]
      refine ih (i + 1) (by omega) fun j hj => ?_
      by_cases e : j = i
      · subst e; exact hb
      · exact he j (by omega)
    · rw [if_neg hb]
      exact ⟨by omega, he, fun _ => hb⟩
theorem comN_is (a b : List UInt8) : IsCom a b (comN a b) := comF_is a b 256 0 rfl fun _ h => by omega
theorem IsCom.uniq {a b : List UInt8} {c d : Nat} (h : IsCom a b c) (g : IsCom a b d) : c = d := by
  have h1 := h.le
  have h2 := g.le
  rcases Nat.lt_trichotomy c d with hl | hl | hl
  · exact absurd (g.eq c hl) (h.ne (by omega))
  · exact hl
  · exact absurd (h.eq d hl) (g.ne (by omega))
theorem comN_le (a b : List UInt8) : comN a b ≤ 256 := (comN_is a b).le
theorem comN_succ {a b : List UInt8} {c : Nat} (hc : c < 256) : c + 1 ≤ comN a b ↔ c ≤ comN a b ∧ bitN a c = bitN b c := by
  have h := comN_is a b
  constructor
  · intro hl; exact ⟨by omega, h.eq c (by omega)⟩
  · rintro ⟨h1, h2⟩
    rcases Nat.lt_or_ge c (comN a b) with hl | hl
    · exact hl
    · have e : comN a b = c := by omega
      exact absurd (e ▸ h2 : bitN a (comN a b) = bitN b (comN a b)) (h.ne (by omega))
theorem pre_com {a b : List UInt8} (ha : a.length = 32) (hb : b.length = 32) : ∀ d, d ≤ 256 → (pre d a = pre d b ↔ d ≤ comN a b) := by
  intro d
  induction d with
  | zero => intro _; rw [pre_zero a ha, pre_zero b hb]; simp
  | succ d ih =>
    intro hd
    have h1 := bitN_lt a d
    have h2 := bitN_lt b d
    rw [pre_succ a ha d (by omega), pre_succ b hb d (by omega), comN_succ (by omega), ← ih (by omega)]
    constructor
    · intro h; omega
    · rintro ⟨h3, h4⟩; rw [h3, h4]
theorem comN_full {a b : List UInt8} (ha : a.length = 32) (hb : b.length = 32) : 256 ≤ comN a b ↔ a = b := by
  rw [← pre_com ha hb 256 (by omega), pre_full, pre_full]
  exact ⟨num_inj a b (by rw [ha, hb]), fun h => by rw [h]⟩
/-! the entries of a map whose keys begin with the first bits of a key -/
def underM (m : List En) (k : List UInt8) (c : Nat) : List En := m.filter fun e => decide (c ≤ comN e.k k)
theorem underM_mem {m : List En} {k : List UInt8} {c : Nat} {e : En} : e ∈ underM m k c ↔ e ∈ m ∧ c ≤ comN e.k k := by simp [underM]
theorem underM_zero (m : List En) (k : List UInt8) : underM m k 0 = m := by simp [underM]
theorem underM_succ (m : List En) (k : List UInt8) {c : Nat} (hc : c < 256) : partM (underM m k c) c (bitN k c) = underM m k (c + 1) := by
  unfold partM underM
  rw [List.filter_filter]
  apply List.filter_congr
  intro e _
  have := comN_succ (a := e.k) (b := k) hc
  by_cases h1 : bitN e.k c = bitN k c <;> by_cases h2 : c ≤ comN e.k k <;> simp [h1, h2, this]
theorem at_under {m : List En} {k : List UInt8} : ∀ i, i ≤ 256 → atM k 0 m i = underM m k i
  | 0, _ => (underM_zero m k).symm
  | i + 1, h => by
    show partM (atM k 0 m i) (i + 0) (bitN k (i + 0)) = _
    rw [at_under i (by omega), Nat.add_zero, underM_succ m k (by omega)]
theorem under_pm {m : List En} {k : List UInt8} {c : Nat} (h : Pm 0 m) (hk : k.length = 32) (hc : c ≤ 256) : Pm c (underM m k c) where
  le := hc
  kl := fun e he => h.kl e (underM_mem.1 he).1
  dis := h.dis.filter _
  com := fun a ha b hb => by
    rw [(pre_com (h.kl a (underM_mem.1 ha).1) hk c hc).2 (underM_mem.1 ha).2, (pre_com (h.kl b (underM_mem.1 hb).1) hk c hc).2 (underM_mem.1 hb).2]
theorem underM_snoc (m : List En) (k : List UInt8) (c i : Nat) (h : i < m.length) : underM (m.take (i + 1)) k c = underM (m.take i) k c ++ (if c ≤ comN m[i].k k then [m[i]] else []) := by
  unfold underM
  rw [List.take_succ_eq_append_getElem h, List.filter_append]
  by_cases hb : c ≤ comN m[i].k k <;> simp [hb]
theorem underM_le (m : List En) (k : List UInt8) (c : Nat) : (underM m k c).length ≤ m.length := List.length_filter_le _ _
/-! the same in trees -/
def Tr.und (T : Tr) (k : List UInt8) (c : Nat) : Tr := if c ≤ T.dp k 0 then T.atN k 0 c else if (T.fin k).er.kind = 1 ∧ comN (T.fin k).key k < c then .nil else T.fin k
theorem und_er {T : Tr} {m : List En} {k : List UInt8} {c : Nat} (hT : T.er = grow 0 m) (hp : Pm 0 m) (hc : c ≤ 256) : (T.und k c).er = grow c (underM m k c) := by
  unfold Tr.und
  by_cases h : c ≤ T.dp k 0
  · rw [if_pos h, (at_er hT hp c h).1, at_under c hc]; rfl
  · rw [if_neg h]
    have hl := at_end (k := k) hT hp
    have he := (at_er (k := k) hT hp _ (Nat.le_refl _)).1
    have hd : T.dp k 0 ≤ 256 := by omega
    rw [at_under _ hd] at hl he
    have hu : underM m k c = (underM m k (T.dp k 0)).filter fun e => decide (c ≤ comN e.k k) := by
      unfold underM
      rw [List.filter_filter]
      apply List.filter_congr
      intro e _
      by_cases h1 : c ≤ comN e.k k
      · simp [h1]; omega
      · simp [h1]
    have hf : (T.fin k).er = _ := he
    match hm : underM m k (T.dp k 0), hl with
    | [], _ =>
      rw [hm, grow_nil] at hf
      rw [hu, hm, Tr.nil_er hf, if_neg (by simp [Tr.er, Sh.kind])]
      exact (grow_nil c).symm
    | [e], _ =>
      rw [hm, grow_one] at hf
      obtain ⟨a, s, e2⟩ := Tr.leaf_of hf
      rw [hu, hm, e2]
      by_cases hcm : comN e.k k < c
      · rw [if_pos ⟨rfl, hcm⟩]
        have : ([e].filter fun e => decide (c ≤ comN e.k k)) = [] := by simp; omega
        rw [this, grow_nil]; rfl
      · rw [if_neg (by rintro ⟨_, h⟩; exact hcm h)]
        have : ([e].filter fun e => decide (c ≤ comN e.k k)) = [e] := by simp; omega
        rw [this, grow_one]; rfl
    | _ :: _ :: _, h => simp at h

end Go.Sp.Tryd
