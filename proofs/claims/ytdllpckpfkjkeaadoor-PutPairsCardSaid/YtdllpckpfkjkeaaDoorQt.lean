/- Walks of functions, printed by a program of this session (gen.py) from notes on each function. -/
import Derived.Test.YtdllpckpfkjkeaaDoorQe
set_option maxRecDepth 100000
set_option maxHeartbeats 1000000
set_option linter.unusedVariables false
set_option linter.unusedSimpArgs false
namespace Go.Sp.Tryd
open Go.Proofs Go.RowKit Go.Sp

theorem Srt.ext : ∀ {a b : List En}, Srt a → Srt b → (∀ e, e ∈ a ↔ e ∈ b) → a = b
  | [], [], _, _, _ => rfl
  | [], y :: b, _, _, h => by have := (h y).2 (by simp); cases this
  | x :: a, [], _, _, h => by have := (h x).1 (by simp); cases this
  | x :: a, y :: b, ha, hb, h => by
    have ha1 := List.pairwise_cons.1 ha
    have hb1 := List.pairwise_cons.1 hb
    have hxy : x = y := by
      rcases List.mem_cons.1 ((h x).1 (by simp)) with h1 | h1
      · exact h1
      · rcases List.mem_cons.1 ((h y).2 (by simp)) with h2 | h2
        · exact h2.symm
        · have := hb1.1 x h1; have := ha1.1 y h2; omega
    subst hxy
    congr 1
    refine Srt.ext ha1.2 hb1.2 fun e => ⟨fun he => ?_, fun he => ?_⟩
    · rcases List.mem_cons.1 ((h e).1 (List.mem_cons_of_mem _ he)) with h1 | h1
      · subst h1; have := ha1.1 e he; omega
      · exact h1
    · rcases List.mem_cons.1 ((h e).2 (List.mem_cons_of_mem _ he)) with h1 | h1
      · subst h1; have := hb1.1 e he; omega
      · exact h1
theorem putM_comm {m : List En} {a b : En} (hs : Srt m) (hk : KL m) (ha : a.k.length = 32) (hb : b.k.length = 32) (hne : a.k ≠ b.k) : putM (putM m a) b = putM (putM m b) a := by
  refine Srt.ext (putM_srt (putM_srt hs hk ha) (putM_kl hk ha) hb) (putM_srt (putM_srt hs hk hb) (putM_kl hk hb) ha) fun e => ?_
  rw [mem_putM, mem_putM, mem_putM, mem_putM]
  constructor
  · rintro (rfl | ⟨rfl | ⟨h1, h2⟩, h3⟩)
    · exact .inr ⟨.inl rfl, fun h => hne h.symm⟩
    · exact .inl rfl
    · exact .inr ⟨.inr ⟨h1, h3⟩, h2⟩
  · rintro (rfl | ⟨rfl | ⟨h1, h2⟩, h3⟩)
    · exact .inr ⟨.inl rfl, hne⟩
    · exact .inl rfl
    · exact .inr ⟨.inr ⟨h1, h3⟩, h2⟩
theorem putM_idem {m : List En} {a : En} (hs : Srt m) (hk : KL m) (ha : a.k.length = 32) : putM (putM m a) a = putM m a := by
  refine Srt.ext (putM_srt (putM_srt hs hk ha) (putM_kl hk ha) ha) (putM_srt hs hk ha) fun e => ?_
  rw [mem_putM, mem_putM]
  constructor
  · rintro (rfl | ⟨h, _⟩)
    · exact .inl rfl
    · exact h
  · rintro (rfl | ⟨h1, h2⟩)
    · exact .inl rfl
    · exact .inr ⟨.inr ⟨h1, h2⟩, h2⟩
theorem Srt.at {m : List En} {k : List UInt8} {d : Nat} (h : Srt m) : ∀ i, Srt (atM k d m i)
  | 0 => h
  | i + 1 => (Srt.at h i).filter _
theorem atM_put {m : List En} {e : En} {d : Nat} (hs : Srt m) : ∀ i, atM e.k d (putM m e) i = putM (atM e.k d m i) e
  | 0 => rfl
  | i + 1 => by
    show partM (atM e.k d (putM m e) i) _ _ = putM (partM _ _ _) e
    rw [atM_put hs i]
    exact putM_part (hs.at i)
theorem dp_put {T T' : Tr} {m : List En} {e : En} (hT : T.er = grow 0 m) (hp : Pm 0 m) (hs : Srt m) (he : e.k.length = 32) (hT' : T'.er = grow 0 (putM m e)) (hp' : Pm 0 (putM m e)) : T.dp e.k 0 ≤ T'.dp e.k 0 := by
  rcases Nat.lt_or_ge (T'.dp e.k 0) (T.dp e.k 0) with h | h
  · exfalso
    have h1 := at_end (k := e.k) hT' hp'
    have h2 := (at_len hT hp h).1
    rw [atM_put hs] at h1
    have h3 := putM_ge (atM e.k 0 m (T'.dp e.k 0)) e (at_er hT hp _ (Nat.le_of_lt h)).2.dis
    omega
  · exact h
theorem sib_put {T T' : Tr} {m : List En} {e : En} (hT : T.er = grow 0 m) (hp : Pm 0 m) (hs : Srt m) (he : e.k.length = 32) (hT' : T'.er = grow 0 (putM m e)) (hp' : Pm 0 (putM m e)) {i : Nat} (hi : i < T.dp e.k 0) :
    ((T'.atN e.k 0 i).beside e.k i).er = ((T.atN e.k 0 i).beside e.k i).er := by
  have h1 := (beside_er hT hp hi).1
  have h2 := (beside_er hT' hp' (Nat.lt_of_lt_of_le hi (dp_put hT hp hs he hT' hp'))).1
  have hb := bitN_lt e.k i
  rw [h1, h2, atM_put hs i, putM_other (hs.at i) (by omega)]

end Go.Sp.Tryd
