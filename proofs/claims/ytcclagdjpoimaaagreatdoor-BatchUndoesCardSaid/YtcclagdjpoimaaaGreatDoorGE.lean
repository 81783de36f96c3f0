/- Walks of functions, printed by a program of this session (gen.py) from notes on each function. -/
import Derived.Test.YtcclagdjpoimaaaGreatDoorGD
set_option maxRecDepth 100000
set_option maxHeartbeats 1000000
set_option linter.unusedVariables false
set_option linter.unusedSimpArgs false
namespace Go.Sp.Tryz
open Go.Proofs Go.RowKit Go.Sp

def kv (e : En) : List UInt8 × List UInt8 := (e.k, e.v)
theorem part_kv {m m' : List En} {d b : Nat} (h : m.map kv = m'.map kv) : (partM m d b).map kv = (partM m' d b).map kv := by
  have e : ∀ l : List En, (partM l d b).map kv = (l.map kv).filter fun p => bitN p.1 d == b := fun l => by
    unfold partM
    rw [List.filter_map]; rfl
  rw [e, e, h]
theorem growS_kv : ∀ (n d : Nat) (m m' : List En), m.map kv = m'.map kv → growS n d m = growS n d m' := by
  intro n
  induction n with
  | zero =>
    intro d m m' h
    match m, m', h with
    | [], [], _ => rfl
    | [a], [b], h => simp [kv] at h; show Sh.leaf _ _ = Sh.leaf _ _; rw [h.1, h.2]
    | [_], _ :: _ :: _, h => simp at h
    | _ :: _ :: _, [_], h => simp at h
    | a :: x :: m, b :: y :: m', h => simp [kv] at h; show Sh.leaf _ _ = Sh.leaf _ _; rw [h.1.1, h.1.2]
  | succ n ih =>
    intro d m m' h
    match m, m', h with
    | [], [], _ => rfl
    | [a], [b], h => simp [kv] at h; show Sh.leaf _ _ = Sh.leaf _ _; rw [h.1, h.2]
    | [_], _ :: _ :: _, h => simp at h
    | _ :: _ :: _, [_], h => simp at h
    | a :: x :: m, b :: y :: m', h =>
      show Sh.inner _ _ = Sh.inner _ _
      rw [ih _ _ _ (part_kv h), ih _ _ _ (part_kv h)]
theorem grow_kv {d : Nat} {m m' : List En} (h : m.map kv = m'.map kv) : grow d m = grow d m' := growS_kv _ d m m' h
theorem Vals.put {m : List En} {e : En} {w : World} (h : Vals m w) (he : SlB e.s e.v w) : Vals (putM m e) w := fun x hx => by
  rcases mem_putM.1 hx with rfl | hx
  · exact he
  · exact h x hx.1
theorem ShortV.put {m : List En} {e : En} (h : ShortV m) (he : e.v.length ≤ 1000000) : ShortV (putM m e) := fun x hx => by
  rcases mem_putM.1 hx with rfl | hx
  · exact he
  · exact h x hx.1
def T09 (a b a1 a2 : Nat) (s1 s2 : Value) : Tr := .inner a (.inner b (.leaf a1 (List.replicate 32 0) [1] s1) (.leaf a2 ((List.replicate 32 0).set 0 64) [2] s2)) .nil
end Go.Sp.Tryz

set_option maxRecDepth 100000
set_option maxHeartbeats 1000000
set_option linter.unusedVariables false
set_option linter.unusedSimpArgs false
namespace Go.Sp.Tryz
open Go.Proofs Go.RowKit Go.Sp

theorem Srt.ext : ∀ {a b : List En}, Srt a → Srt b → (∀ e, e ∈ a ↔ e ∈ b) → a = b
  | [], [], _, _, _ => rfl
  | [], y :: b, _, _, h => by have := (h y).2 (by simp); cases this
  | x :: a, [], _, _, h => by have := (h x).1 (by simp); cases this
  | x :: a, y :: b, ha, hb, h => by
    have ha1 := List.pairwise_cons.1 ha
    have hb1 := List.pairwise_cons.1 hb
    have hxy : x = y := by
      rcases List.mem_cons.1 ((h x).1 (by simp)) with h1 | h1
      · exact h1
      · rcases List.mem_cons.1 ((h y).2 (by simp)) with h2 | h2
        · exact h2.symm
        · have := hb1.1 x h1; have := ha1.1 y h2; omega
    subst hxy
    congr 1
    refine Srt.ext ha1.2 hb1.2 fun e => ⟨fun he => ?_, fun he => ?_⟩
    · rcases List.mem_cons.1 ((h e).1 (List.mem_cons_of_mem _ he)) with h1 | h1
      · subst h1; have := ha1.1 e he; omega
      · exact h1
    · rcases List.mem_cons.1 ((h e).2 (List.mem_cons_of_mem _ he)) with h1 | h1
      · subst h1; have := hb1.1 e he; omega
      · exact h1
theorem Srt.at {m : List En} {k : List UInt8} {d : Nat} (h : Srt m) : ∀ i, Srt (atM k d m i)
  | 0 => h
  | i + 1 => (Srt.at h i).filter _
end Go.Sp.Tryz

set_option maxRecDepth 100000
set_option maxHeartbeats 1000000
set_option linter.unusedVariables false
set_option linter.unusedSimpArgs false
namespace Go.Sp.Tryz
open Go.Proofs Go.RowKit Go.Sp
def hasM (m : List En) (k : List UInt8) : Bool := (getM m k).isSome
def RmOK (T : Tr) : Prop := ∀ {X : Nat → Prop} {w : World} {bh bc : Nat} {bits c0 : Int} {M : List En} {k : List UInt8} {d : Nat}, (∀ b, X b → b < w.heap.size) → Blk w bc 108 [.int .i64 c0] → Rob (fun c => X c ∨ c = bc) (HAt bh bc bits) w → Rob (fun c => X c ∨ c = bc) (TrA bits T) w → Rob (fun c => X c ∨ c = bc) Rounds w →
  0 ≤ bits ∧ bits ≤ 256 → k.length = 32 → T.er = grow d M → Pm d M → M.length ≤ 1000000000 →
  Ret Tryz.prog 54 [.pointer (some ⟨bh, 0, none⟩), T.ptr, .agg (kc k).toArray, .int .i64 (d : Int)].toArray w fun v w' => ∃ (T' : Tr) (c : Int) (f : Bool), v = .tuple [T'.ptr, .bool f].toArray ∧ T'.er = grow d (rmM M k) ∧ f = hasM M k ∧ (f = false → T' = T ∧ c = c0) ∧ Out (· = bc) w w' ∧ Blk w' bc 108 [.int .i64 c] ∧ Rob (fun c => X c ∨ c = bc) (TrA bits T') w'

end Go.Sp.Tryz

set_option maxRecDepth 100000
set_option maxHeartbeats 1000000
set_option linter.unusedVariables false
set_option linter.unusedSimpArgs false
namespace Go.Sp.Tryz
open Go.Proofs Go.RowKit Go.Sp

def SlK (v : Value) (ks : List (List UInt8)) (w : World) : Prop := SlC w v 32 ks.length (ks.flatMap kc)
def K32 (ks : List (List UInt8)) : Prop := ∀ k ∈ ks, k.length = 32
theorem K32.take {l : List (List UInt8)} (h : K32 l) (i : Nat) : K32 (l.take i) := fun e he => h e (List.mem_of_mem_take he)
theorem kc_seg : ∀ (ks : List (List UInt8)) (hk : K32 ks) (i : Nat) (hi : i < ks.length), ((ks.flatMap kc).drop (i * 32)).take 32 = kc ks[i] := by
  intro ks
  induction ks with
  | nil => intro _ i hi; simp at hi
  | cons x ks ih =>
    intro hk i hi
    have hx := hk x (by simp)
    have hl : (kc x).length = 32 := by rw [kc_length, hx]
    cases i with
    | zero =>
      rw [List.flatMap_cons, Nat.zero_mul, List.drop_zero, List.take_left' hl]; rfl
    | succ i =>
      rw [List.flatMap_cons, show (i + 1) * 32 = 32 + i * 32 by omega, ← List.drop_drop, List.drop_left' hl]
      exact ih (fun k h => hk k (List.mem_cons_of_mem _ h)) i (by simpa using hi)
theorem SlK.rd {v : Value} {ks : List (List UInt8)} {w : World} (h : SlK v ks w) (hk : K32 ks) (i : Nat) (hi : i < ks.length) : RdA w (sAddr v (i * 32)) (kc ks[i]) := by
  have := SlC.rd h i hi
  rwa [kc_seg ks hk i hi] at this
end Go.Sp.Tryz

set_option maxRecDepth 100000
set_option maxHeartbeats 1000000
set_option linter.unusedVariables false
set_option linter.unusedSimpArgs false
namespace Go.Sp.Tryz
open Go.Proofs Go.RowKit Go.Sp

end Go.Sp.Tryz

