/- Walks of functions, printed by a program of this session (gen.py) from notes on each function. -/
import Derived.Test.YtcclagdjpoimaaaGreatDoorG7
set_option maxRecDepth 100000
set_option maxHeartbeats 1000000
set_option linter.unusedVariables false
set_option linter.unusedSimpArgs false
namespace Go.Sp.Tryz
open Go.Proofs Go.RowKit Go.Sp

def sibL (T : Tr) (k : List UInt8) (n : Nat) : List Value := (List.range n).map fun j => ((T.atN k 0 j).beside k j).ptr
def wayL (T : Tr) (k : List UInt8) (n : Nat) : List Value := (List.range n).map fun j => (T.atN k 0 j).ptr
end Go.Sp.Tryz

set_option maxRecDepth 100000
set_option maxHeartbeats 1000000
set_option linter.unusedVariables false
set_option linter.unusedSimpArgs false
namespace Go.Sp.Tryz
open Go.Proofs Go.RowKit Go.Sp

def comF (a b : List UInt8) : Nat → Nat → Nat
  | 0, i => i
  | f + 1, i => if bitN a i = bitN b i then comF a b f (i + 1) else i
def comN (a b : List UInt8) : Nat := comF a b 256 0
structure IsCom (a b : List UInt8) (c : Nat) : Prop where
  le : c ≤ 256
  eq : ∀ i, i < c → bitN a i = bitN b i
  ne : c < 256 → bitN a c ≠ bitN b c
theorem comF_is (a b : List UInt8) : ∀ (f i : Nat), f + i = 256 → (∀ j, j < i → bitN a j = bitN b j) → IsCom a b (comF a b f i) := by
  intro f
  induction f with
  | zero => intro i h he; exact ⟨by show i ≤ 256; omega, he, fun hl => absurd hl (by show ¬ i < 256; omega)⟩
  | succ f ih =>
    intro i h he
    unfold comF
    by_cases hb : bitN a i = bitN b i
    · rw [if_pos hb]
      refine ih (i + 1) (by omega) fun j hj => ?_
      by_cases e : j = i
      · subst e; exact hb
      · exact he j (by omega)
    · rw [if_neg hb]
      exact ⟨by omega, he, fun _ => hb⟩
theorem comN_is (a b : List UInt8) : IsCom a b (comN a b) := comF_is a b 256 0 rfl fun _ h => by omega
theorem IsCom.uniq {a b : List UInt8} {c d : Nat} (h : IsCom a b c) (g : IsCom a b d) : c = d := by
  have h1 := h.le
  have h2 := g.le
  rcases Nat.lt_trichotomy c d with hl | hl | hl
  · exact absurd (g.eq c hl) (h.ne (by omega))
  · exact hl
  · exact absurd (h.eq d hl) (g.ne (by omega))
theorem comN_succ {a b : List UInt8} {c : Nat} (hc : c < 256) : c + 1 ≤ comN a b ↔ c ≤ comN a b ∧ bitN a c = bitN b c := by
  have h := comN_is a b
  constructor
  · intro hl; exact ⟨by omega, h.eq c (by omega)⟩
  · rintro ⟨h1, h2⟩
    rcases Nat.lt_or_ge c (comN a b) with hl | hl
    · exact hl
    · have e : comN a b = c := by omega
      exact absurd (e ▸ h2 : bitN a (comN a b) = bitN b (comN a b)) (h.ne (by omega))
def underM (m : List En) (k : List UInt8) (c : Nat) : List En := m.filter fun e => decide (c ≤ comN e.k k)
def Tr.und (T : Tr) (k : List UInt8) (c : Nat) : Tr := if c ≤ T.dp k 0 then T.atN k 0 c else if (T.fin k).er.kind = 1 ∧ comN (T.fin k).key k < c then .nil else T.fin k
end Go.Sp.Tryz

set_option maxRecDepth 100000
set_option maxHeartbeats 1000000
set_option linter.unusedVariables false
set_option linter.unusedSimpArgs false
namespace Go.Sp.Tryz
open Go.Proofs Go.RowKit Go.Sp

def len8 (n : Nat) : Nat := if n = 0 then 0 else Nat.log2 n + 1
end Go.Sp.Tryz

set_option maxRecDepth 100000
set_option maxHeartbeats 1000000
set_option linter.unusedVariables false
set_option linter.unusedSimpArgs false
namespace Go.Sp.Tryz
open Go.Proofs Go.RowKit Go.Sp

def undP (T : Tr) (k : List UInt8) (c : Nat) : Nat → Value
  | 0 => .pointer none
  | i + 1 => if (T.atN k 0 i).er.kind = 1 ∧ comN (T.atN k 0 i).key k < c then .pointer none else (T.atN k 0 i).ptr
end Go.Sp.Tryz

