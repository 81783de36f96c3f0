/- Walks of functions, printed by a program of this session (gen.py) from notes on each function. -/
import Derived.Test.YtcclagdjpoimaaaGreatDoorG8
set_option maxRecDepth 100000
set_option maxHeartbeats 1000000
set_option linter.unusedVariables false
set_option linter.unusedSimpArgs false
namespace Go.Sp.Tryz
open Go.Proofs Go.RowKit Go.Sp

theorem Srt.part {m : List En} {d b : Nat} (h : Srt m) : Srt (partM m d b) := h.filter _
theorem joinS_grow {d : Nat} {m : List En} (h : Pm d m) (hd : d < 256) : joinS (grow (d + 1) (partM m d 0)) (grow (d + 1) (partM m d 1)) = grow d m := by
  match m, h with
  | [], _ => simp [partM, grow_nil, joinS]
  | [e], _ =>
    have hb := bitN_lt e.k d
    rw [grow_one]
    by_cases h0 : bitN e.k d = 0
    · have e0 : partM [e] d 0 = [e] := by simp [partM, h0]
      have e1 : partM [e] d 1 = [] := by simp [partM, h0]
      rw [e0, e1, grow_one, grow_nil]; rfl
    · have e0 : partM [e] d 0 = [] := by simp [partM, h0]
      have e1 : partM [e] d 1 = [e] := by simp [partM]; omega
      rw [e0, e1, grow_one, grow_nil]; rfl
  | a :: b :: m, h =>
    rw [grow_many d _ hd (by simp)]
    exact joinS_inner (by rw [(h.part hd 0).cnt, (h.part hd 1).cnt, part_len]; simp)
def Near (d : Nat) (m : List En) (k : List UInt8) : Prop := ∀ e ∈ m, d ≤ comN e.k k
theorem Near.part {d : Nat} {m : List En} {k : List UInt8} (h : Near d m k) (hd : d < 256) : Near (d + 1) (partM m d (bitN k d)) k := fun e he =>
  (comN_succ hd).2 ⟨h e (partM_mem.1 he).1, (partM_mem.1 he).2⟩
theorem Near.zero (m : List En) (k : List UInt8) : Near 0 m k := fun _ _ => Nat.zero_le _
def jnS (k : List UInt8) (d : Nat) (n b : Sh) : Sh := if bitN k d = 0 then joinS n b else joinS b n
def pairS (k : List UInt8) (a b : Sh) : Nat → Nat → Sh
  | 0, c => jnS k c a b
  | f + 1, d => jnS k d (pairS k a b f (d + 1)) .nil
def putS (k v : List UInt8) : Nat → Sh → Sh
  | _, .nil => .leaf k v
  | d, .leaf q u => if q = k then .leaf k v else pairS q (.leaf q u) (.leaf k v) (comN q k - d) d
  | d, .inner l r => if bitN k d = 0 then joinS (putS k v (d + 1) l) r else joinS l (putS k v (d + 1) r)
def remS (k : List UInt8) : Nat → Sh → Sh
  | _, .nil => .nil
  | _, .leaf q u => if q = k then .nil else .leaf q u
  | d, .inner l r => if bitN k d = 0 then joinS (remS k (d + 1) l) r else joinS l (remS k (d + 1) r)
end Go.Sp.Tryz

set_option maxRecDepth 100000
set_option maxHeartbeats 1000000
set_option linter.unusedVariables false
set_option linter.unusedSimpArgs false
namespace Go.Sp.Tryz
open Go.Proofs Go.RowKit Go.Sp

def upS (k : List UInt8) : Nat → List Sh → Sh → Sh
  | _, [], e => e
  | d, b :: bs, e => jnS k d (upS k (d + 1) bs e) b
def besL (T : Tr) (k : List UInt8) (d n : Nat) : List Tr := (List.range n).map fun j => (T.atN k d j).beside k (j + d)
end Go.Sp.Tryz

