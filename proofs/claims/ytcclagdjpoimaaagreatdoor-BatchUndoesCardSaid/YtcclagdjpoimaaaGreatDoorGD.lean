/- Walks of functions, printed by a program of this session (gen.py) from notes on each function. -/
import Derived.Test.YtcclagdjpoimaaaGreatDoorGC
import Derived.Test.YtcclagdjpoimaaaGreatDoorG9
import Derived.Test.YtcclagdjpoimaaaGreatDoorGF
import Derived.Test.YtcclagdjpoimaaaGreatDoorDfr
set_option maxRecDepth 100000
set_option maxHeartbeats 1000000
set_option linter.unusedVariables false
set_option linter.unusedSimpArgs false
namespace Go.Sp.Tryz
open Go.Proofs Go.RowKit Go.Sp
end Go.Sp.Tryz

set_option maxRecDepth 100000
set_option maxHeartbeats 1000000
set_option linter.unusedVariables false
set_option linter.unusedSimpArgs false
namespace Go.Sp.Tryz
open Go.Proofs Go.RowKit Go.Sp

def backV (bs : List Tr) (j : Nat) (xs : List Value) (_ : World) : Prop := ∃ h : bs.length - 1 - j < bs.length, xs = [.int .i64 ((bs.length - 1 - j : Nat) : Int), (bs[bs.length - 1 - j]).ptr]
def AllA (bits : Int) (bs : List Tr) (w : World) : Prop := ∀ b ∈ bs, TrA bits b w
theorem SlV.get {w : World} {s : Value} {bs : List Tr} (h : SlV s (bs.map Tr.ptr) w) (i : Nat) (hi : i < bs.length) : RdA w (sAddr s (i * 1)) [(bs[i]).ptr] := by
  have := SlV.rd h i (by simpa using hi)
  rwa [List.getElem_map] at this

end Go.Sp.Tryz

set_option maxRecDepth 100000
set_option maxHeartbeats 1000000
set_option linter.unusedVariables false
set_option linter.unusedSimpArgs false
namespace Go.Sp.Tryz
open Go.Proofs Go.RowKit Go.Sp

end Go.Sp.Tryz

set_option maxRecDepth 100000
set_option maxHeartbeats 1000000
set_option linter.unusedVariables false
set_option linter.unusedSimpArgs false
namespace Go.Sp.Tryz
open Go.Proofs Go.RowKit Go.Sp

theorem Srt.pm {m : List En} (h : Srt m) (hk : KL m) : Pm 0 m := Pm.zero hk h.dis
theorem KL.take {l : List En} (h : KL l) (i : Nat) : KL (l.take i) := fun e he => h e (List.mem_of_mem_take he)
theorem getM_self {m : List En} {e : En} (hd : m.Pairwise fun a b => num a.k ≠ num b.k) (he : e ∈ m) : getM m e.k = some e := by
  induction m with
  | nil => cases he
  | cons x m ih =>
    have h := List.pairwise_cons.1 hd
    unfold getM
    rw [List.find?_cons]
    by_cases hx : x.k = e.k
    · rcases List.mem_cons.1 he with rfl | he'
      · simp
      · exact absurd (congrArg num hx) (h.1 e he')
    · rw [show (x.k == e.k) = false by simpa using hx]
      rcases List.mem_cons.1 he with rfl | he'
      · exact absurd rfl hx
      · exact ih h.2 he'

end Go.Sp.Tryz

