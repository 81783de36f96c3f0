/- What the card gives of the listed variable: the words of the rounds. -/
import Derived.Test.YtcclagdjpoimaaaGreatDoorRows
import Derived.MakeChecks
import Derived.Test.YtcclagdjpoimaaaGreatDoorG5
import Derived.Test.YtcclagdjpoimaaaGreatDoorClose
set_option maxRecDepth 100000
namespace Go.Proofs.YtcclagdjpoimaaaGreatDoor
open Go.ChangeShapes Go.WideShapes Go.ChangeAt Go.RowKit Go.Sp
open Go.Sp.Tryz
theorem rounds_of_laid {W : World} (h : laidMetH Tryz.prog [("sparsetree/sha.rounds", Rows.laid_sparsetree_sha_rounds)] W) : Rob Nil Rounds W := by
  rw [MakeChecks.laidMetH_plain _ _ _ (by kernel_rfl)] at h
  obtain ⟨ps, ⟨g0, t0, cs0, f0, p0, q0, hg0, ht0, hv0, hd0, _, _⟩, _, _⟩ := h
  have hg : Tryz.prog.globalNamed "sparsetree/sha.rounds" = some 0 := by kernel_rfl
  have ht : (Tryz.prog.globals[0]?).map (·.type) = some 175 := by kernel_rfl
  obtain rfl := Option.some.inj (hg.symm.trans hg0)
  obtain rfl := Option.some.inj (ht.symm.trans ht0)
  have hz := laid_ints (roundsL.map fun x => (x.toNat : Int)) (und_of_array TryzT.ar175) (und_of_int TryzT.in147) (by kernel_rfl) (by kernel_rfl) (p := p0) (by
    have e : (Rows.laid_sparsetree_sha_rounds : DataW Unit) = .agg ((roundsL.map fun x => (x.toNat : Int)).map fun z => .lit (.int .u32 z)) := by kernel_rfl
    rw [e] at hd0; exact hd0)
  refine rob_cells (l := kw roundsL) fun i => ?_
  have h1 := World.var?_cell hg0 hv0 i
  rw [h1]
  have e2 : cs0.toList = kw roundsL := by rw [hz, List.map_map]; rfl
  rw [← e2]; simp
end Go.Proofs.YtcclagdjpoimaaaGreatDoor
