/- What the card gives of the listed variables: the words of the rounds, and the handle of the type error. -/
import Derived.Test.YthkombhebdjamaaGreatDoorRows
import Derived.MakeChecks
import Derived.LaidHandle
import Derived.Test.YthkombhebdjamaaGreatDoorP4
import Derived.Test.YthkombhebdjamaaGreatDoorClose
set_option maxRecDepth 100000
namespace Go.Proofs.YthkombhebdjamaaGreatDoor
open Go.ChangeShapes Go.WideShapes Go.ChangeAt Go.RowKit Go.Sp
open Go.Sp.Tryz
theorem EZ {W : World} (h : laidMetH Tryz.prog [("errors.errorType", Rows.laid_errors_errorType), ("sparsetree/sha.rounds", Rows.laid_sparsetree_sha_rounds)] W) : laidMet Tryz.prog [("sparsetree/sha.rounds", Rows.laid_sparsetree_sha_rounds)] W ∧ handlesMet Tryz.prog [("errors.errorType", Rows.laid_errors_errorType)] W := h
theorem xB {W : World} (h0 : laidMetH Tryz.prog [("errors.errorType", Rows.laid_errors_errorType), ("sparsetree/sha.rounds", Rows.laid_sparsetree_sha_rounds)] W) : aJ Nil aZ W := by
  have h := (EZ h0).1
  obtain ⟨ps, ⟨g0, t0, cs0, f0, p0, q0, hg0, ht0, hv0, hd0, _, _⟩, _, _⟩ := h
  have hg : Tryz.prog.globalNamed "sparsetree/sha.rounds" = some 1 := by kernel_rfl
  have ht : (Tryz.prog.globals[1]?).map (·.type) = some 302 := by kernel_rfl
  obtain rfl := Option.some.inj (hg.symm.trans hg0)
  obtain rfl := Option.some.inj (ht.symm.trans ht0)
  have hz := NJ (fL.map fun x => (x.toNat : Int)) (eR TryzT.aBm) (gB TryzT.vE) (by kernel_rfl) (by kernel_rfl) (p := p0) (by
    have e : (Rows.laid_sparsetree_sha_rounds : DataW Unit) = .agg ((fL.map fun x => (x.toNat : Int)).map fun z => .lit (.int .u32 z)) := by kernel_rfl
    rw [e] at hd0; exact hd0)
  refine AJ (l := kw fL) fun i => ?_
  have h1 := World.var?_cell hg0 hv0 i
  rw [h1]
  have e2 : cs0.toList = kw fL := by rw [hz, List.map_map]; rfl
  rw [← e2]; simp
theorem ND : ∀ t : Fin 367, Tryz.prog.rowNamed t.val [101, 114, 114, 111, 114] = true → t.val = 61 := by decide +kernel
theorem zV {W : World} (h0 : laidMetH Tryz.prog [("errors.errorType", Rows.laid_errors_errorType), ("sparsetree/sha.rounds", Rows.laid_sparsetree_sha_rounds)] W) : aJ Nil fD W := by
  obtain ⟨name, u, ty, h1, h2, h3, h4, h5⟩ := (EZ h0).2 _ (List.mem_singleton.2 rfl)
  obtain rfl : [101, 114, 114, 111, 114] = name := Option.some.inj h1
  have hu : (Tryz.prog.cutTypes.find? (·.1 == "internal/reflectlite.rtype")).map (·.2) = some 223 := by kernel_rfl
  obtain rfl := Option.some.inj (hu.symm.trans h2)
  have hs : Tryz.prog.types.size = 367 := by kernel_rfl
  obtain rfl : ty = 61 := ND ⟨ty, hs ▸ h3⟩ h4
  have hg : Tryz.prog.globalNamed "errors.errorType" = some 0 := by kernel_rfl
  refine AJ (g := 0) (l := _) fun i => ?_
  rw [World.var?_cell hg h5 i]
  match i with
  | 0 => rfl
  | _ + 1 => rfl
end Go.Proofs.YthkombhebdjamaaGreatDoor
