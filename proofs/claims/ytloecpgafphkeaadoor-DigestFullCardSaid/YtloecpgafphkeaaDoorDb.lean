/- Walks of functions, printed by a program of this session (gen.py) from notes on each function. -/
import Derived.Test.YtloecpgafphkeaaDoorDa
set_option maxRecDepth 100000
set_option maxHeartbeats 1000000
set_option linter.unusedVariables false
set_option linter.unusedSimpArgs false
namespace Go.Sp.Tryd
open Go.Proofs Go.RowKit Go.Sp

theorem cutI_zero (l : List UInt8) : cutI l 0 = List.replicate 32 0 := by
  show cutN l (clampN 0) = _
  apply List.ext_getElem
  · rw [cutN_length]; simp
  · intro i h1 h2
    rw [cutN_get]
    have h := (l.getD i 0).toNat_lt
    apply UInt8.toNat_inj.1
    have h0 : clampN 0 = 0 := by decide
    rw [cutByte_toNat, List.getElem_replicate, show keptN (clampN 0) i = 0 by unfold keptN; omega, Nat.sub_zero, Nat.div_eq_of_lt (by omega)]
    rfl
theorem cutI_full (l : List UInt8) (h : l.length = 32) : cutI l 256 = l := cutN_full l h
theorem abc4 : cutI (shaOf [97, 98, 99]) 4 = (List.replicate 32 0).set 0 176 := by decide +kernel
theorem cut255 : cutI (((List.replicate 32 0).set 0 255).set 1 255) 4 = (List.replicate 32 0).set 0 240 := by decide +kernel

theorem alive05_c {X : Nat → Prop} {w : World}  (hX : ∀ b, X b → b < w.heap.size) (hf0 : Rob X (Rounds) w) :
    Ret Tryd.prog 23 [].toArray w fun v w' => v = .bool true ∧ Out Nil w w' := by
  refine Ret.of_body (N := 59) Tryd.func23 rfl rfl (by decide +revert) ?_
  have H := St.begin hX
  replace H := H.add (rob0 hf0)
  refine WE.seq_reg ?_
  refine WL.as rfl rfl ?_
  refine WL.nil ?_
  refine WE.seq_reg ?_
  refine WL.call TrydT.fb21 rfl (New_c (i := 4) H.yylt (by decide)) ?_
  rintro _ w1 ⟨bh1, bc1, rfl, hO, hge, hB, hR⟩
  replace H := H.pushR hO (Ent.blk bc1 64 [.int .i64 0]) hB (fun c hc => by cases hc; exact hge) hR
  refine WL.mv rfl rfl ?_
  refine WL.pv (PV.extract rfl rfl rfl) rfl ?_
  refine WL.pv (PV.extract rfl rfl rfl) rfl ?_
  refine WL.as rfl rfl ?_
  refine WL.as rfl rfl ?_
  refine WL.nil ?_
  refine WE.seq_reg ?_
  refine WL.call TrydT.fb21 rfl (New_c (i := 0) H.yylt (by decide)) ?_
  rintro _ w2 ⟨bh2, bc2, rfl, hO, hge, hB, hR⟩
  replace H := H.pushR hO (Ent.blk bc2 64 [.int .i64 0]) hB (fun c hc => by cases hc; exact hge) hR
  refine WL.mv rfl rfl ?_
  refine WL.pv (PV.extract rfl rfl rfl) rfl ?_
  refine WL.pv (PV.extract rfl rfl rfl) rfl ?_
  refine WL.as rfl rfl ?_
  refine WL.as rfl rfl ?_
  refine WL.nil ?_
  refine WE.seq ?_
  refine WE.seq_reg ?_
  refine WL.mv rfl rfl ?_
  refine WL.pv (PV.neq rfl rfl rfl) rfl ?_
  refine WL.mv rfl rfl ?_
  refine WL.known (t := 16) (c := false) rfl (by first | rfl | simp) ?_
  refine WL.mv rfl rfl ?_
  refine WL.pv (PV.neq rfl rfl rfl) rfl ?_
  first | refine WL.pv (PV.pick_t rfl rfl rfl) rfl ?_ | refine WL.pv (PV.pick_f rfl rfl rfl) rfl ?_ | refine WL.pv (PV.pick rfl rfl) rfl ?_
  refine WL.mv rfl rfl ?_
  refine WL.known (t := 20) (c := false) rfl (by first | rfl | simp) ?_
  refine WL.mv rfl rfl ?_
  refine WL.pv (PV.eqlPn rfl TrydT.pt37 rfl rfl) rfl ?_
  first | refine WL.pv (PV.pick_t rfl rfl rfl) rfl ?_ | refine WL.pv (PV.pick_f rfl rfl rfl) rfl ?_ | refine WL.pv (PV.pick rfl rfl) rfl ?_
  refine WL.mv rfl rfl ?_
  refine WL.known (t := 24) (c := false) rfl (by first | rfl | simp) ?_
  refine WL.mv rfl rfl ?_
  refine WL.pv (PV.eqlPn rfl TrydT.pt37 rfl rfl) rfl ?_
  first | refine WL.pv (PV.pick_t rfl rfl rfl) rfl ?_ | refine WL.pv (PV.pick_f rfl rfl rfl) rfl ?_ | refine WL.pv (PV.pick rfl rfl) rfl ?_
  refine WL.nil ?_
  refine WE.cond_f' rfl rfl ?_
  refine WE.skip ?_
  refine WE.seq_reg ?_
  refine WL.mv rfl rfl ?_
  refine WL.buildSliceF (l0 := [.int .u8 (0), .int .u8 (0), .int .u8 (0)]) H rfl TrydT.st22 (by decide) (zrow_one _ _) (Fl.cons rfl (by first | rfl | exact SlC.cells (H.p 0 rfl) | exact SlC.cells (H.p 1 rfl) | exact SlC.cells (H.p 2 rfl) | exact SlC.cells (H.p 3 rfl) | exact SlC.cells (H.p 4 rfl) | exact SlC.cells (H.p 5 rfl) | exact SlC.cells (H.p 6 rfl) | exact SlC.cells (H.p 7 rfl) | exact SlC.cells (H.p 8 rfl) | exact SlC.cells (H.p 9 rfl)) (by first | rfl | (simp only [kc_length, kw_length, List.length_replicate]; omega) | (simp [kc_length, kw_length]; omega) | (simp [kc_length, kw_length, *])) Laid.head (Fl.cons rfl (by first | rfl | exact SlC.cells (H.p 0 rfl) | exact SlC.cells (H.p 1 rfl) | exact SlC.cells (H.p 2 rfl) | exact SlC.cells (H.p 3 rfl) | exact SlC.cells (H.p 4 rfl) | exact SlC.cells (H.p 5 rfl) | exact SlC.cells (H.p 6 rfl) | exact SlC.cells (H.p 7 rfl) | exact SlC.cells (H.p 8 rfl) | exact SlC.cells (H.p 9 rfl)) (by first | rfl | (simp only [kc_length, kw_length, List.length_replicate]; omega) | (simp [kc_length, kw_length]; omega) | (simp [kc_length, kw_length, *])) (Laid.tail Laid.head rfl) (Fl.cons rfl (by first | rfl | exact SlC.cells (H.p 0 rfl) | exact SlC.cells (H.p 1 rfl) | exact SlC.cells (H.p 2 rfl) | exact SlC.cells (H.p 3 rfl) | exact SlC.cells (H.p 4 rfl) | exact SlC.cells (H.p 5 rfl) | exact SlC.cells (H.p 6 rfl) | exact SlC.cells (H.p 7 rfl) | exact SlC.cells (H.p 8 rfl) | exact SlC.cells (H.p 9 rfl)) (by first | rfl | (simp only [kc_length, kw_length, List.length_replicate]; omega) | (simp [kc_length, kw_length]; omega) | (simp [kc_length, kw_length, *])) (Laid.tail (Laid.tail Laid.head rfl) rfl) Fl.nil))) rfl ?_
  intro b29 w3 H
  first | (refine WL.convBytes H 0 rfl TrydT.sl22 TrydT.in5 rfl rfl rfl ?_; intro w4 H; replace H := H.freeze (i := 0) rfl; replace H := H.add ((H.rob 0 rfl).imp fun _ h => SlB.of_rd (l := [97, 98, 99]) h.2 rfl (Nat.le_refl _))) | (refine WL.convBytes H 1 rfl TrydT.sl22 TrydT.in5 rfl rfl rfl ?_; intro w4 H; replace H := H.freeze (i := 1) rfl; replace H := H.add ((H.rob 0 rfl).imp fun _ h => SlB.of_rd (l := [97, 98, 99]) h.2 rfl (Nat.le_refl _))) | (refine WL.convBytes H 2 rfl TrydT.sl22 TrydT.in5 rfl rfl rfl ?_; intro w4 H; replace H := H.freeze (i := 2) rfl; replace H := H.add ((H.rob 0 rfl).imp fun _ h => SlB.of_rd (l := [97, 98, 99]) h.2 rfl (Nat.le_refl _))) | (refine WL.convBytes H 3 rfl TrydT.sl22 TrydT.in5 rfl rfl rfl ?_; intro w4 H; replace H := H.freeze (i := 3) rfl; replace H := H.add ((H.rob 0 rfl).imp fun _ h => SlB.of_rd (l := [97, 98, 99]) h.2 rfl (Nat.le_refl _))) | (refine WL.convBytes H 4 rfl TrydT.sl22 TrydT.in5 rfl rfl rfl ?_; intro w4 H; replace H := H.freeze (i := 4) rfl; replace H := H.add ((H.rob 0 rfl).imp fun _ h => SlB.of_rd (l := [97, 98, 99]) h.2 rfl (Nat.le_refl _)))
  refine WL.call TrydT.fb28 rfl (HSum_c (bits := 4) (n := _) (la := [97, 98, 99]) H.yylt (H.l 1 rfl) (by first | exact H.robL 1 rfl 0 rfl | exact H.robL 1 rfl 1 rfl | exact H.robL 1 rfl 2 rfl | exact H.robL 1 rfl 3 rfl | exact H.robL 1 rfl 4 rfl | exact H.robL 1 rfl 5 rfl | exact H.robL 1 rfl 6 rfl | exact H.robL 1 rfl 7 rfl | exact (fun _ _ => SlB.nil _)) (by first | exact H.robL 1 rfl 0 rfl | exact H.robL 1 rfl 1 rfl | exact H.robL 1 rfl 2 rfl | exact H.robL 1 rfl 3 rfl | exact H.robL 1 rfl 4 rfl | exact H.robL 1 rfl 5 rfl | exact H.robL 1 rfl 6 rfl | exact H.robL 1 rfl 7 rfl | exact (fun _ _ => SlB.nil _)) (by first | exact H.robL 1 rfl 0 rfl | exact H.robL 1 rfl 1 rfl | exact H.robL 1 rfl 2 rfl | exact H.robL 1 rfl 3 rfl | exact H.robL 1 rfl 4 rfl | exact H.robL 1 rfl 5 rfl | exact H.robL 1 rfl 6 rfl | exact H.robL 1 rfl 7 rfl | exact (fun _ _ => SlB.nil _)) (by omega) (by first | omega | simp | decide)) ?_
  rintro _ w5 ⟨rfl, hO, hB⟩
  rw [wrap64_in (by omega) (by omega)] at hB
  replace H := H.called 1 rfl hO hB
  refine WL.alloc H rfl TrydT.ze31 rfl ?_
  intro b5 w6 H
  first | refine WL.storeL H 0 rfl rfl rfl (new := _) rfl (by first | exact TrydT.sz31 | (rw [TrydT.sz31]; simp [kc_length, kw_length, *])) (by first | exact kc_one _ | exact kw_one _ | exact one_append (kc_one _) (kc_one _) | exact one_lit _ rfl | exact one_append (kc_one _) (one_lit _ rfl)) (Laid.at (Laid.all (by first | rfl | (simp only [kc_length, kw_length, List.length_replicate]; omega) | (simp [kc_length, kw_length]; omega) | (simp [kc_length, kw_length, *]))) (by first | rfl | (simp; done) | (simp [kc_length, kw_length, *]; done) | omega)) rfl ?_ | refine WL.storeL H 1 rfl rfl rfl (new := _) rfl (by first | exact TrydT.sz31 | (rw [TrydT.sz31]; simp [kc_length, kw_length, *])) (by first | exact kc_one _ | exact kw_one _ | exact one_append (kc_one _) (kc_one _) | exact one_lit _ rfl | exact one_append (kc_one _) (one_lit _ rfl)) (Laid.at (Laid.all (by first | rfl | (simp only [kc_length, kw_length, List.length_replicate]; omega) | (simp [kc_length, kw_length]; omega) | (simp [kc_length, kw_length, *]))) (by first | rfl | (simp; done) | (simp [kc_length, kw_length, *]; done) | omega)) rfl ?_ | refine WL.storeL H 2 rfl rfl rfl (new := _) rfl (by first | exact TrydT.sz31 | (rw [TrydT.sz31]; simp [kc_length, kw_length, *])) (by first | exact kc_one _ | exact kw_one _ | exact one_append (kc_one _) (kc_one _) | exact one_lit _ rfl | exact one_append (kc_one _) (one_lit _ rfl)) (Laid.at (Laid.all (by first | rfl | (simp only [kc_length, kw_length, List.length_replicate]; omega) | (simp [kc_length, kw_length]; omega) | (simp [kc_length, kw_length, *]))) (by first | rfl | (simp; done) | (simp [kc_length, kw_length, *]; done) | omega)) rfl ?_ | refine WL.storeL H 3 rfl rfl rfl (new := _) rfl (by first | exact TrydT.sz31 | (rw [TrydT.sz31]; simp [kc_length, kw_length, *])) (by first | exact kc_one _ | exact kw_one _ | exact one_append (kc_one _) (kc_one _) | exact one_lit _ rfl | exact one_append (kc_one _) (one_lit _ rfl)) (Laid.at (Laid.all (by first | rfl | (simp only [kc_length, kw_length, List.length_replicate]; omega) | (simp [kc_length, kw_length]; omega) | (simp [kc_length, kw_length, *]))) (by first | rfl | (simp; done) | (simp [kc_length, kw_length, *]; done) | omega)) rfl ?_ | refine WL.storeL H 4 rfl rfl rfl (new := _) rfl (by first | exact TrydT.sz31 | (rw [TrydT.sz31]; simp [kc_length, kw_length, *])) (by first | exact kc_one _ | exact kw_one _ | exact one_append (kc_one _) (kc_one _) | exact one_lit _ rfl | exact one_append (kc_one _) (one_lit _ rfl)) (Laid.at (Laid.all (by first | rfl | (simp only [kc_length, kw_length, List.length_replicate]; omega) | (simp [kc_length, kw_length]; omega) | (simp [kc_length, kw_length, *]))) (by first | rfl | (simp; done) | (simp [kc_length, kw_length, *]; done) | omega)) rfl ?_
  intro w7 H
  refine WL.nil ?_
  refine WE.seq_reg ?_
  refine WL.pv (PV.buildA rfl TrydT.ar31 TrydT.sz5 TrydT.ze31 (Fl.cons rfl rfl rfl (Laid.byteA (x := 255) 0 (by simp)) (Fl.cons rfl rfl rfl (Laid.byteA (x := 255) 1 (by simp)) Fl.nil))) rfl ?_
  refine WL.call TrydT.fb26 rfl (Cut_c (i := 4) H.yylt (by decide) (by omega)) ?_
  rintro _ w8 ⟨rfl, hO⟩
  replace H := H.out hO
  refine WL.pv (PV.buildA rfl TrydT.ar31 TrydT.sz5 TrydT.ze31 (Fl.cons rfl rfl rfl (Laid.byteA (x := 240) 0 (by simp)) Fl.nil)) rfl ?_
  refine WL.pv (PV.eqlB rfl TrydT.ar31 TrydT.in5 TrydT.sz5 (by kernel_rfl) rfl rfl (by first | assumption | (simp only [cutI_length, cutN_length, shaOf_length, List.length_set, List.length_replicate]; done) | omega) (by first | assumption | (simp only [cutI_length, cutN_length, shaOf_length, List.length_set, List.length_replicate]; done) | omega)) rfl ?_
  refine WL.mv rfl rfl ?_
  refine WL.known (t := 36) (c := true) rfl (by first | rfl | simp [cut255, abc4, cutI_zero]) ?_
  refine WL.loadR rfl TrydT.ag31 rfl rfl (by first | exact Blk.segAt (H.l 0 rfl) (Seg.all _) (by first | rfl | (simp; done) | (simp [kc_length, kw_length, *]; done) | omega) | exact Blk.segAt (H.l 1 rfl) (Seg.all _) (by first | rfl | (simp; done) | (simp [kc_length, kw_length, *]; done) | omega) | exact Blk.segAt (H.l 2 rfl) (Seg.all _) (by first | rfl | (simp; done) | (simp [kc_length, kw_length, *]; done) | omega) | exact Blk.segAt (H.l 3 rfl) (Seg.all _) (by first | rfl | (simp; done) | (simp [kc_length, kw_length, *]; done) | omega) | exact Blk.segAt (H.l 4 rfl) (Seg.all _) (by first | rfl | (simp; done) | (simp [kc_length, kw_length, *]; done) | omega)) (by first | exact TrydT.sz31 | (rw [TrydT.sz31]; simp [kc_length, kw_length, *])) ?_
  refine WL.pv (PV.buildA rfl TrydT.ar31 TrydT.sz5 TrydT.ze31 (Fl.cons rfl rfl rfl (Laid.byteA (x := 176) 0 (by simp)) Fl.nil)) rfl ?_
  refine WL.pv (PV.eqlB rfl TrydT.ar31 TrydT.in5 TrydT.sz5 (by kernel_rfl) rfl rfl (by first | assumption | (simp only [cutI_length, cutN_length, shaOf_length, List.length_set, List.length_replicate]; done) | omega) (by first | assumption | (simp only [cutI_length, cutN_length, shaOf_length, List.length_set, List.length_replicate]; done) | omega)) rfl ?_
  first | refine WL.pv (PV.pick_t rfl rfl rfl) rfl ?_ | refine WL.pv (PV.pick_f rfl rfl rfl) rfl ?_ | refine WL.pv (PV.pick rfl rfl) rfl ?_
  refine WL.mv rfl rfl ?_
  refine WL.known (t := 41) (c := true) rfl (by first | rfl | simp [cut255, abc4, cutI_zero]) ?_
  refine WL.mv rfl rfl ?_
  refine WL.buildSliceF (l0 := [.int .u8 (0), .int .u8 (0), .int .u8 (0)]) H rfl TrydT.st22 (by decide) (zrow_one _ _) (Fl.cons rfl (by first | rfl | exact SlC.cells (H.p 0 rfl) | exact SlC.cells (H.p 1 rfl) | exact SlC.cells (H.p 2 rfl) | exact SlC.cells (H.p 3 rfl) | exact SlC.cells (H.p 4 rfl) | exact SlC.cells (H.p 5 rfl) | exact SlC.cells (H.p 6 rfl) | exact SlC.cells (H.p 7 rfl) | exact SlC.cells (H.p 8 rfl) | exact SlC.cells (H.p 9 rfl)) (by first | rfl | (simp only [kc_length, kw_length, List.length_replicate]; omega) | (simp [kc_length, kw_length]; omega) | (simp [kc_length, kw_length, *])) Laid.head (Fl.cons rfl (by first | rfl | exact SlC.cells (H.p 0 rfl) | exact SlC.cells (H.p 1 rfl) | exact SlC.cells (H.p 2 rfl) | exact SlC.cells (H.p 3 rfl) | exact SlC.cells (H.p 4 rfl) | exact SlC.cells (H.p 5 rfl) | exact SlC.cells (H.p 6 rfl) | exact SlC.cells (H.p 7 rfl) | exact SlC.cells (H.p 8 rfl) | exact SlC.cells (H.p 9 rfl)) (by first | rfl | (simp only [kc_length, kw_length, List.length_replicate]; omega) | (simp [kc_length, kw_length]; omega) | (simp [kc_length, kw_length, *])) (Laid.tail Laid.head rfl) (Fl.cons rfl (by first | rfl | exact SlC.cells (H.p 0 rfl) | exact SlC.cells (H.p 1 rfl) | exact SlC.cells (H.p 2 rfl) | exact SlC.cells (H.p 3 rfl) | exact SlC.cells (H.p 4 rfl) | exact SlC.cells (H.p 5 rfl) | exact SlC.cells (H.p 6 rfl) | exact SlC.cells (H.p 7 rfl) | exact SlC.cells (H.p 8 rfl) | exact SlC.cells (H.p 9 rfl)) (by first | rfl | (simp only [kc_length, kw_length, List.length_replicate]; omega) | (simp [kc_length, kw_length]; omega) | (simp [kc_length, kw_length, *])) (Laid.tail (Laid.tail Laid.head rfl) rfl) Fl.nil))) rfl ?_
  intro b43 w9 H
  first | (refine WL.convBytes H 0 rfl TrydT.sl22 TrydT.in5 rfl rfl rfl ?_; intro w10 H; replace H := H.freeze (i := 0) rfl; replace H := H.add ((H.rob 0 rfl).imp fun _ h => SlB.of_rd (l := [97, 98, 99]) h.2 rfl (Nat.le_refl _))) | (refine WL.convBytes H 1 rfl TrydT.sl22 TrydT.in5 rfl rfl rfl ?_; intro w10 H; replace H := H.freeze (i := 1) rfl; replace H := H.add ((H.rob 0 rfl).imp fun _ h => SlB.of_rd (l := [97, 98, 99]) h.2 rfl (Nat.le_refl _))) | (refine WL.convBytes H 2 rfl TrydT.sl22 TrydT.in5 rfl rfl rfl ?_; intro w10 H; replace H := H.freeze (i := 2) rfl; replace H := H.add ((H.rob 0 rfl).imp fun _ h => SlB.of_rd (l := [97, 98, 99]) h.2 rfl (Nat.le_refl _))) | (refine WL.convBytes H 3 rfl TrydT.sl22 TrydT.in5 rfl rfl rfl ?_; intro w10 H; replace H := H.freeze (i := 3) rfl; replace H := H.add ((H.rob 0 rfl).imp fun _ h => SlB.of_rd (l := [97, 98, 99]) h.2 rfl (Nat.le_refl _))) | (refine WL.convBytes H 4 rfl TrydT.sl22 TrydT.in5 rfl rfl rfl ?_; intro w10 H; replace H := H.freeze (i := 4) rfl; replace H := H.add ((H.rob 0 rfl).imp fun _ h => SlB.of_rd (l := [97, 98, 99]) h.2 rfl (Nat.le_refl _)))
  refine WL.call TrydT.fb28 rfl (HSum_c (bits := 0) (n := _) (la := [97, 98, 99]) H.yylt (H.l 1 rfl) (by first | exact H.robL 1 rfl 0 rfl | exact H.robL 1 rfl 1 rfl | exact H.robL 1 rfl 2 rfl | exact H.robL 1 rfl 3 rfl | exact H.robL 1 rfl 4 rfl | exact H.robL 1 rfl 5 rfl | exact H.robL 1 rfl 6 rfl | exact H.robL 1 rfl 7 rfl | exact H.robL 1 rfl 8 rfl | exact H.robL 1 rfl 9 rfl | exact (fun _ _ => SlB.nil _)) (by first | exact H.robL 1 rfl 0 rfl | exact H.robL 1 rfl 1 rfl | exact H.robL 1 rfl 2 rfl | exact H.robL 1 rfl 3 rfl | exact H.robL 1 rfl 4 rfl | exact H.robL 1 rfl 5 rfl | exact H.robL 1 rfl 6 rfl | exact H.robL 1 rfl 7 rfl | exact H.robL 1 rfl 8 rfl | exact H.robL 1 rfl 9 rfl | exact (fun _ _ => SlB.nil _)) (by first | exact H.robL 1 rfl 0 rfl | exact H.robL 1 rfl 1 rfl | exact H.robL 1 rfl 2 rfl | exact H.robL 1 rfl 3 rfl | exact H.robL 1 rfl 4 rfl | exact H.robL 1 rfl 5 rfl | exact H.robL 1 rfl 6 rfl | exact H.robL 1 rfl 7 rfl | exact H.robL 1 rfl 8 rfl | exact H.robL 1 rfl 9 rfl | exact (fun _ _ => SlB.nil _)) (by omega) (by first | omega | simp | decide)) ?_
  rintro _ w11 ⟨rfl, hO, hB⟩
  rw [wrap64_in (by omega) (by omega)] at hB
  replace H := H.called 1 rfl hO hB
  refine WL.pv (PV.buildA rfl TrydT.ar31 TrydT.sz5 TrydT.ze31 Fl.nil) rfl ?_
  refine WL.pv (PV.eqlB rfl TrydT.ar31 TrydT.in5 TrydT.sz5 (by kernel_rfl) rfl rfl (by first | assumption | (simp only [cutI_length, cutN_length, shaOf_length, List.length_set, List.length_replicate]; done) | omega) (by first | assumption | (simp only [cutI_length, cutN_length, shaOf_length, List.length_set, List.length_replicate]; done) | omega)) rfl ?_
  first | refine WL.pv (PV.pick_t rfl rfl rfl) rfl ?_ | refine WL.pv (PV.pick_f rfl rfl rfl) rfl ?_ | refine WL.pv (PV.pick rfl rfl) rfl ?_
  refine WL.mv rfl rfl ?_
  refine WL.known (t := 49) (c := true) rfl (by first | rfl | simp [cut255, abc4, cutI_zero]) ?_
  refine WL.mv rfl rfl ?_
  refine WL.call TrydT.fb25 rfl (Calls_c (X := Nil) (n := (0 + 1)) (nilX _) (by first | exact (H.rob 0 rfl).nil | exact (H.rob 1 rfl).nil | exact (H.rob 2 rfl).nil | exact (H.rob 3 rfl).nil | exact (H.rob 4 rfl).nil | exact (H.rob 5 rfl).nil | exact (H.rob 6 rfl).nil | exact (H.rob 7 rfl).nil | exact (H.rob 8 rfl).nil | exact (H.rob 9 rfl).nil) ((H.robN 2 rfl).imp fun _ h => h.rd)) ?_
  rintro _ w12 ⟨rfl, hO⟩
  replace H := H.out hO
  refine WL.pv (PV.eql rfl rfl rfl) rfl ?_
  first | refine WL.pv (PV.pick_t rfl rfl rfl) rfl ?_ | refine WL.pv (PV.pick_f rfl rfl rfl) rfl ?_ | refine WL.pv (PV.pick rfl rfl) rfl ?_
  refine WL.mv rfl rfl ?_
  refine WL.known (t := 54) (c := true) rfl (by first | rfl | simp [cut255, abc4, cutI_zero]) ?_
  refine WL.mv rfl rfl ?_
  refine WL.call TrydT.fb24 rfl (Bits_c (X := Nil) (bits := 4) (nilX _) (by first | exact (H.rob 0 rfl).nil | exact (H.rob 1 rfl).nil | exact (H.rob 2 rfl).nil | exact (H.rob 3 rfl).nil | exact (H.rob 4 rfl).nil | exact (H.rob 5 rfl).nil | exact (H.rob 6 rfl).nil | exact (H.rob 7 rfl).nil | exact (H.rob 8 rfl).nil | exact (H.rob 9 rfl).nil)) ?_
  rintro _ w13 ⟨rfl, hO⟩
  replace H := H.out hO
  refine WL.pv (PV.eql rfl rfl rfl) rfl ?_
  first | refine WL.pv (PV.pick_t rfl rfl rfl) rfl ?_ | refine WL.pv (PV.pick_f rfl rfl rfl) rfl ?_ | refine WL.pv (PV.pick rfl rfl) rfl ?_
  refine WL.as rfl rfl ?_
  refine WL.nil ?_
  refine WE.ret ?_
  refine ⟨[_], _, .nil _, ⟨rfl, trivial⟩, ?_⟩
  refine ⟨?_, H.toOut0⟩
  show Value.bool _ = Value.bool true
  first | rfl | (congr 1; first | (simp; done) | exact decide_eq_true (by omega) | (simp; omega))

theorem DigestStarts_c {X : Nat → Prop} {w : World} {i : Int} (hX : ∀ b, X b → b < w.heap.size) (hf0 : Rob X (Rounds) w) (hbits : 0 ≤ i ∧ i ≤ 256) :
    Ret Tryd.prog 7 [.int .i64 i].toArray w fun v w' => v = .bool true ∧ Out Nil w w' := by
  refine Ret.of_body (N := 42) Tryd.func7 rfl rfl (by simp) ?_
  have H := St.begin hX
  replace H := H.add (rob0 hf0)
  refine WE.seq_reg ?_
  refine WL.as rfl rfl ?_
  refine WL.nil ?_
  refine WE.seq_reg ?_
  refine WL.mv rfl rfl ?_
  refine WL.call TrydT.fb21 rfl (New_c (i := i) H.yylt (by first | assumption | omega)) ?_
  rintro _ w1 ⟨bh1, bc1, rfl, hO, hge, hB, hR⟩
  replace H := H.pushR hO (Ent.blk bc1 64 [.int .i64 0]) hB (fun c hc => by cases hc; exact hge) hR
  refine WL.mv rfl rfl ?_
  refine WL.pv (PV.extract rfl rfl rfl) rfl ?_
  refine WL.pv (PV.extract rfl rfl rfl) rfl ?_
  refine WL.as rfl rfl ?_
  refine WL.as rfl rfl ?_
  refine WL.nil ?_
  refine WE.seq ?_
  refine WE.seq_reg ?_
  refine WL.mv rfl rfl ?_
  refine WL.call TrydT.fb22 rfl (Right_c H.yylt  ) ?_
  rintro _ w2 ⟨rfl, hO⟩
  replace H := H.out hO
  refine WL.pv (PV.not rfl rfl) rfl ?_
  refine WL.nil ?_
  refine WE.cond_f' rfl (by simp [hbits]) ?_
  refine WE.skip ?_
  refine WE.seq_reg ?_
  refine WL.call TrydT.fb23 rfl (alive05_c H.yylt (by first | exact H.rob 0 rfl | exact H.rob 1 rfl | exact H.rob 2 rfl | exact H.rob 3 rfl | exact H.rob 4 rfl | exact H.rob 5 rfl | exact H.rob 6 rfl | exact H.rob 7 rfl | exact (fun _ _ => SlB.nil _))) ?_
  rintro _ w3 ⟨rfl, hO⟩
  replace H := H.out hO
  refine WL.mv rfl rfl ?_
  refine WL.known (t := 23) (c := true) rfl (by first | rfl | simp) ?_
  refine WL.mv rfl rfl ?_
  refine WL.pv (PV.neqPn rfl TrydT.pt37 rfl rfl) rfl ?_
  first | refine WL.pv (PV.pick_t rfl rfl rfl) rfl ?_ | refine WL.pv (PV.pick_f rfl rfl rfl) rfl ?_ | refine WL.pv (PV.pick rfl rfl) rfl ?_
  refine WL.mv rfl rfl ?_
  refine WL.known (t := 27) (c := true) rfl (by first | rfl | simp) ?_
  refine WL.mv rfl rfl ?_
  refine WL.pv (PV.eql rfl rfl rfl) rfl ?_
  first | refine WL.pv (PV.pick_t rfl rfl rfl) rfl ?_ | refine WL.pv (PV.pick_f rfl rfl rfl) rfl ?_ | refine WL.pv (PV.pick rfl rfl) rfl ?_
  refine WL.mv rfl rfl ?_
  refine WL.known (t := 31) (c := true) rfl (by first | rfl | simp) ?_
  refine WL.mv rfl rfl ?_
  refine WL.call TrydT.fb24 rfl (Bits_c (X := Nil) (nilX _) (H.rob 0 rfl).nil) ?_
  rintro _ w4 ⟨rfl, hO⟩
  replace H := H.out hO
  refine WL.mv rfl rfl ?_
  refine WL.pv (PV.eql rfl rfl rfl) rfl ?_
  first | refine WL.pv (PV.pick_t rfl rfl rfl) rfl ?_ | refine WL.pv (PV.pick_f rfl rfl rfl) rfl ?_ | refine WL.pv (PV.pick rfl rfl) rfl ?_
  refine WL.mv rfl rfl ?_
  refine WL.known (t := 37) (c := true) rfl (by first | rfl | simp) ?_
  refine WL.mv rfl rfl ?_
  refine WL.call TrydT.fb25 rfl (Calls_c (X := Nil) (n := 0) (nilX _) (by first | exact (H.rob 0 rfl).nil | exact (H.rob 1 rfl).nil) ((H.robN 0 rfl).imp fun _ h => h.rd)) ?_
  rintro _ w5 ⟨rfl, hO⟩
  replace H := H.out hO
  refine WL.pv (PV.eql rfl rfl rfl) rfl ?_
  first | refine WL.pv (PV.pick_t rfl rfl rfl) rfl ?_ | refine WL.pv (PV.pick_f rfl rfl rfl) rfl ?_ | refine WL.pv (PV.pick rfl rfl) rfl ?_
  refine WL.as rfl rfl ?_
  refine WL.nil ?_
  refine WE.ret ?_
  refine ⟨[_], _, .nil _, ⟨rfl, trivial⟩, ?_⟩
  refine ⟨?_, H.toOut0⟩
  show Value.bool _ = Value.bool true
  first | rfl | (congr 1; first | (simp; done) | exact decide_eq_true (by omega) | (simp; omega))

theorem DigestStartsBad_c {X : Nat → Prop} {w : World} {i : Int} (hX : ∀ b, X b → b < w.heap.size) (hf0 : Rob X (Rounds) w) (hbits : i < 0 ∨ 256 < i) :
    Ret Tryd.prog 7 [.int .i64 i].toArray w fun v w' => v = .bool true ∧ Out Nil w w' := by
  refine Ret.of_body (N := 42) Tryd.func7 rfl rfl (by simp) ?_
  have H := St.begin hX
  replace H := H.add (rob0 hf0)
  refine WE.seq_reg ?_
  refine WL.as rfl rfl ?_
  refine WL.nil ?_
  refine WE.seq_reg ?_
  refine WL.mv rfl rfl ?_
  refine WL.call TrydT.fb21 rfl (NewBad_c (i := i) H.yylt hbits) ?_
  rintro _ w1 ⟨rfl, hO⟩
  replace H := H.out hO
  refine WL.mv rfl rfl ?_
  refine WL.pv (PV.extract rfl rfl rfl) rfl ?_
  refine WL.pv (PV.extract rfl rfl rfl) rfl ?_
  refine WL.as rfl rfl ?_
  refine WL.as rfl rfl ?_
  refine WL.nil ?_
  refine WE.seq ?_
  refine WE.seq_reg ?_
  refine WL.mv rfl rfl ?_
  refine WL.call TrydT.fb22 rfl (Right_c H.yylt  ) ?_
  rintro _ w2 ⟨rfl, hO⟩
  replace H := H.out hO
  refine WL.pv (PV.not rfl rfl) rfl ?_
  refine WL.nil ?_
  refine WE.cond_t' rfl (by simp; omega) ?_
  refine WE.seq_reg ?_
  refine WL.call TrydT.fb23 rfl (alive05_c H.yylt (by first | exact H.rob 0 rfl | exact H.rob 1 rfl | exact H.rob 2 rfl | exact H.rob 3 rfl | exact H.rob 4 rfl | exact H.rob 5 rfl | exact H.rob 6 rfl | exact H.rob 7 rfl | exact (fun _ _ => SlB.nil _))) ?_
  rintro _ w3 ⟨rfl, hO⟩
  replace H := H.out hO
  refine WL.mv rfl rfl ?_
  refine WL.known (t := 14) (c := true) rfl (by first | rfl | simp) ?_
  refine WL.mv rfl rfl ?_
  refine WL.pv (PV.eqlPn rfl TrydT.pt37 rfl rfl) rfl ?_
  first | refine WL.pv (PV.pick_t rfl rfl rfl) rfl ?_ | refine WL.pv (PV.pick_f rfl rfl rfl) rfl ?_ | refine WL.pv (PV.pick rfl rfl) rfl ?_
  refine WL.mv rfl rfl ?_
  refine WL.known (t := 18) (c := true) rfl (by first | rfl | simp) ?_
  refine WL.mv rfl rfl ?_
  refine WL.pv (PV.eql rfl rfl rfl) rfl ?_
  first | refine WL.pv (PV.pick_t rfl rfl rfl) rfl ?_ | refine WL.pv (PV.pick_f rfl rfl rfl) rfl ?_ | refine WL.pv (PV.pick rfl rfl) rfl ?_
  refine WL.as rfl rfl ?_
  refine WL.nil ?_
  refine WE.ret ?_
  refine ⟨[_], _, .nil _, ⟨rfl, trivial⟩, ?_⟩
  refine ⟨?_, H.toOut0⟩
  show Value.bool _ = Value.bool true
  first | rfl | (congr 1; first | (simp; done) | exact decide_eq_true (by omega) | (simp; omega))

theorem DigestCuts_c {X : Nat → Prop} {w : World} {l : List UInt8} {i j : Int} (hX : ∀ b, X b → b < w.heap.size) (hf0 : Rob X (Rounds) w) (hl : l.length = 32) (hi : -9223372036854775808 ≤ i ∧ i ≤ 9223372036854775807) (hj : -9223372036854775808 ≤ j ∧ j ≤ 9223372036854775807) :
    Ret Tryd.prog 8 [.agg (kc l).toArray, .int .i64 i, .int .i64 j].toArray w fun v w' => v = .bool true ∧ Out Nil w w' := by
  refine Ret.of_body (N := 30) Tryd.func8 rfl rfl (by simp) ?_
  have H := St.begin hX
  replace H := H.add (rob0 hf0)
  refine WE.seq_reg ?_
  refine WL.box (l := kc l) H rfl (by first | rfl | exact SlC.cells (H.p 0 rfl) | exact SlC.cells (H.p 1 rfl) | exact SlC.cells (H.p 2 rfl)) rfl ?_
  intro b3 w1 H
  refine WL.as rfl rfl ?_
  refine WL.nil ?_
  refine WE.seq_draw (.pick1 0 (.take 1 (.take 2 (.take 3 (.take 5 (.take 6 (.pick1 4 (.pick1 7 (.take 8 (.take 9 (.take 10 (.take 11 (.take 12 (.take 14 (.take 16 (.take 17 (.take 18 (.take 19 (.pick1 13 (.pick1 15 (.pick1 20 (.take 21 (.take 22 (.take 23 .done)))))))))))))))))))))))) TrydT.mixed (by kernel_rfl) ?_
  replace H := H.out (Out.drew _)
  refine WP.pick1 rfl ?_
  refine WL.call TrydT.fb23 rfl (alive05_c H.yylt (by first | exact H.rob 0 rfl | exact H.rob 1 rfl | exact H.rob 2 rfl | exact H.rob 3 rfl | exact H.rob 4 rfl | exact H.rob 5 rfl | exact H.rob 6 rfl | exact H.rob 7 rfl | exact (fun _ _ => SlB.nil _))) ?_
  rintro _ w2 ⟨rfl, hO⟩
  replace H := H.out hO
  refine WL.nil ⟨(fun _ h => by cases h), ?_⟩
  refine WP.mv rfl rfl rfl ?_
  refine WP.known (t := 8) (c := true) rfl (by first | rfl | simp [cutI_cutI]) ?_
  refine WP.readA rfl rfl rfl TrydT.ag31 rfl (by first | exact Blk.segAt (H.l 0 rfl) (Seg.all _) (by first | rfl | (simp; done) | (simp [kc_length, kw_length, *]; done) | omega) | exact Blk.segAt (H.l 1 rfl) (Seg.all _) (by first | rfl | (simp; done) | (simp [kc_length, kw_length, *]; done) | omega)) (by first | exact TrydT.sz31 | (rw [TrydT.sz31]; simp [kc_length, kw_length, *])) ?_
  refine WP.mv rfl rfl rfl ?_
  refine WP.readA rfl rfl rfl TrydT.ag31 rfl (by first | exact Blk.segAt (H.l 0 rfl) (Seg.all _) (by first | rfl | (simp; done) | (simp [kc_length, kw_length, *]; done) | omega) | exact Blk.segAt (H.l 1 rfl) (Seg.all _) (by first | rfl | (simp; done) | (simp [kc_length, kw_length, *]; done) | omega)) (by first | exact TrydT.sz31 | (rw [TrydT.sz31]; simp [kc_length, kw_length, *])) ?_
  refine WP.mv rfl rfl rfl ?_
  refine WP.pick1 rfl ?_
  refine WL.call TrydT.fb26 rfl (Cut_c (l := l) (i := i) H.yylt hl hi) ?_
  rintro _ w3 ⟨rfl, hO⟩
  replace H := H.out hO
  refine WL.nil ⟨(List.forall_mem_cons.2 ⟨(fun _ _ => (by first | exact Blk.segAt (H.l 0 rfl) (Seg.all _) (by first | rfl | (simp; done) | (simp [kc_length, kw_length, *]; done) | omega) | exact Blk.segAt (H.l 1 rfl) (Seg.all _) (by first | rfl | (simp; done) | (simp [kc_length, kw_length, *]; done) | omega))), (List.forall_mem_cons.2 ⟨(by first | exact (fun h => absurd (show waits _ 4 2 = false from h) (by decide +kernel)) | exact (fun _ _ => (by first | exact Blk.segAt (H.l 0 rfl) (Seg.all _) (by first | rfl | (simp; done) | (simp [kc_length, kw_length, *]; done) | omega) | exact Blk.segAt (H.l 1 rfl) (Seg.all _) (by first | rfl | (simp; done) | (simp [kc_length, kw_length, *]; done) | omega)))), (fun _ h => by cases h)⟩)⟩), ?_⟩
  refine WP.pick1 rfl ?_
  refine WL.call TrydT.fb27 rfl (refCut_c (l := l) (i := i) H.yylt hl hi) ?_
  rintro _ w4 ⟨rfl, hO⟩
  replace H := H.out hO
  refine WL.nil ⟨(List.forall_mem_cons.2 ⟨(by first | exact (fun h => absurd (show waits _ 7 5 = false from h) (by decide +kernel)) | exact (fun _ _ => (by first | exact Blk.segAt (H.l 0 rfl) (Seg.all _) (by first | rfl | (simp; done) | (simp [kc_length, kw_length, *]; done) | omega) | exact Blk.segAt (H.l 1 rfl) (Seg.all _) (by first | rfl | (simp; done) | (simp [kc_length, kw_length, *]; done) | omega)))), (List.forall_mem_cons.2 ⟨(by first | exact (fun h => absurd (show waits _ 7 2 = false from h) (by decide +kernel)) | exact (fun _ _ => (by first | exact Blk.segAt (H.l 0 rfl) (Seg.all _) (by first | rfl | (simp; done) | (simp [kc_length, kw_length, *]; done) | omega) | exact Blk.segAt (H.l 1 rfl) (Seg.all _) (by first | rfl | (simp; done) | (simp [kc_length, kw_length, *]; done) | omega)))), (fun _ h => by cases h)⟩)⟩), ?_⟩
  refine WP.take_pure rfl rfl (PV.eqlB rfl TrydT.ar31 TrydT.in5 TrydT.sz5 (by kernel_rfl) rfl rfl (by first | assumption | (simp only [cutI_length, cutN_length, shaOf_length, List.length_set, List.length_replicate]; done) | omega) (by first | assumption | (simp only [cutI_length, cutN_length, shaOf_length, List.length_set, List.length_replicate]; done) | omega)) ?_
  first | refine WP.take_pure rfl rfl (PV.pick_t rfl rfl rfl) ?_ | refine WP.take_pure rfl rfl (PV.pick_f rfl rfl rfl) ?_ | refine WP.take_pure rfl rfl (PV.pick rfl rfl) ?_
  refine WP.mv rfl rfl rfl ?_
  refine WP.known (t := 17) (c := true) rfl (by first | rfl | simp [cutI_cutI]) ?_
  refine WP.readA rfl rfl rfl TrydT.ag31 rfl (by first | exact Blk.segAt (H.l 0 rfl) (Seg.all _) (by first | rfl | (simp; done) | (simp [kc_length, kw_length, *]; done) | omega) | exact Blk.segAt (H.l 1 rfl) (Seg.all _) (by first | rfl | (simp; done) | (simp [kc_length, kw_length, *]; done) | omega)) (by first | exact TrydT.sz31 | (rw [TrydT.sz31]; simp [kc_length, kw_length, *])) ?_
  refine WP.mv rfl rfl rfl ?_
  refine WP.mv rfl rfl rfl ?_
  refine WP.readA rfl rfl rfl TrydT.ag31 rfl (by first | exact Blk.segAt (H.l 0 rfl) (Seg.all _) (by first | rfl | (simp; done) | (simp [kc_length, kw_length, *]; done) | omega) | exact Blk.segAt (H.l 1 rfl) (Seg.all _) (by first | rfl | (simp; done) | (simp [kc_length, kw_length, *]; done) | omega)) (by first | exact TrydT.sz31 | (rw [TrydT.sz31]; simp [kc_length, kw_length, *])) ?_
  refine WP.mv rfl rfl rfl ?_
  refine WP.mv rfl rfl rfl ?_
  refine WP.take_pure rfl rfl (PV.minI rfl rfl) ?_
  refine WP.pick1 rfl ?_
  refine WL.call TrydT.fb26 rfl (Cut_c (l := l) (i := i) H.yylt hl hi) ?_
  rintro _ w5 ⟨rfl, hO⟩
  replace H := H.out hO
  refine WL.nil ⟨(List.forall_mem_cons.2 ⟨(fun _ _ => (by first | exact Blk.segAt (H.l 0 rfl) (Seg.all _) (by first | rfl | (simp; done) | (simp [kc_length, kw_length, *]; done) | omega) | exact Blk.segAt (H.l 1 rfl) (Seg.all _) (by first | rfl | (simp; done) | (simp [kc_length, kw_length, *]; done) | omega))), (List.forall_mem_cons.2 ⟨(by first | exact (fun h => absurd (show waits _ 13 11 = false from h) (by decide +kernel)) | exact (fun _ _ => (by first | exact Blk.segAt (H.l 0 rfl) (Seg.all _) (by first | rfl | (simp; done) | (simp [kc_length, kw_length, *]; done) | omega) | exact Blk.segAt (H.l 1 rfl) (Seg.all _) (by first | rfl | (simp; done) | (simp [kc_length, kw_length, *]; done) | omega)))), (List.forall_mem_cons.2 ⟨(by first | exact (fun h => absurd (show waits _ 13 5 = false from h) (by decide +kernel)) | exact (fun _ _ => (by first | exact Blk.segAt (H.l 0 rfl) (Seg.all _) (by first | rfl | (simp; done) | (simp [kc_length, kw_length, *]; done) | omega) | exact Blk.segAt (H.l 1 rfl) (Seg.all _) (by first | rfl | (simp; done) | (simp [kc_length, kw_length, *]; done) | omega)))), (List.forall_mem_cons.2 ⟨(by first | exact (fun h => absurd (show waits _ 13 2 = false from h) (by decide +kernel)) | exact (fun _ _ => (by first | exact Blk.segAt (H.l 0 rfl) (Seg.all _) (by first | rfl | (simp; done) | (simp [kc_length, kw_length, *]; done) | omega) | exact Blk.segAt (H.l 1 rfl) (Seg.all _) (by first | rfl | (simp; done) | (simp [kc_length, kw_length, *]; done) | omega)))), (fun _ h => by cases h)⟩)⟩)⟩)⟩), ?_⟩
  refine WP.pick1 rfl ?_
  refine WL.call TrydT.fb26 rfl (Cut_c (l := cutI l i) (i := j) H.yylt (cutI_length _ _) hj) ?_
  rintro _ w6 ⟨rfl, hO⟩
  replace H := H.out hO
  refine WL.nil ⟨(List.forall_mem_cons.2 ⟨(fun _ _ => (by first | exact Blk.segAt (H.l 0 rfl) (Seg.all _) (by first | rfl | (simp; done) | (simp [kc_length, kw_length, *]; done) | omega) | exact Blk.segAt (H.l 1 rfl) (Seg.all _) (by first | rfl | (simp; done) | (simp [kc_length, kw_length, *]; done) | omega))), (List.forall_mem_cons.2 ⟨(by first | exact (fun h => absurd (show waits _ 15 11 = false from h) (by decide +kernel)) | exact (fun _ _ => (by first | exact Blk.segAt (H.l 0 rfl) (Seg.all _) (by first | rfl | (simp; done) | (simp [kc_length, kw_length, *]; done) | omega) | exact Blk.segAt (H.l 1 rfl) (Seg.all _) (by first | rfl | (simp; done) | (simp [kc_length, kw_length, *]; done) | omega)))), (List.forall_mem_cons.2 ⟨(by first | exact (fun h => absurd (show waits _ 15 5 = false from h) (by decide +kernel)) | exact (fun _ _ => (by first | exact Blk.segAt (H.l 0 rfl) (Seg.all _) (by first | rfl | (simp; done) | (simp [kc_length, kw_length, *]; done) | omega) | exact Blk.segAt (H.l 1 rfl) (Seg.all _) (by first | rfl | (simp; done) | (simp [kc_length, kw_length, *]; done) | omega)))), (List.forall_mem_cons.2 ⟨(by first | exact (fun h => absurd (show waits _ 15 2 = false from h) (by decide +kernel)) | exact (fun _ _ => (by first | exact Blk.segAt (H.l 0 rfl) (Seg.all _) (by first | rfl | (simp; done) | (simp [kc_length, kw_length, *]; done) | omega) | exact Blk.segAt (H.l 1 rfl) (Seg.all _) (by first | rfl | (simp; done) | (simp [kc_length, kw_length, *]; done) | omega)))), (fun _ h => by cases h)⟩)⟩)⟩)⟩), ?_⟩
  refine WP.pick1 rfl ?_
  refine WL.call TrydT.fb26 rfl (Cut_c (l := l) (i := min i j) H.yylt hl (by omega)) ?_
  rintro _ w7 ⟨rfl, hO⟩
  replace H := H.out hO
  refine WL.nil ⟨(List.forall_mem_cons.2 ⟨(by first | exact (fun h => absurd (show waits _ 20 16 = false from h) (by decide +kernel)) | exact (fun _ _ => (by first | exact Blk.segAt (H.l 0 rfl) (Seg.all _) (by first | rfl | (simp; done) | (simp [kc_length, kw_length, *]; done) | omega) | exact Blk.segAt (H.l 1 rfl) (Seg.all _) (by first | rfl | (simp; done) | (simp [kc_length, kw_length, *]; done) | omega)))), (List.forall_mem_cons.2 ⟨(by first | exact (fun h => absurd (show waits _ 20 11 = false from h) (by decide +kernel)) | exact (fun _ _ => (by first | exact Blk.segAt (H.l 0 rfl) (Seg.all _) (by first | rfl | (simp; done) | (simp [kc_length, kw_length, *]; done) | omega) | exact Blk.segAt (H.l 1 rfl) (Seg.all _) (by first | rfl | (simp; done) | (simp [kc_length, kw_length, *]; done) | omega)))), (List.forall_mem_cons.2 ⟨(by first | exact (fun h => absurd (show waits _ 20 5 = false from h) (by decide +kernel)) | exact (fun _ _ => (by first | exact Blk.segAt (H.l 0 rfl) (Seg.all _) (by first | rfl | (simp; done) | (simp [kc_length, kw_length, *]; done) | omega) | exact Blk.segAt (H.l 1 rfl) (Seg.all _) (by first | rfl | (simp; done) | (simp [kc_length, kw_length, *]; done) | omega)))), (List.forall_mem_cons.2 ⟨(by first | exact (fun h => absurd (show waits _ 20 2 = false from h) (by decide +kernel)) | exact (fun _ _ => (by first | exact Blk.segAt (H.l 0 rfl) (Seg.all _) (by first | rfl | (simp; done) | (simp [kc_length, kw_length, *]; done) | omega) | exact Blk.segAt (H.l 1 rfl) (Seg.all _) (by first | rfl | (simp; done) | (simp [kc_length, kw_length, *]; done) | omega)))), (fun _ h => by cases h)⟩)⟩)⟩)⟩), ?_⟩
  refine WP.take_pure rfl rfl (PV.eqlB rfl TrydT.ar31 TrydT.in5 TrydT.sz5 (by kernel_rfl) rfl rfl (by first | assumption | (simp only [cutI_length, cutN_length, shaOf_length, List.length_set, List.length_replicate]; done) | omega) (by first | assumption | (simp only [cutI_length, cutN_length, shaOf_length, List.length_set, List.length_replicate]; done) | omega)) ?_
  first | refine WP.take_pure rfl rfl (PV.pick_t rfl rfl rfl) ?_ | refine WP.take_pure rfl rfl (PV.pick_f rfl rfl rfl) ?_ | refine WP.take_pure rfl rfl (PV.pick rfl rfl) ?_
  refine WP.as rfl rfl rfl ?_
  refine WP.done ?_
  refine WE.ret ?_
  refine ⟨[_], _, .nil _, ⟨rfl, trivial⟩, ?_⟩
  refine ⟨?_, H.toOut0⟩
  show Value.bool _ = Value.bool true
  rw [cutI_cutI]; simp

theorem DigestSums_c {X : Nat → Prop} {w : World} {i : Int} {s : Value} {vs : List Value} {ls : List (List UInt8)} (hX : ∀ b, X b → b < w.heap.size) (hf0 : Rob X (SlV s vs) w) (hf1 : Rob X (SlL vs ls) w) (hf2 : Rob X (Rounds) w) (hi : -9223372036854775808 ≤ i ∧ i ≤ 9223372036854775807) (hvs : vs.length ≤ 9223372036854775807) (hls : ∀ x ∈ ls, x.length ≤ 9223372036854775807) :
    Ret Tryd.prog 9 [.int .i64 i, s].toArray w fun v w' => v = .bool true ∧ Out Nil w w' := by
  refine Ret.of_body (N := 56) Tryd.func9 rfl rfl (by simp) ?_
  have H := St.begin hX
  replace H := H.add (rob0 hf2)
  replace H := H.add (rob0 hf1)
  replace H := H.add (rob0 hf0)
  have hlen : vs.length = ls.length := (H.p 1 rfl : SlL vs ls w).1
  refine WE.seq_reg ?_
  refine WL.as rfl rfl ?_
  refine WL.nil ?_
  refine WE.seq ?_
  refine WE.seq_reg ?_
  refine WL.mv rfl rfl ?_
  refine WL.call TrydT.fb22 rfl (Right_c H.yylt  ) ?_
  rintro _ w1 ⟨rfl, hO⟩
  replace H := H.out hO
  refine WL.pv (PV.not rfl rfl) rfl ?_
  refine WL.mv rfl rfl ?_
  refine WL.split (t := 12) rfl (fun hg12 => ?_) (fun hg12 => ?_)
  · skip
    try simp only [decide_eq_true_eq, decide_eq_false_iff_not, ne_eq, Decidable.not_not, Bool.not_eq_true', Bool.not_eq_false', Bool.and_eq_true, Bool.or_eq_true, Bool.not_not, Bool.and_eq_false_iff, Bool.or_eq_false_iff, Int.not_lt, Int.not_le] at hg12
    refine WL.off rfl ?_
    refine WL.off rfl ?_
    refine WL.off rfl ?_
    first | refine WL.pv (PV.pick_t rfl rfl rfl) rfl ?_ | refine WL.pv (PV.pick_f rfl rfl rfl) rfl ?_ | refine WL.pv (PV.pick rfl rfl) rfl ?_
    refine WL.nil ?_
    refine WE.cond_t rfl ?_
    refine WE.seq_reg ?_
    refine WL.call TrydT.fb23 rfl (alive05_c H.yylt (by first | exact H.rob 0 rfl | exact H.rob 1 rfl | exact H.rob 2 rfl | exact H.rob 3 rfl | exact H.rob 4 rfl | exact H.rob 5 rfl | exact H.rob 6 rfl | exact H.rob 7 rfl | exact (fun _ _ => SlB.nil _))) ?_
    rintro _ w2 ⟨rfl, hO⟩
    replace H := H.out hO
    refine WL.as rfl rfl ?_
    refine WL.nil ?_
    refine WE.ret ?_
    refine ⟨[_], _, .nil _, ⟨rfl, trivial⟩, ?_⟩
    exact ⟨rfl, H.toOut0⟩
  · skip
    try simp only [decide_eq_true_eq, decide_eq_false_iff_not, ne_eq, Decidable.not_not, Bool.not_eq_true', Bool.not_eq_false', Bool.and_eq_true, Bool.or_eq_true, Bool.not_not, Bool.and_eq_false_iff, Bool.or_eq_false_iff, Int.not_lt, Int.not_le] at hg12
    refine WL.mv rfl rfl ?_
    refine WL.pv (PV.lenS (H.p 0 rfl) TrydT.sl35 rfl) rfl ?_
    refine WL.pv (PV.gtr rfl rfl rfl) rfl ?_
    first | refine WL.pv (PV.pick_t rfl rfl rfl) rfl ?_ | refine WL.pv (PV.pick_f rfl rfl rfl) rfl ?_ | refine WL.pv (PV.pick rfl rfl) rfl ?_
    refine WL.nil ?_
    refine WE.cond rfl (fun hc16 => ?_) (fun hc16 => ?_)
    · skip
      try simp only [decide_eq_true_eq, decide_eq_false_iff_not, ne_eq, Decidable.not_not, Bool.not_eq_true', Bool.not_eq_false', Bool.and_eq_true, Bool.or_eq_true, Bool.not_not, Bool.and_eq_false_iff, Bool.or_eq_false_iff, Int.not_lt, Int.not_le] at hc16
      refine WE.seq_reg ?_
      refine WL.call TrydT.fb23 rfl (alive05_c H.yylt (by first | exact H.rob 0 rfl | exact H.rob 1 rfl | exact H.rob 2 rfl | exact H.rob 3 rfl | exact H.rob 4 rfl | exact H.rob 5 rfl | exact H.rob 6 rfl | exact H.rob 7 rfl | exact (fun _ _ => SlB.nil _))) ?_
      rintro _ w3 ⟨rfl, hO⟩
      replace H := H.out hO
      refine WL.as rfl rfl ?_
      refine WL.nil ?_
      refine WE.ret ?_
      refine ⟨[_], _, .nil _, ⟨rfl, trivial⟩, ?_⟩
      exact ⟨rfl, H.toOut0⟩
    · skip
      try simp only [decide_eq_true_eq, decide_eq_false_iff_not, ne_eq, Decidable.not_not, Bool.not_eq_true', Bool.not_eq_false', Bool.and_eq_true, Bool.or_eq_true, Bool.not_not, Bool.and_eq_false_iff, Bool.or_eq_false_iff, Int.not_lt, Int.not_le] at hc16
      have h20 : vs.length ≤ 20 := by omega
      refine WE.skip ?_
      refine WE.seq_reg ?_
      refine WL.mv rfl rfl ?_
      refine WL.call TrydT.fb21 rfl (New_c (i := i) H.yylt (by first | assumption | omega)) ?_
      rintro _ w4 ⟨bh1, bc1, rfl, hO, hge, hB, hR⟩
      replace H := H.pushR hO (Ent.blk bc1 64 [.int .i64 0]) hB (fun c hc => by cases hc; exact hge) hR
      refine WL.mv rfl rfl ?_
      refine WL.pv (PV.extract rfl rfl rfl) rfl ?_
      refine WL.pv (PV.extract rfl rfl rfl) rfl ?_
      refine WL.as rfl rfl ?_
      refine WL.as rfl rfl ?_
      refine WL.nil ?_
      refine WE.seq ?_
      refine WE.seq_reg ?_
      refine WL.mv rfl rfl ?_
      refine WL.pv (PV.eqlPn rfl TrydT.pt37 rfl rfl) rfl ?_
      refine WL.mv rfl rfl ?_
      refine WL.known (t := 25) (c := false) rfl (by first | rfl | simp) ?_
      refine WL.mv rfl rfl ?_
      refine WL.pv (PV.neq rfl rfl rfl) rfl ?_
      first | refine WL.pv (PV.pick_t rfl rfl rfl) rfl ?_ | refine WL.pv (PV.pick_f rfl rfl rfl) rfl ?_ | refine WL.pv (PV.pick rfl rfl) rfl ?_
      refine WL.nil ?_
      refine WE.cond_f' rfl rfl ?_
      refine WE.skip ?_
      refine WE.seq ?_
      refine WE.seq_reg ?_
      refine WL.mv rfl rfl ?_
      refine WL.pv (PV.lenS (H.p 1 rfl) TrydT.sl35 rfl) rfl ?_
      refine WL.mv rfl rfl ?_
      refine WL.nil ?_
      refine WE.block ?_
      refine WE.loop (α := Nat) [4, 7, 8, 31, 32, 33, 34, 35, 36, 37, 38, 39, 40, 41, 42, 43, 44, 45, 46, 47, 48, 49, 50, 51, 52, 53, 54] (fun k => [(31, .int .i64 k)]) (fun k wl => k ≤ vs.length ∧ St X w wl [] [Ent.blk bc1 64 [.int .i64 (k : Int)]] [HAt bh1 bc1 i, SlV s vs, SlL vs ls, Rounds]) (fun k => vs.length - k) 0 ⟨rfl, trivial⟩ ⟨Nat.zero_le _, H⟩ ?_
      intro k γ0 w5 hI
      try dsimp only at hI
      obtain ⟨hk, H⟩ := hI
      refine WE.seq_reg ?_
      refine WL.pv (PV.lss rfl rfl rfl) rfl ?_
      refine WL.nil ?_
      refine WE.seq ?_
      refine WE.cond rfl (fun hc32 => ?_) (fun hc32 => ?_)
      · skip
        try simp only [decide_eq_true_eq, decide_eq_false_iff_not, ne_eq, Decidable.not_not, Bool.not_eq_true', Bool.not_eq_false', Bool.and_eq_true, Bool.or_eq_true, Bool.not_not, Bool.and_eq_false_iff, Bool.or_eq_false_iff, Int.not_lt, Int.not_le] at hc32
        have hlt : k < vs.length := by omega
        have hlk := hls _ (List.getElem_mem (show k < ls.length by omega))
        refine WE.skip ?_
        refine WE.seq ?_
        refine WE.block ?_
        refine WE.seq_reg ?_
        refine WL.mv rfl rfl ?_
        refine WL.pv (PV.idxS rfl (H.p 1 rfl) TrydT.sl35 TrydT.sz22 rfl rfl (by omega) (by omega)) rfl ?_
        refine WL.load1 rfl TrydT.ag22 rfl rfl (SlV.rd (by first | exact H.p 0 rfl | exact H.p 1 rfl) k hlt) ?_
        refine WL.as rfl rfl ?_
        refine WL.as rfl rfl ?_
        refine WL.nil ?_
        refine WE.seq ?_
        refine WE.seq_reg ?_
        refine WL.mv rfl rfl ?_
        refine WL.pv (PV.lenS ((H.p 2 rfl : SlL vs ls _).2 k hlt (by omega)) TrydT.sl22 rfl) rfl ?_
        refine WL.pv (PV.gtr rfl rfl rfl) rfl ?_
        refine WL.nil ?_
        refine WE.cond rfl (fun hc38 => ?_) (fun hc38 => ?_)
        · skip
          try simp only [decide_eq_true_eq, decide_eq_false_iff_not, ne_eq, Decidable.not_not, Bool.not_eq_true', Bool.not_eq_false', Bool.and_eq_true, Bool.or_eq_true, Bool.not_not, Bool.and_eq_false_iff, Bool.or_eq_false_iff, Int.not_lt, Int.not_le] at hc38
          refine WE.seq_reg ?_
          refine WL.call TrydT.fb23 rfl (alive05_c H.yylt (by first | exact H.rob 0 rfl | exact H.rob 1 rfl | exact H.rob 2 rfl | exact H.rob 3 rfl | exact H.rob 4 rfl | exact H.rob 5 rfl | exact H.rob 6 rfl | exact H.rob 7 rfl | exact (fun _ _ => SlB.nil _))) ?_
          rintro _ w6 ⟨rfl, hO⟩
          replace H := H.out hO
          refine WL.as rfl rfl ?_
          refine WL.nil ?_
          refine WE.ret ?_
          refine ⟨[_], _, .nil _, ⟨rfl, trivial⟩, ?_⟩
          exact ⟨rfl, H.toOut0⟩
        · skip
          try simp only [decide_eq_true_eq, decide_eq_false_iff_not, ne_eq, Decidable.not_not, Bool.not_eq_true', Bool.not_eq_false', Bool.and_eq_true, Bool.or_eq_true, Bool.not_not, Bool.and_eq_false_iff, Bool.or_eq_false_iff, Int.not_lt, Int.not_le] at hc38
          have hle : (ls[k]'(by omega)).length ≤ 1000 := by omega
          refine WE.skip ?_
          refine WE.seq_reg ?_
          refine WL.mv rfl rfl ?_
          refine WL.mv rfl rfl ?_
          refine WL.call TrydT.fb28 rfl (HSum_c (bits := i) (n := (k : Int)) (la := ls[k]'(by omega)) H.yylt (H.l 0 rfl) (H.robL 0 rfl 0 rfl) ((H.robL 0 rfl 2 rfl).imp fun _ h => h.2 k hlt (by omega)) (H.robL 0 rfl 3 rfl) (by omega) (by omega)) ?_
          rintro _ w7 ⟨rfl, hO, hB⟩
          rw [wrap64_in (by omega) (by omega)] at hB
          replace H := H.called 0 rfl hO hB
          refine WL.mv rfl rfl ?_
          refine WL.mv rfl rfl ?_
          refine WL.call TrydT.fb29 rfl (refSum5_c (la := ls[k]'(by omega)) H.yylt ((H.rob 2 rfl).imp fun _ h => h.2 k hlt (by omega)) (by omega) (by omega)) ?_
          rintro _ w8 ⟨rfl, hO⟩
          replace H := H.out hO
          refine WL.pv (PV.neqB rfl TrydT.ar31 TrydT.in5 TrydT.sz5 (by kernel_rfl) rfl rfl (by first | assumption | (simp only [cutI_length, cutN_length, shaOf_length, List.length_set, List.length_replicate]; done) | omega) (by first | assumption | (simp only [cutI_length, cutN_length, shaOf_length, List.length_set, List.length_replicate]; done) | omega)) rfl ?_
          refine WL.mv rfl rfl ?_
          refine WL.known (t := 47) (c := false) rfl (by first | rfl | simp) ?_
          refine WL.mv rfl rfl ?_
          refine WL.call TrydT.fb25 rfl (Calls_c (X := Nil) (n := ((k : Int) + 1)) (nilX _) (by first | exact (H.rob 0 rfl).nil) ((H.robN 0 rfl).imp fun _ h => h.rd)) ?_
          rintro _ w9 ⟨rfl, hO⟩
          replace H := H.out hO
          refine WL.mv rfl rfl ?_
          first | refine WL.pv (PV.add64 rfl rfl rfl (by omega) (by omega)) rfl ?_ | refine WL.pv (PV.addw rfl rfl rfl) rfl ?_
          refine WL.pv (PV.neq rfl rfl rfl) rfl ?_
          first | refine WL.pv (PV.pick_t rfl rfl rfl) rfl ?_ | refine WL.pv (PV.pick_f rfl rfl rfl) rfl ?_ | refine WL.pv (PV.pick rfl rfl) rfl ?_
          refine WL.nil ?_
          refine WE.cond_f' rfl (by first | rfl | simp) ?_
          refine WE.skip ?_
          refine WE.reg ?_
          first | refine WL.pv (PV.add64 rfl rfl rfl (by omega) (by omega)) rfl ?_ | refine WL.pv (PV.addw rfl rfl rfl) rfl ?_
          refine WL.mv rfl rfl ?_
          refine WL.nil ?_
          exact ⟨k + 1, (by repeat (first | with_reducible exact Off.refl _ _ | refine Off.upd rfl ?_ | refine Off.cpy rfl ?_ | refine Off.setAll rfl ?_ | refine Off.forget' rfl ?_ | refine Off.upd_none ?_ | exact Off.refl _ _)), ⟨rfl, trivial⟩, rfl, ⟨by omega, H⟩, (by omega)⟩
      · skip
        try simp only [decide_eq_true_eq, decide_eq_false_iff_not, ne_eq, Decidable.not_not, Bool.not_eq_true', Bool.not_eq_false', Bool.and_eq_true, Bool.or_eq_true, Bool.not_not, Bool.and_eq_false_iff, Bool.or_eq_false_iff, Int.not_lt, Int.not_le] at hc32
        refine WE.exit ?_
        refine WE.seq_reg ?_
        refine WL.call TrydT.fb23 rfl (alive05_c H.yylt (by first | exact H.rob 0 rfl | exact H.rob 1 rfl | exact H.rob 2 rfl | exact H.rob 3 rfl | exact H.rob 4 rfl | exact H.rob 5 rfl | exact H.rob 6 rfl | exact H.rob 7 rfl | exact (fun _ _ => SlB.nil _))) ?_
        rintro _ w10 ⟨rfl, hO⟩
        replace H := H.out hO
        refine WL.as rfl rfl ?_
        refine WL.nil ?_
        refine WE.ret ?_
        refine ⟨[_], _, .nil _, ⟨rfl, trivial⟩, ?_⟩
        exact ⟨rfl, H.toOut0⟩

theorem DigestFull_c {X : Nat → Prop} {w : World} {a : Value} {la : List UInt8} (hX : ∀ b, X b → b < w.heap.size) (hf0 : Rob X (SlB a la) w) (hf1 : Rob X (Rounds) w) (hla : la.length ≤ 9223372036854775807) :
    Ret Tryd.prog 10 [a].toArray w fun v w' => v = .bool true ∧ Out Nil w w' := by
  refine Ret.of_body (N := 49) Tryd.func10 rfl rfl (by simp) ?_
  have H := St.begin hX
  replace H := H.add (rob0 hf1)
  replace H := H.add (rob0 hf0)
  refine WE.seq_reg ?_
  refine WL.as rfl rfl ?_
  refine WL.nil ?_
  refine WE.seq ?_
  refine WE.seq_reg ?_
  refine WL.mv rfl rfl ?_
  first | refine WL.pv (PV.lenSl TrydT.sl22 rfl) rfl ?_ | refine WL.pv (PV.lenS (H.p 0 rfl) TrydT.sl22 rfl) rfl ?_ | refine WL.pv (PV.lenS (H.p 1 rfl) TrydT.sl22 rfl) rfl ?_ | refine WL.pv (PV.lenS (H.p 2 rfl) TrydT.sl22 rfl) rfl ?_ | refine WL.pv (PV.lenS (H.p 3 rfl) TrydT.sl22 rfl) rfl ?_ | refine WL.pv (PV.lenS (H.p 4 rfl) TrydT.sl22 rfl) rfl ?_ | refine WL.pv (PV.lenS (H.p 5 rfl) TrydT.sl22 rfl) rfl ?_
  refine WL.pv (PV.gtr rfl rfl rfl) rfl ?_
  refine WL.nil ?_
  refine WE.cond rfl (fun hc9 => ?_) (fun hc9 => ?_)
  · skip
    try simp only [decide_eq_true_eq, decide_eq_false_iff_not, ne_eq, Decidable.not_not, Bool.not_eq_true', Bool.not_eq_false', Bool.and_eq_true, Bool.or_eq_true, Bool.not_not, Bool.and_eq_false_iff, Bool.or_eq_false_iff, Int.not_lt, Int.not_le] at hc9
    refine WE.seq_reg ?_
    refine WL.call TrydT.fb23 rfl (alive05_c H.yylt (by first | exact H.rob 0 rfl | exact H.rob 1 rfl | exact H.rob 2 rfl | exact H.rob 3 rfl | exact H.rob 4 rfl | exact H.rob 5 rfl | exact H.rob 6 rfl | exact H.rob 7 rfl | exact (fun _ _ => SlB.nil _))) ?_
    rintro _ w1 ⟨rfl, hO⟩
    replace H := H.out hO
    refine WL.as rfl rfl ?_
    refine WL.nil ?_
    refine WE.ret ?_
    refine ⟨[_], _, .nil _, ⟨rfl, trivial⟩, ?_⟩
    exact ⟨rfl, H.toOut0⟩
  · skip
    try simp only [decide_eq_true_eq, decide_eq_false_iff_not, ne_eq, Decidable.not_not, Bool.not_eq_true', Bool.not_eq_false', Bool.and_eq_true, Bool.or_eq_true, Bool.not_not, Bool.and_eq_false_iff, Bool.or_eq_false_iff, Int.not_lt, Int.not_le] at hc9
    have hle : la.length ≤ 1000 := by omega
    refine WE.skip ?_
    refine WE.seq_reg ?_
    refine WL.call TrydT.fb21 rfl (New_c (i := 256) H.yylt (by decide)) ?_
    rintro _ w2 ⟨bh1, bc1, rfl, hO, hge, hB, hR⟩
    replace H := H.pushR hO (Ent.blk bc1 64 [.int .i64 0]) hB (fun c hc => by cases hc; exact hge) hR
    refine WL.mv rfl rfl ?_
    refine WL.pv (PV.extract rfl rfl rfl) rfl ?_
    refine WL.pv (PV.extract rfl rfl rfl) rfl ?_
    refine WL.as rfl rfl ?_
    refine WL.as rfl rfl ?_
    refine WL.nil ?_
    refine WE.seq_reg ?_
    refine WL.call TrydT.fb21 rfl (New_c (i := 0) H.yylt (by decide)) ?_
    rintro _ w3 ⟨bh2, bc2, rfl, hO, hge, hB, hR⟩
    replace H := H.pushR hO (Ent.blk bc2 64 [.int .i64 0]) hB (fun c hc => by cases hc; exact hge) hR
    refine WL.mv rfl rfl ?_
    refine WL.pv (PV.extract rfl rfl rfl) rfl ?_
    refine WL.pv (PV.extract rfl rfl rfl) rfl ?_
    refine WL.as rfl rfl ?_
    refine WL.as rfl rfl ?_
    refine WL.nil ?_
    refine WE.seq ?_
    refine WE.seq_reg ?_
    refine WL.mv rfl rfl ?_
    refine WL.pv (PV.eqlPn rfl TrydT.pt37 rfl rfl) rfl ?_
    refine WL.mv rfl rfl ?_
    refine WL.known (t := 21) (c := false) rfl (by first | rfl | simp) ?_
    refine WL.mv rfl rfl ?_
    refine WL.pv (PV.neq rfl rfl rfl) rfl ?_
    first | refine WL.pv (PV.pick_t rfl rfl rfl) rfl ?_ | refine WL.pv (PV.pick_f rfl rfl rfl) rfl ?_ | refine WL.pv (PV.pick rfl rfl) rfl ?_
    refine WL.mv rfl rfl ?_
    refine WL.known (t := 25) (c := false) rfl (by first | rfl | simp) ?_
    refine WL.mv rfl rfl ?_
    refine WL.pv (PV.eqlPn rfl TrydT.pt37 rfl rfl) rfl ?_
    first | refine WL.pv (PV.pick_t rfl rfl rfl) rfl ?_ | refine WL.pv (PV.pick_f rfl rfl rfl) rfl ?_ | refine WL.pv (PV.pick rfl rfl) rfl ?_
    refine WL.mv rfl rfl ?_
    refine WL.known (t := 29) (c := false) rfl (by first | rfl | simp) ?_
    refine WL.mv rfl rfl ?_
    refine WL.pv (PV.neq rfl rfl rfl) rfl ?_
    first | refine WL.pv (PV.pick_t rfl rfl rfl) rfl ?_ | refine WL.pv (PV.pick_f rfl rfl rfl) rfl ?_ | refine WL.pv (PV.pick rfl rfl) rfl ?_
    refine WL.nil ?_
    refine WE.cond_f' rfl rfl ?_
    refine WE.skip ?_
    refine WE.seq_reg ?_
    refine WL.call TrydT.fb23 rfl (alive05_c H.yylt (by first | exact H.rob 0 rfl | exact H.rob 1 rfl | exact H.rob 2 rfl | exact H.rob 3 rfl | exact H.rob 4 rfl | exact H.rob 5 rfl | exact H.rob 6 rfl | exact H.rob 7 rfl | exact (fun _ _ => SlB.nil _))) ?_
    rintro _ w4 ⟨rfl, hO⟩
    replace H := H.out hO
    refine WL.mv rfl rfl ?_
    refine WL.known (t := 34) (c := true) rfl (by first | rfl | simp [cutI_zero, cutI_full _ (shaOf_length _)]) ?_
    refine WL.mv rfl rfl ?_
    refine WL.mv rfl rfl ?_
    refine WL.call TrydT.fb28 rfl (HSum_c (bits := 256) (n := _) (la := la) H.yylt (H.l 1 rfl) (by first | exact H.robL 1 rfl 0 rfl | exact H.robL 1 rfl 1 rfl | exact H.robL 1 rfl 2 rfl | exact H.robL 1 rfl 3 rfl | exact H.robL 1 rfl 4 rfl | exact (fun _ _ => SlB.nil _)) (by first | exact H.robL 1 rfl 0 rfl | exact H.robL 1 rfl 1 rfl | exact H.robL 1 rfl 2 rfl | exact H.robL 1 rfl 3 rfl | exact H.robL 1 rfl 4 rfl | exact (fun _ _ => SlB.nil _)) (by first | exact H.robL 1 rfl 0 rfl | exact H.robL 1 rfl 1 rfl | exact H.robL 1 rfl 2 rfl | exact H.robL 1 rfl 3 rfl | exact H.robL 1 rfl 4 rfl | exact (fun _ _ => SlB.nil _)) (by omega) (by first | omega | simp | decide)) ?_
    rintro _ w5 ⟨rfl, hO, hB⟩
    rw [wrap64_in (by omega) (by omega)] at hB
    replace H := H.called 1 rfl hO hB
    refine WL.mv rfl rfl ?_
    refine WL.call TrydT.fb18 rfl (refSum_c (la := la) H.yylt (H.rob 2 rfl) (by omega)) ?_
    rintro _ w6 ⟨rfl, hO⟩
    replace H := H.out hO
    refine WL.pv (PV.eqlB rfl TrydT.ar31 TrydT.in5 TrydT.sz5 (by kernel_rfl) rfl rfl (by first | assumption | (simp only [cutI_length, cutN_length, shaOf_length, List.length_set, List.length_replicate]; done) | omega) (by first | assumption | (simp only [cutI_length, cutN_length, shaOf_length, List.length_set, List.length_replicate]; done) | omega)) rfl ?_
    first | refine WL.pv (PV.pick_t rfl rfl rfl) rfl ?_ | refine WL.pv (PV.pick_f rfl rfl rfl) rfl ?_ | refine WL.pv (PV.pick rfl rfl) rfl ?_
    refine WL.mv rfl rfl ?_
    refine WL.known (t := 42) (c := true) rfl (by first | rfl | simp [cutI_zero, cutI_full _ (shaOf_length _)]) ?_
    refine WL.mv rfl rfl ?_
    refine WL.mv rfl rfl ?_
    refine WL.call TrydT.fb28 rfl (HSum_c (bits := 0) (n := _) (la := la) H.yylt (H.l 0 rfl) (by first | exact H.robL 0 rfl 0 rfl | exact H.robL 0 rfl 1 rfl | exact H.robL 0 rfl 2 rfl | exact H.robL 0 rfl 3 rfl | exact H.robL 0 rfl 4 rfl | exact (fun _ _ => SlB.nil _)) (by first | exact H.robL 0 rfl 0 rfl | exact H.robL 0 rfl 1 rfl | exact H.robL 0 rfl 2 rfl | exact H.robL 0 rfl 3 rfl | exact H.robL 0 rfl 4 rfl | exact (fun _ _ => SlB.nil _)) (by first | exact H.robL 0 rfl 0 rfl | exact H.robL 0 rfl 1 rfl | exact H.robL 0 rfl 2 rfl | exact H.robL 0 rfl 3 rfl | exact H.robL 0 rfl 4 rfl | exact (fun _ _ => SlB.nil _)) (by omega) (by first | omega | simp | decide)) ?_
    rintro _ w7 ⟨rfl, hO, hB⟩
    rw [wrap64_in (by omega) (by omega)] at hB
    replace H := H.called 0 rfl hO hB
    refine WL.pv (PV.buildA rfl TrydT.ar31 TrydT.sz5 TrydT.ze31 Fl.nil) rfl ?_
    refine WL.pv (PV.eqlB rfl TrydT.ar31 TrydT.in5 TrydT.sz5 (by kernel_rfl) rfl rfl (by first | assumption | (simp only [cutI_length, cutN_length, shaOf_length, List.length_set, List.length_replicate]; done) | omega) (by first | assumption | (simp only [cutI_length, cutN_length, shaOf_length, List.length_set, List.length_replicate]; done) | omega)) rfl ?_
    first | refine WL.pv (PV.pick_t rfl rfl rfl) rfl ?_ | refine WL.pv (PV.pick_f rfl rfl rfl) rfl ?_ | refine WL.pv (PV.pick rfl rfl) rfl ?_
    refine WL.as rfl rfl ?_
    refine WL.nil ?_
    refine WE.ret ?_
    refine ⟨[_], _, .nil _, ⟨rfl, trivial⟩, ?_⟩
    refine ⟨?_, H.toOut0⟩
    show Value.bool _ = Value.bool true
    simp [cutI_zero]

end Go.Sp.Tryd
