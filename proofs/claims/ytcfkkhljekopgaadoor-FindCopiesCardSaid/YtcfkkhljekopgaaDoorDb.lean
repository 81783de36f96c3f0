/- Walks of functions, printed by a program of this session (gen.py) from notes on each function. -/
import Derived.Test.YtcfkkhljekopgaaDoorDa
set_option maxRecDepth 100000
set_option maxHeartbeats 1000000
set_option linter.unusedVariables false
set_option linter.unusedSimpArgs false
namespace Go.Sp.Tryd
open Go.Proofs Go.RowKit Go.Sp

theorem cutI_zero (l : List UInt8) : cutI l 0 = List.replicate 32 0 := by
  show cutN l (clampN 0) = _
  apply List.ext_getElem
  · rw [cutN_length]; simp
  · intro i h1 h2
    rw [cutN_get]
    have h := (l.getD i 0).toNat_lt
    apply UInt8.toNat_inj.1
    have h0 : clampN 0 = 0 := by decide
    rw [cutByte_toNat, List.getElem_replicate, show keptN (clampN 0) i = 0 by unfold keptN; omega, Nat.sub_zero, Nat.div_eq_of_lt (by omega)]
    rfl
theorem cutI_full (l : List UInt8) (h : l.length = 32) : cutI l 256 = l := cutN_full l h
theorem abc4 : cutI (shaOf [97, 98, 99]) 4 = (List.replicate 32 0).set 0 176 := by decide +kernel
theorem cut255 : cutI (((List.replicate 32 0).set 0 255).set 1 255) 4 = (List.replicate 32 0).set 0 240 := by decide +kernel

theorem alive05_c {X : Nat → Prop} {w : World}  (hX : ∀ b, X b → b < w.heap.size) (hf0 : Rob X (Rounds) w) :
    Ret Tryd.prog 18 [].toArray w fun v w' => v = .bool true ∧ Out Nil w w' := by
  refine Ret.of_body (N := 59) Tryd.func18 rfl rfl (by decide +revert) ?_
  have H := St.begin hX
  replace H := H.add (rob0 hf0)
  refine WE.seq_reg ?_
  refine WL.as rfl rfl ?_
  refine WL.nil ?_
  refine WE.seq_reg ?_
  refine WL.call TrydT.fb19 rfl (New_c (i := 4) H.yylt (by decide)) ?_
  rintro _ w1 ⟨bh1, bc1, rfl, hO, hge, hB, hR⟩
  replace H := H.pushR hO (Ent.blk bc1 86 [.int .i64 0]) hB (fun c hc => by cases hc; exact hge) hR
  refine WL.mv rfl rfl ?_
  refine WL.pv (PV.extract rfl rfl rfl) rfl ?_
  refine WL.pv (PV.extract rfl rfl rfl) rfl ?_
  refine WL.as rfl rfl ?_
  refine WL.as rfl rfl ?_
  refine WL.nil ?_
  refine WE.seq_reg ?_
  refine WL.call TrydT.fb19 rfl (New_c (i := 0) H.yylt (by decide)) ?_
  rintro _ w2 ⟨bh2, bc2, rfl, hO, hge, hB, hR⟩
  replace H := H.pushR hO (Ent.blk bc2 86 [.int .i64 0]) hB (fun c hc => by cases hc; exact hge) hR
  refine WL.mv rfl rfl ?_
  refine WL.pv (PV.extract rfl rfl rfl) rfl ?_
  refine WL.pv (PV.extract rfl rfl rfl) rfl ?_
  refine WL.as rfl rfl ?_
  refine WL.as rfl rfl ?_
  refine WL.nil ?_
  refine WE.seq ?_
  refine WE.seq_reg ?_
  refine WL.mv rfl rfl ?_
  refine WL.pv (PV.neq rfl rfl rfl) rfl ?_
  refine WL.mv rfl rfl ?_
  refine WL.known (t := 16) (c := false) rfl (by rfl) ?_
  refine WL.mv rfl rfl ?_
  refine WL.pv (PV.neq rfl rfl rfl) rfl ?_
  refine WL.pv (PV.pick_f rfl rfl rfl) rfl ?_
  refine WL.mv rfl rfl ?_
  refine WL.known (t := 20) (c := false) rfl (by rfl) ?_
  refine WL.mv rfl rfl ?_
  refine WL.pv (PV.eqlPn rfl TrydT.pt24 rfl rfl) rfl ?_
  refine WL.pv (PV.pick_f rfl rfl rfl) rfl ?_
  refine WL.mv rfl rfl ?_
  refine WL.known (t := 24) (c := false) rfl (by rfl) ?_
  refine WL.mv rfl rfl ?_
  refine WL.pv (PV.eqlPn rfl TrydT.pt24 rfl rfl) rfl ?_
  refine WL.pv (PV.pick_f rfl rfl rfl) rfl ?_
  refine WL.nil ?_
  refine WE.cond_f' rfl rfl ?_
  refine WE.skip ?_
  refine WE.seq_reg ?_
  refine WL.mv rfl rfl ?_
  refine WL.buildSliceF (l0 := [.int .u8 (0), .int .u8 (0), .int .u8 (0)]) H rfl TrydT.st33 (by decide) (zrow_one _ _) (Fl.cons rfl (by rfl) (by (simp only [kc_length, kw_length, List.length_replicate, List.length_append, List.length_cons, List.length_nil, cutI_length, cutN_length, shaOf_length, List.length_set]; done)) Laid.head (Fl.cons rfl (by rfl) (by (simp only [kc_length, kw_length, List.length_replicate, List.length_append, List.length_cons, List.length_nil, cutI_length, cutN_length, shaOf_length, List.length_set]; done)) (Laid.tail Laid.head rfl) (Fl.cons rfl (by rfl) (by (simp only [kc_length, kw_length, List.length_replicate, List.length_append, List.length_cons, List.length_nil, cutI_length, cutN_length, shaOf_length, List.length_set]; done)) (Laid.tail (Laid.tail Laid.head rfl) rfl) Fl.nil))) rfl ?_
  intro b29 w3 H
  (refine WL.convBytes H 0 rfl TrydT.sl33 TrydT.in5 rfl rfl rfl ?_; intro w4 H; replace H := H.freeze (i := 0) rfl; replace H := H.add ((H.rob 0 rfl).imp fun _ h => SlB.of_rd (l := [97, 98, 99]) h.2 rfl (Nat.le_refl _)))
  refine WL.call TrydT.fb20 rfl (HSum_c (bits := 4) (n := _) (la := [97, 98, 99]) H.yylt (H.l 1 rfl) (by exact H.robL 1 rfl 3 rfl) (by exact H.robL 1 rfl 0 rfl) (by exact H.robL 1 rfl 4 rfl) (by omega) (by simp)) ?_
  rintro _ w5 ⟨rfl, hO, hB⟩
  rw [wrap64_in (by omega) (by omega)] at hB
  replace H := H.called 1 rfl hO hB
  refine WL.alloc H rfl TrydT.ze29 rfl ?_
  intro b5 w6 H
  refine WL.storeL H 0 rfl rfl rfl (new := _) rfl (by exact TrydT.sz29) (by exact kc_one _) (Laid.at (Laid.all (by (simp only [kc_length, kw_length, List.length_replicate, List.length_append, List.length_cons, List.length_nil, cutI_length, cutN_length, shaOf_length, List.length_set]; done))) (by rfl)) rfl ?_
  intro w7 H
  refine WL.nil ?_
  refine WE.seq_reg ?_
  refine WL.pv (PV.buildA rfl TrydT.ar29 TrydT.sz5 TrydT.ze29 (Fl.cons rfl rfl rfl (Laid.byteA (x := 255) 0 (by simp)) (Fl.cons rfl rfl rfl (Laid.byteA (x := 255) 1 (by simp)) Fl.nil))) rfl ?_
  refine WL.call TrydT.fb58 rfl (Cut_c (i := 4) H.yylt (by decide) (by omega)) ?_
  rintro _ w8 ⟨rfl, hO⟩
  replace H := H.out hO
  refine WL.pv (PV.buildA rfl TrydT.ar29 TrydT.sz5 TrydT.ze29 (Fl.cons rfl rfl rfl (Laid.byteA (x := 240) 0 (by simp)) Fl.nil)) rfl ?_
  refine WL.pv (PV.eqlB rfl TrydT.ar29 TrydT.in5 TrydT.sz5 (by kernel_rfl) rfl rfl (by (simp only [cutI_length, cutN_length, shaOf_length, List.length_set, List.length_replicate]; done)) (by (simp only [cutI_length, cutN_length, shaOf_length, List.length_set, List.length_replicate]; done))) rfl ?_
  refine WL.mv rfl rfl ?_
  refine WL.known (t := 36) (c := true) rfl (by rfl) ?_
  refine WL.loadR rfl TrydT.ag29 rfl rfl (by exact Blk.segAt (H.l 0 rfl) (Seg.all _) (by rfl)) (by exact TrydT.sz29) ?_
  refine WL.pv (PV.buildA rfl TrydT.ar29 TrydT.sz5 TrydT.ze29 (Fl.cons rfl rfl rfl (Laid.byteA (x := 176) 0 (by simp)) Fl.nil)) rfl ?_
  refine WL.pv (PV.eqlB rfl TrydT.ar29 TrydT.in5 TrydT.sz5 (by kernel_rfl) rfl rfl (by (simp only [cutI_length, cutN_length, shaOf_length, List.length_set, List.length_replicate]; done)) (by (simp only [cutI_length, cutN_length, shaOf_length, List.length_set, List.length_replicate]; done))) rfl ?_
  refine WL.pv (PV.pick_t rfl rfl rfl) rfl ?_
  refine WL.mv rfl rfl ?_
  refine WL.known (t := 41) (c := true) rfl (by rfl) ?_
  refine WL.mv rfl rfl ?_
  refine WL.buildSliceF (l0 := [.int .u8 (0), .int .u8 (0), .int .u8 (0)]) H rfl TrydT.st33 (by decide) (zrow_one _ _) (Fl.cons rfl (by rfl) (by (simp only [kc_length, kw_length, List.length_replicate, List.length_append, List.length_cons, List.length_nil, cutI_length, cutN_length, shaOf_length, List.length_set]; done)) Laid.head (Fl.cons rfl (by rfl) (by (simp only [kc_length, kw_length, List.length_replicate, List.length_append, List.length_cons, List.length_nil, cutI_length, cutN_length, shaOf_length, List.length_set]; done)) (Laid.tail Laid.head rfl) (Fl.cons rfl (by rfl) (by (simp only [kc_length, kw_length, List.length_replicate, List.length_append, List.length_cons, List.length_nil, cutI_length, cutN_length, shaOf_length, List.length_set]; done)) (Laid.tail (Laid.tail Laid.head rfl) rfl) Fl.nil))) rfl ?_
  intro b43 w9 H
  (refine WL.convBytes H 0 rfl TrydT.sl33 TrydT.in5 rfl rfl rfl ?_; intro w10 H; replace H := H.freeze (i := 0) rfl; replace H := H.add ((H.rob 0 rfl).imp fun _ h => SlB.of_rd (l := [97, 98, 99]) h.2 rfl (Nat.le_refl _)))
  refine WL.call TrydT.fb20 rfl (HSum_c (bits := 0) (n := _) (la := [97, 98, 99]) H.yylt (H.l 1 rfl) (by exact H.robL 1 rfl 4 rfl) (by exact H.robL 1 rfl 0 rfl) (by exact H.robL 1 rfl 6 rfl) (by omega) (by simp)) ?_
  rintro _ w11 ⟨rfl, hO, hB⟩
  rw [wrap64_in (by omega) (by omega)] at hB
  replace H := H.called 1 rfl hO hB
  refine WL.pv (PV.buildA rfl TrydT.ar29 TrydT.sz5 TrydT.ze29 Fl.nil) rfl ?_
  refine WL.pv (PV.eqlB rfl TrydT.ar29 TrydT.in5 TrydT.sz5 (by kernel_rfl) rfl rfl (by (simp only [cutI_length, cutN_length, shaOf_length, List.length_set, List.length_replicate]; done)) (by (simp only [cutI_length, cutN_length, shaOf_length, List.length_set, List.length_replicate]; done))) rfl ?_
  refine WL.pv (PV.pick_t rfl rfl rfl) rfl ?_
  refine WL.mv rfl rfl ?_
  refine WL.known (t := 49) (c := true) rfl (by rfl) ?_
  refine WL.mv rfl rfl ?_
  refine WL.call TrydT.fb22 rfl (Calls_c (X := Nil) (n := (0 + 1)) (nilX _) (by exact (H.rob 5 rfl).nil) ((H.robN 2 rfl).imp fun _ h => h.rd)) ?_
  rintro _ w12 ⟨rfl, hO⟩
  replace H := H.out hO
  refine WL.pv (PV.eql rfl rfl rfl) rfl ?_
  refine WL.pv (PV.pick_t rfl rfl rfl) rfl ?_
  refine WL.mv rfl rfl ?_
  refine WL.known (t := 54) (c := true) rfl (by rfl) ?_
  refine WL.mv rfl rfl ?_
  refine WL.call TrydT.fb23 rfl (Bits_c (X := Nil) (bits := 4) (nilX _) (by exact (H.rob 5 rfl).nil)) ?_
  rintro _ w13 ⟨rfl, hO⟩
  replace H := H.out hO
  refine WL.pv (PV.eql rfl rfl rfl) rfl ?_
  refine WL.pv (PV.pick_t rfl rfl rfl) rfl ?_
  refine WL.as rfl rfl ?_
  refine WL.nil ?_
  refine WE.ret ?_
  refine ⟨[_], _, .nil _, ⟨rfl, trivial⟩, ?_⟩
  refine ⟨?_, H.toOut0⟩
  show Value.bool _ = Value.bool true
  rfl

end Go.Sp.Tryd
