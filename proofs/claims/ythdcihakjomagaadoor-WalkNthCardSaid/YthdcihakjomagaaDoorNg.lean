/- Walks of functions, printed by a program of this session (gen.py) from notes on each function. -/
import Derived.Test.YthdcihakjomagaaDoorNf
set_option maxRecDepth 100000
set_option maxHeartbeats 1000000
set_option linter.unusedVariables false
set_option linter.unusedSimpArgs false
namespace Go.Sp.Tryd
open Go.Proofs Go.RowKit Go.Sp
theorem refLeafOf_c {X : Nat → Prop} {w : World} {a : Value} {k la : List UInt8} {i : Int} (hX : ∀ b, X b → b < w.heap.size) (hf0 : Rob X (SlB a la) w) (hf1 : Rob X (Rounds) w) (hk : k.length = 32) (hla : la.length ≤ 1000000) (hi : 0 ≤ i ∧ i ≤ 256) :
    Ret Tryd.prog 73 [.int .i64 i, .agg (kc k).toArray, a].toArray w fun v w' => v = .agg (kc k ++ kc (valD i la)).toArray ∧ Out Nil w w' := by
  refine Ret.of_body (N := 13) Tryd.func73 rfl rfl (by simp) ?_
  have H := St.begin hX
  replace H := H.add (rob0 hf1)
  replace H := H.add (rob0 hf0)
  refine WE.seq_reg ?_
  refine WL.box (l := kc k) H rfl (by rfl) rfl ?_
  intro b4 w1 H
  refine WL.alloc H rfl TrydT.ze81 rfl ?_
  intro b6 w2 H
  refine WL.nil ?_
  refine WE.seq_draw (.take 0 (.take 1 (.take 2 (.pick1 3 (.pick1 4 (.take 5 (.pick1 6 .done))))))) TrydT.mixed (by kernel_rfl) ?_
  replace H := H.out (Out.drew _)
  refine WP.readA rfl rfl rfl TrydT.ag31 rfl (by exact Blk.segAt (H.l 1 rfl) (Seg.all _) (by rfl)) (by (rw [TrydT.sz31]; refine congrArg some ?_; (simp only [kc_length, kw_length, List.length_replicate, List.length_append, List.length_cons, List.length_nil, cutI_length, shaOf_length, dig_length, valD_length]; omega))) ?_
  refine WP.mv rfl rfl rfl ?_
  refine WP.mv rfl rfl rfl ?_
  refine WP.pick1 rfl ?_
  refine WL.call TrydT.fb89 rfl (refValue_c (la := la) H.yylt (by exact H.rob 0 rfl) (by omega)) ?_
  rintro v10 w3 ⟨hO, hR⟩
  replace H := (H.out hO).add hR
  refine WL.nil ⟨(List.forall_mem_cons.2 ⟨(fun _ _ => (by exact Blk.segAt (H.l 1 rfl) (Seg.all _) (by rfl))), (fun _ h => by cases h)⟩), ?_⟩
  refine WP.pick1 rfl ?_
  refine WL.call TrydT.fb71 rfl (refSum5_c (la := 2 :: la) (i := i) H.yylt (by exact H.rob 0 rfl) (by (simp; omega)) (by omega)) ?_
  rintro _ w4 ⟨rfl, hO⟩
  replace H := H.out hO
  refine WL.nil ⟨(List.forall_mem_cons.2 ⟨(fun _ _ => (by exact Blk.segAt (H.l 1 rfl) (Seg.all _) (by rfl))), (fun _ h => by cases h)⟩), ?_⟩
  refine WP.take_pure rfl rfl (PV.buildS rfl TrydT.pl81 TrydT.ze81 (Fl.cons rfl (by rfl) (by (simp only [kc_length, kw_length, List.length_replicate, List.length_append, List.length_cons, List.length_nil, cutI_length, shaOf_length, dig_length, valD_length]; omega)) (Laid.left (Laid.all (by (simp only [kc_length, kw_length, List.length_replicate, List.length_append, List.length_cons, List.length_nil, cutI_length, shaOf_length, dig_length, valD_length]; omega)))) (Fl.cons rfl (by rfl) (by (simp only [kc_length, kw_length, List.length_replicate, List.length_append, List.length_cons, List.length_nil, cutI_length, shaOf_length, dig_length, valD_length]; done)) (Laid.right (Laid.all (by (simp only [kc_length, kw_length, List.length_replicate, List.length_append, List.length_cons, List.length_nil, cutI_length, shaOf_length, dig_length, valD_length]; done))) (by (simp only [kc_length, kw_length, List.length_replicate, List.length_append, List.length_cons, List.length_nil, cutI_length, shaOf_length, dig_length, valD_length]; omega))) Fl.nil))) ?_
  refine WP.pick1 rfl ?_
  refine WL.storeL H 0 rfl rfl rfl (new := _) rfl (by (rw [TrydT.sz81]; refine congrArg some ?_; (simp only [kc_length, kw_length, List.length_replicate, List.length_append, List.length_cons, List.length_nil, cutI_length, shaOf_length, dig_length, valD_length]; omega))) (one_append (kc_one _) (kc_one _)) (Laid.at (Laid.all (by (simp only [kc_length, kw_length, List.length_replicate, List.length_append, List.length_cons, List.length_nil, cutI_length, shaOf_length, dig_length, valD_length]; omega))) (by rfl)) rfl ?_
  intro w5 H
  refine WL.nil ⟨(List.forall_mem_cons.2 ⟨(by exact (fun h => absurd (show waits _ 6 0 = false from h) (by decide +kernel))), (fun _ h => by cases h)⟩), ?_⟩
  refine WP.done ?_
  refine WE.ret ?_
  refine ⟨[_], _, .nil _, ⟨⟨_, rfl, run_loadVar_aggR TrydT.ag81 (by exact Blk.segAt (H.l 0 rfl) (Seg.all _) rfl) (by (rw [TrydT.sz81]; refine congrArg some ?_; (simp only [kc_length, kw_length, List.length_replicate, List.length_append, List.length_cons, List.length_nil, cutI_length, shaOf_length, dig_length, valD_length]; omega)))⟩, trivial⟩, ?_⟩
  exact ⟨rfl, H.toOut0⟩

theorem refEmpty_c {X : Nat → Prop} {w : World} {i : Int} (hX : ∀ b, X b → b < w.heap.size) (hf0 : Rob X (Rounds) w) (hi : 0 ≤ i ∧ i ≤ 256) :
    Ret Tryd.prog 70 [.int .i64 i].toArray w fun v w' => v = .agg (kc (emptyD i)).toArray ∧ Out Nil w w' := by
  refine Ret.of_body (N := 6) Tryd.func70 rfl rfl (by simp) ?_
  have H := St.begin hX
  replace H := H.add (rob0 hf0)
  refine WE.seq_reg ?_
  refine WL.alloc H rfl TrydT.ze79 rfl ?_
  intro b2 w1 H
  refine WL.nil ?_
  refine WE.seq_reg ?_
  refine WL.mv rfl rfl ?_
  refine WL.buildSliceF (l0 := [.int .u8 (0)]) H rfl TrydT.st32 (by decide) (zrow_one _ _) (Fl.cons rfl (by rfl) (by (simp only [kc_length, kw_length, List.length_replicate, List.length_append, List.length_cons, List.length_nil, cutI_length, shaOf_length, dig_length, valD_length]; done)) Laid.head Fl.nil) rfl ?_
  intro b4 w2 H
  replace H := H.freeze (i := 0) rfl
  replace H := H.add ((H.rob 0 rfl).imp fun _ h => SlB.of_blk (l := [3]) h rfl)
  refine WL.call TrydT.fb71 rfl (refSum5_c (la := [3]) (i := i) H.yylt (by exact H.rob 0 rfl) (by simp_all) (by omega)) ?_
  rintro _ w3 ⟨rfl, hO⟩
  replace H := H.out hO
  refine WL.storeL H 0 rfl rfl rfl (new := _) rfl (by exact TrydT.sz79) (by exact kc_one _) (Laid.at (Laid.all (by (simp only [kc_length, kw_length, List.length_replicate, List.length_append, List.length_cons, List.length_nil, cutI_length, shaOf_length, dig_length, valD_length]; done))) (by rfl)) rfl ?_
  intro w4 H
  refine WL.nil ?_
  refine WE.ret ?_
  refine ⟨[_], _, .nil _, ⟨⟨_, rfl, run_loadVar_aggR TrydT.ag79 (by exact Blk.segAt (H.l 0 rfl) (Seg.all _) rfl) (by exact TrydT.sz79)⟩, trivial⟩, ?_⟩
  exact ⟨rfl, H.toOut0⟩

theorem Hash_c {X : Nat → Prop} {w : World} {i : Int} (hX : ∀ b, X b → b < w.heap.size) (hi : 0 ≤ i ∧ i ≤ 256) :
    Ret Tryd.prog 20 [.int .i64 i].toArray w fun v w' => ∃ bh bc, v = .pointer (some ⟨bh, 0, none⟩) ∧ Out Nil w w' ∧ w.heap.size ≤ bc ∧ Blk w' bc 118 [.int .i64 0] ∧ Rob (fun c => X c ∨ c = bc) (HAt bh bc i) w' := by
  refine Ret.of_body (N := 13) Tryd.func20 rfl rfl (by simp) ?_
  have H := St.begin hX
  refine WE.seq_reg ?_
  refine WL.as rfl rfl ?_
  refine WL.nil ?_
  refine WE.seq_reg ?_
  refine WL.mv rfl rfl ?_
  refine WL.call TrydT.fb46 rfl (New_c (i := i) H.yylt  (by assumption)) ?_
  rintro _ w1 ⟨bhv7, bcv7, rfl, hO, hge, hB, hR⟩
  replace H := H.pushR hO (Ent.blk bcv7 118 [.int .i64 0]) hB (fun c hc => by cases hc; exact hge) hR
  refine WL.mv rfl rfl ?_
  refine WL.pv (PV.extract rfl rfl rfl) rfl ?_
  refine WL.pv (PV.extract rfl rfl rfl) rfl ?_
  refine WL.as rfl rfl ?_
  refine WL.as rfl rfl ?_
  refine WL.nil ?_
  refine WE.seq ?_
  refine WE.seq_reg ?_
  refine WL.mv rfl rfl ?_
  refine WL.pv (PV.neq rfl rfl rfl) rfl ?_
  refine WL.nil ?_
  refine WE.cond_f' rfl rfl ?_
  refine WE.skip ?_
  refine WE.seq_reg ?_
  refine WL.mv rfl rfl ?_
  refine WL.as rfl rfl ?_
  refine WL.nil ?_
  refine WE.ret ?_
  refine ⟨[_], _, .nil _, ⟨rfl, trivial⟩, ?_⟩
  exact ⟨_, _, rfl, H.toOut0, H.geL _ (List.mem_of_getElem? (i := 0) rfl) _ rfl, H.l 0 rfl, H.give1 0 rfl⟩

theorem HashBad_c {X : Nat → Prop} {w : World} {i : Int} (hX : ∀ b, X b → b < w.heap.size) (hi : ¬ (0 ≤ i ∧ i ≤ 256)) :
    Ret Tryd.prog 20 [.int .i64 i].toArray w fun v w' => v = .pointer none ∧ Out Nil w w' := by
  refine Ret.of_body (N := 13) Tryd.func20 rfl rfl (by simp) ?_
  have H := St.begin hX
  refine WE.seq_reg ?_
  refine WL.as rfl rfl ?_
  refine WL.nil ?_
  refine WE.seq_reg ?_
  refine WL.mv rfl rfl ?_
  refine WL.call TrydT.fb46 rfl (NewBad_c (i := i) H.yylt  (by omega)) ?_
  rintro _ w1 ⟨rfl, hO⟩
  replace H := H.out hO
  refine WL.mv rfl rfl ?_
  refine WL.pv (PV.extract rfl rfl rfl) rfl ?_
  refine WL.pv (PV.extract rfl rfl rfl) rfl ?_
  refine WL.as rfl rfl ?_
  refine WL.as rfl rfl ?_
  refine WL.nil ?_
  refine WE.seq ?_
  refine WE.seq_reg ?_
  refine WL.mv rfl rfl ?_
  refine WL.pv (PV.neq rfl rfl rfl) rfl ?_
  refine WL.nil ?_
  refine WE.cond_t' rfl rfl ?_
  refine WE.seq_reg ?_
  refine WL.as rfl rfl ?_
  refine WL.nil ?_
  refine WE.ret ?_
  refine ⟨[_], _, .nil _, ⟨rfl, trivial⟩, ?_⟩
  exact ⟨rfl, H.toOut0⟩

end Go.Sp.Tryd
