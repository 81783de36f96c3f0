/- Walks of functions, printed by a program of this session (gen.py) from notes on each function. -/
import Derived.Test.YtdllpckpfkjkeaaDoorNk
import Derived.Test.YtdllpckpfkjkeaaDoorMore
set_option maxRecDepth 100000
set_option maxHeartbeats 1000000
set_option linter.unusedVariables false
set_option linter.unusedSimpArgs false
namespace Go.Sp.Tryd
open Go.Proofs Go.RowKit Go.Sp
theorem NewLeafW_c {X : Nat → Prop} {w : World} {bh bc : Nat} {bits n : Int} {k lv : List UInt8} {s : Value} (hX : ∀ b, X b → b < w.heap.size) (ho0 : Blk w bc 127 ([.int .i64 n])) (hf0 : Rob (fun c_ => X c_ ∨ c_ = bc) (HAt bh bc bits) w) (hf1 : Rob (fun c_ => X c_ ∨ c_ = bc) (Rounds) w) (hbits : 0 ≤ bits ∧ bits ≤ 256) (hla : lv.length ≤ 1000000) (hk : k.length = 32) (hw : Rob (fun c => c = bc) (SlB s lv) w) :
    Ret Tryd.prog 21 [.pointer (some ⟨bh, 0, none⟩), .agg (kc k ++ [s]).toArray].toArray w fun v w' => ∃ (T : Tr) (m : Int), v = T.ptr ∧ T.er = .leaf k lv ∧ Out (· = bc) w w' ∧ Blk w' bc 127 [.int .i64 m] ∧ Rob (fun c => X c ∨ c = bc) (TrA bits T) w' := by
  refine Ret.of_body (N := 18) Tryd.func21 rfl rfl (by simp) ?_
  have H := St.begin1 (b := bc) (t := 127) (l := [.int .i64 n]) hX ho0
  replace H := H.add (rob1 hf1)
  replace H := H.add (rob1 hf0)
  have hvl := valD_length bits lv
  have hs1 : s.oneCell' = true := SlC.one1 hw.here
  refine WE.seq_reg ?_
  refine WL.box (l := kc k ++ [s]) H rfl (rfl) rfl ?_
  intro b3 w1 H
  refine WL.as rfl rfl ?_
  refine WL.nil ?_
  refine WE.seq_draw (.take 0 (.take 1 (.take 2 (.take 3 (.take 4 (.take 5 (.take 7 (.take 8 (.pick1 6 (.pick1 9 (.take 10 (.take 11 (.pick1 12 (.take 13 .done)))))))))))))) TrydT.mixed (by kernel_rfl) ?_
  replace H := H.out (Out.drew _)
  refine WP.mv rfl rfl rfl ?_
  refine WP.mv rfl rfl rfl ?_
  refine WP.take_pure rfl rfl (PV.fieldAddr rfl TrydT.fd27_0 rfl) ?_
  refine WP.readA rfl rfl rfl TrydT.ag24 rfl (by exact Blk.segAt (H.l 0 rfl) (Seg.l (Seg.all _)) (by rfl)) (by (rw [TrydT.sz24]; refine congrArg some ?_; (simp only [kc_length, kw_length, List.length_replicate, List.length_append, List.length_cons, List.length_nil, cutI_length, shaOf_length, dig_length, valD_length, rootM_length]; omega))) ?_
  refine WP.take_pure rfl rfl (PV.fieldAddr rfl TrydT.fd27_1 rfl) ?_
  refine WP.take_read rfl rfl (RV.loadOne rfl TrydT.ag25 rfl) (by exact Blk.segAt (H.l 0 rfl) (Seg.r (Seg.all _) (by with_reducible rfl)) (by (simp [kc_length, kw_length, *]; done))) ?_
  refine WP.take_pure rfl rfl (PV.fieldAddr rfl TrydT.fd27_1 rfl) ?_
  refine WP.take_read rfl rfl (RV.loadOne rfl TrydT.ag25 rfl) (by exact Blk.segAt (H.l 0 rfl) (Seg.r (Seg.all _) (by with_reducible rfl)) (by (simp [kc_length, kw_length, *]; done))) ?_
  refine WP.pick1 rfl ?_
  refine WL.call TrydT.fb58 rfl (LeafOf_c (X := Nil) (k := k) (la := lv) (nilX _) (H.o 0 rfl) (by exact (H.robOld 0 rfl 0 rfl).wk) ((H.weak H.toOut hw rfl).wk2) (by exact (H.robOld 0 rfl 1 rfl).wk) hbits hla hk) ?_
  rintro _ w2 ⟨m1, rfl, hO, hB⟩
  replace H := H.calledO 0 rfl hO hB
  refine WL.nil ⟨(List.forall_mem_cons.2 ⟨(fun _ _ => (by exact Blk.segAt (H.l 0 rfl) (Seg.r (Seg.all _) (by with_reducible rfl)) (by (simp [kc_length, kw_length, *]; done)))), (List.forall_mem_cons.2 ⟨(by exact (fun h => absurd (show waits _ 6 5 = false from h) (by decide +kernel))), (List.forall_mem_cons.2 ⟨(by exact (fun h => absurd (show waits _ 6 3 = false from h) (by decide +kernel))), (fun _ h => by cases h)⟩)⟩)⟩), ?_⟩
  refine WP.pick1 rfl ?_
  refine WL.call TrydT.fb25 rfl (CloneO_c (X := Nil) (la := lv) (nilX _) ((H.weak H.toOut hw rfl).wk0) (by omega)) ?_
  rintro s2 w3 ⟨hO, hOwn⟩
  have hr_ := (rob_own H.yylt hOwn).imp fun _ h => SlB.of_own h
  replace H := (H.out hO).add hr_
  refine WL.nil ⟨(List.forall_mem_cons.2 ⟨(by exact (fun h => absurd (show waits _ 9 8 = false from h) (by decide +kernel))), (List.forall_mem_cons.2 ⟨(by exact (fun h => absurd (show waits _ 9 5 = false from h) (by decide +kernel))), (List.forall_mem_cons.2 ⟨(by exact (fun h => absurd (show waits _ 9 3 = false from h) (by decide +kernel))), (fun _ h => by cases h)⟩)⟩)⟩), ?_⟩
  refine WP.take_pure rfl rfl (PV.buildS rfl TrydT.pl107 TrydT.ze107 (Fl.cons rfl (by rfl) (by (simp only [kc_length, kw_length, List.length_replicate, List.length_append, List.length_cons, List.length_nil, cutI_length, shaOf_length, dig_length, valD_length, rootM_length]; omega)) (Laid.left (Laid.all (by (simp only [kc_length, kw_length, List.length_replicate, List.length_append, List.length_cons, List.length_nil, cutI_length, shaOf_length, dig_length, valD_length, rootM_length]; omega)))) (Fl.cons rfl (SlC.cells (H.p 0 rfl)) (by (simp only [kc_length, kw_length, List.length_replicate, List.length_append, List.length_cons, List.length_nil, cutI_length, shaOf_length, dig_length, valD_length, rootM_length]; done)) (Laid.right (Laid.all (by (simp only [kc_length, kw_length, List.length_replicate, List.length_append, List.length_cons, List.length_nil, cutI_length, shaOf_length, dig_length, valD_length, rootM_length]; done))) (by (simp only [kc_length, kw_length, List.length_replicate, List.length_append, List.length_cons, List.length_nil, cutI_length, shaOf_length, dig_length, valD_length, rootM_length]; omega))) Fl.nil))) ?_
  refine WP.take_pure rfl rfl (PV.mkIface rfl TrydT.cn107) ?_
  refine WP.pick1 rfl ?_
  refine WL.call TrydT.fb57 rfl (withLeaf_c (k := k) (d := valD bits lv) (s := s2) H.yylt (H.o 0 rfl) (by exact H.robOld 0 rfl 1 rfl) (by exact H.robOld 0 rfl 2 rfl) hbits hk hvl) ?_
  rintro _ w4 ⟨a2, m2, rfl, hO, hB, hR⟩
  replace H := H.calledOR 0 rfl hO hB hR
  refine WL.nil ⟨(List.forall_mem_cons.2 ⟨(by exact (fun h => absurd (show waits _ 12 8 = false from h) (by decide +kernel))), (List.forall_mem_cons.2 ⟨(by exact (fun h => absurd (show waits _ 12 5 = false from h) (by decide +kernel))), (List.forall_mem_cons.2 ⟨(by exact (fun h => absurd (show waits _ 12 3 = false from h) (by decide +kernel))), (fun _ h => by cases h)⟩)⟩)⟩), ?_⟩
  refine WP.as rfl rfl rfl ?_
  refine WP.done ?_
  refine WE.ret ?_
  refine ⟨[_], _, .nil _, ⟨rfl, trivial⟩, ?_⟩
  exact ⟨.leaf a2 k lv s2, m2, rfl, rfl, H.toOut1, H.o 0 rfl, (H.giveO ((H.rob 0 rfl).and (H.rob 1 rfl))).imp fun _ h => ⟨hk, h.2, hla, h.1⟩⟩

end Go.Sp.Tryd
