/- Walks of functions, printed by a program of this session (gen.py) from notes on each function. -/
import Derived.Test.YtcfkkhljekopgaaDoorG1
set_option maxRecDepth 100000
set_option maxHeartbeats 1000000
set_option linter.unusedVariables false
set_option linter.unusedSimpArgs false
namespace Go.Sp.Tryd
open Go.Proofs Go.RowKit Go.Sp
theorem SplitLeaf_c {X : Nat → Prop} {w : World} {a : Value} {la : List UInt8} (hX : ∀ b, X b → b < w.heap.size) (hf0 : Rob X (SlB a la) w) (hla : la.length ≤ 9223372036854775807) :
    Ret Tryd.prog 61 [a].toArray w fun v w' => v = .tuple [.agg (kc (half la 0 1) ++ kc (half la 0 33)).toArray, .bool (decide (kindOf la = 0))].toArray ∧ Out Nil w w' := by
  refine Ret.of_body (N := 17) Tryd.func61 rfl rfl (by simp) ?_
  have H := St.begin hX
  replace H := H.add (rob0 hf0)
  have hq1 : (half la 0 1).length = 32 := half_length (by decide) (by decide)
  have hq2 : (half la 0 33).length = 32 := half_length (by decide) (by decide)
  refine WE.seq_reg ?_
  refine WL.alloc H rfl TrydT.ze38 rfl ?_
  intro b2 w1 H
  refine WL.as rfl rfl ?_
  refine WL.nil ?_
  refine WE.seq_reg ?_
  refine WL.mv rfl rfl ?_
  refine WL.call TrydT.fb86 rfl (parts_c (kd := 0) H.yylt (H.rob 0 rfl) hla (by decide)) ?_
  rintro _ w2 ⟨rfl, hO⟩
  replace H := H.out hO
  refine WL.mv rfl rfl ?_
  refine WL.pv (PV.extract rfl rfl rfl) rfl ?_
  refine WL.pv (PV.extract rfl rfl rfl) rfl ?_
  refine WL.pv (PV.extract rfl rfl rfl) rfl ?_
  refine WL.alloc H rfl TrydT.ze28 rfl ?_
  intro b4 w3 H
  refine WL.alloc H rfl TrydT.ze28 rfl ?_
  intro b5 w4 H
  refine WL.storeL H 1 rfl rfl rfl (new := _) rfl (by (rw [TrydT.sz28]; refine congrArg some ?_; (simp only [kc_length, kw_length, List.length_replicate, List.length_append, List.length_cons, List.length_nil]; omega))) (by exact kc_one _) (Laid.at (Laid.all (by (simp only [kc_length, kw_length, List.length_replicate, List.length_append, List.length_cons, List.length_nil]; omega))) (by rfl)) rfl ?_
  intro w5 H
  refine WL.storeL H 0 rfl rfl rfl (new := _) rfl (by (rw [TrydT.sz28]; refine congrArg some ?_; (simp only [kc_length, kw_length, List.length_replicate, List.length_append, List.length_cons, List.length_nil]; omega))) (by exact kc_one _) (Laid.at (Laid.all (by (simp only [kc_length, kw_length, List.length_replicate, List.length_append, List.length_cons, List.length_nil]; omega))) (by rfl)) rfl ?_
  intro w6 H
  refine WL.as rfl rfl ?_
  refine WL.nil ?_
  refine WE.seq_reg ?_
  refine WL.loadR rfl TrydT.ag28 rfl rfl (by exact Blk.segAt (H.l 1 rfl) (Seg.all _) (by rfl)) (by (rw [TrydT.sz28]; refine congrArg some ?_; (simp only [kc_length, kw_length, List.length_replicate, List.length_append, List.length_cons, List.length_nil]; omega))) ?_
  refine WL.loadR rfl TrydT.ag28 rfl rfl (by exact Blk.segAt (H.l 0 rfl) (Seg.all _) (by rfl)) (by (rw [TrydT.sz28]; refine congrArg some ?_; (simp only [kc_length, kw_length, List.length_replicate, List.length_append, List.length_cons, List.length_nil]; omega))) ?_
  refine WL.pv (PV.buildS rfl TrydT.pl38 TrydT.ze38 (Fl.cons rfl (by rfl) (by (simp only [kc_length, kw_length, List.length_replicate, List.length_append, List.length_cons, List.length_nil]; omega)) (Laid.left (Laid.all (by (simp only [kc_length, kw_length, List.length_replicate, List.length_append, List.length_cons, List.length_nil]; omega)))) (Fl.cons rfl (by rfl) (by (simp only [kc_length, kw_length, List.length_replicate, List.length_append, List.length_cons, List.length_nil]; omega)) (Laid.right (Laid.all (by (simp only [kc_length, kw_length, List.length_replicate, List.length_append, List.length_cons, List.length_nil]; omega))) (by (simp only [kc_length, kw_length, List.length_replicate, List.length_append, List.length_cons, List.length_nil]; omega))) Fl.nil))) rfl ?_
  refine WL.mv rfl rfl ?_
  refine WL.storeL H 2 rfl rfl rfl (new := _) rfl (by (rw [TrydT.sz38]; refine congrArg some ?_; (simp only [kc_length, kw_length, List.length_replicate, List.length_append, List.length_cons, List.length_nil]; omega))) (by exact one_append (kc_one _) (kc_one _)) (Laid.at (Laid.all (by (simp only [kc_length, kw_length, List.length_replicate, List.length_append, List.length_cons, List.length_nil]; omega))) (by rfl)) rfl ?_
  intro w7 H
  refine WL.as rfl rfl ?_
  refine WL.nil ?_
  refine WE.ret ?_
  refine ⟨[_, _], _, .nil _, ⟨⟨_, rfl, run_loadVar_aggR TrydT.ag38 (by exact Blk.segAt (H.l 2 rfl) (Seg.all _) rfl) (by (rw [TrydT.sz38]; refine congrArg some ?_; (simp only [kc_length, kw_length, List.length_replicate, List.length_append, List.length_cons, List.length_nil]; omega)))⟩, rfl, trivial⟩, ?_⟩
  exact ⟨rfl, H.toOut0⟩

theorem SplitNode_c {X : Nat → Prop} {w : World} {a : Value} {la : List UInt8} (hX : ∀ b, X b → b < w.heap.size) (hf0 : Rob X (SlB a la) w) (hla : la.length ≤ 9223372036854775807) :
    Ret Tryd.prog 63 [a].toArray w fun v w' => v = .tuple [.agg (kc (half la 1 1)).toArray, .agg (kc (half la 1 33)).toArray, .bool (decide (kindOf la = 1))].toArray ∧ Out Nil w w' := by
  refine Ret.of_body (N := 16) Tryd.func63 rfl rfl (by simp) ?_
  have H := St.begin hX
  replace H := H.add (rob0 hf0)
  have hq1 : (half la 1 1).length = 32 := half_length (by decide) (by decide)
  have hq2 : (half la 1 33).length = 32 := half_length (by decide) (by decide)
  refine WE.seq_reg ?_
  refine WL.alloc H rfl TrydT.ze29 rfl ?_
  intro b2 w1 H
  refine WL.alloc H rfl TrydT.ze29 rfl ?_
  intro b3 w2 H
  refine WL.as rfl rfl ?_
  refine WL.nil ?_
  refine WE.seq_reg ?_
  refine WL.mv rfl rfl ?_
  refine WL.call TrydT.fb86 rfl (parts_c (kd := 1) H.yylt (H.rob 0 rfl) hla (by decide)) ?_
  rintro _ w3 ⟨rfl, hO⟩
  replace H := H.out hO
  refine WL.mv rfl rfl ?_
  refine WL.pv (PV.extract rfl rfl rfl) rfl ?_
  refine WL.pv (PV.extract rfl rfl rfl) rfl ?_
  refine WL.pv (PV.extract rfl rfl rfl) rfl ?_
  refine WL.alloc H rfl TrydT.ze28 rfl ?_
  intro b5 w4 H
  refine WL.alloc H rfl TrydT.ze28 rfl ?_
  intro b6 w5 H
  refine WL.storeL H 1 rfl rfl rfl (new := _) rfl (by (rw [TrydT.sz28]; refine congrArg some ?_; (simp only [kc_length, kw_length, List.length_replicate, List.length_append, List.length_cons, List.length_nil]; omega))) (by exact kc_one _) (Laid.at (Laid.all (by (simp only [kc_length, kw_length, List.length_replicate, List.length_append, List.length_cons, List.length_nil]; omega))) (by rfl)) rfl ?_
  intro w6 H
  refine WL.storeL H 0 rfl rfl rfl (new := _) rfl (by (rw [TrydT.sz28]; refine congrArg some ?_; (simp only [kc_length, kw_length, List.length_replicate, List.length_append, List.length_cons, List.length_nil]; omega))) (by exact kc_one _) (Laid.at (Laid.all (by (simp only [kc_length, kw_length, List.length_replicate, List.length_append, List.length_cons, List.length_nil]; omega))) (by rfl)) rfl ?_
  intro w7 H
  refine WL.as rfl rfl ?_
  refine WL.nil ?_
  refine WE.seq_draw (.take 0 (.take 1 (.take 2 (.pick1 3 (.pick1 4 (.take 5 .done)))))) TrydT.mixed (by kernel_rfl) ?_
  replace H := H.out (Out.drew _)
  refine WP.readA rfl rfl rfl TrydT.ag28 rfl (by exact Blk.segAt (H.l 1 rfl) (Seg.all _) (by rfl)) (by (rw [TrydT.sz28]; refine congrArg some ?_; (simp only [kc_length, kw_length, List.length_replicate, List.length_append, List.length_cons, List.length_nil]; omega))) ?_
  refine WP.readA rfl rfl rfl TrydT.ag28 rfl (by exact Blk.segAt (H.l 0 rfl) (Seg.all _) (by rfl)) (by (rw [TrydT.sz28]; refine congrArg some ?_; (simp only [kc_length, kw_length, List.length_replicate, List.length_append, List.length_cons, List.length_nil]; omega))) ?_
  refine WP.mv rfl rfl rfl ?_
  refine WP.pick1 rfl ?_
  refine WL.storeL H 3 rfl rfl rfl (new := _) rfl (by (rw [TrydT.sz29]; refine congrArg some ?_; (simp only [kc_length, kw_length, List.length_replicate, List.length_append, List.length_cons, List.length_nil]; omega))) (by exact kc_one _) (Laid.at (Laid.all (by (simp only [kc_length, kw_length, List.length_replicate, List.length_append, List.length_cons, List.length_nil]; omega))) (by rfl)) rfl ?_
  intro w8 H
  refine WL.nil ⟨(List.forall_mem_cons.2 ⟨(fun _ _ => (by exact Blk.segAt (H.l 0 rfl) (Seg.all _) (by rfl))), (List.forall_mem_cons.2 ⟨(by exact (fun h => absurd (show waits _ 3 0 = false from h) (by decide +kernel))), (fun _ h => by cases h)⟩)⟩), ?_⟩
  refine WP.pick1 rfl ?_
  refine WL.storeL H 2 rfl rfl rfl (new := _) rfl (by (rw [TrydT.sz29]; refine congrArg some ?_; (simp only [kc_length, kw_length, List.length_replicate, List.length_append, List.length_cons, List.length_nil]; omega))) (by exact kc_one _) (Laid.at (Laid.all (by (simp only [kc_length, kw_length, List.length_replicate, List.length_append, List.length_cons, List.length_nil]; omega))) (by rfl)) rfl ?_
  intro w9 H
  refine WL.nil ⟨(List.forall_mem_cons.2 ⟨(by exact (fun h => absurd (show waits _ 4 1 = false from h) (by decide +kernel))), (List.forall_mem_cons.2 ⟨(by exact (fun h => absurd (show waits _ 4 0 = false from h) (by decide +kernel))), (fun _ h => by cases h)⟩)⟩), ?_⟩
  refine WP.as rfl rfl rfl ?_
  refine WP.done ?_
  refine WE.ret ?_
  refine ⟨[_, _, _], _, .nil _, ⟨⟨_, rfl, run_loadVar_aggR TrydT.ag29 (by exact Blk.segAt (H.l 3 rfl) (Seg.all _) rfl) (by (rw [TrydT.sz29]; refine congrArg some ?_; (simp only [kc_length, kw_length, List.length_replicate, List.length_append, List.length_cons, List.length_nil]; omega)))⟩, ⟨_, rfl, run_loadVar_aggR TrydT.ag29 (by exact Blk.segAt (H.l 2 rfl) (Seg.all _) rfl) (by (rw [TrydT.sz29]; refine congrArg some ?_; (simp only [kc_length, kw_length, List.length_replicate, List.length_append, List.length_cons, List.length_nil]; omega)))⟩, rfl, trivial⟩, ?_⟩
  exact ⟨rfl, H.toOut0⟩


theorem kind_leaf {k l : List UInt8} (hk : k.length = 32) (hl : l.length = 32) : kindOf (0 :: (k ++ l)) = 0 := by simp [kindOf, hk, hl]
theorem kind_node {k l : List UInt8} (hk : k.length = 32) (hl : l.length = 32) : kindOf (1 :: (k ++ l)) = 1 := by simp [kindOf, hk, hl]
theorem half_1 {x : UInt8} {kd : Int} {k l : List UInt8} (h : kindOf (x :: (k ++ l)) = kd) (hk : k.length = 32) : half (x :: (k ++ l)) kd 1 = k := by
  rw [half, if_pos h]; simp [← hk]
theorem half_33 {x : UInt8} {kd : Int} {k l : List UInt8} (h : kindOf (x :: (k ++ l)) = kd) (hk : k.length = 32) (hl : l.length = 32) : half (x :: (k ++ l)) kd 33 = l := by
  rw [half, if_pos h]
  show ((k ++ l).drop 32).take 32 = l
  rw [← hk, List.drop_left, hk, ← hl, List.take_length]
section
variable {X : Nat → Prop} {w : World} {a : Value}
theorem SplitLeafOf_c {k l : List UInt8} (hX : ∀ b, X b → b < w.heap.size) (hf : Rob X (SlB a (0 :: (k ++ l))) w) (hk : k.length = 32) (hl : l.length = 32) :
    Ret Tryd.prog 61 [a].toArray w (fun v w' => v = .tuple [.agg (kc k ++ kc l).toArray, .bool true].toArray ∧ Out Nil w w') := by
  have h := SplitLeaf_c hX hf (by simp; omega)
  rw [half_1 (kind_leaf hk hl) hk, half_33 (kind_leaf hk hl) hk hl, decide_eq_true (kind_leaf hk hl)] at h
  exact h
theorem SplitNodeOf_c {k l : List UInt8} (hX : ∀ b, X b → b < w.heap.size) (hf : Rob X (SlB a (1 :: (k ++ l))) w) (hk : k.length = 32) (hl : l.length = 32) :
    Ret Tryd.prog 63 [a].toArray w (fun v w' => v = .tuple [.agg (kc k).toArray, .agg (kc l).toArray, .bool true].toArray ∧ Out Nil w w') := by
  have h := SplitNode_c hX hf (by simp; omega)
  rw [half_1 (kind_node hk hl) hk, half_33 (kind_node hk hl) hk hl, decide_eq_true (kind_node hk hl)] at h
  exact h
theorem SplitNodeNot_c {la : List UInt8} (hX : ∀ b, X b → b < w.heap.size) (hf : Rob X (SlB a la) w) (hla : la.length ≤ 9223372036854775807) (hk : ¬ kindOf la = 1) :
    Ret Tryd.prog 63 [a].toArray w (fun v w' => v = .tuple [.agg (kc (List.replicate 32 0)).toArray, .agg (kc (List.replicate 32 0)).toArray, .bool false].toArray ∧ Out Nil w w') := by
  have h := SplitNode_c hX hf hla
  rw [half, half, if_neg hk, if_neg hk, decide_eq_false hk] at h
  exact h
theorem SplitLeafNot_c {la : List UInt8} (hX : ∀ b, X b → b < w.heap.size) (hf : Rob X (SlB a la) w) (hla : la.length ≤ 9223372036854775807) (hk : ¬ kindOf la = 0) :
    Ret Tryd.prog 61 [a].toArray w (fun v w' => v = .tuple [.agg (kc (List.replicate 32 0) ++ kc (List.replicate 32 0)).toArray, .bool false].toArray ∧ Out Nil w w') := by
  have h := SplitLeaf_c hX hf hla
  rw [half, half, if_neg hk, if_neg hk, decide_eq_false hk] at h
  exact h
theorem SplitNodeIs_c {la : List UInt8} (hX : ∀ b, X b → b < w.heap.size) (hf : Rob X (SlB a la) w) (hla : la.length ≤ 9223372036854775807) (hk : kindOf la = 1) :
    Ret Tryd.prog 63 [a].toArray w (fun v w' => v = .tuple [.agg (kc ((la.drop 1).take 32)).toArray, .agg (kc ((la.drop 33).take 32)).toArray, .bool true].toArray ∧ Out Nil w w') := by
  have h := SplitNode_c hX hf hla
  rw [half, half, if_pos hk, if_pos hk, decide_eq_true hk] at h
  exact h
theorem SplitLeafIs_c {la : List UInt8} (hX : ∀ b, X b → b < w.heap.size) (hf : Rob X (SlB a la) w) (hla : la.length ≤ 9223372036854775807) (hk : kindOf la = 0) :
    Ret Tryd.prog 61 [a].toArray w (fun v w' => v = .tuple [.agg (kc ((la.drop 1).take 32) ++ kc ((la.drop 33).take 32)).toArray, .bool true].toArray ∧ Out Nil w w') := by
  have h := SplitLeaf_c hX hf hla
  rw [half, half, if_pos hk, if_pos hk, decide_eq_true hk] at h
  exact h
end

theorem alive_c {X : Nat → Prop} {w : World}  (hX : ∀ b, X b → b < w.heap.size) :
    Ret Tryd.prog 24 [].toArray w fun v w' => v = .bool true ∧ Out Nil w w' := by
  refine Ret.of_body (N := 64) Tryd.func24 rfl rfl (by decide +revert) ?_
  have H := St.begin hX
  refine WE.seq_reg ?_
  refine WL.as rfl rfl ?_
  refine WL.nil ?_
  refine WE.seq_reg ?_
  refine WL.pv (PV.buildA rfl TrydT.ar36 TrydT.sz5 TrydT.ze36 (Fl.cons rfl rfl rfl (Laid.byteA (x := 5) 0 (by simp)) Fl.nil)) rfl ?_
  refine WL.pv (PV.buildA rfl TrydT.ar29 TrydT.sz5 TrydT.ze29 (Fl.cons rfl rfl rfl (Laid.byteA (x := 6) 0 (by simp)) Fl.nil)) rfl ?_
  refine WL.pv (PV.buildS rfl TrydT.pl38 TrydT.ze38 (Fl.cons rfl (by rfl) (by (simp [kc_length, kw_length, *]; done)) (Laid.left (Laid.all (by (simp [kc_length, kw_length, *]; done)))) (Fl.cons rfl (by rfl) (by (simp [kc_length, kw_length, *]; done)) (Laid.right (Laid.all (by (simp [kc_length, kw_length, *]; done))) (by (simp [kc_length, kw_length, *]; done))) Fl.nil))) rfl ?_
  refine WL.alloc H rfl TrydT.ze38 rfl ?_
  intro b1 w1 H
  refine WL.storeL H 0 rfl rfl rfl (new := _) rfl (by exact TrydT.sz38) (by exact one_append (kc_one _) (kc_one _)) (Laid.at (Laid.all (by (simp [kc_length, kw_length, *]; done))) (by rfl)) rfl ?_
  intro w2 H
  refine WL.nil ?_
  refine WE.seq_reg ?_
  refine WL.loadR rfl TrydT.ag38 rfl rfl (by exact Blk.segAt (H.l 0 rfl) (Seg.all _) (by rfl)) (by exact TrydT.sz38) ?_
  refine WL.call TrydT.fb62 rfl (Leaf_c (k := ((List.replicate 32 0).set 0 5)) (l := ((List.replicate 32 0).set 0 6)) H.yylt (by simp) (by simp)) ?_
  rintro v12 w3 ⟨hO, hR⟩
  replace H := (H.out hO).add hR
  refine WL.call TrydT.fb61 rfl (SplitLeafOf_c (k := ((List.replicate 32 0).set 0 5)) (l := ((List.replicate 32 0).set 0 6)) H.yylt (H.rob 0 rfl) (by simp) (by simp)) ?_
  rintro _ w4 ⟨rfl, hO⟩
  replace H := H.out hO
  refine WL.mv rfl rfl ?_
  refine WL.pv (PV.extract rfl rfl rfl) rfl ?_
  refine WL.pv (PV.extract rfl rfl rfl) rfl ?_
  refine WL.alloc H rfl TrydT.ze38 rfl ?_
  intro b2 w5 H
  refine WL.storeL H 0 rfl rfl rfl (new := _) rfl (by exact TrydT.sz38) (by exact one_append (kc_one _) (kc_one _)) (Laid.at (Laid.all (by (simp [kc_length, kw_length, *]; done))) (by rfl)) rfl ?_
  intro w6 H
  refine WL.as rfl rfl ?_
  refine WL.nil ?_
  refine WE.seq_reg ?_
  refine WL.pv (PV.buildA rfl TrydT.ar29 TrydT.sz5 TrydT.ze29 (Fl.cons rfl rfl rfl (Laid.byteA (x := 1) 0 (by simp)) Fl.nil)) rfl ?_
  refine WL.pv (PV.buildA rfl TrydT.ar29 TrydT.sz5 TrydT.ze29 (Fl.cons rfl rfl rfl (Laid.byteA (x := 2) 0 (by simp)) Fl.nil)) rfl ?_
  refine WL.call TrydT.fb64 rfl (Node_c (k := ((List.replicate 32 0).set 0 1)) (l := ((List.replicate 32 0).set 0 2)) H.yylt (by simp) (by simp)) ?_
  rintro v19 w7 ⟨hO, hR⟩
  replace H := (H.out hO).add hR
  refine WL.call TrydT.fb63 rfl (SplitNodeOf_c (k := ((List.replicate 32 0).set 0 1)) (l := ((List.replicate 32 0).set 0 2)) H.yylt (H.rob 0 rfl) (by simp) (by simp)) ?_
  rintro _ w8 ⟨rfl, hO⟩
  replace H := H.out hO
  refine WL.mv rfl rfl ?_
  refine WL.pv (PV.extract rfl rfl rfl) rfl ?_
  refine WL.pv (PV.extract rfl rfl rfl) rfl ?_
  refine WL.pv (PV.extract rfl rfl rfl) rfl ?_
  refine WL.alloc H rfl TrydT.ze29 rfl ?_
  intro b4 w9 H
  refine WL.alloc H rfl TrydT.ze29 rfl ?_
  intro b5 w10 H
  refine WL.storeL H 1 rfl rfl rfl (new := _) rfl (by exact TrydT.sz29) (by exact kc_one _) (Laid.at (Laid.all (by (simp [kc_length, kw_length, *]; done))) (by rfl)) rfl ?_
  intro w11 H
  refine WL.storeL H 0 rfl rfl rfl (new := _) rfl (by exact TrydT.sz29) (by exact kc_one _) (Laid.at (Laid.all (by (simp [kc_length, kw_length, *]; done))) (by rfl)) rfl ?_
  intro w12 H
  refine WL.as rfl rfl ?_
  refine WL.nil ?_
  refine WE.seq_reg ?_
  refine WL.buildSliceF (l0 := [.int .u8 (0)]) H rfl TrydT.st33 (by decide) (zrow_one _ _) (Fl.cons rfl (by rfl) (by (simp only [kc_length, kw_length, List.length_replicate, List.length_append, List.length_cons, List.length_nil]; done)) Laid.head Fl.nil) rfl ?_
  intro b24 w13 H
  replace H := H.freeze (i := 0) rfl
  replace H := H.add ((H.rob 0 rfl).imp fun _ h => SlB.of_blk (l := [7]) h rfl)
  refine WL.call TrydT.fb65 rfl (Value_c (la := [7]) H.yylt (H.rob 0 rfl) (by simp)) ?_
  rintro v25 w14 ⟨hO, hR⟩
  replace H := (H.out hO).add hR
  refine WL.buildSliceF (l0 := [.int .u8 (0), .int .u8 (0)]) H rfl TrydT.st33 (by decide) (zrow_one _ _) (Fl.cons rfl (by rfl) (by (simp only [kc_length, kw_length, List.length_replicate, List.length_append, List.length_cons, List.length_nil]; done)) Laid.head (Fl.cons rfl (by rfl) (by (simp only [kc_length, kw_length, List.length_replicate, List.length_append, List.length_cons, List.length_nil]; done)) (Laid.tail Laid.head rfl) Fl.nil)) rfl ?_
  intro b26 w15 H
  replace H := H.freeze (i := 0) rfl
  replace H := H.add ((H.rob 0 rfl).imp fun _ h => SlB.of_blk (l := [2, 7]) h rfl)
  refine WL.call TrydT.fb38 rfl (Same_c (la := [2, 7]) (lb := [2, 7]) H.yylt (H.rob 2 rfl) (H.rob 0 rfl) (by simp)) ?_
  rintro _ w16 ⟨rfl, hO⟩
  replace H := H.out hO
  refine WL.mv rfl rfl ?_
  refine WL.known (t := 28) (c := true) rfl (by decide) ?_
  refine WL.buildSliceF (l0 := [.int .u8 (0)]) H rfl TrydT.st33 (by decide) (zrow_one _ _) (Fl.cons rfl (by rfl) (by (simp only [kc_length, kw_length, List.length_replicate, List.length_append, List.length_cons, List.length_nil]; done)) Laid.head Fl.nil) rfl ?_
  intro b29 w17 H
  replace H := H.freeze (i := 0) rfl
  replace H := H.add ((H.rob 0 rfl).imp fun _ h => SlB.of_blk (l := [3]) h rfl)
  refine WL.call TrydT.fb66 rfl (Kind_c (la := [3]) H.yylt (H.rob 0 rfl) (by simp)) ?_
  rintro _ w18 ⟨rfl, hO⟩
  replace H := H.out hO
  refine WL.pv (PV.eql rfl rfl rfl) rfl ?_
  refine WL.pv (PV.pick_t rfl rfl rfl) rfl ?_
  refine WL.mv rfl rfl ?_
  refine WL.known (t := 33) (c := true) rfl (by simp [kindOf]) ?_
  refine WL.buildSliceF (l0 := [.int .u8 (0), .int .u8 (0)]) H rfl TrydT.st33 (by decide) (zrow_one _ _) (Fl.cons rfl (by rfl) (by (simp only [kc_length, kw_length, List.length_replicate, List.length_append, List.length_cons, List.length_nil]; done)) Laid.head (Fl.cons rfl (by rfl) (by (simp only [kc_length, kw_length, List.length_replicate, List.length_append, List.length_cons, List.length_nil]; done)) (Laid.tail Laid.head rfl) Fl.nil)) rfl ?_
  intro b34 w19 H
  replace H := H.freeze (i := 0) rfl
  replace H := H.add ((H.rob 0 rfl).imp fun _ h => SlB.of_blk (l := [3, 3]) h rfl)
  refine WL.call TrydT.fb66 rfl (Kind_c (la := [3, 3]) H.yylt (H.rob 0 rfl) (by simp)) ?_
  rintro _ w20 ⟨rfl, hO⟩
  replace H := H.out hO
  refine WL.pv (PV.eql rfl rfl rfl) rfl ?_
  refine WL.pv (PV.pick_t rfl rfl rfl) rfl ?_
  refine WL.mv rfl rfl ?_
  refine WL.known (t := 38) (c := true) rfl (by simp [kindOf]) ?_
  refine WL.call TrydT.fb67 rfl (Empty_c  H.yylt  ) ?_
  rintro v39 w21 ⟨hO, hR⟩
  replace H := (H.out hO).add hR
  refine WL.buildSliceF (l0 := [.int .u8 (0)]) H rfl TrydT.st33 (by decide) (zrow_one _ _) (Fl.cons rfl (by rfl) (by (simp only [kc_length, kw_length, List.length_replicate, List.length_append, List.length_cons, List.length_nil]; done)) Laid.head Fl.nil) rfl ?_
  intro b40 w22 H
  replace H := H.freeze (i := 0) rfl
  replace H := H.add ((H.rob 0 rfl).imp fun _ h => SlB.of_blk (l := [3]) h rfl)
  refine WL.call TrydT.fb38 rfl (Same_c (la := [3]) (lb := [3]) H.yylt (H.rob 2 rfl) (H.rob 0 rfl) (by simp)) ?_
  rintro _ w23 ⟨rfl, hO⟩
  replace H := H.out hO
  refine WL.pv (PV.pick_t rfl rfl rfl) rfl ?_
  refine WL.mv rfl rfl ?_
  refine WL.known (t := 43) (c := true) rfl (by decide) ?_
  refine WL.loadR rfl TrydT.ag38 rfl rfl (by exact Blk.segAt (H.l 2 rfl) (Seg.all _) (by rfl)) (by exact TrydT.sz38) ?_
  refine WL.loadR rfl TrydT.ag38 rfl rfl (by exact Blk.segAt (H.l 3 rfl) (Seg.all _) (by rfl)) (by exact TrydT.sz38) ?_
  refine WL.pv (PV.eqlV rfl TrydT.eg38 rfl rfl (EqV.struct (n := 3) TrydT.ef38 (EqF.cons (PartAt.agg TrydT.ag36 (by exact TrydT.sz36) (Seg.l (Seg.all _))) (PartAt.agg TrydT.ag36 (by exact TrydT.sz36) (Seg.l (Seg.all _))) (EqV.mono (EqV.bytes TrydT.ar36 TrydT.in5 TrydT.sz5 (by simp [*]) (by simp [*])) (by decide)) (EqF.cons (PartAt.agg TrydT.ag29 (by exact TrydT.sz29) (Seg.r (Seg.all _) (by (simp [kc_length, kw_length, *]; done)))) (PartAt.agg TrydT.ag29 (by exact TrydT.sz29) (Seg.r (Seg.all _) (by (simp [kc_length, kw_length, *]; done)))) (EqV.mono (EqV.bytes TrydT.ar29 TrydT.in5 TrydT.sz5 (by simp [*]) (by simp [*])) (by decide)) EqF.nil))) (by decide)) rfl ?_
  refine WL.pv (PV.pick_t rfl rfl rfl) rfl ?_
  refine WL.mv rfl rfl ?_
  refine WL.known (t := 48) (c := true) rfl (by simp) ?_
  refine WL.mv rfl rfl ?_
  refine WL.pv (PV.pick_t rfl rfl rfl) rfl ?_
  refine WL.mv rfl rfl ?_
  refine WL.known (t := 51) (c := true) rfl rfl ?_
  refine WL.loadR rfl TrydT.ag29 rfl rfl (by exact Blk.segAt (H.l 1 rfl) (Seg.all _) (by rfl)) (by exact TrydT.sz29) ?_
  refine WL.pv (PV.buildA rfl TrydT.ar29 TrydT.sz5 TrydT.ze29 (Fl.cons rfl rfl rfl (Laid.byteA (x := 1) 0 (by simp)) Fl.nil)) rfl ?_
  refine WL.pv (PV.eqlB rfl TrydT.ar29 TrydT.in5 TrydT.sz5 (by kernel_rfl) rfl rfl (by simp [*]) (by simp [*])) rfl ?_
  refine WL.pv (PV.pick_t rfl rfl rfl) rfl ?_
  refine WL.mv rfl rfl ?_
  refine WL.known (t := 56) (c := true) rfl (by simp) ?_
  refine WL.loadR rfl TrydT.ag29 rfl rfl (by exact Blk.segAt (H.l 0 rfl) (Seg.all _) (by rfl)) (by exact TrydT.sz29) ?_
  refine WL.pv (PV.buildA rfl TrydT.ar29 TrydT.sz5 TrydT.ze29 (Fl.cons rfl rfl rfl (Laid.byteA (x := 2) 0 (by simp)) Fl.nil)) rfl ?_
  refine WL.pv (PV.eqlB rfl TrydT.ar29 TrydT.in5 TrydT.sz5 (by kernel_rfl) rfl rfl (by simp [*]) (by simp [*])) rfl ?_
  refine WL.pv (PV.pick_t rfl rfl rfl) rfl ?_
  refine WL.mv rfl rfl ?_
  refine WL.known (t := 61) (c := true) rfl (by simp) ?_
  refine WL.mv rfl rfl ?_
  refine WL.pv (PV.pick_t rfl rfl rfl) rfl ?_
  refine WL.as rfl rfl ?_
  refine WL.nil ?_
  refine WE.ret ?_
  refine ⟨[_], _, .nil _, ⟨rfl, trivial⟩, ?_⟩
  refine ⟨?_, H.toOut0⟩
  rfl

end Go.Sp.Tryd
