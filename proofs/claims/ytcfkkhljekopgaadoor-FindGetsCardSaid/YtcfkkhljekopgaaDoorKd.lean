/- Walks of functions, printed by a program of this session (gen.py) from notes on each function. -/
import Derived.Test.YtcfkkhljekopgaaDoorKc
set_option maxRecDepth 100000
set_option maxHeartbeats 1000000
set_option linter.unusedVariables false
set_option linter.unusedSimpArgs false
namespace Go.Sp.Tryd
open Go.Proofs Go.RowKit Go.Sp

def sibL (T : Tr) (k : List UInt8) (n : Nat) : List Value := (List.range n).map fun j => ((T.atN k 0 j).beside k j).ptr
def wayL (T : Tr) (k : List UInt8) (n : Nat) : List Value := (List.range n).map fun j => (T.atN k 0 j).ptr
theorem sibL_len (T : Tr) (k : List UInt8) (n : Nat) : (sibL T k n).length = n := by simp [sibL]
theorem wayL_len (T : Tr) (k : List UInt8) (n : Nat) : (wayL T k n).length = n := by simp [wayL]
theorem sibL_snoc (T : Tr) (k : List UInt8) (n : Nat) : sibL T k (n + 1) = sibL T k n ++ [((T.atN k 0 n).beside k n).ptr] := by simp [sibL, List.range_succ]
theorem wayL_snoc (T : Tr) (k : List UInt8) (n : Nat) : wayL T k (n + 1) = wayL T k n ++ [(T.atN k 0 n).ptr] := by simp [wayL, List.range_succ]
theorem sibL_get (T : Tr) (k : List UInt8) (n i : Nat) (h : i < (sibL T k n).length) : (sibL T k n)[i] = ((T.atN k 0 i).beside k i).ptr := by simp [sibL]
theorem wayL_get (T : Tr) (k : List UInt8) (n i : Nat) (h : i < (wayL T k n).length) : (wayL T k n)[i] = (T.atN k 0 i).ptr := by simp [wayL]
theorem own_one {w : World} {base : Nat} {e : TypeId} {sz n : Nat} {v : Value} {xs : List Value} (h : w.ownsRow base e sz v n xs) : v.oneCell' = true := by
  obtain ⟨_, ⟨rfl, _⟩ | ⟨g, cap, cur, rfl, _⟩⟩ := h <;> rfl

theorem Way_c {X : Nat → Prop} {w : World} {bits : Int} {T : Tr} {k : List UInt8} (hX : ∀ b, X b → b < w.heap.size) (hf0 : Rob X (TrA bits T) w) (hk : k.length = 32) (hfit : T.er.fit 0) :
    Ret Tryd.prog 53 [T.ptr, .agg (kc k).toArray].toArray w fun v w' => Out Nil w w' ∧ Rob X (SlV v (wayL T k (T.dp k 0 + 1))) w' := by
  refine Ret.of_body (N := 18) Tryd.func53 rfl rfl (by simp) ?_
  have H := St.begin hX
  replace H := H.add (rob0 hf0)
  have hdp := Tr.dp_fit (k := k) _ 0 T rfl hfit (by omega)
  refine WE.seq_reg ?_
  refine WL.box (l := kc k) H rfl (by rfl) rfl ?_
  intro b3 w1 H
  refine WL.as rfl rfl ?_
  refine WL.nil ?_
  refine WE.seq_reg ?_
  refine WL.alloc H rfl TrydT.ze73 rfl ?_
  intro b5 w2 H
  replace H := H.nilOsl 47 1
  refine WL.nil ?_
  refine WE.seq ?_
  refine WE.seq_reg ?_
  refine WL.mv rfl rfl ?_
  refine WL.loadR rfl TrydT.ag36 rfl rfl (by exact Blk.segAt (H.l 2 rfl) (Seg.all _) (by rfl)) (by (rw [TrydT.sz36]; refine congrArg some ?_; (simp only [kc_length, kw_length, List.length_replicate, List.length_append, List.length_cons, List.length_nil, cutI_length, shaOf_length, dig_length, valD_length, rootM_length]; omega))) ?_
  refine WL.call TrydT.fb78 rfl (way_c (T := T) (k := k) H.yylt  (by assumption)) ?_
  rintro _ w3 ⟨bwv10, bkv10, rfl, hO, hge, hBwv10, hR⟩
  replace H := H.pushR hO (Ent.set (· = bwv10)) (fun c hc => by cases hc; exact hBwv10.lt) (fun c hc => by cases hc; exact hge) hR
  refine WL.nil ?_
  refine WE.block ?_
  refine WE.rangeF (α := Value) (fun i q => True) (fun i q => []) (fun i q => [Ent.osl w.heap.size q 47 1 i (wayL T k i), Ent.blk b5 73 [q], Ent.blk b3 36 (kc k)]) (fun i q => [fun w => RdA w ⟨bkv10, 0, none⟩ (kc k), TrA bits T]) (fun _ _ => False) (fun _ _ => []) (fun _ _ => []) (fun _ _ => []) (.slice none 0 0) H rfl TrydT.fb93 (fun W0 hO => way1_seq (T := T) (k := k) (bits := bits) (H.ccLt hO) (hBwv10.of_eq (hO.block _ hBwv10.lt id)) (H.ccNot rfl) (H.ccRob hO 0 rfl) (H.ccRob hO 1 rfl) hk hfit) (by intro _ _ _ h; rw [h]; rfl) ⟨trivial, rfl, rfl, rfl⟩ ?_ ?_ ?_
  · skip
    intro i q xs_ l_ d_ o_ T_ sc_ w4 hi_ hR_ hV_
    obtain rfl := hV_
    refine WE.reg ?_
    refine WL.as rfl rfl ?_
    refine WL.nil ?_
    refine ⟨rfl, rfl, rfl, ?_⟩
    intro w5 H
    refine WE.block ?_
    refine WE.reg ?_
    refine WL.load1 rfl TrydT.ag73 rfl rfl (by exact Blk.segAt (H.l 1 rfl) (Seg.all _) (by rfl)) ?_
    refine WL.mv rfl rfl ?_
    refine WL.buildSliceF (l0 := [.pointer none]) H rfl TrydT.st73 (by decide) (zrow_one _ _) (Fl.cons rfl (by rfl) (by (simp only [kc_length, kw_length, List.length_replicate, List.length_append, List.length_cons, List.length_nil, cutI_length, shaOf_length, dig_length, valD_length, rootM_length]; done)) Laid.head Fl.nil) rfl ?_
    intro b15 w6 H
    refine WL.append (m := 1) H 1 TrydT.st73 (by decide) rfl rfl rfl (SlC.of_blk (n := 1) (H.l 0 rfl) rfl) (one_lit _ rfl) (by omega) (by decide) rfl ?_
    intro v16 w7 H
    replace H := H.forget 0
    refine WL.storeL H 1 rfl rfl rfl (new := [v16]) (cells_one (own_one (H.l 0 rfl))) (by exact TrydT.sz73) (one_sing (by exact own_one (H.l 0 rfl))) (Laid.at (Laid.all (by (simp only [kc_length, kw_length, List.length_replicate, List.length_append, List.length_cons, List.length_nil, cutI_length, shaOf_length, dig_length, valD_length, rootM_length]; done))) (by rfl)) rfl ?_
    intro w8 H
    refine WL.nil ?_
    replace H := H.conv (L' := [Ent.osl w.heap.size v16 47 1 (i + 1) (wayL T k (i + 1)), Ent.blk b5 73 [v16], Ent.blk b3 36 (kc k), Ent.obj l_ o_, Ent.obj d_ (.deferred (some [])), Ent.sn T_ w5]) (by rw [wayL_snoc]; rfl)
    replace H := H.drop (fun p hp => List.mem_cons_of_mem _ hp)
    exact ⟨v16, trivial, H⟩
  · skip
    intro q d_0 w9 hR_ H
    refine WE.seq_reg ?_
    refine WL.load1 rfl TrydT.ag73 rfl rfl (by exact Blk.segAt (H.l 2 rfl) (Seg.all _) (by rfl)) ?_
    refine WL.as rfl rfl ?_
    refine WL.nil ?_
    refine WE.ret ?_
    (obtain ⟨w10, hl_0, H⟩ := H.unmark 0 rfl)
    refine ⟨[_], _, (hl_0 _ (.nil _)), ⟨rfl, trivial⟩, ?_⟩
    replace H := H.freeze (i := 0) rfl
    exact ⟨H.toOut0, H.give ((H.rob 0 rfl).imp fun _ h => by show SlC _ q 1 (wayL T k (T.dp k 0 + 1)).length _; rw [wayL_len]; exact SlC.of_own h)⟩
  · skip
    intro e_ q d_0 w11 he_ hR_ H
    exact hR_.elim

theorem Siblings_c {X : Nat → Prop} {w : World} {bits : Int} {T : Tr} {k : List UInt8} (hX : ∀ b, X b → b < w.heap.size) (hf0 : Rob X (TrA bits T) w) (hk : k.length = 32) (hfit : T.er.fit 0) :
    Ret Tryd.prog 51 [T.ptr, .agg (kc k).toArray].toArray w fun v w' => Out Nil w w' ∧ Rob X (SlV v (sibL T k (T.dp k 0))) w' := by
  refine Ret.of_body (N := 26) Tryd.func51 rfl rfl (by simp) ?_
  have H := St.begin hX
  replace H := H.add (rob0 hf0)
  have hdp := Tr.dp_fit (k := k) _ 0 T rfl hfit (by omega)
  refine WE.seq_reg ?_
  refine WL.box (l := kc k) H rfl (by rfl) rfl ?_
  intro b3 w1 H
  refine WL.as rfl rfl ?_
  refine WL.nil ?_
  refine WE.seq_reg ?_
  refine WL.alloc H rfl TrydT.ze73 rfl ?_
  intro b5 w2 H
  replace H := H.nilOsl 47 1
  refine WL.nil ?_
  refine WE.seq ?_
  refine WE.seq_reg ?_
  refine WL.mv rfl rfl ?_
  refine WL.loadR rfl TrydT.ag36 rfl rfl (by exact Blk.segAt (H.l 2 rfl) (Seg.all _) (by rfl)) (by (rw [TrydT.sz36]; refine congrArg some ?_; (simp only [kc_length, kw_length, List.length_replicate, List.length_append, List.length_cons, List.length_nil, cutI_length, shaOf_length, dig_length, valD_length, rootM_length]; omega))) ?_
  refine WL.call TrydT.fb78 rfl (way_c (T := T) (k := k) H.yylt  (by assumption)) ?_
  rintro _ w3 ⟨bwv10, bkv10, rfl, hO, hge, hBwv10, hR⟩
  replace H := H.pushR hO (Ent.set (· = bwv10)) (fun c hc => by cases hc; exact hBwv10.lt) (fun c hc => by cases hc; exact hge) hR
  refine WL.nil ?_
  refine WE.block ?_
  refine WE.rangeF (α := Value) (fun i q => True) (fun i q => []) (fun i q => [Ent.osl w.heap.size q 47 1 (min i (T.dp k 0)) (sibL T k (min i (T.dp k 0))), Ent.blk b5 73 [q], Ent.blk b3 36 (kc k)]) (fun i q => [fun w => RdA w ⟨bkv10, 0, none⟩ (kc k), TrA bits T]) (fun _ _ => False) (fun _ _ => []) (fun _ _ => []) (fun _ _ => []) (.slice none 0 0) H rfl TrydT.fb93 (fun W0 hO => way1_seq (T := T) (k := k) (bits := bits) (H.ccLt hO) (hBwv10.of_eq (hO.block _ hBwv10.lt id)) (H.ccNot rfl) (H.ccRob hO 0 rfl) (H.ccRob hO 1 rfl) hk hfit) (by intro _ _ _ h; rw [h]; rfl) ⟨trivial, rfl, by rw [Nat.zero_min]; rfl, rfl⟩ ?_ ?_ ?_
  · skip
    intro i q xs_ l_ d_ o_ T_ sc_ w4 hi_ hR_ hV_
    obtain rfl := hV_
    refine WE.seq_reg ?_
    refine WL.as rfl rfl ?_
    refine WL.nil ?_
    refine WE.reg ?_
    refine WL.as rfl rfl ?_
    refine WL.nil ?_
    refine ⟨rfl, rfl, rfl, ?_⟩
    intro w5 H
    refine WE.block ?_
    refine WE.seq_reg ?_
    refine WL.mv rfl rfl ?_
    refine WL.call TrydT.fb40 rfl (NKind_c (T := T.atN k 0 i) (bits := bits) H.yylt (by exact (H.rob 2 rfl).imp fun _ h => h.atN i)) ?_
    rintro _ w6 ⟨rfl, hO⟩
    replace H := H.out hO
    refine WL.pv (PV.eql rfl rfl rfl) rfl ?_
    refine WL.nil ?_
    refine WE.cond rfl (fun hc15 => ?_) (fun hc15 => ?_)
    · skip
      try simp only [decide_eq_true_eq, decide_eq_false_iff_not, ne_eq, Decidable.not_not, Bool.not_eq_true', Bool.not_eq_false', Bool.and_eq_true, Bool.or_eq_true, Bool.not_not, Bool.and_eq_false_iff, Bool.or_eq_false_iff, Int.not_lt, Int.not_le] at hc15
      have hlt : i < T.dp k 0 := by rcases Nat.lt_or_ge i (T.dp k 0) with h | h; exact h; exact absurd (show (T.atN k 0 i).er.kind = 2 by exact hc15) (by rw [show i = T.dp k 0 by omega]; exact Tr.atN_out _ 0 T rfl)
      have hb2 := bitN_lt k i
      have hmi : min i (T.dp k 0) = i := by omega
      rw [hmi] at H
      refine WE.draw (.take 0 (.take 1 (.take 2 (.take 3 (.pick1 4 (.take 5 (.pick1 6 (.pick1 7 (.pick1 8 (.pick1 9 .done)))))))))) TrydT.mixed (by kernel_rfl) ?_
      replace H := H.out (Out.drew _)
      refine WP.take_read rfl rfl (RV.loadOne rfl TrydT.ag73 rfl) (by exact Blk.segAt (H.l 1 rfl) (Seg.all _) (by rfl)) ?_
      refine WP.mv rfl rfl rfl ?_
      refine WP.readA rfl rfl rfl TrydT.ag36 rfl (by exact Blk.segAt (H.l 2 rfl) (Seg.all _) (by rfl)) (by (rw [TrydT.sz36]; refine congrArg some ?_; (simp only [kc_length, kw_length, List.length_replicate, List.length_append, List.length_cons, List.length_nil, cutI_length, shaOf_length, dig_length, valD_length, rootM_length]; omega))) ?_
      refine WP.mv rfl rfl rfl ?_
      refine WP.pick1 rfl ?_
      refine WL.call TrydT.fb79 rfl (bitsBit_c (k := k) (d := i) H.yylt  (by assumption) (by omega)) ?_
      rintro _ w7 ⟨rfl, hO⟩
      replace H := H.out hO
      refine WL.nil ⟨(List.forall_mem_cons.2 ⟨(by exact (fun h => absurd (show waits _ 4 2 = false from h) (by decide +kernel))), (List.forall_mem_cons.2 ⟨(fun _ _ => (by exact Blk.segAt (H.l 1 rfl) (Seg.all _) (by rfl))), (fun _ h => by cases h)⟩)⟩), ?_⟩
      refine WP.take_pure rfl rfl (PV.eq (v' := .int .i64 ((1 - bitN k i : Nat) : Int)) (PV.sub64 rfl rfl rfl (by omega) (by omega)) (by congr 1; omega)) ?_
      refine WP.pick1 rfl ?_
      refine WL.call TrydT.fb55 rfl (Child_c (T := T.atN k 0 i) (bits := bits) (b := 1 - bitN k i) H.yylt (by exact (H.rob 2 rfl).imp fun _ h => h.atN i)) ?_
      rintro _ w8 ⟨rfl, hO⟩
      replace H := H.out hO
      refine WL.nil ⟨(List.forall_mem_cons.2 ⟨(by exact (fun h => absurd (show waits _ 6 2 = false from h) (by decide +kernel))), (List.forall_mem_cons.2 ⟨(fun _ _ => (by exact Blk.segAt (H.l 1 rfl) (Seg.all _) (by rfl))), (fun _ h => by cases h)⟩)⟩), ?_⟩
      refine WP.pick1 rfl ?_
      refine WL.buildSliceF (l0 := [.pointer none]) H rfl TrydT.st73 (by decide) (zrow_one _ _) (Fl.cons rfl (by rfl) (by (simp only [kc_length, kw_length, List.length_replicate, List.length_append, List.length_cons, List.length_nil, cutI_length, shaOf_length, dig_length, valD_length, rootM_length]; done)) Laid.head Fl.nil) rfl ?_
      intro b23 w9 H
      refine WL.nil ⟨(List.forall_mem_cons.2 ⟨(by exact (fun h => absurd (show waits _ 7 2 = false from h) (by decide +kernel))), (List.forall_mem_cons.2 ⟨(fun _ _ => (by exact Blk.segAt (H.l 2 rfl) (Seg.all _) (by rfl))), (fun _ h => by cases h)⟩)⟩), ?_⟩
      refine WP.pick1 rfl ?_
      refine WL.append (m := 1) H 1 TrydT.st73 (by decide) rfl rfl rfl (SlC.of_blk (n := 1) (H.l 0 rfl) rfl) (one_lit _ rfl) (by omega) (by decide) rfl ?_
      intro v24 w10 H
      replace H := H.forget 0
      refine WL.nil ⟨(List.forall_mem_cons.2 ⟨(by exact (fun h => absurd (show waits _ 8 2 = false from h) (by decide +kernel))), (List.forall_mem_cons.2 ⟨(by exact (fun h => absurd (show waits _ 8 0 = false from h) (by decide +kernel))), (fun _ h => by cases h)⟩)⟩), ?_⟩
      refine WP.pick1 rfl ?_
      refine WL.storeL H 1 rfl rfl rfl (new := [v24]) (cells_one (own_one (H.l 0 rfl))) (by exact TrydT.sz73) (one_sing (own_one (H.l 0 rfl))) (Laid.at (Laid.all (by (simp only [kc_length, kw_length, List.length_replicate, List.length_append, List.length_cons, List.length_nil, cutI_length, shaOf_length, dig_length, valD_length, rootM_length]; done))) (by rfl)) rfl ?_
      intro w11 H
      refine WL.nil ⟨(List.forall_mem_cons.2 ⟨(by exact (fun h => absurd (show waits _ 9 2 = false from h) (by decide +kernel))), (List.forall_mem_cons.2 ⟨(by exact (fun h => absurd (show waits _ 9 0 = false from h) (by decide +kernel))), (fun _ h => by cases h)⟩)⟩), ?_⟩
      refine WP.done ?_
      replace H := H.conv (L' := [Ent.osl w.heap.size v24 47 1 (min (i + 1) (T.dp k 0)) (sibL T k (min (i + 1) (T.dp k 0))), Ent.blk b5 73 [v24], Ent.blk b3 36 (kc k), Ent.obj l_ o_, Ent.obj d_ (.deferred (some [])), Ent.sn T_ w5]) (by rw [show min (i + 1) (T.dp k 0) = i + 1 by omega, sibL_snoc]; rfl)
      replace H := H.drop (fun p hp => List.mem_cons_of_mem _ hp)
      exact ⟨_, trivial, H⟩
    · skip
      try simp only [decide_eq_true_eq, decide_eq_false_iff_not, ne_eq, Decidable.not_not, Bool.not_eq_true', Bool.not_eq_false', Bool.and_eq_true, Bool.or_eq_true, Bool.not_not, Bool.and_eq_false_iff, Bool.or_eq_false_iff, Int.not_lt, Int.not_le] at hc15
      have hge_ : T.dp k 0 ≤ i := by rcases Nat.lt_or_ge i (T.dp k 0) with h | h; exact absurd (Tr.atN_in (k := k) i 0 T h) (by exact hc15); exact h
      refine WE.skip ?_
      replace H := H.conv (L' := [Ent.osl w.heap.size q 47 1 (min (i + 1) (T.dp k 0)) (sibL T k (min (i + 1) (T.dp k 0))), Ent.blk b5 73 [q], Ent.blk b3 36 (kc k), Ent.obj l_ o_, Ent.obj d_ (.deferred (some [])), Ent.sn T_ w5]) (by rw [show min (i + 1) (T.dp k 0) = min i (T.dp k 0) by omega]; rfl)
      replace H := H.drop (fun p hp => List.mem_cons_of_mem _ hp)
      exact ⟨_, trivial, H⟩
  · skip
    intro q d_0 w12 hR_ H
    refine WE.seq_reg ?_
    refine WL.load1 rfl TrydT.ag73 rfl rfl (by exact Blk.segAt (H.l 2 rfl) (Seg.all _) (by rfl)) ?_
    refine WL.as rfl rfl ?_
    refine WL.nil ?_
    refine WE.ret ?_
    (obtain ⟨w13, hl_0, H⟩ := H.unmark 0 rfl)
    refine ⟨[_], _, (hl_0 _ (.nil _)), ⟨rfl, trivial⟩, ?_⟩
    have hmd : min (T.dp k 0 + 1) (T.dp k 0) = T.dp k 0 := by omega
    rw [hmd] at H
    replace H := H.freeze (i := 0) rfl
    exact ⟨H.toOut0, H.give ((H.rob 0 rfl).imp fun _ h => by show SlC _ q 1 (sibL T k (T.dp k 0)).length _; rw [sibL_len]; exact SlC.of_own h)⟩
  · skip
    intro e_ q d_0 w14 he_ hR_ H
    exact hR_.elim

end Go.Sp.Tryd
