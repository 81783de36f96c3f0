/- Walks of functions, printed by a program of this session (gen.py) from notes on each function. -/
import Derived.Test.YtcfkkhljekopgaaDoorKf
set_option maxRecDepth 100000
set_option maxHeartbeats 1000000
set_option linter.unusedVariables false
set_option linter.unusedSimpArgs false
namespace Go.Sp.Tryd
open Go.Proofs Go.RowKit Go.Sp

def undP (T : Tr) (k : List UInt8) (c : Nat) : Nat → Value
  | 0 => .pointer none
  | i + 1 => if (T.atN k 0 i).er.kind = 1 ∧ comN (T.atN k 0 i).key k < c then .pointer none else (T.atN k 0 i).ptr
theorem undP_nil {T : Tr} {k : List UInt8} {c i : Nat} (h1 : (T.atN k 0 i).er.kind = 1) (h2 : comN (T.atN k 0 i).key k < c) : undP T k c (i + 1) = .pointer none := if_pos ⟨h1, h2⟩
theorem undP_not {T : Tr} {k : List UInt8} {c i : Nat} (h : ¬ ((T.atN k 0 i).er.kind = 1 ∧ comN (T.atN k 0 i).key k < c)) : undP T k c (i + 1) = (T.atN k 0 i).ptr := if_neg h
theorem und_done {T : Tr} {k : List UInt8} {c : Nat} (h : T.dp k 0 + 1 ≤ c) : undP T k c (T.dp k 0 + 1) = (T.und k c).ptr := by
  show (if (T.fin k).er.kind = 1 ∧ comN (T.fin k).key k < c then _ else _) = _
  have h2 : T.und k c = if (T.fin k).er.kind = 1 ∧ comN (T.fin k).key k < c then .nil else T.fin k := if_neg (by omega)
  rw [h2]
  by_cases hh : (T.fin k).er.kind = 1 ∧ comN (T.fin k).key k < c
  · rw [if_pos hh, if_pos hh]; rfl
  · rw [if_neg hh, if_neg hh]; rfl
theorem und_at {T : Tr} {k : List UInt8} {c : Nat} (h : c ≤ T.dp k 0) : T.und k c = T.atN k 0 c := if_pos h
theorem und_A {T : Tr} {k : List UInt8} {c : Nat} {bits : Int} {w : World} (h : TrA bits T w) : TrA bits (T.und k c) w := by
  unfold Tr.und
  split
  · exact h.atN _
  · split
    · trivial
    · exact h.fin

theorem Under_c {X : Nat → Prop} {w : World} {bits c0 : Int} {c : Nat} {T : Tr} {k : List UInt8} (hX : ∀ b, X b → b < w.heap.size) (hf0 : Rob X (TrA bits T) w) (hk : k.length = 32) (hfit : T.er.fit 0) (hc : (c : Int) = min (max c0 0) 256) :
    Ret Tryd.prog 57 [T.ptr, .agg (kc k).toArray, .int .i64 c0].toArray w fun v w' => v = (T.und k c).ptr ∧ Out Nil w w' := by
  refine Ret.of_body (N := 37) Tryd.func57 rfl rfl (by simp) ?_
  have H := St.begin hX
  replace H := H.add (rob0 hf0)
  have hdp := Tr.dp_fit (k := k) _ 0 T rfl hfit (by omega)
  refine WE.seq_reg ?_
  refine WL.box (l := kc k) H rfl (by rfl) rfl ?_
  intro b4 w1 H
  refine WL.box (l := [.int .i64 c0]) H rfl (rfl) rfl ?_
  intro b5 w2 H
  refine WL.as rfl rfl ?_
  refine WL.nil ?_
  refine WE.scope ?_
  refine WE.seq_reg ?_
  refine WL.load1 rfl TrydT.ag3 rfl rfl (by exact Blk.segAt (H.l 0 rfl) (Seg.all _) (by rfl)) ?_
  refine WL.pv (PV.maxI rfl rfl) rfl ?_
  refine WL.pv (PV.eq (v' := .int .i64 (c : Int)) (PV.minI rfl rfl) (by rw [hc])) rfl ?_
  refine WL.storeL H 0 rfl rfl rfl (new := _) rfl (by exact TrydT.sz3) (one_lit _ rfl) (Laid.at (Laid.all (by (simp only [kc_length, kw_length, List.length_replicate, List.length_append, List.length_cons, List.length_nil, cutI_length, shaOf_length, dig_length, valD_length, rootM_length]; done))) (by rfl)) rfl ?_
  intro w3 H
  refine WL.nil ?_
  refine WE.seq_reg ?_
  refine WL.alloc H rfl TrydT.ze47 rfl ?_
  intro b7 w4 H
  refine WL.nil ?_
  refine WE.seq ?_
  refine WE.label ?_
  refine WE.seq ?_
  refine WE.seq_reg ?_
  refine WL.mv rfl rfl ?_
  refine WL.loadR rfl TrydT.ag36 rfl rfl (by exact Blk.segAt (H.l 2 rfl) (Seg.all _) (by rfl)) (by (rw [TrydT.sz36]; refine congrArg some ?_; (simp only [kc_length, kw_length, List.length_replicate, List.length_append, List.length_cons, List.length_nil, cutI_length, shaOf_length, dig_length, valD_length, rootM_length]; omega))) ?_
  refine WL.call TrydT.fb78 rfl (way_c (T := T) (k := k) H.yylt  (by assumption)) ?_
  rintro _ w5 ⟨bwv15, bkv15, rfl, hO, hge, hBwv15, hR⟩
  replace H := H.pushR hO (Ent.set (· = bwv15)) (fun c hc => by cases hc; exact hBwv15.lt) (fun c hc => by cases hc; exact hge) hR
  refine WL.nil ?_
  refine WE.block ?_
  refine WE.rangeF (α := Unit) (fun i _ => i ≤ c) (fun i _ => []) (fun i _ => [Ent.blk b7 47 [undP T k c i], Ent.blk b5 3 [.int .i64 (c : Int)], Ent.blk b4 36 (kc k)]) (fun i _ => [fun w => RdA w ⟨bkv15, 0, none⟩ (kc k), TrA bits T]) (fun e_ _ => match e_ with | .exit 0 => c ≤ T.dp k 0 | _ => False) (fun e_ _ => match e_ with | .exit 0 => [] | _ => []) (fun e_ _ => match e_ with | .exit 0 => [Ent.blk b7 47 [(T.atN k 0 c).ptr], Ent.blk b5 3 [.int .i64 (c : Int)], Ent.blk b4 36 (kc k)] | _ => []) (fun e_ _ => match e_ with | .exit 0 => [fun w => RdA w ⟨bkv15, 0, none⟩ (kc k), TrA bits T] | _ => []) () H rfl TrydT.fb93 (fun W0 hO => way1_seq (T := T) (k := k) (bits := bits) (H.ccLt hO) (hBwv15.of_eq (hO.block _ hBwv15.lt id)) (H.ccNot rfl) (H.ccRob hO 0 rfl) (H.ccRob hO 1 rfl) hk hfit) (by intro _ _ _ h; rw [h]; rfl) ⟨Nat.zero_le _, rfl, rfl, rfl⟩ ?_ ?_ ?_
  · skip
    intro i _ xs_ l_ d_ o_ T_ sc_ w6 hi_ hR_ hV_
    obtain rfl := hV_
    have hAk : (T.atN k 0 i).key.length = 32 := TrA.key_length ((hf0.here).atN i)
    have hAv := Tr.vd_length bits (T.atN k 0 i)
    refine WE.seq_reg ?_
    refine WL.as rfl rfl ?_
    refine WL.nil ?_
    refine WE.reg ?_
    refine WL.as rfl rfl ?_
    refine WL.nil ?_
    refine ⟨rfl, rfl, rfl, ?_⟩
    intro w7 H
    refine WE.block ?_
    refine WE.seq_reg ?_
    refine WL.mv rfl rfl ?_
    refine WL.storeL H 0 rfl rfl rfl (new := _) rfl (by exact TrydT.sz47) (one_lit _ rfl) (Laid.at (Laid.all (by (simp only [kc_length, kw_length, List.length_replicate, List.length_append, List.length_cons, List.length_nil, cutI_length, shaOf_length, dig_length, valD_length, rootM_length]; done))) (by rfl)) rfl ?_
    intro w8 H
    refine WL.nil ?_
    refine WE.block ?_
    refine WE.seq_reg ?_
    refine WL.mv rfl rfl ?_
    refine WL.load1 rfl TrydT.ag3 rfl rfl (by exact Blk.segAt (H.l 1 rfl) (Seg.all _) (by rfl)) ?_
    refine WL.pv (PV.eql rfl rfl rfl) rfl ?_
    refine WL.as rfl rfl ?_
    refine WL.nil ?_
    refine WE.cond rfl (fun hc19 => ?_) (fun hc19 => ?_)
    · skip
      try simp only [decide_eq_true_eq, decide_eq_false_iff_not, ne_eq, Decidable.not_not, Bool.not_eq_true', Bool.not_eq_false', Bool.and_eq_true, Bool.or_eq_true, Bool.not_not, Bool.and_eq_false_iff, Bool.or_eq_false_iff, Int.not_lt, Int.not_le] at hc19
      have hic : i = c := by omega
      subst hic
      refine WE.exit ?_
      replace H := H.drop (fun p hp => List.mem_cons_of_mem _ hp)
      exact ⟨(), (Nat.le_of_lt_succ hi_), H⟩
    · skip
      try simp only [decide_eq_true_eq, decide_eq_false_iff_not, ne_eq, Decidable.not_not, Bool.not_eq_true', Bool.not_eq_false', Bool.and_eq_true, Bool.or_eq_true, Bool.not_not, Bool.and_eq_false_iff, Bool.or_eq_false_iff, Int.not_lt, Int.not_le] at hc19
      have hic : i < c := by omega
      refine WE.seq_draw (.take 0 (.pick1 1 (.take 2 (.take 3 (.take 4 (.take 7 (.take 9 (.pick1 5 (.take 6 (.pick1 8 (.take 10 (.take 11 (.take 12 .done))))))))))))) TrydT.mixed (by kernel_rfl) ?_
      replace H := H.out (Out.drew _)
      refine WP.mv rfl rfl rfl ?_
      refine WP.pick1 rfl ?_
      refine WL.call TrydT.fb40 rfl (NKind_c (T := T.atN k 0 i) (bits := bits) H.yylt (by exact (H.rob 2 rfl).imp fun _ h => h.atN i)) ?_
      rintro _ w9 ⟨rfl, hO⟩
      replace H := H.out hO
      refine WL.nil ⟨(fun _ h => by cases h), ?_⟩
      refine WP.take_pure rfl rfl (PV.eql rfl rfl rfl) ?_
      refine WP.mv rfl rfl rfl ?_
      refine WP.split (t := 27) rfl (fun hg27 => ?_) (fun hg27 => ?_)
      · skip
        refine WP.known (t := 26) (c := true) rfl hg27 ?_
        try simp only [decide_eq_true_eq, decide_eq_false_iff_not, ne_eq, Decidable.not_not, Bool.not_eq_true', Bool.not_eq_false', Bool.and_eq_true, Bool.or_eq_true, Bool.not_not, Bool.and_eq_false_iff, Bool.or_eq_false_iff, Int.not_lt, Int.not_le] at hg27
        have hkd : (T.atN k 0 i).er.kind = 1 := by exact hg27
        refine WP.mv rfl rfl rfl ?_
        refine WP.readA rfl rfl rfl TrydT.ag36 rfl (by exact Blk.segAt (H.l 2 rfl) (Seg.all _) (by rfl)) (by (rw [TrydT.sz36]; refine congrArg some ?_; (simp only [kc_length, kw_length, List.length_replicate, List.length_append, List.length_cons, List.length_nil, cutI_length, shaOf_length, dig_length, valD_length, rootM_length]; omega))) ?_
        refine WP.take_read rfl rfl (RV.loadOne rfl TrydT.ag3 rfl) (by exact Blk.segAt (H.l 1 rfl) (Seg.all _) (by rfl)) ?_
        refine WP.pick1 rfl ?_
        refine WL.call TrydT.fb39 rfl (Leaf2_c (T := T.atN k 0 i) (bits := bits) H.yylt (by exact (H.rob 2 rfl).imp fun _ h => h.atN i)) ?_
        rintro _ w10 ⟨rfl, hO⟩
        replace H := H.out hO
        refine WL.nil ⟨(List.forall_mem_cons.2 ⟨(fun _ _ => (by exact Blk.segAt (H.l 1 rfl) (Seg.all _) (by rfl))), (List.forall_mem_cons.2 ⟨(fun _ _ => (by exact Blk.segAt (H.l 2 rfl) (Seg.all _) (by rfl))), (fun _ h => by cases h)⟩)⟩), ?_⟩
        refine WP.take_pure rfl rfl (PV.fieldV rfl TrydT.fd38_0 rfl (PartAt.agg TrydT.ag36 (by (rw [TrydT.sz36]; refine congrArg some ?_; (simp only [kc_length, kw_length, List.length_replicate, List.length_append, List.length_cons, List.length_nil, cutI_length, shaOf_length, dig_length, valD_length, rootM_length]; omega))) (Seg.l (Seg.all _)))) ?_
        refine WP.pick1 rfl ?_
        refine WL.call TrydT.fb81 rfl (Common_c (a := (T.atN k 0 i).key) (b := k) H.yylt  (by assumption) (by assumption)) ?_
        rintro _ w11 ⟨rfl, hO⟩
        replace H := H.out hO
        refine WL.nil ⟨(List.forall_mem_cons.2 ⟨(fun _ _ => (by exact Blk.segAt (H.l 1 rfl) (Seg.all _) (by rfl))), (List.forall_mem_cons.2 ⟨(by exact (fun h => absurd (show waits _ 8 7 = false from h) (by decide +kernel))), (fun _ h => by cases h)⟩)⟩), ?_⟩
        refine WP.take_pure rfl rfl (PV.lss rfl rfl rfl) ?_
        refine WP.take_pure rfl rfl (PV.pick_t rfl rfl rfl) ?_
        refine WP.as rfl rfl rfl ?_
        refine WP.done ?_
        refine WE.cond rfl (fun hc23 => ?_) (fun hc23 => ?_)
        · skip
          try simp only [decide_eq_true_eq, decide_eq_false_iff_not, ne_eq, Decidable.not_not, Bool.not_eq_true', Bool.not_eq_false', Bool.and_eq_true, Bool.or_eq_true, Bool.not_not, Bool.and_eq_false_iff, Bool.or_eq_false_iff, Int.not_lt, Int.not_le] at hc23
          have hcm : comN (T.atN k 0 i).key k < c := by omega
          refine WE.reg ?_
          refine WL.storeL H 0 rfl rfl rfl (new := _) rfl (by exact TrydT.sz47) (one_lit _ rfl) (Laid.at (Laid.all (by (simp only [kc_length, kw_length, List.length_replicate, List.length_append, List.length_cons, List.length_nil, cutI_length, shaOf_length, dig_length, valD_length, rootM_length]; done))) (by rfl)) rfl ?_
          intro w12 H
          refine WL.nil ?_
          replace H := H.conv (L' := [Ent.blk b7 47 [undP T k c (i + 1)], Ent.blk b5 3 [.int .i64 (c : Int)], Ent.blk b4 36 (kc k), Ent.obj l_ o_, Ent.obj d_ (.deferred (some [])), Ent.sn T_ w7]) (by rw [undP_nil hkd hcm]; rfl)
          replace H := H.drop (fun p hp => List.mem_cons_of_mem _ hp)
          exact ⟨(), hic, H⟩
        · skip
          try simp only [decide_eq_true_eq, decide_eq_false_iff_not, ne_eq, Decidable.not_not, Bool.not_eq_true', Bool.not_eq_false', Bool.and_eq_true, Bool.or_eq_true, Bool.not_not, Bool.and_eq_false_iff, Bool.or_eq_false_iff, Int.not_lt, Int.not_le] at hc23
          have hcm : ¬ comN (T.atN k 0 i).key k < c := by omega
          refine WE.skip ?_
          replace H := H.conv (L' := [Ent.blk b7 47 [undP T k c (i + 1)], Ent.blk b5 3 [.int .i64 (c : Int)], Ent.blk b4 36 (kc k), Ent.obj l_ o_, Ent.obj d_ (.deferred (some [])), Ent.sn T_ w7]) (by rw [undP_not (fun h => hcm h.2)]; rfl)
          replace H := H.drop (fun p hp => List.mem_cons_of_mem _ hp)
          exact ⟨(), hic, H⟩
      · skip
        refine WP.known (t := 26) (c := false) rfl hg27 ?_
        try simp only [decide_eq_true_eq, decide_eq_false_iff_not, ne_eq, Decidable.not_not, Bool.not_eq_true', Bool.not_eq_false', Bool.and_eq_true, Bool.or_eq_true, Bool.not_not, Bool.and_eq_false_iff, Bool.or_eq_false_iff, Int.not_lt, Int.not_le] at hg27
        have hkd : (T.atN k 0 i).er.kind ≠ 1 := by exact hg27
        refine WP.take_off rfl rfl ?_
        refine WP.take_off rfl rfl ?_
        refine WP.take_off rfl rfl ?_
        refine WP.pick1 rfl ?_
        refine WL.off rfl ?_
        refine WL.nil ⟨(fun _ h => by cases h), ?_⟩
        refine WP.take_off rfl rfl ?_
        refine WP.pick1 rfl ?_
        refine WL.off rfl ?_
        refine WL.nil ⟨(fun _ h => by cases h), ?_⟩
        refine WP.take_off rfl rfl ?_
        refine WP.take_pure rfl rfl (PV.pick_f rfl rfl rfl) ?_
        refine WP.as rfl rfl rfl ?_
        refine WP.done ?_
        refine WE.cond_f rfl ?_
        refine WE.skip ?_
        replace H := H.conv (L' := [Ent.blk b7 47 [undP T k c (i + 1)], Ent.blk b5 3 [.int .i64 (c : Int)], Ent.blk b4 36 (kc k), Ent.obj l_ o_, Ent.obj d_ (.deferred (some [])), Ent.sn T_ w7]) (by rw [undP_not (fun h => hkd h.1)]; rfl)
        replace H := H.drop (fun p hp => List.mem_cons_of_mem _ hp)
        exact ⟨(), hic, H⟩
  · skip
    intro _ d_0 w13 hR_ H
    refine WE.seq_reg ?_
    refine WL.load1 rfl TrydT.ag47 rfl rfl (by exact Blk.segAt (H.l 1 rfl) (Seg.all _) (by rfl)) ?_
    refine WL.as rfl rfl ?_
    refine WL.nil ?_
    refine WE.ret ?_
    (obtain ⟨w14, hl_0, H⟩ := H.unmark 0 rfl)
    refine ⟨[_], _, (hl_0 _ (.nil _)), ⟨rfl, trivial⟩, ?_⟩
    refine ⟨?_, H.toOut0⟩
    exact und_done hR_
  · skip
    intro e_ _ d_0 w15 he_ hR_ H
    rcases he_ with rfl | ⟨id_, rfl⟩
    · skip
      exact hR_.elim
    · skip
      by_cases hid_ : id_ = 0
      · subst hid_
        refine WE.seq_reg ?_
        refine WL.load1 rfl TrydT.ag47 rfl rfl (by exact Blk.segAt (H.l 1 rfl) (Seg.all _) (by rfl)) ?_
        refine WL.as rfl rfl ?_
        refine WL.nil ?_
        refine WE.ret ?_
        (obtain ⟨w16, hl_0, H⟩ := H.unmark 0 rfl)
        refine ⟨[_], _, (hl_0 _ (.nil _)), ⟨rfl, trivial⟩, ?_⟩
        refine ⟨?_, H.toOut0⟩
        (rw [und_at hR_]; rfl)
      · exfalso; revert hR_; simp [hid_]

end Go.Sp.Tryd
