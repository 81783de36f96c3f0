/- Walks of functions, printed by a program of this session (gen.py) from notes on each function. -/
import Derived.Test.YtdllpckpfkjkeaaDoorTe
import Derived.Test.YtdllpckpfkjkeaaDoorKn
import Derived.Test.YtdllpckpfkjkeaaDoorKj
set_option maxRecDepth 100000
set_option maxHeartbeats 1000000
set_option linter.unusedVariables false
set_option linter.unusedSimpArgs false
namespace Go.Sp.Tryd
open Go.Proofs Go.RowKit Go.Sp
theorem pjoin_c {X : Nat → Prop} {w : World} {bh bc : Nat} {bits c0 : Int} {n b : Tr} {k : List UInt8} {d : Nat} (hX : ∀ b, X b → b < w.heap.size) (ho0 : Blk w bc 127 ([.int .i64 c0])) (hf0 : Rob (fun c_ => X c_ ∨ c_ = bc) (HAt bh bc bits) w) (hf1 : Rob (fun c_ => X c_ ∨ c_ = bc) (TrA bits n) w) (hf2 : Rob (fun c_ => X c_ ∨ c_ = bc) (TrA bits b) w) (hf3 : Rob (fun c_ => X c_ ∨ c_ = bc) (Rounds) w) (hbits : 0 ≤ bits ∧ bits ≤ 256) (hk : k.length = 32) (hd : d < 256) (hcnt : n.er.cnt + b.er.cnt ≤ 1000000000) :
    Ret Tryd.prog 68 [.pointer (some ⟨bh, 0, none⟩), n.ptr, b.ptr, .agg (kc k).toArray, .int .i64 (d : Int)].toArray w fun v w' => ∃ (T : Tr) (m : Int), v = T.ptr ∧ T.er = jnS k d n.er b.er ∧ Out (· = bc) w w' ∧ Blk w' bc 127 [.int .i64 m] ∧ Rob (fun c => X c ∨ c = bc) (TrA bits T) w' := by
  refine Ret.of_body (N := 23) Tryd.func68 rfl rfl (by simp) ?_
  have H := St.begin1 (b := bc) (t := 127) (l := [.int .i64 c0]) hX ho0
  replace H := H.add (rob1 hf3)
  replace H := H.add (rob1 hf2)
  replace H := H.add (rob1 hf1)
  replace H := H.add (rob1 hf0)
  refine WE.seq_reg ?_
  refine WL.box (l := kc k) H rfl (by rfl) rfl ?_
  intro b8 w1 H
  refine WL.as rfl rfl ?_
  refine WL.nil ?_
  refine WE.seq ?_
  refine WE.seq_reg ?_
  refine WL.loadR rfl TrydT.ag24 rfl rfl (by exact Blk.segAt (H.l 0 rfl) (Seg.all _) (by rfl)) (by (rw [TrydT.sz24]; refine congrArg some ?_; (simp only [kc_length, kw_length, List.length_replicate, List.length_append, List.length_cons, List.length_nil, cutI_length, shaOf_length, dig_length, valD_length, rootM_length]; omega))) ?_
  refine WL.mv rfl rfl ?_
  refine WL.call TrydT.fb74 rfl (bitsBit_c (k := k) (d := d) H.yylt  (by assumption) (by assumption)) ?_
  rintro _ w2 ⟨rfl, hO⟩
  replace H := H.out hO
  refine WL.pv (PV.eql rfl rfl rfl) rfl ?_
  refine WL.nil ?_
  refine WE.cond rfl (fun hc14 => ?_) (fun hc14 => ?_)
  · skip
    try simp only [decide_eq_true_eq, decide_eq_false_iff_not, ne_eq, Decidable.not_not, Bool.not_eq_true', Bool.not_eq_false', Bool.and_eq_true, Bool.or_eq_true, Bool.not_not, Bool.and_eq_false_iff, Bool.or_eq_false_iff, Int.not_lt, Int.not_le] at hc14
    have hb0 : bitN k d = 0 := by omega
    refine WE.seq_reg ?_
    refine WL.mv rfl rfl ?_
    refine WL.mv rfl rfl ?_
    refine WL.mv rfl rfl ?_
    refine WL.call TrydT.fb80 rfl (Join_c (l := n) (r := b) (bits := bits) H.yylt (H.o 0 rfl) (by exact H.robOld 0 rfl 0 rfl) (by exact H.robOld 0 rfl 1 rfl) (by exact H.robOld 0 rfl 2 rfl) (by exact H.robOld 0 rfl 3 rfl) hbits (by omega)) ?_
    rintro _ w3 ⟨Tv18, mv18, rfl, hTv18, hO, hB, hR⟩
    replace H := H.calledOR 0 rfl hO hB hR
    refine WL.as rfl rfl ?_
    refine WL.nil ?_
    refine WE.ret ?_
    refine ⟨[_], _, .nil _, ⟨rfl, trivial⟩, ?_⟩
    exact ⟨Tv18, _, rfl, hTv18.trans (if_pos hb0).symm, H.toOut1, H.o 0 rfl, H.giveO (H.rob 0 rfl)⟩
  · skip
    try simp only [decide_eq_true_eq, decide_eq_false_iff_not, ne_eq, Decidable.not_not, Bool.not_eq_true', Bool.not_eq_false', Bool.and_eq_true, Bool.or_eq_true, Bool.not_not, Bool.and_eq_false_iff, Bool.or_eq_false_iff, Int.not_lt, Int.not_le] at hc14
    have hb0 : bitN k d ≠ 0 := by omega
    refine WE.skip ?_
    refine WE.seq_reg ?_
    refine WL.mv rfl rfl ?_
    refine WL.mv rfl rfl ?_
    refine WL.mv rfl rfl ?_
    refine WL.call TrydT.fb80 rfl (Join_c (l := b) (r := n) (bits := bits) H.yylt (H.o 0 rfl) (by exact H.robOld 0 rfl 0 rfl) (by exact H.robOld 0 rfl 2 rfl) (by exact H.robOld 0 rfl 1 rfl) (by exact H.robOld 0 rfl 3 rfl) hbits (by omega)) ?_
    rintro _ w4 ⟨Tv22, mv22, rfl, hTv22, hO, hB, hR⟩
    replace H := H.calledOR 0 rfl hO hB hR
    refine WL.as rfl rfl ?_
    refine WL.nil ?_
    refine WE.ret ?_
    refine ⟨[_], _, .nil _, ⟨rfl, trivial⟩, ?_⟩
    exact ⟨Tv22, _, rfl, hTv22.trans (if_neg hb0).symm, H.toOut1, H.o 0 rfl, H.giveO (H.rob 0 rfl)⟩

theorem Pair_c {X : Nat → Prop} {w : World} {bh bc aa ab : Nat} {bits c0 : Int} {q u k vv : List UInt8} {sa sb : Value} {d : Nat} (hX : ∀ b, X b → b < w.heap.size) (ho0 : Blk w bc 127 ([.int .i64 c0])) (hf0 : Rob (fun c_ => X c_ ∨ c_ = bc) (HAt bh bc bits) w) (hf1 : Rob (fun c_ => X c_ ∨ c_ = bc) (TrA bits (Tr.leaf aa q u sa)) w) (hf2 : Rob (fun c_ => X c_ ∨ c_ = bc) (TrA bits (Tr.leaf ab k vv sb)) w) (hf3 : Rob (fun c_ => X c_ ∨ c_ = bc) (Rounds) w) (hbits : 0 ≤ bits ∧ bits ≤ 256) (hq : q.length = 32) (hk : k.length = 32) (hdc : d ≤ comN q k) (hcom : comN q k < 256) :
    Ret Tryd.prog 24 [.pointer (some ⟨bh, 0, none⟩), (Tr.leaf aa q u sa).ptr, (Tr.leaf ab k vv sb).ptr, .int .i64 (d : Int)].toArray w fun v w' => ∃ (T : Tr) (m : Int), v = T.ptr ∧ T.er = (pairS q (.leaf q u) (.leaf k vv) (comN q k - d) d) ∧ Out (· = bc) w w' ∧ Blk w' bc 127 [.int .i64 m] ∧ Rob (fun c => X c ∨ c = bc) (TrA bits T) w' := by
  refine Ret.of_body (N := 40) Tryd.func24 rfl rfl (by simp) ?_
  have H := St.begin1 (b := bc) (t := 127) (l := [.int .i64 c0]) hX ho0
  replace H := H.add (rob1 hf3)
  replace H := H.add (rob1 hf2)
  replace H := H.add (rob1 hf1)
  replace H := H.add (rob1 hf0)
  have hvu := valD_length bits u
  have hvv := valD_length bits vv
  refine WE.seq_reg ?_
  refine WL.as rfl rfl ?_
  refine WL.nil ?_
  refine WE.seq_reg ?_
  refine WL.mv rfl rfl ?_
  refine WL.call TrydT.fb66 rfl (show Ret _ _ _ _ (fun v w' => v = .agg (kc q ++ kc (valD bits u)).toArray ∧ Out Nil _ w') from Leaf2_c (T := (Tr.leaf aa q u sa)) (bits := bits) H.yylt (H.rob 1 rfl)) ?_
  rintro _ w1 ⟨rfl, hO⟩
  replace H := H.out hO
  refine WL.pv (PV.fieldV rfl TrydT.fd104_0 rfl (PartAt.agg TrydT.ag24 (by (rw [TrydT.sz24]; refine congrArg some ?_; (simp only [kc_length, kw_length, List.length_replicate, List.length_append, List.length_cons, List.length_nil, cutI_length, shaOf_length, dig_length, valD_length, rootM_length]; omega))) (Seg.l (Seg.all _)))) rfl ?_
  refine WL.alloc H rfl TrydT.ze24 rfl ?_
  intro b9 w2 H
  refine WL.storeL H 0 rfl rfl rfl (new := kc q) rfl (by (rw [TrydT.sz24]; refine congrArg some ?_; (simp only [kc_length, kw_length, List.length_replicate, List.length_append, List.length_cons, List.length_nil, cutI_length, shaOf_length, dig_length, valD_length, rootM_length]; omega))) (by exact kc_one _) (Laid.at (Laid.all (by (simp only [kc_length, kw_length, List.length_replicate, List.length_append, List.length_cons, List.length_nil, cutI_length, shaOf_length, dig_length, valD_length, rootM_length]; omega))) (by rfl)) rfl ?_
  intro w3 H
  refine WL.nil ?_
  refine WE.seq_draw (.take 0 (.take 1 (.pick1 2 (.take 3 (.pick1 4 (.take 5 .done)))))) TrydT.mixed (by kernel_rfl) ?_
  replace H := H.out (Out.drew _)
  refine WP.readA rfl rfl rfl TrydT.ag24 rfl (by exact Blk.segAt (H.l 0 rfl) (Seg.all _) (by rfl)) (by (rw [TrydT.sz24]; refine congrArg some ?_; (simp only [kc_length, kw_length, List.length_replicate, List.length_append, List.length_cons, List.length_nil, cutI_length, shaOf_length, dig_length, valD_length, rootM_length]; omega))) ?_
  refine WP.mv rfl rfl rfl ?_
  refine WP.pick1 rfl ?_
  refine WL.call TrydT.fb66 rfl (show Ret _ _ _ _ (fun v_ w' => v_ = .agg (kc k ++ kc (valD bits vv)).toArray ∧ Out Nil _ w') from Leaf2_c (T := (Tr.leaf ab k vv sb)) (bits := bits) H.yylt (H.rob 2 rfl)) ?_
  rintro _ w4 ⟨rfl, hO⟩
  replace H := H.out hO
  refine WL.nil ⟨(List.forall_mem_cons.2 ⟨(fun _ _ => (by exact Blk.segAt (H.l 0 rfl) (Seg.all _) (by rfl))), (fun _ h => by cases h)⟩), ?_⟩
  refine WP.take_pure rfl rfl (PV.fieldV rfl TrydT.fd104_0 rfl (PartAt.agg TrydT.ag24 (by (rw [TrydT.sz24]; refine congrArg some ?_; (simp only [kc_length, kw_length, List.length_replicate, List.length_append, List.length_cons, List.length_nil, cutI_length, shaOf_length, dig_length, valD_length, rootM_length]; omega))) (Seg.l (Seg.all _)))) ?_
  refine WP.pick1 rfl ?_
  refine WL.call TrydT.fb67 rfl (Common_c (a := q) (b := k) H.yylt  (by assumption) (by assumption)) ?_
  rintro _ w5 ⟨rfl, hO⟩
  replace H := H.out hO
  refine WL.nil ⟨(List.forall_mem_cons.2 ⟨(by exact (fun h => absurd (show waits _ 4 0 = false from h) (by decide +kernel))), (fun _ h => by cases h)⟩), ?_⟩
  refine WP.as rfl rfl rfl ?_
  refine WP.done ?_
  refine WE.seq_reg ?_
  refine WL.mv rfl rfl ?_
  refine WL.mv rfl rfl ?_
  refine WL.mv rfl rfl ?_
  refine WL.loadR rfl TrydT.ag24 rfl rfl (by exact Blk.segAt (H.l 0 rfl) (Seg.all _) (by rfl)) (by (rw [TrydT.sz24]; refine congrArg some ?_; (simp only [kc_length, kw_length, List.length_replicate, List.length_append, List.length_cons, List.length_nil, cutI_length, shaOf_length, dig_length, valD_length, rootM_length]; omega))) ?_
  refine WL.mv rfl rfl ?_
  refine WL.call TrydT.fb68 rfl (pjoin_c (n := (Tr.leaf aa q u sa)) (b := (Tr.leaf ab k vv sb)) (k := q) (d := comN q k) (bits := bits) H.yylt (H.o 0 rfl) (by exact H.robOld 0 rfl 0 rfl) (by exact H.robOld 0 rfl 1 rfl) (by exact H.robOld 0 rfl 2 rfl) (by exact H.robOld 0 rfl 3 rfl) hbits hq hcom (by show 1 + 1 ≤ _; omega)) ?_
  rintro _ w6 ⟨Tv26, mv26, rfl, hTv26, hO, hB, hR⟩
  replace H := H.calledOR 0 rfl hO hB hR
  refine WL.as rfl rfl ?_
  refine WL.nil ?_
  refine WE.seq ?_
  refine WE.seq_reg ?_
  refine WL.mv rfl rfl ?_
  refine WL.pv (PV.eq (v' := .int .i64 (((comN q k - 0 : Nat) : Int) - 1)) (PV.sub64 rfl rfl rfl (by omega) (by omega)) rfl) rfl ?_
  refine WL.as rfl rfl ?_
  refine WL.nil ?_
  refine WE.block ?_
  refine WE.loop (α := Nat × Tr × Int) [11, 12, 29, 30, 31, 32, 33, 34, 35, 36, 37, 38] (fun g => [(11, g.2.1.ptr), (12, .int .i64 (((comN q k - g.1 : Nat) : Int) - 1))]) (fun g wl => g.1 ≤ comN q k - d ∧ g.2.1.er = (pairS q (.leaf q u) (.leaf k vv) g.1 (comN q k - g.1)) ∧ St X w wl [Ent.blk bc 127 [.int .i64 g.2.2]] [Ent.blk b9 24 (kc q)] [TrA bits g.2.1, HAt bh bc bits, TrA bits (Tr.leaf aa q u sa), TrA bits (Tr.leaf ab k vv sb), Rounds]) (fun g => comN q k - d - g.1) (0, Tv26, mv26) ⟨rfl, rfl, trivial⟩ ⟨Nat.zero_le _, hTv26, H⟩ ?_
  intro ⟨f, Tf, c⟩ γ0 w7 hI
  try dsimp only at hI
  obtain ⟨hf, hTf, H⟩ := hI
  refine WE.seq ?_
  refine WE.seq_reg ?_
  refine WL.mv rfl rfl ?_
  refine WL.mv rfl rfl ?_
  refine WL.pv (PV.geq rfl rfl rfl) rfl ?_
  refine WL.nil ?_
  refine WE.cond rfl (fun hc31 => ?_) (fun hc31 => ?_)
  · skip
    try simp only [decide_eq_true_eq, decide_eq_false_iff_not, ne_eq, Decidable.not_not, Bool.not_eq_true', Bool.not_eq_false', Bool.and_eq_true, Bool.or_eq_true, Bool.not_not, Bool.and_eq_false_iff, Bool.or_eq_false_iff, Int.not_lt, Int.not_le] at hc31
    have hlt : f < comN q k - d := by omega
    have he_ : ((comN q k - f : Nat) : Int) - 1 = ((comN q k - f - 1 : Nat) : Int) := by omega
    rw [he_]
    refine WE.skip ?_
    refine WE.seq ?_
    refine WE.block ?_
    refine WE.reg ?_
    refine WL.mv rfl rfl ?_
    refine WL.mv rfl rfl ?_
    refine WL.loadR rfl TrydT.ag24 rfl rfl (by exact Blk.segAt (H.l 0 rfl) (Seg.all _) (by rfl)) (by (rw [TrydT.sz24]; refine congrArg some ?_; (simp only [kc_length, kw_length, List.length_replicate, List.length_append, List.length_cons, List.length_nil, cutI_length, shaOf_length, dig_length, valD_length, rootM_length]; omega))) ?_
    refine WL.mv rfl rfl ?_
    refine WL.call TrydT.fb68 rfl (pjoin_c (n := Tf) (b := .nil) (k := q) (d := comN q k - f - 1) (bits := bits) H.yylt (H.o 0 rfl) (by exact H.robOld 0 rfl 1 rfl) (by exact H.robOld 0 rfl 0 rfl) (by exact fun _ _ => trivial) (by exact H.robOld 0 rfl 4 rfl) hbits hq (by omega) (by rw [hTf, pairS_cnt]; show 2 + 0 ≤ _; omega)) ?_
    rintro _ w8 ⟨Tv38, mv38, rfl, hTv38, hO, hB, hR⟩
    replace H := H.calledOR 0 rfl hO hB hR
    refine WL.as rfl rfl ?_
    refine WL.nil ?_
    refine WE.reg ?_
    refine WL.mv rfl rfl ?_
    refine WL.pv (PV.eq (v' := .int .i64 (((comN q k - (f + 1) : Nat) : Int) - 1)) (PV.sub64 rfl rfl rfl (by omega) (by omega)) (by congr 1)) rfl ?_
    refine WL.as rfl rfl ?_
    refine WL.nil ?_
    exact ⟨(f + 1, Tv38, mv38), (by repeat (first | with_reducible exact Off.refl _ _ | refine Off.upd rfl ?_ | refine Off.setAll rfl ?_ | refine Off.forget' rfl ?_)), ⟨rfl, rfl, trivial⟩, rfl, ⟨by dsimp only; omega, by dsimp only; rw [hTv38, hTf, show comN q k - f = comN q k - f - 1 + 1 by omega]; exact congrArg (fun z => pairS q _ _ (f + 1) z) (by omega), H.sel [0, 2, 3, 4, 5]⟩, (by dsimp only; omega)⟩
  · skip
    try simp only [decide_eq_true_eq, decide_eq_false_iff_not, ne_eq, Decidable.not_not, Bool.not_eq_true', Bool.not_eq_false', Bool.and_eq_true, Bool.or_eq_true, Bool.not_not, Bool.and_eq_false_iff, Bool.or_eq_false_iff, Int.not_lt, Int.not_le] at hc31
    have hf_ : f = comN q k - d := by omega
    refine WE.exit ?_
    refine WE.seq_reg ?_
    refine WL.mv rfl rfl ?_
    refine WL.as rfl rfl ?_
    refine WL.nil ?_
    refine WE.ret ?_
    refine ⟨[_], _, .nil _, ⟨rfl, trivial⟩, ?_⟩
    refine ⟨Tf, c, rfl, ?_, H.toOut1, H.o 0 rfl, H.giveO (H.rob 0 rfl)⟩
    rw [hTf, hf_]; exact congrArg (pairS q _ _ (comN q k - d)) (by omega)

end Go.Sp.Tryd
