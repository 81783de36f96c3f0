/- Walks of functions, printed by a program of this session (gen.py) from notes on each function. -/
import Derived.Test.YtcclagdjpoimaaaGreatDoorGC
import Derived.Test.YtcclagdjpoimaaaGreatDoorG9
import Derived.Test.YtcclagdjpoimaaaGreatDoorGF
import Derived.Test.YtcclagdjpoimaaaGreatDoorDfr
set_option maxRecDepth 100000
set_option maxHeartbeats 1000000
set_option linter.unusedVariables false
set_option linter.unusedSimpArgs false
namespace Go.Sp.Tryz
open Go.Proofs Go.RowKit Go.Sp
theorem pjoin_c {X : Nat → Prop} {w : World} {bh bc : Nat} {bits c0 : Int} {n b : Tr} {k : List UInt8} {d : Nat} (hX : ∀ b, X b → b < w.heap.size) (ho0 : Blk w bc 108 ([.int .i64 c0])) (hf0 : Rob (fun c_ => X c_ ∨ c_ = bc) (HAt bh bc bits) w) (hf1 : Rob (fun c_ => X c_ ∨ c_ = bc) (TrA bits n) w) (hf2 : Rob (fun c_ => X c_ ∨ c_ = bc) (TrA bits b) w) (hf3 : Rob (fun c_ => X c_ ∨ c_ = bc) (Rounds) w) (hbits : 0 ≤ bits ∧ bits ≤ 256) (hk : k.length = 32) (hd : d < 256) (hcnt : n.er.cnt + b.er.cnt ≤ 1000000000) :
    Ret Tryz.prog 90 [.pointer (some ⟨bh, 0, none⟩), n.ptr, b.ptr, .agg (kc k).toArray, .int .i64 (d : Int)].toArray w fun v w' => ∃ (T : Tr) (m : Int), v = T.ptr ∧ T.er = jnS k d n.er b.er ∧ Out (· = bc) w w' ∧ Blk w' bc 108 [.int .i64 m] ∧ Rob (fun c => X c ∨ c = bc) (TrA bits T) w' := by
  refine Ret.of_body (N := 23) Tryz.func90 rfl rfl (by simp) ?_
  have H := St.begin1 (b := bc) (t := 108) (l := [.int .i64 c0]) hX ho0
  replace H := H.add (rob1 hf3)
  replace H := H.add (rob1 hf2)
  replace H := H.add (rob1 hf1)
  replace H := H.add (rob1 hf0)
  refine WE.seq_reg ?_
  refine WL.box (l := kc k) H rfl (by rfl) rfl ?_
  intro b8 w1 H
  refine WL.as rfl rfl ?_
  refine WL.nil ?_
  refine WE.seq ?_
  refine WE.seq_reg ?_
  refine WL.loadR rfl TryzT.ag31 rfl rfl (by exact Blk.segAt (H.l 0 rfl) (Seg.all _) (by rfl)) (by (rw [TryzT.sz31]; refine congrArg some ?_; (simp only [kc_length, kw_length, List.length_replicate, List.length_append, List.length_cons, List.length_nil, cutI_length, shaOf_length, dig_length, valD_length, rootM_length]; omega))) ?_
  refine WL.mv rfl rfl ?_
  refine WL.call TryzT.fb87 rfl (bitsBit_c (k := k) (d := d) H.yylt  (by assumption) (by assumption)) ?_
  rintro _ w2 ⟨rfl, hO⟩
  replace H := H.out hO
  refine WL.pv (PV.eql rfl rfl rfl) rfl ?_
  refine WL.nil ?_
  refine WE.cond rfl (fun hc14 => ?_) (fun hc14 => ?_)
  · skip
    try simp only [decide_eq_true_eq, decide_eq_false_iff_not, ne_eq, Decidable.not_not, Bool.not_eq_true', Bool.not_eq_false', Bool.and_eq_true, Bool.or_eq_true, Bool.not_not, Bool.and_eq_false_iff, Bool.or_eq_false_iff, Int.not_lt, Int.not_le] at hc14
    have hb0 : bitN k d = 0 := by omega
    refine WE.seq_reg ?_
    refine WL.mv rfl rfl ?_
    refine WL.mv rfl rfl ?_
    refine WL.mv rfl rfl ?_
    refine WL.call TryzT.fb59 rfl (Join_c (l := n) (r := b) (bits := bits) H.yylt (H.o 0 rfl) (by exact H.robOld 0 rfl 0 rfl) (by exact H.robOld 0 rfl 1 rfl) (by exact H.robOld 0 rfl 2 rfl) (by exact H.robOld 0 rfl 3 rfl) hbits (by omega)) ?_
    rintro _ w3 ⟨Tv18, mv18, rfl, hTv18, hO, hB, hR⟩
    replace H := H.calledOR 0 rfl hO hB hR
    refine WL.as rfl rfl ?_
    refine WL.nil ?_
    refine WE.ret ?_
    refine ⟨[_], _, .nil _, ⟨rfl, trivial⟩, ?_⟩
    exact ⟨Tv18, _, rfl, hTv18.trans (if_pos hb0).symm, H.toOut1, H.o 0 rfl, H.giveO (H.rob 0 rfl)⟩
  · skip
    try simp only [decide_eq_true_eq, decide_eq_false_iff_not, ne_eq, Decidable.not_not, Bool.not_eq_true', Bool.not_eq_false', Bool.and_eq_true, Bool.or_eq_true, Bool.not_not, Bool.and_eq_false_iff, Bool.or_eq_false_iff, Int.not_lt, Int.not_le] at hc14
    have hb0 : bitN k d ≠ 0 := by omega
    refine WE.skip ?_
    refine WE.seq_reg ?_
    refine WL.mv rfl rfl ?_
    refine WL.mv rfl rfl ?_
    refine WL.mv rfl rfl ?_
    refine WL.call TryzT.fb59 rfl (Join_c (l := b) (r := n) (bits := bits) H.yylt (H.o 0 rfl) (by exact H.robOld 0 rfl 0 rfl) (by exact H.robOld 0 rfl 2 rfl) (by exact H.robOld 0 rfl 1 rfl) (by exact H.robOld 0 rfl 3 rfl) hbits (by omega)) ?_
    rintro _ w4 ⟨Tv22, mv22, rfl, hTv22, hO, hB, hR⟩
    replace H := H.calledOR 0 rfl hO hB hR
    refine WL.as rfl rfl ?_
    refine WL.nil ?_
    refine WE.ret ?_
    refine ⟨[_], _, .nil _, ⟨rfl, trivial⟩, ?_⟩
    exact ⟨Tv22, _, rfl, hTv22.trans (if_neg hb0).symm, H.toOut1, H.o 0 rfl, H.giveO (H.rob 0 rfl)⟩

theorem Pair_c {X : Nat → Prop} {w : World} {bh bc aa ab : Nat} {bits c0 : Int} {q u k vv : List UInt8} {sa sb : Value} {d : Nat} (hX : ∀ b, X b → b < w.heap.size) (ho0 : Blk w bc 108 ([.int .i64 c0])) (hf0 : Rob (fun c_ => X c_ ∨ c_ = bc) (HAt bh bc bits) w) (hf1 : Rob (fun c_ => X c_ ∨ c_ = bc) (TrA bits (Tr.leaf aa q u sa)) w) (hf2 : Rob (fun c_ => X c_ ∨ c_ = bc) (TrA bits (Tr.leaf ab k vv sb)) w) (hf3 : Rob (fun c_ => X c_ ∨ c_ = bc) (Rounds) w) (hbits : 0 ≤ bits ∧ bits ≤ 256) (hq : q.length = 32) (hk : k.length = 32) (hdc : d ≤ comN q k) (hcom : comN q k < 256) :
    Ret Tryz.prog 91 [.pointer (some ⟨bh, 0, none⟩), (Tr.leaf aa q u sa).ptr, (Tr.leaf ab k vv sb).ptr, .int .i64 (d : Int)].toArray w fun v w' => ∃ (T : Tr) (m : Int), v = T.ptr ∧ T.er = (pairS q (.leaf q u) (.leaf k vv) (comN q k - d) d) ∧ Out (· = bc) w w' ∧ Blk w' bc 108 [.int .i64 m] ∧ Rob (fun c => X c ∨ c = bc) (TrA bits T) w' := by
  refine Ret.of_body (N := 40) Tryz.func91 rfl rfl (by simp) ?_
  have H := St.begin1 (b := bc) (t := 108) (l := [.int .i64 c0]) hX ho0
  replace H := H.add (rob1 hf3)
  replace H := H.add (rob1 hf2)
  replace H := H.add (rob1 hf1)
  replace H := H.add (rob1 hf0)
  have hvu := valD_length bits u
  have hvv := valD_length bits vv
  refine WE.seq_reg ?_
  refine WL.as rfl rfl ?_
  refine WL.nil ?_
  refine WE.seq_reg ?_
  refine WL.mv rfl rfl ?_
  refine WL.call TryzT.fb62 rfl (show Ret _ _ _ _ (fun v w' => v = .agg (kc q ++ kc (valD bits u)).toArray ∧ Out Nil _ w') from Leaf2_c (T := (Tr.leaf aa q u sa)) (bits := bits) H.yylt (H.rob 1 rfl)) ?_
  rintro _ w1 ⟨rfl, hO⟩
  replace H := H.out hO
  refine WL.pv (PV.fieldV rfl TryzT.fd93_0 rfl (PartAt.agg TryzT.ag31 (by (rw [TryzT.sz31]; refine congrArg some ?_; (simp only [kc_length, kw_length, List.length_replicate, List.length_append, List.length_cons, List.length_nil, cutI_length, shaOf_length, dig_length, valD_length, rootM_length]; omega))) (Seg.l (Seg.all _)))) rfl ?_
  refine WL.alloc H rfl TryzT.ze31 rfl ?_
  intro b9 w2 H
  refine WL.storeL H 0 rfl rfl rfl (new := kc q) rfl (by (rw [TryzT.sz31]; refine congrArg some ?_; (simp only [kc_length, kw_length, List.length_replicate, List.length_append, List.length_cons, List.length_nil, cutI_length, shaOf_length, dig_length, valD_length, rootM_length]; omega))) (by exact kc_one _) (Laid.at (Laid.all (by (simp only [kc_length, kw_length, List.length_replicate, List.length_append, List.length_cons, List.length_nil, cutI_length, shaOf_length, dig_length, valD_length, rootM_length]; omega))) (by rfl)) rfl ?_
  intro w3 H
  refine WL.nil ?_
  refine WE.seq_draw (.take 0 (.take 1 (.pick1 2 (.take 3 (.pick1 4 (.take 5 .done)))))) TryzT.mixed (by kernel_rfl) ?_
  replace H := H.out (Out.drew _)
  refine WP.readA rfl rfl rfl TryzT.ag31 rfl (by exact Blk.segAt (H.l 0 rfl) (Seg.all _) (by rfl)) (by (rw [TryzT.sz31]; refine congrArg some ?_; (simp only [kc_length, kw_length, List.length_replicate, List.length_append, List.length_cons, List.length_nil, cutI_length, shaOf_length, dig_length, valD_length, rootM_length]; omega))) ?_
  refine WP.mv rfl rfl rfl ?_
  refine WP.pick1 rfl ?_
  refine WL.call TryzT.fb62 rfl (show Ret _ _ _ _ (fun v_ w' => v_ = .agg (kc k ++ kc (valD bits vv)).toArray ∧ Out Nil _ w') from Leaf2_c (T := (Tr.leaf ab k vv sb)) (bits := bits) H.yylt (H.rob 2 rfl)) ?_
  rintro _ w4 ⟨rfl, hO⟩
  replace H := H.out hO
  refine WL.nil ⟨(List.forall_mem_cons.2 ⟨(fun _ _ => (by exact Blk.segAt (H.l 0 rfl) (Seg.all _) (by rfl))), (fun _ h => by cases h)⟩), ?_⟩
  refine WP.take_pure rfl rfl (PV.fieldV rfl TryzT.fd93_0 rfl (PartAt.agg TryzT.ag31 (by (rw [TryzT.sz31]; refine congrArg some ?_; (simp only [kc_length, kw_length, List.length_replicate, List.length_append, List.length_cons, List.length_nil, cutI_length, shaOf_length, dig_length, valD_length, rootM_length]; omega))) (Seg.l (Seg.all _)))) ?_
  refine WP.pick1 rfl ?_
  refine WL.call TryzT.fb117 rfl (Common_c (a := q) (b := k) H.yylt  (by assumption) (by assumption)) ?_
  rintro _ w5 ⟨rfl, hO⟩
  replace H := H.out hO
  refine WL.nil ⟨(List.forall_mem_cons.2 ⟨(by exact (fun h => absurd (show waits _ 4 0 = false from h) (by decide +kernel))), (fun _ h => by cases h)⟩), ?_⟩
  refine WP.as rfl rfl rfl ?_
  refine WP.done ?_
  refine WE.seq_reg ?_
  refine WL.mv rfl rfl ?_
  refine WL.mv rfl rfl ?_
  refine WL.mv rfl rfl ?_
  refine WL.loadR rfl TryzT.ag31 rfl rfl (by exact Blk.segAt (H.l 0 rfl) (Seg.all _) (by rfl)) (by (rw [TryzT.sz31]; refine congrArg some ?_; (simp only [kc_length, kw_length, List.length_replicate, List.length_append, List.length_cons, List.length_nil, cutI_length, shaOf_length, dig_length, valD_length, rootM_length]; omega))) ?_
  refine WL.mv rfl rfl ?_
  refine WL.call TryzT.fb90 rfl (pjoin_c (n := (Tr.leaf aa q u sa)) (b := (Tr.leaf ab k vv sb)) (k := q) (d := comN q k) (bits := bits) H.yylt (H.o 0 rfl) (by exact H.robOld 0 rfl 0 rfl) (by exact H.robOld 0 rfl 1 rfl) (by exact H.robOld 0 rfl 2 rfl) (by exact H.robOld 0 rfl 3 rfl) hbits hq hcom (by show 1 + 1 ≤ _; omega)) ?_
  rintro _ w6 ⟨Tv26, mv26, rfl, hTv26, hO, hB, hR⟩
  replace H := H.calledOR 0 rfl hO hB hR
  refine WL.as rfl rfl ?_
  refine WL.nil ?_
  refine WE.seq ?_
  refine WE.seq_reg ?_
  refine WL.mv rfl rfl ?_
  refine WL.pv (PV.eq (v' := .int .i64 (((comN q k - 0 : Nat) : Int) - 1)) (PV.sub64 rfl rfl rfl (by omega) (by omega)) rfl) rfl ?_
  refine WL.as rfl rfl ?_
  refine WL.nil ?_
  refine WE.block ?_
  refine WE.loop (α := Nat × Tr × Int) [11, 12, 29, 30, 31, 32, 33, 34, 35, 36, 37, 38] (fun g => [(11, g.2.1.ptr), (12, .int .i64 (((comN q k - g.1 : Nat) : Int) - 1))]) (fun g wl => g.1 ≤ comN q k - d ∧ g.2.1.er = (pairS q (.leaf q u) (.leaf k vv) g.1 (comN q k - g.1)) ∧ St X w wl [Ent.blk bc 108 [.int .i64 g.2.2]] [Ent.blk b9 31 (kc q)] [TrA bits g.2.1, HAt bh bc bits, TrA bits (Tr.leaf aa q u sa), TrA bits (Tr.leaf ab k vv sb), Rounds]) (fun g => comN q k - d - g.1) (0, Tv26, mv26) ⟨rfl, rfl, trivial⟩ ⟨Nat.zero_le _, hTv26, H⟩ ?_
  intro ⟨f, Tf, c⟩ γ0 w7 hI
  try dsimp only at hI
  obtain ⟨hf, hTf, H⟩ := hI
  refine WE.seq ?_
  refine WE.seq_reg ?_
  refine WL.mv rfl rfl ?_
  refine WL.mv rfl rfl ?_
  refine WL.pv (PV.geq rfl rfl rfl) rfl ?_
  refine WL.nil ?_
  refine WE.cond rfl (fun hc31 => ?_) (fun hc31 => ?_)
  · skip
    try simp only [decide_eq_true_eq, decide_eq_false_iff_not, ne_eq, Decidable.not_not, Bool.not_eq_true', Bool.not_eq_false', Bool.and_eq_true, Bool.or_eq_true, Bool.not_not, Bool.and_eq_false_iff, Bool.or_eq_false_iff, Int.not_lt, Int.not_le] at hc31
    have hlt : f < comN q k - d := by omega
    have he_ : ((comN q k - f : Nat) : Int) - 1 = ((comN q k - f - 1 : Nat) : Int) := by omega
    rw [he_]
    refine WE.skip ?_
    refine WE.seq ?_
    refine WE.block ?_
    refine WE.reg ?_
    refine WL.mv rfl rfl ?_
    refine WL.mv rfl rfl ?_
    refine WL.loadR rfl TryzT.ag31 rfl rfl (by exact Blk.segAt (H.l 0 rfl) (Seg.all _) (by rfl)) (by (rw [TryzT.sz31]; refine congrArg some ?_; (simp only [kc_length, kw_length, List.length_replicate, List.length_append, List.length_cons, List.length_nil, cutI_length, shaOf_length, dig_length, valD_length, rootM_length]; omega))) ?_
    refine WL.mv rfl rfl ?_
    refine WL.call TryzT.fb90 rfl (pjoin_c (n := Tf) (b := .nil) (k := q) (d := comN q k - f - 1) (bits := bits) H.yylt (H.o 0 rfl) (by exact H.robOld 0 rfl 1 rfl) (by exact H.robOld 0 rfl 0 rfl) (by exact fun _ _ => trivial) (by exact H.robOld 0 rfl 4 rfl) hbits hq (by omega) (by rw [hTf, pairS_cnt]; show 2 + 0 ≤ _; omega)) ?_
    rintro _ w8 ⟨Tv38, mv38, rfl, hTv38, hO, hB, hR⟩
    replace H := H.calledOR 0 rfl hO hB hR
    refine WL.as rfl rfl ?_
    refine WL.nil ?_
    refine WE.reg ?_
    refine WL.mv rfl rfl ?_
    refine WL.pv (PV.eq (v' := .int .i64 (((comN q k - (f + 1) : Nat) : Int) - 1)) (PV.sub64 rfl rfl rfl (by omega) (by omega)) (by congr 1)) rfl ?_
    refine WL.as rfl rfl ?_
    refine WL.nil ?_
    exact ⟨(f + 1, Tv38, mv38), (by repeat (first | with_reducible exact Off.refl _ _ | refine Off.upd rfl ?_ | refine Off.setAll rfl ?_ | refine Off.forget' rfl ?_)), ⟨rfl, rfl, trivial⟩, rfl, ⟨by dsimp only; omega, by dsimp only; rw [hTv38, hTf, show comN q k - f = comN q k - f - 1 + 1 by omega]; exact congrArg (fun z => pairS q _ _ (f + 1) z) (by omega), H.sel [0, 2, 3, 4, 5]⟩, (by dsimp only; omega)⟩
  · skip
    try simp only [decide_eq_true_eq, decide_eq_false_iff_not, ne_eq, Decidable.not_not, Bool.not_eq_true', Bool.not_eq_false', Bool.and_eq_true, Bool.or_eq_true, Bool.not_not, Bool.and_eq_false_iff, Bool.or_eq_false_iff, Int.not_lt, Int.not_le] at hc31
    have hf_ : f = comN q k - d := by omega
    refine WE.exit ?_
    refine WE.seq_reg ?_
    refine WL.mv rfl rfl ?_
    refine WL.as rfl rfl ?_
    refine WL.nil ?_
    refine WE.ret ?_
    refine ⟨[_], _, .nil _, ⟨rfl, trivial⟩, ?_⟩
    refine ⟨Tf, c, rfl, ?_, H.toOut1, H.o 0 rfl, H.giveO (H.rob 0 rfl)⟩
    rw [hTf, hf_]; exact congrArg (pairS q _ _ (comN q k - d)) (by omega)

end Go.Sp.Tryz

set_option maxRecDepth 100000
set_option maxHeartbeats 1000000
set_option linter.unusedVariables false
set_option linter.unusedSimpArgs false
namespace Go.Sp.Tryz
open Go.Proofs Go.RowKit Go.Sp

def backV (bs : List Tr) (j : Nat) (xs : List Value) (_ : World) : Prop := ∃ h : bs.length - 1 - j < bs.length, xs = [.int .i64 ((bs.length - 1 - j : Nat) : Int), (bs[bs.length - 1 - j]).ptr]
def AllA (bits : Int) (bs : List Tr) (w : World) : Prop := ∀ b ∈ bs, TrA bits b w
theorem slv_own {w : World} {base n : Nat} {e : TypeId} {v : Value} {xs : List Value} (h : w.ownsRow base e 1 v n xs) : SlV v xs w := by
  have hl := h.1
  unfold SlV
  have := SlC.of_own h
  rw [show n = xs.length by omega] at this
  exact this
theorem besA {bits : Int} {T : Tr} {k : List UInt8} {d n : Nat} {w : World} (h : TrA bits T w) : AllA bits (besL T k d n) w := fun b hb => by
  obtain ⟨j, _, rfl⟩ := List.mem_map.1 hb
  exact (h.atN j).beside
theorem SlV.get {w : World} {s : Value} {bs : List Tr} (h : SlV s (bs.map Tr.ptr) w) (i : Nat) (hi : i < bs.length) : RdA w (sAddr s (i * 1)) [(bs[i]).ptr] := by
  have := SlV.rd h i (by simpa using hi)
  rwa [List.getElem_map] at this

theorem Backward_c {X : Nat → Prop} {w : World} {s : Value} {cs : List Value} (hX : ∀ b, X b → b < w.heap.size) (hf0 : Rob X (SlV s cs) w) :
    Ret Tryz.prog 89 [s].toArray w fun r w' => ∃ b1, r = .func (.func 116) [].toArray [.pointer (some ⟨b1, 0, none⟩)].toArray ∧ Out Nil w w' ∧ Rob X (fun w => RdA w ⟨b1, 0, none⟩ [s]) w' := by
  refine Ret.of_body (N := 4) Tryz.func89 rfl rfl (by simp) ?_
  have H := St.begin hX
  replace H := H.add (rob0 hf0)
  refine WE.seq_reg ?_
  refine WL.box (l := [s]) H rfl (SlC.cells (H.p 0 rfl)) rfl ?_
  intro b1 w1 H
  refine WL.as rfl rfl ?_
  refine WL.nil ?_
  refine WE.seq_reg ?_
  refine WL.pv (PV.makeFunc rfl) rfl ?_
  refine WL.as rfl rfl ?_
  refine WL.nil ?_
  refine WE.ret ?_
  refine ⟨[_], _, .nil _, ⟨rfl, trivial⟩, ?_⟩
  replace H := H.freeze (i := 0) rfl
  exact ⟨_, rfl, H.toOut0, H.give ((H.rob 0 rfl).imp fun _ h => h.rd)⟩

theorem back1_seq {C : Nat → Prop} {w : World} {b1 : Nat} {s : Value} {bs : List Tr} (hC : ∀ b, C b → b < w.heap.size) (hf0 : Rob C (fun w => RdA w ⟨b1, 0, none⟩ [s]) w) (hf1 : Rob C (SlV s (bs.map Tr.ptr)) w) (hlen : bs.length ≤ 1000000) : SeqV Tryz.prog 116 [] [.pointer (some ⟨b1, 0, none⟩)] (bs.length) (backV bs) Nil C w := by
  intro f J Jx hst hsta hstx hround hf
  show Ret Tryz.prog 116 ([f, .pointer (some ⟨b1, 0, none⟩)] : List Value).toArray w _
  refine Ret.of_body (N := 19) Tryz.func116 rfl rfl (by simp) ?_
  have H := St.begin (X := C) hC
  replace H := H.add (rob0 hf1)
  replace H := H.add (rob0 hf0)
  have hml : (bs.map Tr.ptr).length = bs.length := List.length_map ..
  refine WE.seq_reg ?_
  refine WL.load1 rfl TryzT.ag134 rfl rfl (H.p 0 rfl) ?_
  refine WL.pv (PV.lenS (H.p 1 rfl : SlV s (bs.map Tr.ptr) _) TryzT.sl134 rfl) rfl ?_
  refine WL.pv (PV.eq (v' := .int .i64 (((bs.length - 0 : Nat) : Int) - 1)) (PV.sub64 rfl rfl rfl (by omega) (by omega)) (by rw [hml]; rfl)) rfl ?_
  refine WL.as rfl rfl ?_
  refine WL.nil ?_
  refine WE.block ?_
  refine WE.loop (α := Nat) [3, 7, 8, 9, 10, 11, 12, 13, 14, 15, 16, 17, 18] (fun j => [(3, .int .i64 (((bs.length - j : Nat) : Int) - 1))]) (fun j wl => j ≤ bs.length ∧ J Nil j wl ∧ St C wl wl [] [] [fun w => RdA w ⟨b1, 0, none⟩ [s], SlV s (bs.map Tr.ptr)]) (fun j => bs.length - j) 0 ⟨rfl, trivial⟩ ⟨Nat.zero_le _, hst Nil w (Out.refl _ _) (fun _ h => h.elim) (fun _ h => h), H⟩ ?_
  intro j γ0 w1 hI
  try dsimp only at hI
  obtain ⟨hj, hJ, H⟩ := hI
  have hwl : ∃ wl1, wl1 = w1 := ⟨_, rfl⟩
  obtain ⟨wl1, hwl⟩ := hwl
  rw [← hwl] at hJ H ⊢
  clear hwl
  refine WE.seq ?_
  refine WE.seq_reg ?_
  refine WL.mv rfl rfl ?_
  refine WL.pv (PV.geq rfl rfl rfl) rfl ?_
  refine WL.nil ?_
  refine WE.cond rfl (fun hc8 => ?_) (fun hc8 => ?_)
  · skip
    try simp only [decide_eq_true_eq, decide_eq_false_iff_not, ne_eq, Decidable.not_not, Bool.not_eq_true', Bool.not_eq_false', Bool.and_eq_true, Bool.or_eq_true, Bool.not_not, Bool.and_eq_false_iff, Bool.or_eq_false_iff, Int.not_lt, Int.not_le] at hc8
    have hlt : j < bs.length := by omega
    have he_ : ((bs.length - j : Nat) : Int) - 1 = ((bs.length - 1 - j : Nat) : Int) := by omega
    rw [he_]
    refine WE.skip ?_
    refine WE.seq ?_
    refine WE.block ?_
    refine WE.seq_reg ?_
    refine WL.mv rfl rfl ?_
    refine WL.mv rfl rfl ?_
    refine WL.load1 rfl TryzT.ag134 rfl rfl (H.p 0 rfl) ?_
    refine WL.mv rfl rfl ?_
    refine WL.pv (PV.idxS rfl (H.p 1 rfl : SlV s (bs.map Tr.ptr) _) TryzT.sl134 TryzT.sz23 rfl rfl (by omega) (by omega)) rfl ?_
    refine WL.load1 rfl TryzT.ag23 rfl rfl (SlV.get (H.p 1 rfl) (bs.length - 1 - j) (by omega)) ?_
    refine WL.callV rfl rfl (hround Nil j _ wl1 _ (by omega) hJ H.toOut0 (Rob.pure ⟨by omega, rfl⟩)) ?_
    rintro _ w2 ⟨hk, ⟨rfl, hJ⟩ | ⟨rfl, hJ⟩⟩
    · skip
      replace H := St.again0 (Ps := [fun w => RdA w ⟨b1, 0, none⟩ [s], SlV s (bs.map Tr.ptr)]) hC hk (fun _ h => h.elim) (by intro p hp; simp at hp; rcases hp with rfl | rfl <;> assumption)
      refine WL.pv (PV.not rfl rfl) rfl ?_
      refine WL.nil ?_
      refine WE.cond_f rfl ?_
      refine WE.skip ?_
      refine WE.reg ?_
      refine WL.mv rfl rfl ?_
      refine WL.pv (PV.eq (v' := .int .i64 (((bs.length - (j + 1) : Nat) : Int) - 1)) (PV.sub64 rfl rfl rfl (by omega) (by omega)) (by congr 1; omega)) rfl ?_
      refine WL.as rfl rfl ?_
      refine WL.nil ?_
      exact ⟨j + 1, (by repeat (first | with_reducible exact Off.refl _ _ | refine Off.upd rfl ?_ | refine Off.setAll rfl ?_ | refine Off.forget' rfl ?_)), ⟨rfl, trivial⟩, rfl, ⟨by omega, hJ, H⟩, (by omega)⟩
    · skip
      refine WL.pv (PV.not rfl rfl) rfl ?_
      refine WL.nil ?_
      refine WE.cond_t rfl ?_
      refine WE.ret ?_
      refine ⟨[], _, .nil _, trivial, ?_⟩
      exact ⟨rfl, Nil, .inr hJ⟩
  · skip
    try simp only [decide_eq_true_eq, decide_eq_false_iff_not, ne_eq, Decidable.not_not, Bool.not_eq_true', Bool.not_eq_false', Bool.and_eq_true, Bool.or_eq_true, Bool.not_not, Bool.and_eq_false_iff, Bool.or_eq_false_iff, Int.not_lt, Int.not_le] at hc8
    have hj_ : j = bs.length := by omega
    refine WE.exit ?_
    refine ⟨[], _, .nil _, trivial, ?_⟩
    subst hj_
    exact ⟨rfl, Nil, .inl (hsta _ _ _ _ hJ H.toOut0)⟩

theorem up_c {X : Nat → Prop} {w : World} {bh bc b9 b4 b6 b7 : Nat} {bits c0 : Int} {E : Tr} {bs : List Tr} {k : List UInt8} {s sl : Value} {d : Nat} (hX : ∀ b, X b → b < w.heap.size) (ho0 : Blk w bc 108 ([.int .i64 c0])) (hf0 : Rob (fun c_ => X c_ ∨ c_ = bc) (HAt bh bc bits) w) (hf1 : Rob (fun c_ => X c_ ∨ c_ = bc) (TrA bits E) w) (hf2 : Rob (fun c_ => X c_ ∨ c_ = bc) (AllA bits bs) w) (hf3 : Rob (fun c_ => X c_ ∨ c_ = bc) (SlV sl (bs.map Tr.ptr)) w) (hf4 : Rob (fun c_ => X c_ ∨ c_ = bc) (fun w => RdA w ⟨b9, 0, none⟩ [sl]) w) (hf5 : Rob (fun c_ => X c_ ∨ c_ = bc) (fun w => RdA w ⟨b4, 0, none⟩ [.pointer (some ⟨bh, 0, none⟩)]) w) (hf6 : Rob (fun c_ => X c_ ∨ c_ = bc) (fun w => RdA w ⟨b6, 0, none⟩ (kc k ++ [s])) w) (hf7 : Rob (fun c_ => X c_ ∨ c_ = bc) (fun w => RdA w ⟨b7, 0, none⟩ [.int .i64 (d : Int)]) w) (hf8 : Rob (fun c_ => X c_ ∨ c_ = bc) (Rounds) w) (hbits : 0 ≤ bits ∧ bits ≤ 256) (hk : k.length = 32) (hd : d + bs.length ≤ 256) (hcnt : E.er.cnt + ((bs.map Tr.er).map Sh.cnt).sum ≤ 1000000000) :
    Ret Tryz.prog 88 [E.ptr, .pointer (some ⟨b9, 0, none⟩), .pointer (some ⟨b4, 0, none⟩), .pointer (some ⟨b6, 0, none⟩), .pointer (some ⟨b7, 0, none⟩)].toArray w fun v w' => ∃ (T : Tr) (m : Int), v = T.ptr ∧ T.er = upS k d (bs.map Tr.er) E.er ∧ Out (· = bc) w w' ∧ Blk w' bc 108 [.int .i64 m] ∧ Rob (fun c => X c ∨ c = bc) (TrA bits T) w' := by
  refine Ret.of_body (N := 23) Tryz.func88 rfl rfl (by simp) ?_
  have H := St.begin1 (b := bc) (t := 108) (l := [.int .i64 c0]) hX ho0
  replace H := H.add (rob1 hf8)
  replace H := H.add (rob1 hf7)
  replace H := H.add (rob1 hf6)
  replace H := H.add (rob1 hf5)
  replace H := H.add (rob1 hf4)
  replace H := H.add (rob1 hf3)
  replace H := H.add (rob1 hf2)
  replace H := H.add (rob1 hf1)
  replace H := H.add (rob1 hf0)
  refine WE.seq_reg ?_
  refine WL.box (l := [E.ptr]) H rfl (by rfl) rfl ?_
  intro b5 w1 H
  refine WL.as rfl rfl ?_
  refine WL.nil ?_
  refine WE.seq ?_
  refine WE.seq_reg ?_
  refine WL.load1 rfl TryzT.ag134 rfl rfl (H.p 4 rfl) ?_
  refine WL.call TryzT.fb89 rfl (Backward_c (s := sl) (cs := bs.map Tr.ptr) H.yylt (by exact H.rob 3 rfl) ) ?_
  rintro _ w2 ⟨bbv10, rfl, hO, hR⟩
  replace H := (H.out hO).add hR
  refine WL.nil ?_
  refine WE.block ?_
  replace H := H.sel [0, 1, 2, 3, 4, 5, 6, 7, 8, 9]
  replace H := H.pushNil
  refine WE.rangeF (α := Tr × Int) (fun i g => g.1.er = upS k (d + (bs.length - i)) ((bs.map Tr.er).drop (bs.length - i)) E.er) (fun i g => [Ent.blk bc 108 [.int .i64 g.2]]) (fun i g => [Ent.blk b5 23 [g.1.ptr]]) (fun i g => [fun w => RdA w ⟨bbv10, 0, none⟩ [sl], HAt bh bc bits, TrA bits g.1, AllA bits bs, SlV sl (bs.map Tr.ptr), fun w => RdA w ⟨b9, 0, none⟩ [sl], fun w => RdA w ⟨b4, 0, none⟩ [.pointer (some ⟨bh, 0, none⟩)], fun w => RdA w ⟨b6, 0, none⟩ (kc k ++ [s]), fun w => RdA w ⟨b7, 0, none⟩ [.int .i64 (d : Int)], Rounds]) (fun _ _ => False) (fun _ _ => []) (fun _ _ => []) (fun _ _ => []) (E, c0) H rfl TryzT.fb116 (fun W0 hO => back1_seq (bs := bs) (H.ccLt hO) (H.ccRob0 hO 0 rfl) (H.ccRob0 hO 4 rfl) (by omega)) (by rintro _ _ _ ⟨_, rfl⟩; rfl) ⟨by show E.er = _; rw [Nat.sub_zero, List.drop_eq_nil_of_le (by simp)]; rfl, rfl, rfl, rfl⟩ ?_ ?_ ?_
  · skip
    intro i g xs_ l_ d_ o_ T_ sc_ w3 hi_ hR_ hV_
    obtain ⟨hlt_, rfl⟩ := hV_
    have hud := upS_drop k d (bs.map Tr.er) E.er (bs.length - 1 - i) (by simpa using hlt_)
    rw [List.getElem_map] at hud
    have hcn : g.1.er.cnt + (bs[bs.length - 1 - i]).er.cnt ≤ 1000000000 := upS_bound hcnt hR_ hlt_ hi_
    refine WE.seq_reg ?_
    refine WL.as rfl rfl ?_
    refine WL.nil ?_
    refine WE.reg ?_
    refine WL.as rfl rfl ?_
    refine WL.nil ?_
    refine ⟨rfl, rfl, rfl, ?_⟩
    intro w4 H
    refine WE.block ?_
    refine WE.reg ?_
    refine WL.load1 rfl TryzT.ag26 rfl rfl (H.p 7 rfl) ?_
    refine WL.load1 rfl TryzT.ag23 rfl rfl (by exact Blk.segAt (H.l 0 rfl) (Seg.all _) (by rfl)) ?_
    refine WL.mv rfl rfl ?_
    refine WL.pv (PV.fieldAddr rfl TryzT.fd34_0 rfl) rfl ?_
    refine WL.loadR rfl TryzT.ag31 rfl rfl (RdA.segAt (H.p 8 rfl) (Seg.l (Seg.all (kc k))) rfl) (by (rw [TryzT.sz31]; refine congrArg some ?_; (simp only [kc_length, kw_length, List.length_replicate, List.length_append, List.length_cons, List.length_nil, cutI_length, shaOf_length, dig_length, valD_length, rootM_length]; omega))) ?_
    refine WL.load1 rfl TryzT.ag3 rfl rfl (H.p 9 rfl) ?_
    refine WL.mv rfl rfl ?_
    refine WL.pv (PV.eq (v' := .int .i64 ((d + (bs.length - 1 - i) : Nat) : Int)) (PV.add64 rfl rfl rfl (by omega) (by omega)) rfl) rfl ?_
    refine WL.call TryzT.fb90 rfl (pjoin_c (n := g.1) (b := bs[bs.length - 1 - i]) (k := k) (d := d + (bs.length - 1 - i)) (bits := bits) H.yylt (H.o 0 rfl) (by exact H.robOld 0 rfl 2 rfl) (by exact H.robOld 0 rfl 3 rfl) (by exact (H.robOld 0 rfl 4 rfl).imp fun _ h => h _ (List.getElem_mem hlt_)) (by exact H.robOld 0 rfl 10 rfl) hbits hk (by omega) hcn) ?_
    rintro _ w5 ⟨Tv21, mv21, rfl, hTv21, hO, hB, hR⟩
    replace H := H.calledOR 0 rfl hO hB hR
    refine WL.storeL H 0 rfl rfl rfl (new := _) rfl (by exact TryzT.sz23) (one_lit _ rfl) (Laid.at (Laid.all (by (simp only [kc_length, kw_length, List.length_replicate, List.length_append, List.length_cons, List.length_nil, cutI_length, shaOf_length, dig_length, valD_length, rootM_length]; done))) (by rfl)) rfl ?_
    intro w6 H
    refine WL.nil ?_
    replace H := H.sel [2, 3, 0, 5, 6, 7, 8, 9, 10, 11, 12]
    exact ⟨(Tv21, mv21), (by dsimp only; rw [hTv21, hR_, show bs.length - (i + 1) = bs.length - 1 - i by omega, hud, show bs.length - i = bs.length - 1 - i + 1 by omega]), H⟩
  · skip
    intro g d_0 w7 hR_ H
    refine WE.seq_reg ?_
    refine WL.load1 rfl TryzT.ag23 rfl rfl (by exact Blk.segAt (H.l 1 rfl) (Seg.all _) (by rfl)) ?_
    refine WL.as rfl rfl ?_
    refine WL.nil ?_
    refine WE.ret ?_
    (obtain ⟨w8, hl_0, H⟩ := H.unmark 0 rfl)
    refine ⟨[_], _, (hl_0 _ (.nil _)), ⟨rfl, trivial⟩, ?_⟩
    refine ⟨g.1, g.2, rfl, ?_, H.toOut1, H.o 0 rfl, H.giveO (H.rob 2 rfl)⟩
    rw [hR_, Nat.sub_self]; rfl
  · skip
    intro e_ g d_0 w9 he_ hR_ H
    exact hR_.elim

end Go.Sp.Tryz

set_option maxRecDepth 100000
set_option maxHeartbeats 1000000
set_option linter.unusedVariables false
set_option linter.unusedSimpArgs false
namespace Go.Sp.Tryz
open Go.Proofs Go.RowKit Go.Sp

theorem end_cases (F : Tr) (h : F.er.kind ≠ 2) : F = .nil ∨ ∃ a q u s, F = .leaf a q u s := by
  cases F with
  | nil => exact .inl rfl
  | leaf a q u s => exact .inr ⟨a, q, u, s, rfl⟩
  | inner => exact absurd rfl h
theorem bes_sum {k : List UInt8} {d : Nat} {T : Tr} (e : Sh) (hc : T.er.cnt ≤ 100000000) (he : e.cnt ≤ 2) : e.cnt + (((besL T k d (T.dp k d)).map Tr.er).map Sh.cnt).sum ≤ 1000000000 := by
  have := bes_cnt k _ d T rfl
  rw [List.map_map]
  show e.cnt + ((besL T k d (T.dp k d)).map fun b => b.er.cnt).sum ≤ _
  omega
theorem putS_end {k v : List UInt8} {d : Nat} {T : Tr} {e : Sh} (he : putS k v (T.dp k d + d) (T.atN k d (T.dp k d)).er = e) : upS k d ((besL T k d (T.dp k d)).map Tr.er) e = putS k v d T.er := by
  rw [putS_up k v _ d T rfl, he]
theorem near_end {T : Tr} {m : List En} {k q u : List UInt8} {d a : Nat} {s : Value} (hT : T.er = grow d m) (hp : Pm d m) (hn : Near d m k) (hF : T.atN k d (T.dp k d) = .leaf a q u s) : T.dp k d + d ≤ comN q k := by
  have h : ∀ i, i ≤ T.dp k d → Near (i + d) (atM k d m i) k := by
    intro i
    induction i with
    | zero => intro _; rw [Nat.zero_add]; exact hn
    | succ i ih =>
      intro hi
      have hl := at_len (k := k) hT hp (i := i) (by omega)
      have := (ih (by omega)).part hl.2
      rwa [show i + d + 1 = i + 1 + d by omega] at this
  have h1 := h _ (Nat.le_refl _)
  have h2 := at_er (k := k) hT hp _ (Nat.le_refl _)
  have hl := at_end (k := k) hT hp
  rw [hF] at h2
  match hm : atM k d m (T.dp k d), hl with
  | [], _ => rw [hm, grow_nil] at h2; cases h2.1
  | [e], _ =>
    rw [hm, grow_one] at h2
    have e1 : (Sh.leaf q u) = Sh.leaf e.k e.v := h2.1
    injection e1 with e1 _
    rw [hm] at h1
    rw [e1]
    exact h1 e (by simp)
  | _ :: _ :: _, h => simp at h

theorem putAt_c {X : Nat → Prop} {w : World} {bh bc : Nat} {bits c0 : Int} {T : Tr} {M : List En} {k lv : List UInt8} {s : Value} {d : Nat} (hX : ∀ b, X b → b < w.heap.size) (ho0 : Blk w bc 108 ([.int .i64 c0])) (hf0 : Rob (fun c_ => X c_ ∨ c_ = bc) (HAt bh bc bits) w) (hf1 : Rob (fun c_ => X c_ ∨ c_ = bc) (TrA bits T) w) (hf2 : Rob (fun c_ => X c_ ∨ c_ = bc) (Rounds) w) (hbits : 0 ≤ bits ∧ bits ≤ 256) (hk : k.length = 32) (hla : lv.length ≤ 1000000) (hw : Rob (fun c => c = bc) (SlB s lv) w) (hT : T.er = grow d M) (hpm : Pm d M) (hs : Srt M) (hnr : Near d M k) (hml : M.length ≤ 100000000) :
    Ret Tryz.prog 55 [.pointer (some ⟨bh, 0, none⟩), T.ptr, .agg (kc k ++ [s]).toArray, .int .i64 (d : Int)].toArray w fun v w' => ∃ (T : Tr) (m : Int), v = T.ptr ∧ T.er = grow d (putM M ⟨k, s, lv⟩) ∧ Out (· = bc) w w' ∧ Blk w' bc 108 [.int .i64 m] ∧ Rob (fun c => X c ∨ c = bc) (TrA bits T) w' := by
  refine Ret.of_body (N := 59) Tryz.func55 rfl rfl (by simp) ?_
  have H := St.begin1 (b := bc) (t := 108) (l := [.int .i64 c0]) hX ho0
  replace H := H.add (rob1 hf2)
  replace H := H.add (rob1 hf1)
  replace H := H.add (rob1 hf0)
  have hs1 : s.oneCell' = true := SlC.one1 hw.here
  have hfit := grow_fit hpm
  rw [← hT] at hfit
  have hdp := Tr.dp_fit (k := k) _ d T rfl hfit hpm.le
  have hcn : T.er.cnt = M.length := by rw [hT]; exact hpm.cnt
  have hFk := Tr.atN_out (k := k) _ d T rfl
  refine WE.seq_reg ?_
  refine WL.box (l := [.pointer (some ⟨bh, 0, none⟩)]) H rfl (rfl) rfl ?_
  intro b4 w1 H
  refine WL.box (l := kc k ++ [s]) H rfl (rfl) rfl ?_
  intro b6 w2 H
  refine WL.box (l := [.int .i64 (d : Int)]) H rfl (rfl) rfl ?_
  intro b7 w3 H
  refine WL.as rfl rfl ?_
  refine WL.nil ?_
  refine WE.seq_reg ?_
  refine WL.alloc H rfl TryzT.ze134 rfl ?_
  intro b9 w4 H
  replace H := H.nilOsl 23 1
  refine WL.nil ?_
  refine WE.seq_reg ?_
  refine WL.load1 rfl TryzT.ag3 rfl rfl (by exact Blk.segAt (H.l 2 rfl) (Seg.all _) (by rfl)) ?_
  refine WL.as rfl rfl ?_
  refine WL.nil ?_
  refine WE.seq ?_
  refine WE.block ?_
  refine WE.loop (α := Nat × Value) [1, 10, 11, 15, 16, 17, 18, 19, 20, 21, 22, 23, 24, 25, 26, 27, 28, 29, 30, 31, 32, 33] (fun p => [(1, (T.atN k d p.1).ptr), (10, .int .i64 ((p.1 + d : Nat) : Int))]) (fun p wl => p.1 ≤ T.dp k d ∧ St X w wl [Ent.blk bc 108 [.int .i64 c0]] [Ent.osl w.heap.size p.2 23 1 p.1 ((besL T k d p.1).map Tr.ptr), Ent.blk b9 134 [p.2], Ent.blk b7 3 [.int .i64 (d : Int)], Ent.blk b6 34 (kc k ++ [s]), Ent.blk b4 26 [.pointer (some ⟨bh, 0, none⟩)]] [HAt bh bc bits, TrA bits T, Rounds]) (fun p => T.dp k d - p.1) (0, .slice none 0 0) ⟨rfl, by show Value.int .i64 _ = Value.int .i64 _; rw [Nat.zero_add], trivial⟩ ⟨Nat.zero_le _, H⟩ ?_
  intro ⟨i, q⟩ γ0 w5 hI
  try dsimp only at hI
  obtain ⟨hi, H⟩ := hI
  refine WE.seq ?_
  refine WE.seq_reg ?_
  refine WL.mv rfl rfl ?_
  refine WL.call TryzT.fb56 rfl (NKind_c (T := T.atN k d i) (bits := bits) H.yylt (by exact (H.rob 1 rfl).imp fun _ h => h.atN i)) ?_
  rintro _ w6 ⟨rfl, hO⟩
  replace H := H.out hO
  refine WL.pv (PV.eql rfl rfl rfl) rfl ?_
  refine WL.nil ?_
  refine WE.cond rfl (fun hc17 => ?_) (fun hc17 => ?_)
  · skip
    try simp only [decide_eq_true_eq, decide_eq_false_iff_not, ne_eq, Decidable.not_not, Bool.not_eq_true', Bool.not_eq_false', Bool.and_eq_true, Bool.or_eq_true, Bool.not_not, Bool.and_eq_false_iff, Bool.or_eq_false_iff, Int.not_lt, Int.not_le] at hc17
    have hlt : i < T.dp k d := by rcases Nat.lt_or_ge i (T.dp k d) with h | h; exact h; exact absurd (show (T.atN k d i).er.kind = 2 by exact hc17) (by rw [show i = T.dp k d by omega]; exact hFk)
    have hb2 := bitN_lt k (i + d)
    refine WE.skip ?_
    refine WE.seq ?_
    refine WE.block ?_
    refine WE.seq_reg ?_
    refine WL.pv (PV.fieldAddr rfl TryzT.fd34_0 rfl) rfl ?_
    refine WL.loadR rfl TryzT.ag31 rfl rfl (by exact Blk.segAt (H.l 3 rfl) (Seg.l (Seg.all _)) (by rfl)) (by (rw [TryzT.sz31]; refine congrArg some ?_; (simp only [kc_length, kw_length, List.length_replicate, List.length_append, List.length_cons, List.length_nil, cutI_length, shaOf_length, dig_length, valD_length, rootM_length]; omega))) ?_
    refine WL.mv rfl rfl ?_
    refine WL.call TryzT.fb87 rfl (bitsBit_c (k := k) (d := i + d) H.yylt  (by assumption) (by omega)) ?_
    rintro _ w7 ⟨rfl, hO⟩
    replace H := H.out hO
    refine WL.as rfl rfl ?_
    refine WL.nil ?_
    refine WE.seq_draw (.take 0 (.take 1 (.take 2 (.take 3 (.pick1 4 (.pick1 5 (.pick1 6 (.pick1 7 .done)))))))) TryzT.mixed (by kernel_rfl) ?_
    replace H := H.out (Out.drew _)
    refine WP.take_read rfl rfl (RV.loadOne rfl TryzT.ag134 rfl) (by exact Blk.segAt (H.l 1 rfl) (Seg.all _) (by rfl)) ?_
    refine WP.mv rfl rfl rfl ?_
    refine WP.mv rfl rfl rfl ?_
    refine WP.take_pure rfl rfl (PV.eq (v' := .int .i64 ((1 - bitN k (i + d) : Nat) : Int)) (PV.sub64 rfl rfl rfl (by omega) (by omega)) (by congr 1; omega)) ?_
    refine WP.pick1 rfl ?_
    refine WL.call TryzT.fb76 rfl (Child_c (T := T.atN k d i) (bits := bits) (b := 1 - bitN k (i + d)) H.yylt (by exact (H.rob 1 rfl).imp fun _ h => h.atN i)) ?_
    rintro _ w8 ⟨rfl, hO⟩
    replace H := H.out hO
    refine WL.nil ⟨(List.forall_mem_cons.2 ⟨(fun _ _ => (by exact Blk.segAt (H.l 1 rfl) (Seg.all _) (by rfl))), (fun _ h => by cases h)⟩), ?_⟩
    refine WP.pick1 rfl ?_
    refine WL.buildSliceF (l0 := [.pointer none]) H rfl TryzT.st134 (by decide) (zrow_one _ _) (Fl.cons rfl (by rfl) (by (simp only [kc_length, kw_length, List.length_replicate, List.length_append, List.length_cons, List.length_nil, cutI_length, shaOf_length, dig_length, valD_length, rootM_length]; done)) Laid.head Fl.nil) rfl ?_
    intro b29 w9 H
    refine WL.nil ⟨(List.forall_mem_cons.2 ⟨(fun _ _ => (by exact Blk.segAt (H.l 2 rfl) (Seg.all _) (by rfl))), (fun _ h => by cases h)⟩), ?_⟩
    refine WP.pick1 rfl ?_
    refine WL.append (m := 1) H 1 TryzT.st134 (by decide) rfl rfl rfl (SlC.of_blk (n := 1) (H.l 0 rfl) rfl) (one_lit _ rfl) (by omega) (by decide) rfl ?_
    intro v30 w10 H
    replace H := H.forget 0
    replace H := H.conv (L' := [Ent.osl w.heap.size v30 23 1 (i + 1) ((besL T k d (i + 1)).map Tr.ptr), Ent.blk b9 134 [q], Ent.blk b7 3 [.int .i64 (d : Int)], Ent.blk b6 34 (kc k ++ [s]), Ent.blk b4 26 [.pointer (some ⟨bh, 0, none⟩)]]) (by rw [besL_snoc, List.map_append]; rfl)
    refine WL.nil ⟨(List.forall_mem_cons.2 ⟨(by exact (fun h => absurd (show waits _ 6 0 = false from h) (by decide +kernel))), (fun _ h => by cases h)⟩), ?_⟩
    refine WP.pick1 rfl ?_
    refine WL.storeL H 1 rfl rfl rfl (new := [v30]) (cells_one (own_one (H.l 0 rfl))) (by exact TryzT.sz134) (one_sing (own_one (H.l 0 rfl))) (Laid.at (Laid.all (by (simp only [kc_length, kw_length, List.length_replicate, List.length_append, List.length_cons, List.length_nil, cutI_length, shaOf_length, dig_length, valD_length, rootM_length]; done))) (by rfl)) rfl ?_
    intro w11 H
    refine WL.nil ⟨(List.forall_mem_cons.2 ⟨(by exact (fun h => absurd (show waits _ 7 0 = false from h) (by decide +kernel))), (fun _ h => by cases h)⟩), ?_⟩
    refine WP.done ?_
    refine WE.reg ?_
    refine WL.mv rfl rfl ?_
    refine WL.mv rfl rfl ?_
    refine WL.call TryzT.fb76 rfl (Child_c (T := T.atN k d i) (bits := bits) (b := bitN k (i + d)) H.yylt (by exact (H.rob 1 rfl).imp fun _ h => h.atN i)) ?_
    rintro _ w12 ⟨rfl, hO⟩
    replace H := H.out hO
    refine WL.as rfl rfl ?_
    refine WL.nil ?_
    refine WE.reg ?_
    refine WL.mv rfl rfl ?_
    refine WL.pv (PV.eq (v' := .int .i64 ((i + 1 + d : Nat) : Int)) (PV.add64 rfl rfl rfl (by omega) (by omega)) (by congr 1; omega)) rfl ?_
    refine WL.as rfl rfl ?_
    refine WL.nil ?_
    exact ⟨(i + 1, v30), (by repeat (first | with_reducible exact Off.refl _ _ | refine Off.upd rfl ?_ | refine Off.setAll rfl ?_ | refine Off.forget' rfl ?_)), ⟨rfl, rfl, trivial⟩, rfl, ⟨by dsimp only; omega, H⟩, (by dsimp only; omega)⟩
  · skip
    try simp only [decide_eq_true_eq, decide_eq_false_iff_not, ne_eq, Decidable.not_not, Bool.not_eq_true', Bool.not_eq_false', Bool.and_eq_true, Bool.or_eq_true, Bool.not_not, Bool.and_eq_false_iff, Bool.or_eq_false_iff, Int.not_lt, Int.not_le] at hc17
    have hiD : i = T.dp k d := by rcases Nat.lt_or_ge i (T.dp k d) with h | h; exact absurd (Tr.atN_in (k := k) i d T h) (by exact hc17); omega
    subst hiD
    refine WE.exit ?_
    replace H := ((((H.freeze (i := 0) rfl).freeze (i := 0) rfl).freeze (i := 0) rfl).freeze (i := 0) rfl).freeze (i := 0) rfl
    refine WE.seq_reg ?_
    refine WL.pv (PV.makeFunc rfl) rfl ?_
    refine WL.as rfl rfl ?_
    refine WL.nil ?_
    refine WE.seq_reg ?_
    refine WL.load1 rfl TryzT.ag26 rfl rfl (by exact Blk.segAt (H.p 0 rfl) (Seg.all _) (by rfl)) ?_
    refine WL.loadR rfl TryzT.ag34 rfl rfl (by exact Blk.segAt (H.p 1 rfl) (Seg.all _) (by rfl)) (by (rw [TryzT.sz34]; refine congrArg some ?_; (simp only [kc_length, kw_length, List.length_replicate, List.length_append, List.length_cons, List.length_nil, cutI_length, shaOf_length, dig_length, valD_length, rootM_length]; omega))) ?_
    refine WL.call TryzT.fb58 rfl (NewLeafW_c (k := k) (lv := lv) (s := s) (bits := bits) H.yylt (H.o 0 rfl) (by exact H.robOld 0 rfl 5 rfl) (by exact H.robOld 0 rfl 7 rfl) hbits hla hk (H.weak H.toOut hw rfl)) ?_
    rintro _ w13 ⟨Tv37, mv37, rfl, hTv37, hO, hB, hR⟩
    replace H := H.calledOR 0 rfl hO hB hR
    obtain ⟨a37, s37, rfl⟩ := Tr.leaf_of hTv37
    refine WL.as rfl rfl ?_
    refine WL.nil ?_
    refine WE.seq ?_
    have hFkl : (T.atN k d (T.dp k d)).key.length = 32 := TrA.key_length ((hf1.here).atN _)
    have hFvd := Tr.vd_length bits (T.atN k d (T.dp k d))
    refine WE.seq_draw (.take 0 (.pick1 1 (.take 2 (.take 3 (.take 4 (.take 7 (.take 8 (.pick1 5 (.take 6 (.take 9 (.take 10 .done))))))))))) TryzT.mixed (by kernel_rfl) ?_
    replace H := H.out (Out.drew _)
    refine WP.mv rfl rfl rfl ?_
    refine WP.pick1 rfl ?_
    refine WL.call TryzT.fb56 rfl (NKind_c (T := (T.atN k d (T.dp k d))) (bits := bits) H.yylt (by exact (H.rob 7 rfl).imp fun _ h => h.atN (T.dp k d))) ?_
    rintro _ w14 ⟨rfl, hO⟩
    replace H := H.out hO
    refine WL.nil ⟨(fun _ h => by cases h), ?_⟩
    refine WP.take_pure rfl rfl (PV.eql rfl rfl rfl) ?_
    refine WP.mv rfl rfl rfl ?_
    refine WP.split (t := 41) rfl (fun hg41 => ?_) (fun hg41 => ?_)
    · skip
      refine WP.known (t := 40) (c := true) rfl hg41 ?_
      try simp only [decide_eq_true_eq, decide_eq_false_iff_not, ne_eq, Decidable.not_not, Bool.not_eq_true', Bool.not_eq_false', Bool.and_eq_true, Bool.or_eq_true, Bool.not_not, Bool.and_eq_false_iff, Bool.or_eq_false_iff, Int.not_lt, Int.not_le] at hg41
      have hFn : (T.atN k d (T.dp k d)) = .nil := by rcases end_cases (T.atN k d (T.dp k d)) hFk with h | ⟨a, q, u, s, h⟩; exact h; rw [h] at hg41; cases hg41
      have hend : putS k lv (T.dp k d + d) (T.atN k d (T.dp k d)).er = .leaf k lv := by rw [hFn]; rfl
      refine WP.take_off rfl rfl ?_
      refine WP.take_off rfl rfl ?_
      refine WP.take_off rfl rfl ?_
      refine WP.pick1 rfl ?_
      refine WL.off rfl ?_
      refine WL.nil ⟨(fun _ h => by cases h), ?_⟩
      refine WP.take_off rfl rfl ?_
      refine WP.take_off rfl rfl ?_
      refine WP.take_pure rfl rfl (PV.pick_t rfl rfl rfl) ?_
      refine WP.done ?_
      refine WE.cond_t rfl ?_
      refine WE.seq_reg ?_
      refine WL.mv rfl rfl ?_
      refine WL.mv rfl rfl ?_
      refine WL.callv TryzT.fb88 rfl rfl (up_c (E := (.leaf a37 k lv s37)) (bs := besL T k d (T.dp k d)) (k := k) (s := s) (sl := q) (d := d) (bits := bits) H.yylt (H.o 0 rfl) (by exact H.robOld 0 rfl 6 rfl) (by exact H.robOld 0 rfl 0 rfl) (by exact (H.robOld 0 rfl 7 rfl).imp fun _ h => besA h) (by exact (H.robOld 0 rfl 5 rfl).imp fun _ h => slv_own h) (by exact (H.robOld 0 rfl 4 rfl).imp fun _ h => Blk.rd h) (by exact (H.robOld 0 rfl 1 rfl).imp fun _ h => Blk.rd h) (by exact (H.robOld 0 rfl 2 rfl).imp fun _ h => Blk.rd h) (by exact (H.robOld 0 rfl 3 rfl).imp fun _ h => Blk.rd h) (by exact H.robOld 0 rfl 8 rfl) hbits hk (by rw [besL_len]; omega) (bes_sum (.leaf k lv) (by omega) (by show 1 ≤ 2; omega))) ?_
      rintro _ w15 ⟨Tv51, mv51, rfl, hTv51, hO, hB, hR⟩
      replace H := H.calledOR 0 rfl hO hB hR
      refine WL.as rfl rfl ?_
      refine WL.nil ?_
      refine WE.ret ?_
      refine ⟨[_], _, .nil _, ⟨rfl, trivial⟩, ?_⟩
      refine ⟨Tv51, _, rfl, ?_, H.toOut1, H.o 0 rfl, H.giveO (H.rob 0 rfl)⟩
      rw [hTv51]
      exact (putS_end hend).trans (hT ▸ putS_map ⟨k, s, lv⟩ hk hpm hs hnr)
    · skip
      refine WP.known (t := 40) (c := false) rfl hg41 ?_
      try simp only [decide_eq_true_eq, decide_eq_false_iff_not, ne_eq, Decidable.not_not, Bool.not_eq_true', Bool.not_eq_false', Bool.and_eq_true, Bool.or_eq_true, Bool.not_not, Bool.and_eq_false_iff, Bool.or_eq_false_iff, Int.not_lt, Int.not_le] at hg41
      obtain ⟨af, q_, u_, sf, hFe⟩ : ∃ a q u s, (T.atN k d (T.dp k d)) = .leaf a q u s := by rcases end_cases (T.atN k d (T.dp k d)) hFk with h | h; rw [h] at hg41; exact absurd rfl hg41; exact h
      have hnear := near_end hT hpm hnr hFe
      have hqk : q_.length = 32 := by rw [hFe] at hFkl; exact hFkl
      have hkeyF : (T.atN k d (T.dp k d)).key = q_ := by rw [hFe]; rfl
      refine WP.mv rfl rfl rfl ?_
      refine WP.take_pure rfl rfl (PV.fieldAddr rfl TryzT.fd34_0 rfl) ?_
      refine WP.readA rfl rfl rfl TryzT.ag31 rfl (by exact Blk.segAt (H.p 2 rfl) (Seg.l (Seg.all _)) (by rfl)) (by (rw [TryzT.sz31]; refine congrArg some ?_; (simp only [kc_length, kw_length, List.length_replicate, List.length_append, List.length_cons, List.length_nil, cutI_length, shaOf_length, dig_length, valD_length, rootM_length]; omega))) ?_
      refine WP.pick1 rfl ?_
      refine WL.call TryzT.fb62 rfl (Leaf2_c (T := (T.atN k d (T.dp k d))) (bits := bits) H.yylt (by exact (H.rob 7 rfl).imp fun _ h => h.atN (T.dp k d))) ?_
      rintro _ w16 ⟨rfl, hO⟩
      replace H := H.out hO
      refine WL.nil ⟨(List.forall_mem_cons.2 ⟨(fun _ _ => (by exact Blk.segAt (H.p 2 rfl) (Seg.l (Seg.all _)) (by rfl))), (fun _ h => by cases h)⟩), ?_⟩
      refine WP.take_pure rfl rfl (PV.fieldV rfl TryzT.fd93_0 rfl (PartAt.agg TryzT.ag31 (by (rw [TryzT.sz31]; refine congrArg some ?_; (simp only [kc_length, kw_length, List.length_replicate, List.length_append, List.length_cons, List.length_nil, cutI_length, shaOf_length, dig_length, valD_length, rootM_length]; omega))) (Seg.l (Seg.all _)))) ?_
      refine WP.take_pure rfl rfl (PV.eqlB rfl TryzT.ar31 TryzT.in5 TryzT.sz5 (by kernel_rfl) rfl rfl (by assumption) (by assumption)) ?_
      refine WP.take_pure rfl rfl (PV.pick_f rfl rfl rfl) ?_
      refine WP.done ?_
      refine WE.cond rfl (fun hc48 => ?_) (fun hc48 => ?_)
      · skip
        try simp only [decide_eq_true_eq, decide_eq_false_iff_not, ne_eq, Decidable.not_not, Bool.not_eq_true', Bool.not_eq_false', Bool.and_eq_true, Bool.or_eq_true, Bool.not_not, Bool.and_eq_false_iff, Bool.or_eq_false_iff, Int.not_lt, Int.not_le] at hc48
        have hend : putS k lv (T.dp k d + d) (T.atN k d (T.dp k d)).er = .leaf k lv := by rw [hFe]; exact if_pos (hkeyF ▸ (by exact hc48))
        refine WE.seq_reg ?_
        refine WL.mv rfl rfl ?_
        refine WL.mv rfl rfl ?_
        refine WL.callv TryzT.fb88 rfl rfl (up_c (E := (.leaf a37 k lv s37)) (bs := besL T k d (T.dp k d)) (k := k) (s := s) (sl := q) (d := d) (bits := bits) H.yylt (H.o 0 rfl) (by exact H.robOld 0 rfl 6 rfl) (by exact H.robOld 0 rfl 0 rfl) (by exact (H.robOld 0 rfl 7 rfl).imp fun _ h => besA h) (by exact (H.robOld 0 rfl 5 rfl).imp fun _ h => slv_own h) (by exact (H.robOld 0 rfl 4 rfl).imp fun _ h => Blk.rd h) (by exact (H.robOld 0 rfl 1 rfl).imp fun _ h => Blk.rd h) (by exact (H.robOld 0 rfl 2 rfl).imp fun _ h => Blk.rd h) (by exact (H.robOld 0 rfl 3 rfl).imp fun _ h => Blk.rd h) (by exact H.robOld 0 rfl 8 rfl) hbits hk (by rw [besL_len]; omega) (bes_sum (.leaf k lv) (by omega) (by show 1 ≤ 2; omega))) ?_
        rintro _ w17 ⟨Tv51, mv51, rfl, hTv51, hO, hB, hR⟩
        replace H := H.calledOR 0 rfl hO hB hR
        refine WL.as rfl rfl ?_
        refine WL.nil ?_
        refine WE.ret ?_
        refine ⟨[_], _, .nil _, ⟨rfl, trivial⟩, ?_⟩
        refine ⟨Tv51, _, rfl, ?_, H.toOut1, H.o 0 rfl, H.giveO (H.rob 0 rfl)⟩
        rw [hTv51]
        exact (putS_end hend).trans (hT ▸ putS_map ⟨k, s, lv⟩ hk hpm hs hnr)
      · skip
        try simp only [decide_eq_true_eq, decide_eq_false_iff_not, ne_eq, Decidable.not_not, Bool.not_eq_true', Bool.not_eq_false', Bool.and_eq_true, Bool.or_eq_true, Bool.not_not, Bool.and_eq_false_iff, Bool.or_eq_false_iff, Int.not_lt, Int.not_le] at hc48
        have hqne : q_ ≠ k := hkeyF ▸ (by exact hc48)
        have hcm : comN q_ k < 256 := by rcases Nat.lt_or_ge (comN q_ k) 256 with h | h; exact h; exact absurd ((comN_full hqk hk).1 h) hqne
        refine WE.skip ?_
        refine WE.seq_reg ?_
        refine WL.mv rfl rfl ?_
        refine WL.load1 rfl TryzT.ag26 rfl rfl (by exact Blk.segAt (H.p 1 rfl) (Seg.all _) (by rfl)) ?_
        refine WL.mv rfl rfl ?_
        refine WL.mv rfl rfl ?_
        refine WL.mv rfl rfl ?_
        rw [hFe]
        refine WL.call TryzT.fb91 rfl (Pair_c (aa := af) (ab := a37) (q := q_) (u := u_) (k := k) (vv := lv) (sa := sf) (sb := s37) (d := T.dp k d + d) (bits := bits) H.yylt (H.o 0 rfl) (by exact H.robOld 0 rfl 6 rfl) (by exact (H.robOld 0 rfl 7 rfl).imp fun _ h => hFe ▸ (h.atN (T.dp k d))) (by exact H.robOld 0 rfl 0 rfl) (by exact H.robOld 0 rfl 8 rfl) hbits hqk hk hnear hcm) ?_
        rintro _ w18 ⟨Tv57, mv57, rfl, hTv57, hO, hB, hR⟩
        replace H := H.calledOR 0 rfl hO hB hR
        refine WL.callv TryzT.fb88 rfl rfl (up_c (E := Tv57) (bs := besL T k d (T.dp k d)) (k := k) (s := s) (sl := q) (d := d) (bits := bits) H.yylt (H.o 0 rfl) (by exact H.robOld 0 rfl 7 rfl) (by exact H.robOld 0 rfl 0 rfl) (by exact (H.robOld 0 rfl 8 rfl).imp fun _ h => besA h) (by exact (H.robOld 0 rfl 6 rfl).imp fun _ h => slv_own h) (by exact (H.robOld 0 rfl 5 rfl).imp fun _ h => Blk.rd h) (by exact (H.robOld 0 rfl 2 rfl).imp fun _ h => Blk.rd h) (by exact (H.robOld 0 rfl 3 rfl).imp fun _ h => Blk.rd h) (by exact (H.robOld 0 rfl 4 rfl).imp fun _ h => Blk.rd h) (by exact H.robOld 0 rfl 9 rfl) hbits hk (by rw [besL_len]; omega) (bes_sum Tv57.er (by omega) (by rw [hTv57, pairS_cnt]; omega))) ?_
        rintro _ w19 ⟨Tv58, mv58, rfl, hTv58, hO, hB, hR⟩
        replace H := H.calledOR 0 rfl hO hB hR
        refine WL.as rfl rfl ?_
        refine WL.nil ?_
        refine WE.ret ?_
        refine ⟨[_], _, .nil _, ⟨rfl, trivial⟩, ?_⟩
        refine ⟨Tv58, _, rfl, ?_, H.toOut1, H.o 0 rfl, H.giveO (H.rob 0 rfl)⟩
        rw [hTv58]
        refine (putS_end (k := k) (v := lv) ?_).trans (hT ▸ putS_map ⟨k, s, lv⟩ hk hpm hs hnr)
        rw [hFe, hTv57]; exact if_neg hqne

end Go.Sp.Tryz

set_option maxRecDepth 100000
set_option maxHeartbeats 1000000
set_option linter.unusedVariables false
set_option linter.unusedSimpArgs false
namespace Go.Sp.Tryz
open Go.Proofs Go.RowKit Go.Sp

theorem Srt.pm {m : List En} (h : Srt m) (hk : KL m) : Pm 0 m := Pm.zero hk h.dis
theorem KL.take {l : List En} (h : KL l) (i : Nat) : KL (l.take i) := fun e he => h e (List.mem_of_mem_take he)
theorem getM_self {m : List En} {e : En} (hd : m.Pairwise fun a b => num a.k ≠ num b.k) (he : e ∈ m) : getM m e.k = some e := by
  induction m with
  | nil => cases he
  | cons x m ih =>
    have h := List.pairwise_cons.1 hd
    unfold getM
    rw [List.find?_cons]
    by_cases hx : x.k = e.k
    · rcases List.mem_cons.1 he with rfl | he'
      · simp
      · exact absurd (congrArg num hx) (h.1 e he')
    · rw [show (x.k == e.k) = false by simpa using hx]
      rcases List.mem_cons.1 he with rfl | he'
      · exact absurd rfl hx
      · exact ih h.2 he'

theorem Put2_c {X : Nat → Prop} {w : World} {bh bc : Nat} {bits c0 : Int} {T : Tr} {M : List En} {k lv : List UInt8} {s : Value} (hX : ∀ b, X b → b < w.heap.size) (ho0 : Blk w bc 108 ([.int .i64 c0])) (hf0 : Rob (fun c_ => X c_ ∨ c_ = bc) (HAt bh bc bits) w) (hf1 : Rob (fun c_ => X c_ ∨ c_ = bc) (TrA bits T) w) (hf2 : Rob (fun c_ => X c_ ∨ c_ = bc) (Rounds) w) (hbits : 0 ≤ bits ∧ bits ≤ 256) (hk : k.length = 32) (hla : lv.length ≤ 1000000) (hw : Rob (fun c => c = bc) (SlB s lv) w) (hT : T.er = grow 0 M) (hkM : KL M) (hs : Srt M) (hml : M.length ≤ 100000000) :
    Ret Tryz.prog 26 [.pointer (some ⟨bh, 0, none⟩), T.ptr, .agg (kc k ++ [s]).toArray].toArray w fun v w' => ∃ (T : Tr) (m : Int), v = T.ptr ∧ T.er = grow 0 (putM M ⟨k, s, lv⟩) ∧ Out (· = bc) w w' ∧ Blk w' bc 108 [.int .i64 m] ∧ Rob (fun c => X c ∨ c = bc) (TrA bits T) w' := by
  refine Ret.of_body (N := 11) Tryz.func26 rfl rfl (by simp) ?_
  have H := St.begin1 (b := bc) (t := 108) (l := [.int .i64 c0]) hX ho0
  replace H := H.add (rob1 hf2)
  replace H := H.add (rob1 hf1)
  replace H := H.add (rob1 hf0)
  have hs1 : s.oneCell' = true := SlC.one1 hw.here
  refine WE.seq_reg ?_
  refine WL.box (l := kc k ++ [s]) H rfl (rfl) rfl ?_
  intro b5 w1 H
  refine WL.as rfl rfl ?_
  refine WL.nil ?_
  refine WE.seq_reg ?_
  refine WL.mv rfl rfl ?_
  refine WL.mv rfl rfl ?_
  refine WL.loadR rfl TryzT.ag34 rfl rfl (by exact Blk.segAt (H.l 0 rfl) (Seg.all _) (by rfl)) (by (rw [TryzT.sz34]; refine congrArg some ?_; (simp only [kc_length, kw_length, List.length_replicate, List.length_append, List.length_cons, List.length_nil, cutI_length, shaOf_length, dig_length, valD_length, rootM_length]; omega))) ?_
  refine WL.call TryzT.fb55 rfl (putAt_c (M := M) (k := k) (lv := lv) (s := s) (d := 0) (bits := bits) H.yylt (H.o 0 rfl) (by exact H.robOld 0 rfl 0 rfl) (by exact H.robOld 0 rfl 1 rfl) (by exact H.robOld 0 rfl 2 rfl) hbits hk hla (H.weak H.toOut hw rfl) hT (hs.pm hkM) hs (Near.zero _ _) hml) ?_
  rintro _ w2 ⟨Tv10, mv10, rfl, hTv10, hO, hB, hR⟩
  replace H := H.calledOR 0 rfl hO hB hR
  refine WL.as rfl rfl ?_
  refine WL.nil ?_
  refine WE.ret ?_
  refine ⟨[_], _, .nil _, ⟨rfl, trivial⟩, ?_⟩
  exact ⟨Tv10, _, rfl, hTv10, H.toOut1, H.o 0 rfl, H.giveO (H.rob 0 rfl)⟩

end Go.Sp.Tryz

