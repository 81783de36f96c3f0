/- Walks of functions, printed by a program of this session (gen.py) from notes on each function. -/
import Derived.Test.YtcfkkhljekopgaaDoorNb
set_option maxRecDepth 100000
set_option maxHeartbeats 1000000
set_option linter.unusedVariables false
set_option linter.unusedSimpArgs false
namespace Go.Sp.Tryd
open Go.Proofs Go.RowKit Go.Sp

theorem Digest_c {X : Nat → Prop} {w : World} {bh bc : Nat} {bits n : Int} {T : Tr} (hX : ∀ b, X b → b < w.heap.size) (ho0 : Blk w bc 86 [.int .i64 n]) (hf0 : Rob (fun c => X c ∨ c = bc) (HAt bh bc bits) w)
    (hf1 : Rob (fun c => X c ∨ c = bc) (TrA bits T) w) (hf2 : Rob (fun c => X c ∨ c = bc) Rounds w) (hbits : 0 ≤ bits ∧ bits ≤ 256) :
    Ret Tryd.prog 31 [.pointer (some ⟨bh, 0, none⟩), T.ptr].toArray w fun v w' => ∃ m, v = .agg (kc (T.er.dig bits)).toArray ∧ Out (· = bc) w w' ∧ Blk w' bc 86 [.int .i64 m] := by
  have old : ∀ {w' : World}, Out Nil w w' → Out (· = bc) w w' ∧ Blk w' bc 86 [.int .i64 n] := fun hO => ⟨hO.mono fun _ _ h => h.elim, ho0.of_eq (hO.block _ ho0.lt id)⟩
  cases T with
  | nil => exact DigestNil_c hX ho0 hf0 hf2 hbits
  | leaf a k v s =>
    refine (DigestAt_c (X := Nil) (D := leafD bits k v) (nilX _) ((hf1.imp fun _ h => h.2.2.2).nil) (cutI_length _ _)).mono ?_
    rintro v w' ⟨rfl, hO⟩
    exact ⟨n, rfl, old hO⟩
  | inner a l r =>
    refine (DigestAt_c (X := Nil) (D := nodeD bits (l.er.dig bits) (r.er.dig bits)) (nilX _) ((hf1.imp fun _ h => h.2.2).nil) (cutI_length _ _)).mono ?_
    rintro v w' ⟨rfl, hO⟩
    exact ⟨n, rfl, old hO⟩

theorem JoinI_c {X : Nat → Prop} {w : World} {bh bc : Nat} {bits n : Int} {l r : Tr} (hX : ∀ b, X b → b < w.heap.size) (ho0 : Blk w bc 86 ([.int .i64 n])) (hf0 : Rob (fun c_ => X c_ ∨ c_ = bc) (HAt bh bc bits) w) (hf1 : Rob (fun c_ => X c_ ∨ c_ = bc) (TrA bits l) w) (hf2 : Rob (fun c_ => X c_ ∨ c_ = bc) (TrA bits r) w) (hf3 : Rob (fun c_ => X c_ ∨ c_ = bc) (Rounds) w) (hbits : 0 ≤ bits ∧ bits ≤ 256) (hA : l.addr.isNone = true → r.er.kind = 2) (hB_ : r.addr.isNone = true → l.er.kind = 2) (hcnt : l.er.cnt + r.er.cnt ≤ 1000000000) :
    Ret Tryd.prog 34 [.pointer (some ⟨bh, 0, none⟩), l.ptr, r.ptr].toArray w fun v w' => ∃ (T : Tr) (m : Int), v = T.ptr ∧ T.er = .inner l.er r.er ∧ Out (· = bc) w w' ∧ Blk w' bc 86 [.int .i64 m] ∧ Rob (fun c => X c ∨ c = bc) (TrA bits T) w' := by
  refine Ret.of_body (N := 44) Tryd.func34 rfl rfl (by simp) ?_
  have H := St.begin1 (b := bc) (t := 86) (l := [.int .i64 n]) hX ho0
  replace H := H.add (rob1 hf3)
  replace H := H.add (rob1 hf2)
  replace H := H.add (rob1 hf1)
  replace H := H.add (rob1 hf0)
  refine WE.seq_reg ?_
  refine WL.as rfl rfl ?_
  refine WL.nil ?_
  refine WE.cut (α := Unit) [6, 8, 9, 10, 11, 12, 13, 14, 15] (fun _ => []) (fun _ wl => St X w wl [Ent.blk bc 86 [.int .i64 n]] [] [HAt bh bc bits, TrA bits l, TrA bits r, Rounds]) ?_ ?_
  · skip
    refine WE.seq_reg ?_
    refine WL.mv rfl rfl ?_
    refine WL.pv (PV.eqlPn rfl TrydT.pt47 rfl rfl) rfl ?_
    refine WL.mv rfl rfl ?_
    refine WL.split (t := 10) rfl (fun hg10 => ?_) (fun hg10 => ?_)
    · skip
      refine WL.known (t := 9) (c := true) rfl hg10 ?_
      try simp only [decide_eq_true_eq, decide_eq_false_iff_not, ne_eq, Decidable.not_not, Bool.not_eq_true', Bool.not_eq_false', Bool.and_eq_true, Bool.or_eq_true, Bool.not_not, Bool.and_eq_false_iff, Bool.or_eq_false_iff, Int.not_lt, Int.not_le] at hg10
      refine WL.mv rfl rfl ?_
      refine WL.call TrydT.fb40 rfl (NKind_c (X := Nil) (T := r) (nilX _) (by exact (H.rob 2 rfl).nil)) ?_
      rintro _ w1 ⟨rfl, hO⟩
      replace H := H.out hO
      refine WL.pv (PV.neq rfl rfl rfl) rfl ?_
      refine WL.pv (PV.pick_t rfl rfl rfl) rfl ?_
      refine WL.nil ?_
      refine WE.cond_f' rfl (by simp [hA hg10]) ?_
      refine WE.skip ?_
      exact ⟨(), (by repeat (first | with_reducible exact Off.refl _ _ | refine Off.upd rfl ?_)), trivial, rfl, H⟩
    · skip
      refine WL.known (t := 9) (c := false) rfl hg10 ?_
      try simp only [decide_eq_true_eq, decide_eq_false_iff_not, ne_eq, Decidable.not_not, Bool.not_eq_true', Bool.not_eq_false', Bool.and_eq_true, Bool.or_eq_true, Bool.not_not, Bool.and_eq_false_iff, Bool.or_eq_false_iff, Int.not_lt, Int.not_le] at hg10
      refine WL.off rfl ?_
      refine WL.off rfl ?_
      refine WL.off rfl ?_
      refine WL.pv (PV.pick_f rfl rfl rfl) rfl ?_
      refine WL.nil ?_
      refine WE.cond_f rfl ?_
      refine WE.skip ?_
      exact ⟨(), (by repeat (first | with_reducible exact Off.refl _ _ | refine Off.upd rfl ?_)), trivial, rfl, H⟩
  · skip
    intro _ γ w2 hI
    try dsimp only at hI
    replace H := hI
    refine WE.cut (α := Unit) [6, 16, 17, 18, 19, 20, 21, 22, 23] (fun _ => []) (fun _ wl => St X w wl [Ent.blk bc 86 [.int .i64 n]] [] [HAt bh bc bits, TrA bits l, TrA bits r, Rounds]) ?_ ?_
    · skip
      refine WE.seq_reg ?_
      refine WL.mv rfl rfl ?_
      refine WL.pv (PV.eqlPn rfl TrydT.pt47 rfl rfl) rfl ?_
      refine WL.mv rfl rfl ?_
      refine WL.split (t := 18) rfl (fun hg18 => ?_) (fun hg18 => ?_)
      · skip
        refine WL.known (t := 17) (c := true) rfl hg18 ?_
        try simp only [decide_eq_true_eq, decide_eq_false_iff_not, ne_eq, Decidable.not_not, Bool.not_eq_true', Bool.not_eq_false', Bool.and_eq_true, Bool.or_eq_true, Bool.not_not, Bool.and_eq_false_iff, Bool.or_eq_false_iff, Int.not_lt, Int.not_le] at hg18
        refine WL.mv rfl rfl ?_
        refine WL.call TrydT.fb40 rfl (NKind_c (X := Nil) (T := l) (nilX _) (by exact (H.rob 1 rfl).nil)) ?_
        rintro _ w3 ⟨rfl, hO⟩
        replace H := H.out hO
        refine WL.pv (PV.neq rfl rfl rfl) rfl ?_
        refine WL.pv (PV.pick_t rfl rfl rfl) rfl ?_
        refine WL.nil ?_
        refine WE.cond_f' rfl (by simp [hB_ hg18]) ?_
        refine WE.skip ?_
        exact ⟨(), (by repeat (first | with_reducible exact Off.refl _ _ | refine Off.upd rfl ?_)), trivial, rfl, H⟩
      · skip
        refine WL.known (t := 17) (c := false) rfl hg18 ?_
        try simp only [decide_eq_true_eq, decide_eq_false_iff_not, ne_eq, Decidable.not_not, Bool.not_eq_true', Bool.not_eq_false', Bool.and_eq_true, Bool.or_eq_true, Bool.not_not, Bool.and_eq_false_iff, Bool.or_eq_false_iff, Int.not_lt, Int.not_le] at hg18
        refine WL.off rfl ?_
        refine WL.off rfl ?_
        refine WL.off rfl ?_
        refine WL.pv (PV.pick_f rfl rfl rfl) rfl ?_
        refine WL.nil ?_
        refine WE.cond_f rfl ?_
        refine WE.skip ?_
        exact ⟨(), (by repeat (first | with_reducible exact Off.refl _ _ | refine Off.upd rfl ?_)), trivial, rfl, H⟩
    · skip
      intro _ γ w4 hI
      try dsimp only at hI
      replace H := hI
      refine WE.seq_reg ?_
      refine WL.mv rfl rfl ?_
      refine WL.mv rfl rfl ?_
      refine WL.pv (PV.eq (v' := .agg [l.ptr, r.ptr].toArray) (PV.buildA rfl TrydT.ar105 TrydT.sz47 TrydT.ze105 (Fl.cons rfl (by rfl) (by (simp only [kc_length, kw_length, List.length_replicate, List.length_append, List.length_cons, List.length_nil, cutI_length, shaOf_length, dig_length, valD_length, Tr.vd_length, Tr.ld_length, Tr.rd_length]; done)) (Laid.oneA 0 (by (simp only [kc_length, kw_length, List.length_replicate, List.length_append, List.length_cons, List.length_nil, cutI_length, shaOf_length, dig_length, valD_length, Tr.vd_length, Tr.ld_length, Tr.rd_length]; omega))) (Fl.cons rfl (by rfl) (by (simp only [kc_length, kw_length, List.length_replicate, List.length_append, List.length_cons, List.length_nil, cutI_length, shaOf_length, dig_length, valD_length, Tr.vd_length, Tr.ld_length, Tr.rd_length]; done)) (Laid.oneA 1 (by (simp [kc_length, kw_length, *]; done))) Fl.nil))) rfl) rfl ?_
      refine WL.alloc H rfl TrydT.ze105 rfl ?_
      intro b7 w5 H
      refine WL.storeL H 0 rfl rfl rfl (new := _) rfl (by exact TrydT.sz105) (by exact one_lit _ rfl) (Laid.at (Laid.all (by (simp only [kc_length, kw_length, List.length_replicate, List.length_append, List.length_cons, List.length_nil, cutI_length, shaOf_length, dig_length, valD_length, Tr.vd_length, Tr.ld_length, Tr.rd_length]; done))) (by rfl)) rfl ?_
      intro w6 H
      refine WL.nil ?_
      refine WE.seq_draw (.take 0 (.take 1 (.take 2 (.take 3 (.take 5 (.take 6 (.take 9 (.take 11 (.pick1 4 (.pick1 7 (.take 8 (.pick1 10 (.pick1 12 (.take 13 (.take 14 (.take 15 (.pick1 16 (.take 17 .done)))))))))))))))))) TrydT.mixed (by kernel_rfl) ?_
      replace H := H.out (Out.drew _)
      refine WP.mv rfl rfl rfl ?_
      refine WP.readA rfl rfl rfl TrydT.ag105 rfl (by exact Blk.segAt (H.l 0 rfl) (Seg.all _) (by rfl)) (by exact TrydT.sz105) ?_
      refine WP.mv rfl rfl rfl ?_
      refine WP.mv rfl rfl rfl ?_
      refine WP.mv rfl rfl rfl ?_
      refine WP.mv rfl rfl rfl ?_
      refine WP.mv rfl rfl rfl ?_
      refine WP.mv rfl rfl rfl ?_
      refine WP.pick1 rfl ?_
      refine WL.call TrydT.fb31 rfl (Digest_c (T := l) H.yylt (H.o 0 rfl) (by exact H.robOld 0 rfl 0 rfl) (by exact H.robOld 0 rfl 1 rfl) (by exact H.robOld 0 rfl 3 rfl) hbits) ?_
      rintro _ w7 ⟨mv31, rfl, hO, hB⟩
      replace H := H.calledO 0 rfl hO hB
      refine WL.nil ⟨(List.forall_mem_cons.2 ⟨(fun _ _ => (by exact Blk.segAt (H.l 0 rfl) (Seg.all _) (by rfl))), (fun _ h => by cases h)⟩), ?_⟩
      refine WP.pick1 rfl ?_
      refine WL.call TrydT.fb31 rfl (Digest_c (T := r) H.yylt (H.o 0 rfl) (by exact H.robOld 0 rfl 0 rfl) (by exact H.robOld 0 rfl 2 rfl) (by exact H.robOld 0 rfl 3 rfl) hbits) ?_
      rintro _ w8 ⟨mv34, rfl, hO, hB⟩
      replace H := H.calledO 0 rfl hO hB
      refine WL.nil ⟨(List.forall_mem_cons.2 ⟨(fun _ _ => (by exact Blk.segAt (H.l 0 rfl) (Seg.all _) (by rfl))), (fun _ h => by cases h)⟩), ?_⟩
      refine WP.take_pure rfl rfl (PV.buildA rfl TrydT.ar107 TrydT.sz29 TrydT.ze107 (Fl.cons rfl (by rfl) (by (simp only [kc_length, kw_length, List.length_replicate, List.length_append, List.length_cons, List.length_nil, cutI_length, shaOf_length, dig_length, valD_length, Tr.vd_length, Tr.ld_length, Tr.rd_length]; done)) (Laid.left (Laid.all (by (simp only [kc_length, kw_length, List.length_replicate, List.length_append, List.length_cons, List.length_nil, cutI_length, shaOf_length, dig_length, valD_length, Tr.vd_length, Tr.ld_length, Tr.rd_length]; done)))) (Fl.cons rfl (by rfl) (by (simp only [kc_length, kw_length, List.length_replicate, List.length_append, List.length_cons, List.length_nil, cutI_length, shaOf_length, dig_length, valD_length, Tr.vd_length, Tr.ld_length, Tr.rd_length]; done)) (Laid.right (Laid.all (by (simp only [kc_length, kw_length, List.length_replicate, List.length_append, List.length_cons, List.length_nil, cutI_length, shaOf_length, dig_length, valD_length, Tr.vd_length, Tr.ld_length, Tr.rd_length]; done))) (by (simp only [kc_length, kw_length, List.length_replicate, List.length_append, List.length_cons, List.length_nil, cutI_length, shaOf_length, dig_length, valD_length, Tr.vd_length, Tr.ld_length, Tr.rd_length]; done))) Fl.nil))) ?_
      refine WP.pick1 rfl ?_
      refine WL.call TrydT.fb36 rfl (Len_c (X := Nil) (T := l) (nilX _) (by exact (H.rob 1 rfl).nil)) ?_
      rintro _ w9 ⟨rfl, hO⟩
      replace H := H.out hO
      refine WL.nil ⟨(List.forall_mem_cons.2 ⟨(fun _ _ => (by exact Blk.segAt (H.l 0 rfl) (Seg.all _) (by rfl))), (fun _ h => by cases h)⟩), ?_⟩
      refine WP.pick1 rfl ?_
      refine WL.call TrydT.fb36 rfl (Len_c (X := Nil) (T := r) (nilX _) (by exact (H.rob 2 rfl).nil)) ?_
      rintro _ w10 ⟨rfl, hO⟩
      replace H := H.out hO
      refine WL.nil ⟨(List.forall_mem_cons.2 ⟨(fun _ _ => (by exact Blk.segAt (H.l 0 rfl) (Seg.all _) (by rfl))), (fun _ h => by cases h)⟩), ?_⟩
      refine WP.take_pure rfl rfl (PV.eq (v' := .int .i64 ((l.er.cnt + r.er.cnt : Nat) : Int)) (PV.add64 rfl rfl rfl (by omega) (by omega)) (by congr 1)) ?_
      refine WP.take_pure rfl rfl (PV.buildS rfl TrydT.pl109 TrydT.ze109 (Fl.cons rfl (by rfl) (by (simp only [kc_length, kw_length, List.length_replicate, List.length_append, List.length_cons, List.length_nil, cutI_length, shaOf_length, dig_length, valD_length, Tr.vd_length, Tr.ld_length, Tr.rd_length]; done)) (Laid.left (Laid.all (by (simp only [kc_length, kw_length, List.length_replicate, List.length_append, List.length_cons, List.length_nil, cutI_length, shaOf_length, dig_length, valD_length, Tr.vd_length, Tr.ld_length, Tr.rd_length]; done)))) (Fl.cons rfl (by rfl) (by (simp only [kc_length, kw_length, List.length_replicate, List.length_append, List.length_cons, List.length_nil, cutI_length, shaOf_length, dig_length, valD_length, Tr.vd_length, Tr.ld_length, Tr.rd_length]; done)) (Laid.right (Laid.left (Laid.all (by (simp only [kc_length, kw_length, List.length_replicate, List.length_append, List.length_cons, List.length_nil, cutI_length, shaOf_length, dig_length, valD_length, Tr.vd_length, Tr.ld_length, Tr.rd_length]; done)))) (by (simp only [kc_length, kw_length, List.length_replicate, List.length_append, List.length_cons, List.length_nil, cutI_length, shaOf_length, dig_length, valD_length, Tr.vd_length, Tr.ld_length, Tr.rd_length]; done))) (Fl.cons rfl (by rfl) (by (simp only [kc_length, kw_length, List.length_replicate, List.length_append, List.length_cons, List.length_nil, cutI_length, shaOf_length, dig_length, valD_length, Tr.vd_length, Tr.ld_length, Tr.rd_length]; done)) (Laid.right (Laid.right (Laid.all (by (simp only [kc_length, kw_length, List.length_replicate, List.length_append, List.length_cons, List.length_nil, cutI_length, shaOf_length, dig_length, valD_length, Tr.vd_length, Tr.ld_length, Tr.rd_length]; done))) (by with_reducible rfl)) (by (simp only [kc_length, kw_length, List.length_replicate, List.length_append, List.length_cons, List.length_nil, cutI_length, shaOf_length, dig_length, valD_length, Tr.vd_length, Tr.ld_length, Tr.rd_length]; done))) Fl.nil)))) ?_
      refine WP.take_pure rfl rfl (PV.mkIface rfl TrydT.cn109) ?_
      refine WP.pick1 rfl ?_
      refine WL.call TrydT.fb74 rfl (withInner_c (d := l.er.dig bits) (e := r.er.dig bits) (x := l.ptr) (y := r.ptr) H.yylt (H.o 0 rfl) (by exact H.robOld 0 rfl 0 rfl) (by exact H.robOld 0 rfl 3 rfl) hbits (dig_length _ _) (dig_length _ _)) ?_
      rintro _ w11 ⟨a2, m2, rfl, hO, hB, hR⟩
      replace H := H.calledOR 0 rfl hO hB hR
      refine WL.nil ⟨(List.forall_mem_cons.2 ⟨(by exact (fun h => absurd (show waits _ 16 1 = false from h) (by decide +kernel))), (fun _ h => by cases h)⟩), ?_⟩
      refine WP.as rfl rfl rfl ?_
      refine WP.done ?_
      refine WE.ret ?_
      refine ⟨[_], _, .nil _, ⟨rfl, trivial⟩, ?_⟩
      exact ⟨.inner a2 l r, m2, rfl, rfl, H.toOut1, H.o 0 rfl, (H.giveO (Rob.and3 (H.rob 2 rfl) (H.rob 3 rfl) (H.rob 0 rfl))).imp fun _ h => h⟩

theorem JoinL_c {X : Nat → Prop} {w : World} {h : Value} {bits : Int} {r : Tr} (hX : ∀ b, X b → b < w.heap.size) (hf0 : Rob X (TrA bits r) w) (hk : r.er.kind ≠ 2) :
    Ret Tryd.prog 34 [h, .pointer none, r.ptr].toArray w fun v w' => v = r.ptr ∧ Out Nil w w' := by
  refine Ret.of_body (N := 44) Tryd.func34 rfl rfl (by simp) ?_
  have H := St.begin hX
  replace H := H.add (rob0 hf0)
  refine WE.seq_reg ?_
  refine WL.as rfl rfl ?_
  refine WL.nil ?_
  refine WE.seq ?_
  refine WE.seq_reg ?_
  refine WL.mv rfl rfl ?_
  refine WL.pv (PV.eqlPn rfl TrydT.pt47 rfl rfl) rfl ?_
  refine WL.mv rfl rfl ?_
  refine WL.known (t := 10) (c := true) rfl rfl ?_
  refine WL.mv rfl rfl ?_
  refine WL.call TrydT.fb40 rfl (NKind_c (T := r) H.yylt (H.rob 0 rfl)) ?_
  rintro _ w1 ⟨rfl, hO⟩
  replace H := H.out hO
  refine WL.pv (PV.neq rfl rfl rfl) rfl ?_
  refine WL.pv (PV.pick_t rfl rfl rfl) rfl ?_
  refine WL.nil ?_
  refine WE.cond_t' rfl (by simp [hk]) ?_
  refine WE.seq_reg ?_
  refine WL.mv rfl rfl ?_
  refine WL.as rfl rfl ?_
  refine WL.nil ?_
  refine WE.ret ?_
  refine ⟨[_], _, .nil _, ⟨rfl, trivial⟩, ?_⟩
  exact ⟨rfl, H.toOut0⟩

theorem JoinR_c {X : Nat → Prop} {w : World} {h : Value} {bits : Int} {l : Tr} (hX : ∀ b, X b → b < w.heap.size) (hf0 : Rob X (TrA bits l) w) (hn : l.addr.isNone = false) (hk : l.er.kind ≠ 2) :
    Ret Tryd.prog 34 [h, l.ptr, .pointer none].toArray w fun v w' => v = l.ptr ∧ Out Nil w w' := by
  refine Ret.of_body (N := 44) Tryd.func34 rfl rfl (by simp) ?_
  have H := St.begin hX
  replace H := H.add (rob0 hf0)
  refine WE.seq_reg ?_
  refine WL.as rfl rfl ?_
  refine WL.nil ?_
  refine WE.seq ?_
  refine WE.seq_reg ?_
  refine WL.mv rfl rfl ?_
  refine WL.pv (PV.eqlPn rfl TrydT.pt47 rfl rfl) rfl ?_
  refine WL.mv rfl rfl ?_
  refine WL.known (t := 10) (c := false) rfl hn ?_
  refine WL.off rfl ?_
  refine WL.off rfl ?_
  refine WL.off rfl ?_
  refine WL.pv (PV.pick_f rfl rfl rfl) rfl ?_
  refine WL.nil ?_
  refine WE.cond_f rfl ?_
  refine WE.skip ?_
  refine WE.seq ?_
  refine WE.seq_reg ?_
  refine WL.mv rfl rfl ?_
  refine WL.pv (PV.eqlPn rfl TrydT.pt47 rfl rfl) rfl ?_
  refine WL.mv rfl rfl ?_
  refine WL.known (t := 18) (c := true) rfl rfl ?_
  refine WL.mv rfl rfl ?_
  refine WL.call TrydT.fb40 rfl (NKind_c (T := l) H.yylt (H.rob 0 rfl)) ?_
  rintro _ w1 ⟨rfl, hO⟩
  replace H := H.out hO
  refine WL.pv (PV.neq rfl rfl rfl) rfl ?_
  refine WL.pv (PV.pick_t rfl rfl rfl) rfl ?_
  refine WL.nil ?_
  refine WE.cond_t' rfl (by simp [hk]) ?_
  refine WE.seq_reg ?_
  refine WL.mv rfl rfl ?_
  refine WL.as rfl rfl ?_
  refine WL.nil ?_
  refine WE.ret ?_
  refine ⟨[_], _, .nil _, ⟨rfl, trivial⟩, ?_⟩
  exact ⟨rfl, H.toOut0⟩


theorem Tr.nil_of {T : Tr} (h : T.addr.isNone = true) : T = .nil := by cases T <;> first | rfl | cases h
theorem Tr.addr_not {T : Tr} (h : T ≠ .nil) : T.addr.isNone = false := by cases T <;> first | rfl | exact absurd rfl h
theorem joinS_l {s : Sh} (h : s.kind ≠ 2) : joinS .nil s = s := by cases s <;> first | rfl | exact absurd rfl h
theorem joinS_r {s : Sh} (h : s.kind ≠ 2) : joinS s .nil = s := by cases s <;> first | rfl | exact absurd rfl h
theorem joinS_i {s t : Sh} (h1 : s = .nil → t.kind = 2) (h2 : t = .nil → s.kind = 2) : joinS s t = .inner s t := by
  cases s <;> cases t <;> first | rfl | (have := h1 rfl; simp [Sh.kind] at this; done) | (have := h2 rfl; simp [Sh.kind] at this)
theorem Join_c {X : Nat → Prop} {w : World} {bh bc : Nat} {bits n : Int} {l r : Tr} (hX : ∀ b, X b → b < w.heap.size) (ho0 : Blk w bc 86 [.int .i64 n]) (hf0 : Rob (fun c => X c ∨ c = bc) (HAt bh bc bits) w)
    (hf1 : Rob (fun c => X c ∨ c = bc) (TrA bits l) w) (hf2 : Rob (fun c => X c ∨ c = bc) (TrA bits r) w) (hf3 : Rob (fun c => X c ∨ c = bc) Rounds w) (hbits : 0 ≤ bits ∧ bits ≤ 256) (hcnt : l.er.cnt + r.er.cnt ≤ 1000000000) :
    Ret Tryd.prog 34 [.pointer (some ⟨bh, 0, none⟩), l.ptr, r.ptr].toArray w fun v w' => ∃ (T : Tr) (m : Int), v = T.ptr ∧ T.er = joinS l.er r.er ∧ Out (· = bc) w w' ∧ Blk w' bc 86 [.int .i64 m] ∧ Rob (fun c => X c ∨ c = bc) (TrA bits T) w' := by
  have old : ∀ {w' : World}, Out Nil w w' → Out (· = bc) w w' ∧ Blk w' bc 86 [.int .i64 n] := fun hO => ⟨hO.mono fun _ _ h => h.elim, ho0.of_eq (hO.block _ ho0.lt id)⟩
  have rob : ∀ {w' : World} {T : Tr}, Rob (fun c => X c ∨ c = bc) (TrA bits T) w → Out Nil w w' → Rob (fun c => X c ∨ c = bc) (TrA bits T) w' := fun h hO => h.out hO (fun _ _ h => h.elim) fun _ _ h => h
  by_cases h1 : l = .nil ∧ r.er.kind ≠ 2
  · obtain ⟨rfl, hk⟩ := h1
    refine (JoinL_c (X := Nil) (nilX _) hf2.nil hk).mono ?_
    rintro v w' ⟨rfl, hO⟩
    exact ⟨r, n, rfl, (joinS_l hk).symm, (old hO).1, (old hO).2, rob hf2 hO⟩
  · by_cases h2 : r = .nil ∧ l.er.kind ≠ 2
    · obtain ⟨rfl, hk⟩ := h2
      have hn : l ≠ .nil := fun e => h1 ⟨e, by simp [Tr.er, Sh.kind]⟩
      refine (JoinR_c (X := Nil) (nilX _) hf1.nil (Tr.addr_not hn) hk).mono ?_
      rintro v w' ⟨rfl, hO⟩
      exact ⟨l, n, rfl, (joinS_r hk).symm, (old hO).1, (old hO).2, rob hf1 hO⟩
    · have e1 : l = .nil → r.er.kind = 2 := fun e => Decidable.byContradiction fun h => h1 ⟨e, h⟩
      have e2 : r = .nil → l.er.kind = 2 := fun e => Decidable.byContradiction fun h => h2 ⟨e, h⟩
      refine (JoinI_c hX ho0 hf0 hf1 hf2 hf3 hbits (fun h => e1 (Tr.nil_of h)) (fun h => e2 (Tr.nil_of h)) hcnt).mono ?_
      rintro v w' ⟨T, m, rfl, hT, h⟩
      refine ⟨T, m, rfl, ?_, h⟩
      rw [hT, joinS_i]
      · intro e; cases l <;> first | exact e1 rfl | cases e
      · intro e; cases r <;> first | exact e2 rfl | cases e

end Go.Sp.Tryd
