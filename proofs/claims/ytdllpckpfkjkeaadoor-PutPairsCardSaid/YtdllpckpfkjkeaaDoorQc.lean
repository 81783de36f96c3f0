/- Walks of functions, printed by a program of this session (gen.py) from notes on each function. -/
import Derived.Test.YtdllpckpfkjkeaaDoorQb
set_option maxRecDepth 100000
set_option maxHeartbeats 1000000
set_option linter.unusedVariables false
set_option linter.unusedSimpArgs false
namespace Go.Sp.Tryd
open Go.Proofs Go.RowKit Go.Sp

/-- what stands at the way's end -/
theorem end_cases (F : Tr) (h : F.er.kind ≠ 2) : F = .nil ∨ ∃ a q u s, F = .leaf a q u s := by
  cases F with
  | nil => exact .inl rfl
  | leaf a q u s => exact .inr ⟨a, q, u, s, rfl⟩
  | inner => exact absurd rfl h
theorem bes_sum {k : List UInt8} {d : Nat} {T : Tr} (e : Sh) (hc : T.er.cnt ≤ 100000000) (he : e.cnt ≤ 2) : e.cnt + (((besL T k d (T.dp k d)).map Tr.er).map Sh.cnt).sum ≤ 1000000000 := by
  have := bes_cnt k _ d T rfl
  rw [List.map_map]
  show e.cnt + ((besL T k d (T.dp k d)).map fun b => b.er.cnt).sum ≤ _
  omega
theorem putS_end {k v : List UInt8} {d : Nat} {T : Tr} {e : Sh} (he : putS k v (T.dp k d + d) (T.atN k d (T.dp k d)).er = e) : upS k d ((besL T k d (T.dp k d)).map Tr.er) e = putS k v d T.er := by
  rw [putS_up k v _ d T rfl, he]
theorem near_end {T : Tr} {m : List En} {k q u : List UInt8} {d a : Nat} {s : Value} (hT : T.er = grow d m) (hp : Pm d m) (hn : Near d m k) (hF : T.atN k d (T.dp k d) = .leaf a q u s) : T.dp k d + d ≤ comN q k := by
  have h : ∀ i, i ≤ T.dp k d → Near (i + d) (atM k d m i) k := by
    intro i
    induction i with
    | zero => intro _; rw [Nat.zero_add]; exact hn
    | succ i ih =>
      intro hi
      have hl := at_len (k := k) hT hp (i := i) (by omega)
      have := (ih (by omega)).part hl.2
      rwa [show i + d + 1 = i + 1 + d by omega] at this
  have h1 := h _ (Nat.le_refl _)
  have h2 := at_er (k := k) hT hp _ (Nat.le_refl _)
  have hl := at_end (k := k) hT hp
  rw [hF] at h2
  match hm : atM k d m (T.dp k d), hl with
  | [], _ => rw [hm, grow_nil] at h2; cases h2.1
  | [e], _ =>
    rw [hm, grow_one] at h2
    have e1 : (Sh.leaf q u) = Sh.leaf e.k e.v := h2.1
    injection e1 with e1 _
    rw [hm] at h1
    rw [e1]
    exact h1 e (by simp)
  | _ :: _ :: _, h => simp at h

theorem putAt_c {X : Nat → Prop} {w : World} {bh bc : Nat} {bits c0 : Int} {T : Tr} {M : List En} {k lv : List UInt8} {s : Value} {d : Nat} (hX : ∀ b, X b → b < w.heap.size) (ho0 : Blk w bc 127 ([.int .i64 c0])) (hf0 : Rob (fun c_ => X c_ ∨ c_ = bc) (HAt bh bc bits) w) (hf1 : Rob (fun c_ => X c_ ∨ c_ = bc) (TrA bits T) w) (hf2 : Rob (fun c_ => X c_ ∨ c_ = bc) (Rounds) w) (hbits : 0 ≤ bits ∧ bits ≤ 256) (hk : k.length = 32) (hla : lv.length ≤ 1000000) (hw : Rob (fun c => c = bc) (SlB s lv) w) (hT : T.er = grow d M) (hpm : Pm d M) (hs : Srt M) (hnr : Near d M k) (hml : M.length ≤ 100000000) :
    Ret Tryd.prog 32 [.pointer (some ⟨bh, 0, none⟩), T.ptr, .agg (kc k ++ [s]).toArray, .int .i64 (d : Int)].toArray w fun v w' => ∃ (T : Tr) (m : Int), v = T.ptr ∧ T.er = grow d (putM M ⟨k, s, lv⟩) ∧ Out (· = bc) w w' ∧ Blk w' bc 127 [.int .i64 m] ∧ Rob (fun c => X c ∨ c = bc) (TrA bits T) w' := by
  refine Ret.of_body (N := 59) Tryd.func32 rfl rfl (by simp) ?_
  have H := St.begin1 (b := bc) (t := 127) (l := [.int .i64 c0]) hX ho0
  replace H := H.add (rob1 hf2)
  replace H := H.add (rob1 hf1)
  replace H := H.add (rob1 hf0)
  have hs1 : s.oneCell' = true := SlC.one1 hw.here
  have hfit := grow_fit hpm
  rw [← hT] at hfit
  have hdp := Tr.dp_fit (k := k) _ d T rfl hfit hpm.le
  have hcn : T.er.cnt = M.length := by rw [hT]; exact hpm.cnt
  have hFk := Tr.atN_out (k := k) _ d T rfl
  refine WE.seq_reg ?_
  refine WL.box (l := [.pointer (some ⟨bh, 0, none⟩)]) H rfl (rfl) rfl ?_
  intro b4 w1 H
  refine WL.box (l := kc k ++ [s]) H rfl (rfl) rfl ?_
  intro b6 w2 H
  refine WL.box (l := [.int .i64 (d : Int)]) H rfl (rfl) rfl ?_
  intro b7 w3 H
  refine WL.as rfl rfl ?_
  refine WL.nil ?_
  refine WE.seq_reg ?_
  refine WL.alloc H rfl TrydT.ze50 rfl ?_
  intro b9 w4 H
  replace H := H.nilOsl 29 1
  refine WL.nil ?_
  refine WE.seq_reg ?_
  refine WL.load1 rfl TrydT.ag3 rfl rfl (by exact Blk.segAt (H.l 2 rfl) (Seg.all _) (by rfl)) ?_
  refine WL.as rfl rfl ?_
  refine WL.nil ?_
  refine WE.seq ?_
  refine WE.block ?_
  refine WE.loop (α := Nat × Value) [1, 10, 11, 15, 16, 17, 18, 19, 20, 21, 22, 23, 24, 25, 26, 27, 28, 29, 30, 31, 32, 33] (fun p => [(1, (T.atN k d p.1).ptr), (10, .int .i64 ((p.1 + d : Nat) : Int))]) (fun p wl => p.1 ≤ T.dp k d ∧ St X w wl [Ent.blk bc 127 [.int .i64 c0]] [Ent.osl w.heap.size p.2 29 1 p.1 ((besL T k d p.1).map Tr.ptr), Ent.blk b9 50 [p.2], Ent.blk b7 3 [.int .i64 (d : Int)], Ent.blk b6 27 (kc k ++ [s]), Ent.blk b4 32 [.pointer (some ⟨bh, 0, none⟩)]] [HAt bh bc bits, TrA bits T, Rounds]) (fun p => T.dp k d - p.1) (0, .slice none 0 0) ⟨rfl, by show Value.int .i64 _ = Value.int .i64 _; rw [Nat.zero_add], trivial⟩ ⟨Nat.zero_le _, H⟩ ?_
  intro ⟨i, q⟩ γ0 w5 hI
  try dsimp only at hI
  obtain ⟨hi, H⟩ := hI
  refine WE.seq ?_
  refine WE.seq_reg ?_
  refine WL.mv rfl rfl ?_
  refine WL.call TrydT.fb51 rfl (NKind_c (T := T.atN k d i) (bits := bits) H.yylt (by exact (H.rob 1 rfl).imp fun _ h => h.atN i)) ?_
  rintro _ w6 ⟨rfl, hO⟩
  replace H := H.out hO
  refine WL.pv (PV.eql rfl rfl rfl) rfl ?_
  refine WL.nil ?_
  refine WE.cond rfl (fun hc17 => ?_) (fun hc17 => ?_)
  · skip
    try simp only [decide_eq_true_eq, decide_eq_false_iff_not, ne_eq, Decidable.not_not, Bool.not_eq_true', Bool.not_eq_false', Bool.and_eq_true, Bool.or_eq_true, Bool.not_not, Bool.and_eq_false_iff, Bool.or_eq_false_iff, Int.not_lt, Int.not_le] at hc17
    have hlt : i < T.dp k d := by rcases Nat.lt_or_ge i (T.dp k d) with h | h; exact h; exact absurd (show (T.atN k d i).er.kind = 2 by exact hc17) (by rw [show i = T.dp k d by omega]; exact hFk)
    have hb2 := bitN_lt k (i + d)
    refine WE.skip ?_
    refine WE.seq ?_
    refine WE.block ?_
    refine WE.seq_reg ?_
    refine WL.pv (PV.fieldAddr rfl TrydT.fd27_0 rfl) rfl ?_
    refine WL.loadR rfl TrydT.ag24 rfl rfl (by exact Blk.segAt (H.l 3 rfl) (Seg.l (Seg.all _)) (by rfl)) (by (rw [TrydT.sz24]; refine congrArg some ?_; (simp only [kc_length, kw_length, List.length_replicate, List.length_append, List.length_cons, List.length_nil, cutI_length, shaOf_length, dig_length, valD_length, rootM_length]; omega))) ?_
    refine WL.mv rfl rfl ?_
    refine WL.call TrydT.fb74 rfl (bitsBit_c (k := k) (d := i + d) H.yylt  (by assumption) (by omega)) ?_
    rintro _ w7 ⟨rfl, hO⟩
    replace H := H.out hO
    refine WL.as rfl rfl ?_
    refine WL.nil ?_
    refine WE.seq_draw (.take 0 (.take 1 (.take 2 (.take 3 (.pick1 4 (.pick1 5 (.pick1 6 (.pick1 7 .done)))))))) TrydT.mixed (by kernel_rfl) ?_
    replace H := H.out (Out.drew _)
    refine WP.take_read rfl rfl (RV.loadOne rfl TrydT.ag50 rfl) (by exact Blk.segAt (H.l 1 rfl) (Seg.all _) (by rfl)) ?_
    refine WP.mv rfl rfl rfl ?_
    refine WP.mv rfl rfl rfl ?_
    refine WP.take_pure rfl rfl (PV.eq (v' := .int .i64 ((1 - bitN k (i + d) : Nat) : Int)) (PV.sub64 rfl rfl rfl (by omega) (by omega)) (by congr 1; omega)) ?_
    refine WP.pick1 rfl ?_
    refine WL.call TrydT.fb73 rfl (Child_c (T := T.atN k d i) (bits := bits) (b := 1 - bitN k (i + d)) H.yylt (by exact (H.rob 1 rfl).imp fun _ h => h.atN i)) ?_
    rintro _ w8 ⟨rfl, hO⟩
    replace H := H.out hO
    refine WL.nil ⟨(List.forall_mem_cons.2 ⟨(fun _ _ => (by exact Blk.segAt (H.l 1 rfl) (Seg.all _) (by rfl))), (fun _ h => by cases h)⟩), ?_⟩
    refine WP.pick1 rfl ?_
    refine WL.buildSliceF (l0 := [.pointer none]) H rfl TrydT.st50 (by decide) (zrow_one _ _) (Fl.cons rfl (by rfl) (by (simp only [kc_length, kw_length, List.length_replicate, List.length_append, List.length_cons, List.length_nil, cutI_length, shaOf_length, dig_length, valD_length, rootM_length]; done)) Laid.head Fl.nil) rfl ?_
    intro b29 w9 H
    refine WL.nil ⟨(List.forall_mem_cons.2 ⟨(fun _ _ => (by exact Blk.segAt (H.l 2 rfl) (Seg.all _) (by rfl))), (fun _ h => by cases h)⟩), ?_⟩
    refine WP.pick1 rfl ?_
    refine WL.append (m := 1) H 1 TrydT.st50 (by decide) rfl rfl rfl (SlC.of_blk (n := 1) (H.l 0 rfl) rfl) (one_lit _ rfl) (by omega) (by decide) rfl ?_
    intro v30 w10 H
    replace H := H.forget 0
    replace H := H.conv (L' := [Ent.osl w.heap.size v30 29 1 (i + 1) ((besL T k d (i + 1)).map Tr.ptr), Ent.blk b9 50 [q], Ent.blk b7 3 [.int .i64 (d : Int)], Ent.blk b6 27 (kc k ++ [s]), Ent.blk b4 32 [.pointer (some ⟨bh, 0, none⟩)]]) (by rw [besL_snoc, List.map_append]; rfl)
    refine WL.nil ⟨(List.forall_mem_cons.2 ⟨(by exact (fun h => absurd (show waits _ 6 0 = false from h) (by decide +kernel))), (fun _ h => by cases h)⟩), ?_⟩
    refine WP.pick1 rfl ?_
    refine WL.storeL H 1 rfl rfl rfl (new := [v30]) (cells_one (own_one (H.l 0 rfl))) (by exact TrydT.sz50) (one_sing (own_one (H.l 0 rfl))) (Laid.at (Laid.all (by (simp only [kc_length, kw_length, List.length_replicate, List.length_append, List.length_cons, List.length_nil, cutI_length, shaOf_length, dig_length, valD_length, rootM_length]; done))) (by rfl)) rfl ?_
    intro w11 H
    refine WL.nil ⟨(List.forall_mem_cons.2 ⟨(by exact (fun h => absurd (show waits _ 7 0 = false from h) (by decide +kernel))), (fun _ h => by cases h)⟩), ?_⟩
    refine WP.done ?_
    refine WE.reg ?_
    refine WL.mv rfl rfl ?_
    refine WL.mv rfl rfl ?_
    refine WL.call TrydT.fb73 rfl (Child_c (T := T.atN k d i) (bits := bits) (b := bitN k (i + d)) H.yylt (by exact (H.rob 1 rfl).imp fun _ h => h.atN i)) ?_
    rintro _ w12 ⟨rfl, hO⟩
    replace H := H.out hO
    refine WL.as rfl rfl ?_
    refine WL.nil ?_
    refine WE.reg ?_
    refine WL.mv rfl rfl ?_
    refine WL.pv (PV.eq (v' := .int .i64 ((i + 1 + d : Nat) : Int)) (PV.add64 rfl rfl rfl (by omega) (by omega)) (by congr 1; omega)) rfl ?_
    refine WL.as rfl rfl ?_
    refine WL.nil ?_
    exact ⟨(i + 1, v30), (by repeat (first | with_reducible exact Off.refl _ _ | refine Off.upd rfl ?_ | refine Off.setAll rfl ?_ | refine Off.forget' rfl ?_)), ⟨rfl, rfl, trivial⟩, rfl, ⟨by dsimp only; omega, H⟩, (by dsimp only; omega)⟩
  · skip
    try simp only [decide_eq_true_eq, decide_eq_false_iff_not, ne_eq, Decidable.not_not, Bool.not_eq_true', Bool.not_eq_false', Bool.and_eq_true, Bool.or_eq_true, Bool.not_not, Bool.and_eq_false_iff, Bool.or_eq_false_iff, Int.not_lt, Int.not_le] at hc17
    have hiD : i = T.dp k d := by rcases Nat.lt_or_ge i (T.dp k d) with h | h; exact absurd (Tr.atN_in (k := k) i d T h) (by exact hc17); omega
    subst hiD
    refine WE.exit ?_
    replace H := ((((H.freeze (i := 0) rfl).freeze (i := 0) rfl).freeze (i := 0) rfl).freeze (i := 0) rfl).freeze (i := 0) rfl
    refine WE.seq_reg ?_
    refine WL.pv (PV.makeFunc rfl) rfl ?_
    refine WL.as rfl rfl ?_
    refine WL.nil ?_
    refine WE.seq_reg ?_
    refine WL.load1 rfl TrydT.ag32 rfl rfl (by exact Blk.segAt (H.p 0 rfl) (Seg.all _) (by rfl)) ?_
    refine WL.loadR rfl TrydT.ag27 rfl rfl (by exact Blk.segAt (H.p 1 rfl) (Seg.all _) (by rfl)) (by (rw [TrydT.sz27]; refine congrArg some ?_; (simp only [kc_length, kw_length, List.length_replicate, List.length_append, List.length_cons, List.length_nil, cutI_length, shaOf_length, dig_length, valD_length, rootM_length]; omega))) ?_
    refine WL.call TrydT.fb21 rfl (NewLeafW_c (k := k) (lv := lv) (s := s) (bits := bits) H.yylt (H.o 0 rfl) (by exact H.robOld 0 rfl 5 rfl) (by exact H.robOld 0 rfl 7 rfl) hbits hla hk (H.weak H.toOut hw rfl)) ?_
    rintro _ w13 ⟨Tv37, mv37, rfl, hTv37, hO, hB, hR⟩
    replace H := H.calledOR 0 rfl hO hB hR
    obtain ⟨a37, s37, rfl⟩ := Tr.leaf_of hTv37
    refine WL.as rfl rfl ?_
    refine WL.nil ?_
    refine WE.seq ?_
    have hFkl : (T.atN k d (T.dp k d)).key.length = 32 := TrA.key_length ((hf1.here).atN _)
    have hFvd := Tr.vd_length bits (T.atN k d (T.dp k d))
    refine WE.seq_draw (.take 0 (.pick1 1 (.take 2 (.take 3 (.take 4 (.take 7 (.take 8 (.pick1 5 (.take 6 (.take 9 (.take 10 .done))))))))))) TrydT.mixed (by kernel_rfl) ?_
    replace H := H.out (Out.drew _)
    refine WP.mv rfl rfl rfl ?_
    refine WP.pick1 rfl ?_
    refine WL.call TrydT.fb51 rfl (NKind_c (T := (T.atN k d (T.dp k d))) (bits := bits) H.yylt (by exact (H.rob 7 rfl).imp fun _ h => h.atN (T.dp k d))) ?_
    rintro _ w14 ⟨rfl, hO⟩
    replace H := H.out hO
    refine WL.nil ⟨(fun _ h => by cases h), ?_⟩
    refine WP.take_pure rfl rfl (PV.eql rfl rfl rfl) ?_
    refine WP.mv rfl rfl rfl ?_
    refine WP.split (t := 41) rfl (fun hg41 => ?_) (fun hg41 => ?_)
    · skip
      refine WP.known (t := 40) (c := true) rfl hg41 ?_
      try simp only [decide_eq_true_eq, decide_eq_false_iff_not, ne_eq, Decidable.not_not, Bool.not_eq_true', Bool.not_eq_false', Bool.and_eq_true, Bool.or_eq_true, Bool.not_not, Bool.and_eq_false_iff, Bool.or_eq_false_iff, Int.not_lt, Int.not_le] at hg41
      have hFn : (T.atN k d (T.dp k d)) = .nil := by rcases end_cases (T.atN k d (T.dp k d)) hFk with h | ⟨a, q, u, s, h⟩; exact h; rw [h] at hg41; cases hg41
      have hend : putS k lv (T.dp k d + d) (T.atN k d (T.dp k d)).er = .leaf k lv := by rw [hFn]; rfl
      refine WP.take_off rfl rfl ?_
      refine WP.take_off rfl rfl ?_
      refine WP.take_off rfl rfl ?_
      refine WP.pick1 rfl ?_
      refine WL.off rfl ?_
      refine WL.nil ⟨(fun _ h => by cases h), ?_⟩
      refine WP.take_off rfl rfl ?_
      refine WP.take_off rfl rfl ?_
      refine WP.take_pure rfl rfl (PV.pick_t rfl rfl rfl) ?_
      refine WP.done ?_
      refine WE.cond_t rfl ?_
      refine WE.seq_reg ?_
      refine WL.mv rfl rfl ?_
      refine WL.mv rfl rfl ?_
      refine WL.callv TrydT.fb75 rfl rfl (up_c (E := (.leaf a37 k lv s37)) (bs := besL T k d (T.dp k d)) (k := k) (s := s) (sl := q) (d := d) (bits := bits) H.yylt (H.o 0 rfl) (by exact H.robOld 0 rfl 6 rfl) (by exact H.robOld 0 rfl 0 rfl) (by exact (H.robOld 0 rfl 7 rfl).imp fun _ h => besA h) (by exact (H.robOld 0 rfl 5 rfl).imp fun _ h => slv_own h) (by exact (H.robOld 0 rfl 4 rfl).imp fun _ h => Blk.rd h) (by exact (H.robOld 0 rfl 1 rfl).imp fun _ h => Blk.rd h) (by exact (H.robOld 0 rfl 2 rfl).imp fun _ h => Blk.rd h) (by exact (H.robOld 0 rfl 3 rfl).imp fun _ h => Blk.rd h) (by exact H.robOld 0 rfl 8 rfl) hbits hk (by rw [besL_len]; omega) (bes_sum (.leaf k lv) (by omega) (by show 1 ≤ 2; omega))) ?_
      rintro _ w15 ⟨Tv51, mv51, rfl, hTv51, hO, hB, hR⟩
      replace H := H.calledOR 0 rfl hO hB hR
      refine WL.as rfl rfl ?_
      refine WL.nil ?_
      refine WE.ret ?_
      refine ⟨[_], _, .nil _, ⟨rfl, trivial⟩, ?_⟩
      refine ⟨Tv51, _, rfl, ?_, H.toOut1, H.o 0 rfl, H.giveO (H.rob 0 rfl)⟩
      rw [hTv51]
      exact (putS_end hend).trans (hT ▸ putS_map ⟨k, s, lv⟩ hk hpm hs hnr)
    · skip
      refine WP.known (t := 40) (c := false) rfl hg41 ?_
      try simp only [decide_eq_true_eq, decide_eq_false_iff_not, ne_eq, Decidable.not_not, Bool.not_eq_true', Bool.not_eq_false', Bool.and_eq_true, Bool.or_eq_true, Bool.not_not, Bool.and_eq_false_iff, Bool.or_eq_false_iff, Int.not_lt, Int.not_le] at hg41
      obtain ⟨af, q_, u_, sf, hFe⟩ : ∃ a q u s, (T.atN k d (T.dp k d)) = .leaf a q u s := by rcases end_cases (T.atN k d (T.dp k d)) hFk with h | h; rw [h] at hg41; exact absurd rfl hg41; exact h
      have hnear := near_end hT hpm hnr hFe
      have hqk : q_.length = 32 := by rw [hFe] at hFkl; exact hFkl
      have hkeyF : (T.atN k d (T.dp k d)).key = q_ := by rw [hFe]; rfl
      refine WP.mv rfl rfl rfl ?_
      refine WP.take_pure rfl rfl (PV.fieldAddr rfl TrydT.fd27_0 rfl) ?_
      refine WP.readA rfl rfl rfl TrydT.ag24 rfl (by exact Blk.segAt (H.p 2 rfl) (Seg.l (Seg.all _)) (by rfl)) (by (rw [TrydT.sz24]; refine congrArg some ?_; (simp only [kc_length, kw_length, List.length_replicate, List.length_append, List.length_cons, List.length_nil, cutI_length, shaOf_length, dig_length, valD_length, rootM_length]; omega))) ?_
      refine WP.pick1 rfl ?_
      refine WL.call TrydT.fb66 rfl (Leaf2_c (T := (T.atN k d (T.dp k d))) (bits := bits) H.yylt (by exact (H.rob 7 rfl).imp fun _ h => h.atN (T.dp k d))) ?_
      rintro _ w16 ⟨rfl, hO⟩
      replace H := H.out hO
      refine WL.nil ⟨(List.forall_mem_cons.2 ⟨(fun _ _ => (by exact Blk.segAt (H.p 2 rfl) (Seg.l (Seg.all _)) (by rfl))), (fun _ h => by cases h)⟩), ?_⟩
      refine WP.take_pure rfl rfl (PV.fieldV rfl TrydT.fd104_0 rfl (PartAt.agg TrydT.ag24 (by (rw [TrydT.sz24]; refine congrArg some ?_; (simp only [kc_length, kw_length, List.length_replicate, List.length_append, List.length_cons, List.length_nil, cutI_length, shaOf_length, dig_length, valD_length, rootM_length]; omega))) (Seg.l (Seg.all _)))) ?_
      refine WP.take_pure rfl rfl (PV.eqlB rfl TrydT.ar24 TrydT.in5 TrydT.sz5 (by kernel_rfl) rfl rfl (by assumption) (by assumption)) ?_
      refine WP.take_pure rfl rfl (PV.pick_f rfl rfl rfl) ?_
      refine WP.done ?_
      refine WE.cond rfl (fun hc48 => ?_) (fun hc48 => ?_)
      · skip
        try simp only [decide_eq_true_eq, decide_eq_false_iff_not, ne_eq, Decidable.not_not, Bool.not_eq_true', Bool.not_eq_false', Bool.and_eq_true, Bool.or_eq_true, Bool.not_not, Bool.and_eq_false_iff, Bool.or_eq_false_iff, Int.not_lt, Int.not_le] at hc48
        have hend : putS k lv (T.dp k d + d) (T.atN k d (T.dp k d)).er = .leaf k lv := by rw [hFe]; exact if_pos (hkeyF ▸ (by exact hc48))
        refine WE.seq_reg ?_
        refine WL.mv rfl rfl ?_
        refine WL.mv rfl rfl ?_
        refine WL.callv TrydT.fb75 rfl rfl (up_c (E := (.leaf a37 k lv s37)) (bs := besL T k d (T.dp k d)) (k := k) (s := s) (sl := q) (d := d) (bits := bits) H.yylt (H.o 0 rfl) (by exact H.robOld 0 rfl 6 rfl) (by exact H.robOld 0 rfl 0 rfl) (by exact (H.robOld 0 rfl 7 rfl).imp fun _ h => besA h) (by exact (H.robOld 0 rfl 5 rfl).imp fun _ h => slv_own h) (by exact (H.robOld 0 rfl 4 rfl).imp fun _ h => Blk.rd h) (by exact (H.robOld 0 rfl 1 rfl).imp fun _ h => Blk.rd h) (by exact (H.robOld 0 rfl 2 rfl).imp fun _ h => Blk.rd h) (by exact (H.robOld 0 rfl 3 rfl).imp fun _ h => Blk.rd h) (by exact H.robOld 0 rfl 8 rfl) hbits hk (by rw [besL_len]; omega) (bes_sum (.leaf k lv) (by omega) (by show 1 ≤ 2; omega))) ?_
        rintro _ w17 ⟨Tv51, mv51, rfl, hTv51, hO, hB, hR⟩
        replace H := H.calledOR 0 rfl hO hB hR
        refine WL.as rfl rfl ?_
        refine WL.nil ?_
        refine WE.ret ?_
        refine ⟨[_], _, .nil _, ⟨rfl, trivial⟩, ?_⟩
        refine ⟨Tv51, _, rfl, ?_, H.toOut1, H.o 0 rfl, H.giveO (H.rob 0 rfl)⟩
        rw [hTv51]
        exact (putS_end hend).trans (hT ▸ putS_map ⟨k, s, lv⟩ hk hpm hs hnr)
      · skip
        try simp only [decide_eq_true_eq, decide_eq_false_iff_not, ne_eq, Decidable.not_not, Bool.not_eq_true', Bool.not_eq_false', Bool.and_eq_true, Bool.or_eq_true, Bool.not_not, Bool.and_eq_false_iff, Bool.or_eq_false_iff, Int.not_lt, Int.not_le] at hc48
        have hqne : q_ ≠ k := hkeyF ▸ (by exact hc48)
        have hcm : comN q_ k < 256 := by rcases Nat.lt_or_ge (comN q_ k) 256 with h | h; exact h; exact absurd ((comN_full hqk hk).1 h) hqne
        refine WE.skip ?_
        refine WE.seq_reg ?_
        refine WL.mv rfl rfl ?_
        refine WL.load1 rfl TrydT.ag32 rfl rfl (by exact Blk.segAt (H.p 1 rfl) (Seg.all _) (by rfl)) ?_
        refine WL.mv rfl rfl ?_
        refine WL.mv rfl rfl ?_
        refine WL.mv rfl rfl ?_
        rw [hFe]
        refine WL.call TrydT.fb24 rfl (Pair_c (aa := af) (ab := a37) (q := q_) (u := u_) (k := k) (vv := lv) (sa := sf) (sb := s37) (d := T.dp k d + d) (bits := bits) H.yylt (H.o 0 rfl) (by exact H.robOld 0 rfl 6 rfl) (by exact (H.robOld 0 rfl 7 rfl).imp fun _ h => hFe ▸ (h.atN (T.dp k d))) (by exact H.robOld 0 rfl 0 rfl) (by exact H.robOld 0 rfl 8 rfl) hbits hqk hk hnear hcm) ?_
        rintro _ w18 ⟨Tv57, mv57, rfl, hTv57, hO, hB, hR⟩
        replace H := H.calledOR 0 rfl hO hB hR
        refine WL.callv TrydT.fb75 rfl rfl (up_c (E := Tv57) (bs := besL T k d (T.dp k d)) (k := k) (s := s) (sl := q) (d := d) (bits := bits) H.yylt (H.o 0 rfl) (by exact H.robOld 0 rfl 7 rfl) (by exact H.robOld 0 rfl 0 rfl) (by exact (H.robOld 0 rfl 8 rfl).imp fun _ h => besA h) (by exact (H.robOld 0 rfl 6 rfl).imp fun _ h => slv_own h) (by exact (H.robOld 0 rfl 5 rfl).imp fun _ h => Blk.rd h) (by exact (H.robOld 0 rfl 2 rfl).imp fun _ h => Blk.rd h) (by exact (H.robOld 0 rfl 3 rfl).imp fun _ h => Blk.rd h) (by exact (H.robOld 0 rfl 4 rfl).imp fun _ h => Blk.rd h) (by exact H.robOld 0 rfl 9 rfl) hbits hk (by rw [besL_len]; omega) (bes_sum Tv57.er (by omega) (by rw [hTv57, pairS_cnt]; omega))) ?_
        rintro _ w19 ⟨Tv58, mv58, rfl, hTv58, hO, hB, hR⟩
        replace H := H.calledOR 0 rfl hO hB hR
        refine WL.as rfl rfl ?_
        refine WL.nil ?_
        refine WE.ret ?_
        refine ⟨[_], _, .nil _, ⟨rfl, trivial⟩, ?_⟩
        refine ⟨Tv58, _, rfl, ?_, H.toOut1, H.o 0 rfl, H.giveO (H.rob 0 rfl)⟩
        rw [hTv58]
        refine (putS_end (k := k) (v := lv) ?_).trans (hT ▸ putS_map ⟨k, s, lv⟩ hk hpm hs hnr)
        rw [hFe, hTv57]; exact if_neg hqne

end Go.Sp.Tryd
