/- Walks of functions, printed by a program of this session (gen.py) from notes on each function. -/
import Derived.Test.YtdllpckpfkjkeaaDoorQc
import Derived.Test.YtdllpckpfkjkeaaDoorDfr
set_option maxRecDepth 100000
set_option maxHeartbeats 1000000
set_option linter.unusedVariables false
set_option linter.unusedSimpArgs false
namespace Go.Sp.Tryd
open Go.Proofs Go.RowKit Go.Sp

theorem foldM_ok : ∀ (l m : List En), KL l → Srt m → KL m → Srt (l.foldl putM m) ∧ KL (l.foldl putM m) ∧ (l.foldl putM m).length ≤ m.length + l.length ∧ ∀ e ∈ l.foldl putM m, e ∈ m ∨ e ∈ l := by
  intro l
  induction l with
  | nil => intro m _ h1 h2; exact ⟨h1, h2, Nat.le_refl _, fun e he => .inl he⟩
  | cons x l ih =>
    intro m hk h1 h2
    have hx := hk x (by simp)
    have := ih (putM m x) (fun e he => hk e (List.mem_cons_of_mem _ he)) (putM_srt h1 h2 hx) (putM_kl h2 hx)
    refine ⟨this.1, this.2.1, ?_, fun e he => ?_⟩
    · have h3 := putM_len m x
      have h4 := this.2.2.1
      simp only [List.foldl_cons, List.length_cons]
      omega
    · rcases this.2.2.2 e he with h | h
      · rcases mem_putM.1 h with rfl | h
        · exact .inr (by simp)
        · exact .inl h.1
      · exact .inr (List.mem_cons_of_mem _ h)
theorem foldM_snoc {l m : List En} {i : Nat} (h : i < l.length) : (l.take (i + 1)).foldl putM m = putM ((l.take i).foldl putM m) l[i] := by
  rw [List.take_succ_eq_append_getElem h, List.foldl_append]; rfl
theorem Srt.pm {m : List En} (h : Srt m) (hk : KL m) : Pm 0 m := Pm.zero hk h.dis
theorem KL.take {l : List En} (h : KL l) (i : Nat) : KL (l.take i) := fun e he => h e (List.mem_of_mem_take he)
theorem getM_self {m : List En} {e : En} (hd : m.Pairwise fun a b => num a.k ≠ num b.k) (he : e ∈ m) : getM m e.k = some e := by
  induction m with
  | nil => cases he
  | cons x m ih =>
    have h := List.pairwise_cons.1 hd
    unfold getM
    rw [List.find?_cons]
    by_cases hx : x.k = e.k
    · rcases List.mem_cons.1 he with rfl | he'
      · simp
      · exact absurd (congrArg num hx) (h.1 e he')
    · rw [show (x.k == e.k) = false by simpa using hx]
      rcases List.mem_cons.1 he with rfl | he'
      · exact absurd rfl hx
      · exact ih h.2 he'

theorem Put2_c {X : Nat → Prop} {w : World} {bh bc : Nat} {bits c0 : Int} {T : Tr} {M : List En} {k lv : List UInt8} {s : Value} (hX : ∀ b, X b → b < w.heap.size) (ho0 : Blk w bc 127 ([.int .i64 c0])) (hf0 : Rob (fun c_ => X c_ ∨ c_ = bc) (HAt bh bc bits) w) (hf1 : Rob (fun c_ => X c_ ∨ c_ = bc) (TrA bits T) w) (hf2 : Rob (fun c_ => X c_ ∨ c_ = bc) (Rounds) w) (hbits : 0 ≤ bits ∧ bits ≤ 256) (hk : k.length = 32) (hla : lv.length ≤ 1000000) (hw : Rob (fun c => c = bc) (SlB s lv) w) (hT : T.er = grow 0 M) (hkM : KL M) (hs : Srt M) (hml : M.length ≤ 100000000) :
    Ret Tryd.prog 18 [.pointer (some ⟨bh, 0, none⟩), T.ptr, .agg (kc k ++ [s]).toArray].toArray w fun v w' => ∃ (T : Tr) (m : Int), v = T.ptr ∧ T.er = grow 0 (putM M ⟨k, s, lv⟩) ∧ Out (· = bc) w w' ∧ Blk w' bc 127 [.int .i64 m] ∧ Rob (fun c => X c ∨ c = bc) (TrA bits T) w' := by
  refine Ret.of_body (N := 11) Tryd.func18 rfl rfl (by simp) ?_
  have H := St.begin1 (b := bc) (t := 127) (l := [.int .i64 c0]) hX ho0
  replace H := H.add (rob1 hf2)
  replace H := H.add (rob1 hf1)
  replace H := H.add (rob1 hf0)
  have hs1 : s.oneCell' = true := SlC.one1 hw.here
  refine WE.seq_reg ?_
  refine WL.box (l := kc k ++ [s]) H rfl (rfl) rfl ?_
  intro b5 w1 H
  refine WL.as rfl rfl ?_
  refine WL.nil ?_
  refine WE.seq_reg ?_
  refine WL.mv rfl rfl ?_
  refine WL.mv rfl rfl ?_
  refine WL.loadR rfl TrydT.ag27 rfl rfl (by exact Blk.segAt (H.l 0 rfl) (Seg.all _) (by rfl)) (by (rw [TrydT.sz27]; refine congrArg some ?_; (simp only [kc_length, kw_length, List.length_replicate, List.length_append, List.length_cons, List.length_nil, cutI_length, shaOf_length, dig_length, valD_length, rootM_length]; omega))) ?_
  refine WL.call TrydT.fb32 rfl (putAt_c (M := M) (k := k) (lv := lv) (s := s) (d := 0) (bits := bits) H.yylt (H.o 0 rfl) (by exact H.robOld 0 rfl 0 rfl) (by exact H.robOld 0 rfl 1 rfl) (by exact H.robOld 0 rfl 2 rfl) hbits hk hla (H.weak H.toOut hw rfl) hT (hs.pm hkM) hs (Near.zero _ _) hml) ?_
  rintro _ w2 ⟨Tv10, mv10, rfl, hTv10, hO, hB, hR⟩
  replace H := H.calledOR 0 rfl hO hB hR
  refine WL.as rfl rfl ?_
  refine WL.nil ?_
  refine WE.ret ?_
  refine ⟨[_], _, .nil _, ⟨rfl, trivial⟩, ?_⟩
  exact ⟨Tv10, _, rfl, hTv10, H.toOut1, H.o 0 rfl, H.giveO (H.rob 0 rfl)⟩

theorem putAll_c {X : Nat → Prop} {w : World} {bh bc : Nat} {bits c0 : Int} {T : Tr} {M l : List En} {s : Value} (hX : ∀ b, X b → b < w.heap.size) (ho0 : Blk w bc 127 ([.int .i64 c0])) (hf0 : Rob (fun c_ => X c_ ∨ c_ = bc) (HAt bh bc bits) w) (hf1 : Rob (fun c_ => X c_ ∨ c_ = bc) (TrA bits T) w) (hf2 : Rob (fun c_ => X c_ ∨ c_ = bc) (SlE s l) w) (hf3 : Rob (fun c_ => X c_ ∨ c_ = bc) (Vals l) w) (hf4 : Rob (fun c_ => X c_ ∨ c_ = bc) (Rounds) w) (hbits : 0 ≤ bits ∧ bits ≤ 256) (hT : T.er = grow 0 M) (hkM : KL M) (hs : Srt M) (hkl : KL l) (hsv : ShortV l) (hml : M.length + l.length ≤ 100000000) :
    Ret Tryd.prog 30 [.pointer (some ⟨bh, 0, none⟩), T.ptr, s].toArray w fun v w' => ∃ (T : Tr) (m : Int), v = T.ptr ∧ T.er = grow 0 (l.foldl putM M) ∧ Out (· = bc) w w' ∧ Blk w' bc 127 [.int .i64 m] ∧ Rob (fun c => X c ∨ c = bc) (TrA bits T) w' := by
  refine Ret.of_body (N := 21) Tryd.func30 rfl rfl (by simp) ?_
  have H := St.begin1 (b := bc) (t := 127) (l := [.int .i64 c0]) hX ho0
  replace H := H.add (rob1 hf4)
  replace H := H.add (rob1 hf3)
  replace H := H.add (rob1 hf2)
  replace H := H.add (rob1 hf1)
  replace H := H.add (rob1 hf0)
  have hone := OneS.of (hf3.here)
  refine WE.seq_reg ?_
  refine WL.as rfl rfl ?_
  refine WL.nil ?_
  refine WE.seq ?_
  refine WE.seq_reg ?_
  refine WL.mv rfl rfl ?_
  refine WL.pv (PV.lenS (H.p 2 rfl : SlE s l _) TrydT.sl22 rfl) rfl ?_
  refine WL.mv rfl rfl ?_
  refine WL.nil ?_
  refine WE.block ?_
  refine WE.loop (α := Nat × Tr × Int) [1, 8, 11, 12, 13, 14, 15, 16, 17, 18, 19] (fun g => [(11, .int .i64 g.1), (1, g.2.1.ptr)]) (fun g wl => g.1 ≤ l.length ∧ g.2.1.er = grow 0 ((l.take g.1).foldl putM M) ∧ St X w wl [Ent.blk bc 127 [.int .i64 g.2.2]] [] [HAt bh bc bits, TrA bits g.2.1, SlE s l, Vals l, Rounds]) (fun g => l.length - g.1) (0, T, c0) ⟨rfl, rfl, trivial⟩ ⟨Nat.zero_le _, hT, H⟩ ?_
  intro ⟨i, Tf, c⟩ γ0 w1 hI
  try dsimp only at hI
  obtain ⟨hi, hTf, H⟩ := hI
  refine WE.seq_reg ?_
  refine WL.pv (PV.lss rfl rfl rfl) rfl ?_
  refine WL.nil ?_
  refine WE.seq ?_
  refine WE.cond rfl (fun hc12 => ?_) (fun hc12 => ?_)
  · skip
    try simp only [decide_eq_true_eq, decide_eq_false_iff_not, ne_eq, Decidable.not_not, Bool.not_eq_true', Bool.not_eq_false', Bool.and_eq_true, Bool.or_eq_true, Bool.not_not, Bool.and_eq_false_iff, Bool.or_eq_false_iff, Int.not_lt, Int.not_le] at hc12
    have hlt : i < l.length := by omega
    have hke := hkl _ (List.getElem_mem hlt)
    have hE2 : (enC l[i]).length = 33 := enC_length hke
    have hfo := foldM_ok (l.take i) M (hkl.take i) hs hkM
    have hti : (l.take i).length ≤ l.length := by simp; omega
    refine WE.skip ?_
    refine WE.seq ?_
    refine WE.block ?_
    refine WE.seq_reg ?_
    refine WL.pv (PV.idxS rfl (by exact H.p 2 rfl : SlE s l _) TrydT.sl22 TrydT.sz27 rfl rfl (by omega) (by omega)) rfl ?_
    refine WL.loadR rfl TrydT.ag27 rfl rfl ((by exact SlE.rd (H.p 2 rfl) hkl i hlt)) (by (rw [TrydT.sz27]; refine congrArg some ?_; (simp [kc_length, kw_length, *]; done))) ?_
    refine WL.alloc H rfl TrydT.ze27 rfl ?_
    intro b8 w2 H
    refine WL.storeL H 0 rfl rfl rfl (new := enC l[i]) rfl (by (rw [TrydT.sz27]; refine congrArg some ?_; (simp [kc_length, kw_length, *]; done))) (one_enC (hone _ (List.getElem_mem hlt))) (Laid.at (Laid.all (by (simp only [kc_length, kw_length, List.length_replicate, List.length_append, List.length_cons, List.length_nil, cutI_length, shaOf_length, dig_length, valD_length, rootM_length]; omega))) (by rfl)) rfl ?_
    intro w3 H
    refine WL.nil ?_
    refine WE.reg ?_
    refine WL.mv rfl rfl ?_
    refine WL.mv rfl rfl ?_
    refine WL.loadR rfl TrydT.ag27 rfl rfl (by exact Blk.segAt (H.l 0 rfl) (Seg.all _) (by rfl)) (by (rw [TrydT.sz27]; refine congrArg some ?_; (simp [kc_length, kw_length, *]; done))) ?_
    refine WL.call TrydT.fb18 rfl (Put2_c (T := Tf) (M := ((l.take i).foldl putM M)) (k := l[i].k) (lv := l[i].v) (s := l[i].s) (bits := bits) H.yylt (H.o 0 rfl) (by exact H.robOld 0 rfl 0 rfl) (by exact H.robOld 0 rfl 1 rfl) (by exact H.robOld 0 rfl 4 rfl) hbits hke (hsv _ (List.getElem_mem hlt)) (by exact ((H.robOld 0 rfl 3 rfl : Rob _ (Vals l) _).imp fun _ h => h _ (List.getElem_mem hlt)).wk1) hTf hfo.2.1 hfo.1 (by omega)) ?_
    rintro _ w4 ⟨Tv18, mv18, rfl, hTv18, hO, hB, hR⟩
    replace H := H.calledOR 0 rfl hO hB hR
    refine WL.as rfl rfl ?_
    refine WL.nil ?_
    refine WE.reg ?_
    refine WL.pv (PV.add64 rfl rfl rfl (by omega) (by omega)) rfl ?_
    refine WL.mv rfl rfl ?_
    refine WL.nil ?_
    replace H := H.forget 0
    exact ⟨(i + 1, Tv18, mv18), (by repeat (first | with_reducible exact Off.refl _ _ | refine Off.upd rfl ?_ | refine Off.setAll rfl ?_ | refine Off.forget' rfl ?_)), ⟨rfl, rfl, trivial⟩, rfl, ⟨by dsimp only; omega, by dsimp only; rw [hTv18, foldM_snoc hlt], H.sel [1, 0, 3, 4, 5]⟩, (by dsimp only; omega)⟩
  · skip
    try simp only [decide_eq_true_eq, decide_eq_false_iff_not, ne_eq, Decidable.not_not, Bool.not_eq_true', Bool.not_eq_false', Bool.and_eq_true, Bool.or_eq_true, Bool.not_not, Bool.and_eq_false_iff, Bool.or_eq_false_iff, Int.not_lt, Int.not_le] at hc12
    have hie : l.take i = l := List.take_of_length_le (by omega)
    refine WE.exit ?_
    refine WE.seq_reg ?_
    refine WL.mv rfl rfl ?_
    refine WL.as rfl rfl ?_
    refine WL.nil ?_
    refine WE.ret ?_
    refine ⟨[_], _, .nil _, ⟨rfl, trivial⟩, ?_⟩
    refine ⟨Tf, c, rfl, ?_, H.toOut1, H.o 0 rfl, H.giveO (H.rob 1 rfl)⟩
    rw [hTf, hie]

theorem refAll_c {X : Nat → Prop} {w : World} {s s2 : Value} {M l : List En} (hX : ∀ b, X b → b < w.heap.size) (hf0 : Rob X (SlE s2 M) w) (hf1 : Rob X (SlE s l) w) (hf2 : Rob X (Vals l) w) (hkM : KL M) (hs : Srt M) (honeM : OneS M) (hkl : KL l) (hml : M.length + l.length ≤ 1000000) :
    Ret Tryd.prog 31 [s2, s].toArray w fun v w' => Out Nil w w' ∧ Rob X (SlE v (l.foldl putM M)) w' := by
  refine Ret.of_body (N := 25) Tryd.func31 rfl rfl (by simp) ?_
  have H := St.begin hX
  replace H := H.add (rob0 hf2)
  replace H := H.add (rob0 hf1)
  replace H := H.add (rob0 hf0)
  have hone := OneS.of (hf2.here)
  refine WE.seq_reg ?_
  refine WL.as rfl rfl ?_
  refine WL.nil ?_
  refine WE.seq ?_
  refine WE.seq_reg ?_
  refine WL.as rfl rfl ?_
  refine WL.nil ?_
  refine WE.block ?_
  refine WE.loop (α := Nat × Value) [0, 5, 6, 7, 8, 9, 10, 11, 12, 13, 14, 15, 16, 17, 18, 19, 20, 21, 22, 23] (fun p => [(5, .int .i64 p.1), (0, p.2)]) (fun p wl => p.1 ≤ l.length ∧ St X w wl [] [] [SlE p.2 ((l.take p.1).foldl putM M), SlE s l, Vals l]) (fun p => l.length - p.1) (0, s2) ⟨rfl, rfl, trivial⟩ ⟨Nat.zero_le _, H⟩ ?_
  intro ⟨i, v⟩ γ0 w1 hI
  try dsimp only at hI
  obtain ⟨hi, H⟩ := hI
  refine WE.seq ?_
  refine WE.seq_reg ?_
  refine WL.mv rfl rfl ?_
  refine WL.mv rfl rfl ?_
  refine WL.pv (PV.lenS (by exact H.p 1 rfl : SlE s l _) TrydT.sl22 rfl) rfl ?_
  refine WL.pv (PV.lss rfl rfl rfl) rfl ?_
  refine WL.nil ?_
  refine WE.cond rfl (fun hc9 => ?_) (fun hc9 => ?_)
  · skip
    try simp only [decide_eq_true_eq, decide_eq_false_iff_not, ne_eq, Decidable.not_not, Bool.not_eq_true', Bool.not_eq_false', Bool.and_eq_true, Bool.or_eq_true, Bool.not_not, Bool.and_eq_false_iff, Bool.or_eq_false_iff, Int.not_lt, Int.not_le] at hc9
    have hlt : i < l.length := by omega
    have hke := hkl _ (List.getElem_mem hlt)
    have hfo := foldM_ok (l.take i) M (hkl.take i) hs hkM
    have hti : (l.take i).length ≤ l.length := by simp; omega
    have hof : OneS ((l.take i).foldl putM M) := fun e he => by rcases hfo.2.2.2 e he with h | h; exact honeM e h; exact hone e (List.mem_of_mem_take h)
    refine WE.skip ?_
    refine WE.seq ?_
    refine WE.block ?_
    refine WE.draw (.take 0 (.take 1 (.take 2 (.take 3 (.take 4 (.take 5 (.take 6 (.take 7 (.take 8 (.take 9 (.take 10 (.pick1 11 (.take 12 .done))))))))))))) TrydT.mixed (by kernel_rfl) ?_
    replace H := H.out (Out.drew _)
    refine WP.mv rfl rfl rfl ?_
    refine WP.mv rfl rfl rfl ?_
    refine WP.mv rfl rfl rfl ?_
    refine WP.take_pure rfl rfl (PV.idxS rfl (by exact H.p 1 rfl : SlE s l _) TrydT.sl22 TrydT.sz27 rfl rfl (by omega) (by omega)) ?_
    refine WP.take_pure rfl rfl (PV.fieldAddrA rfl TrydT.fd27_0 rfl) ?_
    refine WP.readA rfl rfl rfl TrydT.ag24 rfl (SlE.rdk (H.p 1 rfl) hkl i hlt) (by (rw [TrydT.sz24]; refine congrArg some ?_; (simp only [kc_length, kw_length, List.length_replicate, List.length_append, List.length_cons, List.length_nil, cutI_length, shaOf_length, dig_length, valD_length, rootM_length]; omega))) ?_
    refine WP.mv rfl rfl rfl ?_
    refine WP.mv rfl rfl rfl ?_
    refine WP.take_pure rfl rfl (PV.idxS rfl (by exact H.p 1 rfl : SlE s l _) TrydT.sl22 TrydT.sz27 rfl rfl (by omega) (by omega)) ?_
    refine WP.take_pure rfl rfl (PV.fieldAddrA rfl TrydT.fd27_1 rfl) ?_
    refine WP.take_read rfl rfl (RV.loadOne rfl TrydT.ag25 rfl) (SlE.rdv (H.p 1 rfl) hkl i hlt) ?_
    refine WP.pick1 rfl ?_
    refine WL.call TrydT.fb27 rfl (Put_c (m := ((l.take i).foldl putM M)) (q := l[i].k) (vv := l[i].v) H.yylt (H.rob 0 rfl) ((H.rob 2 rfl).imp fun _ h => h _ (List.getElem_mem hlt)) hfo.2.1 hof (by omega) hke) ?_
    rintro v23 w2 ⟨hO, hR⟩
    replace H := (H.out hO).add hR
    refine WL.nil ⟨(List.forall_mem_cons.2 ⟨(by exact (fun h => absurd (show waits _ 11 10 = false from h) (by decide +kernel))), (List.forall_mem_cons.2 ⟨(by exact (fun h => absurd (show waits _ 11 5 = false from h) (by decide +kernel))), (fun _ h => by cases h)⟩)⟩), ?_⟩
    refine WP.as rfl rfl rfl ?_
    refine WP.done ?_
    refine WE.reg ?_
    refine WL.mv rfl rfl ?_
    refine WL.pv (PV.add64 rfl rfl rfl (by omega) (by omega)) rfl ?_
    refine WL.as rfl rfl ?_
    refine WL.nil ?_
    exact ⟨(i + 1, v23), (by repeat (first | with_reducible exact Off.refl _ _ | refine Off.upd rfl ?_ | refine Off.setAll rfl ?_ | refine Off.forget' rfl ?_)), ⟨rfl, rfl, trivial⟩, rfl, ⟨by dsimp only; omega, by dsimp only; rw [foldM_snoc hlt]; exact H.sel [0, 2, 3]⟩, (by dsimp only; omega)⟩
  · skip
    try simp only [decide_eq_true_eq, decide_eq_false_iff_not, ne_eq, Decidable.not_not, Bool.not_eq_true', Bool.not_eq_false', Bool.and_eq_true, Bool.or_eq_true, Bool.not_not, Bool.and_eq_false_iff, Bool.or_eq_false_iff, Int.not_lt, Int.not_le] at hc9
    have hie : l.take i = l := List.take_of_length_le (by omega)
    refine WE.exit ?_
    refine WE.seq_reg ?_
    refine WL.mv rfl rfl ?_
    refine WL.as rfl rfl ?_
    refine WL.nil ?_
    refine WE.ret ?_
    refine ⟨[_], _, .nil _, ⟨rfl, trivial⟩, ?_⟩
    exact ⟨H.toOut0, H.give ((H.rob 0 rfl).imp fun _ h => by rw [hie] at h; exact h)⟩

theorem Is_c {X : Nat → Prop} {w : World} {bh bc : Nat} {bits c0 : Int} {T : Tr} {M : List En} {s : Value} (hX : ∀ b, X b → b < w.heap.size) (ho0 : Blk w bc 127 ([.int .i64 c0])) (hf0 : Rob (fun c_ => X c_ ∨ c_ = bc) (HAt bh bc bits) w) (hf1 : Rob (fun c_ => X c_ ∨ c_ = bc) (TrA bits T) w) (hf2 : Rob (fun c_ => X c_ ∨ c_ = bc) (SlE s M) w) (hf3 : Rob (fun c_ => X c_ ∨ c_ = bc) (Vals M) w) (hf4 : Rob (fun c_ => X c_ ∨ c_ = bc) (Rounds) w) (hbits : 0 ≤ bits ∧ bits ≤ 256) (hT : T.er = grow 0 M) (hkM : KL M) (hs : Srt M) (hsv : ShortV M) (hml : M.length ≤ 1000000) :
    Ret Tryd.prog 26 [.pointer (some ⟨bh, 0, none⟩), T.ptr, s].toArray w fun v w' => ∃ m : Int, v = .int .i64 1 ∧ Out (· = bc) w w' ∧ Blk w' bc 127 [.int .i64 m] := by
  refine Ret.of_body (N := 49) Tryd.func26 rfl rfl (by simp) ?_
  have H := St.begin1 (b := bc) (t := 127) (l := [.int .i64 c0]) hX ho0
  replace H := H.add (rob1 hf4)
  replace H := H.add (rob1 hf3)
  replace H := H.add (rob1 hf2)
  replace H := H.add (rob1 hf1)
  replace H := H.add (rob1 hf0)
  have hpm := hs.pm hkM
  have hone := OneS.of (hf3.here)
  have hcnt : T.er.cnt = M.length := by rw [hT]; exact hpm.cnt
  have hfit := grow_fit hpm
  rw [← hT] at hfit
  refine WE.seq_reg ?_
  refine WL.as rfl rfl ?_
  refine WL.nil ?_
  refine WE.seq ?_
  refine WE.seq_reg ?_
  refine WL.mv rfl rfl ?_
  refine WL.call TrydT.fb20 rfl (Len_c (T := T) (bits := bits) H.yylt (by exact H.rob 1 rfl) ) ?_
  rintro _ w1 ⟨rfl, hO⟩
  replace H := H.out hO
  refine WL.mv rfl rfl ?_
  refine WL.pv (PV.lenS (H.p 2 rfl : SlE s M _) TrydT.sl22 rfl) rfl ?_
  refine WL.pv (PV.neq rfl rfl rfl) rfl ?_
  refine WL.mv rfl rfl ?_
  refine WL.known (t := 16) (c := false) rfl (by (simp [hcnt]; done)) ?_
  refine WL.mv rfl rfl ?_
  refine WL.mv rfl rfl ?_
  refine WL.call TrydT.fb19 rfl (Digest_c (T := T) (bits := bits) H.yylt (H.o 0 rfl) (by exact H.robOld 0 rfl 0 rfl) (by exact H.robOld 0 rfl 1 rfl) (by exact H.robOld 0 rfl 4 rfl) (by assumption)) ?_
  rintro _ w2 ⟨mv19, rfl, hO, hB⟩
  replace H := H.calledO 0 rfl hO hB
  refine WL.mv rfl rfl ?_
  refine WL.call TrydT.fb69 rfl (Bits_c (bits := bits) H.yylt (by exact H.rob 0 rfl) ) ?_
  rintro _ w3 ⟨rfl, hO⟩
  replace H := H.out hO
  refine WL.mv rfl rfl ?_
  refine WL.call TrydT.fb23 rfl (Root_c (m := M) (d := 0) (bits := bits) H.yylt (by exact H.rob 2 rfl) (by exact H.rob 3 rfl) (by exact H.rob 4 rfl) hpm hml hsv hbits) ?_
  rintro _ w4 ⟨rfl, hO⟩
  replace H := H.out hO
  refine WL.pv (PV.neqB rfl TrydT.ar36 TrydT.in5 TrydT.sz5 (by kernel_rfl) rfl rfl (by exact dig_length _ _) (by exact dig_length _ _)) rfl ?_
  refine WL.pv (PV.pick_f rfl rfl rfl) rfl ?_
  refine WL.nil ?_
  refine WE.cond_f' rfl (by simp [hT, rootM]) ?_
  refine WE.skip ?_
  refine WE.seq ?_
  refine WE.seq_reg ?_
  refine WL.mv rfl rfl ?_
  refine WL.pv (PV.lenS (H.p 2 rfl : SlE s M _) TrydT.sl22 rfl) rfl ?_
  refine WL.mv rfl rfl ?_
  refine WL.nil ?_
  refine WE.block ?_
  refine WE.loop (α := Nat) [6, 8, 9, 10, 28, 29, 30, 31, 32, 33, 34, 35, 36, 37, 38, 39, 40, 41, 42, 43, 44, 45, 46, 47, 48] (fun i => [(28, .int .i64 i)]) (fun i wl => i ≤ M.length ∧ St X w wl [Ent.blk bc 127 [.int .i64 mv19]] [] [HAt bh bc bits, TrA bits T, SlE s M, Vals M, Rounds]) (fun i => M.length - i) 0 ⟨rfl, trivial⟩ ⟨Nat.zero_le _, H⟩ ?_
  intro i γ0 w5 hI
  try dsimp only at hI
  obtain ⟨hi, H⟩ := hI
  refine WE.seq_reg ?_
  refine WL.pv (PV.lss rfl rfl rfl) rfl ?_
  refine WL.nil ?_
  refine WE.seq ?_
  refine WE.cond rfl (fun hc29 => ?_) (fun hc29 => ?_)
  · skip
    try simp only [decide_eq_true_eq, decide_eq_false_iff_not, ne_eq, Decidable.not_not, Bool.not_eq_true', Bool.not_eq_false', Bool.and_eq_true, Bool.or_eq_true, Bool.not_not, Bool.and_eq_false_iff, Bool.or_eq_false_iff, Int.not_lt, Int.not_le] at hc29
    have hlt : i < M.length := by omega
    have hke := hkM _ (List.getElem_mem hlt)
    have hve := hsv _ (List.getElem_mem hlt)
    have hE2 : (enC M[i]).length = 33 := enC_length hke
    refine WE.skip ?_
    refine WE.seq ?_
    refine WE.block ?_
    refine WE.seq_reg ?_
    refine WL.pv (PV.idxS rfl (H.p 2 rfl : SlE s M _) TrydT.sl22 TrydT.sz27 rfl rfl (by omega) (by omega)) rfl ?_
    refine WL.loadR rfl TrydT.ag27 rfl rfl (SlE.rd (H.p 2 rfl) hkM i hlt) (by (rw [TrydT.sz27]; refine congrArg some ?_; (simp [kc_length, kw_length, *]; done))) ?_
    refine WL.alloc H rfl TrydT.ze27 rfl ?_
    intro b8 w6 H
    refine WL.storeL H 0 rfl rfl rfl (new := enC M[i]) rfl (by (rw [TrydT.sz27]; refine congrArg some ?_; (simp [kc_length, kw_length, *]; done))) (one_enC (hone _ (List.getElem_mem hlt))) (Laid.at (Laid.all (by (simp only [kc_length, kw_length, List.length_replicate, List.length_append, List.length_cons, List.length_nil, cutI_length, shaOf_length, dig_length, valD_length, rootM_length]; omega))) (by rfl)) rfl ?_
    intro w7 H
    refine WL.nil ?_
    refine WE.seq_reg ?_
    refine WL.mv rfl rfl ?_
    refine WL.pv (PV.fieldAddr rfl TrydT.fd27_0 rfl) rfl ?_
    refine WL.loadR rfl TrydT.ag24 rfl rfl (by exact Blk.segAt (H.l 0 rfl) (Seg.l (Seg.all _)) (by rfl)) (by (rw [TrydT.sz24]; refine congrArg some ?_; (simp only [kc_length, kw_length, List.length_replicate, List.length_append, List.length_cons, List.length_nil, cutI_length, shaOf_length, dig_length, valD_length, rootM_length]; omega))) ?_
    refine WL.call TrydT.fb50 rfl (GetYes_c (T := T) (k := M[i].k) (v0 := M[i].v) (bits := bits) H.yylt (H.rob 1 rfl) hke hfit (by rw [getV_map hT hpm, getM_self hpm.dis (List.getElem_mem hlt)]; rfl)) ?_
    rintro _ w8 ⟨sv36, rfl, hO, hOwn⟩
    have hr_ := (rob_own H.yylt hOwn).imp fun _ h => SlB.of_own h
    replace H := (H.out hO).add hr_
    refine WL.mv rfl rfl ?_
    refine WL.pv (PV.extract rfl rfl rfl) rfl ?_
    refine WL.pv (PV.extract rfl rfl rfl) rfl ?_
    refine WL.as rfl rfl ?_
    refine WL.as rfl rfl ?_
    refine WL.nil ?_
    refine WE.seq_reg ?_
    refine WL.mv rfl rfl ?_
    refine WL.pv (PV.not rfl rfl) rfl ?_
    refine WL.mv rfl rfl ?_
    refine WL.known (t := 41) (c := false) rfl (by rfl) ?_
    refine WL.mv rfl rfl ?_
    refine WL.pv (PV.fieldAddr rfl TrydT.fd27_1 rfl) rfl ?_
    refine WL.load1 rfl TrydT.ag25 rfl rfl (by exact Blk.segAt (H.l 0 rfl) (Seg.r (Seg.all _) (by with_reducible rfl)) (by (simp [kc_length, kw_length, *]; done))) ?_
    refine WL.call TrydT.fb70 rfl (Same_c (la := M[i].v) (lb := M[i].v) H.yylt (H.rob 0 rfl) ((H.rob 4 rfl : Rob _ (Vals M) _).imp fun _ h => h _ (List.getElem_mem hlt)) (by omega)) ?_
    rintro _ w9 ⟨rfl, hO⟩
    replace H := H.out hO
    refine WL.pv (PV.not rfl rfl) rfl ?_
    refine WL.pv (PV.pick_f rfl rfl rfl) rfl ?_
    refine WL.nil ?_
    refine WE.cond_f' rfl (by (simp; done)) ?_
    refine WE.skip ?_
    refine WE.reg ?_
    refine WL.pv (PV.add64 rfl rfl rfl (by omega) (by omega)) rfl ?_
    refine WL.mv rfl rfl ?_
    refine WL.nil ?_
    replace H := H.forget 0
    exact ⟨i + 1, (by repeat (first | with_reducible exact Off.refl _ _ | refine Off.upd rfl ?_ | refine Off.setAll rfl ?_ | refine Off.forget' rfl ?_)), ⟨rfl, trivial⟩, rfl, ⟨by omega, H.sel [1, 2, 3, 4, 5]⟩, (by omega)⟩
  · skip
    try simp only [decide_eq_true_eq, decide_eq_false_iff_not, ne_eq, Decidable.not_not, Bool.not_eq_true', Bool.not_eq_false', Bool.and_eq_true, Bool.or_eq_true, Bool.not_not, Bool.and_eq_false_iff, Bool.or_eq_false_iff, Int.not_lt, Int.not_le] at hc29
    refine WE.exit ?_
    refine WE.seq_reg ?_
    refine WL.as rfl rfl ?_
    refine WL.nil ?_
    refine WE.ret ?_
    refine ⟨[_], _, .nil _, ⟨rfl, trivial⟩, ?_⟩
    exact ⟨_, rfl, H.toOut1, H.o 0 rfl⟩

end Go.Sp.Tryd
