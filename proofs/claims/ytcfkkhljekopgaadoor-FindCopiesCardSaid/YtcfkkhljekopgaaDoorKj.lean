/- Walks of functions, printed by a program of this session (gen.py) from notes on each function. -/
import Derived.Test.YtcfkkhljekopgaaDoorKi
set_option maxRecDepth 100000
set_option maxHeartbeats 1000000
set_option linter.unusedVariables false
set_option linter.unusedSimpArgs false
namespace Go.Sp.Tryd
open Go.Proofs Go.RowKit Go.Sp

theorem refGetNo_c {X : Nat → Prop} {w : World} {s : Value} {m : List En} {k : List UInt8} (hX : ∀ b, X b → b < w.heap.size) (hf0 : Rob X (SlE s m) w) (hkl : KL m) (hlen : m.length ≤ 1000000) (hk : k.length = 32) (hg : getM m k = none) :
    Ret Tryd.prog 50 [s, .agg (kc k).toArray].toArray w fun v w' => v = .tuple [.slice none 0 0, .bool false].toArray ∧ Out Nil w w' := by
  have := refGet_c hX hf0 hkl hlen hk
  unfold getR at this
  rw [hg] at this
  exact this
theorem refGetYes_c {X : Nat → Prop} {w : World} {s : Value} {m : List En} {k : List UInt8} {e : En} (hX : ∀ b, X b → b < w.heap.size) (hf0 : Rob X (SlE s m) w) (hkl : KL m) (hlen : m.length ≤ 1000000) (hk : k.length = 32) (hg : getM m k = some e) :
    Ret Tryd.prog 50 [s, .agg (kc k).toArray].toArray w fun v w' => v = .tuple [e.s, .bool true].toArray ∧ Out Nil w w' := by
  have := refGet_c hX hf0 hkl hlen hk
  unfold getR at this
  rw [hg] at this
  exact this
theorem getM_mem {m : List En} {k : List UInt8} {e : En} (h : getM m k = some e) : e ∈ m ∧ e.k = k := ⟨List.mem_of_find?_eq_some h, by have := List.find?_some h; simpa using this⟩
theorem fin_er {T : Tr} {m : List En} {k : List UInt8} (hT : T.er = grow 0 m) (hp : Pm 0 m) : (T.fin k).er = grow (T.dp k 0) (atM k 0 m (T.dp k 0)) ∧ Pm (T.dp k 0) (atM k 0 m (T.dp k 0)) := at_er (k := k) hT hp _ (Nat.le_refl _)
theorem SlE.of1 {w : World} {b : Nat} {t : TypeId} {e : En} (h : Blk w b t (enC e)) (hk : e.k.length = 32) : SlE (.slice (some ⟨b, 0, none⟩) 1 1) [e] w := SlC.of_blk (n := 1) (e := t) (by rw [List.flatMap_cons, List.flatMap_nil, List.append_nil]; exact h) (by simp [enC_length hk])
theorem beside_er {T : Tr} {m : List En} {k : List UInt8} (hT : T.er = grow 0 m) (hp : Pm 0 m) {i : Nat} (hi : i < T.dp k 0) :
    ((T.atN k 0 i).beside k i).er = grow (i + 1) (partM (atM k 0 m i) i (1 - bitN k i)) ∧ Pm (i + 1) (partM (atM k 0 m i) i (1 - bitN k i)) := by
  have h := at_er (k := k) hT hp i (by omega)
  have h2 := grow_step k h.1 h.2 (Tr.atN_in i 0 T hi)
  exact ⟨h2.2.2.2, h.2.part h2.1 _⟩

theorem FindLocates_c {X : Nat → Prop} {w : World} {i : Int} {s : Value} {l : List En} {k : List UInt8} (hX : ∀ b, X b → b < w.heap.size) (hf0 : Rob X (SlE s l) w) (hf1 : Rob X (Vals l) w) (hf2 : Rob X (Rounds) w) (hkl : KL l) (hlen : l.length ≤ 9223372036854775807) (hvl : ∀ e ∈ l, e.v.length ≤ 9223372036854775807) (hk : k.length = 32) :
    Ret Tryd.prog 11 [.int .i64 i, s, .agg (kc k).toArray].toArray w fun v w' => v = .bool true ∧ Out Nil w w' := by
  refine Ret.of_body (N := 67) Tryd.func11 rfl rfl (by simp) ?_
  have H := St.begin hX
  replace H := H.add (rob0 hf2)
  replace H := H.add (rob0 hf1)
  replace H := H.add (rob0 hf0)
  refine WE.seq_reg ?_
  refine WL.box (l := kc k) H rfl (by rfl) rfl ?_
  intro b5 w1 H
  refine WL.as rfl rfl ?_
  refine WL.nil ?_
  refine WE.seq_reg ?_
  refine WL.mv rfl rfl ?_
  refine WL.mv rfl rfl ?_
  refine WL.call TrydT.fb44 rfl (Tree_c (i := i) (l := l) H.yylt (by exact H.rob 0 rfl) (by exact H.rob 1 rfl) (by exact H.rob 2 rfl) (by assumption) (by assumption) (by assumption)) ?_
  rintro _ w2 ⟨bv17, sv17, Tv17, mv17, rfl, hTv17, hbv17, hO, hS_, hR⟩
  replace H := ((H.out hO).add hR).add hS_
  refine WL.mv rfl rfl ?_
  refine WL.pv (PV.extract rfl rfl rfl) rfl ?_
  refine WL.pv (PV.extract rfl rfl rfl) rfl ?_
  refine WL.pv (PV.extract rfl rfl rfl) rfl ?_
  refine WL.as rfl rfl ?_
  refine WL.as rfl rfl ?_
  refine WL.as rfl rfl ?_
  refine WL.nil ?_
  refine WE.seq ?_
  refine WE.seq_reg ?_
  refine WL.mv rfl rfl ?_
  refine WL.pv (PV.not rfl rfl) rfl ?_
  refine WL.nil ?_
  refine WE.cond rfl (fun hc22 => ?_) (fun hc22 => ?_)
  · skip
    try simp only [decide_eq_true_eq, decide_eq_false_iff_not, ne_eq, Decidable.not_not, Bool.not_eq_true', Bool.not_eq_false', Bool.and_eq_true, Bool.or_eq_true, Bool.not_not, Bool.and_eq_false_iff, Bool.or_eq_false_iff, Int.not_lt, Int.not_le] at hc22
    refine WE.seq_reg ?_
    refine WL.call TrydT.fb45 rfl (alive08_c  H.yylt (by exact H.rob 4 rfl) ) ?_
    rintro _ w3 ⟨rfl, hO⟩
    replace H := H.out hO
    refine WL.as rfl rfl ?_
    refine WL.nil ?_
    refine WE.ret ?_
    refine ⟨[_], _, .nil _, ⟨rfl, trivial⟩, ?_⟩
    refine ⟨?_, H.toOut0⟩
    rfl
  · skip
    try simp only [decide_eq_true_eq, decide_eq_false_iff_not, ne_eq, Decidable.not_not, Bool.not_eq_true', Bool.not_eq_false', Bool.and_eq_true, Bool.or_eq_true, Bool.not_not, Bool.and_eq_false_iff, Bool.or_eq_false_iff, Int.not_lt, Int.not_le] at hc22
    obtain ⟨rfl, hi, hfew⟩ := hbv17 (by exact hc22)
    have hok := ofM_ok l hkl
    have hpm := ofM_pm l hkl
    have hml : (ofM l).length ≤ 12 := Nat.le_trans hok.2.2.1 hfew.1
    have hvs := ofM_short hkl hfew.2
    have hsv : ShortV (ofM l) := fun e he => Nat.le_trans (hvs e he) (by decide)
    replace H := H.add (by exact (H.rob 3 rfl : Rob _ (Vals l) _).imp fun _ h => h.sub hok.2.2.2)
    have hone : OneS (ofM l) := OneS.of (H.p 0 rfl)
    have hfit : Tv17.er.fit 0 := hTv17 ▸ grow_fit hpm
    refine WE.skip ?_
    refine WE.seq_reg ?_
    refine WL.mv rfl rfl ?_
    refine WL.loadR rfl TrydT.ag36 rfl rfl (by exact Blk.segAt (H.l 0 rfl) (Seg.all _) (by rfl)) (by (rw [TrydT.sz36]; refine congrArg some ?_; (simp only [kc_length, kw_length, List.length_replicate, List.length_append, List.length_cons, List.length_nil, cutI_length, shaOf_length, dig_length, valD_length, rootM_length]; omega))) ?_
    refine WL.call TrydT.fb46 rfl (Locate_c (T := Tv17) (k := k) (bits := i) H.yylt (by exact H.rob 2 rfl) (by assumption) (by assumption)) ?_
    rintro _ w4 ⟨rfl, hO⟩
    replace H := H.out hO
    refine WL.mv rfl rfl ?_
    refine WL.pv (PV.extract rfl rfl rfl) rfl ?_
    refine WL.pv (PV.extract rfl rfl rfl) rfl ?_
    refine WL.as rfl rfl ?_
    refine WL.as rfl rfl ?_
    refine WL.nil ?_
    refine WE.seq_reg ?_
    refine WL.mv rfl rfl ?_
    refine WL.loadR rfl TrydT.ag36 rfl rfl (by exact Blk.segAt (H.l 0 rfl) (Seg.all _) (by rfl)) (by (rw [TrydT.sz36]; refine congrArg some ?_; (simp only [kc_length, kw_length, List.length_replicate, List.length_append, List.length_cons, List.length_nil, cutI_length, shaOf_length, dig_length, valD_length, rootM_length]; omega))) ?_
    refine WL.call TrydT.fb47 rfl (refEnd_c (m := ofM l) (k := k) (D := Tv17.dp k 0) H.yylt (by exact H.rob 1 rfl) hok.2.1 hone (by omega) hk (fun j hj => (at_len hTv17 hpm hj).1) (at_end hTv17 hpm) (by have := Tr.dp_fit (k := k) _ 0 Tv17 rfl hfit (by omega); omega)) ?_
    rintro _ w5 ⟨sv33, rfl, hO, hR⟩
    replace H := (H.out hO).add hR
    have hfin := fin_er (k := k) hTv17 hpm
    have hcnt : (Tv17.fin k).er.cnt = (atM k 0 (ofM l) (Tv17.dp k 0)).length := by rw [hfin.1]; exact hfin.2.cnt
    refine WL.mv rfl rfl ?_
    refine WL.pv (PV.extract rfl rfl rfl) rfl ?_
    refine WL.pv (PV.extract rfl rfl rfl) rfl ?_
    refine WL.as rfl rfl ?_
    refine WL.as rfl rfl ?_
    refine WL.nil ?_
    refine WE.seq ?_
    refine WE.seq_reg ?_
    refine WL.mv rfl rfl ?_
    refine WL.mv rfl rfl ?_
    refine WL.pv (PV.neq rfl rfl rfl) rfl ?_
    refine WL.mv rfl rfl ?_
    refine WL.known (t := 39) (c := false) rfl (by simp) ?_
    refine WL.mv rfl rfl ?_
    refine WL.call TrydT.fb36 rfl (Len_c (T := Tv17.fin k) (bits := i) H.yylt (by exact (H.rob 3 rfl).imp fun _ h => h.fin) ) ?_
    rintro _ w6 ⟨rfl, hO⟩
    replace H := H.out hO
    refine WL.mv rfl rfl ?_
    refine WL.pv (PV.lenS (H.p 0 rfl : SlE sv33 _ _) TrydT.sl42 rfl) rfl ?_
    refine WL.pv (PV.neq rfl rfl rfl) rfl ?_
    refine WL.pv (PV.pick_f rfl rfl rfl) rfl ?_
    refine WL.nil ?_
    refine WE.cond_f' rfl (by simp [hcnt]) ?_
    refine WE.skip ?_
    refine WE.seq ?_
    refine WE.seq_reg ?_
    refine WL.mv rfl rfl ?_
    refine WL.pv (PV.lenS (H.p 0 rfl : SlE sv33 _ _) TrydT.sl42 rfl) rfl ?_
    refine WL.pv (PV.eql rfl rfl rfl) rfl ?_
    refine WL.nil ?_
    refine WE.cond rfl (fun hc48 => ?_) (fun hc48 => ?_)
    · skip
      try simp only [decide_eq_true_eq, decide_eq_false_iff_not, ne_eq, Decidable.not_not, Bool.not_eq_true', Bool.not_eq_false', Bool.and_eq_true, Bool.or_eq_true, Bool.not_not, Bool.and_eq_false_iff, Bool.or_eq_false_iff, Int.not_lt, Int.not_le] at hc48
      have hz : atM k 0 (ofM l) (Tv17.dp k 0) = [] := List.eq_nil_of_length_eq_zero (by omega)
      have hnil : Tv17.fin k = .nil := Tr.nil_er (by rw [hfin.1, hz, grow_nil])
      refine WE.seq_reg ?_
      refine WL.call TrydT.fb45 rfl (alive08_c  H.yylt (by exact H.rob 6 rfl) ) ?_
      rintro _ w7 ⟨rfl, hO⟩
      replace H := H.out hO
      refine WL.mv rfl rfl ?_
      refine WL.known (t := 50) (c := true) rfl (by rfl) ?_
      refine WL.mv rfl rfl ?_
      refine WL.pv (PV.eqlPn rfl TrydT.pt47 rfl rfl) rfl ?_
      refine WL.pv (PV.pick_t rfl rfl rfl) rfl ?_
      refine WL.as rfl rfl ?_
      refine WL.nil ?_
      refine WE.ret ?_
      refine ⟨[_], _, .nil _, ⟨rfl, trivial⟩, ?_⟩
      refine ⟨?_, H.toOut0⟩
      rw [hnil]; rfl
    · skip
      try simp only [decide_eq_true_eq, decide_eq_false_iff_not, ne_eq, Decidable.not_not, Bool.not_eq_true', Bool.not_eq_false', Bool.and_eq_true, Bool.or_eq_true, Bool.not_not, Bool.and_eq_false_iff, Bool.or_eq_false_iff, Int.not_lt, Int.not_le] at hc48
      have hle1 := at_end (k := k) hTv17 hpm
      obtain ⟨e, he⟩ : ∃ e, atM k 0 (ofM l) (Tv17.dp k 0) = [e] := List.length_eq_one_iff.1 (by omega)
      have hf1 := hfin.1
      rw [he, grow_one] at hf1
      obtain ⟨a_, s_, hleaf⟩ := Tr.leaf_of hf1
      have hkind : (Tv17.fin k).er.kind = 1 := by rw [hf1]; rfl
      have hkey : (Tv17.fin k).key = e.k := by rw [hleaf]; rfl
      have hval : (Tv17.fin k).val = e.v := by rw [hleaf]; rfl
      have hem : e ∈ ofM l := atM_mem (he ▸ List.mem_singleton.2 rfl)
      have hek := hok.2.1 e hem
      have hev := hsv e hem
      have hfk : (Tv17.fin k).key.length = 32 := by rw [hkey]; exact hek
      refine WE.skip ?_
      refine WE.seq_reg ?_
      refine WL.call TrydT.fb45 rfl (alive08_c  H.yylt (by exact H.rob 6 rfl) ) ?_
      rintro _ w8 ⟨rfl, hO⟩
      replace H := H.out hO
      refine WL.mv rfl rfl ?_
      refine WL.known (t := 55) (c := true) rfl (by rfl) ?_
      refine WL.mv rfl rfl ?_
      refine WL.call TrydT.fb40 rfl (NKind_c (T := Tv17.fin k) (bits := i) H.yylt (by exact (H.rob 3 rfl).imp fun _ h => h.fin) ) ?_
      rintro _ w9 ⟨rfl, hO⟩
      replace H := H.out hO
      refine WL.pv (PV.eql rfl rfl rfl) rfl ?_
      refine WL.pv (PV.pick_t rfl rfl rfl) rfl ?_
      refine WL.mv rfl rfl ?_
      refine WL.known (t := 60) (c := true) rfl (by simp [hkind]) ?_
      refine WL.mv rfl rfl ?_
      refine WL.call TrydT.fb37 rfl (Entry_c (T := Tv17.fin k) (bits := i) H.yylt (by exact (H.rob 3 rfl).imp fun _ h => h.fin) ) ?_
      rintro _ w10 ⟨sv62, rfl, hO, hOwn⟩
      have hs1v62 := SlC.one1 (SlB.of_own hOwn)
      have hr_ := (rob_own H.yylt hOwn).imp fun _ h => SlB.of_own h
      replace H := (H.out hO).add hr_
      refine WL.buildSliceF (l0 := ((kc (List.replicate 32 0) ++ ([.slice none 0 0])))) H rfl TrydT.st42 (by decide) (by rfl) (Fl.cons rfl (rfl) (by (simp only [kc_length, kw_length, List.length_replicate, List.length_append, List.length_cons, List.length_nil, cutI_length, shaOf_length, dig_length, valD_length, rootM_length]; omega)) (Laid.all (by (simp only [kc_length, kw_length, List.length_replicate, List.length_append, List.length_cons, List.length_nil, cutI_length, shaOf_length, dig_length, valD_length, rootM_length]; omega))) Fl.nil) rfl ?_
      intro b63 w11 H
      replace H := H.freeze (i := 0) rfl
      have hV1 : Rob _ (Vals [En.mk (Tv17.fin k).key sv62 (Tv17.fin k).val]) _ := (H.rob 1 rfl).imp fun _ h x hx => by simp at hx; subst hx; exact h
      have hS1 : Rob _ (SlE (.slice (some ⟨b63, 0, none⟩) 1 1) [En.mk (Tv17.fin k).key sv62 (Tv17.fin k).val]) _ := (H.rob 0 rfl).imp fun _ h => SlE.of1 (by exact h) (by rw [hkey]; exact hek)
      replace H := (H.add hV1).add hS1
      have hSe : Rob _ (SlE sv33 [e]) _ := (by exact (H.rob 4 rfl : Rob _ (SlE sv33 _) _).imp fun _ h => by rw [he] at h; exact h)
      have hVe : Rob _ (Vals [e]) _ := (by first | exact (H.rob 3 rfl : Rob _ (Vals (ofM l)) _).imp fun _ h x hx => by simp at hx; subst hx; exact h _ hem | exact (H.rob 4 rfl : Rob _ (Vals (ofM l)) _).imp fun _ h x hx => by simp at hx; subst hx; exact h _ hem | exact (H.rob 5 rfl : Rob _ (Vals (ofM l)) _).imp fun _ h x hx => by simp at hx; subst hx; exact h _ hem)
      refine WL.mv rfl rfl ?_
      refine WL.call TrydT.fb48 rfl (refSameE_c (la := [En.mk (Tv17.fin k).key sv62 (Tv17.fin k).val]) (lb := [e]) H.yylt (H.rob 0 rfl) (H.rob 1 rfl) hSe hVe (by intro x hx; simp at hx; subst hx; rw [hkey]; exact hek) (by intro x hx; simp at hx; subst hx; exact hek) (by simp) (by intro x hx; simp at hx; subst hx; show (Tv17.fin k).val.length ≤ _; rw [hval]; exact hev) ⟨rfl, by intro j h1 h2; simp at h1; subst h1; exact ⟨hkey, hval⟩⟩) ?_
      rintro _ w12 ⟨rfl, hO⟩
      replace H := H.out hO
      refine WL.pv (PV.pick_t rfl rfl rfl) rfl ?_
      refine WL.as rfl rfl ?_
      refine WL.nil ?_
      refine WE.ret ?_
      refine ⟨[_], _, .nil _, ⟨rfl, trivial⟩, ?_⟩
      refine ⟨?_, H.toOut0⟩
      rfl

theorem FindGetsNo_c {X : Nat → Prop} {w : World} {i : Int} {s : Value} {l : List En} {k : List UInt8} (hX : ∀ b, X b → b < w.heap.size) (hf0 : Rob X (SlE s l) w) (hf1 : Rob X (Vals l) w) (hf2 : Rob X (Rounds) w) (hkl : KL l) (hlen : l.length ≤ 9223372036854775807) (hvl : ∀ e ∈ l, e.v.length ≤ 9223372036854775807) (hk : k.length = 32) (hg : getM (ofM l) k = none) :
    Ret Tryd.prog 12 [.int .i64 i, s, .agg (kc k).toArray].toArray w fun v w' => v = .bool true ∧ Out Nil w w' := by
  refine Ret.of_body (N := 47) Tryd.func12 rfl rfl (by simp) ?_
  have H := St.begin hX
  replace H := H.add (rob0 hf2)
  replace H := H.add (rob0 hf1)
  replace H := H.add (rob0 hf0)
  refine WE.seq_reg ?_
  refine WL.box (l := kc k) H rfl (by rfl) rfl ?_
  intro b5 w1 H
  refine WL.as rfl rfl ?_
  refine WL.nil ?_
  refine WE.seq_reg ?_
  refine WL.mv rfl rfl ?_
  refine WL.mv rfl rfl ?_
  refine WL.call TrydT.fb44 rfl (Tree_c (i := i) (l := l) H.yylt (by exact H.rob 0 rfl) (by exact H.rob 1 rfl) (by exact H.rob 2 rfl) (by assumption) (by assumption) (by assumption)) ?_
  rintro _ w2 ⟨bv17, sv17, Tv17, mv17, rfl, hTv17, hbv17, hO, hS_, hR⟩
  replace H := ((H.out hO).add hR).add hS_
  refine WL.mv rfl rfl ?_
  refine WL.pv (PV.extract rfl rfl rfl) rfl ?_
  refine WL.pv (PV.extract rfl rfl rfl) rfl ?_
  refine WL.pv (PV.extract rfl rfl rfl) rfl ?_
  refine WL.as rfl rfl ?_
  refine WL.as rfl rfl ?_
  refine WL.as rfl rfl ?_
  refine WL.nil ?_
  refine WE.seq ?_
  refine WE.seq_reg ?_
  refine WL.mv rfl rfl ?_
  refine WL.pv (PV.not rfl rfl) rfl ?_
  refine WL.nil ?_
  refine WE.cond rfl (fun hc22 => ?_) (fun hc22 => ?_)
  · skip
    try simp only [decide_eq_true_eq, decide_eq_false_iff_not, ne_eq, Decidable.not_not, Bool.not_eq_true', Bool.not_eq_false', Bool.and_eq_true, Bool.or_eq_true, Bool.not_not, Bool.and_eq_false_iff, Bool.or_eq_false_iff, Int.not_lt, Int.not_le] at hc22
    refine WE.seq_reg ?_
    refine WL.call TrydT.fb45 rfl (alive08_c  H.yylt (by exact H.rob 4 rfl) ) ?_
    rintro _ w3 ⟨rfl, hO⟩
    replace H := H.out hO
    refine WL.as rfl rfl ?_
    refine WL.nil ?_
    refine WE.ret ?_
    refine ⟨[_], _, .nil _, ⟨rfl, trivial⟩, ?_⟩
    refine ⟨?_, H.toOut0⟩
    rfl
  · skip
    try simp only [decide_eq_true_eq, decide_eq_false_iff_not, ne_eq, Decidable.not_not, Bool.not_eq_true', Bool.not_eq_false', Bool.and_eq_true, Bool.or_eq_true, Bool.not_not, Bool.and_eq_false_iff, Bool.or_eq_false_iff, Int.not_lt, Int.not_le] at hc22
    obtain ⟨rfl, hi, hfew⟩ := hbv17 (by exact hc22)
    have hok := ofM_ok l hkl
    have hpm := ofM_pm l hkl
    have hml : (ofM l).length ≤ 12 := Nat.le_trans hok.2.2.1 hfew.1
    have hvs := ofM_short hkl hfew.2
    have hsv : ShortV (ofM l) := fun e he => Nat.le_trans (hvs e he) (by decide)
    replace H := H.add (by exact (H.rob 3 rfl : Rob _ (Vals l) _).imp fun _ h => h.sub hok.2.2.2)
    have hone : OneS (ofM l) := OneS.of (H.p 0 rfl)
    have hfit : Tv17.er.fit 0 := hTv17 ▸ grow_fit hpm
    have hgv : Tv17.getV k = none := by rw [getV_map hTv17 hpm, hg]; rfl
    refine WE.skip ?_
    refine WE.seq_reg ?_
    refine WL.mv rfl rfl ?_
    refine WL.loadR rfl TrydT.ag36 rfl rfl (by exact Blk.segAt (H.l 0 rfl) (Seg.all _) (by rfl)) (by (rw [TrydT.sz36]; refine congrArg some ?_; (simp only [kc_length, kw_length, List.length_replicate, List.length_append, List.length_cons, List.length_nil, cutI_length, shaOf_length, dig_length, valD_length, rootM_length]; omega))) ?_
    refine WL.call TrydT.fb49 rfl (GetNo_c (T := Tv17) (k := k) (bits := i) H.yylt (by exact H.rob 2 rfl) (by assumption) (by assumption) (by assumption)) ?_
    rintro _ w4 ⟨rfl, hO⟩
    replace H := H.out hO
    refine WL.mv rfl rfl ?_
    refine WL.pv (PV.extract rfl rfl rfl) rfl ?_
    refine WL.pv (PV.extract rfl rfl rfl) rfl ?_
    refine WL.as rfl rfl ?_
    refine WL.as rfl rfl ?_
    refine WL.nil ?_
    refine WE.seq_reg ?_
    refine WL.mv rfl rfl ?_
    refine WL.loadR rfl TrydT.ag36 rfl rfl (by exact Blk.segAt (H.l 0 rfl) (Seg.all _) (by rfl)) (by (rw [TrydT.sz36]; refine congrArg some ?_; (simp only [kc_length, kw_length, List.length_replicate, List.length_append, List.length_cons, List.length_nil, cutI_length, shaOf_length, dig_length, valD_length, rootM_length]; omega))) ?_
    refine WL.call TrydT.fb50 rfl (refGetNo_c (m := ofM l) (k := k) H.yylt (by exact H.rob 1 rfl) (by simp_all) (by omega) (by assumption) (by assumption)) ?_
    rintro _ w5 ⟨rfl, hO⟩
    replace H := H.out hO
    refine WL.mv rfl rfl ?_
    refine WL.pv (PV.extract rfl rfl rfl) rfl ?_
    refine WL.pv (PV.extract rfl rfl rfl) rfl ?_
    refine WL.as rfl rfl ?_
    refine WL.as rfl rfl ?_
    refine WL.nil ?_
    refine WE.seq_reg ?_
    refine WL.call TrydT.fb45 rfl (alive08_c  H.yylt (by exact H.rob 5 rfl) ) ?_
    rintro _ w6 ⟨rfl, hO⟩
    replace H := H.out hO
    refine WL.mv rfl rfl ?_
    refine WL.known (t := 37) (c := true) rfl (by rfl) ?_
    refine WL.mv rfl rfl ?_
    refine WL.mv rfl rfl ?_
    refine WL.pv (PV.eqlb rfl TrydT.bo4 rfl rfl) rfl ?_
    refine WL.pv (PV.pick_t rfl rfl rfl) rfl ?_
    refine WL.mv rfl rfl ?_
    refine WL.known (t := 42) (c := true) rfl (by rfl) ?_
    refine WL.mv rfl rfl ?_
    refine WL.mv rfl rfl ?_
    refine WL.call TrydT.fb38 rfl (Same_c (la := []) (lb := []) H.yylt (fun _ _ => SlB.nil _) (fun _ _ => SlB.nil _) (by simp)) ?_
    rintro _ w7 ⟨rfl, hO⟩
    replace H := H.out hO
    refine WL.pv (PV.pick_t rfl rfl rfl) rfl ?_
    refine WL.as rfl rfl ?_
    refine WL.nil ?_
    refine WE.ret ?_
    refine ⟨[_], _, .nil _, ⟨rfl, trivial⟩, ?_⟩
    refine ⟨?_, H.toOut0⟩
    rfl

theorem FindGetsYes_c {X : Nat → Prop} {w : World} {i : Int} {s : Value} {l : List En} {k : List UInt8} {e : En} (hX : ∀ b, X b → b < w.heap.size) (hf0 : Rob X (SlE s l) w) (hf1 : Rob X (Vals l) w) (hf2 : Rob X (Rounds) w) (hkl : KL l) (hlen : l.length ≤ 9223372036854775807) (hvl : ∀ e ∈ l, e.v.length ≤ 9223372036854775807) (hk : k.length = 32) (hg : getM (ofM l) k = some e) :
    Ret Tryd.prog 12 [.int .i64 i, s, .agg (kc k).toArray].toArray w fun v w' => v = .bool true ∧ Out Nil w w' := by
  refine Ret.of_body (N := 47) Tryd.func12 rfl rfl (by simp) ?_
  have H := St.begin hX
  replace H := H.add (rob0 hf2)
  replace H := H.add (rob0 hf1)
  replace H := H.add (rob0 hf0)
  refine WE.seq_reg ?_
  refine WL.box (l := kc k) H rfl (by rfl) rfl ?_
  intro b5 w1 H
  refine WL.as rfl rfl ?_
  refine WL.nil ?_
  refine WE.seq_reg ?_
  refine WL.mv rfl rfl ?_
  refine WL.mv rfl rfl ?_
  refine WL.call TrydT.fb44 rfl (Tree_c (i := i) (l := l) H.yylt (by exact H.rob 0 rfl) (by exact H.rob 1 rfl) (by exact H.rob 2 rfl) (by assumption) (by assumption) (by assumption)) ?_
  rintro _ w2 ⟨bv17, sv17, Tv17, mv17, rfl, hTv17, hbv17, hO, hS_, hR⟩
  replace H := ((H.out hO).add hR).add hS_
  refine WL.mv rfl rfl ?_
  refine WL.pv (PV.extract rfl rfl rfl) rfl ?_
  refine WL.pv (PV.extract rfl rfl rfl) rfl ?_
  refine WL.pv (PV.extract rfl rfl rfl) rfl ?_
  refine WL.as rfl rfl ?_
  refine WL.as rfl rfl ?_
  refine WL.as rfl rfl ?_
  refine WL.nil ?_
  refine WE.seq ?_
  refine WE.seq_reg ?_
  refine WL.mv rfl rfl ?_
  refine WL.pv (PV.not rfl rfl) rfl ?_
  refine WL.nil ?_
  refine WE.cond rfl (fun hc22 => ?_) (fun hc22 => ?_)
  · skip
    try simp only [decide_eq_true_eq, decide_eq_false_iff_not, ne_eq, Decidable.not_not, Bool.not_eq_true', Bool.not_eq_false', Bool.and_eq_true, Bool.or_eq_true, Bool.not_not, Bool.and_eq_false_iff, Bool.or_eq_false_iff, Int.not_lt, Int.not_le] at hc22
    refine WE.seq_reg ?_
    refine WL.call TrydT.fb45 rfl (alive08_c  H.yylt (by exact H.rob 4 rfl) ) ?_
    rintro _ w3 ⟨rfl, hO⟩
    replace H := H.out hO
    refine WL.as rfl rfl ?_
    refine WL.nil ?_
    refine WE.ret ?_
    refine ⟨[_], _, .nil _, ⟨rfl, trivial⟩, ?_⟩
    refine ⟨?_, H.toOut0⟩
    rfl
  · skip
    try simp only [decide_eq_true_eq, decide_eq_false_iff_not, ne_eq, Decidable.not_not, Bool.not_eq_true', Bool.not_eq_false', Bool.and_eq_true, Bool.or_eq_true, Bool.not_not, Bool.and_eq_false_iff, Bool.or_eq_false_iff, Int.not_lt, Int.not_le] at hc22
    obtain ⟨rfl, hi, hfew⟩ := hbv17 (by exact hc22)
    have hok := ofM_ok l hkl
    have hpm := ofM_pm l hkl
    have hml : (ofM l).length ≤ 12 := Nat.le_trans hok.2.2.1 hfew.1
    have hvs := ofM_short hkl hfew.2
    have hsv : ShortV (ofM l) := fun e he => Nat.le_trans (hvs e he) (by decide)
    replace H := H.add (by exact (H.rob 3 rfl : Rob _ (Vals l) _).imp fun _ h => h.sub hok.2.2.2)
    have hone : OneS (ofM l) := OneS.of (H.p 0 rfl)
    have hfit : Tv17.er.fit 0 := hTv17 ▸ grow_fit hpm
    have hgv : Tv17.getV k = some e.v := by rw [getV_map hTv17 hpm, hg]; rfl
    have hem := (getM_mem hg).1
    have hev := hsv e hem
    refine WE.skip ?_
    refine WE.seq_reg ?_
    refine WL.mv rfl rfl ?_
    refine WL.loadR rfl TrydT.ag36 rfl rfl (by exact Blk.segAt (H.l 0 rfl) (Seg.all _) (by rfl)) (by (rw [TrydT.sz36]; refine congrArg some ?_; (simp only [kc_length, kw_length, List.length_replicate, List.length_append, List.length_cons, List.length_nil, cutI_length, shaOf_length, dig_length, valD_length, rootM_length]; omega))) ?_
    refine WL.call TrydT.fb49 rfl (GetYes_c (T := Tv17) (k := k) (bits := i) H.yylt (by exact H.rob 2 rfl) (by assumption) (by assumption) (by assumption)) ?_
    rintro _ w4 ⟨sv27, rfl, hO, hOwn⟩
    have hr_ := (rob_own H.yylt hOwn).imp fun _ h => SlB.of_own h
    replace H := (H.out hO).add hr_
    refine WL.mv rfl rfl ?_
    refine WL.pv (PV.extract rfl rfl rfl) rfl ?_
    refine WL.pv (PV.extract rfl rfl rfl) rfl ?_
    refine WL.as rfl rfl ?_
    refine WL.as rfl rfl ?_
    refine WL.nil ?_
    refine WE.seq_reg ?_
    refine WL.mv rfl rfl ?_
    refine WL.loadR rfl TrydT.ag36 rfl rfl (by exact Blk.segAt (H.l 0 rfl) (Seg.all _) (by rfl)) (by (rw [TrydT.sz36]; refine congrArg some ?_; (simp only [kc_length, kw_length, List.length_replicate, List.length_append, List.length_cons, List.length_nil, cutI_length, shaOf_length, dig_length, valD_length, rootM_length]; omega))) ?_
    refine WL.call TrydT.fb50 rfl (refGetYes_c (m := ofM l) (k := k) (e := e) H.yylt (by exact H.rob 2 rfl) (by simp_all) (by omega) (by assumption) (by assumption)) ?_
    rintro _ w5 ⟨rfl, hO⟩
    replace H := H.out hO
    refine WL.mv rfl rfl ?_
    refine WL.pv (PV.extract rfl rfl rfl) rfl ?_
    refine WL.pv (PV.extract rfl rfl rfl) rfl ?_
    refine WL.as rfl rfl ?_
    refine WL.as rfl rfl ?_
    refine WL.nil ?_
    refine WE.seq_reg ?_
    refine WL.call TrydT.fb45 rfl (alive08_c  H.yylt (by exact H.rob 6 rfl) ) ?_
    rintro _ w6 ⟨rfl, hO⟩
    replace H := H.out hO
    refine WL.mv rfl rfl ?_
    refine WL.known (t := 37) (c := true) rfl (by rfl) ?_
    refine WL.mv rfl rfl ?_
    refine WL.mv rfl rfl ?_
    refine WL.pv (PV.eqlb rfl TrydT.bo4 rfl rfl) rfl ?_
    refine WL.pv (PV.pick_t rfl rfl rfl) rfl ?_
    refine WL.mv rfl rfl ?_
    refine WL.known (t := 42) (c := true) rfl (by rfl) ?_
    refine WL.mv rfl rfl ?_
    refine WL.mv rfl rfl ?_
    refine WL.call TrydT.fb38 rfl (Same_c (la := e.v) (lb := e.v) H.yylt (by exact (H.rob 0 rfl : Rob _ (SlB sv27 _) _)) (by exact (H.rob 1 rfl : Rob _ (Vals (ofM l)) _).imp fun _ h => h _ hem) (by omega)) ?_
    rintro _ w7 ⟨rfl, hO⟩
    replace H := H.out hO
    refine WL.pv (PV.pick_t rfl rfl rfl) rfl ?_
    refine WL.as rfl rfl ?_
    refine WL.nil ?_
    refine WE.ret ?_
    refine ⟨[_], _, .nil _, ⟨rfl, trivial⟩, ?_⟩
    refine ⟨?_, H.toOut0⟩
    (show Value.bool _ = Value.bool true; (simp; done))

end Go.Sp.Tryd
