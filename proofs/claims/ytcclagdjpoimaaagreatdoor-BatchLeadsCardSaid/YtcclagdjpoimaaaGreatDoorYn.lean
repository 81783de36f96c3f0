/- Walks of functions, printed by a program of this session (gen.py) from notes on each function. -/
import Derived.Test.YtcclagdjpoimaaaGreatDoorY5
import Derived.Test.YtcclagdjpoimaaaGreatDoorOe
set_option maxRecDepth 100000
set_option maxHeartbeats 1000000
set_option linter.unusedVariables false
set_option linter.unusedSimpArgs false
namespace Go.Sp.Tryz
open Go.Proofs Go.RowKit Go.Sp
theorem BatchBuildsBad_c {X : Nat → Prop} {w : World} {i : Int} {s : Value} {l : List En} (hX : ∀ b, X b → b < w.heap.size) (hf0 : Rob X (SlE s l) w) (hf1 : Rob X (Vals l) w) (hf2 : Rob X (Rounds) w) (hi : ¬ (0 ≤ i ∧ i ≤ 256)) (hkl : KL l) (hlen : l.length ≤ 9223372036854775807) (hvl : ∀ e ∈ l, e.v.length ≤ 9223372036854775807) :
    Ret Tryz.prog 3 [.int .i64 i, s].toArray w fun v w' => v = .bool true ∧ Out Nil w w' := by
  refine Ret.of_body (N := 93) Tryz.func3 rfl rfl (by simp) ?_
  have H := St.begin hX
  replace H := H.add (rob0 hf2)
  replace H := H.add (rob0 hf1)
  replace H := H.add (rob0 hf0)
  refine WE.seq_reg ?_
  refine WL.as rfl rfl ?_
  refine WL.nil ?_
  refine WE.seq_reg ?_
  refine WL.mv rfl rfl ?_
  refine WL.mv rfl rfl ?_
  refine WL.call TryzT.fb8 rfl (Tree_c (i := i) (l := l) H.yylt (by exact H.rob 0 rfl) (by exact H.rob 1 rfl) (by exact H.rob 2 rfl) (by assumption) (by assumption) (by assumption)) ?_
  rintro _ w1 ⟨bv20, sv20, Tv20, mv20, rfl, hTv20, hbv20, hO, hS_, hR⟩
  replace H := ((H.out hO).add hR).add hS_
  have hbf : bv20 = false := by cases hb_ : bv20; rfl; exact absurd (hbv20 hb_).2.1 hi
  subst hbf
  refine WL.mv rfl rfl ?_
  refine WL.pv (PV.extract rfl rfl rfl) rfl ?_
  refine WL.pv (PV.extract rfl rfl rfl) rfl ?_
  refine WL.pv (PV.extract rfl rfl rfl) rfl ?_
  refine WL.as rfl rfl ?_
  refine WL.as rfl rfl ?_
  refine WL.as rfl rfl ?_
  refine WL.nil ?_
  refine WE.seq_reg ?_
  refine WL.mv rfl rfl ?_
  refine WL.call TryzT.fb9 rfl (HashBad_c (i := i) H.yylt  (by assumption)) ?_
  rintro _ w2 ⟨rfl, hO⟩
  replace H := H.out hO
  refine WL.as rfl rfl ?_
  refine WL.nil ?_
  refine WE.seq ?_
  refine WE.seq_reg ?_
  refine WL.mv rfl rfl ?_
  refine WL.pv (PV.not rfl rfl) rfl ?_
  refine WL.nil ?_
  refine WE.cond_t' rfl rfl ?_
  refine WE.seq_reg ?_
  refine WL.call TryzT.fb10 rfl (alive12_c H.yylt (by exact (H.rob 4 rfl : Rob _ (Rounds) _))) ?_
  rintro _ w3 ⟨rfl, hO⟩
  replace H := H.out hO
  refine WL.as rfl rfl ?_
  refine WL.nil ?_
  refine WE.ret ?_
  refine ⟨[_], _, .nil _, ⟨rfl, trivial⟩, ?_⟩
  refine ⟨?_, H.toOut0⟩
  rfl

def keyX (e : En) : Ch := ⟨e.k, .slice none 0 0, [], false⟩
theorem keyX_keys (l : List En) : (l.map keyX).map Ch.k = l.map En.k := by rw [List.map_map]; rfl
theorem keyX_xl {l : List En} (h : KL l) : XL (l.map keyX) := fun c hc => by obtain ⟨e, he, rfl⟩ := List.mem_map.1 hc; exact h e he

theorem BatchBuildsOrd_c {X : Nat → Prop} {w : World} {i : Int} {s : Value} {l : List En} (hX : ∀ b, X b → b < w.heap.size) (hf0 : Rob X (SlE s l) w) (hf1 : Rob X (Vals l) w) (hf2 : Rob X (Rounds) w) (hi : 0 ≤ i ∧ i ≤ 256) (hkl : KL l) (hlen : l.length ≤ 9223372036854775807) (hvl : ∀ e ∈ l, e.v.length ≤ 9223372036854775807) (hck : chkK (l.map En.k) ≠ 0) :
    Ret Tryz.prog 3 [.int .i64 i, s].toArray w fun v w' => v = .bool true ∧ Out Nil w w' := by
  refine Ret.of_body (N := 93) Tryz.func3 rfl rfl (by simp) ?_
  have H := St.begin hX
  replace H := H.add (rob0 hf2)
  replace H := H.add (rob0 hf1)
  replace H := H.add (rob0 hf0)
  refine WE.seq_reg ?_
  refine WL.as rfl rfl ?_
  refine WL.nil ?_
  refine WE.seq_reg ?_
  refine WL.mv rfl rfl ?_
  refine WL.mv rfl rfl ?_
  refine WL.call TryzT.fb8 rfl (Tree_c (i := i) (l := l) H.yylt (by exact H.rob 0 rfl) (by exact H.rob 1 rfl) (by exact H.rob 2 rfl) (by assumption) (by assumption) (by assumption)) ?_
  rintro _ w1 ⟨bv20, sv20, Tv20, mv20, rfl, hTv20, hbv20, hO, hS_, hR⟩
  replace H := ((H.out hO).add hR).add hS_
  refine WL.mv rfl rfl ?_
  refine WL.pv (PV.extract rfl rfl rfl) rfl ?_
  refine WL.pv (PV.extract rfl rfl rfl) rfl ?_
  refine WL.pv (PV.extract rfl rfl rfl) rfl ?_
  refine WL.as rfl rfl ?_
  refine WL.as rfl rfl ?_
  refine WL.as rfl rfl ?_
  refine WL.nil ?_
  refine WE.seq_reg ?_
  refine WL.mv rfl rfl ?_
  refine WL.call TryzT.fb9 rfl (Hash_c (i := i) H.yylt  (by assumption)) ?_
  rintro _ w2 ⟨bhv25, bcv25, rfl, hO, hge, hB, hR⟩
  replace H := H.pushR hO (Ent.blk bcv25 108 [.int .i64 0]) hB (fun c hc => by cases hc; exact hge) hR
  refine WL.as rfl rfl ?_
  refine WL.nil ?_
  refine WE.seq ?_
  refine WE.seq_reg ?_
  refine WL.mv rfl rfl ?_
  refine WL.pv (PV.not rfl rfl) rfl ?_
  refine WL.nil ?_
  refine WE.cond rfl (fun hc27 => ?_) (fun hc27 => ?_)
  · skip
    try simp only [decide_eq_true_eq, decide_eq_false_iff_not, ne_eq, Decidable.not_not, Bool.not_eq_true', Bool.not_eq_false', Bool.and_eq_true, Bool.or_eq_true, Bool.not_not, Bool.and_eq_false_iff, Bool.or_eq_false_iff, Int.not_lt, Int.not_le] at hc27
    refine WE.seq_reg ?_
    refine WL.call TryzT.fb10 rfl (alive12_c H.yylt (by exact (H.rob 5 rfl : Rob _ (Rounds) _))) ?_
    rintro _ w3 ⟨rfl, hO⟩
    replace H := H.out hO
    refine WL.as rfl rfl ?_
    refine WL.nil ?_
    refine WE.ret ?_
    refine ⟨[_], _, .nil _, ⟨rfl, trivial⟩, ?_⟩
    refine ⟨?_, H.toOut0⟩
    rfl
  · skip
    try simp only [decide_eq_true_eq, decide_eq_false_iff_not, ne_eq, Decidable.not_not, Bool.not_eq_true', Bool.not_eq_false', Bool.and_eq_true, Bool.or_eq_true, Bool.not_not, Bool.and_eq_false_iff, Bool.or_eq_false_iff, Int.not_lt, Int.not_le] at hc27
    obtain ⟨rfl, -, hfew⟩ := hbv20 (by exact hc27)
    have hok := ofM_ok l hkl
    have hpm := ofM_pm l hkl
    have hml : (ofM l).length ≤ 12 := Nat.le_trans hok.2.2.1 hfew.1
    have hvs := ofM_short hkl hfew.2
    have hsv : ShortV (ofM l) := fun e he => Nat.le_trans (hvs e he) (by decide)
    replace H := H.add (by exact (H.rob 4 rfl : Rob _ (Vals l) _).imp fun _ h => h.sub hok.2.2.2)
    have hone : OneS (ofM l) := OneS.of (H.p 0 rfl)
    have hfit : Tv20.er.fit 0 := hTv20 ▸ grow_fit hpm
    have hl12 : l.length ≤ 12 := hfew.1
    have hsvl : ShortV l := fun e he => Nat.le_trans (hfew.2 e he) (by decide)
    have honl : OneS l := OneS.of (by exact (H.p 5 rfl : Vals l _))
    refine WE.skip ?_
    refine WE.seq_reg ?_
    refine WL.as rfl rfl ?_
    refine WL.nil ?_
    refine WE.seq ?_
    refine WE.seq_reg ?_
    refine WL.mv rfl rfl ?_
    refine WL.pv (PV.lenS (by exact (H.p 4 rfl : SlE s l _)) TryzT.sl22 rfl) rfl ?_
    refine WL.mv rfl rfl ?_
    refine WL.nil ?_
    refine WE.block ?_
    replace H := H.nilOsl 36 34
    refine WE.loop (α := Nat × Value) [9, 11, 31, 32, 33, 34, 35, 36, 37, 38, 39, 40, 41] (fun p => [(31, .int .i64 (p.1 : Int)), (9, p.2)]) (fun p wl => p.1 ≤ l.length ∧ St X w wl [] [Ent.osl w.heap.size p.2 36 34 (((l.take p.1).map keyX).length) (((l.take p.1).map keyX).flatMap chC), Ent.blk bcv25 108 [.int .i64 0]] [Vals (ofM l), HAt bhv25 bcv25 i, SlE sv20 (ofM l), TrA i Tv20, SlE s l, Vals l, Rounds]) (fun p => l.length - p.1) (0, .slice none 0 0) ⟨rfl, rfl, trivial⟩ ⟨Nat.zero_le _, H⟩ ?_
    intro ⟨j, av⟩ γ0 w4 hI
    try dsimp only at hI
    obtain ⟨hj, H⟩ := hI
    try dsimp only at hj
    refine WE.seq_reg ?_
    refine WL.pv (PV.lss rfl rfl rfl) rfl ?_
    refine WL.nil ?_
    refine WE.seq ?_
    refine WE.cond rfl (fun hc32 => ?_) (fun hc32 => ?_)
    · skip
      try simp only [decide_eq_true_eq, decide_eq_false_iff_not, ne_eq, Decidable.not_not, Bool.not_eq_true', Bool.not_eq_false', Bool.and_eq_true, Bool.or_eq_true, Bool.not_not, Bool.and_eq_false_iff, Bool.or_eq_false_iff, Int.not_lt, Int.not_le] at hc32
      have hlt : j < l.length := by omega
      have hkj := hkl _ (List.getElem_mem hlt)
      have hE2 : (enC l[j]).length = 33 := enC_length hkj
      have hS : ((l.take (j + 1)).map keyX) = ((l.take j).map keyX) ++ [keyX l[j]] := by rw [List.take_succ_eq_append_getElem hlt, List.map_append]; rfl
      have htl : ((l.take j).map keyX).length = j := by rw [List.length_map, List.length_take]; omega
      refine WE.skip ?_
      refine WE.seq ?_
      refine WE.block ?_
      refine WE.seq_reg ?_
      refine WL.pv (PV.idxS rfl (by exact (H.p 4 rfl : SlE s l _)) TryzT.sl22 TryzT.sz34 rfl rfl (by omega) (by omega)) rfl ?_
      refine WL.loadR rfl TryzT.ag34 rfl rfl (SlE.rd (by exact (H.p 4 rfl : SlE s l _)) hkl j hlt) (by (rw [TryzT.sz34]; refine congrArg some ?_; (simp [kc_length, kw_length, *]; done))) ?_
      refine WL.alloc H rfl TryzT.ze34 rfl ?_
      intro b11 w5 H
      refine WL.storeL H 0 rfl rfl rfl (new := enC l[j]) rfl (by (rw [TryzT.sz34]; refine congrArg some ?_; (simp [kc_length, kw_length, *]; done))) (one_enC (honl _ (List.getElem_mem hlt))) (Laid.at (Laid.all (by (simp only [kc_length, kw_length, List.length_replicate, List.length_append, List.length_cons, List.length_nil, cutI_length, shaOf_length, dig_length, valD_length, rootM_length]; omega))) (by rfl)) rfl ?_
      intro w6 H
      refine WL.nil ?_
      refine WE.reg ?_
      refine WL.mv rfl rfl ?_
      refine WL.pv (PV.fieldAddr rfl TryzT.fd34_0 rfl) rfl ?_
      refine WL.loadR rfl TryzT.ag31 rfl rfl (by exact Blk.segAt (H.l 0 rfl) (Seg.l (Seg.all _)) (by rfl)) (by (rw [TryzT.sz31]; refine congrArg some ?_; (simp only [kc_length, kw_length, List.length_replicate, List.length_append, List.length_cons, List.length_nil, cutI_length, shaOf_length, dig_length, valD_length, rootM_length]; omega))) ?_
      refine WL.pv (PV.buildS rfl TryzT.pl36 TryzT.ze36 (Fl.cons rfl (by rfl) (by (simp only [kc_length, kw_length, List.length_replicate, List.length_append, List.length_cons, List.length_nil, cutI_length, shaOf_length, dig_length, valD_length, rootM_length]; omega)) (Laid.left (Laid.all (by (simp only [kc_length, kw_length, List.length_replicate, List.length_append, List.length_cons, List.length_nil, cutI_length, shaOf_length, dig_length, valD_length, rootM_length]; omega)))) Fl.nil)) rfl ?_
      refine WL.buildSliceF (l0 := ((kc (List.replicate 32 0) ++ ([.slice none 0 0] ++ ([.bool false]))))) H rfl TryzT.st29 (by decide) (by rfl) (Fl.cons rfl (by rfl) (by (simp only [kc_length, kw_length, List.length_replicate, List.length_append, List.length_cons, List.length_nil, cutI_length, shaOf_length, dig_length, valD_length, rootM_length]; omega)) (Laid.all (by (simp only [kc_length, kw_length, List.length_replicate, List.length_append, List.length_cons, List.length_nil, cutI_length, shaOf_length, dig_length, valD_length, rootM_length]; omega))) Fl.nil) rfl ?_
      intro b39 w7 H
      refine WL.append (m := 1) H 2 TryzT.st29 (by decide) rfl rfl rfl (SlC.of_blk (n := 1) (H.l 0 rfl) (chC_len (c := keyX l[j]) hkj)) (one_chC (c := keyX l[j]) rfl) (by omega) (by decide) rfl ?_
      intro v40 w8 H
      have hSl := congrArg List.length hS
      rw [List.length_append, List.length_singleton] at hSl
      have hSf := congrArg (List.flatMap chC) hS
      rw [List.flatMap_append, List.flatMap_singleton] at hSf
      replace H := H.forget 0
      replace H := H.conv (L' := [Ent.blk b11 34 (enC l[j]), Ent.osl w.heap.size v40 36 34 ((((l.take (j + 1)).map keyX)).length) ((((l.take (j + 1)).map keyX)).flatMap chC), Ent.blk bcv25 108 [.int .i64 0]]) (by rw [hSl, hSf]; rfl)
      refine WL.as rfl rfl ?_
      refine WL.nil ?_
      refine WE.reg ?_
      refine WL.pv (PV.eq (v' := .int .i64 ((j + 1 : Nat) : Int)) (PV.add64 rfl rfl rfl (by omega) (by omega)) (by rfl)) rfl ?_
      refine WL.mv rfl rfl ?_
      refine WL.nil ?_
      replace H := H.forget 0
      exact ⟨(j + 1, v40), (by repeat (first | with_reducible exact Off.refl _ _ | refine Off.upd rfl ?_ | refine Off.setAll rfl ?_ | refine Off.forget' rfl ?_)), ⟨rfl, rfl, trivial⟩, rfl, ⟨by dsimp only; omega, H⟩, (by dsimp only; omega)⟩
    · skip
      try simp only [decide_eq_true_eq, decide_eq_false_iff_not, ne_eq, Decidable.not_not, Bool.not_eq_true', Bool.not_eq_false', Bool.and_eq_true, Bool.or_eq_true, Bool.not_not, Bool.and_eq_false_iff, Bool.or_eq_false_iff, Int.not_lt, Int.not_le] at hc32
      have hje : l.take j = l := List.take_of_length_le (by omega)
      refine WE.exit ?_
      refine WE.seq_reg ?_
      refine WL.mv rfl rfl ?_
      refine WL.mv rfl rfl ?_
      rw [hje] at H
      replace H := H.freeze (i := 0) rfl
      replace H := H.add (show Rob _ (SlX av (l.map keyX)) _ from (H.rob 0 rfl).imp fun _ h => SlC.of_own h)
      refine WL.call TryzT.fb11 rfl (BuildBad_c (l := l) (s := s) H.yylt (by exact (H.rob 6 rfl : Rob _ (SlE s l) _)) (by exact (H.rob 7 rfl : Rob _ (Vals l) _)) hkl hsvl hck (by omega)) ?_
      rintro _ w9 ⟨rfl, hO⟩
      replace H := H.out hO
      refine WL.mv rfl rfl ?_
      refine WL.pv (PV.extract rfl rfl rfl) rfl ?_
      refine WL.pv (PV.extract rfl rfl rfl) rfl ?_
      refine WL.as rfl rfl ?_
      refine WL.as rfl rfl ?_
      refine WL.nil ?_
      refine WE.seq ?_
      refine WE.seq_reg ?_
      refine WL.mv rfl rfl ?_
      refine WL.call TryzT.fb12 rfl (r12Check_c (s := av) (l := l.map keyX) H.yylt (by exact (H.rob 0 rfl : Rob _ (SlX av (l.map keyX)) _)) (keyX_xl hkl) (by rw [List.length_map]; omega)) ?_
      rintro _ w10 ⟨rfl, hO⟩
      replace H := H.out hO
      rw [keyX_keys]
      refine WL.as rfl rfl ?_
      refine WL.nil ?_
      refine WE.seq_reg ?_
      refine WL.mv rfl rfl ?_
      refine WL.pv (PV.neq rfl rfl rfl) rfl ?_
      refine WL.nil ?_
      refine WE.cond_t' rfl (by simp [hck]) ?_
      refine WE.seq_reg ?_
      refine WL.call TryzT.fb10 rfl (alive12_c H.yylt (by exact (H.rob 8 rfl : Rob _ (Rounds) _))) ?_
      rintro _ w11 ⟨rfl, hO⟩
      replace H := H.out hO
      refine WL.mv rfl rfl ?_
      refine WL.known (t := 53) (c := true) rfl (by rfl) ?_
      refine WL.mv rfl rfl ?_
      refine WL.pv (PV.eqlPn rfl TryzT.pt23 rfl rfl) rfl ?_
      refine WL.pv (PV.pick_t rfl rfl rfl) rfl ?_
      refine WL.mv rfl rfl ?_
      refine WL.known (t := 57) (c := true) rfl (by rfl) ?_
      refine WL.mv rfl rfl ?_
      refine WL.mv rfl rfl ?_
      refine WL.pv (PV.eql rfl rfl rfl) rfl ?_
      refine WL.pv (PV.pick_t rfl rfl rfl) rfl ?_
      refine WL.as rfl rfl ?_
      refine WL.nil ?_
      refine WE.ret ?_
      refine ⟨[_], _, .nil _, ⟨rfl, trivial⟩, ?_⟩
      refine ⟨?_, H.toOut0⟩
      (show Value.bool _ = Value.bool true; (simp; done))

theorem ofM_id {m : List En} (hs : Srt m) (hk : KL m) : ofM m = m := by
  have hl : LtX (m.map chE) := (List.pairwise_map (f := chE) (R := fun a b => num a.k < num b.k)).2 hs
  have e : ofM m = apM [] (m.map chE) := (apM_chE m []).symm
  refine Srt.ext (ofM_ok m hk).1 hs fun x => ?_
  rw [e, mem_apM _ _ _ hl]
  constructor
  · rintro (⟨c, hc, _, rfl⟩ | ⟨h, _⟩)
    · obtain ⟨y, hy, rfl⟩ := List.mem_map.1 hc
      exact hy
    · cases h
  · exact fun h => .inl ⟨chE x, List.mem_map_of_mem h, rfl, rfl⟩
theorem chk_ofM {m : List En} (hs : Srt m) : chkK (m.map En.k) = 0 := chkK_lt _ ((List.pairwise_map (f := En.k) (R := fun a b => num a < num b)).2 hs)

theorem BatchBuilds_c {X : Nat → Prop} {w : World} {i : Int} {s : Value} {l : List En} (hX : ∀ b, X b → b < w.heap.size) (hf0 : Rob X (SlE s l) w) (hf1 : Rob X (Vals l) w) (hf2 : Rob X (Rounds) w) (hi : 0 ≤ i ∧ i ≤ 256) (hkl : KL l) (hlen : l.length ≤ 9223372036854775807) (hvl : ∀ e ∈ l, e.v.length ≤ 9223372036854775807) (hck : chkK (l.map En.k) = 0) :
    Ret Tryz.prog 3 [.int .i64 i, s].toArray w fun v w' => v = .bool true ∧ Out Nil w w' := by
  refine Ret.of_body (N := 93) Tryz.func3 rfl rfl (by simp) ?_
  have H := St.begin hX
  replace H := H.add (rob0 hf2)
  replace H := H.add (rob0 hf1)
  replace H := H.add (rob0 hf0)
  refine WE.seq_reg ?_
  refine WL.as rfl rfl ?_
  refine WL.nil ?_
  refine WE.seq_reg ?_
  refine WL.mv rfl rfl ?_
  refine WL.mv rfl rfl ?_
  refine WL.call TryzT.fb8 rfl (Tree_c (i := i) (l := l) H.yylt (by exact H.rob 0 rfl) (by exact H.rob 1 rfl) (by exact H.rob 2 rfl) (by assumption) (by assumption) (by assumption)) ?_
  rintro _ w1 ⟨bv20, sv20, Tv20, mv20, rfl, hTv20, hbv20, hO, hS_, hR⟩
  replace H := ((H.out hO).add hR).add hS_
  refine WL.mv rfl rfl ?_
  refine WL.pv (PV.extract rfl rfl rfl) rfl ?_
  refine WL.pv (PV.extract rfl rfl rfl) rfl ?_
  refine WL.pv (PV.extract rfl rfl rfl) rfl ?_
  refine WL.as rfl rfl ?_
  refine WL.as rfl rfl ?_
  refine WL.as rfl rfl ?_
  refine WL.nil ?_
  refine WE.seq_reg ?_
  refine WL.mv rfl rfl ?_
  refine WL.call TryzT.fb9 rfl (Hash_c (i := i) H.yylt  (by assumption)) ?_
  rintro _ w2 ⟨bhv25, bcv25, rfl, hO, hge, hB, hR⟩
  replace H := H.pushR hO (Ent.blk bcv25 108 [.int .i64 0]) hB (fun c hc => by cases hc; exact hge) hR
  refine WL.as rfl rfl ?_
  refine WL.nil ?_
  refine WE.seq ?_
  refine WE.seq_reg ?_
  refine WL.mv rfl rfl ?_
  refine WL.pv (PV.not rfl rfl) rfl ?_
  refine WL.nil ?_
  refine WE.cond rfl (fun hc27 => ?_) (fun hc27 => ?_)
  · skip
    try simp only [decide_eq_true_eq, decide_eq_false_iff_not, ne_eq, Decidable.not_not, Bool.not_eq_true', Bool.not_eq_false', Bool.and_eq_true, Bool.or_eq_true, Bool.not_not, Bool.and_eq_false_iff, Bool.or_eq_false_iff, Int.not_lt, Int.not_le] at hc27
    refine WE.seq_reg ?_
    refine WL.call TryzT.fb10 rfl (alive12_c H.yylt (by exact (H.rob 5 rfl : Rob _ (Rounds) _))) ?_
    rintro _ w3 ⟨rfl, hO⟩
    replace H := H.out hO
    refine WL.as rfl rfl ?_
    refine WL.nil ?_
    refine WE.ret ?_
    refine ⟨[_], _, .nil _, ⟨rfl, trivial⟩, ?_⟩
    refine ⟨?_, H.toOut0⟩
    rfl
  · skip
    try simp only [decide_eq_true_eq, decide_eq_false_iff_not, ne_eq, Decidable.not_not, Bool.not_eq_true', Bool.not_eq_false', Bool.and_eq_true, Bool.or_eq_true, Bool.not_not, Bool.and_eq_false_iff, Bool.or_eq_false_iff, Int.not_lt, Int.not_le] at hc27
    obtain ⟨rfl, -, hfew⟩ := hbv20 (by exact hc27)
    have hok := ofM_ok l hkl
    have hpm := ofM_pm l hkl
    have hml : (ofM l).length ≤ 12 := Nat.le_trans hok.2.2.1 hfew.1
    have hvs := ofM_short hkl hfew.2
    have hsv : ShortV (ofM l) := fun e he => Nat.le_trans (hvs e he) (by decide)
    replace H := H.add (by exact (H.rob 4 rfl : Rob _ (Vals l) _).imp fun _ h => h.sub hok.2.2.2)
    have hone : OneS (ofM l) := OneS.of (H.p 0 rfl)
    have hfit : Tv20.er.fit 0 := hTv20 ▸ grow_fit hpm
    have hl12 : l.length ≤ 12 := hfew.1
    have hsvl : ShortV l := fun e he => Nat.le_trans (hfew.2 e he) (by decide)
    have honl : OneS l := OneS.of (by exact (H.p 5 rfl : Vals l _))
    refine WE.skip ?_
    refine WE.seq_reg ?_
    refine WL.as rfl rfl ?_
    refine WL.nil ?_
    refine WE.seq ?_
    refine WE.seq_reg ?_
    refine WL.mv rfl rfl ?_
    refine WL.pv (PV.lenS (by exact (H.p 4 rfl : SlE s l _)) TryzT.sl22 rfl) rfl ?_
    refine WL.mv rfl rfl ?_
    refine WL.nil ?_
    refine WE.block ?_
    replace H := H.nilOsl 36 34
    refine WE.loop (α := Nat × Value) [9, 11, 31, 32, 33, 34, 35, 36, 37, 38, 39, 40, 41] (fun p => [(31, .int .i64 (p.1 : Int)), (9, p.2)]) (fun p wl => p.1 ≤ l.length ∧ St X w wl [] [Ent.osl w.heap.size p.2 36 34 (((l.take p.1).map keyX).length) (((l.take p.1).map keyX).flatMap chC), Ent.blk bcv25 108 [.int .i64 0]] [Vals (ofM l), HAt bhv25 bcv25 i, SlE sv20 (ofM l), TrA i Tv20, SlE s l, Vals l, Rounds]) (fun p => l.length - p.1) (0, .slice none 0 0) ⟨rfl, rfl, trivial⟩ ⟨Nat.zero_le _, H⟩ ?_
    intro ⟨j, av⟩ γ0 w4 hI
    try dsimp only at hI
    obtain ⟨hj, H⟩ := hI
    try dsimp only at hj
    refine WE.seq_reg ?_
    refine WL.pv (PV.lss rfl rfl rfl) rfl ?_
    refine WL.nil ?_
    refine WE.seq ?_
    refine WE.cond rfl (fun hc32 => ?_) (fun hc32 => ?_)
    · skip
      try simp only [decide_eq_true_eq, decide_eq_false_iff_not, ne_eq, Decidable.not_not, Bool.not_eq_true', Bool.not_eq_false', Bool.and_eq_true, Bool.or_eq_true, Bool.not_not, Bool.and_eq_false_iff, Bool.or_eq_false_iff, Int.not_lt, Int.not_le] at hc32
      have hlt : j < l.length := by omega
      have hkj := hkl _ (List.getElem_mem hlt)
      have hE2 : (enC l[j]).length = 33 := enC_length hkj
      have hS : ((l.take (j + 1)).map keyX) = ((l.take j).map keyX) ++ [keyX l[j]] := by rw [List.take_succ_eq_append_getElem hlt, List.map_append]; rfl
      have htl : ((l.take j).map keyX).length = j := by rw [List.length_map, List.length_take]; omega
      refine WE.skip ?_
      refine WE.seq ?_
      refine WE.block ?_
      refine WE.seq_reg ?_
      refine WL.pv (PV.idxS rfl (by exact (H.p 4 rfl : SlE s l _)) TryzT.sl22 TryzT.sz34 rfl rfl (by omega) (by omega)) rfl ?_
      refine WL.loadR rfl TryzT.ag34 rfl rfl (SlE.rd (by exact (H.p 4 rfl : SlE s l _)) hkl j hlt) (by (rw [TryzT.sz34]; refine congrArg some ?_; (simp [kc_length, kw_length, *]; done))) ?_
      refine WL.alloc H rfl TryzT.ze34 rfl ?_
      intro b11 w5 H
      refine WL.storeL H 0 rfl rfl rfl (new := enC l[j]) rfl (by (rw [TryzT.sz34]; refine congrArg some ?_; (simp [kc_length, kw_length, *]; done))) (one_enC (honl _ (List.getElem_mem hlt))) (Laid.at (Laid.all (by (simp only [kc_length, kw_length, List.length_replicate, List.length_append, List.length_cons, List.length_nil, cutI_length, shaOf_length, dig_length, valD_length, rootM_length]; omega))) (by rfl)) rfl ?_
      intro w6 H
      refine WL.nil ?_
      refine WE.reg ?_
      refine WL.mv rfl rfl ?_
      refine WL.pv (PV.fieldAddr rfl TryzT.fd34_0 rfl) rfl ?_
      refine WL.loadR rfl TryzT.ag31 rfl rfl (by exact Blk.segAt (H.l 0 rfl) (Seg.l (Seg.all _)) (by rfl)) (by (rw [TryzT.sz31]; refine congrArg some ?_; (simp only [kc_length, kw_length, List.length_replicate, List.length_append, List.length_cons, List.length_nil, cutI_length, shaOf_length, dig_length, valD_length, rootM_length]; omega))) ?_
      refine WL.pv (PV.buildS rfl TryzT.pl36 TryzT.ze36 (Fl.cons rfl (by rfl) (by (simp only [kc_length, kw_length, List.length_replicate, List.length_append, List.length_cons, List.length_nil, cutI_length, shaOf_length, dig_length, valD_length, rootM_length]; omega)) (Laid.left (Laid.all (by (simp only [kc_length, kw_length, List.length_replicate, List.length_append, List.length_cons, List.length_nil, cutI_length, shaOf_length, dig_length, valD_length, rootM_length]; omega)))) Fl.nil)) rfl ?_
      refine WL.buildSliceF (l0 := ((kc (List.replicate 32 0) ++ ([.slice none 0 0] ++ ([.bool false]))))) H rfl TryzT.st29 (by decide) (by rfl) (Fl.cons rfl (by rfl) (by (simp only [kc_length, kw_length, List.length_replicate, List.length_append, List.length_cons, List.length_nil, cutI_length, shaOf_length, dig_length, valD_length, rootM_length]; omega)) (Laid.all (by (simp only [kc_length, kw_length, List.length_replicate, List.length_append, List.length_cons, List.length_nil, cutI_length, shaOf_length, dig_length, valD_length, rootM_length]; omega))) Fl.nil) rfl ?_
      intro b39 w7 H
      refine WL.append (m := 1) H 2 TryzT.st29 (by decide) rfl rfl rfl (SlC.of_blk (n := 1) (H.l 0 rfl) (chC_len (c := keyX l[j]) hkj)) (one_chC (c := keyX l[j]) rfl) (by omega) (by decide) rfl ?_
      intro v40 w8 H
      have hSl := congrArg List.length hS
      rw [List.length_append, List.length_singleton] at hSl
      have hSf := congrArg (List.flatMap chC) hS
      rw [List.flatMap_append, List.flatMap_singleton] at hSf
      replace H := H.forget 0
      replace H := H.conv (L' := [Ent.blk b11 34 (enC l[j]), Ent.osl w.heap.size v40 36 34 ((((l.take (j + 1)).map keyX)).length) ((((l.take (j + 1)).map keyX)).flatMap chC), Ent.blk bcv25 108 [.int .i64 0]]) (by rw [hSl, hSf]; rfl)
      refine WL.as rfl rfl ?_
      refine WL.nil ?_
      refine WE.reg ?_
      refine WL.pv (PV.eq (v' := .int .i64 ((j + 1 : Nat) : Int)) (PV.add64 rfl rfl rfl (by omega) (by omega)) (by rfl)) rfl ?_
      refine WL.mv rfl rfl ?_
      refine WL.nil ?_
      replace H := H.forget 0
      exact ⟨(j + 1, v40), (by repeat (first | with_reducible exact Off.refl _ _ | refine Off.upd rfl ?_ | refine Off.setAll rfl ?_ | refine Off.forget' rfl ?_)), ⟨rfl, rfl, trivial⟩, rfl, ⟨by dsimp only; omega, H⟩, (by dsimp only; omega)⟩
    · skip
      try simp only [decide_eq_true_eq, decide_eq_false_iff_not, ne_eq, Decidable.not_not, Bool.not_eq_true', Bool.not_eq_false', Bool.and_eq_true, Bool.or_eq_true, Bool.not_not, Bool.and_eq_false_iff, Bool.or_eq_false_iff, Int.not_lt, Int.not_le] at hc32
      have hje : l.take j = l := List.take_of_length_le (by omega)
      refine WE.exit ?_
      refine WE.seq_reg ?_
      refine WL.mv rfl rfl ?_
      refine WL.mv rfl rfl ?_
      rw [hje] at H
      replace H := H.freeze (i := 0) rfl
      replace H := H.add (show Rob _ (SlX av (l.map keyX)) _ from (H.rob 0 rfl).imp fun _ h => SlC.of_own h)
      refine WL.call TryzT.fb11 rfl (BuildOk_c (l := l) (s := s) (bits := i) H.yylt (H.l 0 rfl) (by exact H.robL 0 rfl 3 rfl) (by exact (H.robL 0 rfl 6 rfl : Rob _ (SlE s l) _)) (by exact (H.robL 0 rfl 7 rfl : Rob _ (Vals l) _)) (by exact H.robL 0 rfl 8 rfl) hi hkl hsvl hck (by omega)) ?_
      rintro _ w9 ⟨Tv45, mv45, rfl, hTv45, hO, hB, hR⟩
      replace H := H.calledR 0 rfl hO hB hR
      refine WL.mv rfl rfl ?_
      refine WL.pv (PV.extract rfl rfl rfl) rfl ?_
      refine WL.pv (PV.extract rfl rfl rfl) rfl ?_
      refine WL.as rfl rfl ?_
      refine WL.as rfl rfl ?_
      refine WL.nil ?_
      refine WE.seq ?_
      refine WE.seq_reg ?_
      refine WL.mv rfl rfl ?_
      refine WL.call TryzT.fb12 rfl (r12Check_c (s := av) (l := l.map keyX) H.yylt (by exact (H.rob 1 rfl : Rob _ (SlX av (l.map keyX)) _)) (keyX_xl hkl) (by rw [List.length_map]; omega)) ?_
      rintro _ w10 ⟨rfl, hO⟩
      replace H := H.out hO
      rw [keyX_keys]
      refine WL.as rfl rfl ?_
      refine WL.nil ?_
      refine WE.seq_reg ?_
      refine WL.mv rfl rfl ?_
      refine WL.pv (PV.neq rfl rfl rfl) rfl ?_
      refine WL.nil ?_
      refine WE.cond_f' rfl (by simp [hck]) ?_
      refine WE.skip ?_
      refine WE.seq_reg ?_
      refine WL.mv rfl rfl ?_
      refine WL.mv rfl rfl ?_
      refine WL.call TryzT.fb11 rfl (BuildOk_c (l := ofM l) (s := sv20) (bits := i) H.yylt (H.l 0 rfl) (by exact H.robL 0 rfl 4 rfl) (by exact (H.robL 0 rfl 5 rfl : Rob _ (SlE sv20 (ofM l)) _)) (by exact (H.robL 0 rfl 3 rfl : Rob _ (Vals (ofM l)) _)) (by exact H.robL 0 rfl 9 rfl) hi hok.2.1 hsv (chk_ofM hok.1) (by omega)) ?_
      rintro _ w11 ⟨Tv65, mv65, rfl, hTv65, hO, hB, hR⟩
      replace H := H.calledR 0 rfl hO hB hR
      refine WL.mv rfl rfl ?_
      refine WL.pv (PV.extract rfl rfl rfl) rfl ?_
      refine WL.pv (PV.extract rfl rfl rfl) rfl ?_
      refine WL.as rfl rfl ?_
      refine WL.as rfl rfl ?_
      refine WL.nil ?_
      refine WE.seq_reg ?_
      refine WL.call TryzT.fb10 rfl (alive12_c H.yylt (by exact (H.rob 10 rfl : Rob _ (Rounds) _))) ?_
      rintro _ w12 ⟨rfl, hO⟩
      replace H := H.out hO
      refine WL.mv rfl rfl ?_
      refine WL.known (t := 69) (c := true) rfl (by rfl) ?_
      refine WL.mv rfl rfl ?_
      refine WL.pv (PV.eql rfl rfl rfl) rfl ?_
      refine WL.pv (PV.pick_t rfl rfl rfl) rfl ?_
      refine WL.mv rfl rfl ?_
      refine WL.known (t := 73) (c := true) rfl (by rfl) ?_
      refine WL.mv rfl rfl ?_
      refine WL.mv rfl rfl ?_
      refine WL.mv rfl rfl ?_
      refine WL.call TryzT.fb13 rfl (Is_c (T := Tv45) (M := (ofM l)) (s := sv20) (bits := i) H.yylt (H.l 0 rfl) (by exact H.robL 0 rfl 5 rfl) (by exact H.robL 0 rfl 1 rfl) (by exact (H.robL 0 rfl 6 rfl : Rob _ (SlE sv20 (ofM l)) _)) (by exact (H.robL 0 rfl 4 rfl : Rob _ (Vals (ofM l)) _)) (by exact H.robL 0 rfl 10 rfl) hi hTv45 hok.2.1 hok.1 hsv (by omega)) ?_
      rintro _ w13 ⟨mv77, rfl, hO, hB⟩
      replace H := H.called 0 rfl hO hB
      refine WL.pv (PV.gtr rfl rfl rfl) rfl ?_
      refine WL.pv (PV.pick_t rfl rfl rfl) rfl ?_
      refine WL.mv rfl rfl ?_
      refine WL.known (t := 80) (c := true) rfl (by rfl) ?_
      refine WL.mv rfl rfl ?_
      refine WL.pv (PV.eql rfl rfl rfl) rfl ?_
      refine WL.pv (PV.pick_t rfl rfl rfl) rfl ?_
      refine WL.mv rfl rfl ?_
      refine WL.known (t := 84) (c := true) rfl (by rfl) ?_
      refine WL.mv rfl rfl ?_
      refine WL.mv rfl rfl ?_
      refine WL.call TryzT.fb14 rfl (Digest_c (T := Tv65) (bits := i) H.yylt (H.l 0 rfl) (by exact H.robL 0 rfl 5 rfl) (by exact (H.robL 0 rfl 0 rfl : Rob _ (TrA i Tv65) _)) (by exact H.robL 0 rfl 10 rfl) hi) ?_
      rintro _ w14 ⟨mv87, rfl, hO, hB⟩
      replace H := H.called 0 rfl hO hB
      refine WL.mv rfl rfl ?_
      refine WL.mv rfl rfl ?_
      refine WL.call TryzT.fb14 rfl (Digest_c (T := Tv45) (bits := i) H.yylt (H.l 0 rfl) (by exact H.robL 0 rfl 5 rfl) (by exact (H.robL 0 rfl 1 rfl : Rob _ (TrA i Tv45) _)) (by exact H.robL 0 rfl 10 rfl) hi) ?_
      rintro _ w15 ⟨mv90, rfl, hO, hB⟩
      replace H := H.called 0 rfl hO hB
      refine WL.pv (PV.eqlB rfl TryzT.ar42 TryzT.in5 TryzT.sz5 (by kernel_rfl) rfl rfl (by exact dig_length _ _) (by exact dig_length _ _)) rfl ?_
      refine WL.pv (PV.pick_t rfl rfl rfl) rfl ?_
      refine WL.as rfl rfl ?_
      refine WL.nil ?_
      refine WE.ret ?_
      refine ⟨[_], _, .nil _, ⟨rfl, trivial⟩, ?_⟩
      refine ⟨?_, H.toOut0⟩
      show Value.bool _ = Value.bool true
      have hid : ofM (ofM l) = ofM l := ofM_id hok.1 hok.2.1
      rw [hid] at hTv65
      congr 1
      simp [hTv65, hTv45]

end Go.Sp.Tryz
