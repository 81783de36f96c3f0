/- Walks of functions, printed by a program of this session (gen.py) from notes on each function. -/
import Derived.Test.YtdllpckpfkjkeaaDoorQh
import Derived.Test.YtdllpckpfkjkeaaDoorQg
set_option maxRecDepth 100000
set_option maxHeartbeats 1000000
set_option linter.unusedVariables false
set_option linter.unusedSimpArgs false
namespace Go.Sp.Tryd
open Go.Proofs Go.RowKit Go.Sp

theorem comN_symm (a b : List UInt8) : comN a b = comN b a := (comN_is a b).uniq ⟨(comN_is b a).le, fun i hi => ((comN_is b a).eq i hi).symm, fun h e => (comN_is b a).ne h e.symm⟩
theorem of_two (a b : En) (hne : a.k ≠ b.k) : ofM [a, b] = [a, b] ∨ ofM [a, b] = [b, a] := by
  show putM (putM [] a) b = _ ∨ putM (putM [] a) b = _
  have h1 : putM [] a = [a] := rfl
  rw [h1]
  unfold putM
  have h2 : rmM [a] b.k = [a] := by simp [rmM, hne]
  rw [h2]
  unfold ins
  split
  · exact .inr rfl
  · exact .inl rfl
theorem slE_of2 {w : World} {b : Nat} {t : TypeId} {e f : En} (h : Blk w b t (enC e ++ enC f)) (he : e.k.length = 32) (hf : f.k.length = 32) : SlE (.slice (some ⟨b, 0, none⟩) 2 2) [e, f] w := SlC.of_blk (n := 2) (e := t) (by rw [List.flatMap_cons, List.flatMap_cons, List.flatMap_nil, List.append_nil]; exact h) (by simp [enC_length he, enC_length hf])
theorem two_pm {a b : En} (ha : a.k.length = 32) (hb : b.k.length = 32) (hne : a.k ≠ b.k) {d : Nat} (hd : d ≤ comN a.k b.k) {m : List En} (hm : m = [a, b] ∨ m = [b, a]) : Pm d m := by
  have hc := comN_le a.k b.k
  have hpre := (pre_com ha hb d (by omega)).2 hd
  have hnn : num a.k ≠ num b.k := fun h => hne (num_inj _ _ (by rw [ha, hb]) h)
  refine ⟨by omega, ?_, ?_, ?_⟩
  · rcases hm with rfl | rfl <;> (intro e he; simp at he; rcases he with rfl | rfl <;> assumption)
  · rcases hm with rfl | rfl <;> simp <;> first | exact hnn | exact hnn.symm
  · intro x hx y hy
    have h1 : ∀ z ∈ m, pre d z.k = pre d a.k := by rcases hm with rfl | rfl <;> (intro z hz; simp at hz; rcases hz with rfl | rfl <;> simp [hpre])
    rw [h1 x hx, h1 y hy]
def dep3 (c : Nat) : Nat → Nat
  | 0 => 0
  | 1 => c / 2
  | _ => c
theorem dep3_le (c j : Nat) : dep3 c j ≤ c := by
  match j with
  | 0 => exact Nat.zero_le _
  | 1 => exact Nat.div_le_self _ _
  | _ + 2 => exact Nat.le_refl _
theorem dep3_rd {w : World} {b : Nat} {t : TypeId} {c j : Nat} (h : Blk w b t [.int .i64 0, .int .i64 ((c / 2 : Nat) : Int), .int .i64 (c : Int)]) (hj : j < 3) : RdA w (sAddr (.slice (some ⟨b, 0, none⟩) 3 3) (j * 1)) [.int .i64 (dep3 c j : Int)] := by
  have h1 := SlV.rd (SlV.of_blk (n := 3) h rfl) j hj
  match j, hj with
  | 0, _ => exact h1
  | 1, _ => exact h1
  | 2, _ => exact h1

theorem PutPairsBad_c {X : Nat → Prop} {w : World} {i : Int} {va vb : Value} {ka kb la lb : List UInt8} (hX : ∀ b, X b → b < w.heap.size) (hf0 : Rob X (SlB va la) w) (hf1 : Rob X (SlB vb lb) w) (hf2 : Rob X (Rounds) w) (hi : ¬ (0 ≤ i ∧ i ≤ 256)) (hka : ka.length = 32) (hkb : kb.length = 32) (hla : la.length ≤ 9223372036854775807) (hlb : lb.length ≤ 9223372036854775807) :
    Ret Tryd.prog 4 [.int .i64 i, .agg (kc ka ++ [va]).toArray, .agg (kc kb ++ [vb]).toArray].toArray w fun v w' => v = .bool true ∧ Out Nil w w' := by
  refine Ret.of_body (N := 97) Tryd.func4 rfl rfl (by simp) ?_
  have H := St.begin hX
  replace H := H.add (rob0 hf2)
  replace H := H.add (rob0 hf1)
  replace H := H.add (rob0 hf0)
  have hva1 : va.oneCell' = true := SlC.one1 (hf0.here)
  have hvb1 : vb.oneCell' = true := SlC.one1 (hf1.here)
  refine WE.seq_reg ?_
  refine WL.box (l := kc ka ++ [va]) H rfl (by rfl) rfl ?_
  intro b4 w1 H
  refine WL.box (l := kc kb ++ [vb]) H rfl (by rfl) rfl ?_
  intro b5 w2 H
  refine WL.as rfl rfl ?_
  refine WL.nil ?_
  refine WE.seq ?_
  refine WE.seq_reg ?_
  refine WL.pv (PV.fieldAddr rfl TrydT.fd27_1 rfl) rfl ?_
  refine WL.load1 rfl TrydT.ag25 rfl rfl (by exact Blk.segAt (H.l 1 rfl) (Seg.r (Seg.all _) (by with_reducible rfl)) (by (simp [kc_length, kw_length, *]; done))) ?_
  refine WL.pv (PV.lenS (by exact H.p 0 rfl : SlB va la _) TrydT.sl25 rfl) rfl ?_
  refine WL.pv (PV.gtr rfl rfl rfl) rfl ?_
  refine WL.mv rfl rfl ?_
  refine WL.split (t := 20) rfl (fun hg20 => ?_) (fun hg20 => ?_)
  · skip
    refine WL.known (t := 19) (c := true) rfl hg20 ?_
    try simp only [decide_eq_true_eq, decide_eq_false_iff_not, ne_eq, Decidable.not_not, Bool.not_eq_true', Bool.not_eq_false', Bool.and_eq_true, Bool.or_eq_true, Bool.not_not, Bool.and_eq_false_iff, Bool.or_eq_false_iff, Int.not_lt, Int.not_le] at hg20
    refine WL.off rfl ?_
    refine WL.off rfl ?_
    refine WL.off rfl ?_
    refine WL.off rfl ?_
    refine WL.pv (PV.pick_t rfl rfl rfl) rfl ?_
    refine WL.mv rfl rfl ?_
    refine WL.off rfl ?_
    refine WL.off rfl ?_
    refine WL.off rfl ?_
    refine WL.off rfl ?_
    refine WL.off rfl ?_
    refine WL.pv (PV.pick_t rfl rfl rfl) rfl ?_
    refine WL.nil ?_
    refine WE.cond_t rfl ?_
    refine WE.seq_reg ?_
    refine WL.call TrydT.fb17 rfl (alive09_c  H.yylt (by exact H.rob 2 rfl) ) ?_
    rintro _ w3 ⟨rfl, hO⟩
    replace H := H.out hO
    refine WL.as rfl rfl ?_
    refine WL.nil ?_
    refine WE.ret ?_
    refine ⟨[_], _, .nil _, ⟨rfl, trivial⟩, ?_⟩
    refine ⟨?_, H.toOut0⟩
    rfl
  · skip
    refine WL.known (t := 19) (c := false) rfl hg20 ?_
    try simp only [decide_eq_true_eq, decide_eq_false_iff_not, ne_eq, Decidable.not_not, Bool.not_eq_true', Bool.not_eq_false', Bool.and_eq_true, Bool.or_eq_true, Bool.not_not, Bool.and_eq_false_iff, Bool.or_eq_false_iff, Int.not_lt, Int.not_le] at hg20
    have hla2 : la.length ≤ 200 := by omega
    refine WL.pv (PV.fieldAddr rfl TrydT.fd27_1 rfl) rfl ?_
    refine WL.load1 rfl TrydT.ag25 rfl rfl (by exact Blk.segAt (H.l 0 rfl) (Seg.r (Seg.all _) (by with_reducible rfl)) (by (simp [kc_length, kw_length, *]; done))) ?_
    refine WL.pv (PV.lenS (by exact H.p 1 rfl : SlB vb lb _) TrydT.sl25 rfl) rfl ?_
    refine WL.pv (PV.gtr rfl rfl rfl) rfl ?_
    refine WL.pv (PV.pick_f rfl rfl rfl) rfl ?_
    refine WL.mv rfl rfl ?_
    refine WL.split (t := 26) rfl (fun hg26 => ?_) (fun hg26 => ?_)
    · skip
      refine WL.known (t := 25) (c := true) rfl hg26 ?_
      try simp only [decide_eq_true_eq, decide_eq_false_iff_not, ne_eq, Decidable.not_not, Bool.not_eq_true', Bool.not_eq_false', Bool.and_eq_true, Bool.or_eq_true, Bool.not_not, Bool.and_eq_false_iff, Bool.or_eq_false_iff, Int.not_lt, Int.not_le] at hg26
      refine WL.off rfl ?_
      refine WL.off rfl ?_
      refine WL.off rfl ?_
      refine WL.off rfl ?_
      refine WL.off rfl ?_
      refine WL.pv (PV.pick_t rfl rfl rfl) rfl ?_
      refine WL.nil ?_
      refine WE.cond_t rfl ?_
      refine WE.seq_reg ?_
      refine WL.call TrydT.fb17 rfl (alive09_c  H.yylt (by exact H.rob 2 rfl) ) ?_
      rintro _ w4 ⟨rfl, hO⟩
      replace H := H.out hO
      refine WL.as rfl rfl ?_
      refine WL.nil ?_
      refine WE.ret ?_
      refine ⟨[_], _, .nil _, ⟨rfl, trivial⟩, ?_⟩
      refine ⟨?_, H.toOut0⟩
      rfl
    · skip
      refine WL.known (t := 25) (c := false) rfl hg26 ?_
      try simp only [decide_eq_true_eq, decide_eq_false_iff_not, ne_eq, Decidable.not_not, Bool.not_eq_true', Bool.not_eq_false', Bool.and_eq_true, Bool.or_eq_true, Bool.not_not, Bool.and_eq_false_iff, Bool.or_eq_false_iff, Int.not_lt, Int.not_le] at hg26
      have hlb2 : lb.length ≤ 200 := by omega
      refine WL.pv (PV.fieldAddr rfl TrydT.fd27_0 rfl) rfl ?_
      refine WL.loadR rfl TrydT.ag24 rfl rfl (by exact Blk.segAt (H.l 1 rfl) (Seg.l (Seg.all _)) (by rfl)) (by (rw [TrydT.sz24]; refine congrArg some ?_; (simp only [kc_length, kw_length, List.length_replicate, List.length_append, List.length_cons, List.length_nil, cutI_length, shaOf_length, dig_length, valD_length, rootM_length]; omega))) ?_
      refine WL.pv (PV.fieldAddr rfl TrydT.fd27_0 rfl) rfl ?_
      refine WL.loadR rfl TrydT.ag24 rfl rfl (by exact Blk.segAt (H.l 0 rfl) (Seg.l (Seg.all _)) (by rfl)) (by (rw [TrydT.sz24]; refine congrArg some ?_; (simp only [kc_length, kw_length, List.length_replicate, List.length_append, List.length_cons, List.length_nil, cutI_length, shaOf_length, dig_length, valD_length, rootM_length]; omega))) ?_
      refine WL.pv (PV.eqlB rfl TrydT.ar24 TrydT.in5 TrydT.sz5 (by kernel_rfl) rfl rfl (by assumption) (by assumption)) rfl ?_
      refine WL.pv (PV.pick_f rfl rfl rfl) rfl ?_
      refine WL.nil ?_
      refine WE.cond rfl (fun hc32 => ?_) (fun hc32 => ?_)
      · skip
        try simp only [decide_eq_true_eq, decide_eq_false_iff_not, ne_eq, Decidable.not_not, Bool.not_eq_true', Bool.not_eq_false', Bool.and_eq_true, Bool.or_eq_true, Bool.not_not, Bool.and_eq_false_iff, Bool.or_eq_false_iff, Int.not_lt, Int.not_le] at hc32
        refine WE.seq_reg ?_
        refine WL.call TrydT.fb17 rfl (alive09_c  H.yylt (by exact H.rob 2 rfl) ) ?_
        rintro _ w5 ⟨rfl, hO⟩
        replace H := H.out hO
        refine WL.as rfl rfl ?_
        refine WL.nil ?_
        refine WE.ret ?_
        refine ⟨[_], _, .nil _, ⟨rfl, trivial⟩, ?_⟩
        refine ⟨?_, H.toOut0⟩
        rfl
      · skip
        try simp only [decide_eq_true_eq, decide_eq_false_iff_not, ne_eq, Decidable.not_not, Bool.not_eq_true', Bool.not_eq_false', Bool.and_eq_true, Bool.or_eq_true, Bool.not_not, Bool.and_eq_false_iff, Bool.or_eq_false_iff, Int.not_lt, Int.not_le] at hc32
        have hne : ka ≠ kb := by exact hc32
        refine WE.skip ?_
        refine WE.seq_reg ?_
        refine WL.mv rfl rfl ?_
        refine WL.loadR rfl TrydT.ag27 rfl rfl (by exact Blk.segAt (H.l 1 rfl) (Seg.all _) (by rfl)) (by (rw [TrydT.sz27]; refine congrArg some ?_; (simp only [kc_length, kw_length, List.length_replicate, List.length_append, List.length_cons, List.length_nil, cutI_length, shaOf_length, dig_length, valD_length, rootM_length]; omega))) ?_
        refine WL.loadR rfl TrydT.ag27 rfl rfl (by exact Blk.segAt (H.l 0 rfl) (Seg.all _) (by rfl)) (by (rw [TrydT.sz27]; refine congrArg some ?_; (simp only [kc_length, kw_length, List.length_replicate, List.length_append, List.length_cons, List.length_nil, cutI_length, shaOf_length, dig_length, valD_length, rootM_length]; omega))) ?_
        refine WL.buildSliceF (l0 := ((kc (List.replicate 32 0) ++ ([.slice none 0 0])) ++ ((kc (List.replicate 32 0) ++ ([.slice none 0 0]))))) H rfl TrydT.st22 (by decide) (by rfl) (Fl.cons rfl (by rfl) (by (simp only [kc_length, kw_length, List.length_replicate, List.length_append, List.length_cons, List.length_nil, cutI_length, shaOf_length, dig_length, valD_length, rootM_length]; omega)) (Laid.left (Laid.all (by (simp only [kc_length, kw_length, List.length_replicate, List.length_append, List.length_cons, List.length_nil, cutI_length, shaOf_length, dig_length, valD_length, rootM_length]; omega)))) (Fl.cons rfl (by rfl) (by (simp only [kc_length, kw_length, List.length_replicate, List.length_append, List.length_cons, List.length_nil, cutI_length, shaOf_length, dig_length, valD_length, rootM_length]; omega)) (Laid.right (Laid.all (by (simp only [kc_length, kw_length, List.length_replicate, List.length_append, List.length_cons, List.length_nil, cutI_length, shaOf_length, dig_length, valD_length, rootM_length]; omega))) (by (simp only [kc_length, kw_length, List.length_replicate, List.length_append, List.length_cons, List.length_nil, cutI_length, shaOf_length, dig_length, valD_length, rootM_length]; omega))) Fl.nil)) rfl ?_
        intro b38 w6 H
        replace H := H.freeze (i := 0) rfl
        have hSS : Rob _ (SlE (.slice (some ⟨b38, 0, none⟩) 2 2) [(En.mk ka va la), (En.mk kb vb lb)]) _ := (H.rob 0 rfl).imp fun _ h => slE_of2 (e := (En.mk ka va la)) (f := (En.mk kb vb lb)) h hka hkb
        have hVV : Rob _ (Vals [(En.mk ka va la), (En.mk kb vb lb)]) _ := ((by exact (H.rob 1 rfl : Rob _ (SlB va la) _) : Rob _ (SlB va la) _).and (by exact (H.rob 2 rfl : Rob _ (SlB vb lb) _) : Rob _ (SlB vb lb) _)).imp fun _ h e he => by simp at he; rcases he with rfl | rfl; exact h.1; exact h.2
        replace H := (H.add hVV).add hSS
        refine WL.call TrydT.fb15 rfl (Tree_c (i := i) (l := [(En.mk ka va la), (En.mk kb vb lb)]) H.yylt (by exact (H.rob 0 rfl : Rob _ (SlE (.slice (some ⟨b38, 0, none⟩) 2 2) [(En.mk ka va la), (En.mk kb vb lb)]) _)) (by exact (H.rob 1 rfl : Rob _ (Vals [(En.mk ka va la), (En.mk kb vb lb)]) _)) (by exact H.rob 5 rfl) (by intro e he; simp at he; rcases he with rfl | rfl <;> assumption) (by simp) (by intro e he; simp at he; rcases he with rfl | rfl <;> assumption)) ?_
        rintro _ w7 ⟨bv39, sv39, Tv39, mv39, rfl, hTv39, hbv39, hO, hS_, hR⟩
        replace H := ((H.out hO).add hR).add hS_
        have hbf : bv39 = false := by cases hb_ : bv39; rfl; exact absurd (hbv39 hb_).2.1 hi
        subst hbf
        refine WL.mv rfl rfl ?_
        refine WL.pv (PV.extract rfl rfl rfl) rfl ?_
        refine WL.pv (PV.extract rfl rfl rfl) rfl ?_
        refine WL.pv (PV.extract rfl rfl rfl) rfl ?_
        refine WL.as rfl rfl ?_
        refine WL.as rfl rfl ?_
        refine WL.as rfl rfl ?_
        refine WL.nil ?_
        refine WE.seq_reg ?_
        refine WL.mv rfl rfl ?_
        refine WL.call TrydT.fb16 rfl (HashBad_c (i := i) H.yylt  (by assumption)) ?_
        rintro _ w8 ⟨rfl, hO⟩
        replace H := H.out hO
        refine WL.as rfl rfl ?_
        refine WL.nil ?_
        refine WE.seq ?_
        refine WE.seq_reg ?_
        refine WL.mv rfl rfl ?_
        refine WL.pv (PV.not rfl rfl) rfl ?_
        refine WL.nil ?_
        refine WE.cond_t' rfl rfl ?_
        refine WE.seq_reg ?_
        refine WL.call TrydT.fb17 rfl (alive09_c  H.yylt (by exact H.rob 7 rfl) ) ?_
        rintro _ w9 ⟨rfl, hO⟩
        replace H := H.out hO
        refine WL.as rfl rfl ?_
        refine WL.nil ?_
        refine WE.ret ?_
        refine ⟨[_], _, .nil _, ⟨rfl, trivial⟩, ?_⟩
        refine ⟨?_, H.toOut0⟩
        rfl

theorem PutPairs_c {X : Nat → Prop} {w : World} {i : Int} {va vb : Value} {ka kb la lb : List UInt8} (hX : ∀ b, X b → b < w.heap.size) (hf0 : Rob X (SlB va la) w) (hf1 : Rob X (SlB vb lb) w) (hf2 : Rob X (Rounds) w) (hi : 0 ≤ i ∧ i ≤ 256) (hka : ka.length = 32) (hkb : kb.length = 32) (hla : la.length ≤ 9223372036854775807) (hlb : lb.length ≤ 9223372036854775807) :
    Ret Tryd.prog 4 [.int .i64 i, .agg (kc ka ++ [va]).toArray, .agg (kc kb ++ [vb]).toArray].toArray w fun v w' => v = .bool true ∧ Out Nil w w' := by
  refine Ret.of_body (N := 97) Tryd.func4 rfl rfl (by simp) ?_
  have H := St.begin hX
  replace H := H.add (rob0 hf2)
  replace H := H.add (rob0 hf1)
  replace H := H.add (rob0 hf0)
  have hva1 : va.oneCell' = true := SlC.one1 (hf0.here)
  have hvb1 : vb.oneCell' = true := SlC.one1 (hf1.here)
  refine WE.seq_reg ?_
  refine WL.box (l := kc ka ++ [va]) H rfl (by rfl) rfl ?_
  intro b4 w1 H
  refine WL.box (l := kc kb ++ [vb]) H rfl (by rfl) rfl ?_
  intro b5 w2 H
  refine WL.as rfl rfl ?_
  refine WL.nil ?_
  refine WE.seq ?_
  refine WE.seq_reg ?_
  refine WL.pv (PV.fieldAddr rfl TrydT.fd27_1 rfl) rfl ?_
  refine WL.load1 rfl TrydT.ag25 rfl rfl (by exact Blk.segAt (H.l 1 rfl) (Seg.r (Seg.all _) (by with_reducible rfl)) (by (simp [kc_length, kw_length, *]; done))) ?_
  refine WL.pv (PV.lenS (by exact H.p 0 rfl : SlB va la _) TrydT.sl25 rfl) rfl ?_
  refine WL.pv (PV.gtr rfl rfl rfl) rfl ?_
  refine WL.mv rfl rfl ?_
  refine WL.split (t := 20) rfl (fun hg20 => ?_) (fun hg20 => ?_)
  · skip
    refine WL.known (t := 19) (c := true) rfl hg20 ?_
    try simp only [decide_eq_true_eq, decide_eq_false_iff_not, ne_eq, Decidable.not_not, Bool.not_eq_true', Bool.not_eq_false', Bool.and_eq_true, Bool.or_eq_true, Bool.not_not, Bool.and_eq_false_iff, Bool.or_eq_false_iff, Int.not_lt, Int.not_le] at hg20
    refine WL.off rfl ?_
    refine WL.off rfl ?_
    refine WL.off rfl ?_
    refine WL.off rfl ?_
    refine WL.pv (PV.pick_t rfl rfl rfl) rfl ?_
    refine WL.mv rfl rfl ?_
    refine WL.off rfl ?_
    refine WL.off rfl ?_
    refine WL.off rfl ?_
    refine WL.off rfl ?_
    refine WL.off rfl ?_
    refine WL.pv (PV.pick_t rfl rfl rfl) rfl ?_
    refine WL.nil ?_
    refine WE.cond_t rfl ?_
    refine WE.seq_reg ?_
    refine WL.call TrydT.fb17 rfl (alive09_c  H.yylt (by exact H.rob 2 rfl) ) ?_
    rintro _ w3 ⟨rfl, hO⟩
    replace H := H.out hO
    refine WL.as rfl rfl ?_
    refine WL.nil ?_
    refine WE.ret ?_
    refine ⟨[_], _, .nil _, ⟨rfl, trivial⟩, ?_⟩
    refine ⟨?_, H.toOut0⟩
    rfl
  · skip
    refine WL.known (t := 19) (c := false) rfl hg20 ?_
    try simp only [decide_eq_true_eq, decide_eq_false_iff_not, ne_eq, Decidable.not_not, Bool.not_eq_true', Bool.not_eq_false', Bool.and_eq_true, Bool.or_eq_true, Bool.not_not, Bool.and_eq_false_iff, Bool.or_eq_false_iff, Int.not_lt, Int.not_le] at hg20
    have hla2 : la.length ≤ 200 := by omega
    refine WL.pv (PV.fieldAddr rfl TrydT.fd27_1 rfl) rfl ?_
    refine WL.load1 rfl TrydT.ag25 rfl rfl (by exact Blk.segAt (H.l 0 rfl) (Seg.r (Seg.all _) (by with_reducible rfl)) (by (simp [kc_length, kw_length, *]; done))) ?_
    refine WL.pv (PV.lenS (by exact H.p 1 rfl : SlB vb lb _) TrydT.sl25 rfl) rfl ?_
    refine WL.pv (PV.gtr rfl rfl rfl) rfl ?_
    refine WL.pv (PV.pick_f rfl rfl rfl) rfl ?_
    refine WL.mv rfl rfl ?_
    refine WL.split (t := 26) rfl (fun hg26 => ?_) (fun hg26 => ?_)
    · skip
      refine WL.known (t := 25) (c := true) rfl hg26 ?_
      try simp only [decide_eq_true_eq, decide_eq_false_iff_not, ne_eq, Decidable.not_not, Bool.not_eq_true', Bool.not_eq_false', Bool.and_eq_true, Bool.or_eq_true, Bool.not_not, Bool.and_eq_false_iff, Bool.or_eq_false_iff, Int.not_lt, Int.not_le] at hg26
      refine WL.off rfl ?_
      refine WL.off rfl ?_
      refine WL.off rfl ?_
      refine WL.off rfl ?_
      refine WL.off rfl ?_
      refine WL.pv (PV.pick_t rfl rfl rfl) rfl ?_
      refine WL.nil ?_
      refine WE.cond_t rfl ?_
      refine WE.seq_reg ?_
      refine WL.call TrydT.fb17 rfl (alive09_c  H.yylt (by exact H.rob 2 rfl) ) ?_
      rintro _ w4 ⟨rfl, hO⟩
      replace H := H.out hO
      refine WL.as rfl rfl ?_
      refine WL.nil ?_
      refine WE.ret ?_
      refine ⟨[_], _, .nil _, ⟨rfl, trivial⟩, ?_⟩
      refine ⟨?_, H.toOut0⟩
      rfl
    · skip
      refine WL.known (t := 25) (c := false) rfl hg26 ?_
      try simp only [decide_eq_true_eq, decide_eq_false_iff_not, ne_eq, Decidable.not_not, Bool.not_eq_true', Bool.not_eq_false', Bool.and_eq_true, Bool.or_eq_true, Bool.not_not, Bool.and_eq_false_iff, Bool.or_eq_false_iff, Int.not_lt, Int.not_le] at hg26
      have hlb2 : lb.length ≤ 200 := by omega
      refine WL.pv (PV.fieldAddr rfl TrydT.fd27_0 rfl) rfl ?_
      refine WL.loadR rfl TrydT.ag24 rfl rfl (by exact Blk.segAt (H.l 1 rfl) (Seg.l (Seg.all _)) (by rfl)) (by (rw [TrydT.sz24]; refine congrArg some ?_; (simp only [kc_length, kw_length, List.length_replicate, List.length_append, List.length_cons, List.length_nil, cutI_length, shaOf_length, dig_length, valD_length, rootM_length]; omega))) ?_
      refine WL.pv (PV.fieldAddr rfl TrydT.fd27_0 rfl) rfl ?_
      refine WL.loadR rfl TrydT.ag24 rfl rfl (by exact Blk.segAt (H.l 0 rfl) (Seg.l (Seg.all _)) (by rfl)) (by (rw [TrydT.sz24]; refine congrArg some ?_; (simp only [kc_length, kw_length, List.length_replicate, List.length_append, List.length_cons, List.length_nil, cutI_length, shaOf_length, dig_length, valD_length, rootM_length]; omega))) ?_
      refine WL.pv (PV.eqlB rfl TrydT.ar24 TrydT.in5 TrydT.sz5 (by kernel_rfl) rfl rfl (by assumption) (by assumption)) rfl ?_
      refine WL.pv (PV.pick_f rfl rfl rfl) rfl ?_
      refine WL.nil ?_
      refine WE.cond rfl (fun hc32 => ?_) (fun hc32 => ?_)
      · skip
        try simp only [decide_eq_true_eq, decide_eq_false_iff_not, ne_eq, Decidable.not_not, Bool.not_eq_true', Bool.not_eq_false', Bool.and_eq_true, Bool.or_eq_true, Bool.not_not, Bool.and_eq_false_iff, Bool.or_eq_false_iff, Int.not_lt, Int.not_le] at hc32
        refine WE.seq_reg ?_
        refine WL.call TrydT.fb17 rfl (alive09_c  H.yylt (by exact H.rob 2 rfl) ) ?_
        rintro _ w5 ⟨rfl, hO⟩
        replace H := H.out hO
        refine WL.as rfl rfl ?_
        refine WL.nil ?_
        refine WE.ret ?_
        refine ⟨[_], _, .nil _, ⟨rfl, trivial⟩, ?_⟩
        refine ⟨?_, H.toOut0⟩
        rfl
      · skip
        try simp only [decide_eq_true_eq, decide_eq_false_iff_not, ne_eq, Decidable.not_not, Bool.not_eq_true', Bool.not_eq_false', Bool.and_eq_true, Bool.or_eq_true, Bool.not_not, Bool.and_eq_false_iff, Bool.or_eq_false_iff, Int.not_lt, Int.not_le] at hc32
        have hne : ka ≠ kb := by exact hc32
        refine WE.skip ?_
        refine WE.seq_reg ?_
        refine WL.mv rfl rfl ?_
        refine WL.loadR rfl TrydT.ag27 rfl rfl (by exact Blk.segAt (H.l 1 rfl) (Seg.all _) (by rfl)) (by (rw [TrydT.sz27]; refine congrArg some ?_; (simp only [kc_length, kw_length, List.length_replicate, List.length_append, List.length_cons, List.length_nil, cutI_length, shaOf_length, dig_length, valD_length, rootM_length]; omega))) ?_
        refine WL.loadR rfl TrydT.ag27 rfl rfl (by exact Blk.segAt (H.l 0 rfl) (Seg.all _) (by rfl)) (by (rw [TrydT.sz27]; refine congrArg some ?_; (simp only [kc_length, kw_length, List.length_replicate, List.length_append, List.length_cons, List.length_nil, cutI_length, shaOf_length, dig_length, valD_length, rootM_length]; omega))) ?_
        refine WL.buildSliceF (l0 := ((kc (List.replicate 32 0) ++ ([.slice none 0 0])) ++ ((kc (List.replicate 32 0) ++ ([.slice none 0 0]))))) H rfl TrydT.st22 (by decide) (by rfl) (Fl.cons rfl (by rfl) (by (simp only [kc_length, kw_length, List.length_replicate, List.length_append, List.length_cons, List.length_nil, cutI_length, shaOf_length, dig_length, valD_length, rootM_length]; omega)) (Laid.left (Laid.all (by (simp only [kc_length, kw_length, List.length_replicate, List.length_append, List.length_cons, List.length_nil, cutI_length, shaOf_length, dig_length, valD_length, rootM_length]; omega)))) (Fl.cons rfl (by rfl) (by (simp only [kc_length, kw_length, List.length_replicate, List.length_append, List.length_cons, List.length_nil, cutI_length, shaOf_length, dig_length, valD_length, rootM_length]; omega)) (Laid.right (Laid.all (by (simp only [kc_length, kw_length, List.length_replicate, List.length_append, List.length_cons, List.length_nil, cutI_length, shaOf_length, dig_length, valD_length, rootM_length]; omega))) (by (simp only [kc_length, kw_length, List.length_replicate, List.length_append, List.length_cons, List.length_nil, cutI_length, shaOf_length, dig_length, valD_length, rootM_length]; omega))) Fl.nil)) rfl ?_
        intro b38 w6 H
        replace H := H.freeze (i := 0) rfl
        have hSS : Rob _ (SlE (.slice (some ⟨b38, 0, none⟩) 2 2) [(En.mk ka va la), (En.mk kb vb lb)]) _ := (H.rob 0 rfl).imp fun _ h => slE_of2 (e := (En.mk ka va la)) (f := (En.mk kb vb lb)) h hka hkb
        have hVV : Rob _ (Vals [(En.mk ka va la), (En.mk kb vb lb)]) _ := ((by exact (H.rob 1 rfl : Rob _ (SlB va la) _) : Rob _ (SlB va la) _).and (by exact (H.rob 2 rfl : Rob _ (SlB vb lb) _) : Rob _ (SlB vb lb) _)).imp fun _ h e he => by simp at he; rcases he with rfl | rfl; exact h.1; exact h.2
        replace H := (H.add hVV).add hSS
        refine WL.call TrydT.fb15 rfl (Tree_c (i := i) (l := [(En.mk ka va la), (En.mk kb vb lb)]) H.yylt (by exact (H.rob 0 rfl : Rob _ (SlE (.slice (some ⟨b38, 0, none⟩) 2 2) [(En.mk ka va la), (En.mk kb vb lb)]) _)) (by exact (H.rob 1 rfl : Rob _ (Vals [(En.mk ka va la), (En.mk kb vb lb)]) _)) (by exact H.rob 5 rfl) (by intro e he; simp at he; rcases he with rfl | rfl <;> assumption) (by simp) (by intro e he; simp at he; rcases he with rfl | rfl <;> assumption)) ?_
        rintro _ w7 ⟨bv39, sv39, Tv39, mv39, rfl, hTv39, hbv39, hO, hS_, hR⟩
        replace H := ((H.out hO).add hR).add hS_
        refine WL.mv rfl rfl ?_
        refine WL.pv (PV.extract rfl rfl rfl) rfl ?_
        refine WL.pv (PV.extract rfl rfl rfl) rfl ?_
        refine WL.pv (PV.extract rfl rfl rfl) rfl ?_
        refine WL.as rfl rfl ?_
        refine WL.as rfl rfl ?_
        refine WL.as rfl rfl ?_
        refine WL.nil ?_
        refine WE.seq_reg ?_
        refine WL.mv rfl rfl ?_
        refine WL.call TrydT.fb16 rfl (Hash_c (i := i) H.yylt  (by assumption)) ?_
        rintro _ w8 ⟨bhv44, bcv44, rfl, hO, hge, hB, hR⟩
        replace H := H.pushR hO (Ent.blk bcv44 127 [.int .i64 0]) hB (fun c hc => by cases hc; exact hge) hR
        refine WL.as rfl rfl ?_
        refine WL.nil ?_
        refine WE.seq ?_
        refine WE.seq_reg ?_
        refine WL.mv rfl rfl ?_
        refine WL.pv (PV.not rfl rfl) rfl ?_
        refine WL.nil ?_
        refine WE.cond rfl (fun hc46 => ?_) (fun hc46 => ?_)
        · skip
          try simp only [decide_eq_true_eq, decide_eq_false_iff_not, ne_eq, Decidable.not_not, Bool.not_eq_true', Bool.not_eq_false', Bool.and_eq_true, Bool.or_eq_true, Bool.not_not, Bool.and_eq_false_iff, Bool.or_eq_false_iff, Int.not_lt, Int.not_le] at hc46
          refine WE.seq_reg ?_
          refine WL.call TrydT.fb17 rfl (alive09_c  H.yylt (by exact H.rob 8 rfl) ) ?_
          rintro _ w9 ⟨rfl, hO⟩
          replace H := H.out hO
          refine WL.as rfl rfl ?_
          refine WL.nil ?_
          refine WE.ret ?_
          refine ⟨[_], _, .nil _, ⟨rfl, trivial⟩, ?_⟩
          refine ⟨?_, H.toOut0⟩
          rfl
        · skip
          try simp only [decide_eq_true_eq, decide_eq_false_iff_not, ne_eq, Decidable.not_not, Bool.not_eq_true', Bool.not_eq_false', Bool.and_eq_true, Bool.or_eq_true, Bool.not_not, Bool.and_eq_false_iff, Bool.or_eq_false_iff, Int.not_lt, Int.not_le] at hc46
          obtain ⟨rfl, -, hfew⟩ := hbv39 (by exact hc46)
          have hkl : KL [(En.mk ka va la), (En.mk kb vb lb)] := (by intro e he; simp at he; rcases he with rfl | rfl <;> assumption)
          have hok := ofM_ok [(En.mk ka va la), (En.mk kb vb lb)] hkl
          have hml : (ofM [(En.mk ka va la), (En.mk kb vb lb)]).length ≤ 2 := hok.2.2.1
          have hsv : ShortV (ofM [(En.mk ka va la), (En.mk kb vb lb)]) := fun e he => by have h_ := hok.2.2.2 e he; simp at h_; rcases h_ with rfl | rfl; show la.length ≤ _; omega; show lb.length ≤ _; omega
          have htwo := of_two (En.mk ka va la) (En.mk kb vb lb) hne
          replace H := H.add (by exact (H.rob 4 rfl : Rob _ (Vals [(En.mk ka va la), (En.mk kb vb lb)]) _).imp fun _ h => h.sub hok.2.2.2)
          have hcl := comN_le ka kb
          have hc256 : comN ka kb < 256 := by rcases Nat.lt_or_ge (comN ka kb) 256 with h | h; exact h; exact absurd ((comN_full hka hkb).1 h) hne
          have hnn : num ka ≠ num kb := fun h => hne (num_inj _ _ (by rw [hka, hkb]) h)
          have hsy := comN_symm kb ka
          refine WE.skip ?_
          refine WE.seq_draw (.take 0 (.take 1 (.take 3 (.take 4 (.pick1 2 (.pick1 5 (.take 6 (.take 7 .done)))))))) TrydT.mixed (by kernel_rfl) ?_
          replace H := H.out (Out.drew _)
          refine WP.mv rfl rfl rfl ?_
          refine WP.readA rfl rfl rfl TrydT.ag27 rfl (by exact Blk.segAt (H.l 2 rfl) (Seg.all _) (by rfl)) (by (rw [TrydT.sz27]; refine congrArg some ?_; (simp only [kc_length, kw_length, List.length_replicate, List.length_append, List.length_cons, List.length_nil, cutI_length, shaOf_length, dig_length, valD_length, rootM_length]; omega))) ?_
          refine WP.mv rfl rfl rfl ?_
          refine WP.readA rfl rfl rfl TrydT.ag27 rfl (by exact Blk.segAt (H.l 1 rfl) (Seg.all _) (by rfl)) (by (rw [TrydT.sz27]; refine congrArg some ?_; (simp only [kc_length, kw_length, List.length_replicate, List.length_append, List.length_cons, List.length_nil, cutI_length, shaOf_length, dig_length, valD_length, rootM_length]; omega))) ?_
          refine WP.pick1 rfl ?_
          refine WL.call TrydT.fb21 rfl (NewLeaf_c (k := ka) (lv := la) (s := va) (bits := i) H.yylt (H.l 0 rfl) (by exact H.robL 0 rfl 1 rfl) (by exact H.robL 0 rfl 7 rfl) (by exact H.robL 0 rfl 9 rfl) hi (by omega) hka) ?_
          rintro _ w10 ⟨Tv50, mv50, rfl, hTv50, hO, hB, hR⟩
          replace H := H.calledR 0 rfl hO hB hR
          obtain ⟨a50, s50, rfl⟩ := Tr.leaf_of hTv50
          refine WL.nil ⟨(List.forall_mem_cons.2 ⟨(fun _ _ => (by exact Blk.segAt (H.l 1 rfl) (Seg.all _) (by rfl))), (List.forall_mem_cons.2 ⟨(by exact (fun h => absurd (show waits _ 2 1 = false from h) (by decide +kernel))), (fun _ h => by cases h)⟩)⟩), ?_⟩
          refine WP.pick1 rfl ?_
          refine WL.call TrydT.fb21 rfl (NewLeaf_c (k := kb) (lv := lb) (s := vb) (bits := i) H.yylt (H.l 0 rfl) (by exact H.robL 0 rfl 2 rfl) (by exact H.robL 0 rfl 9 rfl) (by exact H.robL 0 rfl 10 rfl) hi (by omega) hkb) ?_
          rintro _ w11 ⟨Tv53, mv53, rfl, hTv53, hO, hB, hR⟩
          replace H := H.calledR 0 rfl hO hB hR
          obtain ⟨a53, s53, rfl⟩ := Tr.leaf_of hTv53
          refine WL.nil ⟨(List.forall_mem_cons.2 ⟨(by exact (fun h => absurd (show waits _ 5 4 = false from h) (by decide +kernel))), (List.forall_mem_cons.2 ⟨(by exact (fun h => absurd (show waits _ 5 1 = false from h) (by decide +kernel))), (fun _ h => by cases h)⟩)⟩), ?_⟩
          refine WP.as rfl rfl rfl ?_
          refine WP.as rfl rfl rfl ?_
          refine WP.done ?_
          refine WE.seq ?_
          refine WE.seq_draw (.take 0 (.take 1 (.take 2 (.take 3 (.take 6 (.take 7 (.take 8 (.take 9 (.take 13 (.pick1 4 (.take 5 (.pick1 10 (.pick1 11 (.take 12 .done)))))))))))))) TrydT.mixed (by kernel_rfl) ?_
          replace H := H.out (Out.drew _)
          refine WP.take_pure rfl rfl (PV.fieldAddr rfl TrydT.fd27_0 rfl) ?_
          refine WP.readA rfl rfl rfl TrydT.ag24 rfl (by exact Blk.segAt (H.l 2 rfl) (Seg.l (Seg.all _)) (by rfl)) (by (rw [TrydT.sz24]; refine congrArg some ?_; (simp only [kc_length, kw_length, List.length_replicate, List.length_append, List.length_cons, List.length_nil, cutI_length, shaOf_length, dig_length, valD_length, rootM_length]; omega))) ?_
          refine WP.take_pure rfl rfl (PV.fieldAddr rfl TrydT.fd27_0 rfl) ?_
          refine WP.readA rfl rfl rfl TrydT.ag24 rfl (by exact Blk.segAt (H.l 1 rfl) (Seg.l (Seg.all _)) (by rfl)) (by (rw [TrydT.sz24]; refine congrArg some ?_; (simp only [kc_length, kw_length, List.length_replicate, List.length_append, List.length_cons, List.length_nil, cutI_length, shaOf_length, dig_length, valD_length, rootM_length]; omega))) ?_
          refine WP.take_pure rfl rfl (PV.fieldAddr rfl TrydT.fd27_0 rfl) ?_
          refine WP.readA rfl rfl rfl TrydT.ag24 rfl (by exact Blk.segAt (H.l 2 rfl) (Seg.l (Seg.all _)) (by rfl)) (by (rw [TrydT.sz24]; refine congrArg some ?_; (simp only [kc_length, kw_length, List.length_replicate, List.length_append, List.length_cons, List.length_nil, cutI_length, shaOf_length, dig_length, valD_length, rootM_length]; omega))) ?_
          refine WP.take_pure rfl rfl (PV.fieldAddr rfl TrydT.fd27_0 rfl) ?_
          refine WP.readA rfl rfl rfl TrydT.ag24 rfl (by exact Blk.segAt (H.l 1 rfl) (Seg.l (Seg.all _)) (by rfl)) (by (rw [TrydT.sz24]; refine congrArg some ?_; (simp only [kc_length, kw_length, List.length_replicate, List.length_append, List.length_cons, List.length_nil, cutI_length, shaOf_length, dig_length, valD_length, rootM_length]; omega))) ?_
          refine WP.mv rfl rfl rfl ?_
          refine WP.pick1 rfl ?_
          refine WL.call TrydT.fb22 rfl (refCommon_c (a := ka) (b := kb) H.yylt  (by assumption) (by assumption)) ?_
          rintro _ w12 ⟨rfl, hO⟩
          replace H := H.out hO
          refine WL.nil ⟨(List.forall_mem_cons.2 ⟨(fun _ _ => (by exact Blk.segAt (H.l 1 rfl) (Seg.l (Seg.all _)) (by rfl))), (List.forall_mem_cons.2 ⟨(fun _ _ => (by exact Blk.segAt (H.l 2 rfl) (Seg.l (Seg.all _)) (by rfl))), (List.forall_mem_cons.2 ⟨(by exact (fun h => absurd (show waits _ 4 3 = false from h) (by decide +kernel))), (List.forall_mem_cons.2 ⟨(by exact (fun h => absurd (show waits _ 4 1 = false from h) (by decide +kernel))), (fun _ h => by cases h)⟩)⟩)⟩)⟩), ?_⟩
          refine WP.take_pure rfl rfl (PV.eq (v' := .int .i64 ((comN ka kb / 2 : Nat) : Int)) (PV.quo64 rfl rfl rfl (by omega) (by omega) (by omega)) (by rfl)) ?_
          refine WP.pick1 rfl ?_
          refine WL.call TrydT.fb22 rfl (refCommon_c (a := ka) (b := kb) H.yylt  (by assumption) (by assumption)) ?_
          rintro _ w13 ⟨rfl, hO⟩
          replace H := H.out hO
          refine WL.nil ⟨(List.forall_mem_cons.2 ⟨(by exact (fun h => absurd (show waits _ 10 9 = false from h) (by decide +kernel))), (List.forall_mem_cons.2 ⟨(by exact (fun h => absurd (show waits _ 10 7 = false from h) (by decide +kernel))), (List.forall_mem_cons.2 ⟨(by exact (fun h => absurd (show waits _ 10 3 = false from h) (by decide +kernel))), (List.forall_mem_cons.2 ⟨(by exact (fun h => absurd (show waits _ 10 1 = false from h) (by decide +kernel))), (fun _ h => by cases h)⟩)⟩)⟩)⟩), ?_⟩
          refine WP.pick1 rfl ?_
          refine WL.buildSliceF (l0 := [.int .i64 (0), .int .i64 (0), .int .i64 (0)]) H rfl TrydT.st42 (by decide) (zrow_one _ _) (Fl.cons rfl (by rfl) (by (simp only [kc_length, kw_length, List.length_replicate, List.length_append, List.length_cons, List.length_nil, cutI_length, shaOf_length, dig_length, valD_length, rootM_length]; done)) Laid.head (Fl.cons rfl (by rfl) (by (simp only [kc_length, kw_length, List.length_replicate, List.length_append, List.length_cons, List.length_nil, cutI_length, shaOf_length, dig_length, valD_length, rootM_length]; done)) (Laid.tail Laid.head rfl) (Fl.cons rfl (by rfl) (by (simp only [kc_length, kw_length, List.length_replicate, List.length_append, List.length_cons, List.length_nil, cutI_length, shaOf_length, dig_length, valD_length, rootM_length]; done)) (Laid.tail (Laid.tail Laid.head rfl) rfl) Fl.nil))) rfl ?_
          intro b65 w14 H
          refine WL.nil ⟨(List.forall_mem_cons.2 ⟨(by exact (fun h => absurd (show waits _ 11 9 = false from h) (by decide +kernel))), (List.forall_mem_cons.2 ⟨(by exact (fun h => absurd (show waits _ 11 7 = false from h) (by decide +kernel))), (List.forall_mem_cons.2 ⟨(by exact (fun h => absurd (show waits _ 11 3 = false from h) (by decide +kernel))), (List.forall_mem_cons.2 ⟨(by exact (fun h => absurd (show waits _ 11 1 = false from h) (by decide +kernel))), (fun _ h => by cases h)⟩)⟩)⟩)⟩), ?_⟩
          refine WP.take_pure rfl rfl (PV.lenSl TrydT.sl42 rfl) ?_
          refine WP.done ?_
          refine WE.block ?_
          refine WE.loop (α := Nat × Int) [6, 14, 15, 67, 68, 69, 70, 71, 72, 73, 74, 75, 76, 77, 78, 79, 80, 81, 82, 83, 84, 85, 86, 87, 88, 89, 90, 91, 92, 93, 94, 95] (fun p => [(67, .int .i64 p.1)]) (fun p wl => p.1 ≤ 3 ∧ St X w wl [] [Ent.blk b65 3 [.int .i64 0, .int .i64 ((comN ka kb / 2 : Nat) : Int), .int .i64 (comN ka kb : Int)], Ent.blk bcv44 127 [.int .i64 p.2], Ent.blk b5 27 (kc kb ++ [vb]), Ent.blk b4 27 (kc ka ++ [va])] [TrA i (Tr.leaf a53 kb lb s53), TrA i (Tr.leaf a50 ka la s50), fun x => Vals (ofM [(En.mk ka va la), (En.mk kb vb lb)]) x, HAt bhv44 bcv44 i, SlE sv39 (ofM [(En.mk ka va la), (En.mk kb vb lb)]), TrA i Tv39, Rounds]) (fun p => 3 - p.1) (0, mv53) ⟨rfl, trivial⟩ ⟨Nat.zero_le _, H.sel [0, 1, 2, 3, 4, 5, 11]⟩ ?_
          intro ⟨j, n⟩ γ0 w15 hI
          try dsimp only at hI
          obtain ⟨hj, H⟩ := hI
          refine WE.seq_reg ?_
          refine WL.pv (PV.lss rfl rfl rfl) rfl ?_
          refine WL.nil ?_
          refine WE.seq ?_
          refine WE.cond rfl (fun hc68 => ?_) (fun hc68 => ?_)
          · skip
            try simp only [decide_eq_true_eq, decide_eq_false_iff_not, ne_eq, Decidable.not_not, Bool.not_eq_true', Bool.not_eq_false', Bool.and_eq_true, Bool.or_eq_true, Bool.not_not, Bool.and_eq_false_iff, Bool.or_eq_false_iff, Int.not_lt, Int.not_le] at hc68
            have hlt : j < 3 := by omega
            have hdl := dep3_le (comN ka kb) j
            refine WE.skip ?_
            refine WE.seq ?_
            refine WE.block ?_
            refine WE.seq_reg ?_
            refine WL.pv (PV.idxS rfl (SlV.of_blk (n := 3) (H.l 0 rfl) rfl) TrydT.sl42 TrydT.sz3 rfl rfl (by omega) (by simp; omega)) rfl ?_
            refine WL.load1 rfl TrydT.ag3 rfl rfl (dep3_rd (H.l 0 rfl) hlt) ?_
            refine WL.as rfl rfl ?_
            refine WL.nil ?_
            refine WE.seq_reg ?_
            refine WL.mv rfl rfl ?_
            refine WL.mv rfl rfl ?_
            refine WL.mv rfl rfl ?_
            refine WL.call TrydT.fb23 rfl (Root_c (m := ofM [(En.mk ka va la), (En.mk kb vb lb)]) (d := (dep3 (comN ka kb) j)) (bits := i) H.yylt (by exact (H.rob 4 rfl : Rob _ (SlE sv39 (ofM [(En.mk ka va la), (En.mk kb vb lb)])) _)) (by exact (H.rob 2 rfl : Rob _ (Vals (ofM [(En.mk ka va la), (En.mk kb vb lb)])) _)) (by exact H.rob 6 rfl) (two_pm hka hkb hne (by show _ ≤ comN ka kb; omega) htwo) (by omega) hsv hi) ?_
            rintro _ w16 ⟨rfl, hO⟩
            replace H := H.out hO
            refine WL.alloc H rfl TrydT.ze36 rfl ?_
            intro b15 w17 H
            refine WL.storeL H 0 rfl rfl rfl (new := _) rfl (by (rw [TrydT.sz36]; refine congrArg some ?_; (simp only [kc_length, kw_length, List.length_replicate, List.length_append, List.length_cons, List.length_nil, cutI_length, shaOf_length, dig_length, valD_length, rootM_length]; done))) (by exact kc_one _) (Laid.at (Laid.all (by (simp only [kc_length, kw_length, List.length_replicate, List.length_append, List.length_cons, List.length_nil, cutI_length, shaOf_length, dig_length, valD_length, rootM_length]; done))) (by rfl)) rfl ?_
            intro w18 H
            refine WL.nil ?_
            refine WE.seq_draw (.take 0 (.take 1 (.take 2 (.take 3 (.take 4 (.take 7 (.pick1 5 (.pick1 6 (.take 8 (.take 9 (.take 10 (.take 11 (.take 12 (.take 13 (.take 14 (.take 17 (.pick1 15 (.pick1 16 (.take 18 (.take 19 .done)))))))))))))))))))) TrydT.mixed (by kernel_rfl) ?_
            replace H := H.out (Out.drew _)
            refine WP.mv rfl rfl rfl ?_
            refine WP.mv rfl rfl rfl ?_
            refine WP.mv rfl rfl rfl ?_
            refine WP.mv rfl rfl rfl ?_
            refine WP.mv rfl rfl rfl ?_
            refine WP.readA rfl rfl rfl TrydT.ag36 rfl (by exact Blk.segAt (H.l 0 rfl) (Seg.all _) (by rfl)) (by (rw [TrydT.sz36]; refine congrArg some ?_; (simp only [kc_length, kw_length, List.length_replicate, List.length_append, List.length_cons, List.length_nil, cutI_length, shaOf_length, dig_length, valD_length, rootM_length]; done))) ?_
            refine WP.pick1 rfl ?_
            refine WL.call TrydT.fb24 rfl (Pair_c (aa := a50) (ab := a53) (q := ka) (u := la) (k := kb) (vv := lb) (sa := s50) (sb := s53) (d := (dep3 (comN ka kb) j)) (bits := i) H.yylt (H.l 2 rfl) (by exact H.robL 2 rfl 3 rfl) (by exact H.robL 2 rfl 1 rfl) (by exact H.robL 2 rfl 0 rfl) (by exact H.robL 2 rfl 6 rfl) hi hka hkb (by omega) (by omega)) ?_
            rintro _ w19 ⟨Tv80, mv80, rfl, hTv80, hO, hB, hR⟩
            replace H := H.calledR 2 rfl hO hB hR
            have hD1 : Tv80.er.dig i = rootM i (dep3 (comN ka kb) j) (ofM [(En.mk ka va la), (En.mk kb vb lb)]) := by rw [hTv80]; exact congrArg (Sh.dig i) (pair_grow (a := (En.mk ka va la)) (b := (En.mk kb vb lb)) hka hkb hnn _ _ (by show _ + (comN ka kb - _) = comN ka kb; omega) _ htwo)
            refine WL.nil ⟨(List.forall_mem_cons.2 ⟨(fun _ _ => (by exact Blk.segAt (H.l 0 rfl) (Seg.all _) (by rfl))), (fun _ h => by cases h)⟩), ?_⟩
            refine WP.pick1 rfl ?_
            refine WL.call TrydT.fb19 rfl (Digest_c (T := Tv80) (bits := i) H.yylt (H.l 2 rfl) (by exact H.robL 2 rfl 4 rfl) (by exact H.robL 2 rfl 0 rfl) (by exact H.robL 2 rfl 7 rfl) (by assumption)) ?_
            rintro _ w20 ⟨mv81, rfl, hO, hB⟩
            replace H := H.called 2 rfl hO hB
            refine WL.nil ⟨(List.forall_mem_cons.2 ⟨(fun _ _ => (by exact Blk.segAt (H.l 0 rfl) (Seg.all _) (by rfl))), (fun _ h => by cases h)⟩), ?_⟩
            refine WP.take_pure rfl rfl (PV.neqB rfl TrydT.ar36 TrydT.in5 TrydT.sz5 (by kernel_rfl) rfl rfl (by exact dig_length _ _) (by exact dig_length _ _)) ?_
            refine WP.mv rfl rfl rfl ?_
            refine WP.known (t := 84) (c := false) rfl (by (simp [hD1]; done)) ?_
            refine WP.mv rfl rfl rfl ?_
            refine WP.mv rfl rfl rfl ?_
            refine WP.mv rfl rfl rfl ?_
            refine WP.mv rfl rfl rfl ?_
            refine WP.mv rfl rfl rfl ?_
            refine WP.readA rfl rfl rfl TrydT.ag36 rfl (by exact Blk.segAt (H.l 0 rfl) (Seg.all _) (by rfl)) (by (rw [TrydT.sz36]; refine congrArg some ?_; (simp only [kc_length, kw_length, List.length_replicate, List.length_append, List.length_cons, List.length_nil, cutI_length, shaOf_length, dig_length, valD_length, rootM_length]; done))) ?_
            refine WP.pick1 rfl ?_
            refine WL.call TrydT.fb24 rfl (Pair_c (aa := a53) (ab := a50) (q := kb) (u := lb) (k := ka) (vv := la) (sa := s53) (sb := s50) (d := (dep3 (comN ka kb) j)) (bits := i) H.yylt (H.l 2 rfl) (by exact H.robL 2 rfl 4 rfl) (by exact H.robL 2 rfl 1 rfl) (by exact H.robL 2 rfl 2 rfl) (by exact H.robL 2 rfl 7 rfl) hi hkb hka (by omega) (by omega)) ?_
            rintro _ w21 ⟨Tv90, mv90, rfl, hTv90, hO, hB, hR⟩
            replace H := H.calledR 2 rfl hO hB hR
            have hD2 : Tv90.er.dig i = rootM i (dep3 (comN ka kb) j) (ofM [(En.mk ka va la), (En.mk kb vb lb)]) := by rw [hTv90]; exact congrArg (Sh.dig i) (pair_grow (a := (En.mk kb vb lb)) (b := (En.mk ka va la)) hkb hka hnn.symm _ _ (by show _ + (comN kb ka - _) = comN kb ka; omega) _ htwo.symm)
            refine WL.nil ⟨(List.forall_mem_cons.2 ⟨(fun _ _ => (by exact Blk.segAt (H.l 0 rfl) (Seg.all _) (by rfl))), (List.forall_mem_cons.2 ⟨(by exact (fun h => absurd (show waits _ 15 7 = false from h) (by decide +kernel))), (fun _ h => by cases h)⟩)⟩), ?_⟩
            refine WP.pick1 rfl ?_
            refine WL.call TrydT.fb19 rfl (Digest_c (T := Tv90) (bits := i) H.yylt (H.l 2 rfl) (by exact H.robL 2 rfl 5 rfl) (by exact H.robL 2 rfl 0 rfl) (by exact H.robL 2 rfl 8 rfl) (by assumption)) ?_
            rintro _ w22 ⟨mv91, rfl, hO, hB⟩
            replace H := H.called 2 rfl hO hB
            refine WL.nil ⟨(List.forall_mem_cons.2 ⟨(fun _ _ => (by exact Blk.segAt (H.l 0 rfl) (Seg.all _) (by rfl))), (List.forall_mem_cons.2 ⟨(by exact (fun h => absurd (show waits _ 16 7 = false from h) (by decide +kernel))), (fun _ h => by cases h)⟩)⟩), ?_⟩
            refine WP.take_pure rfl rfl (PV.neqB rfl TrydT.ar36 TrydT.in5 TrydT.sz5 (by kernel_rfl) rfl rfl (by exact dig_length _ _) (by exact dig_length _ _)) ?_
            refine WP.take_pure rfl rfl (PV.pick_f rfl rfl rfl) ?_
            refine WP.done ?_
            refine WE.cond_f' rfl (by (simp [hD2]; done)) ?_
            refine WE.skip ?_
            refine WE.reg ?_
            refine WL.pv (PV.add64 rfl rfl rfl (by omega) (by omega)) rfl ?_
            refine WL.mv rfl rfl ?_
            refine WL.nil ?_
            replace H := H.forget 0
            exact ⟨(j + 1, mv91), (by repeat (first | with_reducible exact Off.refl _ _ | refine Off.upd rfl ?_ | refine Off.setAll rfl ?_ | refine Off.forget' rfl ?_)), ⟨rfl, trivial⟩, rfl, ⟨by dsimp only; omega, H.sel [2, 3, 4, 5, 6, 7, 8]⟩, (by dsimp only; omega)⟩
          · skip
            try simp only [decide_eq_true_eq, decide_eq_false_iff_not, ne_eq, Decidable.not_not, Bool.not_eq_true', Bool.not_eq_false', Bool.and_eq_true, Bool.or_eq_true, Bool.not_not, Bool.and_eq_false_iff, Bool.or_eq_false_iff, Int.not_lt, Int.not_le] at hc68
            refine WE.exit ?_
            refine WE.seq_reg ?_
            refine WL.call TrydT.fb17 rfl (alive09_c  H.yylt (by exact H.rob 6 rfl) ) ?_
            rintro _ w23 ⟨rfl, hO⟩
            replace H := H.out hO
            refine WL.as rfl rfl ?_
            refine WL.nil ?_
            refine WE.ret ?_
            refine ⟨[_], _, .nil _, ⟨rfl, trivial⟩, ?_⟩
            refine ⟨?_, H.toOut0⟩
            rfl

end Go.Sp.Tryd
