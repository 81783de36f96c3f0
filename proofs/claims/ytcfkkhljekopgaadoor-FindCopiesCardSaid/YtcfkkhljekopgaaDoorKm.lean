/- Walks of functions, printed by a program of this session (gen.py) from notes on each function. -/
import Derived.Test.YtcfkkhljekopgaaDoorKj
set_option maxRecDepth 100000
set_option maxHeartbeats 1000000
set_option linter.unusedVariables false
set_option linter.unusedSimpArgs false
namespace Go.Sp.Tryd
open Go.Proofs Go.RowKit Go.Sp

theorem getM_self {m : List En} {e : En} (hd : m.Pairwise fun a b => num a.k ≠ num b.k) (he : e ∈ m) : getM m e.k = some e := by
  induction m with
  | nil => cases he
  | cons x m ih =>
    have h := List.pairwise_cons.1 hd
    unfold getM
    rw [List.find?_cons]
    by_cases hx : x.k = e.k
    · rcases List.mem_cons.1 he with rfl | he'
      · simp
      · exact absurd (congrArg num hx) (h.1 e he')
    · rw [show (x.k == e.k) = false by simpa using hx]
      rcases List.mem_cons.1 he with rfl | he'
      · exact absurd rfl hx
      · exact ih h.2 he'
theorem enC_load {w : World} {s : Value} {m : List En} {e : En} {q : Nat} (h : SlE s m w) (hk : KL m) (hq : q < m.length) (he : m[q] = e) : RdA w (sAddr s (q * 33)) (enC e) := he ▸ h.rd hk q hq

theorem FindCopies_c {X : Nat → Prop} {w : World} {i j : Int} {s : Value} {l : List En} (hX : ∀ b, X b → b < w.heap.size) (hf0 : Rob X (SlE s l) w) (hf1 : Rob X (Vals l) w) (hf2 : Rob X (Rounds) w) (hkl : KL l) (hlen : l.length ≤ 9223372036854775807) (hvl : ∀ e ∈ l, e.v.length ≤ 9223372036854775807) (hj : 0 ≤ j ∧ j < 256) :
    Ret Tryd.prog 16 [.int .i64 i, s, .int .u8 j].toArray w fun v w' => v = .bool true ∧ Out Nil w w' := by
  refine Ret.of_body (N := 82) Tryd.func16 rfl rfl (by simp) ?_
  have H := St.begin hX
  replace H := H.add (rob0 hf2)
  replace H := H.add (rob0 hf1)
  replace H := H.add (rob0 hf0)
  refine WE.seq_reg ?_
  refine WL.as rfl rfl ?_
  refine WL.nil ?_
  refine WE.seq_reg ?_
  refine WL.mv rfl rfl ?_
  refine WL.mv rfl rfl ?_
  refine WL.call TrydT.fb44 rfl (Tree_c (i := i) (l := l) H.yylt (by exact H.rob 0 rfl) (by exact H.rob 1 rfl) (by exact H.rob 2 rfl) (by assumption) (by assumption) (by assumption)) ?_
  rintro _ w1 ⟨bv19, sv19, Tv19, mv19, rfl, hTv19, hbv19, hO, hS_, hR⟩
  replace H := ((H.out hO).add hR).add hS_
  refine WL.mv rfl rfl ?_
  refine WL.pv (PV.extract rfl rfl rfl) rfl ?_
  refine WL.pv (PV.extract rfl rfl rfl) rfl ?_
  refine WL.pv (PV.extract rfl rfl rfl) rfl ?_
  refine WL.as rfl rfl ?_
  refine WL.as rfl rfl ?_
  refine WL.as rfl rfl ?_
  refine WL.nil ?_
  refine WE.seq ?_
  refine WE.seq_reg ?_
  refine WL.mv rfl rfl ?_
  refine WL.pv (PV.not rfl rfl) rfl ?_
  refine WL.mv rfl rfl ?_
  refine WL.split (t := 25) rfl (fun hg25 => ?_) (fun hg25 => ?_)
  · skip
    refine WL.known (t := 24) (c := true) rfl hg25 ?_
    try simp only [decide_eq_true_eq, decide_eq_false_iff_not, ne_eq, Decidable.not_not, Bool.not_eq_true', Bool.not_eq_false', Bool.and_eq_true, Bool.or_eq_true, Bool.not_not, Bool.and_eq_false_iff, Bool.or_eq_false_iff, Int.not_lt, Int.not_le] at hg25
    refine WL.off rfl ?_
    refine WL.off rfl ?_
    refine WL.off rfl ?_
    refine WL.pv (PV.pick_t rfl rfl rfl) rfl ?_
    refine WL.nil ?_
    refine WE.cond_t rfl ?_
    refine WE.seq_reg ?_
    refine WL.call TrydT.fb45 rfl (alive08_c  H.yylt (by exact H.rob 4 rfl) ) ?_
    rintro _ w2 ⟨rfl, hO⟩
    replace H := H.out hO
    refine WL.as rfl rfl ?_
    refine WL.nil ?_
    refine WE.ret ?_
    refine ⟨[_], _, .nil _, ⟨rfl, trivial⟩, ?_⟩
    refine ⟨?_, H.toOut0⟩
    rfl
  · skip
    refine WL.known (t := 24) (c := false) rfl hg25 ?_
    try simp only [decide_eq_true_eq, decide_eq_false_iff_not, ne_eq, Decidable.not_not, Bool.not_eq_true', Bool.not_eq_false', Bool.and_eq_true, Bool.or_eq_true, Bool.not_not, Bool.and_eq_false_iff, Bool.or_eq_false_iff, Int.not_lt, Int.not_le] at hg25
    obtain ⟨rfl, hi, hfew⟩ := hbv19 (by exact hg25)
    have hok := ofM_ok l hkl
    have hpm := ofM_pm l hkl
    have hml : (ofM l).length ≤ 12 := Nat.le_trans hok.2.2.1 hfew.1
    have hvs := ofM_short hkl hfew.2
    have hsv : ShortV (ofM l) := fun e he => Nat.le_trans (hvs e he) (by decide)
    replace H := H.add (by exact (H.rob 3 rfl : Rob _ (Vals l) _).imp fun _ h => h.sub hok.2.2.2)
    have hone : OneS (ofM l) := OneS.of (H.p 0 rfl)
    have hfit : Tv19.er.fit 0 := hTv19 ▸ grow_fit hpm
    have hl63 : (ofM l).length ≤ 9223372036854775807 := by omega
    refine WL.mv rfl rfl ?_
    refine WL.pv (PV.lenS (by exact H.p 1 rfl : SlE sv19 (ofM l) _) TrydT.sl42 rfl) rfl ?_
    refine WL.pv (PV.eql rfl rfl rfl) rfl ?_
    refine WL.pv (PV.pick_f rfl rfl rfl) rfl ?_
    refine WL.nil ?_
    refine WE.cond rfl (fun hc29 => ?_) (fun hc29 => ?_)
    · skip
      try simp only [decide_eq_true_eq, decide_eq_false_iff_not, ne_eq, Decidable.not_not, Bool.not_eq_true', Bool.not_eq_false', Bool.and_eq_true, Bool.or_eq_true, Bool.not_not, Bool.and_eq_false_iff, Bool.or_eq_false_iff, Int.not_lt, Int.not_le] at hc29
      refine WE.seq_reg ?_
      refine WL.call TrydT.fb45 rfl (alive08_c  H.yylt (by exact H.rob 5 rfl) ) ?_
      rintro _ w3 ⟨rfl, hO⟩
      replace H := H.out hO
      refine WL.as rfl rfl ?_
      refine WL.nil ?_
      refine WE.ret ?_
      refine ⟨[_], _, .nil _, ⟨rfl, trivial⟩, ?_⟩
      refine ⟨?_, H.toOut0⟩
      rfl
    · skip
      try simp only [decide_eq_true_eq, decide_eq_false_iff_not, ne_eq, Decidable.not_not, Bool.not_eq_true', Bool.not_eq_false', Bool.and_eq_true, Bool.or_eq_true, Bool.not_not, Bool.and_eq_false_iff, Bool.or_eq_false_iff, Int.not_lt, Int.not_le] at hc29
      have hm0 : 0 < (ofM l).length := by omega
      obtain ⟨q, hq, hql⟩ : ∃ q : Nat, (q : Int) = j % ((ofM l).length : Int) ∧ q < (ofM l).length := ⟨(j % ((ofM l).length : Int)).toNat, by have := Int.emod_nonneg j (show ((ofM l).length : Int) ≠ 0 by omega); omega, by have := Int.emod_lt_of_pos j (show (0 : Int) < (ofM l).length by omega); have := Int.emod_nonneg j (show ((ofM l).length : Int) ≠ 0 by omega); omega⟩
      obtain ⟨e, he⟩ : ∃ e, (ofM l)[q] = e := ⟨_, rfl⟩
      have hem : e ∈ ofM l := he ▸ List.getElem_mem hql
      have hek := hok.2.1 e hem
      have hev := hsv e hem
      have heo := hone e hem
      have hec := enC_length hek
      have hgv : Tv19.getV e.k = some e.v := by rw [getV_map hTv19 hpm, getM_self hpm.dis hem]; rfl
      refine WE.skip ?_
      refine WE.seq_reg ?_
      refine WL.mv rfl rfl ?_
      refine WL.mv rfl rfl ?_
      refine WL.pv (PV.conv64 rfl TrydT.in5 TrydT.in3 rfl (by omega) (by omega)) rfl ?_
      refine WL.mv rfl rfl ?_
      refine WL.pv (PV.lenS (by exact H.p 1 rfl : SlE sv19 (ofM l) _) TrydT.sl42 rfl) rfl ?_
      refine WL.pv (PV.eq (v' := .int .i64 ((q : Nat) : Int)) (PV.rem64 rfl rfl rfl (by omega) (by omega)) (by rw [hq])) rfl ?_
      refine WL.pv (PV.idxS rfl (by exact H.p 1 rfl : SlE sv19 (ofM l) _) TrydT.sl42 TrydT.sz52 rfl rfl (by omega) (by omega)) rfl ?_
      refine WL.loadR rfl TrydT.ag52 rfl rfl (enC_load (by exact H.p 1 rfl : SlE sv19 (ofM l) _) hok.2.1 hql he) (by (rw [TrydT.sz52]; refine congrArg some ?_; (simp [kc_length, kw_length, *]; done))) ?_
      refine WL.alloc H rfl TrydT.ze52 rfl ?_
      intro b10 w4 H
      refine WL.storeL H 0 rfl rfl rfl (new := enC e) rfl (by (rw [TrydT.sz52]; refine congrArg some ?_; (simp [kc_length, kw_length, *]; done))) (one_enC heo) (Laid.at (Laid.all (by (simp only [kc_length, kw_length, List.length_replicate, List.length_append, List.length_cons, List.length_nil, cutI_length, shaOf_length, dig_length, valD_length, rootM_length]; omega))) (by rfl)) rfl ?_
      intro w5 H
      refine WL.nil ?_
      refine WE.seq_reg ?_
      refine WL.mv rfl rfl ?_
      refine WL.pv (PV.fieldAddr rfl TrydT.fd52_0 rfl) rfl ?_
      refine WL.loadR rfl TrydT.ag36 rfl rfl (by exact Blk.segAt (H.l 0 rfl) (Seg.l (Seg.all _)) (by rfl)) (by (rw [TrydT.sz36]; refine congrArg some ?_; (simp only [kc_length, kw_length, List.length_replicate, List.length_append, List.length_cons, List.length_nil, cutI_length, shaOf_length, dig_length, valD_length, rootM_length]; omega))) ?_
      refine WL.call TrydT.fb49 rfl (GetYes_c (T := Tv19) (k := e.k) (bits := i) H.yylt (by exact H.rob 2 rfl) (by assumption) (by assumption) (by assumption)) ?_
      rintro _ w6 ⟨sv43, rfl, hO, hOwnv43⟩
      have hs1v43 := own_one hOwnv43
      replace H := H.push hO (Ent.osl w.heap.size sv43 5 1 _ _) (ownsRow_base hOwnv43 H.size) (fun b hb => (hOwnv43.lt b hb).1)
      refine WL.mv rfl rfl ?_
      refine WL.pv (PV.extract rfl rfl rfl) rfl ?_
      refine WL.pv (PV.extract rfl rfl rfl) rfl ?_
      refine WL.as rfl rfl ?_
      refine WL.as rfl rfl ?_
      refine WL.nil ?_
      refine WE.seq ?_
      refine WE.seq_reg ?_
      refine WL.mv rfl rfl ?_
      refine WL.pv (PV.not rfl rfl) rfl ?_
      refine WL.mv rfl rfl ?_
      refine WL.known (t := 48) (c := false) rfl (by rfl) ?_
      refine WL.mv rfl rfl ?_
      refine WL.pv (PV.lenS (SlC.of_own (H.l 0 rfl)) TrydT.sl33 rfl) rfl ?_
      refine WL.pv (PV.fieldAddr rfl TrydT.fd52_1 rfl) rfl ?_
      refine WL.load1 rfl TrydT.ag33 rfl rfl (by exact Blk.segAt (H.l 1 rfl) (Seg.r (Seg.all _) (by with_reducible rfl)) (by (simp [kc_length, kw_length, *]; done))) ?_
      refine WL.pv (PV.lenS (by exact (H.p 0 rfl : Vals (ofM l) _) _ hem) TrydT.sl33 rfl) rfl ?_
      refine WL.pv (PV.neq rfl rfl rfl) rfl ?_
      refine WL.pv (PV.pick_f rfl rfl rfl) rfl ?_
      refine WL.nil ?_
      refine WE.cond_f' rfl (by simp) ?_
      refine WE.skip ?_
      refine WE.seq ?_
      refine WE.seq_reg ?_
      refine WL.mv rfl rfl ?_
      refine WL.pv (PV.lenS (SlC.of_own (H.l 0 rfl)) TrydT.sl33 rfl) rfl ?_
      refine WL.mv rfl rfl ?_
      refine WL.nil ?_
      refine WE.block ?_
      refine WE.loop (α := Nat × List UInt8) [13, 58, 59, 60, 61, 62, 63, 64, 65, 66, 67] (fun p => [(58, .int .i64 p.1)]) (fun p wl => p.1 ≤ e.v.length ∧ p.2.length = e.v.length ∧ St X w wl [] [Ent.osl w.heap.size sv43 5 1 e.v.length (kc p.2), Ent.blk b10 52 (enC e)] [fun x => Vals (ofM l) x, SlE sv19 (ofM l), TrA i Tv19, SlE s l, Vals l, Rounds]) (fun p => e.v.length - p.1) (0, e.v) ⟨rfl, trivial⟩ ⟨Nat.zero_le _, rfl, H⟩ ?_
      intro ⟨n, lb⟩ γ0 w7 hI
      try dsimp only at hI
      obtain ⟨hn, hlb, H⟩ := hI
      refine WE.seq_reg ?_
      refine WL.pv (PV.lss rfl rfl rfl) rfl ?_
      refine WL.nil ?_
      refine WE.seq ?_
      refine WE.cond rfl (fun hc59 => ?_) (fun hc59 => ?_)
      · skip
        try simp only [decide_eq_true_eq, decide_eq_false_iff_not, ne_eq, Decidable.not_not, Bool.not_eq_true', Bool.not_eq_false', Bool.and_eq_true, Bool.or_eq_true, Bool.not_not, Bool.and_eq_false_iff, Bool.or_eq_false_iff, Int.not_lt, Int.not_le] at hc59
        have hlt : n < e.v.length := by omega
        refine WE.skip ?_
        refine WE.seq ?_
        refine WE.block ?_
        refine WE.seq_reg ?_
        refine WL.mv rfl rfl ?_
        refine WL.as rfl rfl ?_
        refine WL.nil ?_
        refine WE.reg ?_
        refine WL.mv rfl rfl ?_
        refine WL.mv rfl rfl ?_
        refine WL.pv (PV.idxS rfl (SlC.of_own (H.l 0 rfl)) TrydT.sl33 TrydT.sz5 rfl rfl (by omega) (by omega)) rfl ?_
        refine WL.load1 rfl TrydT.ag5 rfl rfl ((show SlB sv43 lb _ from by have := SlC.of_own (H.l 0 rfl); rw [← hlb] at this; exact this).rd n (by omega)) ?_
        refine WL.pv (PV.add8 (a := lb[n]'(by omega)) (b := 1) rfl rfl rfl) rfl ?_
        refine WL.pv (PV.idxS rfl (SlC.of_own (H.l 0 rfl)) TrydT.sl33 TrydT.sz5 rfl rfl (by omega) (by omega)) rfl ?_
        refine WL.storeS (p := n * 1) H 0 rfl rfl rfl (new := _) rfl (by exact TrydT.sz5) (one_lit _ rfl) (Nat.succ_pos _) (Laid.at (Laid.byte (l := lb) (i := n) (x := lb[n]'(by omega) + 1) (by omega)) (by omega)) rfl ?_
        intro w8 H
        refine WL.nil ?_
        refine WE.reg ?_
        refine WL.pv (PV.add64 rfl rfl rfl (by omega) (by omega)) rfl ?_
        refine WL.mv rfl rfl ?_
        refine WL.nil ?_
        exact ⟨(n + 1, lb.set n (lb[n]'(by omega) + 1)), (by repeat (first | with_reducible exact Off.refl _ _ | refine Off.upd rfl ?_ | refine Off.setAll rfl ?_ | refine Off.forget' rfl ?_)), ⟨rfl, trivial⟩, rfl, ⟨by dsimp only; omega, by dsimp only; rw [List.length_set]; exact hlb, H⟩, (by dsimp only; omega)⟩
      · skip
        try simp only [decide_eq_true_eq, decide_eq_false_iff_not, ne_eq, Decidable.not_not, Bool.not_eq_true', Bool.not_eq_false', Bool.and_eq_true, Bool.or_eq_true, Bool.not_not, Bool.and_eq_false_iff, Bool.or_eq_false_iff, Int.not_lt, Int.not_le] at hc59
        refine WE.exit ?_
        refine WE.seq_reg ?_
        refine WL.mv rfl rfl ?_
        refine WL.pv (PV.fieldAddr rfl TrydT.fd52_0 rfl) rfl ?_
        refine WL.loadR rfl TrydT.ag36 rfl rfl (by exact Blk.segAt (H.l 1 rfl) (Seg.l (Seg.all _)) (by rfl)) (by (rw [TrydT.sz36]; refine congrArg some ?_; (simp only [kc_length, kw_length, List.length_replicate, List.length_append, List.length_cons, List.length_nil, cutI_length, shaOf_length, dig_length, valD_length, rootM_length]; omega))) ?_
        refine WL.call TrydT.fb49 rfl (GetYes_c (T := Tv19) (k := e.k) (bits := i) H.yylt (by exact H.rob 2 rfl) (by assumption) (by assumption) (by assumption)) ?_
        rintro _ w9 ⟨sv72, rfl, hO, hOwnv72⟩
        have hs1v72 := own_one hOwnv72
        replace H := H.push hO (Ent.osl w.heap.size sv72 5 1 _ _) (ownsRow_base hOwnv72 H.size) (fun b hb => (hOwnv72.lt b hb).1)
        refine WL.mv rfl rfl ?_
        refine WL.pv (PV.extract rfl rfl rfl) rfl ?_
        replace H := H.freeze (i := 0) rfl
        replace H := H.add ((H.rob 0 rfl).imp fun _ h => SlB.of_own h)
        refine WL.pv (PV.extract rfl rfl rfl) rfl ?_
        refine WL.as rfl rfl ?_
        refine WL.as rfl rfl ?_
        refine WL.nil ?_
        refine WE.seq_reg ?_
        refine WL.call TrydT.fb45 rfl (alive08_c  H.yylt (by exact H.rob 7 rfl) ) ?_
        rintro _ w10 ⟨rfl, hO⟩
        replace H := H.out hO
        refine WL.mv rfl rfl ?_
        refine WL.known (t := 76) (c := true) rfl (by rfl) ?_
        refine WL.mv rfl rfl ?_
        refine WL.pv (PV.fieldAddr rfl TrydT.fd52_1 rfl) rfl ?_
        refine WL.load1 rfl TrydT.ag33 rfl rfl (by exact Blk.segAt (H.l 1 rfl) (Seg.r (Seg.all _) (by with_reducible rfl)) (by (simp [kc_length, kw_length, *]; done))) ?_
        refine WL.call TrydT.fb38 rfl (Same_c (la := e.v) (lb := e.v) H.yylt ((by exact (H.rob 0 rfl : Rob _ (SlB sv72 e.v) _))) (by exact (H.rob 2 rfl : Rob _ (Vals (ofM l)) _).imp fun _ h => h _ hem) (by omega)) ?_
        rintro _ w11 ⟨rfl, hO⟩
        replace H := H.out hO
        refine WL.pv (PV.pick_t rfl rfl rfl) rfl ?_
        refine WL.as rfl rfl ?_
        refine WL.nil ?_
        refine WE.ret ?_
        refine ⟨[_], _, .nil _, ⟨rfl, trivial⟩, ?_⟩
        refine ⟨?_, H.toOut0⟩
        (show Value.bool _ = Value.bool true; (simp; done))

end Go.Sp.Tryd
