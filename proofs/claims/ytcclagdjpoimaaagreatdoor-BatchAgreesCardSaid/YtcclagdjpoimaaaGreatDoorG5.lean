/- Walks of functions, printed by a program of this session (gen.py) from notes on each function. -/
import Derived.Test.YtcclagdjpoimaaaGreatDoorG4
import Derived.Test.YtcclagdjpoimaaaGreatDoorG3
set_option maxRecDepth 100000
set_option maxHeartbeats 1000000
set_option linter.unusedVariables false
set_option linter.unusedSimpArgs false
namespace Go.Sp.Tryz
open Go.Proofs Go.RowKit Go.Sp

def OneS (m : List En) : Prop := ∀ e ∈ m, e.s.oneCell' = true
theorem OneS.of {m : List En} {w : World} (h : Vals m w) : OneS m := fun e he => SlC.one1 (h e he)
theorem one_enC {e : En} (h : e.s.oneCell' = true) : oneAll (enC e) := one_append (kc_one _) (one_lit _ (by simp [h]))
theorem partM_snoc (m : List En) (d b k : Nat) (h : k < m.length) : partM (m.take (k + 1)) d b = partM (m.take k) d b ++ (if bitN m[k].k d = b then [m[k]] else []) := by
  unfold partM
  rw [List.take_succ_eq_append_getElem h, List.filter_append]
  by_cases hb : bitN m[k].k d = b <;> simp [hb]
theorem rmM_snoc (m : List En) (q : List UInt8) (k : Nat) (h : k < m.length) : rmM (m.take (k + 1)) q = rmM (m.take k) q ++ (if m[k].k ≠ q then [m[k]] else []) := by
  unfold rmM
  rw [List.take_succ_eq_append_getElem h, List.filter_append]
  by_cases hb : m[k].k = q <;> simp [hb]
theorem SlE.rdk {v : Value} {m : List En} {w : World} (h : SlE v m w) (hk : KL m) (i : Nat) (hi : i < m.length) : RdA w ((sAddr v (i * 33)).add 0) (kc m[i].k) :=
  RdA.sub (h.rd hk i hi) (Seg.l (b := [m[i].s]) (Seg.all (kc m[i].k)))
theorem SlE.rdv {v : Value} {m : List En} {w : World} (h : SlE v m w) (hk : KL m) (i : Nat) (hi : i < m.length) : RdA w ((sAddr v (i * 33)).add 32) [m[i].s] :=
  RdA.sub (h.rd hk i hi) (Seg.r (a := kc m[i].k) (Seg.all [m[i].s]) (by rw [kc_length, hk _ (List.getElem_mem hi)]))
theorem PV.fieldAddrA {P : Program} {σ : Env} {o : Oper} {s ft : TypeId} {x : Operand} {f off n : Nat} {a : Addr} (h : o.op = .fieldAddr s x f) (hf : tyField P s f = some (off, ft, n + 1)) (hx : ev σ x = .pointer (some a)) :
    PV P σ o (.pointer (some (a.add off))) := fun w => by
  obtain ⟨fs, fl, i, hu, hfl, h1, h2, hi, hn⟩ := und_of_field hf
  have h3 := run_fieldPlace hi hn (by omega) h2 h1 a w
  simp [execOp, h, hx, Instr.fieldAt, run_underlying hu, hfl, Instr.sureAddr, h3]

theorem refCompare_c {X : Nat → Prop} {w : World} {k l : List UInt8} (hX : ∀ b, X b → b < w.heap.size) (hk : k.length = 32) (hl : l.length = 32) :
    Ret Tryz.prog 60 [.agg (kc k).toArray, .agg (kc l).toArray].toArray w fun v w' => v = .int .i64 (cmpI k l) ∧ Out Nil w w' := by
  refine Ret.of_body (N := 24) Tryz.func60 rfl rfl (by simp) ?_
  have H := St.begin hX
  refine WE.seq_reg ?_
  refine WL.box (l := kc k) H rfl (by rfl) rfl ?_
  intro b2 w1 H
  refine WL.box (l := kc l) H rfl (by rfl) rfl ?_
  intro b3 w2 H
  refine WL.as rfl rfl ?_
  refine WL.nil ?_
  refine WE.seq ?_
  refine WE.seq_reg ?_
  refine WL.as rfl rfl ?_
  refine WL.nil ?_
  refine WE.block ?_
  refine WE.loop (α := Nat) [4, 5, 6, 7, 8, 9, 10, 11, 12, 13, 14, 15, 16, 17, 18, 19, 20, 21, 22, 23] (fun i => [(5, .int .i64 i)]) (fun i wl => i ≤ 32 ∧ k.take i = l.take i ∧ St X w wl [] [Ent.blk b3 31 (kc l), Ent.blk b2 31 (kc k)] []) (fun i => 32 - i) 0 ⟨rfl, trivial⟩ ⟨Nat.zero_le _, by simp, H⟩ ?_
  intro i γ0 w3 hI
  try dsimp only at hI
  obtain ⟨hi, hpre, H⟩ := hI
  refine WE.seq ?_
  refine WE.seq_reg ?_
  refine WL.mv rfl rfl ?_
  refine WL.pv (PV.lss rfl rfl rfl) rfl ?_
  refine WL.nil ?_
  refine WE.cond rfl (fun hc7 => ?_) (fun hc7 => ?_)
  · skip
    try simp only [decide_eq_true_eq, decide_eq_false_iff_not, ne_eq, Decidable.not_not, Bool.not_eq_true', Bool.not_eq_false', Bool.and_eq_true, Bool.or_eq_true, Bool.not_not, Bool.and_eq_false_iff, Bool.or_eq_false_iff, Int.not_lt, Int.not_le] at hc7
    have hlt : i < 32 := by omega
    refine WE.skip ?_
    refine WE.seq ?_
    refine WE.block ?_
    refine WE.seq ?_
    refine WE.seq_draw (.take 0 (.take 1 (.take 2 (.take 3 (.take 4 (.take 5 (.take 6 .done))))))) TryzT.mixed (by kernel_rfl) ?_
    replace H := H.out (Out.drew _)
    refine WP.mv rfl rfl rfl ?_
    refine WP.take_pure rfl rfl (PV.indexArr rfl TryzT.ar31 TryzT.sz5 rfl rfl (by omega) (by omega)) ?_
    refine WP.take_read rfl rfl (RV.loadOne rfl TryzT.ag5 rfl) (by exact Blk.segAt (H.l 1 rfl) (Seg.byte i (by omega)) (by (simp; done))) ?_
    refine WP.mv rfl rfl rfl ?_
    refine WP.take_pure rfl rfl (PV.indexArr rfl TryzT.ar31 TryzT.sz5 rfl rfl (by omega) (by omega)) ?_
    refine WP.take_read rfl rfl (RV.loadOne rfl TryzT.ag5 rfl) (by exact Blk.segAt (H.l 0 rfl) (Seg.byte i (by omega)) (by (simp; done))) ?_
    refine WP.take_pure rfl rfl (PV.lss rfl rfl rfl) ?_
    refine WP.done ?_
    refine WE.cond rfl (fun hc16 => ?_) (fun hc16 => ?_)
    · skip
      try simp only [decide_eq_true_eq, decide_eq_false_iff_not, ne_eq, Decidable.not_not, Bool.not_eq_true', Bool.not_eq_false', Bool.and_eq_true, Bool.or_eq_true, Bool.not_not, Bool.and_eq_false_iff, Bool.or_eq_false_iff, Int.not_lt, Int.not_le] at hc16
      have hnum := num_lt_of (by omega) i (by omega) hpre (by omega)
      refine WE.seq_reg ?_
      refine WL.as rfl rfl ?_
      refine WL.nil ?_
      refine WE.ret ?_
      refine ⟨[_], _, .nil _, ⟨rfl, trivial⟩, ?_⟩
      refine ⟨?_, H.toOut0⟩
      rw [cmpI, if_pos hnum]; rfl
    · skip
      try simp only [decide_eq_true_eq, decide_eq_false_iff_not, ne_eq, Decidable.not_not, Bool.not_eq_true', Bool.not_eq_false', Bool.and_eq_true, Bool.or_eq_true, Bool.not_not, Bool.and_eq_false_iff, Bool.or_eq_false_iff, Int.not_lt, Int.not_le] at hc16
      refine WE.skip ?_
      refine WE.seq_draw (.take 0 (.take 1 (.take 2 (.take 3 (.take 4 (.take 5 (.take 6 .done))))))) TryzT.mixed (by kernel_rfl) ?_
      replace H := H.out (Out.drew _)
      refine WP.mv rfl rfl rfl ?_
      refine WP.take_pure rfl rfl (PV.indexArr rfl TryzT.ar31 TryzT.sz5 rfl rfl (by omega) (by omega)) ?_
      refine WP.take_read rfl rfl (RV.loadOne rfl TryzT.ag5 rfl) (by exact Blk.segAt (H.l 1 rfl) (Seg.byte i (by omega)) (by (simp; done))) ?_
      refine WP.mv rfl rfl rfl ?_
      refine WP.take_pure rfl rfl (PV.indexArr rfl TryzT.ar31 TryzT.sz5 rfl rfl (by omega) (by omega)) ?_
      refine WP.take_read rfl rfl (RV.loadOne rfl TryzT.ag5 rfl) (by exact Blk.segAt (H.l 0 rfl) (Seg.byte i (by omega)) (by (simp; done))) ?_
      refine WP.take_pure rfl rfl (PV.gtr rfl rfl rfl) ?_
      refine WP.done ?_
      refine WE.cond rfl (fun hc23 => ?_) (fun hc23 => ?_)
      · skip
        try simp only [decide_eq_true_eq, decide_eq_false_iff_not, ne_eq, Decidable.not_not, Bool.not_eq_true', Bool.not_eq_false', Bool.and_eq_true, Bool.or_eq_true, Bool.not_not, Bool.and_eq_false_iff, Bool.or_eq_false_iff, Int.not_lt, Int.not_le] at hc23
        have hnum := num_lt_of (a := l) (b := k) (by omega) i (by omega) hpre.symm (by omega)
        refine WE.seq_reg ?_
        refine WL.as rfl rfl ?_
        refine WL.nil ?_
        refine WE.ret ?_
        refine ⟨[_], _, .nil _, ⟨rfl, trivial⟩, ?_⟩
        refine ⟨?_, H.toOut0⟩
        rw [cmpI, if_neg (by omega), if_pos hnum]; rfl
      · skip
        try simp only [decide_eq_true_eq, decide_eq_false_iff_not, ne_eq, Decidable.not_not, Bool.not_eq_true', Bool.not_eq_false', Bool.and_eq_true, Bool.or_eq_true, Bool.not_not, Bool.and_eq_false_iff, Bool.or_eq_false_iff, Int.not_lt, Int.not_le] at hc23
        have heq : k[i] = l[i] := UInt8.toNat_inj.1 (by omega)
        have hpre2 : k.take (i + 1) = l.take (i + 1) := by rw [List.take_succ_eq_append_getElem (by omega), List.take_succ_eq_append_getElem (by omega), hpre, heq]
        refine WE.skip ?_
        refine WE.reg ?_
        refine WL.mv rfl rfl ?_
        refine WL.pv (PV.add64 rfl rfl rfl (by omega) (by omega)) rfl ?_
        refine WL.as rfl rfl ?_
        refine WL.nil ?_
        exact ⟨i + 1, (by repeat (first | with_reducible exact Off.refl _ _ | refine Off.upd rfl ?_ | refine Off.setAll rfl ?_ | refine Off.forget' rfl ?_)), ⟨rfl, trivial⟩, rfl, ⟨by omega, hpre2, H⟩, (by omega)⟩
  · skip
    try simp only [decide_eq_true_eq, decide_eq_false_iff_not, ne_eq, Decidable.not_not, Bool.not_eq_true', Bool.not_eq_false', Bool.and_eq_true, Bool.or_eq_true, Bool.not_not, Bool.and_eq_false_iff, Bool.or_eq_false_iff, Int.not_lt, Int.not_le] at hc7
    have hi32 : i = 32 := by omega
    refine WE.exit ?_
    refine WE.seq_reg ?_
    refine WL.as rfl rfl ?_
    refine WL.nil ?_
    refine WE.ret ?_
    refine ⟨[_], _, .nil _, ⟨rfl, trivial⟩, ?_⟩
    refine ⟨?_, H.toOut0⟩
    have e : k = l := by rw [← List.take_of_length_le (show k.length ≤ i by omega), ← List.take_of_length_le (show l.length ≤ i by omega), hpre]
    rw [e, cmpI, if_neg (by omega), if_neg (by omega)]; rfl

theorem Part_c {X : Nat → Prop} {w : World} {s : Value} {m : List En} {d b : Nat} (hX : ∀ b, X b → b < w.heap.size) (hf0 : Rob X (SlE s m) w) (hkl : KL m) (hone : OneS m) (hlen : m.length ≤ 1000000) (hd : d < 256) :
    Ret Tryz.prog 52 [s, .int .i64 (d : Int), .int .i64 (b : Int)].toArray w fun v w' => Out Nil w w' ∧ Rob X (SlE v (partM m d b)) w' := by
  refine Ret.of_body (N := 32) Tryz.func52 rfl rfl (by simp) ?_
  have H := St.begin hX
  replace H := H.add (rob0 hf0)
  refine WE.seq_reg ?_
  refine WL.as rfl rfl ?_
  refine WL.nil ?_
  refine WE.seq_reg ?_
  refine WL.as rfl rfl ?_
  refine WL.nil ?_
  refine WE.seq ?_
  refine WE.seq_reg ?_
  refine WL.as rfl rfl ?_
  refine WL.nil ?_
  refine WE.block ?_
  replace H := H.nilOsl 34 33
  refine WE.loop (α := Nat × Value) [7, 8, 9, 10, 11, 12, 13, 14, 15, 16, 17, 18, 19, 20, 21, 22, 23, 24, 25, 26, 27, 28, 29, 30] (fun p => [(8, .int .i64 p.1), (7, p.2)]) (fun p wl => p.1 ≤ m.length ∧ St X w wl [] [Ent.osl w.heap.size p.2 34 33 (partM (m.take p.1) d b).length ((partM (m.take p.1) d b).flatMap enC)] [SlE s m]) (fun p => m.length - p.1) (0, .slice none 0 0) ⟨rfl, rfl, trivial⟩ ⟨Nat.zero_le _, H⟩ ?_
  intro ⟨k, v⟩ γ0 w1 hI
  try dsimp only at hI
  obtain ⟨hk, H⟩ := hI
  refine WE.seq ?_
  refine WE.seq_reg ?_
  refine WL.mv rfl rfl ?_
  refine WL.mv rfl rfl ?_
  refine WL.pv (PV.lenS (H.p 0 rfl : SlE s m _) TryzT.sl22 rfl) rfl ?_
  refine WL.pv (PV.lss rfl rfl rfl) rfl ?_
  refine WL.nil ?_
  refine WE.cond rfl (fun hc12 => ?_) (fun hc12 => ?_)
  · skip
    try simp only [decide_eq_true_eq, decide_eq_false_iff_not, ne_eq, Decidable.not_not, Bool.not_eq_true', Bool.not_eq_false', Bool.and_eq_true, Bool.or_eq_true, Bool.not_not, Bool.and_eq_false_iff, Bool.or_eq_false_iff, Int.not_lt, Int.not_le] at hc12
    have hlt : k < m.length := by omega
    have hE : (enC m[k]).length = 1 * 33 := enC_length (hkl _ (List.getElem_mem hlt))
    have hE2 : (enC m[k]).length = 33 := hE
    have hkk := hkl _ (List.getElem_mem hlt)
    have hpl : (partM (m.take k) d b).length ≤ k := Nat.le_trans (List.length_filter_le _ _) (by simp; omega)
    have hS := partM_snoc m d b k hlt
    have hB : bitI m[k].k (d : Int) = (bitN m[k].k d : Int) := by rw [bitI, if_neg (by omega), Int.toNat_natCast]
    refine WE.skip ?_
    refine WE.cut (α := Value) [7, 15, 16, 17, 18, 19, 20, 21, 22, 23, 24, 25, 26, 27, 28, 29, 30] (fun g1_ => [(7, g1_)]) (fun g1_ wl => St X w wl [] [Ent.osl w.heap.size g1_ 34 33 (partM (m.take (k + 1)) d b).length ((partM (m.take (k + 1)) d b).flatMap enC)] [SlE s m]) ?_ ?_
    · skip
      refine WE.block ?_
      refine WE.seq_reg ?_
      refine WL.mv rfl rfl ?_
      refine WL.mv rfl rfl ?_
      refine WL.pv (PV.idxS rfl (H.p 0 rfl : SlE s m _) TryzT.sl22 TryzT.sz34 rfl rfl (by omega) (by omega)) rfl ?_
      refine WL.pv (PV.fieldAddrA rfl TryzT.fd34_0 rfl) rfl ?_
      refine WL.loadR rfl TryzT.ag31 rfl rfl (SlE.rdk (H.p 0 rfl) hkl k hlt) (by (rw [TryzT.sz31]; refine congrArg some ?_; (simp only [kc_length, kw_length, List.length_replicate, List.length_append, List.length_cons, List.length_nil, cutI_length, shaOf_length, dig_length, valD_length]; omega))) ?_
      refine WL.mv rfl rfl ?_
      refine WL.call TryzT.fb83 rfl (refBit_c (l := m[k].k) (i := (d : Int)) H.yylt hkk (by omega)) ?_
      rintro _ w2 ⟨rfl, hO⟩
      replace H := H.out hO
      refine WL.mv rfl rfl ?_
      refine WL.pv (PV.eql rfl rfl rfl) rfl ?_
      refine WL.nil ?_
      refine WE.cond rfl (fun hc23 => ?_) (fun hc23 => ?_)
      · skip
        try simp only [decide_eq_true_eq, decide_eq_false_iff_not, ne_eq, Decidable.not_not, Bool.not_eq_true', Bool.not_eq_false', Bool.and_eq_true, Bool.or_eq_true, Bool.not_not, Bool.and_eq_false_iff, Bool.or_eq_false_iff, Int.not_lt, Int.not_le] at hc23
        rw [if_pos (by omega)] at hS
        refine WE.reg ?_
        refine WL.mv rfl rfl ?_
        refine WL.mv rfl rfl ?_
        refine WL.mv rfl rfl ?_
        refine WL.pv (PV.idxS rfl (H.p 0 rfl : SlE s m _) TryzT.sl22 TryzT.sz34 rfl rfl (by omega) (by omega)) rfl ?_
        refine WL.loadR rfl TryzT.ag34 rfl rfl (SlE.rd (H.p 0 rfl) hkl k hlt) (by (rw [TryzT.sz34]; refine congrArg some ?_; (simp [kc_length, kw_length, *]; done))) ?_
        refine WL.buildSliceF (l0 := ((kc (List.replicate 32 0) ++ ([.slice none 0 0])))) H rfl TryzT.st22 (by decide) (by rfl) (Fl.cons rfl (by rfl) (by (simp only [kc_length, kw_length, List.length_replicate, List.length_append, List.length_cons, List.length_nil, cutI_length, shaOf_length, dig_length, valD_length]; omega)) (Laid.all (by (simp only [kc_length, kw_length, List.length_replicate, List.length_append, List.length_cons, List.length_nil, cutI_length, shaOf_length, dig_length, valD_length]; omega))) Fl.nil) rfl ?_
        intro b29 w3 H
        refine WL.append (m := 1) H 1 TryzT.st22 (by decide) rfl rfl rfl (SlC.of_blk (n := 1) (H.l 0 rfl) hE) (one_enC (hone _ (List.getElem_mem hlt))) (by omega) (by decide) rfl ?_
        intro v30 w4 H
        have hSl := congrArg List.length hS
        rw [List.length_append, show [m[k]].length = 1 from rfl] at hSl
        have hSf := congrArg (List.flatMap enC) hS
        rw [List.flatMap_append, List.flatMap_singleton] at hSf
        replace H := H.forget 0
        replace H := H.conv (L' := [Ent.osl w.heap.size v30 34 33 (partM (m.take (k + 1)) d b).length ((partM (m.take (k + 1)) d b).flatMap enC)]) (by rw [hSl, hSf]; rfl)
        refine WL.as rfl rfl ?_
        refine WL.nil ?_
        exact ⟨v30, (by repeat (first | with_reducible exact Off.refl _ _ | refine Off.upd rfl ?_)), ⟨rfl, trivial⟩, rfl, H⟩
      · skip
        try simp only [decide_eq_true_eq, decide_eq_false_iff_not, ne_eq, Decidable.not_not, Bool.not_eq_true', Bool.not_eq_false', Bool.and_eq_true, Bool.or_eq_true, Bool.not_not, Bool.and_eq_false_iff, Bool.or_eq_false_iff, Int.not_lt, Int.not_le] at hc23
        rw [if_neg (by omega), List.append_nil] at hS
        refine WE.skip ?_
        exact ⟨v, (by repeat (first | with_reducible exact Off.refl _ _ | refine Off.upd rfl ?_)), ⟨rfl, trivial⟩, rfl, H.conv (by rw [hS])⟩
    · skip
      intro g1_ γ w5 hI
      try dsimp only at hI
      replace H := hI
      refine WE.reg ?_
      refine WL.mv rfl rfl ?_
      refine WL.pv (PV.add64 rfl rfl rfl (by omega) (by omega)) rfl ?_
      refine WL.as rfl rfl ?_
      refine WL.nil ?_
      exact ⟨(k + 1, g1_), (by repeat (first | with_reducible exact Off.refl _ _ | refine Off.upd rfl ?_ | refine Off.setAll rfl ?_ | refine Off.forget' rfl ?_)), ⟨rfl, rfl, trivial⟩, rfl, ⟨by dsimp only; omega, H⟩, (by dsimp only; omega)⟩
  · skip
    try simp only [decide_eq_true_eq, decide_eq_false_iff_not, ne_eq, Decidable.not_not, Bool.not_eq_true', Bool.not_eq_false', Bool.and_eq_true, Bool.or_eq_true, Bool.not_not, Bool.and_eq_false_iff, Bool.or_eq_false_iff, Int.not_lt, Int.not_le] at hc12
    have hke : m.take k = m := List.take_of_length_le (by omega)
    refine WE.exit ?_
    refine WE.seq_reg ?_
    refine WL.mv rfl rfl ?_
    refine WL.as rfl rfl ?_
    refine WL.nil ?_
    refine WE.ret ?_
    refine ⟨[_], _, .nil _, ⟨rfl, trivial⟩, ?_⟩
    replace H := H.freeze (i := 0) rfl
    exact ⟨H.toOut0, H.give ((H.rob 0 rfl).imp fun _ h => by rw [hke] at h; exact SlC.of_own h)⟩

theorem Remove_c {X : Nat → Prop} {w : World} {s : Value} {m : List En} {q : List UInt8} (hX : ∀ b, X b → b < w.heap.size) (hf0 : Rob X (SlE s m) w) (hkl : KL m) (hone : OneS m) (hlen : m.length ≤ 1000000) (hq : q.length = 32) :
    Ret Tryz.prog 41 [s, .agg (kc q).toArray].toArray w fun v w' => Out Nil w w' ∧ Rob X (SlE v (rmM m q)) w' := by
  refine Ret.of_body (N := 28) Tryz.func41 rfl rfl (by simp) ?_
  have H := St.begin hX
  replace H := H.add (rob0 hf0)
  refine WE.seq_reg ?_
  refine WL.box (l := kc q) H rfl (by rfl) rfl ?_
  intro b3 w1 H
  refine WL.as rfl rfl ?_
  refine WL.nil ?_
  refine WE.seq_reg ?_
  refine WL.as rfl rfl ?_
  refine WL.nil ?_
  refine WE.seq ?_
  refine WE.seq_reg ?_
  refine WL.as rfl rfl ?_
  refine WL.nil ?_
  refine WE.block ?_
  replace H := H.nilOsl 34 33
  refine WE.loop (α := Nat × Value) [5, 6, 7, 8, 9, 10, 11, 12, 13, 14, 15, 16, 17, 18, 19, 20, 21, 22, 23, 24, 25, 26] (fun p => [(6, .int .i64 p.1), (5, p.2)]) (fun p wl => p.1 ≤ m.length ∧ St X w wl [] [Ent.osl w.heap.size p.2 34 33 (rmM (m.take p.1) q).length ((rmM (m.take p.1) q).flatMap enC), Ent.blk b3 31 (kc q)] [SlE s m]) (fun p => m.length - p.1) (0, .slice none 0 0) ⟨rfl, rfl, trivial⟩ ⟨Nat.zero_le _, H⟩ ?_
  intro ⟨k, v⟩ γ0 w2 hI
  try dsimp only at hI
  obtain ⟨hk, H⟩ := hI
  refine WE.seq ?_
  refine WE.seq_reg ?_
  refine WL.mv rfl rfl ?_
  refine WL.mv rfl rfl ?_
  refine WL.pv (PV.lenS (H.p 0 rfl : SlE s m _) TryzT.sl22 rfl) rfl ?_
  refine WL.pv (PV.lss rfl rfl rfl) rfl ?_
  refine WL.nil ?_
  refine WE.cond rfl (fun hc10 => ?_) (fun hc10 => ?_)
  · skip
    try simp only [decide_eq_true_eq, decide_eq_false_iff_not, ne_eq, Decidable.not_not, Bool.not_eq_true', Bool.not_eq_false', Bool.and_eq_true, Bool.or_eq_true, Bool.not_not, Bool.and_eq_false_iff, Bool.or_eq_false_iff, Int.not_lt, Int.not_le] at hc10
    have hlt : k < m.length := by omega
    have hE : (enC m[k]).length = 1 * 33 := enC_length (hkl _ (List.getElem_mem hlt))
    have hE2 : (enC m[k]).length = 33 := hE
    have hkk := hkl _ (List.getElem_mem hlt)
    have hpl : (rmM (m.take k) q).length ≤ k := Nat.le_trans (List.length_filter_le _ _) (by simp; omega)
    have hS := rmM_snoc m q k hlt
    refine WE.skip ?_
    refine WE.cut (α := Value) [5, 13, 14, 15, 16, 17, 18, 19, 20, 21, 22, 23, 24, 25, 26] (fun g1_ => [(5, g1_)]) (fun g1_ wl => St X w wl [] [Ent.osl w.heap.size g1_ 34 33 (rmM (m.take (k + 1)) q).length ((rmM (m.take (k + 1)) q).flatMap enC), Ent.blk b3 31 (kc q)] [SlE s m]) ?_ ?_
    · skip
      refine WE.block ?_
      refine WE.seq_draw (.take 0 (.take 1 (.take 2 (.take 3 (.take 4 (.take 5 (.take 6 .done))))))) TryzT.mixed (by kernel_rfl) ?_
      replace H := H.out (Out.drew _)
      refine WP.mv rfl rfl rfl ?_
      refine WP.mv rfl rfl rfl ?_
      refine WP.take_pure rfl rfl (PV.idxS rfl (H.p 0 rfl : SlE s m _) TryzT.sl22 TryzT.sz34 rfl rfl (by omega) (by omega)) ?_
      refine WP.take_pure rfl rfl (PV.fieldAddrA rfl TryzT.fd34_0 rfl) ?_
      refine WP.readA rfl rfl rfl TryzT.ag31 rfl (SlE.rdk (H.p 0 rfl) hkl k hlt) (by (rw [TryzT.sz31]; refine congrArg some ?_; (simp only [kc_length, kw_length, List.length_replicate, List.length_append, List.length_cons, List.length_nil, cutI_length, shaOf_length, dig_length, valD_length]; omega))) ?_
      refine WP.readA rfl rfl rfl TryzT.ag31 rfl (by exact Blk.segAt (H.l 1 rfl) (Seg.all _) (by rfl)) (by (rw [TryzT.sz31]; refine congrArg some ?_; (simp only [kc_length, kw_length, List.length_replicate, List.length_append, List.length_cons, List.length_nil, cutI_length, shaOf_length, dig_length, valD_length]; omega))) ?_
      refine WP.take_pure rfl rfl (PV.neqB rfl TryzT.ar31 TryzT.in5 TryzT.sz5 (by kernel_rfl) rfl rfl (by assumption) (by assumption)) ?_
      refine WP.done ?_
      refine WE.cond rfl (fun hc19 => ?_) (fun hc19 => ?_)
      · skip
        try simp only [decide_eq_true_eq, decide_eq_false_iff_not, ne_eq, Decidable.not_not, Bool.not_eq_true', Bool.not_eq_false', Bool.and_eq_true, Bool.or_eq_true, Bool.not_not, Bool.and_eq_false_iff, Bool.or_eq_false_iff, Int.not_lt, Int.not_le] at hc19
        rw [if_pos hc19] at hS
        refine WE.reg ?_
        refine WL.mv rfl rfl ?_
        refine WL.mv rfl rfl ?_
        refine WL.mv rfl rfl ?_
        refine WL.pv (PV.idxS rfl (H.p 0 rfl : SlE s m _) TryzT.sl22 TryzT.sz34 rfl rfl (by omega) (by omega)) rfl ?_
        refine WL.loadR rfl TryzT.ag34 rfl rfl (SlE.rd (H.p 0 rfl) hkl k hlt) (by (rw [TryzT.sz34]; refine congrArg some ?_; (simp [kc_length, kw_length, *]; done))) ?_
        refine WL.buildSliceF (l0 := ((kc (List.replicate 32 0) ++ ([.slice none 0 0])))) H rfl TryzT.st22 (by decide) (by rfl) (Fl.cons rfl (by rfl) (by (simp only [kc_length, kw_length, List.length_replicate, List.length_append, List.length_cons, List.length_nil, cutI_length, shaOf_length, dig_length, valD_length]; omega)) (Laid.all (by (simp only [kc_length, kw_length, List.length_replicate, List.length_append, List.length_cons, List.length_nil, cutI_length, shaOf_length, dig_length, valD_length]; omega))) Fl.nil) rfl ?_
        intro b25 w3 H
        refine WL.append (m := 1) H 1 TryzT.st22 (by decide) rfl rfl rfl (SlC.of_blk (n := 1) (H.l 0 rfl) hE) (one_enC (hone _ (List.getElem_mem hlt))) (by omega) (by decide) rfl ?_
        intro v26 w4 H
        have hSl := congrArg List.length hS
        rw [List.length_append, show [m[k]].length = 1 from rfl] at hSl
        have hSf := congrArg (List.flatMap enC) hS
        rw [List.flatMap_append, List.flatMap_singleton] at hSf
        replace H := H.forget 0
        replace H := H.conv (L' := [Ent.osl w.heap.size v26 34 33 (rmM (m.take (k + 1)) q).length ((rmM (m.take (k + 1)) q).flatMap enC), Ent.blk b3 31 (kc q)]) (by rw [hSl, hSf]; rfl)
        refine WL.as rfl rfl ?_
        refine WL.nil ?_
        exact ⟨v26, (by repeat (first | with_reducible exact Off.refl _ _ | refine Off.upd rfl ?_)), ⟨rfl, trivial⟩, rfl, H⟩
      · skip
        try simp only [decide_eq_true_eq, decide_eq_false_iff_not, ne_eq, Decidable.not_not, Bool.not_eq_true', Bool.not_eq_false', Bool.and_eq_true, Bool.or_eq_true, Bool.not_not, Bool.and_eq_false_iff, Bool.or_eq_false_iff, Int.not_lt, Int.not_le] at hc19
        rw [if_neg (by simp [hc19]), List.append_nil] at hS
        refine WE.skip ?_
        exact ⟨v, (by repeat (first | with_reducible exact Off.refl _ _ | refine Off.upd rfl ?_)), ⟨rfl, trivial⟩, rfl, H.conv (by rw [hS])⟩
    · skip
      intro g1_ γ w5 hI
      try dsimp only at hI
      replace H := hI
      refine WE.reg ?_
      refine WL.mv rfl rfl ?_
      refine WL.pv (PV.add64 rfl rfl rfl (by omega) (by omega)) rfl ?_
      refine WL.as rfl rfl ?_
      refine WL.nil ?_
      exact ⟨(k + 1, g1_), (by repeat (first | with_reducible exact Off.refl _ _ | refine Off.upd rfl ?_ | refine Off.setAll rfl ?_ | refine Off.forget' rfl ?_)), ⟨rfl, rfl, trivial⟩, rfl, ⟨by dsimp only; omega, H⟩, (by dsimp only; omega)⟩
  · skip
    try simp only [decide_eq_true_eq, decide_eq_false_iff_not, ne_eq, Decidable.not_not, Bool.not_eq_true', Bool.not_eq_false', Bool.and_eq_true, Bool.or_eq_true, Bool.not_not, Bool.and_eq_false_iff, Bool.or_eq_false_iff, Int.not_lt, Int.not_le] at hc10
    have hke : m.take k = m := List.take_of_length_le (by omega)
    refine WE.exit ?_
    refine WE.seq_reg ?_
    refine WL.mv rfl rfl ?_
    refine WL.as rfl rfl ?_
    refine WL.nil ?_
    refine WE.ret ?_
    refine ⟨[_], _, .nil _, ⟨rfl, trivial⟩, ?_⟩
    replace H := H.freeze (i := 0) rfl
    exact ⟨H.toOut0, H.give ((H.rob 0 rfl).imp fun _ h => by rw [hke] at h; exact SlC.of_own h)⟩

theorem Few_c {X : Nat → Prop} {w : World} {s : Value} {m : List En} (hX : ∀ b, X b → b < w.heap.size) (hf0 : Rob X (SlE s m) w) (hf1 : Rob X (Vals m) w) (hkl : KL m) (hlen : m.length ≤ 9223372036854775807) (hvl : ∀ e ∈ m, e.v.length ≤ 9223372036854775807) :
    Ret Tryz.prog 29 [s].toArray w fun v w' => (v = .bool true ∨ v = .bool false) ∧ (v = .bool true → m.length ≤ 12 ∧ ∀ e ∈ m, e.v.length ≤ 200) ∧ Out Nil w w' := by
  refine Ret.of_body (N := 20) Tryz.func29 rfl rfl (by simp) ?_
  have H := St.begin hX
  replace H := H.add (rob0 hf1)
  replace H := H.add (rob0 hf0)
  refine WE.seq_reg ?_
  refine WL.as rfl rfl ?_
  refine WL.nil ?_
  refine WE.seq ?_
  refine WE.seq_reg ?_
  refine WL.mv rfl rfl ?_
  refine WL.pv (PV.lenS (H.p 0 rfl : SlE s m _) TryzT.sl22 rfl) rfl ?_
  refine WL.pv (PV.gtr rfl rfl rfl) rfl ?_
  refine WL.nil ?_
  refine WE.cond rfl (fun hc6 => ?_) (fun hc6 => ?_)
  · skip
    try simp only [decide_eq_true_eq, decide_eq_false_iff_not, ne_eq, Decidable.not_not, Bool.not_eq_true', Bool.not_eq_false', Bool.and_eq_true, Bool.or_eq_true, Bool.not_not, Bool.and_eq_false_iff, Bool.or_eq_false_iff, Int.not_lt, Int.not_le] at hc6
    refine WE.seq_reg ?_
    refine WL.as rfl rfl ?_
    refine WL.nil ?_
    refine WE.ret ?_
    refine ⟨[_], _, .nil _, ⟨rfl, trivial⟩, ?_⟩
    exact ⟨.inr rfl, (fun h => by cases h), H.toOut0⟩
  · skip
    try simp only [decide_eq_true_eq, decide_eq_false_iff_not, ne_eq, Decidable.not_not, Bool.not_eq_true', Bool.not_eq_false', Bool.and_eq_true, Bool.or_eq_true, Bool.not_not, Bool.and_eq_false_iff, Bool.or_eq_false_iff, Int.not_lt, Int.not_le] at hc6
    have h12 : m.length ≤ 12 := by omega
    refine WE.skip ?_
    refine WE.seq ?_
    refine WE.seq_reg ?_
    refine WL.as rfl rfl ?_
    refine WL.nil ?_
    refine WE.block ?_
    refine WE.loop (α := Nat) [2, 3, 7, 8, 9, 10, 11, 12, 13, 14, 15, 16, 17, 18, 19] (fun k => [(3, .int .i64 k)]) (fun k wl => k ≤ m.length ∧ (∀ e ∈ m.take k, e.v.length ≤ 200) ∧ St X w wl [] [] [SlE s m, Vals m]) (fun k => m.length - k) 0 ⟨rfl, trivial⟩ ⟨Nat.zero_le _, by simp, H⟩ ?_
    intro k γ0 w1 hI
    try dsimp only at hI
    obtain ⟨hk, hall, H⟩ := hI
    refine WE.seq ?_
    refine WE.seq_reg ?_
    refine WL.mv rfl rfl ?_
    refine WL.mv rfl rfl ?_
    refine WL.pv (PV.lenS (H.p 0 rfl : SlE s m _) TryzT.sl22 rfl) rfl ?_
    refine WL.pv (PV.lss rfl rfl rfl) rfl ?_
    refine WL.nil ?_
    refine WE.cond rfl (fun hc10 => ?_) (fun hc10 => ?_)
    · skip
      try simp only [decide_eq_true_eq, decide_eq_false_iff_not, ne_eq, Decidable.not_not, Bool.not_eq_true', Bool.not_eq_false', Bool.and_eq_true, Bool.or_eq_true, Bool.not_not, Bool.and_eq_false_iff, Bool.or_eq_false_iff, Int.not_lt, Int.not_le] at hc10
      have hlt : k < m.length := by omega
      have hvk := hvl _ (List.getElem_mem hlt)
      refine WE.skip ?_
      refine WE.seq ?_
      refine WE.block ?_
      refine WE.seq_reg ?_
      refine WL.mv rfl rfl ?_
      refine WL.mv rfl rfl ?_
      refine WL.pv (PV.idxS rfl (H.p 0 rfl : SlE s m _) TryzT.sl22 TryzT.sz34 rfl rfl (by omega) (by omega)) rfl ?_
      refine WL.pv (PV.fieldAddrA rfl TryzT.fd34_1 rfl) rfl ?_
      refine WL.load1 rfl TryzT.ag32 rfl rfl (SlE.rdv (H.p 0 rfl) hkl k hlt) ?_
      refine WL.pv (PV.lenS ((H.p 1 rfl : Vals m _) _ (List.getElem_mem hlt)) TryzT.sl32 rfl) rfl ?_
      refine WL.pv (PV.gtr rfl rfl rfl) rfl ?_
      refine WL.nil ?_
      refine WE.cond rfl (fun hc19 => ?_) (fun hc19 => ?_)
      · skip
        try simp only [decide_eq_true_eq, decide_eq_false_iff_not, ne_eq, Decidable.not_not, Bool.not_eq_true', Bool.not_eq_false', Bool.and_eq_true, Bool.or_eq_true, Bool.not_not, Bool.and_eq_false_iff, Bool.or_eq_false_iff, Int.not_lt, Int.not_le] at hc19
        refine WE.seq_reg ?_
        refine WL.as rfl rfl ?_
        refine WL.nil ?_
        refine WE.ret ?_
        refine ⟨[_], _, .nil _, ⟨rfl, trivial⟩, ?_⟩
        exact ⟨.inr rfl, (fun h => by cases h), H.toOut0⟩
      · skip
        try simp only [decide_eq_true_eq, decide_eq_false_iff_not, ne_eq, Decidable.not_not, Bool.not_eq_true', Bool.not_eq_false', Bool.and_eq_true, Bool.or_eq_true, Bool.not_not, Bool.and_eq_false_iff, Bool.or_eq_false_iff, Int.not_lt, Int.not_le] at hc19
        have hle : m[k].v.length ≤ 200 := by omega
        refine WE.skip ?_
        refine WE.reg ?_
        refine WL.mv rfl rfl ?_
        refine WL.pv (PV.add64 rfl rfl rfl (by omega) (by omega)) rfl ?_
        refine WL.as rfl rfl ?_
        refine WL.nil ?_
        exact ⟨k + 1, (by repeat (first | with_reducible exact Off.refl _ _ | refine Off.upd rfl ?_ | refine Off.setAll rfl ?_ | refine Off.forget' rfl ?_)), ⟨rfl, trivial⟩, rfl, ⟨by omega, (by rw [List.take_succ_eq_append_getElem hlt]; intro e he; rcases List.mem_append.1 he with h | h; exact hall e h; simp at h; subst h; exact hle), H⟩, (by omega)⟩
    · skip
      try simp only [decide_eq_true_eq, decide_eq_false_iff_not, ne_eq, Decidable.not_not, Bool.not_eq_true', Bool.not_eq_false', Bool.and_eq_true, Bool.or_eq_true, Bool.not_not, Bool.and_eq_false_iff, Bool.or_eq_false_iff, Int.not_lt, Int.not_le] at hc10
      have hkm : k = m.length := by omega
      refine WE.exit ?_
      refine WE.seq_reg ?_
      refine WL.as rfl rfl ?_
      refine WL.nil ?_
      refine WE.ret ?_
      refine ⟨[_], _, .nil _, ⟨rfl, trivial⟩, ?_⟩
      exact ⟨.inl rfl, fun _ => ⟨h12, by rw [List.take_of_length_le (by omega)] at hall; exact hall⟩, H.toOut0⟩

end Go.Sp.Tryz

set_option maxRecDepth 100000
set_option maxHeartbeats 1000000
set_option linter.unusedVariables false
set_option linter.unusedSimpArgs false
namespace Go.Sp.Tryz
open Go.Proofs Go.RowKit Go.Sp

def PF (e : En) (M : List En) (k : Nat) : List En × Bool := (M.take k).foldl (putF e) ([], false)
def PA (e : En) (M : List En) (k : Nat) : List En × Bool := if (PF e M k).2 = false ∧ num e.k < num (M.getD k e).k then ((PF e M k).1 ++ [e], true) else PF e M k
theorem getD_en {M : List En} {k : Nat} {e : En} (h : k < M.length) : M.getD k e = M[k] := by rw [List.getD_eq_getElem?_getD, List.getElem?_eq_getElem h]; rfl
theorem PF_snoc (e : En) (M : List En) (k : Nat) (h : k < M.length) : PF e M (k + 1) = ((PA e M k).1 ++ [M[k]], (PA e M k).2) := by
  unfold PF PA
  rw [List.take_succ_eq_append_getElem h, List.foldl_append, List.foldl_cons, List.foldl_nil, getD_en h]
  show putF e (PF e M k) _ = _
  unfold putF
  split <;> simp
theorem PF_len (e : En) (M : List En) (k : Nat) : (PF e M k).1.length ≤ k + 1 := by
  have h : ∀ (l out : List En) (b : Bool), (l.foldl (putF e) (out, b)).1.length ≤ out.length + l.length + (if b then 0 else 1) := by
    intro l
    induction l with
    | nil => intro out b; simp
    | cons x l ih =>
      intro out b
      rw [List.foldl_cons]
      by_cases hb : b = false ∧ num e.k < num x.k
      · have : putF e (out, b) x = (out ++ [e, x], true) := by simp [putF, hb]
        rw [this]
        have := ih (out ++ [e, x]) true
        simp [hb.1] at this ⊢; omega
      · have : putF e (out, b) x = (out ++ [x], b) := by unfold putF; rw [if_neg hb]
        rw [this]
        have := ih (out ++ [x]) b
        simp at this ⊢; omega
  have := h (M.take k) [] false
  simp at this
  unfold PF
  omega
theorem PA_len (e : En) (M : List En) (k : Nat) : (PA e M k).1.length ≤ k + 2 := by
  have := PF_len e M k
  unfold PA; split <;> simp <;> omega
theorem PF_end (e : En) (M : List En) : putM M e = (if (PF e (rmM M e.k) (rmM M e.k).length).2 = true then (PF e (rmM M e.k) (rmM M e.k).length).1 else (PF e (rmM M e.k) (rmM M e.k).length).1 ++ [e]) := by
  have := putF_ins e (rmM M e.k) []
  unfold putM PF
  rw [List.take_length, List.nil_append] at *
  rw [← this]
  cases ((rmM M e.k).foldl (putF e) ([], false)).2 <;> rfl
theorem rmM_kl {m : List En} {k : List UInt8} (h : KL m) : KL (rmM m k) := fun e he => h e (mem_rmM.1 he).1
theorem rmM_one {m : List En} {k : List UInt8} (h : OneS m) : OneS (rmM m k) := fun e he => h e (mem_rmM.1 he).1
theorem rmM_len (m : List En) (k : List UInt8) : (rmM m k).length ≤ m.length := List.length_filter_le _ _

theorem Put_c {X : Nat → Prop} {w : World} {s vs : Value} {m : List En} {q vv : List UInt8} (hX : ∀ b, X b → b < w.heap.size) (hf0 : Rob X (SlE s m) w) (hf1 : Rob X (SlB vs vv) w) (hkl : KL m) (hone : OneS m) (hlen : m.length ≤ 1000000) (hq : q.length = 32) :
    Ret Tryz.prog 42 [s, .agg (kc q).toArray, vs].toArray w fun v w' => Out Nil w w' ∧ Rob X (SlE v (putM m (En.mk q vs vv))) w' := by
  refine Ret.of_body (N := 54) Tryz.func42 rfl rfl (by simp) ?_
  have H := St.begin hX
  replace H := H.add (rob0 hf1)
  replace H := H.add (rob0 hf0)
  refine WE.seq_reg ?_
  refine WL.box (l := kc q) H rfl (by rfl) rfl ?_
  intro b4 w1 H
  refine WL.as rfl rfl ?_
  refine WL.nil ?_
  refine WE.seq_reg ?_
  refine WL.as rfl rfl ?_
  refine WL.nil ?_
  refine WE.seq_reg ?_
  refine WL.as rfl rfl ?_
  refine WL.nil ?_
  refine WE.seq_reg ?_
  refine WL.mv rfl rfl ?_
  refine WL.loadR rfl TryzT.ag31 rfl rfl (by exact Blk.segAt (H.l 0 rfl) (Seg.all _) (by rfl)) (by (rw [TryzT.sz31]; refine congrArg some ?_; (simp only [kc_length, kw_length, List.length_replicate, List.length_append, List.length_cons, List.length_nil, cutI_length, shaOf_length, dig_length, valD_length]; omega))) ?_
  refine WL.call TryzT.fb41 rfl (Remove_c  H.yylt (by exact H.rob 0 rfl) (by assumption) (by assumption) (by assumption) (by assumption)) ?_
  rintro v13 w2 ⟨hO, hR⟩
  replace H := (H.out hO).add hR
  refine WL.as rfl rfl ?_
  refine WL.nil ?_
  refine WE.seq ?_
  refine WE.seq_reg ?_
  refine WL.as rfl rfl ?_
  refine WL.nil ?_
  refine WE.block ?_
  have hklM := rmM_kl (k := q) hkl
  have honeM := rmM_one (k := q) hone
  have hlM := rmM_len m q
  have hvs : vs.oneCell' = true := SlC.one1 (H.p 2 rfl : SlB vs vv _)
  replace H := H.nilOsl 34 33
  refine WE.loop (α := Nat × Value) [7, 8, 10, 14, 15, 16, 17, 18, 19, 20, 21, 22, 23, 24, 25, 26, 27, 28, 29, 30, 31, 32, 33, 34, 35, 36, 37, 38, 39, 40, 41, 42, 43, 44] (fun p => [(10, .int .i64 p.1), (7, p.2), (8, .bool (PF (En.mk q vs vv) (rmM m q) p.1).2)]) (fun p wl => p.1 ≤ (rmM m q).length ∧ St X w wl [] [Ent.osl w.heap.size p.2 34 33 ((PF (En.mk q vs vv) (rmM m q) p.1).1).length (((PF (En.mk q vs vv) (rmM m q) p.1).1).flatMap enC), Ent.blk b4 31 (kc q)] [SlE v13 (rmM m q), SlE s m, SlB vs vv]) (fun p => (rmM m q).length - p.1) (0, .slice none 0 0) ⟨rfl, rfl, rfl, trivial⟩ ⟨Nat.zero_le _, H⟩ ?_
  intro ⟨k, v⟩ γ0 w3 hI
  try dsimp only at hI
  obtain ⟨hk, H⟩ := hI
  refine WE.seq ?_
  refine WE.seq_reg ?_
  refine WL.mv rfl rfl ?_
  refine WL.mv rfl rfl ?_
  refine WL.pv (PV.lenS (H.p 0 rfl : SlE _ (rmM m q) _) TryzT.sl22 rfl) rfl ?_
  refine WL.pv (PV.lss rfl rfl rfl) rfl ?_
  refine WL.nil ?_
  refine WE.cond rfl (fun hc17 => ?_) (fun hc17 => ?_)
  · skip
    try simp only [decide_eq_true_eq, decide_eq_false_iff_not, ne_eq, Decidable.not_not, Bool.not_eq_true', Bool.not_eq_false', Bool.and_eq_true, Bool.or_eq_true, Bool.not_not, Bool.and_eq_false_iff, Bool.or_eq_false_iff, Int.not_lt, Int.not_le] at hc17
    have hlt : k < (rmM m q).length := by omega
    have hE : (enC (rmM m q)[k]).length = 1 * 33 := enC_length (hklM _ (List.getElem_mem hlt))
    have hE2 : (enC (rmM m q)[k]).length = 33 := hE
    have hkk := hklM _ (List.getElem_mem hlt)
    have hpl := PF_len (En.mk q vs vv) (rmM m q) k
    have hpl2 := PA_len (En.mk q vs vv) (rmM m q) k
    have hq1 : (enC (En.mk q vs vv)).length = 1 * 33 := enC_length hq
    have hq2 : (enC (En.mk q vs vv)).length = 33 := hq1
    refine WE.skip ?_
    refine WE.seq ?_
    refine WE.block ?_
    refine WE.cut (α := Value × Bool) [7, 8, 20, 21, 22, 23, 24, 25, 26, 27, 28, 29, 30, 31, 32, 33, 34, 35, 36, 37] (fun g1_ => [(7, g1_.1), (8, .bool g1_.2)]) (fun g1_ wl => g1_.2 = (PA (En.mk q vs vv) (rmM m q) k).2 ∧ St X w wl [] [Ent.osl w.heap.size g1_.1 34 33 ((PA (En.mk q vs vv) (rmM m q) k).1).length (((PA (En.mk q vs vv) (rmM m q) k).1).flatMap enC), Ent.blk b4 31 (kc q)] [SlE v13 (rmM m q), SlE s m, SlB vs vv]) ?_ ?_
    · skip
      refine WE.seq_draw (.take 0 (.take 1 (.take 2 (.take 3 (.take 4 (.take 5 (.take 6 (.take 7 (.take 8 (.pick1 9 (.take 10 (.take 11 .done)))))))))))) TryzT.mixed (by kernel_rfl) ?_
      replace H := H.out (Out.drew _)
      refine WP.mv rfl rfl rfl ?_
      refine WP.take_pure rfl rfl (PV.not rfl rfl) ?_
      refine WP.mv rfl rfl rfl ?_
      refine WP.split (t := 22) rfl (fun hg22 => ?_) (fun hg22 => ?_)
      · skip
        refine WP.known (t := 21) (c := true) rfl hg22 ?_
        try simp only [decide_eq_true_eq, decide_eq_false_iff_not, ne_eq, Decidable.not_not, Bool.not_eq_true', Bool.not_eq_false', Bool.and_eq_true, Bool.or_eq_true, Bool.not_not, Bool.and_eq_false_iff, Bool.or_eq_false_iff, Int.not_lt, Int.not_le] at hg22
        refine WP.readA rfl rfl rfl TryzT.ag31 rfl (by exact Blk.segAt (H.l 1 rfl) (Seg.all _) (by rfl)) (by (rw [TryzT.sz31]; refine congrArg some ?_; (simp only [kc_length, kw_length, List.length_replicate, List.length_append, List.length_cons, List.length_nil, cutI_length, shaOf_length, dig_length, valD_length]; omega))) ?_
        refine WP.mv rfl rfl rfl ?_
        refine WP.mv rfl rfl rfl ?_
        refine WP.take_pure rfl rfl (PV.idxS rfl (by exact H.p 0 rfl : SlE _ (rmM m q) _) TryzT.sl22 TryzT.sz34 rfl rfl (by omega) (by omega)) ?_
        refine WP.take_pure rfl rfl (PV.fieldAddrA rfl TryzT.fd34_0 rfl) ?_
        refine WP.readA rfl rfl rfl TryzT.ag31 rfl (SlE.rdk (H.p 0 rfl) hklM k hlt) (by (rw [TryzT.sz31]; refine congrArg some ?_; (simp only [kc_length, kw_length, List.length_replicate, List.length_append, List.length_cons, List.length_nil, cutI_length, shaOf_length, dig_length, valD_length]; omega))) ?_
        refine WP.pick1 rfl ?_
        refine WL.call TryzT.fb60 rfl (refCompare_c  H.yylt  (by assumption) (by assumption)) ?_
        rintro _ w4 ⟨rfl, hO⟩
        replace H := H.out hO
        refine WL.nil ⟨(List.forall_mem_cons.2 ⟨(by exact (fun h => absurd (show waits _ 9 8 = false from h) (by decide +kernel))), (List.forall_mem_cons.2 ⟨(by exact (fun h => absurd (show waits _ 9 3 = false from h) (by decide +kernel))), (fun _ h => by cases h)⟩)⟩), ?_⟩
        refine WP.take_pure rfl rfl (PV.lss rfl rfl rfl) ?_
        refine WP.take_pure rfl rfl (PV.pick_t rfl rfl rfl) ?_
        refine WP.done ?_
        refine WE.cond rfl (fun hc31 => ?_) (fun hc31 => ?_)
        · skip
          try simp only [decide_eq_true_eq, decide_eq_false_iff_not, ne_eq, Decidable.not_not, Bool.not_eq_true', Bool.not_eq_false', Bool.and_eq_true, Bool.or_eq_true, Bool.not_not, Bool.and_eq_false_iff, Bool.or_eq_false_iff, Int.not_lt, Int.not_le] at hc31
          have hif : (PF (En.mk q vs vv) (rmM m q) k).2 = false ∧ num q < num (rmM m q)[k].k := by exact ⟨by simpa using hg22, cmpI_neg.1 (by simpa using hc31)⟩
          have hPA : (PA (En.mk q vs vv) (rmM m q) k) = ((PF (En.mk q vs vv) (rmM m q) k).1 ++ [(En.mk q vs vv)], true) := by rw [PA, if_pos (by rw [getD_en hlt]; exact hif)]
          have hS : (PA (En.mk q vs vv) (rmM m q) k).1 = (PF (En.mk q vs vv) (rmM m q) k).1 ++ [(En.mk q vs vv)] := by rw [hPA]
          refine WE.seq_reg ?_
          refine WL.mv rfl rfl ?_
          refine WL.loadR rfl TryzT.ag31 rfl rfl (by exact Blk.segAt (H.l 1 rfl) (Seg.all _) (by rfl)) (by (rw [TryzT.sz31]; refine congrArg some ?_; (simp only [kc_length, kw_length, List.length_replicate, List.length_append, List.length_cons, List.length_nil, cutI_length, shaOf_length, dig_length, valD_length]; omega))) ?_
          refine WL.mv rfl rfl ?_
          refine WL.pv (PV.buildS rfl TryzT.pl34 TryzT.ze34 (Fl.cons rfl (by rfl) (by (simp only [kc_length, kw_length, List.length_replicate, List.length_append, List.length_cons, List.length_nil, cutI_length, shaOf_length, dig_length, valD_length]; omega)) (Laid.left (Laid.all (by (simp only [kc_length, kw_length, List.length_replicate, List.length_append, List.length_cons, List.length_nil, cutI_length, shaOf_length, dig_length, valD_length]; omega)))) (Fl.cons rfl (SlC.cells (H.p 2 rfl : SlB vs vv _)) (by (simp only [kc_length, kw_length, List.length_replicate, List.length_append, List.length_cons, List.length_nil, cutI_length, shaOf_length, dig_length, valD_length]; done)) (Laid.right (Laid.all (by (simp only [kc_length, kw_length, List.length_replicate, List.length_append, List.length_cons, List.length_nil, cutI_length, shaOf_length, dig_length, valD_length]; done))) (by (simp only [kc_length, kw_length, List.length_replicate, List.length_append, List.length_cons, List.length_nil, cutI_length, shaOf_length, dig_length, valD_length]; omega))) Fl.nil))) rfl ?_
          refine WL.buildSliceF (l0 := ((kc (List.replicate 32 0) ++ ([.slice none 0 0])))) H rfl TryzT.st22 (by decide) (by rfl) (Fl.cons rfl (by rfl) (by (simp only [kc_length, kw_length, List.length_replicate, List.length_append, List.length_cons, List.length_nil, cutI_length, shaOf_length, dig_length, valD_length]; omega)) (Laid.all (by (simp only [kc_length, kw_length, List.length_replicate, List.length_append, List.length_cons, List.length_nil, cutI_length, shaOf_length, dig_length, valD_length]; omega))) Fl.nil) rfl ?_
          intro b36 w5 H
          refine WL.append (m := 1) H 1 TryzT.st22 (by decide) rfl rfl rfl (SlC.of_blk (n := 1) (H.l 0 rfl) hq1) (one_enC (e := (En.mk q vs vv)) hvs) (by omega) (by decide) rfl ?_
          intro v37 w6 H
          have hSl := congrArg List.length hS
          rw [List.length_append, show [(En.mk q vs vv)].length = 1 from rfl] at hSl
          have hSf := congrArg (List.flatMap enC) hS
          rw [List.flatMap_append, List.flatMap_singleton] at hSf
          replace H := H.forget 0
          replace H := H.conv (L' := [Ent.osl w.heap.size v37 34 33 ((PA (En.mk q vs vv) (rmM m q) k).1).length (((PA (En.mk q vs vv) (rmM m q) k).1).flatMap enC), Ent.blk b4 31 (kc q)]) (by rw [hSl, hSf]; rfl)
          refine WL.as rfl rfl ?_
          refine WL.nil ?_
          refine WE.reg ?_
          refine WL.as rfl rfl ?_
          refine WL.nil ?_
          exact ⟨(v37, true), (by repeat (first | with_reducible exact Off.refl _ _ | refine Off.upd rfl ?_)), ⟨rfl, rfl, trivial⟩, rfl, ⟨by rw [hPA], H⟩⟩
        · skip
          try simp only [decide_eq_true_eq, decide_eq_false_iff_not, ne_eq, Decidable.not_not, Bool.not_eq_true', Bool.not_eq_false', Bool.and_eq_true, Bool.or_eq_true, Bool.not_not, Bool.and_eq_false_iff, Bool.or_eq_false_iff, Int.not_lt, Int.not_le] at hc31
          have hPA : (PA (En.mk q vs vv) (rmM m q) k) = PF (En.mk q vs vv) (rmM m q) k := by rw [PA, if_neg (by rw [getD_en hlt]; rintro ⟨h1, h2⟩; (have h3 := cmpI_neg.2 (show num q < num (rmM m q)[k].k from h2); omega))]
          refine WE.skip ?_
          exact ⟨(v, (PF (En.mk q vs vv) (rmM m q) k).2), (by repeat (first | with_reducible exact Off.refl _ _ | refine Off.upd rfl ?_)), ⟨rfl, rfl, trivial⟩, rfl, ⟨by rw [hPA], H.conv (by rw [hPA])⟩⟩
      · skip
        refine WP.known (t := 21) (c := false) rfl hg22 ?_
        try simp only [decide_eq_true_eq, decide_eq_false_iff_not, ne_eq, Decidable.not_not, Bool.not_eq_true', Bool.not_eq_false', Bool.and_eq_true, Bool.or_eq_true, Bool.not_not, Bool.and_eq_false_iff, Bool.or_eq_false_iff, Int.not_lt, Int.not_le] at hg22
        have hPA : (PA (En.mk q vs vv) (rmM m q) k) = PF (En.mk q vs vv) (rmM m q) k := by rw [PA, if_neg (by rw [hg22]; rintro ⟨h1, _⟩; cases h1)]
        refine WP.take_off rfl rfl ?_
        refine WP.take_off rfl rfl ?_
        refine WP.take_off rfl rfl ?_
        refine WP.take_off rfl rfl ?_
        refine WP.take_off rfl rfl ?_
        refine WP.take_off rfl rfl ?_
        refine WP.pick1 rfl ?_
        refine WL.off rfl ?_
        refine WL.nil ⟨(fun _ h => by cases h), ?_⟩
        refine WP.take_off rfl rfl ?_
        refine WP.take_pure rfl rfl (PV.pick_f rfl rfl rfl) ?_
        refine WP.done ?_
        refine WE.cond_f rfl ?_
        refine WE.skip ?_
        exact ⟨(v, (PF (En.mk q vs vv) (rmM m q) k).2), (by repeat (first | with_reducible exact Off.refl _ _ | refine Off.upd rfl ?_)), ⟨rfl, rfl, trivial⟩, rfl, ⟨by rw [hPA], H.conv (by rw [hPA])⟩⟩
    · skip
      intro ⟨g1v, g1b⟩ γ w7 hI
      try dsimp only at hI
      obtain ⟨hg12, H⟩ := hI
      have hPS := congrArg Prod.snd (PF_snoc (En.mk q vs vv) (rmM m q) k hlt)
      dsimp only at hPS
      rw [← hPS] at hg12
      subst hg12
      refine WE.reg ?_
      refine WL.mv rfl rfl ?_
      refine WL.mv rfl rfl ?_
      refine WL.mv rfl rfl ?_
      refine WL.pv (PV.idxS rfl (by exact H.p 0 rfl : SlE _ (rmM m q) _) TryzT.sl22 TryzT.sz34 rfl rfl (by omega) (by omega)) rfl ?_
      refine WL.loadR rfl TryzT.ag34 rfl rfl (SlE.rd (H.p 0 rfl) hklM k hlt) (by (rw [TryzT.sz34]; refine congrArg some ?_; (simp [kc_length, kw_length, *]; done))) ?_
      refine WL.buildSliceF (l0 := ((kc (List.replicate 32 0) ++ ([.slice none 0 0])))) H rfl TryzT.st22 (by decide) (by rfl) (Fl.cons rfl (by rfl) (by (simp only [kc_length, kw_length, List.length_replicate, List.length_append, List.length_cons, List.length_nil, cutI_length, shaOf_length, dig_length, valD_length]; omega)) (Laid.all (by (simp only [kc_length, kw_length, List.length_replicate, List.length_append, List.length_cons, List.length_nil, cutI_length, shaOf_length, dig_length, valD_length]; omega))) Fl.nil) rfl ?_
      intro b43 w8 H
      have hS := congrArg Prod.fst (PF_snoc (En.mk q vs vv) (rmM m q) k hlt)
      dsimp only at hS
      refine WL.append (m := 1) H 1 TryzT.st22 (by decide) rfl rfl rfl (SlC.of_blk (n := 1) (H.l 0 rfl) hE) (one_enC (honeM _ (List.getElem_mem hlt))) (by omega) (by decide) rfl ?_
      intro v44 w9 H
      have hSl := congrArg List.length hS
      rw [List.length_append, show [(rmM m q)[k]].length = 1 from rfl] at hSl
      have hSf := congrArg (List.flatMap enC) hS
      rw [List.flatMap_append, List.flatMap_singleton] at hSf
      replace H := H.forget 0
      replace H := H.conv (L' := [Ent.osl w.heap.size v44 34 33 ((PF (En.mk q vs vv) (rmM m q) (k + 1)).1).length (((PF (En.mk q vs vv) (rmM m q) (k + 1)).1).flatMap enC), Ent.blk b4 31 (kc q)]) (by rw [hSl, hSf]; rfl)
      refine WL.as rfl rfl ?_
      refine WL.nil ?_
      refine WE.reg ?_
      refine WL.mv rfl rfl ?_
      refine WL.pv (PV.add64 rfl rfl rfl (by omega) (by omega)) rfl ?_
      refine WL.as rfl rfl ?_
      refine WL.nil ?_
      exact ⟨(k + 1, v44), (by repeat (first | with_reducible exact Off.refl _ _ | refine Off.upd rfl ?_ | refine Off.setAll rfl ?_ | refine Off.forget' rfl ?_)), ⟨rfl, rfl, rfl, trivial⟩, rfl, ⟨by dsimp only; omega, H⟩, (by dsimp only; omega)⟩
  · skip
    try simp only [decide_eq_true_eq, decide_eq_false_iff_not, ne_eq, Decidable.not_not, Bool.not_eq_true', Bool.not_eq_false', Bool.and_eq_true, Bool.or_eq_true, Bool.not_not, Bool.and_eq_false_iff, Bool.or_eq_false_iff, Int.not_lt, Int.not_le] at hc17
    have hke : k = (rmM m q).length := by omega
    have hpl := PF_len (En.mk q vs vv) (rmM m q) k
    have hq1 : (enC (En.mk q vs vv)).length = 1 * 33 := enC_length hq
    have hq2 : (enC (En.mk q vs vv)).length = 33 := hq1
    have hpe := PF_end (En.mk q vs vv) m
    refine WE.exit ?_
    refine WE.seq ?_
    refine WE.seq_reg ?_
    refine WL.mv rfl rfl ?_
    refine WL.pv (PV.not rfl rfl) rfl ?_
    refine WL.nil ?_
    refine WE.cond rfl (fun hc46 => ?_) (fun hc46 => ?_)
    · skip
      try simp only [decide_eq_true_eq, decide_eq_false_iff_not, ne_eq, Decidable.not_not, Bool.not_eq_true', Bool.not_eq_false', Bool.and_eq_true, Bool.or_eq_true, Bool.not_not, Bool.and_eq_false_iff, Bool.or_eq_false_iff, Int.not_lt, Int.not_le] at hc46
      have hS : putM m (En.mk q vs vv) = (PF (En.mk q vs vv) (rmM m q) k).1 ++ [(En.mk q vs vv)] := by rw [hpe, if_neg (by rw [← hke]; simpa using hc46), hke]
      refine WE.reg ?_
      refine WL.mv rfl rfl ?_
      refine WL.loadR rfl TryzT.ag31 rfl rfl (by exact Blk.segAt (H.l 1 rfl) (Seg.all _) (by rfl)) (by (rw [TryzT.sz31]; refine congrArg some ?_; (simp only [kc_length, kw_length, List.length_replicate, List.length_append, List.length_cons, List.length_nil, cutI_length, shaOf_length, dig_length, valD_length]; omega))) ?_
      refine WL.mv rfl rfl ?_
      refine WL.pv (PV.buildS rfl TryzT.pl34 TryzT.ze34 (Fl.cons rfl (by rfl) (by (simp only [kc_length, kw_length, List.length_replicate, List.length_append, List.length_cons, List.length_nil, cutI_length, shaOf_length, dig_length, valD_length]; omega)) (Laid.left (Laid.all (by (simp only [kc_length, kw_length, List.length_replicate, List.length_append, List.length_cons, List.length_nil, cutI_length, shaOf_length, dig_length, valD_length]; omega)))) (Fl.cons rfl (SlC.cells (H.p 2 rfl : SlB vs vv _)) (by (simp only [kc_length, kw_length, List.length_replicate, List.length_append, List.length_cons, List.length_nil, cutI_length, shaOf_length, dig_length, valD_length]; done)) (Laid.right (Laid.all (by (simp only [kc_length, kw_length, List.length_replicate, List.length_append, List.length_cons, List.length_nil, cutI_length, shaOf_length, dig_length, valD_length]; done))) (by (simp only [kc_length, kw_length, List.length_replicate, List.length_append, List.length_cons, List.length_nil, cutI_length, shaOf_length, dig_length, valD_length]; omega))) Fl.nil))) rfl ?_
      refine WL.buildSliceF (l0 := ((kc (List.replicate 32 0) ++ ([.slice none 0 0])))) H rfl TryzT.st22 (by decide) (by rfl) (Fl.cons rfl (by rfl) (by (simp only [kc_length, kw_length, List.length_replicate, List.length_append, List.length_cons, List.length_nil, cutI_length, shaOf_length, dig_length, valD_length]; omega)) (Laid.all (by (simp only [kc_length, kw_length, List.length_replicate, List.length_append, List.length_cons, List.length_nil, cutI_length, shaOf_length, dig_length, valD_length]; omega))) Fl.nil) rfl ?_
      intro b51 w10 H
      refine WL.append (m := 1) H 1 TryzT.st22 (by decide) rfl rfl rfl (SlC.of_blk (n := 1) (H.l 0 rfl) hq1) (one_enC (e := (En.mk q vs vv)) hvs) (by omega) (by decide) rfl ?_
      intro v52 w11 H
      have hSl := congrArg List.length hS
      rw [List.length_append, show [(En.mk q vs vv)].length = 1 from rfl] at hSl
      have hSf := congrArg (List.flatMap enC) hS
      rw [List.flatMap_append, List.flatMap_singleton] at hSf
      replace H := H.forget 0
      replace H := H.conv (L' := [Ent.osl w.heap.size v52 34 33 (putM m (En.mk q vs vv)).length ((putM m (En.mk q vs vv)).flatMap enC), Ent.blk b4 31 (kc q)]) (by rw [hSl, hSf]; rfl)
      refine WL.as rfl rfl ?_
      refine WL.nil ?_
      refine WE.seq_reg ?_
      refine WL.mv rfl rfl ?_
      refine WL.as rfl rfl ?_
      refine WL.nil ?_
      refine WE.ret ?_
      refine ⟨[_], _, .nil _, ⟨rfl, trivial⟩, ?_⟩
      skip
      replace H := H.freeze (i := 0) rfl
      exact ⟨H.toOut0, H.give ((H.rob 0 rfl).imp fun _ h => SlC.of_own h)⟩
    · skip
      try simp only [decide_eq_true_eq, decide_eq_false_iff_not, ne_eq, Decidable.not_not, Bool.not_eq_true', Bool.not_eq_false', Bool.and_eq_true, Bool.or_eq_true, Bool.not_not, Bool.and_eq_false_iff, Bool.or_eq_false_iff, Int.not_lt, Int.not_le] at hc46
      have hS2 : putM m (En.mk q vs vv) = (PF (En.mk q vs vv) (rmM m q) k).1 := by rw [hpe, if_pos (by rw [← hke]; simpa using hc46), hke]
      refine WE.skip ?_
      refine WE.seq_reg ?_
      refine WL.mv rfl rfl ?_
      refine WL.as rfl rfl ?_
      refine WL.nil ?_
      refine WE.ret ?_
      refine ⟨[_], _, .nil _, ⟨rfl, trivial⟩, ?_⟩
      rw [← hS2] at H
      replace H := H.freeze (i := 0) rfl
      exact ⟨H.toOut0, H.give ((H.rob 0 rfl).imp fun _ h => SlC.of_own h)⟩

theorem Of_c {X : Nat → Prop} {w : World} {s : Value} {l : List En} (hX : ∀ b, X b → b < w.heap.size) (hf0 : Rob X (SlE s l) w) (hf1 : Rob X (Vals l) w) (hkl : KL l) (hlen : l.length ≤ 1000000) :
    Ret Tryz.prog 30 [s].toArray w fun v w' => Out Nil w w' ∧ Rob X (SlE v (ofM l)) w' := by
  refine Ret.of_body (N := 24) Tryz.func30 rfl rfl (by simp) ?_
  have H := St.begin hX
  replace H := H.add (rob0 hf1)
  replace H := H.add (rob0 hf0)
  refine WE.seq_reg ?_
  refine WL.as rfl rfl ?_
  refine WL.nil ?_
  refine WE.seq_reg ?_
  refine WL.as rfl rfl ?_
  refine WL.nil ?_
  refine WE.seq ?_
  refine WE.seq_reg ?_
  refine WL.as rfl rfl ?_
  refine WL.nil ?_
  refine WE.block ?_
  replace H := H.add (p := SlE (.slice none 0 0) (ofM (l.take 0))) (fun w_ _ => SlC.nil w_ 33)
  refine WE.loop (α := Nat × Value) [3, 4, 5, 6, 7, 8, 9, 10, 11, 12, 13, 14, 15, 16, 17, 18, 19, 20, 21, 22] (fun p => [(4, .int .i64 p.1), (3, p.2)]) (fun p wl => p.1 ≤ l.length ∧ St X w wl [] [] [SlE p.2 (ofM (l.take p.1)), SlE s l, Vals l]) (fun p => l.length - p.1) (0, .slice none 0 0) ⟨rfl, rfl, trivial⟩ ⟨Nat.zero_le _, H⟩ ?_
  intro ⟨k, v⟩ γ0 w1 hI
  try dsimp only at hI
  obtain ⟨hk, H⟩ := hI
  refine WE.seq ?_
  refine WE.seq_reg ?_
  refine WL.mv rfl rfl ?_
  refine WL.mv rfl rfl ?_
  refine WL.pv (PV.lenS (H.p 1 rfl : SlE s l _) TryzT.sl22 rfl) rfl ?_
  refine WL.pv (PV.lss rfl rfl rfl) rfl ?_
  refine WL.nil ?_
  refine WE.cond rfl (fun hc8 => ?_) (fun hc8 => ?_)
  · skip
    try simp only [decide_eq_true_eq, decide_eq_false_iff_not, ne_eq, Decidable.not_not, Bool.not_eq_true', Bool.not_eq_false', Bool.and_eq_true, Bool.or_eq_true, Bool.not_not, Bool.and_eq_false_iff, Bool.or_eq_false_iff, Int.not_lt, Int.not_le] at hc8
    have hlt : k < l.length := by omega
    have hkk := hkl _ (List.getElem_mem hlt)
    have hok := ofM_ok (l.take k) (fun e he => hkl e (List.mem_of_mem_take he))
    have hko : (ofM (l.take k)).length ≤ k := Nat.le_trans hok.2.2.1 (by simp; omega)
    have hone : OneS (ofM (l.take k)) := fun e he => SlC.one1 ((H.p 2 rfl : Vals l _) e (List.mem_of_mem_take (hok.2.2.2 e he)))
    have hS : ofM (l.take (k + 1)) = putM (ofM (l.take k)) l[k] := by rw [List.take_succ_eq_append_getElem hlt, ofM_snoc]
    refine WE.skip ?_
    refine WE.seq ?_
    refine WE.block ?_
    refine WE.draw (.take 0 (.take 1 (.take 2 (.take 3 (.take 4 (.take 5 (.take 6 (.take 7 (.take 8 (.take 9 (.take 10 (.pick1 11 (.take 12 .done))))))))))))) TryzT.mixed (by kernel_rfl) ?_
    replace H := H.out (Out.drew _)
    refine WP.mv rfl rfl rfl ?_
    refine WP.mv rfl rfl rfl ?_
    refine WP.mv rfl rfl rfl ?_
    refine WP.take_pure rfl rfl (PV.idxS rfl (H.p 1 rfl : SlE s l _) TryzT.sl22 TryzT.sz34 rfl rfl (by omega) (by omega)) ?_
    refine WP.take_pure rfl rfl (PV.fieldAddrA rfl TryzT.fd34_0 rfl) ?_
    refine WP.readA rfl rfl rfl TryzT.ag31 rfl (SlE.rdk (H.p 1 rfl) hkl k hlt) (by (rw [TryzT.sz31]; refine congrArg some ?_; (simp only [kc_length, kw_length, List.length_replicate, List.length_append, List.length_cons, List.length_nil, cutI_length, shaOf_length, dig_length, valD_length]; omega))) ?_
    refine WP.mv rfl rfl rfl ?_
    refine WP.mv rfl rfl rfl ?_
    refine WP.take_pure rfl rfl (PV.idxS rfl (H.p 1 rfl : SlE s l _) TryzT.sl22 TryzT.sz34 rfl rfl (by omega) (by omega)) ?_
    refine WP.take_pure rfl rfl (PV.fieldAddrA rfl TryzT.fd34_1 rfl) ?_
    refine WP.take_read rfl rfl (RV.loadOne rfl TryzT.ag32 rfl) (SlE.rdv (H.p 1 rfl) hkl k hlt) ?_
    refine WP.pick1 rfl ?_
    refine WL.call TryzT.fb42 rfl (Put_c (m := ofM (l.take k)) (q := l[k].k) (vv := l[k].v) H.yylt (H.rob 0 rfl) ((H.rob 2 rfl).imp fun _ h => h _ (List.getElem_mem hlt)) hok.2.1 hone (by omega) (hkl _ (List.getElem_mem hlt))) ?_
    rintro v22 w2 ⟨hO, hR⟩
    replace H := (H.out hO).add hR
    refine WL.nil ⟨(List.forall_mem_cons.2 ⟨(by exact (fun h => absurd (show waits _ 11 10 = false from h) (by decide +kernel))), (List.forall_mem_cons.2 ⟨(by exact (fun h => absurd (show waits _ 11 5 = false from h) (by decide +kernel))), (fun _ h => by cases h)⟩)⟩), ?_⟩
    refine WP.as rfl rfl rfl ?_
    refine WP.done ?_
    refine WE.reg ?_
    refine WL.mv rfl rfl ?_
    refine WL.pv (PV.add64 rfl rfl rfl (by omega) (by omega)) rfl ?_
    refine WL.as rfl rfl ?_
    refine WL.nil ?_
    exact ⟨(k + 1, v22), (by repeat (first | with_reducible exact Off.refl _ _ | refine Off.upd rfl ?_ | refine Off.setAll rfl ?_ | refine Off.forget' rfl ?_)), ⟨rfl, rfl, trivial⟩, rfl, ⟨by dsimp only; omega, by dsimp only; rw [hS]; exact H.sel [0, 2, 3]⟩, (by dsimp only; omega)⟩
  · skip
    try simp only [decide_eq_true_eq, decide_eq_false_iff_not, ne_eq, Decidable.not_not, Bool.not_eq_true', Bool.not_eq_false', Bool.and_eq_true, Bool.or_eq_true, Bool.not_not, Bool.and_eq_false_iff, Bool.or_eq_false_iff, Int.not_lt, Int.not_le] at hc8
    have hke : l.take k = l := List.take_of_length_le (by omega)
    refine WE.exit ?_
    refine WE.seq_reg ?_
    refine WL.mv rfl rfl ?_
    refine WL.as rfl rfl ?_
    refine WL.nil ?_
    refine WE.ret ?_
    refine ⟨[_], _, .nil _, ⟨rfl, trivial⟩, ?_⟩
    exact ⟨H.toOut0, H.give ((H.rob 0 rfl).imp fun _ h => by rw [hke] at h; exact h)⟩

end Go.Sp.Tryz

set_option maxRecDepth 100000
set_option maxHeartbeats 1000000
set_option linter.unusedVariables false
set_option linter.unusedSimpArgs false
namespace Go.Sp.Tryz
open Go.Proofs Go.RowKit Go.Sp

end Go.Sp.Tryz

set_option maxRecDepth 100000
set_option maxHeartbeats 1000000
set_option linter.unusedVariables false
set_option linter.unusedSimpArgs false
namespace Go.Sp.Tryz
open Go.Proofs Go.RowKit Go.Sp
end Go.Sp.Tryz

set_option maxRecDepth 100000
set_option maxHeartbeats 1000000
set_option linter.unusedVariables false
set_option linter.unusedSimpArgs false
namespace Go.Sp.Tryz
open Go.Proofs Go.RowKit Go.Sp
theorem Hash_c {X : Nat → Prop} {w : World} {i : Int} (hX : ∀ b, X b → b < w.heap.size) (hi : 0 ≤ i ∧ i ≤ 256) :
    Ret Tryz.prog 9 [.int .i64 i].toArray w fun v w' => ∃ bh bc, v = .pointer (some ⟨bh, 0, none⟩) ∧ Out Nil w w' ∧ w.heap.size ≤ bc ∧ Blk w' bc 108 [.int .i64 0] ∧ Rob (fun c => X c ∨ c = bc) (HAt bh bc i) w' := by
  refine Ret.of_body (N := 13) Tryz.func9 rfl rfl (by simp) ?_
  have H := St.begin hX
  refine WE.seq_reg ?_
  refine WL.as rfl rfl ?_
  refine WL.nil ?_
  refine WE.seq_reg ?_
  refine WL.mv rfl rfl ?_
  refine WL.call TryzT.fb32 rfl (New_c (i := i) H.yylt  (by assumption)) ?_
  rintro _ w1 ⟨bhv7, bcv7, rfl, hO, hge, hB, hR⟩
  replace H := H.pushR hO (Ent.blk bcv7 108 [.int .i64 0]) hB (fun c hc => by cases hc; exact hge) hR
  refine WL.mv rfl rfl ?_
  refine WL.pv (PV.extract rfl rfl rfl) rfl ?_
  refine WL.pv (PV.extract rfl rfl rfl) rfl ?_
  refine WL.as rfl rfl ?_
  refine WL.as rfl rfl ?_
  refine WL.nil ?_
  refine WE.seq ?_
  refine WE.seq_reg ?_
  refine WL.mv rfl rfl ?_
  refine WL.pv (PV.neq rfl rfl rfl) rfl ?_
  refine WL.nil ?_
  refine WE.cond_f' rfl rfl ?_
  refine WE.skip ?_
  refine WE.seq_reg ?_
  refine WL.mv rfl rfl ?_
  refine WL.as rfl rfl ?_
  refine WL.nil ?_
  refine WE.ret ?_
  refine ⟨[_], _, .nil _, ⟨rfl, trivial⟩, ?_⟩
  exact ⟨_, _, rfl, H.toOut0, H.geL _ (List.mem_of_getElem? (i := 0) rfl) _ rfl, H.l 0 rfl, H.give1 0 rfl⟩

theorem HashBad_c {X : Nat → Prop} {w : World} {i : Int} (hX : ∀ b, X b → b < w.heap.size) (hi : ¬ (0 ≤ i ∧ i ≤ 256)) :
    Ret Tryz.prog 9 [.int .i64 i].toArray w fun v w' => v = .pointer none ∧ Out Nil w w' := by
  refine Ret.of_body (N := 13) Tryz.func9 rfl rfl (by simp) ?_
  have H := St.begin hX
  refine WE.seq_reg ?_
  refine WL.as rfl rfl ?_
  refine WL.nil ?_
  refine WE.seq_reg ?_
  refine WL.mv rfl rfl ?_
  refine WL.call TryzT.fb32 rfl (NewBad_c (i := i) H.yylt  (by omega)) ?_
  rintro _ w1 ⟨rfl, hO⟩
  replace H := H.out hO
  refine WL.mv rfl rfl ?_
  refine WL.pv (PV.extract rfl rfl rfl) rfl ?_
  refine WL.pv (PV.extract rfl rfl rfl) rfl ?_
  refine WL.as rfl rfl ?_
  refine WL.as rfl rfl ?_
  refine WL.nil ?_
  refine WE.seq ?_
  refine WE.seq_reg ?_
  refine WL.mv rfl rfl ?_
  refine WL.pv (PV.neq rfl rfl rfl) rfl ?_
  refine WL.nil ?_
  refine WE.cond_t' rfl rfl ?_
  refine WE.seq_reg ?_
  refine WL.as rfl rfl ?_
  refine WL.nil ?_
  refine WE.ret ?_
  refine ⟨[_], _, .nil _, ⟨rfl, trivial⟩, ?_⟩
  exact ⟨rfl, H.toOut0⟩

end Go.Sp.Tryz

