/- Walks of functions, printed by a program of this session (gen.py) from notes on each function. -/
import Derived.Test.YtcclagdjpoimaaaGreatDoorY1
import Derived.Test.YtcclagdjpoimaaaGreatDoorY2
import Derived.Test.YtcclagdjpoimaaaGreatDoorG9
import Derived.Test.YtcclagdjpoimaaaGreatDoorGE
set_option maxRecDepth 100000
set_option maxHeartbeats 1000000
set_option linter.unusedVariables false
set_option linter.unusedSimpArgs false
namespace Go.Sp.Tryz
open Go.Proofs Go.RowKit Go.Sp
theorem Search_c {X : Nat → Prop} {w : World} {n : Nat} {f : Value} {p : Nat → Bool} (hX : ∀ b, X b → b < w.heap.size) (hf : ∀ (i : Nat) (W : World), i < n → Out Nil w W → CallV Tryz.prog f [.int .i64 (i : Int)] W fun v W' => v = .bool (p i) ∧ Out Nil W W') (hn : n ≤ 1000000) :
    Ret Tryz.prog 106 [.int .i64 (n : Int), f].toArray w fun v w' => ∃ r : Nat, v = .int .i64 (r : Int) ∧ Out Nil w w' ∧ r ≤ n ∧ (∀ i, i + 1 = r → p i = false) ∧ (r < n → p r = true) := by
  refine Ret.of_body (N := 26) Tryz.func106 rfl rfl (by simp) ?_
  have H := St.begin hX
  refine WE.seq_reg ?_
  refine WL.as rfl rfl ?_
  refine WL.nil ?_
  refine WE.seq_reg ?_
  refine WL.mv rfl rfl ?_
  refine WL.as rfl rfl ?_
  refine WL.as rfl rfl ?_
  refine WL.nil ?_
  refine WE.seq ?_
  refine WE.block ?_
  refine WE.loop (α := Nat × Nat) [5, 6, 7, 9, 10, 11, 12, 13, 14, 15, 16, 17, 18, 19, 20, 21, 22, 23, 24] (fun q => [(5, .int .i64 (q.1 : Int)), (6, .int .i64 (q.2 : Int))]) (fun q wl => (q.1 ≤ q.2 ∧ q.2 ≤ n ∧ (∀ i, i + 1 = q.1 → p i = false) ∧ (q.2 < n → p q.2 = true)) ∧ St X w wl [] [] []) (fun q => q.2 - q.1) (0, n) ⟨rfl, rfl, trivial⟩ ⟨⟨Nat.zero_le _, Nat.le_refl _, (fun i h => by cases h), fun h => absurd h (Nat.lt_irrefl _)⟩, H⟩ ?_
  intro ⟨lo, hi_⟩ γ0 w1 hI
  try dsimp only at hI
  obtain ⟨hq, H⟩ := hI
  have hq1_ : lo ≤ hi_ := hq.1
  have hq2_ : hi_ ≤ n := hq.2.1
  refine WE.seq ?_
  refine WE.seq_reg ?_
  refine WL.mv rfl rfl ?_
  refine WL.mv rfl rfl ?_
  refine WL.pv (PV.lss rfl rfl rfl) rfl ?_
  refine WL.nil ?_
  refine WE.cond rfl (fun hc11 => ?_) (fun hc11 => ?_)
  · skip
    try simp only [decide_eq_true_eq, decide_eq_false_iff_not, ne_eq, Decidable.not_not, Bool.not_eq_true', Bool.not_eq_false', Bool.and_eq_true, Bool.or_eq_true, Bool.not_not, Bool.and_eq_false_iff, Bool.or_eq_false_iff, Int.not_lt, Int.not_le] at hc11
    have hlt : lo < hi_ := by omega
    refine WE.skip ?_
    refine WE.block ?_
    refine WE.seq_reg ?_
    refine WL.mv rfl rfl ?_
    refine WL.mv rfl rfl ?_
    refine WL.pv (PV.eq (v' := .int .i64 ((lo + hi_ : Nat) : Int)) (PV.add64 rfl rfl rfl (by omega) (by omega)) (by rfl)) rfl ?_
    refine WL.pv (PV.eq (v' := .int .u64 ((lo + hi_ : Nat) : Int)) (PV.conv rfl TryzT.in3 TryzT.in171 rfl) (by (rw [wrapu64]; congr 1; omega))) rfl ?_
    refine WL.pv (PV.eq (v' := .int .u64 (((lo + hi_) / 2 : Nat) : Int)) (PV.shrw rfl rfl rfl (by omega)) (by (congr 1; show Int.fdiv _ 2 = _; rw [Int.fdiv_eq_ediv_of_nonneg _ (by omega)]; omega))) rfl ?_
    refine WL.pv (PV.eq (v' := .int .i64 (((lo + hi_) / 2 : Nat) : Int)) (PV.conv64 rfl TryzT.in171 TryzT.in3 rfl (by omega) (by omega)) (by rfl)) rfl ?_
    refine WL.as rfl rfl ?_
    refine WL.nil ?_
    refine WE.seq_reg ?_
    refine WL.mv rfl rfl ?_
    refine WL.mv rfl rfl ?_
    have hcall := hf ((lo + hi_) / 2) _ (by omega) H.toOut0
    refine WL.callV rfl rfl hcall ?_
    rintro _ w4 ⟨rfl, hO⟩
    replace H := H.out hO
    refine WL.pv (PV.not rfl rfl) rfl ?_
    refine WL.nil ?_
    refine WE.cond rfl (fun hc21 => ?_) (fun hc21 => ?_)
    · skip
      try simp only [decide_eq_true_eq, decide_eq_false_iff_not, ne_eq, Decidable.not_not, Bool.not_eq_true', Bool.not_eq_false', Bool.and_eq_true, Bool.or_eq_true, Bool.not_not, Bool.and_eq_false_iff, Bool.or_eq_false_iff, Int.not_lt, Int.not_le] at hc21
      have hpf : p ((lo + hi_) / 2) = false := by exact hc21
      let q2 : Nat × Nat := ((lo + hi_) / 2 + 1, hi_)
      have hq2 : q2.1 ≤ q2.2 ∧ q2.2 ≤ n ∧ (∀ i, i + 1 = q2.1 → p i = false) ∧ (q2.2 < n → p q2.2 = true) := ⟨by show (lo + hi_) / 2 + 1 ≤ hi_; omega, hq2_, (fun i hi => by have h_ : i = (lo + hi_) / 2 := Nat.succ.inj hi; rw [h_]; exact hpf), hq.2.2.2⟩
      have hd2 : q2.2 - q2.1 < hi_ - lo := by show hi_ - ((lo + hi_) / 2 + 1) < hi_ - lo; omega
      refine WE.reg ?_
      refine WL.mv rfl rfl ?_
      refine WL.pv (PV.eq (v' := .int .i64 (((lo + hi_) / 2 + 1 : Nat) : Int)) (PV.add64 rfl rfl rfl (by omega) (by omega)) (by rfl)) rfl ?_
      refine WL.as rfl rfl ?_
      refine WL.nil ?_
      exact ⟨q2, (by repeat (first | with_reducible exact Off.refl _ _ | refine Off.upd rfl ?_ | refine Off.setAll rfl ?_ | refine Off.forget' rfl ?_)), ⟨rfl, rfl, trivial⟩, rfl, ⟨hq2, H⟩, hd2⟩
    · skip
      try simp only [decide_eq_true_eq, decide_eq_false_iff_not, ne_eq, Decidable.not_not, Bool.not_eq_true', Bool.not_eq_false', Bool.and_eq_true, Bool.or_eq_true, Bool.not_not, Bool.and_eq_false_iff, Bool.or_eq_false_iff, Int.not_lt, Int.not_le] at hc21
      have hpt : p ((lo + hi_) / 2) = true := by exact hc21
      let q2 : Nat × Nat := (lo, (lo + hi_) / 2)
      have hq2 : q2.1 ≤ q2.2 ∧ q2.2 ≤ n ∧ (∀ i, i + 1 = q2.1 → p i = false) ∧ (q2.2 < n → p q2.2 = true) := ⟨by show lo ≤ (lo + hi_) / 2; omega, by show (lo + hi_) / 2 ≤ n; have h_ := hq.2.1; omega, hq.2.2.1, fun _ => hpt⟩
      have hd2 : q2.2 - q2.1 < hi_ - lo := by show (lo + hi_) / 2 - lo < hi_ - lo; omega
      refine WE.reg ?_
      refine WL.mv rfl rfl ?_
      refine WL.as rfl rfl ?_
      refine WL.nil ?_
      exact ⟨q2, (by repeat (first | with_reducible exact Off.refl _ _ | refine Off.upd rfl ?_ | refine Off.setAll rfl ?_ | refine Off.forget' rfl ?_)), ⟨rfl, rfl, trivial⟩, rfl, ⟨hq2, H⟩, hd2⟩
  · skip
    try simp only [decide_eq_true_eq, decide_eq_false_iff_not, ne_eq, Decidable.not_not, Bool.not_eq_true', Bool.not_eq_false', Bool.and_eq_true, Bool.or_eq_true, Bool.not_not, Bool.and_eq_false_iff, Bool.or_eq_false_iff, Int.not_lt, Int.not_le] at hc11
    have heq : lo = hi_ := by omega
    refine WE.exit ?_
    refine WE.seq_reg ?_
    refine WL.mv rfl rfl ?_
    refine WL.as rfl rfl ?_
    refine WL.nil ?_
    refine WE.ret ?_
    refine ⟨[_], _, .nil _, ⟨rfl, trivial⟩, ?_⟩
    refine ⟨lo, rfl, H.toOut0, by omega, hq.2.2.1, fun h => ?_⟩
    rw [heq]; exact hq.2.2.2 (by omega)

theorem Split1_c {X : Nat → Prop} {w : World} {b1 b2 : Nat} {s : Value} {ks : List (List UInt8)} {i d : Nat} (hX : ∀ b, X b → b < w.heap.size) (hf0 : Rob X (fun w => RdA w ⟨b1, 0, none⟩ [s]) w) (hf1 : Rob X (fun w => RdA w ⟨b2, 0, none⟩ [.int .i64 (d : Int)]) w) (hf2 : Rob X (SlK s ks) w) (hkl : K32 ks) (hi : i < ks.length) (hd : d < 256) :
    Ret Tryz.prog 107 [.int .i64 (i : Int), .pointer (some ⟨b1, 0, none⟩), .pointer (some ⟨b2, 0, none⟩)].toArray w fun v w' => v = .bool (decide ((bitN ks[i] d : Int) = 1)) ∧ Out Nil w w' := by
  refine Ret.of_body (N := 12) Tryz.func107 rfl rfl (by simp) ?_
  have H := St.begin hX
  replace H := H.add (rob0 hf2)
  replace H := H.add (rob0 hf1)
  replace H := H.add (rob0 hf0)
  have hki := hkl _ (List.getElem_mem hi)
  refine WE.seq_reg ?_
  refine WL.as rfl rfl ?_
  refine WL.nil ?_
  refine WE.seq_draw (.take 0 (.take 1 (.take 2 (.take 3 (.take 4 (.pick1 5 (.take 6 (.take 7 .done)))))))) TryzT.mixed (by kernel_rfl) ?_
  replace H := H.out (Out.drew _)
  refine WP.take_read rfl rfl (RV.loadOne rfl TryzT.ag70 rfl) (H.p 0 rfl) ?_
  refine WP.mv rfl rfl rfl ?_
  refine WP.take_pure rfl rfl (PV.idxS rfl (by exact (H.p 2 rfl : SlK s ks _)) TryzT.sl70 TryzT.sz31 rfl rfl (by omega) (by omega)) ?_
  refine WP.readA rfl rfl rfl TryzT.ag31 rfl (SlK.rd (by exact (H.p 2 rfl : SlK s ks _)) hkl i hi) (by (rw [TryzT.sz31]; refine congrArg some ?_; (simp only [kc_length, kw_length, List.length_replicate, List.length_append, List.length_cons, List.length_nil]; omega))) ?_
  refine WP.take_read rfl rfl (RV.loadOne rfl TryzT.ag3 rfl) (H.p 1 rfl) ?_
  refine WP.pick1 rfl ?_
  refine WL.call TryzT.fb87 rfl (bitsBit_c (k := ks[i]) (d := d) H.yylt  hki hd) ?_
  rintro _ w1 ⟨rfl, hO⟩
  replace H := H.out hO
  refine WL.nil ⟨(List.forall_mem_cons.2 ⟨(by exact (fun h => absurd (show waits _ 5 4 = false from h) (by decide +kernel))), (List.forall_mem_cons.2 ⟨(by exact (fun h => absurd (show waits _ 5 3 = false from h) (by decide +kernel))), (List.forall_mem_cons.2 ⟨(by exact (fun h => absurd (show waits _ 5 0 = false from h) (by decide +kernel))), (fun _ h => by cases h)⟩)⟩)⟩), ?_⟩
  refine WP.take_pure rfl rfl (PV.eql rfl rfl rfl) ?_
  refine WP.as rfl rfl rfl ?_
  refine WP.done ?_
  refine WE.ret ?_
  refine ⟨[_], _, .nil _, ⟨rfl, trivial⟩, ?_⟩
  exact ⟨rfl, H.toOut0⟩

def sp1F (b2 b3 : Nat) : Value := .func (.func 107) ([] : List Value).toArray [.pointer (some ⟨b2, 0, none⟩), .pointer (some ⟨b3, 0, none⟩)].toArray
theorem Split1_call {X : Nat → Prop} {w : World} {s : Value} {ks : List (List UInt8)} {d b2 b3 : Nat} (hR1 : Rob X (fun w => RdA w ⟨b2, 0, none⟩ [s]) w) (hR2 : Rob X (fun w => RdA w ⟨b3, 0, none⟩ [.int .i64 (d : Int)]) w) (hR3 : Rob X (SlK s ks) w) (hkl : K32 ks) (hd : d < 256) (i : Nat) (W : World) (hi : i < ks.length) (hW : Out Nil w W) :
    CallV Tryz.prog (sp1F b2 b3) [.int .i64 (i : Int)] W fun v W' => v = .bool (decide ((bitN (ks.getD i []) d : Int) = 1)) ∧ Out Nil W W' := by
  refine CallV.of_ret (fs := []) (cs := [.pointer (some ⟨b2, 0, none⟩), .pointer (some ⟨b3, 0, none⟩)]) TryzT.fb107 ?_
  refine (Split1_c (X := Nil) (s := s) (ks := ks) (i := i) (d := d) (b1 := b2) (b2 := b3) (fun _ h => h.elim) (hR1.out hW (fun _ _ h => h.elim) (fun _ _ h => h.elim)) (hR2.out hW (fun _ _ h => h.elim) (fun _ _ h => h.elim)) (hR3.out hW (fun _ _ h => h.elim) (fun _ _ h => h.elim)) hkl hi hd).mono fun v W' hv => ?_
  rw [List.getD_eq_getElem?_getD, List.getElem?_eq_getElem hi]
  exact hv

theorem Split_c {X : Nat → Prop} {w : World} {s : Value} {ks : List (List UInt8)} {d : Nat} (hX : ∀ b, X b → b < w.heap.size) (hf0 : Rob X (SlK s ks) w) (hkl : K32 ks) (hlen : ks.length ≤ 1000000) (hd : d < 256) :
    Ret Tryz.prog 74 [s, .int .i64 (d : Int)].toArray w fun v w' => ∃ r : Nat, v = .int .i64 (r : Int) ∧ Out Nil w w' ∧ r ≤ ks.length ∧ (∀ i (h : i < ks.length), i + 1 = r → bitN ks[i] d ≠ 1) ∧ (∀ h : r < ks.length, bitN ks[r] d = 1) := by
  refine Ret.of_body (N := 9) Tryz.func74 rfl rfl (by simp) ?_
  have H := St.begin hX
  replace H := H.add (rob0 hf0)
  have hs1 : s.oneCell' = true := SlC.one1 (H.p 0 rfl : SlK s ks _)
  refine WE.seq_reg ?_
  refine WL.box (l := [s]) H rfl (cells_one hs1) rfl ?_
  intro b2 w1 H
  refine WL.box (l := [.int .i64 (d : Int)]) H rfl (rfl) rfl ?_
  intro b3 w2 H
  refine WL.as rfl rfl ?_
  refine WL.nil ?_
  refine WE.seq_reg ?_
  refine WL.load1 rfl TryzT.ag70 rfl rfl (by exact Blk.segAt (H.l 1 rfl) (Seg.all _) (by rfl)) ?_
  refine WL.pv (PV.lenS (by exact (H.p 0 rfl : SlK s ks _)) TryzT.sl70 rfl) rfl ?_
  refine WL.pv (PV.makeFunc rfl) rfl ?_
  replace H := H.freeze (i := 0) rfl
  replace H := H.freeze (i := 0) rfl
  have hR1 := (H.rob 0 rfl).imp fun _ h => h.rd
  have hR2 := (H.rob 1 rfl).imp fun _ h => h.rd
  have hR3 := H.rob 2 rfl
  refine WL.call TryzT.fb106 rfl (Search_c (X := Nil) (f := sp1F b2 b3) (p := fun i => decide ((bitN (ks.getD i []) d : Int) = 1)) (fun _ h => h.elim) (Split1_call hR1 hR2 hR3 hkl hd) hlen) ?_
  rintro _ w3 ⟨r, rfl, hO, hr1, hr2, hr3⟩
  replace H := H.out hO
  refine WL.as rfl rfl ?_
  refine WL.nil ?_
  refine WE.ret ?_
  refine ⟨[_], _, .nil _, ⟨rfl, trivial⟩, ?_⟩
  refine ⟨r, rfl, H.toOut0, hr1, fun i hi he h1 => ?_, fun h => ?_⟩
  · have h_ := hr2 i he; rw [List.getD_eq_getElem?_getD, List.getElem?_eq_getElem hi] at h_; simp [h1] at h_
  · have h_ := hr3 h; rw [List.getD_eq_getElem?_getD, List.getElem?_eq_getElem h] at h_; simp at h_; omega

end Go.Sp.Tryz

set_option maxRecDepth 100000
set_option maxHeartbeats 1000000
set_option linter.unusedVariables false
set_option linter.unusedSimpArgs false
namespace Go.Sp.Tryz
open Go.Proofs Go.RowKit Go.Sp

structure AP (d : Nat) (T : Tr) (m : List En) (l : List Ch) : Prop where
  er : T.er = grow d m
  srt : Srt m
  kl : KL m
  near : NearX d m l
  xl : XL l
  lt : LtX l
  sh : CShort l
  sz : m.length + l.length ≤ 900000
  dle : d ≤ 256
theorem AP.pm {d : Nat} {T : Tr} {m : List En} {l : List Ch} (h : AP d T m l) : Pm d m where
  le := h.dle
  kl := h.kl
  dis := h.srt.dis
  com := by obtain ⟨p, h1, _⟩ := h.near; exact fun a ha b hb => (h1 a ha).trans (h1 b hb).symm
theorem AP.pm2 {d : Nat} {T : Tr} {m : List En} {l : List Ch} (h : AP d T m l) : Pm d (apM m l) := apM_pm h.dle h.srt h.kl h.xl h.lt h.near
theorem AP.one {d : Nat} {a : Nat} {q u : List UInt8} {s0 : Value} {m : List En} {l : List Ch} (h : AP d (.leaf a q u s0) m l) : ∃ e, m = [e] ∧ e.k = q ∧ e.v = u := by
  have h1 := h.er
  have h2 := grow_cnt h.pm
  rw [← h1] at h2
  match m, h, h1, h2 with
  | [e], _, h1, _ => rw [grow_one] at h1; injection h1 with h3 h4; exact ⟨e, rfl, h3.symm, h4.symm⟩
  | [], _, _, h2 => cases h2
  | _ :: _ :: _, _, _, h2 => simp [Tr.er, Sh.cnt] at h2
theorem AP.none {d : Nat} {m : List En} {l : List Ch} (h : AP d .nil m l) : m = [] := by
  have h2 := grow_cnt h.pm
  rw [← h.er] at h2
  exact List.eq_nil_of_length_eq_zero h2.symm
theorem AP.sub {d b : Nat} {T : Tr} {m : List En} {l : List Ch} (h : AP d T m l) (hd : d < 256) (hb : b < 2) (hk : T.er.kind ≠ 1) : AP (d + 1) (T.child b) (partM m d b) (partX l d b) where
  er := by
    cases T with
    | nil =>
      rw [h.none]
      have : (Tr.child .nil b) = .nil := by unfold Tr.child; split <;> rfl
      rw [this]; exact (grow_nil _).symm
    | leaf a q u s => exact absurd rfl hk
    | inner a x y =>
      have h2 : 2 ≤ m.length := (grow_kind h.pm).1 (by rw [← h.er]; rfl)
      have h3 := h.er
      rw [grow_many d m hd h2] at h3
      injection h3 with h4 h5
      rcases (show b = 0 ∨ b = 1 by omega) with rfl | rfl
      · exact h4
      · exact h5
  srt := h.srt.part
  kl := fun e he => h.kl e (partM_mem.1 he).1
  near := h.near.part hd h.kl h.xl
  xl := h.xl.sub fun c hc => (partX_mem.1 hc).1
  lt := h.lt.sub (partX_sub l d b)
  sh := fun c hc => h.sh c (partX_mem.1 hc).1
  sz := by
    have h1 : (partM m d b).length ≤ m.length := List.length_filter_le ..
    have h2 : (partX l d b).length ≤ l.length := List.length_filter_le ..
    have := h.sz
    omega
  dle := hd
theorem AP.live {d : Nat} {l : List Ch} (h : AP d .nil [] l) : AP d .nil [] (liveX l) ∧ grow d (apM [] (liveX l)) = grow d (apM [] l) := by
  refine ⟨⟨h.er, h.srt, h.kl, ?_, h.xl.sub fun c hc => (liveX_mem.1 hc).1, h.lt.sub (liveX_sub l), fun c hc => h.sh c (liveX_mem.1 hc).1, ?_, h.dle⟩, by rw [apM_live h.xl h.lt]⟩
  · obtain ⟨p, h1, h2⟩ := h.near
    exact ⟨p, h1, fun c hc => h2 c (liveX_mem.1 hc).1⟩
  · have h2 : (liveX l).length ≤ l.length := List.length_filter_le ..
    have := h.sz
    omega
theorem AP.merge {d a : Nat} {q u : List UInt8} {s0 : Value} {m : List En} {l l' : List Ch} (h : AP d (.leaf a q u s0) m l) (hX : XL l' ∧ LtX l' ∧ CShort l') (hn : l'.length ≤ l.length + 1) (hm : ∀ c ∈ l', c ∈ l ∨ c.k = q) (hg : ∀ (d : Nat) (e : En), e.k = q → e.v = u → grow d (apM [] l') = grow d (apM [e] l)) :
    AP d .nil [] l' ∧ grow d (apM [] l') = grow d (apM m l) := by
  obtain ⟨e, rfl, hk, hv⟩ := h.one
  refine ⟨⟨(grow_nil d).symm, List.Pairwise.nil, (fun _ h => by cases h), ?_, hX.1, hX.2.1, hX.2.2, ?_, h.dle⟩, hg d e hk hv⟩
  · obtain ⟨p, h1, h2⟩ := h.near
    refine ⟨p, (fun _ h => by cases h), fun c hc => ?_⟩
    rcases hm c hc with h3 | h3
    · exact h2 c h3
    · rw [h3, ← hk]; exact h1 e (by simp)
  · have := h.sz
    simp at this ⊢
    omega
theorem AP.join {d : Nat} {T l r : Tr} {m : List En} {cs : List Ch} (h : AP d T m cs) (hd : d < 256) (hl : l.er = grow (d + 1) (apM (partM m d 0) (partX cs d 0))) (hr : r.er = grow (d + 1) (apM (partM m d 1) (partX cs d 1))) : joinS l.er r.er = grow d (apM m cs) ∧ l.er.cnt + r.er.cnt ≤ 1000000000 := by
  rw [hl, hr, ← apM_part h.srt h.kl h.xl h.lt, ← apM_part h.srt h.kl h.xl h.lt]
  refine ⟨joinS_grow h.pm2 hd, ?_⟩
  rw [grow_cnt (h.pm2.part hd 0), grow_cnt (h.pm2.part hd 1), part_len]
  have h1 := apM_len cs m
  have := h.sz
  omega
theorem kind_leaf {T : Tr} (h : T.er.kind = 1) : ∃ a q u s0, T = .leaf a q u s0 := by
  cases T with
  | nil => cases h
  | leaf a q u s => exact ⟨a, q, u, s, rfl⟩
  | inner a l r => cases h
def AppOK (d : Nat) : Prop := ∀ {X : Nat → Prop} {w : World} {bh bc : Nat} {bits c0 : Int} {T : Tr} {m : List En} {l : List Ch} {s : Value}, (∀ b, X b → b < w.heap.size) → Blk w bc 108 [.int .i64 c0] → Rob (fun c => X c ∨ c = bc) (HAt bh bc bits) w →
  Rob (fun c => X c ∨ c = bc) (TrA bits T) w → Rob (fun c => X c ∨ c = bc) (SlX s l) w → Rob (fun c => X c ∨ c = bc) (CVals l) w → Rob (fun c => X c ∨ c = bc) Rounds w → 0 ≤ bits ∧ bits ≤ 256 → AP d T m l →
  Ret Tryz.prog 40 [.pointer (some ⟨bh, 0, none⟩), T.ptr, s, .int .i64 (d : Int)].toArray w fun v w' => ∃ (T' : Tr) (k : Int), v = T'.ptr ∧ T'.er = grow d (apM m l) ∧ Out (· = bc) w w' ∧ Blk w' bc 108 [.int .i64 k] ∧ Rob (fun c => X c ∨ c = bc) (TrA bits T') w'

theorem Apply_s {X : Nat → Prop} {w : World} {bh bc : Nat} {bits c0 : Int} {T : Tr} {m : List En} {l : List Ch} {s : Value} {d : Nat} (hX : ∀ b, X b → b < w.heap.size) (ho0 : Blk w bc 108 ([.int .i64 c0])) (hf0 : Rob (fun c_ => X c_ ∨ c_ = bc) (HAt bh bc bits) w) (hf1 : Rob (fun c_ => X c_ ∨ c_ = bc) (TrA bits T) w) (hf2 : Rob (fun c_ => X c_ ∨ c_ = bc) (SlX s l) w) (hf3 : Rob (fun c_ => X c_ ∨ c_ = bc) (CVals l) w) (hf4 : Rob (fun c_ => X c_ ∨ c_ = bc) (Rounds) w) (hbits : 0 ≤ bits ∧ bits ≤ 256) (hap : AP d T m l) (ih : d < 256 → AppOK (d + 1)) :
    Ret Tryz.prog 40 [.pointer (some ⟨bh, 0, none⟩), T.ptr, s, .int .i64 (d : Int)].toArray w fun v w' => ∃ (T' : Tr) (k : Int), v = T'.ptr ∧ T'.er = grow d (apM m l) ∧ Out (· = bc) w w' ∧ Blk w' bc 108 [.int .i64 k] ∧ Rob (fun c => X c ∨ c = bc) (TrA bits T') w' := by
  refine Ret.of_body (N := 73) Tryz.func40 rfl rfl (by simp) ?_
  have H := St.begin1 (b := bc) (t := 108) (l := [.int .i64 c0]) hX ho0
  replace H := H.add (rob1 hf4)
  replace H := H.add (rob1 hf3)
  replace H := H.add (rob1 hf2)
  replace H := H.add (rob1 hf1)
  replace H := H.add (rob1 hf0)
  have hsz := hap.sz
  have hdl := hap.dle
  refine WE.seq_reg ?_
  refine WL.as rfl rfl ?_
  refine WL.nil ?_
  refine WE.cut (α := Tr × Value × List Ch × List En) [1, 2, 8, 12, 13, 14, 15, 16, 17, 18, 19, 20, 21, 22, 23] (fun p => [(1, p.1.ptr), (2, p.2.1)]) (fun p wl => (AP d p.1 p.2.2.2 p.2.2.1 ∧ p.1.er.kind ≠ 1 ∧ grow d (apM p.2.2.2 p.2.2.1) = grow d (apM m l)) ∧ St X w wl [Ent.blk bc 108 [.int .i64 c0]] [] [HAt bh bc bits, TrA bits p.1, SlX p.2.1 p.2.2.1, CVals p.2.2.1, Rounds]) ?_ ?_
  · skip
    refine WE.block ?_
    refine WE.seq_reg ?_
    refine WL.mv rfl rfl ?_
    refine WL.pv (PV.lenS (by exact (H.p 2 rfl : (SlX s l) _)) TryzT.sl47 rfl) rfl ?_
    refine WL.pv (PV.eql rfl rfl rfl) rfl ?_
    refine WL.as rfl rfl ?_
    refine WL.nil ?_
    refine WE.cond rfl (fun hc12 => ?_) (fun hc12 => ?_)
    · skip
      try simp only [decide_eq_true_eq, decide_eq_false_iff_not, ne_eq, Decidable.not_not, Bool.not_eq_true', Bool.not_eq_false', Bool.and_eq_true, Bool.or_eq_true, Bool.not_not, Bool.and_eq_false_iff, Bool.or_eq_false_iff, Int.not_lt, Int.not_le] at hc12
      have hl0 : l = [] := List.eq_nil_of_length_eq_zero (by omega)
      refine WE.seq_reg ?_
      refine WL.mv rfl rfl ?_
      refine WL.as rfl rfl ?_
      refine WL.nil ?_
      refine WE.ret ?_
      refine ⟨[_], _, .nil _, ⟨rfl, trivial⟩, ?_⟩
      subst hl0
      exact ⟨T, c0, rfl, hap.er, H.toOut1, H.o 0 rfl, H.giveO (by exact (H.rob 1 rfl : Rob _ (TrA bits T) _))⟩
    · skip
      try simp only [decide_eq_true_eq, decide_eq_false_iff_not, ne_eq, Decidable.not_not, Bool.not_eq_true', Bool.not_eq_false', Bool.and_eq_true, Bool.or_eq_true, Bool.not_not, Bool.and_eq_false_iff, Bool.or_eq_false_iff, Int.not_lt, Int.not_le] at hc12
      refine WE.seq_reg ?_
      refine WL.mv rfl rfl ?_
      refine WL.call TryzT.fb56 rfl (NKind_c (T := T) (bits := bits) H.yylt (by exact H.rob 1 rfl) ) ?_
      rintro _ w1 ⟨rfl, hO⟩
      replace H := H.out hO
      refine WL.pv (PV.eql rfl rfl rfl) rfl ?_
      refine WL.as rfl rfl ?_
      refine WL.nil ?_
      refine WE.cond rfl (fun hc17 => ?_) (fun hc17 => ?_)
      · skip
        try simp only [decide_eq_true_eq, decide_eq_false_iff_not, ne_eq, Decidable.not_not, Bool.not_eq_true', Bool.not_eq_false', Bool.and_eq_true, Bool.or_eq_true, Bool.not_not, Bool.and_eq_false_iff, Bool.or_eq_false_iff, Int.not_lt, Int.not_le] at hc17
        have hk1 : T.er.kind = 1 := by exact hc17
        obtain ⟨a, q, u, s0, rfl⟩ := kind_leaf hk1
        refine WE.reg ?_
        refine WL.mv rfl rfl ?_
        refine WL.mv rfl rfl ?_
        refine WL.call TryzT.fb70 rfl (merge_c (bits := bits) (s := s) (l := l) (a := a) (q := q) (u := u) (s0 := s0) H.yylt (by exact (H.rob 1 rfl : Rob _ (TrA bits (.leaf a q u s0)) _)) (by exact (H.rob 2 rfl : Rob _ (SlX s l) _)) (by exact (H.rob 3 rfl : Rob _ (CVals l) _)) hap.xl hap.lt hap.sh (by omega)) ?_
        rintro v23 w2 ⟨l23, hO, hS23, hV23, hX23, hn23, hm23, hg23⟩
        replace H := ((H.out hO).add hV23).add hS23
        have hmg := hap.merge hX23 hn23 hm23 hg23
        replace H := H.add (show Rob _ (TrA bits .nil) _ from fun _ _ => trivial)
        refine WL.as rfl rfl ?_
        refine WL.as rfl rfl ?_
        refine WL.nil ?_
        exact ⟨(.nil, v23, l23, []), (by repeat (first | with_reducible exact Off.refl _ _ | refine Off.upd rfl ?_)), ⟨rfl, rfl, trivial⟩, rfl, ⟨⟨hmg.1, (by show (0 : Int) ≠ 1; decide), hmg.2⟩, H.sel [3, 0, 1, 2, 7]⟩⟩
      · skip
        try simp only [decide_eq_true_eq, decide_eq_false_iff_not, ne_eq, Decidable.not_not, Bool.not_eq_true', Bool.not_eq_false', Bool.and_eq_true, Bool.or_eq_true, Bool.not_not, Bool.and_eq_false_iff, Bool.or_eq_false_iff, Int.not_lt, Int.not_le] at hc17
        have hk1 : T.er.kind ≠ 1 := by exact hc17
        refine WE.skip ?_
        exact ⟨(T, s, l, m), (by repeat (first | with_reducible exact Off.refl _ _ | refine Off.upd rfl ?_)), ⟨rfl, rfl, trivial⟩, rfl, ⟨⟨hap, hk1, rfl⟩, H⟩⟩
  · skip
    intro ⟨T1, s1, l1, m1⟩ γ w3 hI
    try dsimp only at hI
    obtain ⟨⟨hap1, hk1, hg1⟩, H⟩ := hI
    try dsimp only at hap1 hk1 hg1
    refine WE.cut (α := Value × List Ch) [2, 8, 24, 25, 26, 27, 28, 29, 30, 31, 32, 33, 34, 35, 36, 37, 38, 39, 40, 41, 42, 43, 44, 45] (fun p => [(2, p.1)]) (fun p wl => (AP d T1 m1 p.2 ∧ d < 256 ∧ grow d (apM m1 p.2) = grow d (apM m l)) ∧ St X w wl [Ent.blk bc 108 [.int .i64 c0]] [] [HAt bh bc bits, TrA bits T1, SlX p.1 p.2, CVals p.2, Rounds]) ?_ ?_
    · skip
      refine WE.seq_reg ?_
      refine WL.mv rfl rfl ?_
      refine WL.pv (PV.eqlPn rfl TryzT.pt23 rfl rfl) rfl ?_
      refine WL.nil ?_
      refine WE.cond rfl (fun hc25 => ?_) (fun hc25 => ?_)
      · skip
        try simp only [decide_eq_true_eq, decide_eq_false_iff_not, ne_eq, Decidable.not_not, Bool.not_eq_true', Bool.not_eq_false', Bool.and_eq_true, Bool.or_eq_true, Bool.not_not, Bool.and_eq_false_iff, Bool.or_eq_false_iff, Int.not_lt, Int.not_le] at hc25
        obtain rfl : T1 = .nil := Tr.nil_of (by exact hc25)
        obtain rfl := hap1.none
        have hone1 := SlX.one (s := s1) (by exact (H.p 3 rfl : (CVals l1) _))
        have hlv := hap1.live
        have hsz1 := hap1.sz
        refine WE.seq_reg ?_
        refine WL.mv rfl rfl ?_
        refine WL.call TryzT.fb72 rfl (CloneX_c (l := l1) H.yylt (by exact (H.rob 2 rfl : Rob _ (SlX s1 l1) _)) hap1.xl (by omega) hone1) ?_
        rintro v27 w4 ⟨hO, hOwn⟩
        replace H := H.push hO (Ent.osl w.heap.size v27 69 34 _ _) (ownsRow_base hOwn H.size) (fun b hb => (hOwn.lt b hb).1)
        refine WL.call TryzT.fb71 rfl (DeleteOwn_c (l := l1) (f := fnV 73) (H.l 0 rfl) hap1.xl (by omega) hone1 apply1_call) ?_
        rintro v28 w5 ⟨hO, hOwn, hob⟩
        replace H := H.setL (i := 0) rfl hO (Ent.osl w.heap.size v28 69 34 _ _) hOwn (fun b hb => .inl (hob.symm.trans hb))
        replace H := H.freeze (i := 0) rfl
        replace H := H.add (show Rob _ (SlX v28 (liveX l1)) _ from (H.rob 0 rfl).imp fun _ h => SlC.of_own h)
        replace H := H.add (show Rob _ (CVals (liveX l1)) _ from (by exact (H.rob 5 rfl : Rob _ (CVals l1) _).imp fun _ h => h.sub fun c hc => (liveX_mem.1 hc).1))
        refine WL.as rfl rfl ?_
        refine WL.nil ?_
        refine WE.seq_reg ?_
        refine WL.mv rfl rfl ?_
        refine WL.pv (PV.lenS (by exact (H.p 1 rfl : (SlX v28 (liveX l1)) _)) TryzT.sl47 rfl) rfl ?_
        refine WL.nil ?_
        refine WE.block ?_
        refine WE.seq_reg ?_
        refine WL.pv (PV.eql rfl rfl rfl) rfl ?_
        refine WL.as rfl rfl ?_
        refine WL.nil ?_
        refine WE.cond rfl (fun hc31 => ?_) (fun hc31 => ?_)
        · skip
          try simp only [decide_eq_true_eq, decide_eq_false_iff_not, ne_eq, Decidable.not_not, Bool.not_eq_true', Bool.not_eq_false', Bool.and_eq_true, Bool.or_eq_true, Bool.not_not, Bool.and_eq_false_iff, Bool.or_eq_false_iff, Int.not_lt, Int.not_le] at hc31
          have hl0 : liveX l1 = [] := List.eq_nil_of_length_eq_zero (by omega)
          refine WE.seq_reg ?_
          refine WL.as rfl rfl ?_
          refine WL.nil ?_
          refine WE.ret ?_
          refine ⟨[_], _, .nil _, ⟨rfl, trivial⟩, ?_⟩
          refine ⟨.nil, c0, rfl, ?_, H.toOut1, H.o 0 rfl, H.giveO (fun _ _ => trivial)⟩
          rw [← hg1, ← hlv.2, hl0]; exact (grow_nil d).symm
        · skip
          try simp only [decide_eq_true_eq, decide_eq_false_iff_not, ne_eq, Decidable.not_not, Bool.not_eq_true', Bool.not_eq_false', Bool.and_eq_true, Bool.or_eq_true, Bool.not_not, Bool.and_eq_false_iff, Bool.or_eq_false_iff, Int.not_lt, Int.not_le] at hc31
          refine WE.seq_reg ?_
          refine WL.pv (PV.eql rfl rfl rfl) rfl ?_
          refine WL.as rfl rfl ?_
          refine WL.nil ?_
          refine WE.cond rfl (fun hc33 => ?_) (fun hc33 => ?_)
          · skip
            try simp only [decide_eq_true_eq, decide_eq_false_iff_not, ne_eq, Decidable.not_not, Bool.not_eq_true', Bool.not_eq_false', Bool.and_eq_true, Bool.or_eq_true, Bool.not_not, Bool.and_eq_false_iff, Bool.or_eq_false_iff, Int.not_lt, Int.not_le] at hc33
            have hl1 : 0 < (liveX l1).length := by omega
            obtain ⟨c1, hc1⟩ := List.length_eq_one_iff.1 (show (liveX l1).length = 1 by omega)
            have hcm : c1 ∈ liveX l1 := by rw [hc1]; simp
            have hck := hlv.1.xl _ hcm
            have hge : (liveX l1)[0] = c1 := by simp [hc1]
            refine WE.seq_draw (.take 0 (.take 1 (.take 2 (.take 3 (.take 4 (.take 5 (.take 6 (.take 7 (.take 8 (.take 9 (.pick1 10 (.take 11 .done)))))))))))) TryzT.mixed (by kernel_rfl) ?_
            replace H := H.out (Out.drew _)
            refine WP.mv rfl rfl rfl ?_
            refine WP.mv rfl rfl rfl ?_
            refine WP.take_pure rfl rfl (PV.idxS rfl (by exact (H.p 1 rfl : (SlX v28 (liveX l1)) _)) TryzT.sl47 TryzT.sz69 rfl rfl (by omega) (by omega)) ?_
            refine WP.take_pure rfl rfl (PV.fieldAddrA rfl TryzT.fd69_0 rfl) ?_
            refine WP.readA rfl rfl rfl TryzT.ag31 rfl ((by have h_ := SlX.rd (by exact (H.p 1 rfl : (SlX v28 (liveX l1)) _)) hlv.1.xl 0 hl1; rw [hge] at h_; exact h_.sub (Seg.l (Seg.all _)))) (by (rw [TryzT.sz31]; refine congrArg some ?_; (simp only [kc_length, kw_length, List.length_replicate, List.length_append, List.length_cons, List.length_nil]; omega))) ?_
            refine WP.mv rfl rfl rfl ?_
            refine WP.take_pure rfl rfl (PV.idxS rfl (by exact (H.p 1 rfl : (SlX v28 (liveX l1)) _)) TryzT.sl47 TryzT.sz69 rfl rfl (by omega) (by omega)) ?_
            refine WP.take_pure rfl rfl (PV.fieldAddrA rfl TryzT.fd69_1 rfl) ?_
            refine WP.take_read rfl rfl (RV.loadOne rfl TryzT.ag32 rfl) ((by have h_ := SlX.rd (by exact (H.p 1 rfl : (SlX v28 (liveX l1)) _)) hlv.1.xl 0 hl1; rw [hge] at h_; exact h_.sub (Seg.r (Seg.l (Seg.all _)) (by rw [kc_length, hck])))) ?_
            refine WP.take_pure rfl rfl (PV.buildS rfl TryzT.pl34 TryzT.ze34 (Fl.cons rfl (by rfl) (by (simp only [kc_length, kw_length, List.length_replicate, List.length_append, List.length_cons, List.length_nil]; omega)) (Laid.left (Laid.all (by (simp only [kc_length, kw_length, List.length_replicate, List.length_append, List.length_cons, List.length_nil]; omega)))) (Fl.cons rfl (SlC.cells ((show CVals (liveX l1) _ from (by exact (H.p 0 rfl : (CVals (liveX l1)) _))) c1 hcm)) (by (simp only [kc_length, kw_length, List.length_replicate, List.length_append, List.length_cons, List.length_nil]; done)) (Laid.right (Laid.all (by (simp only [kc_length, kw_length, List.length_replicate, List.length_append, List.length_cons, List.length_nil]; done))) (by (simp only [kc_length, kw_length, List.length_replicate, List.length_append, List.length_cons, List.length_nil]; omega))) Fl.nil))) ?_
            refine WP.pick1 rfl ?_
            refine WL.call TryzT.fb58 rfl (NewLeafW_c (k := c1.k) (lv := c1.v) (s := c1.s) (bits := bits) H.yylt (H.o 0 rfl) (by exact (H.robOld 0 rfl 3 rfl : Rob _ (HAt bh bc bits) _)) (by exact (H.robOld 0 rfl 7 rfl : Rob _ (Rounds) _)) hbits (hlv.1.sh _ hcm) hck (by exact ((H.robOld 0 rfl 0 rfl : Rob _ (CVals (liveX l1)) _).imp fun _ h => h _ hcm).wk1)) ?_
            rintro _ w6 ⟨Tv45, mv45, rfl, hTv45, hO, hB, hR⟩
            replace H := H.calledOR 0 rfl hO hB hR
            refine WL.nil ⟨(List.forall_mem_cons.2 ⟨(by exact (fun h => absurd (show waits _ 10 8 = false from h) (by decide +kernel))), (List.forall_mem_cons.2 ⟨(by exact (fun h => absurd (show waits _ 10 4 = false from h) (by decide +kernel))), (fun _ h => by cases h)⟩)⟩), ?_⟩
            refine WP.as rfl rfl rfl ?_
            refine WP.done ?_
            refine WE.ret ?_
            refine ⟨[_], _, .nil _, ⟨rfl, trivial⟩, ?_⟩
            refine ⟨Tv45, _, rfl, ?_, H.toOut1, H.o 0 rfl, H.giveO (H.rob 0 rfl)⟩
            have hcd := (liveX_mem.1 hcm).2
            rw [hTv45, ← hg1, ← hlv.2, hc1]
            have e_ : apM [] [c1] = [c1.en] := by show apC [] c1 = _; unfold apC; rw [hcd]; rfl
            rw [e_, grow_one]; rfl
          · skip
            try simp only [decide_eq_true_eq, decide_eq_false_iff_not, ne_eq, Decidable.not_not, Bool.not_eq_true', Bool.not_eq_false', Bool.and_eq_true, Bool.or_eq_true, Bool.not_not, Bool.and_eq_false_iff, Bool.or_eq_false_iff, Int.not_lt, Int.not_le] at hc33
            have hd1 : d < 256 := by rcases Nat.lt_or_ge d 256 with h_ | h_; exact h_; (have h2_ : d = 256 := by omega); subst h2_; have h3_ := NearX.one hlv.1.near hlv.1.xl hlv.1.lt; omega
            refine WE.skip ?_
            exact ⟨(v28, liveX l1), (by repeat (first | with_reducible exact Off.refl _ _ | refine Off.upd rfl ?_)), ⟨rfl, trivial⟩, rfl, ⟨⟨hlv.1, hd1, hlv.2.trans hg1⟩, H.sel [3, 4, 1, 0, 7]⟩⟩
      · skip
        try simp only [decide_eq_true_eq, decide_eq_false_iff_not, ne_eq, Decidable.not_not, Bool.not_eq_true', Bool.not_eq_false', Bool.and_eq_true, Bool.or_eq_true, Bool.not_not, Bool.and_eq_false_iff, Bool.or_eq_false_iff, Int.not_lt, Int.not_le] at hc25
        have hd1 : d < 256 := by cases hT1_ : T1 with | nil => subst hT1_; simp [Tr.addr] at hc25 | leaf a q u s => subst hT1_; exact absurd rfl hk1 | inner a x y => subst hT1_; exact hap1.pm.lt ((grow_kind hap1.pm).1 (by rw [← hap1.er]; rfl))
        refine WE.skip ?_
        exact ⟨(s1, l1), (by repeat (first | with_reducible exact Off.refl _ _ | refine Off.upd rfl ?_)), ⟨rfl, trivial⟩, rfl, ⟨⟨hap1, hd1, hg1⟩, H⟩⟩
    · skip
      intro ⟨s2, l2⟩ γ w7 hI
      try dsimp only at hI
      obtain ⟨⟨hap2, hd1, hg2⟩, H⟩ := hI
      try dsimp only at hap2 hd1 hg2
      have hsz2 := hap2.sz
      refine WE.seq_reg ?_
      refine WL.mv rfl rfl ?_
      refine WL.call TryzT.fb68 rfl (keys_c (s := s2) (l := l2) (f := fnV 75) H.yylt (by exact (H.rob 2 rfl : Rob _ (SlX s2 l2) _)) hap2.xl (by omega) (SlX.one (s := s2) (by exact (H.p 3 rfl : (CVals l2) _))) apply2_call) ?_
      rintro v47 w8 ⟨hO, hR⟩
      replace H := (H.out hO).add hR
      refine WL.mv rfl rfl ?_
      refine WL.call TryzT.fb74 rfl (Split_c (ks := l2.map Ch.k) (d := d) H.yylt (H.rob 0 rfl) (K32_keys hap2.xl) (by rw [List.length_map]; omega) hd1) ?_
      rintro _ w9 ⟨r, rfl, hO, hr, hlo, hhi⟩
      replace H := H.out hO
      rw [List.length_map] at hr
      have hps := partX_split hap2.xl hap2.lt hap2.near hd1 hr (fun i h hi => by have h_ := hlo i (by rw [List.length_map]; exact h) hi; rw [List.getElem_map] at h_; exact h_) (fun h => by have h_ := hhi (by rw [List.length_map]; exact h); rw [List.getElem_map] at h_; exact h_)
      have hs0 := hap2.sub hd1 (b := 0) (by omega) hk1
      have hs1_ := hap2.sub hd1 (b := 1) (by omega) hk1
      refine WL.as rfl rfl ?_
      refine WL.nil ?_
      refine WE.seq_draw (.take 0 (.take 1 (.take 3 (.take 4 (.take 5 (.take 6 (.take 7 (.take 8 (.pick1 2 (.pick1 9 (.take 10 .done))))))))))) TryzT.mixed (by kernel_rfl) ?_
      replace H := H.out (Out.drew _)
      refine WP.mv rfl rfl rfl ?_
      refine WP.mv rfl rfl rfl ?_
      refine WP.mv rfl rfl rfl ?_
      refine WP.mv rfl rfl rfl ?_
      refine WP.mv rfl rfl rfl ?_
      refine WP.take_pure rfl rfl (PV.subHM rfl (by exact (H.p 3 rfl : (SlX s2 l2) _)) TryzT.sl47 TryzT.sz69 rfl rfl rfl (by omega) (by omega)) ?_
      refine WP.mv rfl rfl rfl ?_
      refine WP.take_pure rfl rfl (PV.eq (v' := .int .i64 ((d + 1 : Nat) : Int)) (PV.add64 rfl rfl rfl (by omega) (by omega)) (by congr 1)) ?_
      refine WP.pick1 rfl ?_
      refine WL.call TryzT.fb76 rfl (Child_c (T := T1) (bits := bits) (b := 0) H.yylt (by exact (H.rob 2 rfl : Rob _ (TrA bits T1) _))) ?_
      rintro _ w10 ⟨rfl, hO⟩
      replace H := H.out hO
      refine WL.nil ⟨(fun _ h => by cases h), ?_⟩
      refine WP.pick1 rfl ?_
      refine WL.call TryzT.fb40 rfl (ih hd1 (T := T1.child 0) (m := partM m1 d 0) (l := partX l2 d 0) (bits := bits) H.yylt (H.o 0 rfl) (by exact (H.robOld 0 rfl 1 rfl : Rob _ (HAt bh bc bits) _)) (by exact (H.robOld 0 rfl 2 rfl : Rob _ (TrA bits T1) _).imp fun _ h => h.left) (by exact (H.robOld 0 rfl 3 rfl : Rob _ (SlX s2 l2) _).imp fun _ h => (by have h_ := h.sub3 hap2.xl (lo := 0) (hi := r) (Nat.zero_le _) hr; rw [List.drop_zero, Nat.sub_zero, hps.1] at h_; exact h_)) (by exact (H.robOld 0 rfl 4 rfl : Rob _ (CVals l2) _).imp fun _ h => h.sub fun c hc => (partX_mem.1 hc).1) (by exact (H.robOld 0 rfl 5 rfl : Rob _ (Rounds) _)) hbits hs0) ?_
      rintro _ w11 ⟨Tv59, mv59, rfl, hTv59, hO, hB, hR⟩
      replace H := H.calledOR 0 rfl hO hB hR
      refine WL.nil ⟨(fun _ h => by cases h), ?_⟩
      refine WP.as rfl rfl rfl ?_
      refine WP.done ?_
      refine WE.seq_draw (.take 0 (.take 1 (.take 3 (.take 4 (.take 5 (.take 6 (.take 7 (.pick1 2 (.pick1 8 (.take 9 .done)))))))))) TryzT.mixed (by kernel_rfl) ?_
      replace H := H.out (Out.drew _)
      refine WP.mv rfl rfl rfl ?_
      refine WP.mv rfl rfl rfl ?_
      refine WP.mv rfl rfl rfl ?_
      refine WP.mv rfl rfl rfl ?_
      refine WP.take_pure rfl rfl (PV.subL rfl (by exact (H.p 4 rfl : (SlX s2 l2) _)) TryzT.sl47 TryzT.sz69 rfl rfl (by omega) (by omega)) ?_
      refine WP.mv rfl rfl rfl ?_
      refine WP.take_pure rfl rfl (PV.eq (v' := .int .i64 ((d + 1 : Nat) : Int)) (PV.add64 rfl rfl rfl (by omega) (by omega)) (by congr 1)) ?_
      refine WP.pick1 rfl ?_
      refine WL.call TryzT.fb76 rfl (Child_c (T := T1) (bits := bits) (b := 1) H.yylt (by exact (H.rob 3 rfl : Rob _ (TrA bits T1) _))) ?_
      rintro _ w12 ⟨rfl, hO⟩
      replace H := H.out hO
      refine WL.nil ⟨(fun _ h => by cases h), ?_⟩
      refine WP.pick1 rfl ?_
      refine WL.call TryzT.fb40 rfl (ih hd1 (T := T1.child 1) (m := partM m1 d 1) (l := partX l2 d 1) (bits := bits) H.yylt (H.o 0 rfl) (by exact (H.robOld 0 rfl 2 rfl : Rob _ (HAt bh bc bits) _)) (by exact (H.robOld 0 rfl 3 rfl : Rob _ (TrA bits T1) _).imp fun _ h => h.right) (by exact (H.robOld 0 rfl 4 rfl : Rob _ (SlX s2 l2) _).imp fun _ h => (by have h_ := h.sub hap2.xl (lo := r) (hi := l2.length) hr (Nat.le_refl _); rw [List.take_of_length_le (by rw [List.length_drop]; exact Nat.le_refl _), hps.2] at h_; exact h_)) (by exact (H.robOld 0 rfl 5 rfl : Rob _ (CVals l2) _).imp fun _ h => h.sub fun c hc => (partX_mem.1 hc).1) (by exact (H.robOld 0 rfl 6 rfl : Rob _ (Rounds) _)) hbits hs1_) ?_
      rintro _ w13 ⟨Tv68, mv68, rfl, hTv68, hO, hB, hR⟩
      replace H := H.calledOR 0 rfl hO hB hR
      refine WL.nil ⟨(fun _ h => by cases h), ?_⟩
      refine WP.as rfl rfl rfl ?_
      refine WP.done ?_
      refine WE.seq_reg ?_
      refine WL.mv rfl rfl ?_
      refine WL.mv rfl rfl ?_
      refine WL.mv rfl rfl ?_
      have hjn := hap2.join hd1 hTv59 hTv68
      refine WL.call TryzT.fb59 rfl (Join_c (l := Tv59) (r := Tv68) (bits := bits) H.yylt (H.o 0 rfl) (by exact (H.robOld 0 rfl 3 rfl : Rob _ (HAt bh bc bits) _)) (by exact (H.robOld 0 rfl 1 rfl : Rob _ (TrA bits Tv59) _)) (by exact (H.robOld 0 rfl 0 rfl : Rob _ (TrA bits Tv68) _)) (by exact (H.robOld 0 rfl 7 rfl : Rob _ (Rounds) _)) hbits hjn.2) ?_
      rintro _ w14 ⟨Tv72, mv72, rfl, hTv72, hO, hB, hR⟩
      replace H := H.calledOR 0 rfl hO hB hR
      refine WL.as rfl rfl ?_
      refine WL.nil ?_
      refine WE.ret ?_
      refine ⟨[_], _, .nil _, ⟨rfl, trivial⟩, ?_⟩
      refine ⟨Tv72, _, rfl, ?_, H.toOut1, H.o 0 rfl, H.giveO (H.rob 0 rfl)⟩
      rw [hTv72, hjn.1]; exact hg2

end Go.Sp.Tryz

set_option maxRecDepth 100000
set_option maxHeartbeats 1000000
set_option linter.unusedVariables false
set_option linter.unusedSimpArgs false
namespace Go.Sp.Tryz
open Go.Proofs Go.RowKit Go.Sp

theorem App_ok : ∀ (n d : Nat), 256 - d = n → AppOK d
  | 0, d, hn => fun hX h0 h1 h2 h3 h4 h5 h6 h7 => Apply_s hX h0 h1 h2 h3 h4 h5 h6 h7 (fun h => by omega)
  | n + 1, d, hn => fun hX h0 h1 h2 h3 h4 h5 h6 h7 => Apply_s hX h0 h1 h2 h3 h4 h5 h6 h7 (fun _ => App_ok n (d + 1) (by omega))
abbrev LtK (l : List (List UInt8)) : Prop := l.Pairwise fun a b => num a < num b
theorem chkK_val : ∀ l : List (List UInt8), chkK l = 0 → LtK l
  | [], _ => .nil
  | [a], _ => List.pairwise_singleton _ _
  | a :: b :: r, h => by
    have h0 : (if cmpI a b = 0 then (9 : Int) else if 0 < cmpI a b then 8 else chkK (b :: r)) = 0 := h
    by_cases h1 : cmpI a b = 0
    · rw [if_pos h1] at h0; cases h0
    · rw [if_neg h1] at h0
      by_cases h2 : 0 < cmpI a b
      · rw [if_pos h2] at h0; cases h0
      · rw [if_neg h2] at h0
        have ih := chkK_val (b :: r) h0
        have hab : num a < num b := cmpI_neg.1 (by omega)
        refine List.pairwise_cons.2 ⟨fun z hz => ?_, ih⟩
        rcases List.mem_cons.1 hz with rfl | hz
        · exact hab
        · exact Nat.lt_trans hab ((List.pairwise_cons.1 ih).1 z hz)
theorem cmpI_pos {a b : List UInt8} : 0 < cmpI a b ↔ num b < num a := by
  unfold cmpI
  by_cases h : num a < num b
  · simp [h]; omega
  · by_cases h2 : num b < num a
    · simp [h, h2]
    · simp [h, h2]
theorem LtX.of_chk {l : List Ch} (h : chkK (l.map Ch.k) = 0) : LtX l := (List.pairwise_map (f := Ch.k) (R := fun a b => num a < num b)).1 (chkK_val _ h)
theorem ApplyOk_c {X : Nat → Prop} {w : World} {bh bc : Nat} {bits c0 : Int} {T : Tr} {m : List En} {l : List Ch} {s : Value} (hX : ∀ b, X b → b < w.heap.size) (ho0 : Blk w bc 108 ([.int .i64 c0])) (hf0 : Rob (fun c_ => X c_ ∨ c_ = bc) (HAt bh bc bits) w) (hf1 : Rob (fun c_ => X c_ ∨ c_ = bc) (TrA bits T) w) (hf2 : Rob (fun c_ => X c_ ∨ c_ = bc) (SlX s l) w) (hf3 : Rob (fun c_ => X c_ ∨ c_ = bc) (CVals l) w) (hf4 : Rob (fun c_ => X c_ ∨ c_ = bc) (Rounds) w) (hbits : 0 ≤ bits ∧ bits ≤ 256) (hT : T.er = grow 0 m) (hs : Srt m) (hkm : KL m) (hx : XL l) (hsh : CShort l) (hck : chkK (l.map Ch.k) = 0) (hsz : m.length + l.length ≤ 900000) :
    Ret Tryz.prog 16 [.pointer (some ⟨bh, 0, none⟩), T.ptr, s].toArray w fun v w' => ∃ (T' : Tr) (k : Int), v = .tuple [T'.ptr, .int .i64 0].toArray ∧ T'.er = grow 0 (apM m l) ∧ Out (· = bc) w w' ∧ Blk w' bc 108 [.int .i64 k] ∧ Rob (fun c => X c ∨ c = bc) (TrA bits T') w' := by
  refine Ret.of_body (N := 18) Tryz.func16 rfl rfl (by simp) ?_
  have H := St.begin1 (b := bc) (t := 108) (l := [.int .i64 c0]) hX ho0
  replace H := H.add (rob1 hf4)
  replace H := H.add (rob1 hf3)
  replace H := H.add (rob1 hf2)
  replace H := H.add (rob1 hf1)
  replace H := H.add (rob1 hf0)
  have hlt := LtX.of_chk hck
  refine WE.seq_reg ?_
  refine WL.as rfl rfl ?_
  refine WL.as rfl rfl ?_
  refine WL.nil ?_
  refine WE.seq ?_
  refine WE.seq_reg ?_
  refine WL.mv rfl rfl ?_
  refine WL.call TryzT.fb39 rfl (check_c (s := s) (l := l) H.yylt (by exact (H.rob 2 rfl : Rob _ (SlX s l) _)) hx (by omega) (SlX.one (s := s) (by exact (H.p 3 rfl : (CVals l) _)))) ?_
  rintro _ w1 ⟨rfl, hO⟩
  replace H := H.out hO
  refine WL.as rfl rfl ?_
  refine WL.nil ?_
  refine WE.seq_reg ?_
  refine WL.mv rfl rfl ?_
  refine WL.pv (PV.neq rfl rfl rfl) rfl ?_
  refine WL.nil ?_
  refine WE.cond_f' rfl (by simp [hck]) ?_
  refine WE.skip ?_
  refine WE.seq_reg ?_
  refine WL.mv rfl rfl ?_
  refine WL.mv rfl rfl ?_
  refine WL.mv rfl rfl ?_
  refine WL.call TryzT.fb40 rfl (App_ok 256 0 rfl (T := T) (m := m) (l := l) (s := s) (bits := bits) H.yylt (H.o 0 rfl) (by exact (H.robOld 0 rfl 0 rfl : Rob _ (HAt bh bc bits) _)) (by exact (H.robOld 0 rfl 1 rfl : Rob _ (TrA bits T) _)) (by exact (H.robOld 0 rfl 2 rfl : Rob _ (SlX s l) _)) (by exact (H.robOld 0 rfl 3 rfl : Rob _ (CVals l) _)) (by exact (H.robOld 0 rfl 4 rfl : Rob _ (Rounds) _)) hbits ⟨hT, hs, hkm, NearX.zero hkm hx, hx, hlt, hsh, hsz, Nat.zero_le _⟩) ?_
  rintro _ w2 ⟨Tv17, mv17, rfl, hTv17, hO, hB, hR⟩
  replace H := H.calledOR 0 rfl hO hB hR
  refine WL.as rfl rfl ?_
  refine WL.as rfl rfl ?_
  refine WL.nil ?_
  refine WE.ret ?_
  refine ⟨[_, _], _, .nil _, ⟨rfl, rfl, trivial⟩, ?_⟩
  exact ⟨Tv17, _, rfl, hTv17, H.toOut1, H.o 0 rfl, H.giveO (H.rob 0 rfl)⟩

theorem ApplyBad_c {X : Nat → Prop} {w : World} {a0 a1 s : Value} {l : List Ch} (hX : ∀ b, X b → b < w.heap.size) (hf0 : Rob X (SlX s l) w) (hf1 : Rob X (CVals l) w) (hx : XL l) (hck : chkK (l.map Ch.k) ≠ 0) (hlen : l.length ≤ 1000000) :
    Ret Tryz.prog 16 [a0, a1, s].toArray w fun v w' => v = .tuple [.pointer none, .int .i64 (chkK (l.map Ch.k))].toArray ∧ Out Nil w w' := by
  refine Ret.of_body (N := 18) Tryz.func16 rfl rfl (by simp) ?_
  have H := St.begin hX
  replace H := H.add (rob0 hf1)
  replace H := H.add (rob0 hf0)
  refine WE.seq_reg ?_
  refine WL.as rfl rfl ?_
  refine WL.as rfl rfl ?_
  refine WL.nil ?_
  refine WE.seq ?_
  refine WE.seq_reg ?_
  refine WL.mv rfl rfl ?_
  refine WL.call TryzT.fb39 rfl (check_c (s := s) (l := l) H.yylt (by exact (H.rob 0 rfl : Rob _ (SlX s l) _)) hx (by omega) (SlX.one (s := s) (by exact (H.p 1 rfl : (CVals l) _)))) ?_
  rintro _ w1 ⟨rfl, hO⟩
  replace H := H.out hO
  refine WL.as rfl rfl ?_
  refine WL.nil ?_
  refine WE.seq_reg ?_
  refine WL.mv rfl rfl ?_
  refine WL.pv (PV.neq rfl rfl rfl) rfl ?_
  refine WL.nil ?_
  refine WE.cond_t' rfl (by simp [hck]) ?_
  refine WE.seq_reg ?_
  refine WL.mv rfl rfl ?_
  refine WL.as rfl rfl ?_
  refine WL.as rfl rfl ?_
  refine WL.nil ?_
  refine WE.ret ?_
  refine ⟨[_, _], _, .nil _, ⟨rfl, rfl, trivial⟩, ?_⟩
  exact ⟨rfl, H.toOut0⟩

def chE (e : En) : Ch := ⟨e.k, e.s, e.v, false⟩
def BS (l : List En) (i : Nat) : List Ch := (l.map chE).take i ++ List.replicate (l.length - i) zCh
theorem BS_xl {l : List En} (h : KL l) (i : Nat) : XL (BS l i) := fun c hc => by
  rcases List.mem_append.1 hc with hc | hc
  · obtain ⟨e, he, rfl⟩ := List.mem_map.1 (List.mem_of_mem_take hc)
    exact h e he
  · rw [(List.mem_replicate.1 hc).2]; rfl
theorem BS_len (l : List En) {i : Nat} (hi : i ≤ l.length) : (BS l i).length = l.length := by simp [BS]; omega
theorem BS_set {l : List En} {i : Nat} (hi : i < l.length) : (BS l i).set i (chE l[i]) = BS l (i + 1) := by
  have h := fillG (l := l.map chE) (z := zCh) (i := i) (m := l.length - (i + 1)) (by rw [List.length_map]; exact hi)
  rw [List.getElem_map] at h
  unfold BS
  rw [show l.length - i = l.length - (i + 1) + 1 by omega]
  exact h
theorem BS_end (l : List En) : BS l l.length = l.map chE := by
  unfold BS
  rw [List.take_of_length_le (by simp), Nat.sub_self]; simp
theorem BS_zero (l : List En) : (BS l 0).flatMap chC = zrow l.length (chC zCh) := by
  rw [zrow_ch]; rfl
theorem chE_keys (l : List En) : (l.map chE).map Ch.k = l.map En.k := by rw [List.map_map]; rfl
theorem apM_chE (l : List En) : ∀ m : List En, apM m (l.map chE) = l.foldl putM m := by
  induction l with
  | nil => intro m; rfl
  | cons e l ih => intro m; exact ih (putM m e)
theorem chE_xl {l : List En} (h : KL l) : XL (l.map chE) := fun c hc => by obtain ⟨e, he, rfl⟩ := List.mem_map.1 hc; exact h e he
theorem chE_sh {l : List En} (h : ShortV l) : CShort (l.map chE) := fun c hc => by obtain ⟨e, he, rfl⟩ := List.mem_map.1 hc; exact h e he
theorem chE_vals {l : List En} {w : World} (h : Vals l w) : CVals (l.map chE) w := fun c hc => by obtain ⟨e, he, rfl⟩ := List.mem_map.1 hc; exact h e he

theorem BuildOk_c {X : Nat → Prop} {w : World} {bh bc : Nat} {bits c0 : Int} {l : List En} {s : Value} (hX : ∀ b, X b → b < w.heap.size) (ho0 : Blk w bc 108 ([.int .i64 c0])) (hf0 : Rob (fun c_ => X c_ ∨ c_ = bc) (HAt bh bc bits) w) (hf1 : Rob (fun c_ => X c_ ∨ c_ = bc) (SlE s l) w) (hf2 : Rob (fun c_ => X c_ ∨ c_ = bc) (Vals l) w) (hf3 : Rob (fun c_ => X c_ ∨ c_ = bc) (Rounds) w) (hbits : 0 ≤ bits ∧ bits ≤ 256) (hkl : KL l) (hsv : ShortV l) (hck : chkK (l.map En.k) = 0) (hlen : l.length ≤ 900000) :
    Ret Tryz.prog 11 [.pointer (some ⟨bh, 0, none⟩), s].toArray w fun v w' => ∃ (T' : Tr) (k : Int), v = .tuple [T'.ptr, .int .i64 0].toArray ∧ T'.er = grow 0 (ofM l) ∧ Out (· = bc) w w' ∧ Blk w' bc 108 [.int .i64 k] ∧ Rob (fun c => X c ∨ c = bc) (TrA bits T') w' := by
  refine Ret.of_body (N := 33) Tryz.func11 rfl rfl (by simp) ?_
  have H := St.begin1 (b := bc) (t := 108) (l := [.int .i64 c0]) hX ho0
  replace H := H.add (rob1 hf3)
  replace H := H.add (rob1 hf2)
  replace H := H.add (rob1 hf1)
  replace H := H.add (rob1 hf0)
  have hone := OneS.of (hf2.here)
  refine WE.seq_reg ?_
  refine WL.as rfl rfl ?_
  refine WL.as rfl rfl ?_
  refine WL.nil ?_
  refine WE.seq_reg ?_
  refine WL.mv rfl rfl ?_
  refine WL.pv (PV.lenS (by exact (H.p 1 rfl : (SlE s l) _)) TryzT.sl22 rfl) rfl ?_
  refine WL.makeSlice (n := l.length) H rfl TryzT.st47 rfl (by omega) (by omega) rfl ?_
  intro b11 w2 H
  replace H := H.conv (L' := [Ent.blk b11 69 ((BS l 0).flatMap chC)]) (by rw [BS_zero]; rfl)
  refine WL.as rfl rfl ?_
  refine WL.nil ?_
  refine WE.seq ?_
  refine WE.seq_reg ?_
  refine WL.mv rfl rfl ?_
  refine WL.pv (PV.lenS (by exact (H.p 1 rfl : (SlE s l) _)) TryzT.sl22 rfl) rfl ?_
  refine WL.mv rfl rfl ?_
  refine WL.nil ?_
  refine WE.block ?_
  refine WE.loop (α := Nat) [7, 8, 14, 15, 16, 17, 18, 19, 20, 21, 22, 23, 24, 25, 26, 27] (fun i => [(14, .int .i64 (i : Int))]) (fun i wl => i ≤ l.length ∧ St X w wl [Ent.blk bc 108 [.int .i64 c0]] [Ent.blk b11 69 ((BS l i).flatMap chC)] [HAt bh bc bits, SlE s l, Vals l, Rounds]) (fun i => l.length - i) 0 ⟨rfl, trivial⟩ ⟨Nat.zero_le _, H⟩ ?_
  intro i γ0 w4 hI
  try dsimp only at hI
  obtain ⟨hi, H⟩ := hI
  refine WE.seq_reg ?_
  refine WL.pv (PV.lss rfl rfl rfl) rfl ?_
  refine WL.nil ?_
  refine WE.seq ?_
  refine WE.cond rfl (fun hc15 => ?_) (fun hc15 => ?_)
  · skip
    try simp only [decide_eq_true_eq, decide_eq_false_iff_not, ne_eq, Decidable.not_not, Bool.not_eq_true', Bool.not_eq_false', Bool.and_eq_true, Bool.or_eq_true, Bool.not_not, Bool.and_eq_false_iff, Bool.or_eq_false_iff, Int.not_lt, Int.not_le] at hc15
    have hlt : i < l.length := by omega
    have hki := hkl _ (List.getElem_mem hlt)
    have hE2 : (enC l[i]).length = 33 := enC_length hki
    have hc34 : (chC (chE l[i])).length = 34 := chC_len hki
    have hbs := BS_set hlt
    refine WE.skip ?_
    refine WE.seq ?_
    refine WE.block ?_
    refine WE.seq_reg ?_
    refine WL.mv rfl rfl ?_
    refine WL.pv (PV.idxS rfl (by exact (H.p 1 rfl : (SlE s l) _)) TryzT.sl22 TryzT.sz34 rfl rfl (by omega) (by omega)) rfl ?_
    refine WL.loadR rfl TryzT.ag34 rfl rfl (SlE.rd (by exact (H.p 1 rfl : (SlE s l) _)) hkl i hlt) (by (rw [TryzT.sz34]; refine congrArg some ?_; (simp [kc_length, kw_length, *]; done))) ?_
    refine WL.alloc H rfl TryzT.ze34 rfl ?_
    intro b8 w5 H
    refine WL.as rfl rfl ?_
    refine WL.storeL H 0 rfl rfl rfl (new := enC l[i]) rfl (by (rw [TryzT.sz34]; refine congrArg some ?_; (simp [kc_length, kw_length, *]; done))) (one_enC (hone _ (List.getElem_mem hlt))) (Laid.at (Laid.all (by (simp only [kc_length, kw_length, List.length_replicate, List.length_append, List.length_cons, List.length_nil]; omega))) (by rfl)) rfl ?_
    intro w6 H
    refine WL.nil ?_
    refine WE.reg ?_
    refine WL.mv rfl rfl ?_
    refine WL.mv rfl rfl ?_
    refine WL.pv (PV.fieldAddr rfl TryzT.fd34_0 rfl) rfl ?_
    refine WL.loadR rfl TryzT.ag31 rfl rfl (by exact Blk.segAt (H.l 0 rfl) (Seg.l (Seg.all _)) (by rfl)) (by (rw [TryzT.sz31]; refine congrArg some ?_; (simp only [kc_length, kw_length, List.length_replicate, List.length_append, List.length_cons, List.length_nil]; omega))) ?_
    refine WL.pv (PV.fieldAddr rfl TryzT.fd34_1 rfl) rfl ?_
    refine WL.load1 rfl TryzT.ag32 rfl rfl (by exact Blk.segAt (H.l 0 rfl) (Seg.r (Seg.all _) (by with_reducible rfl)) (by (simp [kc_length, kw_length, *]; done))) ?_
    refine WL.pv (PV.buildS rfl TryzT.pl69 TryzT.ze69 (Fl.cons rfl (by rfl) (by (simp only [kc_length, kw_length, List.length_replicate, List.length_append, List.length_cons, List.length_nil]; omega)) (Laid.left (Laid.all (by (simp only [kc_length, kw_length, List.length_replicate, List.length_append, List.length_cons, List.length_nil]; omega)))) (Fl.cons rfl (cells_one (hone _ (List.getElem_mem hlt))) (by (simp only [kc_length, kw_length, List.length_replicate, List.length_append, List.length_cons, List.length_nil]; done)) (Laid.right (Laid.left (Laid.all (by (simp only [kc_length, kw_length, List.length_replicate, List.length_append, List.length_cons, List.length_nil]; done)))) (by (simp only [kc_length, kw_length, List.length_replicate, List.length_append, List.length_cons, List.length_nil]; omega))) Fl.nil))) rfl ?_
    refine WL.pv (PV.eq (v' := .pointer (some ⟨b11, i * 34, none⟩)) (PV.indexSl rfl TryzT.sl47 TryzT.sz69 rfl rfl (by omega) (by omega)) (by simp)) rfl ?_
    refine WL.storeL H 1 rfl rfl rfl (new := chC (chE l[i])) rfl (by (rw [TryzT.sz69]; refine congrArg some ?_; (simp [kc_length, kw_length, *]; done))) (one_chC (hone _ (List.getElem_mem hlt))) (by have h_ := flG_laid (C := chC) (BS l i) (BS_xl hkl i).len [] (i := i) (x := chE l[i]) (by rw [BS_len _ (by omega)]; exact hlt) hc34 rfl; rw [List.append_nil, List.append_nil] at h_; exact h_) rfl ?_
    intro w7 H
    refine WL.nil ?_
    refine WE.reg ?_
    refine WL.pv (PV.eq (v' := .int .i64 ((i + 1 : Nat) : Int)) (PV.add64 rfl rfl rfl (by omega) (by omega)) (by rfl)) rfl ?_
    refine WL.mv rfl rfl ?_
    refine WL.nil ?_
    replace H := H.forget 0
    exact ⟨i + 1, (by repeat (first | with_reducible exact Off.refl _ _ | refine Off.upd rfl ?_ | refine Off.setAll rfl ?_ | refine Off.forget' rfl ?_)), ⟨rfl, trivial⟩, rfl, ⟨by omega, H.conv (by rw [← hbs]; rfl)⟩, (by omega)⟩
  · skip
    try simp only [decide_eq_true_eq, decide_eq_false_iff_not, ne_eq, Decidable.not_not, Bool.not_eq_true', Bool.not_eq_false', Bool.and_eq_true, Bool.or_eq_true, Bool.not_not, Bool.and_eq_false_iff, Bool.or_eq_false_iff, Int.not_lt, Int.not_le] at hc15
    have hie : i = l.length := by omega
    refine WE.exit ?_
    refine WE.seq_reg ?_
    subst hie
    rw [BS_end] at H
    replace H := H.freeze (i := 0) rfl
    replace H := H.add (show Rob _ (SlX (.slice (some ⟨b11, 0, none⟩) l.length l.length) (l.map chE)) _ from (H.rob 0 rfl).imp fun _ h => (by have h_ := SlC.of_blk (n := l.length) (sz := 34) h (by rw [flG_len _ (chE_xl hkl).len, List.length_map]); unfold SlX; rw [List.length_map]; exact h_))
    replace H := H.add (show Rob _ (CVals (l.map chE)) _ from (by exact (H.rob 4 rfl : Rob _ (Vals l) _).imp fun _ h => chE_vals h))
    refine WL.mv rfl rfl ?_
    refine WL.mv rfl rfl ?_
    have hck_ := hck
    refine WL.call TryzT.fb16 rfl (ApplyOk_c (T := .nil) (m := []) (l := l.map chE) (s := .slice (some ⟨b11, 0, none⟩) l.length l.length) (bits := bits) H.yylt (H.o 0 rfl) (by exact (H.robOld 0 rfl 3 rfl : Rob _ (HAt bh bc bits) _)) (fun _ _ => trivial) (by exact (H.robOld 0 rfl 1 rfl : Rob _ (SlX (.slice (some ⟨b11, 0, none⟩) l.length l.length) (l.map chE)) _)) (by exact (H.robOld 0 rfl 0 rfl : Rob _ (CVals (l.map chE)) _)) (by exact (H.robOld 0 rfl 6 rfl : Rob _ (Rounds) _)) hbits (grow_nil 0).symm List.Pairwise.nil (fun _ h => by cases h) (chE_xl hkl) (chE_sh hsv) (by rw [chE_keys]; exact hck) (by simp; omega)) ?_
    rintro _ w8 ⟨Tv30, mv30, rfl, hTv30, hO, hB, hR⟩
    replace H := H.calledOR 0 rfl hO hB hR
    refine WL.pv (PV.extract rfl rfl rfl) rfl ?_
    refine WL.pv (PV.extract rfl rfl rfl) rfl ?_
    refine WL.as rfl rfl ?_
    refine WL.as rfl rfl ?_
    refine WL.nil ?_
    refine WE.ret ?_
    refine ⟨[_, _], _, .nil _, ⟨rfl, rfl, trivial⟩, ?_⟩
    exact ⟨Tv30, _, rfl, by rw [hTv30, apM_chE]; rfl, H.toOut1, H.o 0 rfl, H.giveO (H.rob 0 rfl)⟩

theorem BuildBad_c {X : Nat → Prop} {w : World} {a0 s : Value} {l : List En} (hX : ∀ b, X b → b < w.heap.size) (hf0 : Rob X (SlE s l) w) (hf1 : Rob X (Vals l) w) (hkl : KL l) (hsv : ShortV l) (hck : chkK (l.map En.k) ≠ 0) (hlen : l.length ≤ 900000) :
    Ret Tryz.prog 11 [a0, s].toArray w fun v w' => v = .tuple [.pointer none, .int .i64 (chkK (l.map En.k))].toArray ∧ Out Nil w w' := by
  refine Ret.of_body (N := 33) Tryz.func11 rfl rfl (by simp) ?_
  have H := St.begin hX
  replace H := H.add (rob0 hf1)
  replace H := H.add (rob0 hf0)
  have hone := OneS.of (hf1.here)
  refine WE.seq_reg ?_
  refine WL.as rfl rfl ?_
  refine WL.as rfl rfl ?_
  refine WL.nil ?_
  refine WE.seq_reg ?_
  refine WL.mv rfl rfl ?_
  refine WL.pv (PV.lenS (by exact (H.p 0 rfl : (SlE s l) _)) TryzT.sl22 rfl) rfl ?_
  refine WL.makeSlice (n := l.length) H rfl TryzT.st47 rfl (by omega) (by omega) rfl ?_
  intro b11 w2 H
  replace H := H.conv (L' := [Ent.blk b11 69 ((BS l 0).flatMap chC)]) (by rw [BS_zero]; rfl)
  refine WL.as rfl rfl ?_
  refine WL.nil ?_
  refine WE.seq ?_
  refine WE.seq_reg ?_
  refine WL.mv rfl rfl ?_
  refine WL.pv (PV.lenS (by exact (H.p 0 rfl : (SlE s l) _)) TryzT.sl22 rfl) rfl ?_
  refine WL.mv rfl rfl ?_
  refine WL.nil ?_
  refine WE.block ?_
  refine WE.loop (α := Nat) [7, 8, 14, 15, 16, 17, 18, 19, 20, 21, 22, 23, 24, 25, 26, 27] (fun i => [(14, .int .i64 (i : Int))]) (fun i wl => i ≤ l.length ∧ St X w wl [] [Ent.blk b11 69 ((BS l i).flatMap chC)] [SlE s l, Vals l]) (fun i => l.length - i) 0 ⟨rfl, trivial⟩ ⟨Nat.zero_le _, H⟩ ?_
  intro i γ0 w4 hI
  try dsimp only at hI
  obtain ⟨hi, H⟩ := hI
  refine WE.seq_reg ?_
  refine WL.pv (PV.lss rfl rfl rfl) rfl ?_
  refine WL.nil ?_
  refine WE.seq ?_
  refine WE.cond rfl (fun hc15 => ?_) (fun hc15 => ?_)
  · skip
    try simp only [decide_eq_true_eq, decide_eq_false_iff_not, ne_eq, Decidable.not_not, Bool.not_eq_true', Bool.not_eq_false', Bool.and_eq_true, Bool.or_eq_true, Bool.not_not, Bool.and_eq_false_iff, Bool.or_eq_false_iff, Int.not_lt, Int.not_le] at hc15
    have hlt : i < l.length := by omega
    have hki := hkl _ (List.getElem_mem hlt)
    have hE2 : (enC l[i]).length = 33 := enC_length hki
    have hc34 : (chC (chE l[i])).length = 34 := chC_len hki
    have hbs := BS_set hlt
    refine WE.skip ?_
    refine WE.seq ?_
    refine WE.block ?_
    refine WE.seq_reg ?_
    refine WL.mv rfl rfl ?_
    refine WL.pv (PV.idxS rfl (by exact (H.p 0 rfl : (SlE s l) _)) TryzT.sl22 TryzT.sz34 rfl rfl (by omega) (by omega)) rfl ?_
    refine WL.loadR rfl TryzT.ag34 rfl rfl (SlE.rd (by exact (H.p 0 rfl : (SlE s l) _)) hkl i hlt) (by (rw [TryzT.sz34]; refine congrArg some ?_; (simp [kc_length, kw_length, *]; done))) ?_
    refine WL.alloc H rfl TryzT.ze34 rfl ?_
    intro b8 w5 H
    refine WL.as rfl rfl ?_
    refine WL.storeL H 0 rfl rfl rfl (new := enC l[i]) rfl (by (rw [TryzT.sz34]; refine congrArg some ?_; (simp [kc_length, kw_length, *]; done))) (one_enC (hone _ (List.getElem_mem hlt))) (Laid.at (Laid.all (by (simp only [kc_length, kw_length, List.length_replicate, List.length_append, List.length_cons, List.length_nil]; omega))) (by rfl)) rfl ?_
    intro w6 H
    refine WL.nil ?_
    refine WE.reg ?_
    refine WL.mv rfl rfl ?_
    refine WL.mv rfl rfl ?_
    refine WL.pv (PV.fieldAddr rfl TryzT.fd34_0 rfl) rfl ?_
    refine WL.loadR rfl TryzT.ag31 rfl rfl (by exact Blk.segAt (H.l 0 rfl) (Seg.l (Seg.all _)) (by rfl)) (by (rw [TryzT.sz31]; refine congrArg some ?_; (simp only [kc_length, kw_length, List.length_replicate, List.length_append, List.length_cons, List.length_nil]; omega))) ?_
    refine WL.pv (PV.fieldAddr rfl TryzT.fd34_1 rfl) rfl ?_
    refine WL.load1 rfl TryzT.ag32 rfl rfl (by exact Blk.segAt (H.l 0 rfl) (Seg.r (Seg.all _) (by with_reducible rfl)) (by (simp [kc_length, kw_length, *]; done))) ?_
    refine WL.pv (PV.buildS rfl TryzT.pl69 TryzT.ze69 (Fl.cons rfl (by rfl) (by (simp only [kc_length, kw_length, List.length_replicate, List.length_append, List.length_cons, List.length_nil]; omega)) (Laid.left (Laid.all (by (simp only [kc_length, kw_length, List.length_replicate, List.length_append, List.length_cons, List.length_nil]; omega)))) (Fl.cons rfl (cells_one (hone _ (List.getElem_mem hlt))) (by (simp only [kc_length, kw_length, List.length_replicate, List.length_append, List.length_cons, List.length_nil]; done)) (Laid.right (Laid.left (Laid.all (by (simp only [kc_length, kw_length, List.length_replicate, List.length_append, List.length_cons, List.length_nil]; done)))) (by (simp only [kc_length, kw_length, List.length_replicate, List.length_append, List.length_cons, List.length_nil]; omega))) Fl.nil))) rfl ?_
    refine WL.pv (PV.eq (v' := .pointer (some ⟨b11, i * 34, none⟩)) (PV.indexSl rfl TryzT.sl47 TryzT.sz69 rfl rfl (by omega) (by omega)) (by simp)) rfl ?_
    refine WL.storeL H 1 rfl rfl rfl (new := chC (chE l[i])) rfl (by (rw [TryzT.sz69]; refine congrArg some ?_; (simp [kc_length, kw_length, *]; done))) (one_chC (hone _ (List.getElem_mem hlt))) (by have h_ := flG_laid (C := chC) (BS l i) (BS_xl hkl i).len [] (i := i) (x := chE l[i]) (by rw [BS_len _ (by omega)]; exact hlt) hc34 rfl; rw [List.append_nil, List.append_nil] at h_; exact h_) rfl ?_
    intro w7 H
    refine WL.nil ?_
    refine WE.reg ?_
    refine WL.pv (PV.eq (v' := .int .i64 ((i + 1 : Nat) : Int)) (PV.add64 rfl rfl rfl (by omega) (by omega)) (by rfl)) rfl ?_
    refine WL.mv rfl rfl ?_
    refine WL.nil ?_
    replace H := H.forget 0
    exact ⟨i + 1, (by repeat (first | with_reducible exact Off.refl _ _ | refine Off.upd rfl ?_ | refine Off.setAll rfl ?_ | refine Off.forget' rfl ?_)), ⟨rfl, trivial⟩, rfl, ⟨by omega, H.conv (by rw [← hbs]; rfl)⟩, (by omega)⟩
  · skip
    try simp only [decide_eq_true_eq, decide_eq_false_iff_not, ne_eq, Decidable.not_not, Bool.not_eq_true', Bool.not_eq_false', Bool.and_eq_true, Bool.or_eq_true, Bool.not_not, Bool.and_eq_false_iff, Bool.or_eq_false_iff, Int.not_lt, Int.not_le] at hc15
    have hie : i = l.length := by omega
    refine WE.exit ?_
    refine WE.seq_reg ?_
    subst hie
    rw [BS_end] at H
    replace H := H.freeze (i := 0) rfl
    replace H := H.add (show Rob _ (SlX (.slice (some ⟨b11, 0, none⟩) l.length l.length) (l.map chE)) _ from (H.rob 0 rfl).imp fun _ h => (by have h_ := SlC.of_blk (n := l.length) (sz := 34) h (by rw [flG_len _ (chE_xl hkl).len, List.length_map]); unfold SlX; rw [List.length_map]; exact h_))
    replace H := H.add (show Rob _ (CVals (l.map chE)) _ from (by exact (H.rob 3 rfl : Rob _ (Vals l) _).imp fun _ h => chE_vals h))
    refine WL.mv rfl rfl ?_
    refine WL.mv rfl rfl ?_
    refine WL.call TryzT.fb16 rfl (ApplyBad_c (l := l.map chE) (s := .slice (some ⟨b11, 0, none⟩) l.length l.length) H.yylt (by exact (H.rob 1 rfl : Rob _ (SlX (.slice (some ⟨b11, 0, none⟩) l.length l.length) (l.map chE)) _)) (by exact (H.rob 0 rfl : Rob _ (CVals (l.map chE)) _)) (chE_xl hkl) (by rw [chE_keys]; exact hck) (by rw [List.length_map]; omega)) ?_
    rintro _ w8 ⟨rfl, hO⟩
    replace H := H.out hO
    refine WL.pv (PV.extract rfl rfl rfl) rfl ?_
    refine WL.pv (PV.extract rfl rfl rfl) rfl ?_
    refine WL.as rfl rfl ?_
    refine WL.as rfl rfl ?_
    refine WL.nil ?_
    refine WE.ret ?_
    refine ⟨[_, _], _, .nil _, ⟨rfl, rfl, trivial⟩, ?_⟩
    rw [chE_keys]
    exact ⟨rfl, H.toOut0⟩

end Go.Sp.Tryz

