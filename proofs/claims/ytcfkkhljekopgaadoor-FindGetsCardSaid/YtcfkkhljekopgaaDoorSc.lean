/- Walks of functions, printed by a program of this session (gen.py) from notes on each function. -/
import Derived.Test.YtcfkkhljekopgaaDoorSb
set_option maxRecDepth 100000
set_option maxHeartbeats 1000000
set_option linter.unusedVariables false
set_option linter.unusedSimpArgs false
namespace Go.Sp.Tryd
open Go.Proofs Go.RowKit Go.Sp

def sg0 (x : UInt32) : UInt32 := (rotr x 7 ^^^ rotr x 18) ^^^ (x >>> UInt32.ofNat 3)
def sg1 (x : UInt32) : UInt32 := (rotr x 17 ^^^ rotr x 19) ^^^ (x >>> UInt32.ofNat 10)
def word (b : List UInt8) (i : Nat) : UInt32 := (((b.getD (4 * i) 0).toUInt32 <<< UInt32.ofNat 24 ||| (b.getD (4 * i + 1) 0).toUInt32 <<< UInt32.ofNat 16) ||| (b.getD (4 * i + 2) 0).toUInt32 <<< UInt32.ofNat 8) ||| (b.getD (4 * i + 3) 0).toUInt32
def ext (w : List UInt32) : List UInt32 := w ++ [((w.getD (w.length - 16) 0 + sg0 (w.getD (w.length - 15) 0)) + w.getD (w.length - 7) 0) + sg1 (w.getD (w.length - 2) 0)]
def sched (b : List UInt8) : Nat → List UInt32
  | 0 => (List.range 16).map (word b)
  | k + 1 => ext (sched b k)
theorem sched_length (b : List UInt8) (k : Nat) : (sched b k).length = 16 + k := by
  induction k with
  | zero => simp [sched]
  | succ k ih => simp [sched, ext, ih]; omega
theorem getD_at {α : Type} {l : List α} {d : α} {i : Nat} (h : i < l.length) : l.getD i d = l[i] := by simp [h]
theorem sched_succ (b : List UInt8) (k : Nat) (h0 : k < (sched b k).length) (h1 : k + 1 < (sched b k).length) (h9 : k + 9 < (sched b k).length) (h14 : k + 14 < (sched b k).length) :
    sched b (k + 1) = sched b k ++ [(((sched b k)[k] + sg0 (sched b k)[k + 1]) + (sched b k)[k + 9]) + sg1 (sched b k)[k + 14]] := by
  have hl := sched_length b k
  show ext (sched b k) = _
  unfold ext
  rw [hl, show 16 + k - 16 = k by omega, show 16 + k - 15 = k + 1 by omega, show 16 + k - 7 = k + 9 by omega, show 16 + k - 2 = k + 14 by omega, getD_at h0, getD_at h1, getD_at h9, getD_at h14]
theorem word_eq (b : List UInt8) (i : Nat) (h : 4 * i + 3 < b.length) : word b i = (((b[4 * i].toUInt32 <<< UInt32.ofNat 24 ||| b[4 * i + 1].toUInt32 <<< UInt32.ofNat 16) ||| b[4 * i + 2].toUInt32 <<< UInt32.ofNat 8) ||| b[4 * i + 3].toUInt32) := by
  unfold word
  rw [getD_at (by omega), getD_at (by omega), getD_at (by omega), getD_at h]

theorem primes_c {X : Nat → Prop} {w : World}  (hX : ∀ b, X b → b < w.heap.size) :
    Ret Tryd.prog 100 [].toArray w fun v w' => Out Nil w w' ∧ Rob X (SlW v roundsL) w' := by
  refine Ret.of_body (N := 2) Tryd.func100 rfl rfl (by decide +revert) ?_
  have H := St.begin hX
  refine WE.seq_reg ?_
  refine WL.as rfl rfl ?_
  refine WL.nil ?_
  refine WE.seq_reg ?_
  refine WL.buildSliceF (l0 := List.replicate 64 (.int .u32 0)) (l := kw roundsL) H rfl TrydT.st143 (by decide) (zrow_one _ _) (Fl.rows (z := .int .u32 0) (kw roundsL) [] (fun v hv => cells_one (kw_one _ v hv))) rfl ?_
  intro b1 w2 H
  refine WL.as rfl rfl ?_
  refine WL.nil ?_
  refine WE.ret ?_
  refine ⟨[_], _, .nil _, ⟨rfl, trivial⟩, ?_⟩
  replace H := H.freeze (i := 0) rfl
  exact ⟨H.toOut0, H.give ((H.rob 0 rfl).imp fun _ h => SlC.slw (SlC.of_blk (n := 64) h rfl))⟩

theorem schedule_c {X : Nat → Prop} {w : World} {a : Value} {la : List UInt8} (hX : ∀ b, X b → b < w.heap.size) (hf0 : Rob X (SlB a la) w) (hla : la.length = 64) :
    Ret Tryd.prog 102 [a].toArray w fun v w' => Out Nil w w' ∧ Rob X (SlW v (sched la 48)) w' := by
  refine Ret.of_body (N := 95) Tryd.func102 rfl rfl (by simp) ?_
  have H := St.begin hX
  replace H := H.add (rob0 hf0)
  refine WE.seq_reg ?_
  refine WL.as rfl rfl ?_
  refine WL.nil ?_
  refine WE.seq_reg ?_
  refine WL.as rfl rfl ?_
  refine WL.nil ?_
  refine WE.seq ?_
  refine WE.seq_reg ?_
  refine WL.as rfl rfl ?_
  refine WL.nil ?_
  refine WE.block ?_
  replace H := H.nilOsl 118 1
  refine WE.loop (α := Nat × Value) [3, 4, 8, 9, 10, 11, 12, 13, 14, 15, 16, 17, 18, 19, 20, 21, 22, 23, 24, 25, 26, 27, 28, 29, 30, 31, 32, 33, 34, 35, 36, 37, 38, 39, 40, 41, 42, 43, 44, 45, 46, 47] (fun p => [(4, .int .i64 p.1), (3, p.2)]) (fun p wl => p.1 ≤ 16 ∧ St X w wl [] [Ent.osl w.heap.size p.2 118 1 p.1 (kw ((List.range p.1).map (word la)))] [SlB a la]) (fun p => 16 - p.1) (0, .slice none 0 0) ⟨rfl, rfl, trivial⟩ ⟨Nat.zero_le _, H⟩ ?_
  intro ⟨i, v⟩ γ0 w1 hI
  try dsimp only at hI
  obtain ⟨hi, H⟩ := hI
  refine WE.seq ?_
  refine WE.seq_reg ?_
  refine WL.mv rfl rfl ?_
  refine WL.pv (PV.lss rfl rfl rfl) rfl ?_
  refine WL.nil ?_
  refine WE.cond rfl (fun hc9 => ?_) (fun hc9 => ?_)
  · skip
    try simp only [decide_eq_true_eq, decide_eq_false_iff_not, ne_eq, Decidable.not_not, Bool.not_eq_true', Bool.not_eq_false', Bool.and_eq_true, Bool.or_eq_true, Bool.not_not, Bool.and_eq_false_iff, Bool.or_eq_false_iff, Int.not_lt, Int.not_le] at hc9
    have hlt : i < 16 := by omega
    refine WE.skip ?_
    refine WE.seq ?_
    refine WE.block ?_
    refine WE.draw (.take 0 (.take 1 (.take 2 (.take 3 (.take 4 (.take 5 (.take 6 (.take 7 (.take 8 (.take 9 (.take 10 (.take 11 (.take 12 (.take 13 (.take 14 (.take 15 (.take 16 (.take 17 (.take 18 (.take 19 (.take 20 (.take 21 (.take 22 (.take 23 (.take 24 (.take 25 (.take 26 (.take 27 (.take 28 (.take 29 (.take 30 (.take 31 (.take 32 (.take 33 (.pick1 34 (.pick1 35 (.take 36 .done))))))))))))))))))))))))))))))))))))) TrydT.mixed (by kernel_rfl) ?_
    replace H := H.out (Out.drew _)
    refine WP.mv rfl rfl rfl ?_
    refine WP.mv rfl rfl rfl ?_
    refine WP.mv rfl rfl rfl ?_
    refine WP.take_pure rfl rfl (PV.mul64 rfl rfl rfl (by omega) (by omega)) ?_
    refine WP.take_pure rfl rfl (PV.idxS rfl (H.p 0 rfl) TrydT.sl33 TrydT.sz5 rfl rfl (by omega) (by omega)) ?_
    refine WP.take_read rfl rfl (RV.loadOne rfl TrydT.ag5 rfl) (SlB.rd (H.p 0 rfl) (4 * i) (by omega)) ?_
    refine WP.take_pure rfl rfl (PV.c8_32 rfl TrydT.in5 TrydT.in118 rfl) ?_
    refine WP.take_pure rfl rfl (PV.shl32 (n := 24) rfl rfl rfl (by omega)) ?_
    refine WP.mv rfl rfl rfl ?_
    refine WP.mv rfl rfl rfl ?_
    refine WP.take_pure rfl rfl (PV.mul64 rfl rfl rfl (by omega) (by omega)) ?_
    refine WP.take_pure rfl rfl (PV.add64 rfl rfl rfl (by omega) (by omega)) ?_
    refine WP.take_pure rfl rfl (PV.idxS rfl (H.p 0 rfl) TrydT.sl33 TrydT.sz5 rfl rfl (by omega) (by omega)) ?_
    refine WP.take_read rfl rfl (RV.loadOne rfl TrydT.ag5 rfl) (SlB.rd (H.p 0 rfl) (4 * i + 1) (by omega)) ?_
    refine WP.take_pure rfl rfl (PV.c8_32 rfl TrydT.in5 TrydT.in118 rfl) ?_
    refine WP.take_pure rfl rfl (PV.shl32 (n := 16) rfl rfl rfl (by omega)) ?_
    refine WP.take_pure rfl rfl (PV.or32 rfl rfl rfl) ?_
    refine WP.mv rfl rfl rfl ?_
    refine WP.mv rfl rfl rfl ?_
    refine WP.take_pure rfl rfl (PV.mul64 rfl rfl rfl (by omega) (by omega)) ?_
    refine WP.take_pure rfl rfl (PV.add64 rfl rfl rfl (by omega) (by omega)) ?_
    refine WP.take_pure rfl rfl (PV.idxS rfl (H.p 0 rfl) TrydT.sl33 TrydT.sz5 rfl rfl (by omega) (by omega)) ?_
    refine WP.take_read rfl rfl (RV.loadOne rfl TrydT.ag5 rfl) (SlB.rd (H.p 0 rfl) (4 * i + 2) (by omega)) ?_
    refine WP.take_pure rfl rfl (PV.c8_32 rfl TrydT.in5 TrydT.in118 rfl) ?_
    refine WP.take_pure rfl rfl (PV.shl32 (n := 8) rfl rfl rfl (by omega)) ?_
    refine WP.take_pure rfl rfl (PV.or32 rfl rfl rfl) ?_
    refine WP.mv rfl rfl rfl ?_
    refine WP.mv rfl rfl rfl ?_
    refine WP.take_pure rfl rfl (PV.mul64 rfl rfl rfl (by omega) (by omega)) ?_
    refine WP.take_pure rfl rfl (PV.add64 rfl rfl rfl (by omega) (by omega)) ?_
    refine WP.take_pure rfl rfl (PV.idxS rfl (H.p 0 rfl) TrydT.sl33 TrydT.sz5 rfl rfl (by omega) (by omega)) ?_
    refine WP.take_read rfl rfl (RV.loadOne rfl TrydT.ag5 rfl) (SlB.rd (H.p 0 rfl) (4 * i + 3) (by omega)) ?_
    refine WP.take_pure rfl rfl (PV.c8_32 rfl TrydT.in5 TrydT.in118 rfl) ?_
    refine WP.take_pure rfl rfl (PV.or32 rfl rfl rfl) ?_
    refine WP.pick1 rfl ?_
    refine WL.buildSliceF (l0 := [.int .u32 (0)]) H rfl TrydT.st143 (by decide) (zrow_one _ _) (Fl.cons rfl (by rfl) (by (simp only [kc_length, kw_length, List.length_replicate, List.length_append, List.length_cons, List.length_nil]; done)) Laid.head Fl.nil) rfl ?_
    intro b46 w2 H
    refine WL.nil ⟨(List.forall_mem_cons.2 ⟨(by exact (fun h => absurd (show waits _ 34 31 = false from h) (by decide +kernel))), (List.forall_mem_cons.2 ⟨(by exact (fun h => absurd (show waits _ 34 22 = false from h) (by decide +kernel))), (List.forall_mem_cons.2 ⟨(by exact (fun h => absurd (show waits _ 34 13 = false from h) (by decide +kernel))), (List.forall_mem_cons.2 ⟨(by exact (fun h => absurd (show waits _ 34 5 = false from h) (by decide +kernel))), (fun _ h => by cases h)⟩)⟩)⟩)⟩), ?_⟩
    refine WP.pick1 rfl ?_
    refine WL.append H 1 TrydT.st143 (by decide) rfl rfl rfl (SlC.of_blk (n := 1) (H.l 0 rfl) rfl) (by exact one_lit _ rfl) (by omega) (by decide) rfl ?_
    intro v47 w3 H
    refine WL.nil ⟨(List.forall_mem_cons.2 ⟨(by exact (fun h => absurd (show waits _ 35 31 = false from h) (by decide +kernel))), (List.forall_mem_cons.2 ⟨(by exact (fun h => absurd (show waits _ 35 22 = false from h) (by decide +kernel))), (List.forall_mem_cons.2 ⟨(by exact (fun h => absurd (show waits _ 35 13 = false from h) (by decide +kernel))), (List.forall_mem_cons.2 ⟨(by exact (fun h => absurd (show waits _ 35 5 = false from h) (by decide +kernel))), (fun _ h => by cases h)⟩)⟩)⟩)⟩), ?_⟩
    refine WP.as rfl rfl rfl ?_
    refine WP.done ?_
    refine WE.reg ?_
    refine WL.mv rfl rfl ?_
    refine WL.pv (PV.add64 rfl rfl rfl (by omega) (by omega)) rfl ?_
    refine WL.as rfl rfl ?_
    refine WL.nil ?_
    replace H := H.forget 0
    have e : kw ((List.range (i + 1)).map (word la)) = kw ((List.range i).map (word la)) ++ [.int .u32 ((word la i).toNat : Int)] := by rw [List.range_succ, List.map_append, kw_append]; rfl
    rw [word_eq la i (by omega)] at e
    exact ⟨(i + 1, v47), (by repeat (first | with_reducible exact Off.refl _ _ | refine Off.upd rfl ?_ | refine Off.setAll rfl ?_ | refine Off.forget' rfl ?_)), ⟨rfl, rfl, trivial⟩, rfl, ⟨by dsimp only; omega, H.conv (by rw [e]; rfl)⟩, (by dsimp only; omega)⟩
  · skip
    try simp only [decide_eq_true_eq, decide_eq_false_iff_not, ne_eq, Decidable.not_not, Bool.not_eq_true', Bool.not_eq_false', Bool.and_eq_true, Bool.or_eq_true, Bool.not_not, Bool.and_eq_false_iff, Bool.or_eq_false_iff, Int.not_lt, Int.not_le] at hc9
    obtain rfl : i = 16 := by omega
    refine WE.exit ?_
    refine WE.seq ?_
    refine WE.seq_reg ?_
    refine WL.as rfl rfl ?_
    refine WL.nil ?_
    refine WE.block ?_
    refine WE.loop (α := Nat × Value) [3, 5, 6, 7, 48, 49, 50, 51, 52, 53, 54, 55, 56, 57, 58, 59, 60, 61, 62, 63, 64, 65, 66, 67, 68, 69, 70, 71, 72, 73, 74, 75, 76, 77, 78, 79, 80, 81, 82, 83, 84, 85, 86, 87, 88, 89, 90, 91, 92, 93] (fun p => [(5, .int .i64 ((16 + p.1 : Nat) : Int)), (3, p.2)]) (fun p wl => p.1 ≤ 48 ∧ St X w wl [] [Ent.osl w.heap.size p.2 118 1 (16 + p.1) (kw (sched la p.1))] [SlB a la]) (fun p => 48 - p.1) (0, v) ⟨rfl, rfl, trivial⟩ ⟨Nat.zero_le _, H⟩ ?_
    intro ⟨k, u⟩ γ1 w4 hI
    try dsimp only at hI
    obtain ⟨hk, H⟩ := hI
    have hS := sched_length la k
    refine WE.seq ?_
    refine WE.seq_reg ?_
    refine WL.mv rfl rfl ?_
    refine WL.pv (PV.lss rfl rfl rfl) rfl ?_
    refine WL.nil ?_
    refine WE.cond rfl (fun hc49 => ?_) (fun hc49 => ?_)
    · skip
      try simp only [decide_eq_true_eq, decide_eq_false_iff_not, ne_eq, Decidable.not_not, Bool.not_eq_true', Bool.not_eq_false', Bool.and_eq_true, Bool.or_eq_true, Bool.not_not, Bool.and_eq_false_iff, Bool.or_eq_false_iff, Int.not_lt, Int.not_le] at hc49
      have hlt : k < 48 := by omega
      refine WE.skip ?_
      refine WE.seq ?_
      refine WE.block ?_
      refine WE.seq_reg ?_
      refine WL.mv rfl rfl ?_
      refine WL.mv rfl rfl ?_
      refine WL.pv (PV.eq (v' := .int .i64 ((k + 1 : Nat) : Int)) (PV.sub64 rfl rfl rfl (by omega) (by omega)) (by congr 1; omega)) rfl ?_
      refine WL.pv (PV.idxS rfl (SlC.of_own (H.l 0 rfl)) TrydT.sl143 TrydT.sz118 rfl rfl (by omega) (by omega)) rfl ?_
      refine WL.load1 rfl TrydT.ag118 rfl rfl (by exact SlC.rdw (SlC.of_own (H.l 0 rfl)) (k + 1) (by rw [hS]; omega)) ?_
      refine WL.as rfl rfl ?_
      refine WL.nil ?_
      refine WE.seq_reg ?_
      refine WL.mv rfl rfl ?_
      refine WL.mv rfl rfl ?_
      refine WL.pv (PV.eq (v' := .int .i64 ((k + 14 : Nat) : Int)) (PV.sub64 rfl rfl rfl (by omega) (by omega)) (by congr 1; omega)) rfl ?_
      refine WL.pv (PV.idxS rfl (SlC.of_own (H.l 0 rfl)) TrydT.sl143 TrydT.sz118 rfl rfl (by omega) (by omega)) rfl ?_
      refine WL.load1 rfl TrydT.ag118 rfl rfl (by exact SlC.rdw (SlC.of_own (H.l 0 rfl)) (k + 14) (by rw [hS]; omega)) ?_
      refine WL.as rfl rfl ?_
      refine WL.nil ?_
      refine WE.draw (.take 0 (.take 1 (.take 2 (.take 3 (.take 4 (.take 5 (.take 6 (.take 8 (.take 11 (.take 12 (.take 15 (.take 16 (.take 17 (.take 18 (.take 19 (.take 21 (.take 23 (.take 26 (.take 27 (.pick1 7 (.pick1 9 (.take 10 (.take 13 (.take 14 (.take 20 (.pick1 22 (.pick1 24 (.take 25 (.take 28 (.take 29 (.pick1 30 (.pick1 31 (.take 32 .done))))))))))))))))))))))))))))))))) TrydT.mixed (by kernel_rfl) ?_
      replace H := H.out (Out.drew _)
      refine WP.mv rfl rfl rfl ?_
      refine WP.mv rfl rfl rfl ?_
      refine WP.mv rfl rfl rfl ?_
      refine WP.take_pure rfl rfl (PV.eq (v' := .int .i64 ((k : Nat) : Int)) (PV.sub64 rfl rfl rfl (by omega) (by omega)) (by congr 1; omega)) ?_
      refine WP.take_pure rfl rfl (PV.idxS rfl (SlC.of_own (H.l 0 rfl)) TrydT.sl143 TrydT.sz118 rfl rfl (by omega) (by omega)) ?_
      refine WP.take_read rfl rfl (RV.loadOne rfl TrydT.ag118 rfl) (by exact SlC.rdw (SlC.of_own (H.l 0 rfl)) (k) (by rw [hS]; omega)) ?_
      refine WP.mv rfl rfl rfl ?_
      refine WP.mv rfl rfl rfl ?_
      refine WP.mv rfl rfl rfl ?_
      refine WP.take_pure rfl rfl (PV.shr32 (n := 3) rfl rfl rfl (by omega)) ?_
      refine WP.mv rfl rfl rfl ?_
      refine WP.mv rfl rfl rfl ?_
      refine WP.take_pure rfl rfl (PV.eq (v' := .int .i64 ((k + 9 : Nat) : Int)) (PV.sub64 rfl rfl rfl (by omega) (by omega)) (by congr 1; omega)) ?_
      refine WP.take_pure rfl rfl (PV.idxS rfl (SlC.of_own (H.l 0 rfl)) TrydT.sl143 TrydT.sz118 rfl rfl (by omega) (by omega)) ?_
      refine WP.take_read rfl rfl (RV.loadOne rfl TrydT.ag118 rfl) (by exact SlC.rdw (SlC.of_own (H.l 0 rfl)) (k + 9) (by rw [hS]; omega)) ?_
      refine WP.mv rfl rfl rfl ?_
      refine WP.mv rfl rfl rfl ?_
      refine WP.mv rfl rfl rfl ?_
      refine WP.take_pure rfl rfl (PV.shr32 (n := 10) rfl rfl rfl (by omega)) ?_
      refine WP.pick1 rfl ?_
      refine WL.call TrydT.fb103 rfl (turn_c (x := (sched la k)[k + 1]'(by rw [hS]; omega)) (n := 7) H.yylt (by decide) (by decide)) ?_
      rintro _ w5 ⟨rfl, hO⟩
      replace H := H.out hO
      refine WL.nil ⟨(List.forall_mem_cons.2 ⟨(fun _ _ => (by exact SlC.rdw (SlC.of_own (H.l 0 rfl)) (k + 9) (by rw [hS]; omega))), (List.forall_mem_cons.2 ⟨(fun _ _ => (by exact SlC.rdw (SlC.of_own (H.l 0 rfl)) (k) (by rw [hS]; omega))), (fun _ h => by cases h)⟩)⟩), ?_⟩
      refine WP.pick1 rfl ?_
      refine WL.call TrydT.fb103 rfl (turn_c (x := (sched la k)[k + 1]'(by rw [hS]; omega)) (n := 18) H.yylt (by decide) (by decide)) ?_
      rintro _ w6 ⟨rfl, hO⟩
      replace H := H.out hO
      refine WL.nil ⟨(List.forall_mem_cons.2 ⟨(fun _ _ => (by exact SlC.rdw (SlC.of_own (H.l 0 rfl)) (k + 9) (by rw [hS]; omega))), (List.forall_mem_cons.2 ⟨(fun _ _ => (by exact SlC.rdw (SlC.of_own (H.l 0 rfl)) (k) (by rw [hS]; omega))), (fun _ h => by cases h)⟩)⟩), ?_⟩
      refine WP.take_pure rfl rfl (PV.xor32 rfl rfl rfl) ?_
      refine WP.take_pure rfl rfl (PV.xor32 rfl rfl rfl) ?_
      refine WP.take_pure rfl rfl (PV.add32 rfl rfl rfl) ?_
      refine WP.take_pure rfl rfl (PV.add32 rfl rfl rfl) ?_
      refine WP.pick1 rfl ?_
      refine WL.call TrydT.fb103 rfl (turn_c (x := (sched la k)[k + 14]'(by rw [hS]; omega)) (n := 17) H.yylt (by decide) (by decide)) ?_
      rintro _ w7 ⟨rfl, hO⟩
      replace H := H.out hO
      refine WL.nil ⟨(List.forall_mem_cons.2 ⟨(fun _ _ => (by exact SlC.rdw (SlC.of_own (H.l 0 rfl)) (k + 9) (by rw [hS]; omega))), (List.forall_mem_cons.2 ⟨(fun _ _ => (by exact SlC.rdw (SlC.of_own (H.l 0 rfl)) (k) (by rw [hS]; omega))), (fun _ h => by cases h)⟩)⟩), ?_⟩
      refine WP.pick1 rfl ?_
      refine WL.call TrydT.fb103 rfl (turn_c (x := (sched la k)[k + 14]'(by rw [hS]; omega)) (n := 19) H.yylt (by decide) (by decide)) ?_
      rintro _ w8 ⟨rfl, hO⟩
      replace H := H.out hO
      refine WL.nil ⟨(List.forall_mem_cons.2 ⟨(fun _ _ => (by exact SlC.rdw (SlC.of_own (H.l 0 rfl)) (k + 9) (by rw [hS]; omega))), (List.forall_mem_cons.2 ⟨(fun _ _ => (by exact SlC.rdw (SlC.of_own (H.l 0 rfl)) (k) (by rw [hS]; omega))), (fun _ h => by cases h)⟩)⟩), ?_⟩
      refine WP.take_pure rfl rfl (PV.xor32 rfl rfl rfl) ?_
      refine WP.take_pure rfl rfl (PV.xor32 rfl rfl rfl) ?_
      refine WP.take_pure rfl rfl (PV.add32 rfl rfl rfl) ?_
      refine WP.pick1 rfl ?_
      refine WL.buildSliceF (l0 := [.int .u32 (0)]) H rfl TrydT.st143 (by decide) (zrow_one _ _) (Fl.cons rfl (by rfl) (by (simp only [kc_length, kw_length, List.length_replicate, List.length_append, List.length_cons, List.length_nil]; done)) Laid.head Fl.nil) rfl ?_
      intro b92 w9 H
      refine WL.nil ⟨(List.forall_mem_cons.2 ⟨(by exact (fun h => absurd (show waits _ 30 19 = false from h) (by decide +kernel))), (List.forall_mem_cons.2 ⟨(by exact (fun h => absurd (show waits _ 30 5 = false from h) (by decide +kernel))), (fun _ h => by cases h)⟩)⟩), ?_⟩
      refine WP.pick1 rfl ?_
      refine WL.append H 1 TrydT.st143 (by decide) rfl rfl rfl (SlC.of_blk (n := 1) (H.l 0 rfl) rfl) (by exact one_lit _ rfl) (by omega) (by decide) rfl ?_
      intro v93 w10 H
      refine WL.nil ⟨(List.forall_mem_cons.2 ⟨(by exact (fun h => absurd (show waits _ 31 19 = false from h) (by decide +kernel))), (List.forall_mem_cons.2 ⟨(by exact (fun h => absurd (show waits _ 31 5 = false from h) (by decide +kernel))), (fun _ h => by cases h)⟩)⟩), ?_⟩
      refine WP.as rfl rfl rfl ?_
      refine WP.done ?_
      refine WE.reg ?_
      refine WL.mv rfl rfl ?_
      refine WL.pv (PV.add64 rfl rfl rfl (by omega) (by omega)) rfl ?_
      refine WL.as rfl rfl ?_
      refine WL.nil ?_
      replace H := H.forget 0
      have e := sched_succ la k (by omega) (by omega) (by omega) (by omega)
      exact ⟨(k + 1, v93), (by repeat (first | with_reducible exact Off.refl _ _ | refine Off.upd rfl ?_ | refine Off.setAll rfl ?_ | refine Off.forget' rfl ?_)), ⟨rfl, rfl, trivial⟩, rfl, ⟨by dsimp only; omega, H.conv (by rw [e, kw_snoc]; rfl)⟩, (by dsimp only; omega)⟩
    · skip
      try simp only [decide_eq_true_eq, decide_eq_false_iff_not, ne_eq, Decidable.not_not, Bool.not_eq_true', Bool.not_eq_false', Bool.and_eq_true, Bool.or_eq_true, Bool.not_not, Bool.and_eq_false_iff, Bool.or_eq_false_iff, Int.not_lt, Int.not_le] at hc49
      obtain rfl : k = 48 := by omega
      refine WE.exit ?_
      refine WE.seq_reg ?_
      refine WL.mv rfl rfl ?_
      refine WL.as rfl rfl ?_
      refine WL.nil ?_
      refine WE.ret ?_
      refine ⟨[_], _, .nil _, ⟨rfl, trivial⟩, ?_⟩
      replace H := H.freeze (i := 0) rfl
      exact ⟨H.toOut0, H.give ((H.rob 0 rfl).imp fun _ h => SlC.slw (SlC.of_own h))⟩

end Go.Sp.Tryd
