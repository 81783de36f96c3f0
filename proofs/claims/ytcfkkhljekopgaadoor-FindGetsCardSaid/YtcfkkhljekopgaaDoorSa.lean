/- Walks of functions, printed by a program of this session (gen.py) from notes on each function. -/
import Derived.Test.YtcfkkhljekopgaaDoorTy
import Derived.Test.YtcfkkhljekopgaaDoorWords
set_option maxRecDepth 100000
set_option maxHeartbeats 1000000
set_option linter.unusedVariables false
set_option linter.unusedSimpArgs false
namespace Go.Sp.Tryd
open Go.Proofs Go.RowKit Go.Sp

def rotr (x : UInt32) (n : Nat) : UInt32 := (x >>> UInt32.ofNat n) ||| (x <<< UInt32.ofNat (32 - n))
def rights (x : UInt32) (l : List Nat) : UInt32 := l.foldl (fun s n => s ^^^ rotr x n) 0
theorem rights_take (x : UInt32) (l : List Nat) (k : Nat) (h : k < l.length) : rights x (l.take (k + 1)) = rights x (l.take k) ^^^ rotr x l[k] := by
  unfold rights
  rw [List.take_succ_eq_append_getElem h, List.foldl_append]; rfl
theorem and31 : ∀ n : Fin 32, 0 < n.val → IntKind.u64.wrap ((BitVec.ofInt IntKind.u64.bits (IntKind.u64.wrap (-(n.val : Int))) &&& BitVec.ofInt IntKind.u64.bits 31).toNat) = ((32 - n.val : Nat) : Int) := by decide +kernel
/-- a slice of numbers -/
def SlN (v : Value) (l : List Nat) (w : World) : Prop := SlV v (l.map fun (n : Nat) => Value.int .i64 (n : Int)) w
theorem SlN.rd {v : Value} {l : List Nat} {w : World} (h : SlN v l w) (i : Nat) (hi : i < l.length) : RdA w (sAddr v (i * 1)) [.int .i64 (l[i] : Int)] := by
  have := SlV.rd h i (by simpa using hi)
  simpa using this
theorem SlN.sl {v : Value} {l : List Nat} {w : World} (h : SlN v l w) : SlC w v 1 l.length (l.map fun (n : Nat) => Value.int .i64 (n : Int)) := by
  have : SlC w v 1 (l.map fun (n : Nat) => Value.int .i64 (n : Int)).length (l.map fun (n : Nat) => Value.int .i64 (n : Int)) := h
  simpa using this
def blocksOf (n : Int) : Int := if n < 0 ∨ 1152921504606846976 < n then 0 else (n + 72) / 64

theorem turn_c {X : Nat → Prop} {w : World} {x : UInt32} {n : Nat} (hX : ∀ b, X b → b < w.heap.size) (hn0 : 0 < n) (hn : n < 32) :
    Ret Tryd.prog 103 [.int .u32 (x.toNat : Int), .int .u64 (n : Int)].toArray w fun v w' => v = .int .u32 ((rotr x n).toNat : Int) ∧ Out Nil w w' := by
  refine Ret.of_body (N := 13) Tryd.func103 rfl rfl (by simp) ?_
  have H := St.begin hX
  refine WE.seq_reg ?_
  refine WL.as rfl rfl ?_
  refine WL.nil ?_
  refine WE.seq_reg ?_
  refine WL.mv rfl rfl ?_
  refine WL.mv rfl rfl ?_
  refine WL.pv (PV.shr32 (n := n) rfl rfl rfl (by omega)) rfl ?_
  refine WL.mv rfl rfl ?_
  refine WL.mv rfl rfl ?_
  refine WL.pv (PV.eq (v' := .int .u64 ((32 - n : Nat) : Int)) (PV.subw rfl rfl rfl) (by rw [wrapu64]; congr 1; omega)) rfl ?_
  refine WL.pv (PV.shl32 (n := 32 - n) rfl rfl rfl (by omega)) rfl ?_
  refine WL.pv (PV.or32 rfl rfl rfl) rfl ?_
  refine WL.as rfl rfl ?_
  refine WL.nil ?_
  refine WE.ret ?_
  refine ⟨[_], _, .nil _, ⟨rfl, trivial⟩, ?_⟩
  exact ⟨rfl, H.toOut0⟩

theorem RotateLeft32_c {X : Nat → Prop} {w : World} {x : UInt32} {n : Nat} (hX : ∀ b, X b → b < w.heap.size) (hn0 : 0 < n) (hn : n < 32) :
    Ret Tryd.prog 105 [.int .u32 (x.toNat : Int), .int .i64 (-(n : Int))].toArray w fun v w' => v = .int .u32 ((rotr x n).toNat : Int) ∧ Out Nil w w' := by
  refine Ret.of_body (N := 17) Tryd.func105 rfl rfl (by simp) ?_
  have H := St.begin hX
  refine WE.seq_reg ?_
  refine WL.as rfl rfl ?_
  refine WL.nil ?_
  refine WE.seq_reg ?_
  refine WL.mv rfl rfl ?_
  refine WL.pv (PV.conv rfl TrydT.in3 TrydT.in135 rfl) rfl ?_
  refine WL.pv (PV.eq (v' := .int .u64 ((32 - n : Nat) : Int)) (PV.andw rfl rfl rfl) (congrArg (Value.int .u64) (and31 ⟨n, hn⟩ hn0))) rfl ?_
  refine WL.as rfl rfl ?_
  refine WL.nil ?_
  refine WE.seq_reg ?_
  refine WL.mv rfl rfl ?_
  refine WL.mv rfl rfl ?_
  refine WL.pv (PV.shl32 (n := 32 - n) rfl rfl rfl (by omega)) rfl ?_
  refine WL.mv rfl rfl ?_
  refine WL.mv rfl rfl ?_
  refine WL.pv (PV.eq (v' := .int .u64 ((n : Nat) : Int)) (PV.subw rfl rfl rfl) (by rw [wrapu64]; congr 1; omega)) rfl ?_
  refine WL.pv (PV.shr32 (n := n) rfl rfl rfl (by omega)) rfl ?_
  refine WL.pv (PV.or32 rfl rfl rfl) rfl ?_
  refine WL.as rfl rfl ?_
  refine WL.nil ?_
  refine WE.ret ?_
  refine ⟨[_], _, .nil _, ⟨rfl, trivial⟩, ?_⟩
  refine ⟨?_, H.toOut0⟩
  show Value.int .u32 _ = _
  rw [UInt32.or_comm]; rfl

theorem right_c {X : Nat → Prop} {w : World} {x : UInt32} {s : Value} {l : List Nat} (hX : ∀ b, X b → b < w.heap.size) (hf0 : Rob X (SlN s l) w) (hl : ∀ n ∈ l, 0 < n ∧ n < 32) (hll : l.length ≤ 1000) :
    Ret Tryd.prog 95 [.int .u32 (x.toNat : Int), s].toArray w fun v w' => v = .int .u32 ((rights x l).toNat : Int) ∧ Out Nil w w' := by
  refine Ret.of_body (N := 22) Tryd.func95 rfl rfl (by simp) ?_
  have H := St.begin hX
  replace H := H.add (rob0 hf0)
  refine WE.seq_reg ?_
  refine WL.as rfl rfl ?_
  refine WL.nil ?_
  refine WE.seq_reg ?_
  refine WL.as rfl rfl ?_
  refine WL.nil ?_
  refine WE.seq ?_
  refine WE.seq_reg ?_
  refine WL.mv rfl rfl ?_
  refine WL.pv (PV.lenS (SlN.sl (H.p 0 rfl)) TrydT.sl147 rfl) rfl ?_
  refine WL.mv rfl rfl ?_
  refine WL.nil ?_
  refine WE.block ?_
  refine WE.loop (α := Nat) [5, 7, 10, 11, 12, 13, 14, 15, 16, 17, 18, 19, 20] (fun k => [(10, .int .i64 k), (5, .int .u32 ((rights x (l.take k)).toNat : Int))]) (fun k wl => k ≤ l.length ∧ St X w wl [] [] [SlN s l]) (fun k => l.length - k) 0 ⟨rfl, rfl, trivial⟩ ⟨Nat.zero_le _, H⟩ ?_
  intro k γ0 w1 hI
  try dsimp only at hI
  obtain ⟨hk, H⟩ := hI
  refine WE.seq_reg ?_
  refine WL.pv (PV.lss rfl rfl rfl) rfl ?_
  refine WL.nil ?_
  refine WE.seq ?_
  refine WE.cond rfl (fun hc11 => ?_) (fun hc11 => ?_)
  · skip
    try simp only [decide_eq_true_eq, decide_eq_false_iff_not, ne_eq, Decidable.not_not, Bool.not_eq_true', Bool.not_eq_false', Bool.and_eq_true, Bool.or_eq_true, Bool.not_not, Bool.and_eq_false_iff, Bool.or_eq_false_iff, Int.not_lt, Int.not_le] at hc11
    have hlt : k < l.length := by omega
    have hR := rights_take x l k hlt
    refine WE.skip ?_
    refine WE.seq ?_
    refine WE.block ?_
    refine WE.seq_reg ?_
    refine WL.pv (PV.idxS rfl (SlN.sl (H.p 0 rfl)) TrydT.sl147 TrydT.sz3 rfl rfl (by omega) (by omega)) rfl ?_
    refine WL.load1 rfl TrydT.ag3 rfl rfl (SlN.rd (H.p 0 rfl) k hlt) ?_
    refine WL.as rfl rfl ?_
    refine WL.nil ?_
    refine WE.reg ?_
    refine WL.mv rfl rfl ?_
    refine WL.mv rfl rfl ?_
    refine WL.mv rfl rfl ?_
    refine WL.pv (PV.eq (v' := .int .i64 (-(l[k] : Int))) (PV.negw rfl rfl) (by have := hl _ (List.getElem_mem hlt); rw [wrap64_in (by omega) (by omega)]; congr 1; omega)) rfl ?_
    refine WL.call TrydT.fb105 rfl (RotateLeft32_c (x := x) (n := l[k]) H.yylt (hl _ (List.getElem_mem hlt)).1 (hl _ (List.getElem_mem hlt)).2) ?_
    rintro _ w2 ⟨rfl, hO⟩
    replace H := H.out hO
    refine WL.pv (PV.xor32 rfl rfl rfl) rfl ?_
    refine WL.as rfl rfl ?_
    refine WL.nil ?_
    refine WE.reg ?_
    refine WL.pv (PV.add64 rfl rfl rfl (by omega) (by omega)) rfl ?_
    refine WL.mv rfl rfl ?_
    refine WL.nil ?_
    exact ⟨k + 1, (by repeat (first | with_reducible exact Off.refl _ _ | refine Off.upd rfl ?_ | refine Off.setAll rfl ?_ | refine Off.forget' rfl ?_)), ⟨rfl, by rw [hR]; rfl, trivial⟩, rfl, ⟨by omega, H⟩, (by omega)⟩
  · skip
    try simp only [decide_eq_true_eq, decide_eq_false_iff_not, ne_eq, Decidable.not_not, Bool.not_eq_true', Bool.not_eq_false', Bool.and_eq_true, Bool.or_eq_true, Bool.not_not, Bool.and_eq_false_iff, Bool.or_eq_false_iff, Int.not_lt, Int.not_le] at hc11
    have hge : k = l.length := by omega
    refine WE.exit ?_
    refine WE.seq_reg ?_
    refine WL.mv rfl rfl ?_
    refine WL.as rfl rfl ?_
    refine WL.nil ?_
    refine WE.ret ?_
    refine ⟨[_], _, .nil _, ⟨rfl, trivial⟩, ?_⟩
    refine ⟨?_, H.toOut0⟩
    subst hge
    show Value.int .u32 _ = _
    rw [List.take_length]

theorem Blocks_c {X : Nat → Prop} {w : World} {n : Int} (hX : ∀ b, X b → b < w.heap.size) (hn : -9223372036854775808 ≤ n ∧ n ≤ 9223372036854775807) :
    Ret Tryd.prog 97 [.int .i64 n].toArray w fun v w' => v = .int .i64 (blocksOf n) ∧ Out Nil w w' := by
  refine Ret.of_body (N := 13) Tryd.func97 rfl rfl (by simp) ?_
  have H := St.begin hX
  refine WE.seq_reg ?_
  refine WL.as rfl rfl ?_
  refine WL.nil ?_
  refine WE.seq ?_
  refine WE.seq_reg ?_
  refine WL.mv rfl rfl ?_
  refine WL.pv (PV.lss rfl rfl rfl) rfl ?_
  refine WL.mv rfl rfl ?_
  refine WL.split (t := 5) rfl (fun hg5 => ?_) (fun hg5 => ?_)
  · skip
    refine WL.known (t := 4) (c := true) rfl hg5 ?_
    try simp only [decide_eq_true_eq, decide_eq_false_iff_not, ne_eq, Decidable.not_not, Bool.not_eq_true', Bool.not_eq_false', Bool.and_eq_true, Bool.or_eq_true, Bool.not_not, Bool.and_eq_false_iff, Bool.or_eq_false_iff, Int.not_lt, Int.not_le] at hg5
    refine WL.off rfl ?_
    refine WL.off rfl ?_
    refine WL.pv (PV.pick_t rfl rfl rfl) rfl ?_
    refine WL.nil ?_
    refine WE.cond_t rfl ?_
    refine WE.seq_reg ?_
    refine WL.as rfl rfl ?_
    refine WL.nil ?_
    refine WE.ret ?_
    refine ⟨[_], _, .nil _, ⟨rfl, trivial⟩, ?_⟩
    refine ⟨?_, H.toOut0⟩
    rw [blocksOf, if_pos (by omega)]; rfl
  · skip
    refine WL.known (t := 4) (c := false) rfl hg5 ?_
    try simp only [decide_eq_true_eq, decide_eq_false_iff_not, ne_eq, Decidable.not_not, Bool.not_eq_true', Bool.not_eq_false', Bool.and_eq_true, Bool.or_eq_true, Bool.not_not, Bool.and_eq_false_iff, Bool.or_eq_false_iff, Int.not_lt, Int.not_le] at hg5
    refine WL.mv rfl rfl ?_
    refine WL.pv (PV.gtr rfl rfl rfl) rfl ?_
    refine WL.pv (PV.pick_f rfl rfl rfl) rfl ?_
    refine WL.nil ?_
    refine WE.cond rfl (fun hc8 => ?_) (fun hc8 => ?_)
    · skip
      try simp only [decide_eq_true_eq, decide_eq_false_iff_not, ne_eq, Decidable.not_not, Bool.not_eq_true', Bool.not_eq_false', Bool.and_eq_true, Bool.or_eq_true, Bool.not_not, Bool.and_eq_false_iff, Bool.or_eq_false_iff, Int.not_lt, Int.not_le] at hc8
      refine WE.seq_reg ?_
      refine WL.as rfl rfl ?_
      refine WL.nil ?_
      refine WE.ret ?_
      refine ⟨[_], _, .nil _, ⟨rfl, trivial⟩, ?_⟩
      refine ⟨?_, H.toOut0⟩
      rw [blocksOf, if_pos (by omega)]; rfl
    · skip
      try simp only [decide_eq_true_eq, decide_eq_false_iff_not, ne_eq, Decidable.not_not, Bool.not_eq_true', Bool.not_eq_false', Bool.and_eq_true, Bool.or_eq_true, Bool.not_not, Bool.and_eq_false_iff, Bool.or_eq_false_iff, Int.not_lt, Int.not_le] at hc8
      refine WE.skip ?_
      refine WE.seq_reg ?_
      refine WL.mv rfl rfl ?_
      refine WL.pv (PV.add64 rfl rfl rfl (by omega) (by omega)) rfl ?_
      refine WL.pv (PV.add64 rfl rfl rfl (by omega) (by omega)) rfl ?_
      refine WL.pv (PV.quo64 rfl rfl rfl (by omega) (by omega) (by omega)) rfl ?_
      refine WL.as rfl rfl ?_
      refine WL.nil ?_
      refine WE.ret ?_
      refine ⟨[_], _, .nil _, ⟨rfl, trivial⟩, ?_⟩
      refine ⟨?_, H.toOut0⟩
      rw [blocksOf, if_neg (by omega)]
      show Value.int .i64 _ = _
      congr 1; omega

theorem start_c {X : Nat → Prop} {w : World}  (hX : ∀ b, X b → b < w.heap.size) :
    Ret Tryd.prog 82 [].toArray w fun v w' => v = .agg (kw [1779033703, 3144134277, 1013904242, 2773480762, 1359893119, 2600822924, 528734635, 1541459225]).toArray ∧ Out Nil w w' := by
  refine Ret.of_body (N := 2) Tryd.func82 rfl rfl (by decide +revert) ?_
  have H := St.begin hX
  refine WE.seq_reg ?_
  refine WL.alloc H rfl TrydT.ze120 rfl ?_
  intro b0 w1 H
  refine WL.nil ?_
  refine WE.seq_reg ?_
  refine WL.pv (PV.buildA rfl TrydT.ar120 TrydT.sz118 TrydT.ze120 (Fl.cons rfl rfl rfl (Laid.wordA (x := 1779033703) 0 (by simp)) (Fl.cons rfl rfl rfl (Laid.wordA (x := 3144134277) 1 (by simp)) (Fl.cons rfl rfl rfl (Laid.wordA (x := 1013904242) 2 (by simp)) (Fl.cons rfl rfl rfl (Laid.wordA (x := 2773480762) 3 (by simp)) (Fl.cons rfl rfl rfl (Laid.wordA (x := 1359893119) 4 (by simp)) (Fl.cons rfl rfl rfl (Laid.wordA (x := 2600822924) 5 (by simp)) (Fl.cons rfl rfl rfl (Laid.wordA (x := 528734635) 6 (by simp)) (Fl.cons rfl rfl rfl (Laid.wordA (x := 1541459225) 7 (by simp)) Fl.nil))))))))) rfl ?_
  refine WL.storeL H 0 rfl rfl rfl (new := _) rfl (by exact TrydT.sz120) (by exact kw_one _) (Laid.at (Laid.all (by (simp [kc_length, kw_length, *]; done))) (by rfl)) rfl ?_
  intro w2 H
  refine WL.nil ?_
  refine WE.ret ?_
  refine ⟨[_], _, .nil _, ⟨⟨_, rfl, run_loadVar_aggR TrydT.ag120 (by exact Blk.segAt (H.l 0 rfl) (Seg.all _) rfl) (by exact TrydT.sz120)⟩, trivial⟩, ?_⟩
  exact ⟨rfl, H.toOut0⟩

end Go.Sp.Tryd
