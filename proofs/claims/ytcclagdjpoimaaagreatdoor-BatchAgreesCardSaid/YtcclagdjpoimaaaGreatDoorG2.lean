/- Walks of functions, printed by a program of this session (gen.py) from notes on each function. -/
import Derived.Test.YtcclagdjpoimaaaGreatDoorTy
import Derived.Test.YtcclagdjpoimaaaGreatDoorWords
import Derived.Test.YtcclagdjpoimaaaGreatDoorG1
set_option maxRecDepth 100000
set_option maxHeartbeats 1000000
set_option linter.unusedVariables false
set_option linter.unusedSimpArgs false
namespace Go.Sp.Tryz
open Go.Proofs Go.RowKit Go.Sp

def rotr (x : UInt32) (n : Nat) : UInt32 := (x >>> UInt32.ofNat n) ||| (x <<< UInt32.ofNat (32 - n))
def rights (x : UInt32) (l : List Nat) : UInt32 := l.foldl (fun s n => s ^^^ rotr x n) 0
theorem rights_take (x : UInt32) (l : List Nat) (k : Nat) (h : k < l.length) : rights x (l.take (k + 1)) = rights x (l.take k) ^^^ rotr x l[k] := by
  unfold rights
  rw [List.take_succ_eq_append_getElem h, List.foldl_append]; rfl
theorem and31 : ∀ n : Fin 32, 0 < n.val → IntKind.u64.wrap ((BitVec.ofInt IntKind.u64.bits (IntKind.u64.wrap (-(n.val : Int))) &&& BitVec.ofInt IntKind.u64.bits 31).toNat) = ((32 - n.val : Nat) : Int) := by decide +kernel
def SlN (v : Value) (l : List Nat) (w : World) : Prop := SlV v (l.map fun (n : Nat) => Value.int .i64 (n : Int)) w
theorem SlN.rd {v : Value} {l : List Nat} {w : World} (h : SlN v l w) (i : Nat) (hi : i < l.length) : RdA w (sAddr v (i * 1)) [.int .i64 (l[i] : Int)] := by
  have := SlV.rd h i (by simpa using hi)
  simpa using this
theorem SlN.sl {v : Value} {l : List Nat} {w : World} (h : SlN v l w) : SlC w v 1 l.length (l.map fun (n : Nat) => Value.int .i64 (n : Int)) := by
  have : SlC w v 1 (l.map fun (n : Nat) => Value.int .i64 (n : Int)).length (l.map fun (n : Nat) => Value.int .i64 (n : Int)) := h
  simpa using this
def blocksOf (n : Int) : Int := if n < 0 ∨ 1152921504606846976 < n then 0 else (n + 72) / 64

theorem RotateLeft32_c {X : Nat → Prop} {w : World} {x : UInt32} {n : Nat} (hX : ∀ b, X b → b < w.heap.size) (hn0 : 0 < n) (hn : n < 32) :
    Ret Tryz.prog 129 [.int .u32 (x.toNat : Int), .int .i64 (-(n : Int))].toArray w fun v w' => v = .int .u32 ((rotr x n).toNat : Int) ∧ Out Nil w w' := by
  refine Ret.of_body (N := 17) Tryz.func129 rfl rfl (by simp) ?_
  have H := St.begin hX
  refine WE.seq_reg ?_
  refine WL.as rfl rfl ?_
  refine WL.nil ?_
  refine WE.seq_reg ?_
  refine WL.mv rfl rfl ?_
  refine WL.pv (PV.conv rfl TryzT.in3 TryzT.in171 rfl) rfl ?_
  refine WL.pv (PV.eq (v' := .int .u64 ((32 - n : Nat) : Int)) (PV.andw rfl rfl rfl) (congrArg (Value.int .u64) (and31 ⟨n, hn⟩ hn0))) rfl ?_
  refine WL.as rfl rfl ?_
  refine WL.nil ?_
  refine WE.seq_reg ?_
  refine WL.mv rfl rfl ?_
  refine WL.mv rfl rfl ?_
  refine WL.pv (PV.shl32 (n := 32 - n) rfl rfl rfl (by omega)) rfl ?_
  refine WL.mv rfl rfl ?_
  refine WL.mv rfl rfl ?_
  refine WL.pv (PV.eq (v' := .int .u64 ((n : Nat) : Int)) (PV.subw rfl rfl rfl) (by rw [wrapu64]; congr 1; omega)) rfl ?_
  refine WL.pv (PV.shr32 (n := n) rfl rfl rfl (by omega)) rfl ?_
  refine WL.pv (PV.or32 rfl rfl rfl) rfl ?_
  refine WL.as rfl rfl ?_
  refine WL.nil ?_
  refine WE.ret ?_
  refine ⟨[_], _, .nil _, ⟨rfl, trivial⟩, ?_⟩
  refine ⟨?_, H.toOut0⟩
  show Value.int .u32 _ = _
  rw [UInt32.or_comm]; rfl

theorem right_c {X : Nat → Prop} {w : World} {x : UInt32} {s : Value} {l : List Nat} (hX : ∀ b, X b → b < w.heap.size) (hf0 : Rob X (SlN s l) w) (hl : ∀ n ∈ l, 0 < n ∧ n < 32) (hll : l.length ≤ 1000) :
    Ret Tryz.prog 120 [.int .u32 (x.toNat : Int), s].toArray w fun v w' => v = .int .u32 ((rights x l).toNat : Int) ∧ Out Nil w w' := by
  refine Ret.of_body (N := 22) Tryz.func120 rfl rfl (by simp) ?_
  have H := St.begin hX
  replace H := H.add (rob0 hf0)
  refine WE.seq_reg ?_
  refine WL.as rfl rfl ?_
  refine WL.nil ?_
  refine WE.seq_reg ?_
  refine WL.as rfl rfl ?_
  refine WL.nil ?_
  refine WE.seq ?_
  refine WE.seq_reg ?_
  refine WL.mv rfl rfl ?_
  refine WL.pv (PV.lenS (SlN.sl (H.p 0 rfl)) TryzT.sl184 rfl) rfl ?_
  refine WL.mv rfl rfl ?_
  refine WL.nil ?_
  refine WE.block ?_
  refine WE.loop (α := Nat) [5, 7, 10, 11, 12, 13, 14, 15, 16, 17, 18, 19, 20] (fun k => [(10, .int .i64 k), (5, .int .u32 ((rights x (l.take k)).toNat : Int))]) (fun k wl => k ≤ l.length ∧ St X w wl [] [] [SlN s l]) (fun k => l.length - k) 0 ⟨rfl, rfl, trivial⟩ ⟨Nat.zero_le _, H⟩ ?_
  intro k γ0 w1 hI
  try dsimp only at hI
  obtain ⟨hk, H⟩ := hI
  refine WE.seq_reg ?_
  refine WL.pv (PV.lss rfl rfl rfl) rfl ?_
  refine WL.nil ?_
  refine WE.seq ?_
  refine WE.cond rfl (fun hc11 => ?_) (fun hc11 => ?_)
  · skip
    try simp only [decide_eq_true_eq, decide_eq_false_iff_not, ne_eq, Decidable.not_not, Bool.not_eq_true', Bool.not_eq_false', Bool.and_eq_true, Bool.or_eq_true, Bool.not_not, Bool.and_eq_false_iff, Bool.or_eq_false_iff, Int.not_lt, Int.not_le] at hc11
    have hlt : k < l.length := by omega
    have hR := rights_take x l k hlt
    refine WE.skip ?_
    refine WE.seq ?_
    refine WE.block ?_
    refine WE.seq_reg ?_
    refine WL.pv (PV.idxS rfl (SlN.sl (H.p 0 rfl)) TryzT.sl184 TryzT.sz3 rfl rfl (by omega) (by omega)) rfl ?_
    refine WL.load1 rfl TryzT.ag3 rfl rfl (SlN.rd (H.p 0 rfl) k hlt) ?_
    refine WL.as rfl rfl ?_
    refine WL.nil ?_
    refine WE.reg ?_
    refine WL.mv rfl rfl ?_
    refine WL.mv rfl rfl ?_
    refine WL.mv rfl rfl ?_
    refine WL.pv (PV.eq (v' := .int .i64 (-(l[k] : Int))) (PV.negw rfl rfl) (by have := hl _ (List.getElem_mem hlt); rw [wrap64_in (by omega) (by omega)]; congr 1; omega)) rfl ?_
    refine WL.call TryzT.fb129 rfl (RotateLeft32_c (x := x) (n := l[k]) H.yylt (hl _ (List.getElem_mem hlt)).1 (hl _ (List.getElem_mem hlt)).2) ?_
    rintro _ w2 ⟨rfl, hO⟩
    replace H := H.out hO
    refine WL.pv (PV.xor32 rfl rfl rfl) rfl ?_
    refine WL.as rfl rfl ?_
    refine WL.nil ?_
    refine WE.reg ?_
    refine WL.pv (PV.add64 rfl rfl rfl (by omega) (by omega)) rfl ?_
    refine WL.mv rfl rfl ?_
    refine WL.nil ?_
    exact ⟨k + 1, (by repeat (first | with_reducible exact Off.refl _ _ | refine Off.upd rfl ?_ | refine Off.setAll rfl ?_ | refine Off.forget' rfl ?_)), ⟨rfl, by rw [hR]; rfl, trivial⟩, rfl, ⟨by omega, H⟩, (by omega)⟩
  · skip
    try simp only [decide_eq_true_eq, decide_eq_false_iff_not, ne_eq, Decidable.not_not, Bool.not_eq_true', Bool.not_eq_false', Bool.and_eq_true, Bool.or_eq_true, Bool.not_not, Bool.and_eq_false_iff, Bool.or_eq_false_iff, Int.not_lt, Int.not_le] at hc11
    have hge : k = l.length := by omega
    refine WE.exit ?_
    refine WE.seq_reg ?_
    refine WL.mv rfl rfl ?_
    refine WL.as rfl rfl ?_
    refine WL.nil ?_
    refine WE.ret ?_
    refine ⟨[_], _, .nil _, ⟨rfl, trivial⟩, ?_⟩
    refine ⟨?_, H.toOut0⟩
    subst hge
    show Value.int .u32 _ = _
    rw [List.take_length]

theorem Blocks_c {X : Nat → Prop} {w : World} {n : Int} (hX : ∀ b, X b → b < w.heap.size) (hn : -9223372036854775808 ≤ n ∧ n ≤ 9223372036854775807) :
    Ret Tryz.prog 122 [.int .i64 n].toArray w fun v w' => v = .int .i64 (blocksOf n) ∧ Out Nil w w' := by
  refine Ret.of_body (N := 13) Tryz.func122 rfl rfl (by simp) ?_
  have H := St.begin hX
  refine WE.seq_reg ?_
  refine WL.as rfl rfl ?_
  refine WL.nil ?_
  refine WE.seq ?_
  refine WE.seq_reg ?_
  refine WL.mv rfl rfl ?_
  refine WL.pv (PV.lss rfl rfl rfl) rfl ?_
  refine WL.mv rfl rfl ?_
  refine WL.split (t := 5) rfl (fun hg5 => ?_) (fun hg5 => ?_)
  · skip
    refine WL.known (t := 4) (c := true) rfl hg5 ?_
    try simp only [decide_eq_true_eq, decide_eq_false_iff_not, ne_eq, Decidable.not_not, Bool.not_eq_true', Bool.not_eq_false', Bool.and_eq_true, Bool.or_eq_true, Bool.not_not, Bool.and_eq_false_iff, Bool.or_eq_false_iff, Int.not_lt, Int.not_le] at hg5
    refine WL.off rfl ?_
    refine WL.off rfl ?_
    refine WL.pv (PV.pick_t rfl rfl rfl) rfl ?_
    refine WL.nil ?_
    refine WE.cond_t rfl ?_
    refine WE.seq_reg ?_
    refine WL.as rfl rfl ?_
    refine WL.nil ?_
    refine WE.ret ?_
    refine ⟨[_], _, .nil _, ⟨rfl, trivial⟩, ?_⟩
    refine ⟨?_, H.toOut0⟩
    rw [blocksOf, if_pos (by omega)]; rfl
  · skip
    refine WL.known (t := 4) (c := false) rfl hg5 ?_
    try simp only [decide_eq_true_eq, decide_eq_false_iff_not, ne_eq, Decidable.not_not, Bool.not_eq_true', Bool.not_eq_false', Bool.and_eq_true, Bool.or_eq_true, Bool.not_not, Bool.and_eq_false_iff, Bool.or_eq_false_iff, Int.not_lt, Int.not_le] at hg5
    refine WL.mv rfl rfl ?_
    refine WL.pv (PV.gtr rfl rfl rfl) rfl ?_
    refine WL.pv (PV.pick_f rfl rfl rfl) rfl ?_
    refine WL.nil ?_
    refine WE.cond rfl (fun hc8 => ?_) (fun hc8 => ?_)
    · skip
      try simp only [decide_eq_true_eq, decide_eq_false_iff_not, ne_eq, Decidable.not_not, Bool.not_eq_true', Bool.not_eq_false', Bool.and_eq_true, Bool.or_eq_true, Bool.not_not, Bool.and_eq_false_iff, Bool.or_eq_false_iff, Int.not_lt, Int.not_le] at hc8
      refine WE.seq_reg ?_
      refine WL.as rfl rfl ?_
      refine WL.nil ?_
      refine WE.ret ?_
      refine ⟨[_], _, .nil _, ⟨rfl, trivial⟩, ?_⟩
      refine ⟨?_, H.toOut0⟩
      rw [blocksOf, if_pos (by omega)]; rfl
    · skip
      try simp only [decide_eq_true_eq, decide_eq_false_iff_not, ne_eq, Decidable.not_not, Bool.not_eq_true', Bool.not_eq_false', Bool.and_eq_true, Bool.or_eq_true, Bool.not_not, Bool.and_eq_false_iff, Bool.or_eq_false_iff, Int.not_lt, Int.not_le] at hc8
      refine WE.skip ?_
      refine WE.seq_reg ?_
      refine WL.mv rfl rfl ?_
      refine WL.pv (PV.add64 rfl rfl rfl (by omega) (by omega)) rfl ?_
      refine WL.pv (PV.add64 rfl rfl rfl (by omega) (by omega)) rfl ?_
      refine WL.pv (PV.quo64 rfl rfl rfl (by omega) (by omega) (by omega)) rfl ?_
      refine WL.as rfl rfl ?_
      refine WL.nil ?_
      refine WE.ret ?_
      refine ⟨[_], _, .nil _, ⟨rfl, trivial⟩, ?_⟩
      refine ⟨?_, H.toOut0⟩
      rw [blocksOf, if_neg (by omega)]
      show Value.int .i64 _ = _
      congr 1; omega

theorem start_c {X : Nat → Prop} {w : World}  (hX : ∀ b, X b → b < w.heap.size) :
    Ret Tryz.prog 97 [].toArray w fun v w' => v = .agg (kw [1779033703, 3144134277, 1013904242, 2773480762, 1359893119, 2600822924, 528734635, 1541459225]).toArray ∧ Out Nil w w' := by
  refine Ret.of_body (N := 2) Tryz.func97 rfl rfl (by decide +revert) ?_
  have H := St.begin hX
  refine WE.seq_reg ?_
  refine WL.alloc H rfl TryzT.ze149 rfl ?_
  intro b0 w1 H
  refine WL.nil ?_
  refine WE.seq_reg ?_
  refine WL.pv (PV.buildA rfl TryzT.ar149 TryzT.sz147 TryzT.ze149 (Fl.cons rfl rfl rfl (Laid.wordA (x := 1779033703) 0 (by simp)) (Fl.cons rfl rfl rfl (Laid.wordA (x := 3144134277) 1 (by simp)) (Fl.cons rfl rfl rfl (Laid.wordA (x := 1013904242) 2 (by simp)) (Fl.cons rfl rfl rfl (Laid.wordA (x := 2773480762) 3 (by simp)) (Fl.cons rfl rfl rfl (Laid.wordA (x := 1359893119) 4 (by simp)) (Fl.cons rfl rfl rfl (Laid.wordA (x := 2600822924) 5 (by simp)) (Fl.cons rfl rfl rfl (Laid.wordA (x := 528734635) 6 (by simp)) (Fl.cons rfl rfl rfl (Laid.wordA (x := 1541459225) 7 (by simp)) Fl.nil))))))))) rfl ?_
  refine WL.storeL H 0 rfl rfl rfl (new := _) rfl (by exact TryzT.sz149) (by exact kw_one _) (Laid.at (Laid.all (by (simp [kc_length, kw_length, *]; done))) (by rfl)) rfl ?_
  intro w2 H
  refine WL.nil ?_
  refine WE.ret ?_
  refine ⟨[_], _, .nil _, ⟨⟨_, rfl, run_loadVar_aggR TryzT.ag149 (by exact Blk.segAt (H.l 0 rfl) (Seg.all _) rfl) (by exact TryzT.sz149)⟩, trivial⟩, ?_⟩
  exact ⟨rfl, H.toOut0⟩

end Go.Sp.Tryz

set_option maxRecDepth 100000
set_option maxHeartbeats 1000000
set_option linter.unusedVariables false
set_option linter.unusedSimpArgs false
namespace Go.Sp.Tryz
open Go.Proofs Go.RowKit Go.Sp

def zc (n : Nat) : Nat := (119 - n % 64) % 64
def be8 (N : Nat) : List UInt8 := (List.range 8).map fun i => UInt8.ofNat (N / 2 ^ (56 - 8 * i))
def padOf (l : List UInt8) : List UInt8 := l ++ 128 :: (List.replicate (zc l.length) 0 ++ be8 (8 * l.length))
theorem be8_length (N : Nat) : (be8 N).length = 8 := by simp [be8]
theorem be8_get (N i : Nat) (h : i < (be8 N).length) : (be8 N)[i] = UInt8.ofNat (N / 2 ^ (56 - 8 * i)) := by simp [be8]
theorem padOf_length (l : List UInt8) : (padOf l).length = l.length + 9 + zc l.length := by
  simp [padOf, be8_length]; omega
def roundsL : List UInt32 := [1116352408, 1899447441, 3049323471, 3921009573, 961987163, 1508970993, 2453635748, 2870763221, 3624381080, 310598401, 607225278, 1426881987, 1925078388, 2162078206, 2614888103, 3248222580, 3835390401, 4022224774, 264347078, 604807628, 770255983, 1249150122, 1555081692, 1996064986, 2554220882, 2821834349, 2952996808, 3210313671, 3336571891, 3584528711, 113926993, 338241895, 666307205, 773529912, 1294757372, 1396182291, 1695183700, 1986661051, 2177026350, 2456956037, 2730485921, 2820302411, 3259730800, 3345764771, 3516065817, 3600352804, 4094571909, 275423344, 430227734, 506948616, 659060556, 883997877, 958139571, 1322822218, 1537002063, 1747873779, 1955562222, 2024104815, 2227730452, 2361852424, 2428436474, 2756734187, 3204031479, 3329325298]

end Go.Sp.Tryz

set_option maxRecDepth 100000
set_option maxHeartbeats 1000000
set_option linter.unusedVariables false
set_option linter.unusedSimpArgs false
namespace Go.Sp.Tryz
open Go.Proofs Go.RowKit Go.Sp

def sg0 (x : UInt32) : UInt32 := (rotr x 7 ^^^ rotr x 18) ^^^ (x >>> UInt32.ofNat 3)
def sg1 (x : UInt32) : UInt32 := (rotr x 17 ^^^ rotr x 19) ^^^ (x >>> UInt32.ofNat 10)
def word (b : List UInt8) (i : Nat) : UInt32 := (((b.getD (4 * i) 0).toUInt32 <<< UInt32.ofNat 24 ||| (b.getD (4 * i + 1) 0).toUInt32 <<< UInt32.ofNat 16) ||| (b.getD (4 * i + 2) 0).toUInt32 <<< UInt32.ofNat 8) ||| (b.getD (4 * i + 3) 0).toUInt32
def ext (w : List UInt32) : List UInt32 := w ++ [((w.getD (w.length - 16) 0 + sg0 (w.getD (w.length - 15) 0)) + w.getD (w.length - 7) 0) + sg1 (w.getD (w.length - 2) 0)]
def sched (b : List UInt8) : Nat → List UInt32
  | 0 => (List.range 16).map (word b)
  | k + 1 => ext (sched b k)
theorem sched_length (b : List UInt8) (k : Nat) : (sched b k).length = 16 + k := by
  induction k with
  | zero => simp [sched]
  | succ k ih => simp [sched, ext, ih]; omega
theorem getD_at {α : Type} {l : List α} {d : α} {i : Nat} (h : i < l.length) : l.getD i d = l[i] := by simp [h]
end Go.Sp.Tryz

set_option maxRecDepth 100000
set_option maxHeartbeats 1000000
set_option linter.unusedVariables false
set_option linter.unusedSimpArgs false
namespace Go.Sp.Tryz
open Go.Proofs Go.RowKit Go.Sp

theorem padT {n : Nat} (h : n ≤ 1152921504606846976) : 64 * blocksOf (n : Int) = ((n + 9 + zc n : Nat) : Int) := by
  unfold blocksOf zc
  rw [if_neg (by omega)]
  omega
def padC (l : List UInt8) (i : Nat) : List UInt8 := (l ++ 128 :: List.replicate (zc l.length + (8 - i)) 0) ++ (be8 (8 * l.length)).drop (8 - i)
theorem padC_zero (l : List UInt8) : padC l 0 = l ++ 128 :: List.replicate (zc l.length + 8) 0 := by
  unfold padC
  rw [List.drop_eq_nil_of_le (by rw [be8_length]; omega), List.append_nil]
theorem padC_eight (l : List UInt8) : padC l 8 = padOf l := by simp [padC, padOf]
theorem padC_length (l : List UInt8) (i : Nat) (hi : i ≤ 8) : (padC l i).length = l.length + 9 + zc l.length := by
  simp [padC, be8_length]; omega
theorem padC_set (l : List UInt8) (i : Nat) (hi : i < 8) : (padC l i).set (l.length + 8 + zc l.length - i) (UInt8.ofNat (8 * l.length / 2 ^ (8 * i))) = padC l (i + 1) := by
  have hb := be8_length (8 * l.length)
  have h7 : 7 - i < (be8 (8 * l.length)).length := by omega
  have hd : (be8 (8 * l.length)).drop (8 - (i + 1)) = UInt8.ofNat (8 * l.length / 2 ^ (8 * i)) :: (be8 (8 * l.length)).drop (8 - i) := by
    rw [show 8 - (i + 1) = 7 - i by omega, List.drop_eq_getElem_cons h7, be8_get, show 7 - i + 1 = 8 - i by omega, show 56 - 8 * (7 - i) = 8 * i by omega]
  unfold padC
  rw [hd]
  have hr : l ++ 128 :: List.replicate (zc l.length + (8 - i)) 0 = (l ++ 128 :: List.replicate (zc l.length + (8 - (i + 1))) 0) ++ [0] := by
    rw [show zc l.length + (8 - i) = (zc l.length + (8 - (i + 1))) + 1 by omega, List.replicate_succ', ← List.cons_append, ← List.append_assoc]
  have hlen : (l ++ 128 :: List.replicate (zc l.length + (8 - (i + 1))) (0 : UInt8)).length = l.length + 8 + zc l.length - i := by simp; omega
  rw [hr, List.append_assoc, ← hlen, List.set_append_right _ _ (Nat.le_refl _), Nat.sub_self]
  rfl
theorem copy_front (l : List UInt8) (m : Nat) : Laid (kc (List.replicate (l.length + m) 0)) 0 ((kc l).take (min l.length (l.length + m))) (kc (l ++ List.replicate m 0)) := by
  have e : (kc l).take (min l.length (l.length + m)) = kc l := by rw [show min l.length (l.length + m) = l.length by omega]; exact List.take_of_length_le (by rw [kc_length]; omega)
  rw [e, ← List.replicate_append_replicate]
  have : Laid (kc (List.replicate l.length 0)) 0 (kc l) (kc l) := Laid.all (by simp [kc_length])
  have h2 := Laid.left (b := kc (List.replicate m 0)) this
  rwa [← kc_append, ← kc_append] at h2
theorem set_front (l : List UInt8) (m : Nat) : (l ++ List.replicate (m + 1) (0 : UInt8)).set l.length 128 = l ++ 128 :: List.replicate m 0 := by
  rw [List.set_append_right _ _ (Nat.le_refl _), Nat.sub_self]; rfl

theorem PadO_c {X : Nat → Prop} {w : World} {a : Value} {la : List UInt8} (hX : ∀ b, X b → b < w.heap.size) (hf0 : Rob X (SlB a la) w) (hla : la.length ≤ 1000000000) :
    Ret Tryz.prog 100 [a].toArray w fun v w' => Out Nil w w' ∧ ∃ b, v = .slice (some ⟨b, 0, none⟩) (padOf la).length (padOf la).length ∧ w.heap.size ≤ b ∧ Blk w' b 5 (kc (padOf la)) := by
  refine Ret.of_body (N := 39) Tryz.func100 rfl rfl (by simp) ?_
  have H := St.begin hX
  replace H := H.add (rob0 hf0)
  have hz64 : zc la.length < 64 := by unfold zc; omega
  have hT := padT (n := la.length) (by omega)
  refine WE.seq_reg ?_
  refine WL.as rfl rfl ?_
  refine WL.nil ?_
  refine WE.seq_reg ?_
  refine WL.mv rfl rfl ?_
  refine WL.pv (PV.lenS (H.p 0 rfl) TryzT.sl32 rfl) rfl ?_
  refine WL.call TryzT.fb122 rfl (Blocks_c (n := (la.length : Int)) H.yylt (by omega)) ?_
  rintro _ w1 ⟨rfl, hO⟩
  replace H := H.out hO
  refine WL.pv (PV.eq (v' := .int .i64 (((la.length + 9 + zc la.length) : Nat) : Int)) (PV.mul64 rfl rfl rfl (by omega) (by omega)) (by congr 1)) rfl ?_
  refine WL.makeSlice (n := (la.length + 9 + zc la.length)) H rfl TryzT.st32 rfl (by omega) (by omega) rfl ?_
  intro b10 w3 H
  replace H := H.conv (L' := [Ent.blk b10 5 (kc (List.replicate (la.length + (8 + zc la.length + 1)) 0))]) (by rw [zrow_one, show la.length + (8 + zc la.length + 1) = (la.length + 9 + zc la.length) by omega]; simp [kc])
  refine WL.as rfl rfl ?_
  refine WL.nil ?_
  refine WE.seq_reg ?_
  refine WL.mv rfl rfl ?_
  refine WL.mv rfl rfl ?_
  refine WL.copy H 0 TryzT.sl32 TryzT.sz5 rfl rfl rfl (H.p 0 rfl) (by exact kc_one _) (by have := copy_front la (8 + zc la.length + 1); rw [show la.length + (8 + zc la.length + 1) = (la.length + 9 + zc la.length) by omega] at this ⊢; exact this) rfl ?_
  intro w5 H
  refine WL.nil ?_
  refine WE.seq_reg ?_
  refine WL.mv rfl rfl ?_
  refine WL.mv rfl rfl ?_
  refine WL.pv (PV.lenS (H.p 0 rfl) TryzT.sl32 rfl) rfl ?_
  refine WL.pv (PV.indexSl rfl TryzT.sl32 TryzT.sz5 rfl rfl (by omega) (by omega)) rfl ?_
  refine WL.storeL H 0 rfl rfl rfl (new := _) rfl (by exact TryzT.sz5) (by exact one_lit _ rfl) (Laid.at (Laid.byteA (x := 128) la.length (by simp)) (by simp)) rfl ?_
  intro w6 H
  replace H := H.conv (L' := [Ent.blk b10 5 (kc (padC la 0))]) (by rw [padC_zero, set_front, Nat.add_comm 8]; rfl)
  refine WL.nil ?_
  refine WE.seq_reg ?_
  refine WL.mv rfl rfl ?_
  refine WL.pv (PV.lenS (H.p 0 rfl) TryzT.sl32 rfl) rfl ?_
  refine WL.pv (PV.convN (n := la.length) rfl TryzT.in3 TryzT.in179 rfl rfl (by omega)) rfl ?_
  refine WL.pv (PV.mulN (m := la.length) (n := 8) (q := 8 * la.length) rfl rfl rfl (by omega) (by omega)) rfl ?_
  refine WL.as rfl rfl ?_
  refine WL.nil ?_
  refine WE.seq ?_
  refine WE.seq_reg ?_
  refine WL.mv rfl rfl ?_
  refine WL.nil ?_
  refine WE.block ?_
  refine WE.loop (α := Nat) [5, 22, 23, 24, 25, 26, 27, 28, 29, 30, 31, 32, 33, 34, 35, 36, 37] (fun i => [(22, .int .i64 i)]) (fun i wl => i ≤ 8 ∧ St X w wl [] [Ent.blk b10 5 (kc (padC la i))] [SlB a la]) (fun i => 8 - i) 0 ⟨rfl, trivial⟩ ⟨Nat.zero_le _, H⟩ ?_
  intro i γ0 w7 hI
  try dsimp only at hI
  obtain ⟨hi, H⟩ := hI
  refine WE.seq_reg ?_
  refine WL.pv (PV.lss rfl rfl rfl) rfl ?_
  refine WL.nil ?_
  refine WE.seq ?_
  refine WE.cond rfl (fun hc23 => ?_) (fun hc23 => ?_)
  · skip
    try simp only [decide_eq_true_eq, decide_eq_false_iff_not, ne_eq, Decidable.not_not, Bool.not_eq_true', Bool.not_eq_false', Bool.and_eq_true, Bool.or_eq_true, Bool.not_not, Bool.and_eq_false_iff, Bool.or_eq_false_iff, Int.not_lt, Int.not_le] at hc23
    have hi8 : i < 8 := by omega
    refine WE.skip ?_
    refine WE.seq ?_
    refine WE.block ?_
    refine WE.seq_reg ?_
    refine WL.mv rfl rfl ?_
    refine WL.as rfl rfl ?_
    refine WL.nil ?_
    refine WE.reg ?_
    refine WL.mv rfl rfl ?_
    refine WL.mv rfl rfl ?_
    refine WL.pv (PV.lenSl TryzT.sl32 rfl) rfl ?_
    refine WL.pv (PV.eq (v' := .int .i64 ((la.length + 8 + zc la.length : Nat) : Int)) (PV.sub64 rfl rfl rfl (by omega) (by omega)) (by congr 1; omega)) rfl ?_
    refine WL.mv rfl rfl ?_
    refine WL.pv (PV.eq (v' := .int .i64 ((la.length + 8 + zc la.length - i : Nat) : Int)) (PV.sub64 rfl rfl rfl (by omega) (by omega)) (by congr 1; omega)) rfl ?_
    refine WL.mv rfl rfl ?_
    refine WL.mv rfl rfl ?_
    refine WL.pv (PV.eq (v' := .int .i64 ((8 * i : Nat) : Int)) (PV.mul64 rfl rfl rfl (by omega) (by omega)) (by congr 1)) rfl ?_
    refine WL.pv (PV.shrN (m := 8 * la.length) (n := 8 * i) rfl rfl rfl (show _ < 64 by omega)) rfl ?_
    refine WL.pv (PV.cN_8 (n := 8 * la.length / 2 ^ (8 * i)) rfl TryzT.in179 TryzT.in5 rfl) rfl ?_
    refine WL.pv (PV.indexSl rfl TryzT.sl32 TryzT.sz5 rfl rfl (by omega) (by omega)) rfl ?_
    refine WL.storeL H 0 rfl rfl rfl (new := _) rfl (by exact TryzT.sz5) (by exact one_lit _ rfl) (Laid.at (Laid.byteA (la.length + 8 + zc la.length - i) (by rw [padC_length _ _ (by omega)]; omega)) (by simp)) rfl ?_
    intro w8 H
    refine WL.nil ?_
    refine WE.reg ?_
    refine WL.pv (PV.add64 rfl rfl rfl (by omega) (by omega)) rfl ?_
    refine WL.mv rfl rfl ?_
    refine WL.nil ?_
    have e := padC_set la i hi8
    exact ⟨i + 1, (by repeat (first | with_reducible exact Off.refl _ _ | refine Off.upd rfl ?_ | refine Off.setAll rfl ?_ | refine Off.forget' rfl ?_)), ⟨rfl, trivial⟩, rfl, ⟨by omega, H.conv (by rw [← e]; rfl)⟩, (by omega)⟩
  · skip
    try simp only [decide_eq_true_eq, decide_eq_false_iff_not, ne_eq, Decidable.not_not, Bool.not_eq_true', Bool.not_eq_false', Bool.and_eq_true, Bool.or_eq_true, Bool.not_not, Bool.and_eq_false_iff, Bool.or_eq_false_iff, Int.not_lt, Int.not_le] at hc23
    obtain rfl : i = 8 := by omega
    refine WE.exit ?_
    refine WE.seq_reg ?_
    refine WL.mv rfl rfl ?_
    refine WL.as rfl rfl ?_
    refine WL.nil ?_
    refine WE.ret ?_
    refine ⟨[_], _, .nil _, ⟨rfl, trivial⟩, ?_⟩
    rw [padC_eight] at H
    exact ⟨H.toOut0, b10, by rw [padOf_length]; rfl, H.geL _ (List.mem_of_getElem? (i := 0) rfl) _ rfl, H.l 0 rfl⟩

theorem Pad_c {X : Nat → Prop} {w : World} {a : Value} {la : List UInt8} (hX : ∀ b, X b → b < w.heap.size) (hf0 : Rob X (SlB a la) w) (hla : la.length ≤ 1000000000) :
    Ret Tryz.prog 100 [a].toArray w fun v w' => Out Nil w w' ∧ Rob X (SlB v (padOf la)) w' :=
  (PadO_c hX hf0 hla).mono fun v w' ⟨hO, b, hv, hb, h⟩ => ⟨hO, by subst hv; exact (rob_new hX hb h).imp fun _ h => SlB.of_blk h rfl⟩

end Go.Sp.Tryz

set_option maxRecDepth 100000
set_option maxHeartbeats 1000000
set_option linter.unusedVariables false
set_option linter.unusedSimpArgs false
namespace Go.Sp.Tryz
open Go.Proofs Go.RowKit Go.Sp

def h0L : List UInt32 := [1779033703, 3144134277, 1013904242, 2773480762, 1359893119, 2600822924, 528734635, 1541459225]
def t1f (s : List UInt32) (k w : UInt32) : UInt32 := (((s.getD 7 0 + ((rotr (s.getD 4 0) 6 ^^^ rotr (s.getD 4 0) 11) ^^^ rotr (s.getD 4 0) 25)) + ((s.getD 4 0 &&& s.getD 5 0) ^^^ (~~~(s.getD 4 0) &&& s.getD 6 0))) + k) + w
def t2f (s : List UInt32) : UInt32 := ((rotr (s.getD 0 0) 2 ^^^ rotr (s.getD 0 0) 13) ^^^ rotr (s.getD 0 0) 22) + (((s.getD 0 0 &&& s.getD 1 0) ^^^ (s.getD 0 0 &&& s.getD 2 0)) ^^^ (s.getD 1 0 &&& s.getD 2 0))
def stp (s : List UInt32) (k w : UInt32) : List UInt32 := [t1f s k w + t2f s, s.getD 0 0, s.getD 1 0, s.getD 2 0, s.getD 3 0 + t1f s k w, s.getD 4 0, s.getD 5 0, s.getD 6 0]
def rnds (W s : List UInt32) : Nat → List UInt32
  | 0 => s
  | i + 1 => stp (rnds W s i) (roundsL.getD i 0) (W.getD i 0)
def addTo (s t : List UInt32) (i : Nat) : List UInt32 := (List.range 8).map fun j => if j < i then s.getD j 0 + t.getD j 0 else s.getD j 0
def comp (s : List UInt32) (b : List UInt8) : List UInt32 := addTo s (rnds (sched b 48) s 64) 8
def shaSt (p : List UInt8) : Nat → List UInt32
  | 0 => h0L
  | n + 1 => comp (shaSt p n) ((p.drop (64 * n)).take 64)
def outOf (s : List UInt32) : List UInt8 := (List.range 32).map fun i => (s.getD (i / 4) 0 >>> UInt32.ofNat (24 - 8 * (i % 4))).toUInt8
def shaOf (l : List UInt8) : List UInt8 := outOf (shaSt (padOf l) ((padOf l).length / 64))
theorem rnds_length (W s : List UInt32) (h : s.length = 8) (i : Nat) : (rnds W s i).length = 8 := by
  cases i with
  | zero => exact h
  | succ i => rfl
theorem addTo_length (s t : List UInt32) (i : Nat) : (addTo s t i).length = 8 := by simp [addTo]
theorem shaSt_length (p : List UInt8) (n : Nat) : (shaSt p n).length = 8 := by
  cases n with
  | zero => rfl
  | succ n => exact addTo_length _ _ _
theorem shaOf_length (l : List UInt8) : (shaOf l).length = 32 := by simp [shaOf, outOf]
theorem padOf_64 (l : List UInt8) : (padOf l).length % 64 = 0 := by rw [padOf_length]; unfold zc; omega
theorem addTo_zero (s t : List UInt32) (h : s.length = 8) : addTo s t 0 = s := by
  apply List.ext_getElem
  · rw [addTo_length, h]
  · intro i h1 h2
    simp [addTo, h2]
theorem addTo_get (s t : List UInt32) (i : Nat) (h : s.length = 8) (hi : i < (addTo s t i).length) (hs : i < s.length) : (addTo s t i)[i] = s[i] := by
  simp [addTo, hs]
theorem addTo_set (s t : List UInt32) (i : Nat) (h : s.length = 8) (ht : t.length = 8) (hi : i < 8) : (addTo s t i).set i ((addTo s t i)[i]'(by rw [addTo_length]; exact hi) + t[i]'(by omega)) = addTo s t (i + 1) := by
  rw [addTo_get s t i h (by rw [addTo_length]; exact hi) (by omega)]
  apply List.ext_getElem
  · simp [addTo]
  · intro j h1 h2
    rw [addTo_length] at h2
    rw [List.getElem_set]
    by_cases hij : i = j
    · subst hij
      simp [addTo, h, ht, hi]
    · simp only [hij, if_false]
      simp only [addTo, List.getElem_map, List.getElem_range]
      by_cases h3 : j < i
      · rw [if_pos h3, if_pos (by omega)]
      · rw [if_neg h3, if_neg (by omega)]
theorem outOf_get (s : List UInt32) (i : Nat) (hi : i < (outOf s).length) (hs : i / 4 < s.length) : (outOf s)[i] = (s[i / 4] >>> UInt32.ofNat (24 - 8 * (i % 4))).toUInt8 := by
  simp [outOf, hs]
theorem outOf_length (s : List UInt32) : (outOf s).length = 32 := by simp [outOf]

end Go.Sp.Tryz

