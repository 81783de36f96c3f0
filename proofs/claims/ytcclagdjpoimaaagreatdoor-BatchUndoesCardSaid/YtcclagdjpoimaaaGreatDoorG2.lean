/- Walks of functions, printed by a program of this session (gen.py) from notes on each function. -/
import Derived.Test.YtcclagdjpoimaaaGreatDoorTy
import Derived.Test.YtcclagdjpoimaaaGreatDoorWords
import Derived.Test.YtcclagdjpoimaaaGreatDoorG1
set_option maxRecDepth 100000
set_option maxHeartbeats 1000000
set_option linter.unusedVariables false
set_option linter.unusedSimpArgs false
namespace Go.Sp.Tryz
open Go.Proofs Go.RowKit Go.Sp

def rotr (x : UInt32) (n : Nat) : UInt32 := (x >>> UInt32.ofNat n) ||| (x <<< UInt32.ofNat (32 - n))
def rights (x : UInt32) (l : List Nat) : UInt32 := l.foldl (fun s n => s ^^^ rotr x n) 0
theorem rights_take (x : UInt32) (l : List Nat) (k : Nat) (h : k < l.length) : rights x (l.take (k + 1)) = rights x (l.take k) ^^^ rotr x l[k] := by
  unfold rights
  rw [List.take_succ_eq_append_getElem h, List.foldl_append]; rfl
theorem and31 : ∀ n : Fin 32, 0 < n.val → IntKind.u64.wrap ((BitVec.ofInt IntKind.u64.bits (IntKind.u64.wrap (-(n.val : Int))) &&& BitVec.ofInt IntKind.u64.bits 31).toNat) = ((32 - n.val : Nat) : Int) := by decide +kernel
def SlN (v : Value) (l : List Nat) (w : World) : Prop := SlV v (l.map fun (n : Nat) => Value.int .i64 (n : Int)) w
theorem SlN.rd {v : Value} {l : List Nat} {w : World} (h : SlN v l w) (i : Nat) (hi : i < l.length) : RdA w (sAddr v (i * 1)) [.int .i64 (l[i] : Int)] := by
  have := SlV.rd h i (by simpa using hi)
  simpa using this
theorem SlN.sl {v : Value} {l : List Nat} {w : World} (h : SlN v l w) : SlC w v 1 l.length (l.map fun (n : Nat) => Value.int .i64 (n : Int)) := by
  have : SlC w v 1 (l.map fun (n : Nat) => Value.int .i64 (n : Int)).length (l.map fun (n : Nat) => Value.int .i64 (n : Int)) := h
  simpa using this
def blocksOf (n : Int) : Int := if n < 0 ∨ 1152921504606846976 < n then 0 else (n + 72) / 64

theorem turn_c {X : Nat → Prop} {w : World} {x : UInt32} {n : Nat} (hX : ∀ b, X b → b < w.heap.size) (hn0 : 0 < n) (hn : n < 32) :
    Ret Tryz.prog 115 [.int .u32 (x.toNat : Int), .int .u64 (n : Int)].toArray w fun v w' => v = .int .u32 ((rotr x n).toNat : Int) ∧ Out Nil w w' := by
  refine Ret.of_body (N := 13) Tryz.func115 rfl rfl (by simp) ?_
  have H := St.begin hX
  refine WE.seq_reg ?_
  refine WL.as rfl rfl ?_
  refine WL.nil ?_
  refine WE.seq_reg ?_
  refine WL.mv rfl rfl ?_
  refine WL.mv rfl rfl ?_
  refine WL.pv (PV.shr32 (n := n) rfl rfl rfl (by omega)) rfl ?_
  refine WL.mv rfl rfl ?_
  refine WL.mv rfl rfl ?_
  refine WL.pv (PV.eq (v' := .int .u64 ((32 - n : Nat) : Int)) (PV.subw rfl rfl rfl) (by rw [wrapu64]; congr 1; omega)) rfl ?_
  refine WL.pv (PV.shl32 (n := 32 - n) rfl rfl rfl (by omega)) rfl ?_
  refine WL.pv (PV.or32 rfl rfl rfl) rfl ?_
  refine WL.as rfl rfl ?_
  refine WL.nil ?_
  refine WE.ret ?_
  refine ⟨[_], _, .nil _, ⟨rfl, trivial⟩, ?_⟩
  exact ⟨rfl, H.toOut0⟩

theorem RotateLeft32_c {X : Nat → Prop} {w : World} {x : UInt32} {n : Nat} (hX : ∀ b, X b → b < w.heap.size) (hn0 : 0 < n) (hn : n < 32) :
    Ret Tryz.prog 129 [.int .u32 (x.toNat : Int), .int .i64 (-(n : Int))].toArray w fun v w' => v = .int .u32 ((rotr x n).toNat : Int) ∧ Out Nil w w' := by
  refine Ret.of_body (N := 17) Tryz.func129 rfl rfl (by simp) ?_
  have H := St.begin hX
  refine WE.seq_reg ?_
  refine WL.as rfl rfl ?_
  refine WL.nil ?_
  refine WE.seq_reg ?_
  refine WL.mv rfl rfl ?_
  refine WL.pv (PV.conv rfl TryzT.in3 TryzT.in171 rfl) rfl ?_
  refine WL.pv (PV.eq (v' := .int .u64 ((32 - n : Nat) : Int)) (PV.andw rfl rfl rfl) (congrArg (Value.int .u64) (and31 ⟨n, hn⟩ hn0))) rfl ?_
  refine WL.as rfl rfl ?_
  refine WL.nil ?_
  refine WE.seq_reg ?_
  refine WL.mv rfl rfl ?_
  refine WL.mv rfl rfl ?_
  refine WL.pv (PV.shl32 (n := 32 - n) rfl rfl rfl (by omega)) rfl ?_
  refine WL.mv rfl rfl ?_
  refine WL.mv rfl rfl ?_
  refine WL.pv (PV.eq (v' := .int .u64 ((n : Nat) : Int)) (PV.subw rfl rfl rfl) (by rw [wrapu64]; congr 1; omega)) rfl ?_
  refine WL.pv (PV.shr32 (n := n) rfl rfl rfl (by omega)) rfl ?_
  refine WL.pv (PV.or32 rfl rfl rfl) rfl ?_
  refine WL.as rfl rfl ?_
  refine WL.nil ?_
  refine WE.ret ?_
  refine ⟨[_], _, .nil _, ⟨rfl, trivial⟩, ?_⟩
  refine ⟨?_, H.toOut0⟩
  show Value.int .u32 _ = _
  rw [UInt32.or_comm]; rfl

theorem right_c {X : Nat → Prop} {w : World} {x : UInt32} {s : Value} {l : List Nat} (hX : ∀ b, X b → b < w.heap.size) (hf0 : Rob X (SlN s l) w) (hl : ∀ n ∈ l, 0 < n ∧ n < 32) (hll : l.length ≤ 1000) :
    Ret Tryz.prog 120 [.int .u32 (x.toNat : Int), s].toArray w fun v w' => v = .int .u32 ((rights x l).toNat : Int) ∧ Out Nil w w' := by
  refine Ret.of_body (N := 22) Tryz.func120 rfl rfl (by simp) ?_
  have H := St.begin hX
  replace H := H.add (rob0 hf0)
  refine WE.seq_reg ?_
  refine WL.as rfl rfl ?_
  refine WL.nil ?_
  refine WE.seq_reg ?_
  refine WL.as rfl rfl ?_
  refine WL.nil ?_
  refine WE.seq ?_
  refine WE.seq_reg ?_
  refine WL.mv rfl rfl ?_
  refine WL.pv (PV.lenS (SlN.sl (H.p 0 rfl)) TryzT.sl184 rfl) rfl ?_
  refine WL.mv rfl rfl ?_
  refine WL.nil ?_
  refine WE.block ?_
  refine WE.loop (α := Nat) [5, 7, 10, 11, 12, 13, 14, 15, 16, 17, 18, 19, 20] (fun k => [(10, .int .i64 k), (5, .int .u32 ((rights x (l.take k)).toNat : Int))]) (fun k wl => k ≤ l.length ∧ St X w wl [] [] [SlN s l]) (fun k => l.length - k) 0 ⟨rfl, rfl, trivial⟩ ⟨Nat.zero_le _, H⟩ ?_
  intro k γ0 w1 hI
  try dsimp only at hI
  obtain ⟨hk, H⟩ := hI
  refine WE.seq_reg ?_
  refine WL.pv (PV.lss rfl rfl rfl) rfl ?_
  refine WL.nil ?_
  refine WE.seq ?_
  refine WE.cond rfl (fun hc11 => ?_) (fun hc11 => ?_)
  · skip
    try simp only [decide_eq_true_eq, decide_eq_false_iff_not, ne_eq, Decidable.not_not, Bool.not_eq_true', Bool.not_eq_false', Bool.and_eq_true, Bool.or_eq_true, Bool.not_not, Bool.and_eq_false_iff, Bool.or_eq_false_iff, Int.not_lt, Int.not_le] at hc11
    have hlt : k < l.length := by omega
    have hR := rights_take x l k hlt
    refine WE.skip ?_
    refine WE.seq ?_
    refine WE.block ?_
    refine WE.seq_reg ?_
    refine WL.pv (PV.idxS rfl (SlN.sl (H.p 0 rfl)) TryzT.sl184 TryzT.sz3 rfl rfl (by omega) (by omega)) rfl ?_
    refine WL.load1 rfl TryzT.ag3 rfl rfl (SlN.rd (H.p 0 rfl) k hlt) ?_
    refine WL.as rfl rfl ?_
    refine WL.nil ?_
    refine WE.reg ?_
    refine WL.mv rfl rfl ?_
    refine WL.mv rfl rfl ?_
    refine WL.mv rfl rfl ?_
    refine WL.pv (PV.eq (v' := .int .i64 (-(l[k] : Int))) (PV.negw rfl rfl) (by have := hl _ (List.getElem_mem hlt); rw [wrap64_in (by omega) (by omega)]; congr 1; omega)) rfl ?_
    refine WL.call TryzT.fb129 rfl (RotateLeft32_c (x := x) (n := l[k]) H.yylt (hl _ (List.getElem_mem hlt)).1 (hl _ (List.getElem_mem hlt)).2) ?_
    rintro _ w2 ⟨rfl, hO⟩
    replace H := H.out hO
    refine WL.pv (PV.xor32 rfl rfl rfl) rfl ?_
    refine WL.as rfl rfl ?_
    refine WL.nil ?_
    refine WE.reg ?_
    refine WL.pv (PV.add64 rfl rfl rfl (by omega) (by omega)) rfl ?_
    refine WL.mv rfl rfl ?_
    refine WL.nil ?_
    exact ⟨k + 1, (by repeat (first | with_reducible exact Off.refl _ _ | refine Off.upd rfl ?_ | refine Off.setAll rfl ?_ | refine Off.forget' rfl ?_)), ⟨rfl, by rw [hR]; rfl, trivial⟩, rfl, ⟨by omega, H⟩, (by omega)⟩
  · skip
    try simp only [decide_eq_true_eq, decide_eq_false_iff_not, ne_eq, Decidable.not_not, Bool.not_eq_true', Bool.not_eq_false', Bool.and_eq_true, Bool.or_eq_true, Bool.not_not, Bool.and_eq_false_iff, Bool.or_eq_false_iff, Int.not_lt, Int.not_le] at hc11
    have hge : k = l.length := by omega
    refine WE.exit ?_
    refine WE.seq_reg ?_
    refine WL.mv rfl rfl ?_
    refine WL.as rfl rfl ?_
    refine WL.nil ?_
    refine WE.ret ?_
    refine ⟨[_], _, .nil _, ⟨rfl, trivial⟩, ?_⟩
    refine ⟨?_, H.toOut0⟩
    subst hge
    show Value.int .u32 _ = _
    rw [List.take_length]

theorem Blocks_c {X : Nat → Prop} {w : World} {n : Int} (hX : ∀ b, X b → b < w.heap.size) (hn : -9223372036854775808 ≤ n ∧ n ≤ 9223372036854775807) :
    Ret Tryz.prog 122 [.int .i64 n].toArray w fun v w' => v = .int .i64 (blocksOf n) ∧ Out Nil w w' := by
  refine Ret.of_body (N := 13) Tryz.func122 rfl rfl (by simp) ?_
  have H := St.begin hX
  refine WE.seq_reg ?_
  refine WL.as rfl rfl ?_
  refine WL.nil ?_
  refine WE.seq ?_
  refine WE.seq_reg ?_
  refine WL.mv rfl rfl ?_
  refine WL.pv (PV.lss rfl rfl rfl) rfl ?_
  refine WL.mv rfl rfl ?_
  refine WL.split (t := 5) rfl (fun hg5 => ?_) (fun hg5 => ?_)
  · skip
    refine WL.known (t := 4) (c := true) rfl hg5 ?_
    try simp only [decide_eq_true_eq, decide_eq_false_iff_not, ne_eq, Decidable.not_not, Bool.not_eq_true', Bool.not_eq_false', Bool.and_eq_true, Bool.or_eq_true, Bool.not_not, Bool.and_eq_false_iff, Bool.or_eq_false_iff, Int.not_lt, Int.not_le] at hg5
    refine WL.off rfl ?_
    refine WL.off rfl ?_
    refine WL.pv (PV.pick_t rfl rfl rfl) rfl ?_
    refine WL.nil ?_
    refine WE.cond_t rfl ?_
    refine WE.seq_reg ?_
    refine WL.as rfl rfl ?_
    refine WL.nil ?_
    refine WE.ret ?_
    refine ⟨[_], _, .nil _, ⟨rfl, trivial⟩, ?_⟩
    refine ⟨?_, H.toOut0⟩
    rw [blocksOf, if_pos (by omega)]; rfl
  · skip
    refine WL.known (t := 4) (c := false) rfl hg5 ?_
    try simp only [decide_eq_true_eq, decide_eq_false_iff_not, ne_eq, Decidable.not_not, Bool.not_eq_true', Bool.not_eq_false', Bool.and_eq_true, Bool.or_eq_true, Bool.not_not, Bool.and_eq_false_iff, Bool.or_eq_false_iff, Int.not_lt, Int.not_le] at hg5
    refine WL.mv rfl rfl ?_
    refine WL.pv (PV.gtr rfl rfl rfl) rfl ?_
    refine WL.pv (PV.pick_f rfl rfl rfl) rfl ?_
    refine WL.nil ?_
    refine WE.cond rfl (fun hc8 => ?_) (fun hc8 => ?_)
    · skip
      try simp only [decide_eq_true_eq, decide_eq_false_iff_not, ne_eq, Decidable.not_not, Bool.not_eq_true', Bool.not_eq_false', Bool.and_eq_true, Bool.or_eq_true, Bool.not_not, Bool.and_eq_false_iff, Bool.or_eq_false_iff, Int.not_lt, Int.not_le] at hc8
      refine WE.seq_reg ?_
      refine WL.as rfl rfl ?_
      refine WL.nil ?_
      refine WE.ret ?_
      refine ⟨[_], _, .nil _, ⟨rfl, trivial⟩, ?_⟩
      refine ⟨?_, H.toOut0⟩
      rw [blocksOf, if_pos (by omega)]; rfl
    · skip
      try simp only [decide_eq_true_eq, decide_eq_false_iff_not, ne_eq, Decidable.not_not, Bool.not_eq_true', Bool.not_eq_false', Bool.and_eq_true, Bool.or_eq_true, Bool.not_not, Bool.and_eq_false_iff, Bool.or_eq_false_iff, Int.not_lt, Int.not_le] at hc8
      refine WE.skip ?_
      refine WE.seq_reg ?_
      refine WL.mv rfl rfl ?_
      refine WL.pv (PV.add64 rfl rfl rfl (by omega) (by omega)) rfl ?_
      refine WL.pv (PV.add64 rfl rfl rfl (by omega) (by omega)) rfl ?_
      refine WL.pv (PV.quo64 rfl rfl rfl (by omega) (by omega) (by omega)) rfl ?_
      refine WL.as rfl rfl ?_
      refine WL.nil ?_
      refine WE.ret ?_
      refine ⟨[_], _, .nil _, ⟨rfl, trivial⟩, ?_⟩
      refine ⟨?_, H.toOut0⟩
      rw [blocksOf, if_neg (by omega)]
      show Value.int .i64 _ = _
      congr 1; omega

theorem start_c {X : Nat → Prop} {w : World}  (hX : ∀ b, X b → b < w.heap.size) :
    Ret Tryz.prog 97 [].toArray w fun v w' => v = .agg (kw [1779033703, 3144134277, 1013904242, 2773480762, 1359893119, 2600822924, 528734635, 1541459225]).toArray ∧ Out Nil w w' := by
  refine Ret.of_body (N := 2) Tryz.func97 rfl rfl (by decide +revert) ?_
  have H := St.begin hX
  refine WE.seq_reg ?_
  refine WL.alloc H rfl TryzT.ze149 rfl ?_
  intro b0 w1 H
  refine WL.nil ?_
  refine WE.seq_reg ?_
  refine WL.pv (PV.buildA rfl TryzT.ar149 TryzT.sz147 TryzT.ze149 (Fl.cons rfl rfl rfl (Laid.wordA (x := 1779033703) 0 (by simp)) (Fl.cons rfl rfl rfl (Laid.wordA (x := 3144134277) 1 (by simp)) (Fl.cons rfl rfl rfl (Laid.wordA (x := 1013904242) 2 (by simp)) (Fl.cons rfl rfl rfl (Laid.wordA (x := 2773480762) 3 (by simp)) (Fl.cons rfl rfl rfl (Laid.wordA (x := 1359893119) 4 (by simp)) (Fl.cons rfl rfl rfl (Laid.wordA (x := 2600822924) 5 (by simp)) (Fl.cons rfl rfl rfl (Laid.wordA (x := 528734635) 6 (by simp)) (Fl.cons rfl rfl rfl (Laid.wordA (x := 1541459225) 7 (by simp)) Fl.nil))))))))) rfl ?_
  refine WL.storeL H 0 rfl rfl rfl (new := _) rfl (by exact TryzT.sz149) (by exact kw_one _) (Laid.at (Laid.all (by (simp [kc_length, kw_length, *]; done))) (by rfl)) rfl ?_
  intro w2 H
  refine WL.nil ?_
  refine WE.ret ?_
  refine ⟨[_], _, .nil _, ⟨⟨_, rfl, run_loadVar_aggR TryzT.ag149 (by exact Blk.segAt (H.l 0 rfl) (Seg.all _) rfl) (by exact TryzT.sz149)⟩, trivial⟩, ?_⟩
  exact ⟨rfl, H.toOut0⟩

end Go.Sp.Tryz

set_option maxRecDepth 100000
set_option maxHeartbeats 1000000
set_option linter.unusedVariables false
set_option linter.unusedSimpArgs false
namespace Go.Sp.Tryz
open Go.Proofs Go.RowKit Go.Sp

def zc (n : Nat) : Nat := (119 - n % 64) % 64
def be8 (N : Nat) : List UInt8 := (List.range 8).map fun i => UInt8.ofNat (N / 2 ^ (56 - 8 * i))
def padOf (l : List UInt8) : List UInt8 := l ++ 128 :: (List.replicate (zc l.length) 0 ++ be8 (8 * l.length))
theorem be8_length (N : Nat) : (be8 N).length = 8 := by simp [be8]
theorem be8_get (N i : Nat) (h : i < (be8 N).length) : (be8 N)[i] = UInt8.ofNat (N / 2 ^ (56 - 8 * i)) := by simp [be8]
theorem padOf_length (l : List UInt8) : (padOf l).length = l.length + 9 + zc l.length := by
  simp [padOf, be8_length]; omega
def roundsL : List UInt32 := [1116352408, 1899447441, 3049323471, 3921009573, 961987163, 1508970993, 2453635748, 2870763221, 3624381080, 310598401, 607225278, 1426881987, 1925078388, 2162078206, 2614888103, 3248222580, 3835390401, 4022224774, 264347078, 604807628, 770255983, 1249150122, 1555081692, 1996064986, 2554220882, 2821834349, 2952996808, 3210313671, 3336571891, 3584528711, 113926993, 338241895, 666307205, 773529912, 1294757372, 1396182291, 1695183700, 1986661051, 2177026350, 2456956037, 2730485921, 2820302411, 3259730800, 3345764771, 3516065817, 3600352804, 4094571909, 275423344, 430227734, 506948616, 659060556, 883997877, 958139571, 1322822218, 1537002063, 1747873779, 1955562222, 2024104815, 2227730452, 2361852424, 2428436474, 2756734187, 3204031479, 3329325298]

theorem refPad_c {X : Nat → Prop} {w : World} {a : Value} {la : List UInt8} (hX : ∀ b, X b → b < w.heap.size) (hf0 : Rob X (SlB a la) w) (hla : la.length ≤ 1000000000) :
    Ret Tryz.prog 113 [a].toArray w fun v w' => Out Nil w w' ∧ Rob X (SlB v (padOf la)) w' := by
  refine Ret.of_body (N := 36) Tryz.func113 rfl rfl (by simp) ?_
  have H := St.begin hX
  replace H := H.add (rob0 hf0)
  have hz64 : zc la.length < 64 ∧ (la.length + 1 + zc la.length) % 64 = 56 := by unfold zc; omega
  refine WE.seq_reg ?_
  refine WL.as rfl rfl ?_
  refine WL.nil ?_
  refine WE.seq_reg ?_
  refine WL.buildSliceF (l0 := []) H rfl TryzT.st32 (by decide) (zrow_one _ _) Fl.nil rfl ?_
  intro b6 w1 H
  replace H := H.toOsl (n := 0) (sz := 1) (i := 0) rfl rfl (by decide)
  refine WL.mv rfl rfl ?_
  refine WL.append H 0 TryzT.st32 (by decide) rfl rfl rfl (by exact H.p 0 rfl) (by exact kc_one _) (by omega) (by decide) rfl ?_
  intro v8 w2 H
  refine WL.as rfl rfl ?_
  refine WL.nil ?_
  refine WE.seq_reg ?_
  refine WL.mv rfl rfl ?_
  refine WL.buildSliceF (l0 := [.int .u8 (0)]) H rfl TryzT.st32 (by decide) (zrow_one _ _) (Fl.cons rfl (by rfl) (by (simp only [kc_length, kw_length, List.length_replicate, List.length_append, List.length_cons, List.length_nil]; done)) Laid.head Fl.nil) rfl ?_
  intro b10 w3 H
  refine WL.append H 1 TryzT.st32 (by decide) rfl rfl rfl (SlC.of_blk (n := 1) (H.l 0 rfl) rfl) (by exact one_lit _ rfl) (by omega) (by decide) rfl ?_
  intro v11 w4 H
  refine WL.as rfl rfl ?_
  refine WL.nil ?_
  refine WE.seq ?_
  refine WE.block ?_
  replace H := H.forget 0
  have e0 : kc (la ++ 128 :: List.replicate 0 0) = ([] ++ kc la) ++ [.int .u8 128] := by rw [kc_append]; rfl
  refine WE.loop (α := Nat × Value) [3, 12, 13, 14, 15, 16, 17, 18] (fun p => [(3, p.2)]) (fun p wl => p.1 ≤ zc la.length ∧ St X w wl [] [Ent.osl w.heap.size p.2 5 1 (la.length + 1 + p.1) (kc (la ++ 128 :: List.replicate p.1 0))] [SlB a la]) (fun p => zc la.length - p.1) (0, v11) ⟨rfl, trivial⟩ ⟨Nat.zero_le _, H.conv (by rw [e0, Nat.add_zero]; rw [show 0 + la.length + 1 = la.length + 1 by omega]; rfl)⟩ ?_
  intro ⟨j, v⟩ γ0 w5 hI
  try dsimp only at hI
  obtain ⟨hj, H⟩ := hI
  refine WE.seq ?_
  refine WE.seq_reg ?_
  refine WL.mv rfl rfl ?_
  refine WL.pv (PV.lenS (SlC.of_own (H.l 0 rfl)) TryzT.sl32 rfl) rfl ?_
  refine WL.pv (PV.rem64 rfl rfl rfl (by omega) (by omega)) rfl ?_
  refine WL.pv (PV.neq rfl rfl rfl) rfl ?_
  refine WL.nil ?_
  refine WE.cond rfl (fun hc15 => ?_) (fun hc15 => ?_)
  · skip
    try simp only [decide_eq_true_eq, decide_eq_false_iff_not, ne_eq, Decidable.not_not, Bool.not_eq_true', Bool.not_eq_false', Bool.and_eq_true, Bool.or_eq_true, Bool.not_not, Bool.and_eq_false_iff, Bool.or_eq_false_iff, Int.not_lt, Int.not_le] at hc15
    have hlt : j < zc la.length := by omega
    refine WE.skip ?_
    refine WE.block ?_
    refine WE.reg ?_
    refine WL.mv rfl rfl ?_
    refine WL.buildSliceF (l0 := [.int .u8 (0)]) H rfl TryzT.st32 (by decide) (zrow_one _ _) (Fl.cons rfl (by rfl) (by (simp only [kc_length, kw_length, List.length_replicate, List.length_append, List.length_cons, List.length_nil]; done)) Laid.head Fl.nil) rfl ?_
    intro b17 w6 H
    refine WL.append H 1 TryzT.st32 (by decide) rfl rfl rfl (SlC.of_blk (n := 1) (H.l 0 rfl) rfl) (by exact one_lit _ rfl) (by omega) (by decide) rfl ?_
    intro v18 w7 H
    refine WL.as rfl rfl ?_
    refine WL.nil ?_
    replace H := H.forget 0
    have e : kc (la ++ 128 :: List.replicate (j + 1) 0) = kc (la ++ 128 :: List.replicate j 0) ++ [.int .u8 0] := by rw [List.replicate_succ', ← List.cons_append, ← List.append_assoc, kc_append]; rfl
    exact ⟨(j + 1, v18), (by repeat (first | with_reducible exact Off.refl _ _ | refine Off.upd rfl ?_ | refine Off.setAll rfl ?_ | refine Off.forget' rfl ?_)), ⟨rfl, trivial⟩, rfl, ⟨by dsimp only; omega, H.conv (by rw [e]; rfl)⟩, (by dsimp only; omega)⟩
  · skip
    try simp only [decide_eq_true_eq, decide_eq_false_iff_not, ne_eq, Decidable.not_not, Bool.not_eq_true', Bool.not_eq_false', Bool.and_eq_true, Bool.or_eq_true, Bool.not_not, Bool.and_eq_false_iff, Bool.or_eq_false_iff, Int.not_lt, Int.not_le] at hc15
    obtain rfl : j = zc la.length := by omega
    refine WE.exit ?_
    refine WE.seq_reg ?_
    refine WL.mv rfl rfl ?_
    refine WL.pv (PV.lenS (H.p 0 rfl) TryzT.sl32 rfl) rfl ?_
    refine WL.pv (PV.convN (n := la.length) rfl TryzT.in3 TryzT.in179 rfl rfl (by omega)) rfl ?_
    refine WL.pv (PV.mulN (m := la.length) (n := 8) (q := 8 * la.length) rfl rfl rfl (by omega) (by omega)) rfl ?_
    refine WL.as rfl rfl ?_
    refine WL.nil ?_
    refine WE.seq ?_
    refine WE.seq_reg ?_
    refine WL.as rfl rfl ?_
    refine WL.nil ?_
    refine WE.block ?_
    refine WE.loop (α := Nat × Value) [3, 5, 23, 24, 25, 26, 27, 28, 29, 30, 31, 32, 33, 34] (fun p => [(5, .int .i64 (56 - 8 * (p.1 : Int))), (3, p.2)]) (fun p wl => p.1 ≤ 8 ∧ St X w wl [] [Ent.osl w.heap.size p.2 5 1 (la.length + 1 + zc la.length + p.1) (kc ((la ++ 128 :: List.replicate (zc la.length) 0) ++ (be8 (8 * la.length)).take p.1))] [SlB a la]) (fun p => 8 - p.1) (0, v) ⟨rfl, rfl, trivial⟩ ⟨Nat.zero_le _, by dsimp only; rw [List.take_zero, List.append_nil]; exact H⟩ ?_
    intro ⟨i, u⟩ γ1 w8 hI
    try dsimp only at hI
    obtain ⟨hi, H⟩ := hI
    refine WE.seq ?_
    refine WE.seq_reg ?_
    refine WL.mv rfl rfl ?_
    refine WL.pv (PV.geq rfl rfl rfl) rfl ?_
    refine WL.nil ?_
    refine WE.cond rfl (fun hc24 => ?_) (fun hc24 => ?_)
    · skip
      try simp only [decide_eq_true_eq, decide_eq_false_iff_not, ne_eq, Decidable.not_not, Bool.not_eq_true', Bool.not_eq_false', Bool.and_eq_true, Bool.or_eq_true, Bool.not_not, Bool.and_eq_false_iff, Bool.or_eq_false_iff, Int.not_lt, Int.not_le] at hc24
      have hi8 : i < 8 := by omega
      refine WE.skip ?_
      refine WE.seq ?_
      refine WE.block ?_
      refine WE.reg ?_
      refine WL.mv rfl rfl ?_
      refine WL.mv rfl rfl ?_
      refine WL.mv rfl rfl ?_
      refine WL.pv (PV.convN (n := 56 - 8 * i) rfl TryzT.in3 TryzT.in171 rfl (by omega) (by omega)) rfl ?_
      refine WL.pv (PV.shrN (m := 8 * la.length) (n := 56 - 8 * i) rfl rfl rfl (show _ < 64 by omega)) rfl ?_
      refine WL.pv (PV.cN_8 (n := 8 * la.length / 2 ^ (56 - 8 * i)) rfl TryzT.in179 TryzT.in5 rfl) rfl ?_
      refine WL.buildSliceF (l0 := [.int .u8 (0)]) H rfl TryzT.st32 (by decide) (zrow_one _ _) (Fl.cons rfl (by rfl) (by (simp only [kc_length, kw_length, List.length_replicate, List.length_append, List.length_cons, List.length_nil]; done)) Laid.head Fl.nil) rfl ?_
      intro b33 w9 H
      refine WL.append H 1 TryzT.st32 (by decide) rfl rfl rfl (SlC.of_blk (n := 1) (H.l 0 rfl) rfl) (by exact one_lit _ rfl) (by omega) (by decide) rfl ?_
      intro v34 w10 H
      refine WL.as rfl rfl ?_
      refine WL.nil ?_
      refine WE.reg ?_
      refine WL.mv rfl rfl ?_
      refine WL.pv (PV.eq (v' := .int .i64 (56 - 8 * ((i + 1 : Nat) : Int))) (PV.sub64 rfl rfl rfl (by omega) (by omega)) (by congr 1; omega)) rfl ?_
      refine WL.as rfl rfl ?_
      refine WL.nil ?_
      replace H := H.forget 0
      have e := kc_snoc (la ++ 128 :: List.replicate (zc la.length) 0) (be8 (8 * la.length)) i (by rw [be8_length]; omega)
      rw [be8_get] at e
      exact ⟨(i + 1, v34), (by repeat (first | with_reducible exact Off.refl _ _ | refine Off.upd rfl ?_ | refine Off.setAll rfl ?_ | refine Off.forget' rfl ?_)), ⟨rfl, rfl, trivial⟩, rfl, ⟨by dsimp only; omega, H.conv (by rw [e]; rfl)⟩, (by dsimp only; omega)⟩
    · skip
      try simp only [decide_eq_true_eq, decide_eq_false_iff_not, ne_eq, Decidable.not_not, Bool.not_eq_true', Bool.not_eq_false', Bool.and_eq_true, Bool.or_eq_true, Bool.not_not, Bool.and_eq_false_iff, Bool.or_eq_false_iff, Int.not_lt, Int.not_le] at hc24
      obtain rfl : i = 8 := by omega
      refine WE.exit ?_
      refine WE.seq_reg ?_
      refine WL.mv rfl rfl ?_
      refine WL.as rfl rfl ?_
      refine WL.nil ?_
      refine WE.ret ?_
      refine ⟨[_], _, .nil _, ⟨rfl, trivial⟩, ?_⟩
      replace H := H.freeze (i := 0) rfl
      exact ⟨H.toOut0, H.give ((H.rob 0 rfl).imp fun _ h => by have := SlB.of_own h; rw [List.take_of_length_le (by rw [be8_length]; omega), List.append_assoc, List.cons_append] at this; exact this)⟩

end Go.Sp.Tryz

set_option maxRecDepth 100000
set_option maxHeartbeats 1000000
set_option linter.unusedVariables false
set_option linter.unusedSimpArgs false
namespace Go.Sp.Tryz
open Go.Proofs Go.RowKit Go.Sp

def sg0 (x : UInt32) : UInt32 := (rotr x 7 ^^^ rotr x 18) ^^^ (x >>> UInt32.ofNat 3)
def sg1 (x : UInt32) : UInt32 := (rotr x 17 ^^^ rotr x 19) ^^^ (x >>> UInt32.ofNat 10)
def word (b : List UInt8) (i : Nat) : UInt32 := (((b.getD (4 * i) 0).toUInt32 <<< UInt32.ofNat 24 ||| (b.getD (4 * i + 1) 0).toUInt32 <<< UInt32.ofNat 16) ||| (b.getD (4 * i + 2) 0).toUInt32 <<< UInt32.ofNat 8) ||| (b.getD (4 * i + 3) 0).toUInt32
def ext (w : List UInt32) : List UInt32 := w ++ [((w.getD (w.length - 16) 0 + sg0 (w.getD (w.length - 15) 0)) + w.getD (w.length - 7) 0) + sg1 (w.getD (w.length - 2) 0)]
def sched (b : List UInt8) : Nat → List UInt32
  | 0 => (List.range 16).map (word b)
  | k + 1 => ext (sched b k)
theorem sched_length (b : List UInt8) (k : Nat) : (sched b k).length = 16 + k := by
  induction k with
  | zero => simp [sched]
  | succ k ih => simp [sched, ext, ih]; omega
theorem getD_at {α : Type} {l : List α} {d : α} {i : Nat} (h : i < l.length) : l.getD i d = l[i] := by simp [h]
theorem sched_succ (b : List UInt8) (k : Nat) (h0 : k < (sched b k).length) (h1 : k + 1 < (sched b k).length) (h9 : k + 9 < (sched b k).length) (h14 : k + 14 < (sched b k).length) :
    sched b (k + 1) = sched b k ++ [(((sched b k)[k] + sg0 (sched b k)[k + 1]) + (sched b k)[k + 9]) + sg1 (sched b k)[k + 14]] := by
  have hl := sched_length b k
  show ext (sched b k) = _
  unfold ext
  rw [hl, show 16 + k - 16 = k by omega, show 16 + k - 15 = k + 1 by omega, show 16 + k - 7 = k + 9 by omega, show 16 + k - 2 = k + 14 by omega, getD_at h0, getD_at h1, getD_at h9, getD_at h14]
theorem word_eq (b : List UInt8) (i : Nat) (h : 4 * i + 3 < b.length) : word b i = (((b[4 * i].toUInt32 <<< UInt32.ofNat 24 ||| b[4 * i + 1].toUInt32 <<< UInt32.ofNat 16) ||| b[4 * i + 2].toUInt32 <<< UInt32.ofNat 8) ||| b[4 * i + 3].toUInt32) := by
  unfold word
  rw [getD_at (by omega), getD_at (by omega), getD_at (by omega), getD_at h]

theorem primes_c {X : Nat → Prop} {w : World}  (hX : ∀ b, X b → b < w.heap.size) :
    Ret Tryz.prog 112 [].toArray w fun v w' => Out Nil w w' ∧ Rob X (SlW v roundsL) w' := by
  refine Ret.of_body (N := 2) Tryz.func112 rfl rfl (by decide +revert) ?_
  have H := St.begin hX
  refine WE.seq_reg ?_
  refine WL.as rfl rfl ?_
  refine WL.nil ?_
  refine WE.seq_reg ?_
  refine WL.buildSliceF (l0 := List.replicate 64 (.int .u32 0)) (l := kw roundsL) H rfl TryzT.st167 (by decide) (zrow_one _ _) (Fl.rows (z := .int .u32 0) (kw roundsL) [] (fun v hv => cells_one (kw_one _ v hv))) rfl ?_
  intro b1 w2 H
  refine WL.as rfl rfl ?_
  refine WL.nil ?_
  refine WE.ret ?_
  refine ⟨[_], _, .nil _, ⟨rfl, trivial⟩, ?_⟩
  replace H := H.freeze (i := 0) rfl
  exact ⟨H.toOut0, H.give ((H.rob 0 rfl).imp fun _ h => SlC.slw (SlC.of_blk (n := 64) h rfl))⟩

theorem schedule_c {X : Nat → Prop} {w : World} {a : Value} {la : List UInt8} (hX : ∀ b, X b → b < w.heap.size) (hf0 : Rob X (SlB a la) w) (hla : la.length = 64) :
    Ret Tryz.prog 114 [a].toArray w fun v w' => Out Nil w w' ∧ Rob X (SlW v (sched la 48)) w' := by
  refine Ret.of_body (N := 95) Tryz.func114 rfl rfl (by simp) ?_
  have H := St.begin hX
  replace H := H.add (rob0 hf0)
  refine WE.seq_reg ?_
  refine WL.as rfl rfl ?_
  refine WL.nil ?_
  refine WE.seq_reg ?_
  refine WL.as rfl rfl ?_
  refine WL.nil ?_
  refine WE.seq ?_
  refine WE.seq_reg ?_
  refine WL.as rfl rfl ?_
  refine WL.nil ?_
  refine WE.block ?_
  replace H := H.nilOsl 147 1
  refine WE.loop (α := Nat × Value) [3, 4, 8, 9, 10, 11, 12, 13, 14, 15, 16, 17, 18, 19, 20, 21, 22, 23, 24, 25, 26, 27, 28, 29, 30, 31, 32, 33, 34, 35, 36, 37, 38, 39, 40, 41, 42, 43, 44, 45, 46, 47] (fun p => [(4, .int .i64 p.1), (3, p.2)]) (fun p wl => p.1 ≤ 16 ∧ St X w wl [] [Ent.osl w.heap.size p.2 147 1 p.1 (kw ((List.range p.1).map (word la)))] [SlB a la]) (fun p => 16 - p.1) (0, .slice none 0 0) ⟨rfl, rfl, trivial⟩ ⟨Nat.zero_le _, H⟩ ?_
  intro ⟨i, v⟩ γ0 w1 hI
  try dsimp only at hI
  obtain ⟨hi, H⟩ := hI
  refine WE.seq ?_
  refine WE.seq_reg ?_
  refine WL.mv rfl rfl ?_
  refine WL.pv (PV.lss rfl rfl rfl) rfl ?_
  refine WL.nil ?_
  refine WE.cond rfl (fun hc9 => ?_) (fun hc9 => ?_)
  · skip
    try simp only [decide_eq_true_eq, decide_eq_false_iff_not, ne_eq, Decidable.not_not, Bool.not_eq_true', Bool.not_eq_false', Bool.and_eq_true, Bool.or_eq_true, Bool.not_not, Bool.and_eq_false_iff, Bool.or_eq_false_iff, Int.not_lt, Int.not_le] at hc9
    have hlt : i < 16 := by omega
    refine WE.skip ?_
    refine WE.seq ?_
    refine WE.block ?_
    refine WE.draw (.take 0 (.take 1 (.take 2 (.take 3 (.take 4 (.take 5 (.take 6 (.take 7 (.take 8 (.take 9 (.take 10 (.take 11 (.take 12 (.take 13 (.take 14 (.take 15 (.take 16 (.take 17 (.take 18 (.take 19 (.take 20 (.take 21 (.take 22 (.take 23 (.take 24 (.take 25 (.take 26 (.take 27 (.take 28 (.take 29 (.take 30 (.take 31 (.take 32 (.take 33 (.pick1 34 (.pick1 35 (.take 36 .done))))))))))))))))))))))))))))))))))))) TryzT.mixed (by kernel_rfl) ?_
    replace H := H.out (Out.drew _)
    refine WP.mv rfl rfl rfl ?_
    refine WP.mv rfl rfl rfl ?_
    refine WP.mv rfl rfl rfl ?_
    refine WP.take_pure rfl rfl (PV.mul64 rfl rfl rfl (by omega) (by omega)) ?_
    refine WP.take_pure rfl rfl (PV.idxS rfl (H.p 0 rfl) TryzT.sl32 TryzT.sz5 rfl rfl (by omega) (by omega)) ?_
    refine WP.take_read rfl rfl (RV.loadOne rfl TryzT.ag5 rfl) (SlB.rd (H.p 0 rfl) (4 * i) (by omega)) ?_
    refine WP.take_pure rfl rfl (PV.c8_32 rfl TryzT.in5 TryzT.in147 rfl) ?_
    refine WP.take_pure rfl rfl (PV.shl32 (n := 24) rfl rfl rfl (by omega)) ?_
    refine WP.mv rfl rfl rfl ?_
    refine WP.mv rfl rfl rfl ?_
    refine WP.take_pure rfl rfl (PV.mul64 rfl rfl rfl (by omega) (by omega)) ?_
    refine WP.take_pure rfl rfl (PV.add64 rfl rfl rfl (by omega) (by omega)) ?_
    refine WP.take_pure rfl rfl (PV.idxS rfl (H.p 0 rfl) TryzT.sl32 TryzT.sz5 rfl rfl (by omega) (by omega)) ?_
    refine WP.take_read rfl rfl (RV.loadOne rfl TryzT.ag5 rfl) (SlB.rd (H.p 0 rfl) (4 * i + 1) (by omega)) ?_
    refine WP.take_pure rfl rfl (PV.c8_32 rfl TryzT.in5 TryzT.in147 rfl) ?_
    refine WP.take_pure rfl rfl (PV.shl32 (n := 16) rfl rfl rfl (by omega)) ?_
    refine WP.take_pure rfl rfl (PV.or32 rfl rfl rfl) ?_
    refine WP.mv rfl rfl rfl ?_
    refine WP.mv rfl rfl rfl ?_
    refine WP.take_pure rfl rfl (PV.mul64 rfl rfl rfl (by omega) (by omega)) ?_
    refine WP.take_pure rfl rfl (PV.add64 rfl rfl rfl (by omega) (by omega)) ?_
    refine WP.take_pure rfl rfl (PV.idxS rfl (H.p 0 rfl) TryzT.sl32 TryzT.sz5 rfl rfl (by omega) (by omega)) ?_
    refine WP.take_read rfl rfl (RV.loadOne rfl TryzT.ag5 rfl) (SlB.rd (H.p 0 rfl) (4 * i + 2) (by omega)) ?_
    refine WP.take_pure rfl rfl (PV.c8_32 rfl TryzT.in5 TryzT.in147 rfl) ?_
    refine WP.take_pure rfl rfl (PV.shl32 (n := 8) rfl rfl rfl (by omega)) ?_
    refine WP.take_pure rfl rfl (PV.or32 rfl rfl rfl) ?_
    refine WP.mv rfl rfl rfl ?_
    refine WP.mv rfl rfl rfl ?_
    refine WP.take_pure rfl rfl (PV.mul64 rfl rfl rfl (by omega) (by omega)) ?_
    refine WP.take_pure rfl rfl (PV.add64 rfl rfl rfl (by omega) (by omega)) ?_
    refine WP.take_pure rfl rfl (PV.idxS rfl (H.p 0 rfl) TryzT.sl32 TryzT.sz5 rfl rfl (by omega) (by omega)) ?_
    refine WP.take_read rfl rfl (RV.loadOne rfl TryzT.ag5 rfl) (SlB.rd (H.p 0 rfl) (4 * i + 3) (by omega)) ?_
    refine WP.take_pure rfl rfl (PV.c8_32 rfl TryzT.in5 TryzT.in147 rfl) ?_
    refine WP.take_pure rfl rfl (PV.or32 rfl rfl rfl) ?_
    refine WP.pick1 rfl ?_
    refine WL.buildSliceF (l0 := [.int .u32 (0)]) H rfl TryzT.st167 (by decide) (zrow_one _ _) (Fl.cons rfl (by rfl) (by (simp only [kc_length, kw_length, List.length_replicate, List.length_append, List.length_cons, List.length_nil]; done)) Laid.head Fl.nil) rfl ?_
    intro b46 w2 H
    refine WL.nil ⟨(List.forall_mem_cons.2 ⟨(by exact (fun h => absurd (show waits _ 34 31 = false from h) (by decide +kernel))), (List.forall_mem_cons.2 ⟨(by exact (fun h => absurd (show waits _ 34 22 = false from h) (by decide +kernel))), (List.forall_mem_cons.2 ⟨(by exact (fun h => absurd (show waits _ 34 13 = false from h) (by decide +kernel))), (List.forall_mem_cons.2 ⟨(by exact (fun h => absurd (show waits _ 34 5 = false from h) (by decide +kernel))), (fun _ h => by cases h)⟩)⟩)⟩)⟩), ?_⟩
    refine WP.pick1 rfl ?_
    refine WL.append H 1 TryzT.st167 (by decide) rfl rfl rfl (SlC.of_blk (n := 1) (H.l 0 rfl) rfl) (by exact one_lit _ rfl) (by omega) (by decide) rfl ?_
    intro v47 w3 H
    refine WL.nil ⟨(List.forall_mem_cons.2 ⟨(by exact (fun h => absurd (show waits _ 35 31 = false from h) (by decide +kernel))), (List.forall_mem_cons.2 ⟨(by exact (fun h => absurd (show waits _ 35 22 = false from h) (by decide +kernel))), (List.forall_mem_cons.2 ⟨(by exact (fun h => absurd (show waits _ 35 13 = false from h) (by decide +kernel))), (List.forall_mem_cons.2 ⟨(by exact (fun h => absurd (show waits _ 35 5 = false from h) (by decide +kernel))), (fun _ h => by cases h)⟩)⟩)⟩)⟩), ?_⟩
    refine WP.as rfl rfl rfl ?_
    refine WP.done ?_
    refine WE.reg ?_
    refine WL.mv rfl rfl ?_
    refine WL.pv (PV.add64 rfl rfl rfl (by omega) (by omega)) rfl ?_
    refine WL.as rfl rfl ?_
    refine WL.nil ?_
    replace H := H.forget 0
    have e : kw ((List.range (i + 1)).map (word la)) = kw ((List.range i).map (word la)) ++ [.int .u32 ((word la i).toNat : Int)] := by rw [List.range_succ, List.map_append, kw_append]; rfl
    rw [word_eq la i (by omega)] at e
    exact ⟨(i + 1, v47), (by repeat (first | with_reducible exact Off.refl _ _ | refine Off.upd rfl ?_ | refine Off.setAll rfl ?_ | refine Off.forget' rfl ?_)), ⟨rfl, rfl, trivial⟩, rfl, ⟨by dsimp only; omega, H.conv (by rw [e]; rfl)⟩, (by dsimp only; omega)⟩
  · skip
    try simp only [decide_eq_true_eq, decide_eq_false_iff_not, ne_eq, Decidable.not_not, Bool.not_eq_true', Bool.not_eq_false', Bool.and_eq_true, Bool.or_eq_true, Bool.not_not, Bool.and_eq_false_iff, Bool.or_eq_false_iff, Int.not_lt, Int.not_le] at hc9
    obtain rfl : i = 16 := by omega
    refine WE.exit ?_
    refine WE.seq ?_
    refine WE.seq_reg ?_
    refine WL.as rfl rfl ?_
    refine WL.nil ?_
    refine WE.block ?_
    refine WE.loop (α := Nat × Value) [3, 5, 6, 7, 48, 49, 50, 51, 52, 53, 54, 55, 56, 57, 58, 59, 60, 61, 62, 63, 64, 65, 66, 67, 68, 69, 70, 71, 72, 73, 74, 75, 76, 77, 78, 79, 80, 81, 82, 83, 84, 85, 86, 87, 88, 89, 90, 91, 92, 93] (fun p => [(5, .int .i64 ((16 + p.1 : Nat) : Int)), (3, p.2)]) (fun p wl => p.1 ≤ 48 ∧ St X w wl [] [Ent.osl w.heap.size p.2 147 1 (16 + p.1) (kw (sched la p.1))] [SlB a la]) (fun p => 48 - p.1) (0, v) ⟨rfl, rfl, trivial⟩ ⟨Nat.zero_le _, H⟩ ?_
    intro ⟨k, u⟩ γ1 w4 hI
    try dsimp only at hI
    obtain ⟨hk, H⟩ := hI
    have hS := sched_length la k
    refine WE.seq ?_
    refine WE.seq_reg ?_
    refine WL.mv rfl rfl ?_
    refine WL.pv (PV.lss rfl rfl rfl) rfl ?_
    refine WL.nil ?_
    refine WE.cond rfl (fun hc49 => ?_) (fun hc49 => ?_)
    · skip
      try simp only [decide_eq_true_eq, decide_eq_false_iff_not, ne_eq, Decidable.not_not, Bool.not_eq_true', Bool.not_eq_false', Bool.and_eq_true, Bool.or_eq_true, Bool.not_not, Bool.and_eq_false_iff, Bool.or_eq_false_iff, Int.not_lt, Int.not_le] at hc49
      have hlt : k < 48 := by omega
      refine WE.skip ?_
      refine WE.seq ?_
      refine WE.block ?_
      refine WE.seq_reg ?_
      refine WL.mv rfl rfl ?_
      refine WL.mv rfl rfl ?_
      refine WL.pv (PV.eq (v' := .int .i64 ((k + 1 : Nat) : Int)) (PV.sub64 rfl rfl rfl (by omega) (by omega)) (by congr 1; omega)) rfl ?_
      refine WL.pv (PV.idxS rfl (SlC.of_own (H.l 0 rfl)) TryzT.sl167 TryzT.sz147 rfl rfl (by omega) (by omega)) rfl ?_
      refine WL.load1 rfl TryzT.ag147 rfl rfl (by exact SlC.rdw (SlC.of_own (H.l 0 rfl)) (k + 1) (by rw [hS]; omega)) ?_
      refine WL.as rfl rfl ?_
      refine WL.nil ?_
      refine WE.seq_reg ?_
      refine WL.mv rfl rfl ?_
      refine WL.mv rfl rfl ?_
      refine WL.pv (PV.eq (v' := .int .i64 ((k + 14 : Nat) : Int)) (PV.sub64 rfl rfl rfl (by omega) (by omega)) (by congr 1; omega)) rfl ?_
      refine WL.pv (PV.idxS rfl (SlC.of_own (H.l 0 rfl)) TryzT.sl167 TryzT.sz147 rfl rfl (by omega) (by omega)) rfl ?_
      refine WL.load1 rfl TryzT.ag147 rfl rfl (by exact SlC.rdw (SlC.of_own (H.l 0 rfl)) (k + 14) (by rw [hS]; omega)) ?_
      refine WL.as rfl rfl ?_
      refine WL.nil ?_
      refine WE.draw (.take 0 (.take 1 (.take 2 (.take 3 (.take 4 (.take 5 (.take 6 (.take 8 (.take 11 (.take 12 (.take 15 (.take 16 (.take 17 (.take 18 (.take 19 (.take 21 (.take 23 (.take 26 (.take 27 (.pick1 7 (.pick1 9 (.take 10 (.take 13 (.take 14 (.take 20 (.pick1 22 (.pick1 24 (.take 25 (.take 28 (.take 29 (.pick1 30 (.pick1 31 (.take 32 .done))))))))))))))))))))))))))))))))) TryzT.mixed (by kernel_rfl) ?_
      replace H := H.out (Out.drew _)
      refine WP.mv rfl rfl rfl ?_
      refine WP.mv rfl rfl rfl ?_
      refine WP.mv rfl rfl rfl ?_
      refine WP.take_pure rfl rfl (PV.eq (v' := .int .i64 ((k : Nat) : Int)) (PV.sub64 rfl rfl rfl (by omega) (by omega)) (by congr 1; omega)) ?_
      refine WP.take_pure rfl rfl (PV.idxS rfl (SlC.of_own (H.l 0 rfl)) TryzT.sl167 TryzT.sz147 rfl rfl (by omega) (by omega)) ?_
      refine WP.take_read rfl rfl (RV.loadOne rfl TryzT.ag147 rfl) (by exact SlC.rdw (SlC.of_own (H.l 0 rfl)) (k) (by rw [hS]; omega)) ?_
      refine WP.mv rfl rfl rfl ?_
      refine WP.mv rfl rfl rfl ?_
      refine WP.mv rfl rfl rfl ?_
      refine WP.take_pure rfl rfl (PV.shr32 (n := 3) rfl rfl rfl (by omega)) ?_
      refine WP.mv rfl rfl rfl ?_
      refine WP.mv rfl rfl rfl ?_
      refine WP.take_pure rfl rfl (PV.eq (v' := .int .i64 ((k + 9 : Nat) : Int)) (PV.sub64 rfl rfl rfl (by omega) (by omega)) (by congr 1; omega)) ?_
      refine WP.take_pure rfl rfl (PV.idxS rfl (SlC.of_own (H.l 0 rfl)) TryzT.sl167 TryzT.sz147 rfl rfl (by omega) (by omega)) ?_
      refine WP.take_read rfl rfl (RV.loadOne rfl TryzT.ag147 rfl) (by exact SlC.rdw (SlC.of_own (H.l 0 rfl)) (k + 9) (by rw [hS]; omega)) ?_
      refine WP.mv rfl rfl rfl ?_
      refine WP.mv rfl rfl rfl ?_
      refine WP.mv rfl rfl rfl ?_
      refine WP.take_pure rfl rfl (PV.shr32 (n := 10) rfl rfl rfl (by omega)) ?_
      refine WP.pick1 rfl ?_
      refine WL.call TryzT.fb115 rfl (turn_c (x := (sched la k)[k + 1]'(by rw [hS]; omega)) (n := 7) H.yylt (by decide) (by decide)) ?_
      rintro _ w5 ⟨rfl, hO⟩
      replace H := H.out hO
      refine WL.nil ⟨(List.forall_mem_cons.2 ⟨(fun _ _ => (by exact SlC.rdw (SlC.of_own (H.l 0 rfl)) (k + 9) (by rw [hS]; omega))), (List.forall_mem_cons.2 ⟨(fun _ _ => (by exact SlC.rdw (SlC.of_own (H.l 0 rfl)) (k) (by rw [hS]; omega))), (fun _ h => by cases h)⟩)⟩), ?_⟩
      refine WP.pick1 rfl ?_
      refine WL.call TryzT.fb115 rfl (turn_c (x := (sched la k)[k + 1]'(by rw [hS]; omega)) (n := 18) H.yylt (by decide) (by decide)) ?_
      rintro _ w6 ⟨rfl, hO⟩
      replace H := H.out hO
      refine WL.nil ⟨(List.forall_mem_cons.2 ⟨(fun _ _ => (by exact SlC.rdw (SlC.of_own (H.l 0 rfl)) (k + 9) (by rw [hS]; omega))), (List.forall_mem_cons.2 ⟨(fun _ _ => (by exact SlC.rdw (SlC.of_own (H.l 0 rfl)) (k) (by rw [hS]; omega))), (fun _ h => by cases h)⟩)⟩), ?_⟩
      refine WP.take_pure rfl rfl (PV.xor32 rfl rfl rfl) ?_
      refine WP.take_pure rfl rfl (PV.xor32 rfl rfl rfl) ?_
      refine WP.take_pure rfl rfl (PV.add32 rfl rfl rfl) ?_
      refine WP.take_pure rfl rfl (PV.add32 rfl rfl rfl) ?_
      refine WP.pick1 rfl ?_
      refine WL.call TryzT.fb115 rfl (turn_c (x := (sched la k)[k + 14]'(by rw [hS]; omega)) (n := 17) H.yylt (by decide) (by decide)) ?_
      rintro _ w7 ⟨rfl, hO⟩
      replace H := H.out hO
      refine WL.nil ⟨(List.forall_mem_cons.2 ⟨(fun _ _ => (by exact SlC.rdw (SlC.of_own (H.l 0 rfl)) (k + 9) (by rw [hS]; omega))), (List.forall_mem_cons.2 ⟨(fun _ _ => (by exact SlC.rdw (SlC.of_own (H.l 0 rfl)) (k) (by rw [hS]; omega))), (fun _ h => by cases h)⟩)⟩), ?_⟩
      refine WP.pick1 rfl ?_
      refine WL.call TryzT.fb115 rfl (turn_c (x := (sched la k)[k + 14]'(by rw [hS]; omega)) (n := 19) H.yylt (by decide) (by decide)) ?_
      rintro _ w8 ⟨rfl, hO⟩
      replace H := H.out hO
      refine WL.nil ⟨(List.forall_mem_cons.2 ⟨(fun _ _ => (by exact SlC.rdw (SlC.of_own (H.l 0 rfl)) (k + 9) (by rw [hS]; omega))), (List.forall_mem_cons.2 ⟨(fun _ _ => (by exact SlC.rdw (SlC.of_own (H.l 0 rfl)) (k) (by rw [hS]; omega))), (fun _ h => by cases h)⟩)⟩), ?_⟩
      refine WP.take_pure rfl rfl (PV.xor32 rfl rfl rfl) ?_
      refine WP.take_pure rfl rfl (PV.xor32 rfl rfl rfl) ?_
      refine WP.take_pure rfl rfl (PV.add32 rfl rfl rfl) ?_
      refine WP.pick1 rfl ?_
      refine WL.buildSliceF (l0 := [.int .u32 (0)]) H rfl TryzT.st167 (by decide) (zrow_one _ _) (Fl.cons rfl (by rfl) (by (simp only [kc_length, kw_length, List.length_replicate, List.length_append, List.length_cons, List.length_nil]; done)) Laid.head Fl.nil) rfl ?_
      intro b92 w9 H
      refine WL.nil ⟨(List.forall_mem_cons.2 ⟨(by exact (fun h => absurd (show waits _ 30 19 = false from h) (by decide +kernel))), (List.forall_mem_cons.2 ⟨(by exact (fun h => absurd (show waits _ 30 5 = false from h) (by decide +kernel))), (fun _ h => by cases h)⟩)⟩), ?_⟩
      refine WP.pick1 rfl ?_
      refine WL.append H 1 TryzT.st167 (by decide) rfl rfl rfl (SlC.of_blk (n := 1) (H.l 0 rfl) rfl) (by exact one_lit _ rfl) (by omega) (by decide) rfl ?_
      intro v93 w10 H
      refine WL.nil ⟨(List.forall_mem_cons.2 ⟨(by exact (fun h => absurd (show waits _ 31 19 = false from h) (by decide +kernel))), (List.forall_mem_cons.2 ⟨(by exact (fun h => absurd (show waits _ 31 5 = false from h) (by decide +kernel))), (fun _ h => by cases h)⟩)⟩), ?_⟩
      refine WP.as rfl rfl rfl ?_
      refine WP.done ?_
      refine WE.reg ?_
      refine WL.mv rfl rfl ?_
      refine WL.pv (PV.add64 rfl rfl rfl (by omega) (by omega)) rfl ?_
      refine WL.as rfl rfl ?_
      refine WL.nil ?_
      replace H := H.forget 0
      have e := sched_succ la k (by omega) (by omega) (by omega) (by omega)
      exact ⟨(k + 1, v93), (by repeat (first | with_reducible exact Off.refl _ _ | refine Off.upd rfl ?_ | refine Off.setAll rfl ?_ | refine Off.forget' rfl ?_)), ⟨rfl, rfl, trivial⟩, rfl, ⟨by dsimp only; omega, H.conv (by rw [e, kw_snoc]; rfl)⟩, (by dsimp only; omega)⟩
    · skip
      try simp only [decide_eq_true_eq, decide_eq_false_iff_not, ne_eq, Decidable.not_not, Bool.not_eq_true', Bool.not_eq_false', Bool.and_eq_true, Bool.or_eq_true, Bool.not_not, Bool.and_eq_false_iff, Bool.or_eq_false_iff, Int.not_lt, Int.not_le] at hc49
      obtain rfl : k = 48 := by omega
      refine WE.exit ?_
      refine WE.seq_reg ?_
      refine WL.mv rfl rfl ?_
      refine WL.as rfl rfl ?_
      refine WL.nil ?_
      refine WE.ret ?_
      refine ⟨[_], _, .nil _, ⟨rfl, trivial⟩, ?_⟩
      replace H := H.freeze (i := 0) rfl
      exact ⟨H.toOut0, H.give ((H.rob 0 rfl).imp fun _ h => SlC.slw (SlC.of_own h))⟩

end Go.Sp.Tryz

set_option maxRecDepth 100000
set_option maxHeartbeats 1000000
set_option linter.unusedVariables false
set_option linter.unusedSimpArgs false
namespace Go.Sp.Tryz
open Go.Proofs Go.RowKit Go.Sp

theorem padT {n : Nat} (h : n ≤ 1152921504606846976) : 64 * blocksOf (n : Int) = ((n + 9 + zc n : Nat) : Int) := by
  unfold blocksOf zc
  rw [if_neg (by omega)]
  omega
def padC (l : List UInt8) (i : Nat) : List UInt8 := (l ++ 128 :: List.replicate (zc l.length + (8 - i)) 0) ++ (be8 (8 * l.length)).drop (8 - i)
theorem padC_zero (l : List UInt8) : padC l 0 = l ++ 128 :: List.replicate (zc l.length + 8) 0 := by
  unfold padC
  rw [List.drop_eq_nil_of_le (by rw [be8_length]; omega), List.append_nil]
theorem padC_eight (l : List UInt8) : padC l 8 = padOf l := by simp [padC, padOf]
theorem padC_length (l : List UInt8) (i : Nat) (hi : i ≤ 8) : (padC l i).length = l.length + 9 + zc l.length := by
  simp [padC, be8_length]; omega
theorem padC_set (l : List UInt8) (i : Nat) (hi : i < 8) : (padC l i).set (l.length + 8 + zc l.length - i) (UInt8.ofNat (8 * l.length / 2 ^ (8 * i))) = padC l (i + 1) := by
  have hb := be8_length (8 * l.length)
  have h7 : 7 - i < (be8 (8 * l.length)).length := by omega
  have hd : (be8 (8 * l.length)).drop (8 - (i + 1)) = UInt8.ofNat (8 * l.length / 2 ^ (8 * i)) :: (be8 (8 * l.length)).drop (8 - i) := by
    rw [show 8 - (i + 1) = 7 - i by omega, List.drop_eq_getElem_cons h7, be8_get, show 7 - i + 1 = 8 - i by omega, show 56 - 8 * (7 - i) = 8 * i by omega]
  unfold padC
  rw [hd]
  have hr : l ++ 128 :: List.replicate (zc l.length + (8 - i)) 0 = (l ++ 128 :: List.replicate (zc l.length + (8 - (i + 1))) 0) ++ [0] := by
    rw [show zc l.length + (8 - i) = (zc l.length + (8 - (i + 1))) + 1 by omega, List.replicate_succ', ← List.cons_append, ← List.append_assoc]
  have hlen : (l ++ 128 :: List.replicate (zc l.length + (8 - (i + 1))) (0 : UInt8)).length = l.length + 8 + zc l.length - i := by simp; omega
  rw [hr, List.append_assoc, ← hlen, List.set_append_right _ _ (Nat.le_refl _), Nat.sub_self]
  rfl
theorem copy_front (l : List UInt8) (m : Nat) : Laid (kc (List.replicate (l.length + m) 0)) 0 ((kc l).take (min l.length (l.length + m))) (kc (l ++ List.replicate m 0)) := by
  have e : (kc l).take (min l.length (l.length + m)) = kc l := by rw [show min l.length (l.length + m) = l.length by omega]; exact List.take_of_length_le (by rw [kc_length]; omega)
  rw [e, ← List.replicate_append_replicate]
  have : Laid (kc (List.replicate l.length 0)) 0 (kc l) (kc l) := Laid.all (by simp [kc_length])
  have h2 := Laid.left (b := kc (List.replicate m 0)) this
  rwa [← kc_append, ← kc_append] at h2
theorem set_front (l : List UInt8) (m : Nat) : (l ++ List.replicate (m + 1) (0 : UInt8)).set l.length 128 = l ++ 128 :: List.replicate m 0 := by
  rw [List.set_append_right _ _ (Nat.le_refl _), Nat.sub_self]; rfl

theorem PadO_c {X : Nat → Prop} {w : World} {a : Value} {la : List UInt8} (hX : ∀ b, X b → b < w.heap.size) (hf0 : Rob X (SlB a la) w) (hla : la.length ≤ 1000000000) :
    Ret Tryz.prog 100 [a].toArray w fun v w' => Out Nil w w' ∧ ∃ b, v = .slice (some ⟨b, 0, none⟩) (padOf la).length (padOf la).length ∧ w.heap.size ≤ b ∧ Blk w' b 5 (kc (padOf la)) := by
  refine Ret.of_body (N := 39) Tryz.func100 rfl rfl (by simp) ?_
  have H := St.begin hX
  replace H := H.add (rob0 hf0)
  have hz64 : zc la.length < 64 := by unfold zc; omega
  have hT := padT (n := la.length) (by omega)
  refine WE.seq_reg ?_
  refine WL.as rfl rfl ?_
  refine WL.nil ?_
  refine WE.seq_reg ?_
  refine WL.mv rfl rfl ?_
  refine WL.pv (PV.lenS (H.p 0 rfl) TryzT.sl32 rfl) rfl ?_
  refine WL.call TryzT.fb122 rfl (Blocks_c (n := (la.length : Int)) H.yylt (by omega)) ?_
  rintro _ w1 ⟨rfl, hO⟩
  replace H := H.out hO
  refine WL.pv (PV.eq (v' := .int .i64 (((la.length + 9 + zc la.length) : Nat) : Int)) (PV.mul64 rfl rfl rfl (by omega) (by omega)) (by congr 1)) rfl ?_
  refine WL.makeSlice (n := (la.length + 9 + zc la.length)) H rfl TryzT.st32 rfl (by omega) (by omega) rfl ?_
  intro b10 w3 H
  replace H := H.conv (L' := [Ent.blk b10 5 (kc (List.replicate (la.length + (8 + zc la.length + 1)) 0))]) (by rw [zrow_one, show la.length + (8 + zc la.length + 1) = (la.length + 9 + zc la.length) by omega]; simp [kc])
  refine WL.as rfl rfl ?_
  refine WL.nil ?_
  refine WE.seq_reg ?_
  refine WL.mv rfl rfl ?_
  refine WL.mv rfl rfl ?_
  refine WL.copy H 0 TryzT.sl32 TryzT.sz5 rfl rfl rfl (H.p 0 rfl) (by exact kc_one _) (by have := copy_front la (8 + zc la.length + 1); rw [show la.length + (8 + zc la.length + 1) = (la.length + 9 + zc la.length) by omega] at this ⊢; exact this) rfl ?_
  intro w5 H
  refine WL.nil ?_
  refine WE.seq_reg ?_
  refine WL.mv rfl rfl ?_
  refine WL.mv rfl rfl ?_
  refine WL.pv (PV.lenS (H.p 0 rfl) TryzT.sl32 rfl) rfl ?_
  refine WL.pv (PV.indexSl rfl TryzT.sl32 TryzT.sz5 rfl rfl (by omega) (by omega)) rfl ?_
  refine WL.storeL H 0 rfl rfl rfl (new := _) rfl (by exact TryzT.sz5) (by exact one_lit _ rfl) (Laid.at (Laid.byteA (x := 128) la.length (by simp)) (by simp)) rfl ?_
  intro w6 H
  replace H := H.conv (L' := [Ent.blk b10 5 (kc (padC la 0))]) (by rw [padC_zero, set_front, Nat.add_comm 8]; rfl)
  refine WL.nil ?_
  refine WE.seq_reg ?_
  refine WL.mv rfl rfl ?_
  refine WL.pv (PV.lenS (H.p 0 rfl) TryzT.sl32 rfl) rfl ?_
  refine WL.pv (PV.convN (n := la.length) rfl TryzT.in3 TryzT.in179 rfl rfl (by omega)) rfl ?_
  refine WL.pv (PV.mulN (m := la.length) (n := 8) (q := 8 * la.length) rfl rfl rfl (by omega) (by omega)) rfl ?_
  refine WL.as rfl rfl ?_
  refine WL.nil ?_
  refine WE.seq ?_
  refine WE.seq_reg ?_
  refine WL.mv rfl rfl ?_
  refine WL.nil ?_
  refine WE.block ?_
  refine WE.loop (α := Nat) [5, 22, 23, 24, 25, 26, 27, 28, 29, 30, 31, 32, 33, 34, 35, 36, 37] (fun i => [(22, .int .i64 i)]) (fun i wl => i ≤ 8 ∧ St X w wl [] [Ent.blk b10 5 (kc (padC la i))] [SlB a la]) (fun i => 8 - i) 0 ⟨rfl, trivial⟩ ⟨Nat.zero_le _, H⟩ ?_
  intro i γ0 w7 hI
  try dsimp only at hI
  obtain ⟨hi, H⟩ := hI
  refine WE.seq_reg ?_
  refine WL.pv (PV.lss rfl rfl rfl) rfl ?_
  refine WL.nil ?_
  refine WE.seq ?_
  refine WE.cond rfl (fun hc23 => ?_) (fun hc23 => ?_)
  · skip
    try simp only [decide_eq_true_eq, decide_eq_false_iff_not, ne_eq, Decidable.not_not, Bool.not_eq_true', Bool.not_eq_false', Bool.and_eq_true, Bool.or_eq_true, Bool.not_not, Bool.and_eq_false_iff, Bool.or_eq_false_iff, Int.not_lt, Int.not_le] at hc23
    have hi8 : i < 8 := by omega
    refine WE.skip ?_
    refine WE.seq ?_
    refine WE.block ?_
    refine WE.seq_reg ?_
    refine WL.mv rfl rfl ?_
    refine WL.as rfl rfl ?_
    refine WL.nil ?_
    refine WE.reg ?_
    refine WL.mv rfl rfl ?_
    refine WL.mv rfl rfl ?_
    refine WL.pv (PV.lenSl TryzT.sl32 rfl) rfl ?_
    refine WL.pv (PV.eq (v' := .int .i64 ((la.length + 8 + zc la.length : Nat) : Int)) (PV.sub64 rfl rfl rfl (by omega) (by omega)) (by congr 1; omega)) rfl ?_
    refine WL.mv rfl rfl ?_
    refine WL.pv (PV.eq (v' := .int .i64 ((la.length + 8 + zc la.length - i : Nat) : Int)) (PV.sub64 rfl rfl rfl (by omega) (by omega)) (by congr 1; omega)) rfl ?_
    refine WL.mv rfl rfl ?_
    refine WL.mv rfl rfl ?_
    refine WL.pv (PV.eq (v' := .int .i64 ((8 * i : Nat) : Int)) (PV.mul64 rfl rfl rfl (by omega) (by omega)) (by congr 1)) rfl ?_
    refine WL.pv (PV.shrN (m := 8 * la.length) (n := 8 * i) rfl rfl rfl (show _ < 64 by omega)) rfl ?_
    refine WL.pv (PV.cN_8 (n := 8 * la.length / 2 ^ (8 * i)) rfl TryzT.in179 TryzT.in5 rfl) rfl ?_
    refine WL.pv (PV.indexSl rfl TryzT.sl32 TryzT.sz5 rfl rfl (by omega) (by omega)) rfl ?_
    refine WL.storeL H 0 rfl rfl rfl (new := _) rfl (by exact TryzT.sz5) (by exact one_lit _ rfl) (Laid.at (Laid.byteA (la.length + 8 + zc la.length - i) (by rw [padC_length _ _ (by omega)]; omega)) (by simp)) rfl ?_
    intro w8 H
    refine WL.nil ?_
    refine WE.reg ?_
    refine WL.pv (PV.add64 rfl rfl rfl (by omega) (by omega)) rfl ?_
    refine WL.mv rfl rfl ?_
    refine WL.nil ?_
    have e := padC_set la i hi8
    exact ⟨i + 1, (by repeat (first | with_reducible exact Off.refl _ _ | refine Off.upd rfl ?_ | refine Off.setAll rfl ?_ | refine Off.forget' rfl ?_)), ⟨rfl, trivial⟩, rfl, ⟨by omega, H.conv (by rw [← e]; rfl)⟩, (by omega)⟩
  · skip
    try simp only [decide_eq_true_eq, decide_eq_false_iff_not, ne_eq, Decidable.not_not, Bool.not_eq_true', Bool.not_eq_false', Bool.and_eq_true, Bool.or_eq_true, Bool.not_not, Bool.and_eq_false_iff, Bool.or_eq_false_iff, Int.not_lt, Int.not_le] at hc23
    obtain rfl : i = 8 := by omega
    refine WE.exit ?_
    refine WE.seq_reg ?_
    refine WL.mv rfl rfl ?_
    refine WL.as rfl rfl ?_
    refine WL.nil ?_
    refine WE.ret ?_
    refine ⟨[_], _, .nil _, ⟨rfl, trivial⟩, ?_⟩
    rw [padC_eight] at H
    exact ⟨H.toOut0, b10, by rw [padOf_length]; rfl, H.geL _ (List.mem_of_getElem? (i := 0) rfl) _ rfl, H.l 0 rfl⟩

theorem Pad_c {X : Nat → Prop} {w : World} {a : Value} {la : List UInt8} (hX : ∀ b, X b → b < w.heap.size) (hf0 : Rob X (SlB a la) w) (hla : la.length ≤ 1000000000) :
    Ret Tryz.prog 100 [a].toArray w fun v w' => Out Nil w w' ∧ Rob X (SlB v (padOf la)) w' :=
  (PadO_c hX hf0 hla).mono fun v w' ⟨hO, b, hv, hb, h⟩ => ⟨hO, by subst hv; exact (rob_new hX hb h).imp fun _ h => SlB.of_blk h rfl⟩

end Go.Sp.Tryz

set_option maxRecDepth 100000
set_option maxHeartbeats 1000000
set_option linter.unusedVariables false
set_option linter.unusedSimpArgs false
namespace Go.Sp.Tryz
open Go.Proofs Go.RowKit Go.Sp

def h0L : List UInt32 := [1779033703, 3144134277, 1013904242, 2773480762, 1359893119, 2600822924, 528734635, 1541459225]
def t1f (s : List UInt32) (k w : UInt32) : UInt32 := (((s.getD 7 0 + ((rotr (s.getD 4 0) 6 ^^^ rotr (s.getD 4 0) 11) ^^^ rotr (s.getD 4 0) 25)) + ((s.getD 4 0 &&& s.getD 5 0) ^^^ (~~~(s.getD 4 0) &&& s.getD 6 0))) + k) + w
def t2f (s : List UInt32) : UInt32 := ((rotr (s.getD 0 0) 2 ^^^ rotr (s.getD 0 0) 13) ^^^ rotr (s.getD 0 0) 22) + (((s.getD 0 0 &&& s.getD 1 0) ^^^ (s.getD 0 0 &&& s.getD 2 0)) ^^^ (s.getD 1 0 &&& s.getD 2 0))
def stp (s : List UInt32) (k w : UInt32) : List UInt32 := [t1f s k w + t2f s, s.getD 0 0, s.getD 1 0, s.getD 2 0, s.getD 3 0 + t1f s k w, s.getD 4 0, s.getD 5 0, s.getD 6 0]
def rnds (W s : List UInt32) : Nat → List UInt32
  | 0 => s
  | i + 1 => stp (rnds W s i) (roundsL.getD i 0) (W.getD i 0)
def addTo (s t : List UInt32) (i : Nat) : List UInt32 := (List.range 8).map fun j => if j < i then s.getD j 0 + t.getD j 0 else s.getD j 0
def comp (s : List UInt32) (b : List UInt8) : List UInt32 := addTo s (rnds (sched b 48) s 64) 8
def shaSt (p : List UInt8) : Nat → List UInt32
  | 0 => h0L
  | n + 1 => comp (shaSt p n) ((p.drop (64 * n)).take 64)
def outOf (s : List UInt32) : List UInt8 := (List.range 32).map fun i => (s.getD (i / 4) 0 >>> UInt32.ofNat (24 - 8 * (i % 4))).toUInt8
def shaOf (l : List UInt8) : List UInt8 := outOf (shaSt (padOf l) ((padOf l).length / 64))
theorem rnds_length (W s : List UInt32) (h : s.length = 8) (i : Nat) : (rnds W s i).length = 8 := by
  cases i with
  | zero => exact h
  | succ i => rfl
theorem addTo_length (s t : List UInt32) (i : Nat) : (addTo s t i).length = 8 := by simp [addTo]
theorem shaSt_length (p : List UInt8) (n : Nat) : (shaSt p n).length = 8 := by
  cases n with
  | zero => rfl
  | succ n => exact addTo_length _ _ _
theorem shaOf_length (l : List UInt8) : (shaOf l).length = 32 := by simp [shaOf, outOf]
theorem padOf_64 (l : List UInt8) : (padOf l).length % 64 = 0 := by rw [padOf_length]; unfold zc; omega
theorem addTo_zero (s t : List UInt32) (h : s.length = 8) : addTo s t 0 = s := by
  apply List.ext_getElem
  · rw [addTo_length, h]
  · intro i h1 h2
    simp [addTo, h2]
theorem addTo_get (s t : List UInt32) (i : Nat) (h : s.length = 8) (hi : i < (addTo s t i).length) (hs : i < s.length) : (addTo s t i)[i] = s[i] := by
  simp [addTo, hs]
theorem addTo_set (s t : List UInt32) (i : Nat) (h : s.length = 8) (ht : t.length = 8) (hi : i < 8) : (addTo s t i).set i ((addTo s t i)[i]'(by rw [addTo_length]; exact hi) + t[i]'(by omega)) = addTo s t (i + 1) := by
  rw [addTo_get s t i h (by rw [addTo_length]; exact hi) (by omega)]
  apply List.ext_getElem
  · simp [addTo]
  · intro j h1 h2
    rw [addTo_length] at h2
    rw [List.getElem_set]
    by_cases hij : i = j
    · subst hij
      simp [addTo, h, ht, hi]
    · simp only [hij, if_false]
      simp only [addTo, List.getElem_map, List.getElem_range]
      by_cases h3 : j < i
      · rw [if_pos h3, if_pos (by omega)]
      · rw [if_neg h3, if_neg (by omega)]
theorem outOf_get (s : List UInt32) (i : Nat) (hi : i < (outOf s).length) (hs : i / 4 < s.length) : (outOf s)[i] = (s[i / 4] >>> UInt32.ofNat (24 - 8 * (i % 4))).toUInt8 := by
  simp [outOf, hs]
theorem outOf_length (s : List UInt32) : (outOf s).length = 32 := by simp [outOf]

theorem stp_eq (s : List UInt32) (h : s.length = 8) (k w : UInt32) : stp s k w = (
    let t1 := (((s[7] + ((rotr s[4] 6 ^^^ rotr s[4] 11) ^^^ rotr s[4] 25)) + ((s[4] &&& s[5]) ^^^ (~~~s[4] &&& s[6]))) + k) + w
    let t2 := ((rotr s[0] 2 ^^^ rotr s[0] 13) ^^^ rotr s[0] 22) + (((s[0] &&& s[1]) ^^^ (s[0] &&& s[2])) ^^^ (s[1] &&& s[2]))
    [t1 + t2, s[0], s[1], s[2], s[3] + t1, s[4], s[5], s[6]]) := by
  match s, h with
  | [a, b, c, d, e, f, g, i], _ => rfl
theorem rnds_succ (W s : List UInt32) (h : s.length = 8) (i : Nat) (hi : i < 64) (hW : i < W.length) : rnds W s (i + 1) = stp (rnds W s i) (roundsL[i]'hi) W[i] := by
  show stp _ _ _ = _
  rw [getD_at (show i < roundsL.length from hi), getD_at hW]
  rfl

theorem refSum_c {X : Nat → Prop} {w : World} {a : Value} {la : List UInt8} (hX : ∀ b, X b → b < w.heap.size) (hf0 : Rob X (SlB a la) w) (hla : la.length ≤ 1000000000) :
    Ret Tryz.prog 80 [a].toArray w fun v w' => v = .agg (kc (shaOf la)).toArray ∧ Out Nil w w' := by
  refine Ret.of_body (N := 152) Tryz.func80 rfl rfl (by simp) ?_
  have H := St.begin hX
  replace H := H.add (rob0 hf0)
  have hp64 := padOf_64 la
  have hpl := padOf_length la
  have hz64 : zc la.length < 64 := by unfold zc; omega
  have hK : roundsL.length = 64 := rfl
  refine WE.seq_reg ?_
  refine WL.alloc H rfl TryzT.ze42 rfl ?_
  intro b2 w1 H
  refine WL.nil ?_
  refine WE.seq_reg ?_
  refine WL.pv (PV.buildA rfl TryzT.ar148 TryzT.sz147 TryzT.ze148 (Fl.cons rfl rfl rfl (Laid.wordA (x := 1779033703) 0 (by simp)) (Fl.cons rfl rfl rfl (Laid.wordA (x := 3144134277) 1 (by simp)) (Fl.cons rfl rfl rfl (Laid.wordA (x := 1013904242) 2 (by simp)) (Fl.cons rfl rfl rfl (Laid.wordA (x := 2773480762) 3 (by simp)) (Fl.cons rfl rfl rfl (Laid.wordA (x := 1359893119) 4 (by simp)) (Fl.cons rfl rfl rfl (Laid.wordA (x := 2600822924) 5 (by simp)) (Fl.cons rfl rfl rfl (Laid.wordA (x := 528734635) 6 (by simp)) (Fl.cons rfl rfl rfl (Laid.wordA (x := 1541459225) 7 (by simp)) Fl.nil))))))))) rfl ?_
  refine WL.alloc H rfl TryzT.ze148 rfl ?_
  intro b3 w2 H
  refine WL.storeL H 0 rfl rfl rfl (new := _) rfl (by exact TryzT.sz148) (by exact kw_one _) (Laid.at (Laid.all (by (simp [kc_length, kw_length, *]; done))) (by rfl)) rfl ?_
  intro w3 H
  replace H := H.conv (L' := [Ent.blk b3 148 (kw (shaSt (padOf la) 0)), Ent.blk b2 42 (kc (List.replicate 32 0))]) rfl
  refine WL.nil ?_
  refine WE.seq_reg ?_
  refine WL.call TryzT.fb112 rfl (primes_c  H.yylt  ) ?_
  rintro v16 w4 ⟨hO, hR⟩
  replace H := (H.out hO).add hR
  refine WL.as rfl rfl ?_
  refine WL.nil ?_
  refine WE.seq_reg ?_
  refine WL.mv rfl rfl ?_
  refine WL.call TryzT.fb113 rfl (refPad_c (la := la) H.yylt (H.rob 1 rfl) hla) ?_
  rintro v18 w5 ⟨hO, hR⟩
  replace H := (H.out hO).add hR
  refine WL.as rfl rfl ?_
  refine WL.nil ?_
  refine WE.seq ?_
  refine WE.seq_reg ?_
  refine WL.as rfl rfl ?_
  refine WL.nil ?_
  refine WE.block ?_
  refine WE.loop (α := Nat) [6, 7, 8, 9, 10, 11, 12, 19, 20, 21, 22, 23, 24, 25, 26, 27, 28, 29, 30, 31, 32, 33, 34, 35, 36, 37, 38, 39, 40, 41, 42, 43, 44, 45, 46, 47, 48, 49, 50, 51, 52, 53, 54, 55, 56, 57, 58, 59, 60, 61, 62, 63, 64, 65, 66, 67, 68, 69, 70, 71, 72, 73, 74, 75, 76, 77, 78, 79, 80, 81, 82, 83, 84, 85, 86, 87, 88, 89, 90, 91, 92, 93, 94, 95, 96, 97, 98, 99, 100, 101, 102, 103, 104, 105, 106, 107, 108, 109, 110, 111, 112, 113, 114, 115, 116, 117, 118, 119, 120, 121, 122, 123, 124, 125, 126, 127, 128, 129, 130, 131, 132, 133] (fun n => [(6, .int .i64 ((64 * n : Nat) : Int))]) (fun n wl => 64 * n ≤ (padOf la).length ∧ St X w wl [] [Ent.blk b3 148 (kw (shaSt (padOf la) n)), Ent.blk b2 42 (kc (List.replicate 32 0))] [SlB v18 (padOf la), SlW v16 roundsL, SlB a la]) (fun n => (padOf la).length - 64 * n) 0 ⟨rfl, trivial⟩ ⟨Nat.zero_le _, H⟩ ?_
  intro n γ0 w6 hI
  try dsimp only at hI
  obtain ⟨hn, H⟩ := hI
  have hS := shaSt_length (padOf la) n
  refine WE.seq ?_
  refine WE.seq_reg ?_
  refine WL.mv rfl rfl ?_
  refine WL.mv rfl rfl ?_
  refine WL.pv (PV.lenS (H.p 0 rfl) TryzT.sl32 rfl) rfl ?_
  refine WL.pv (PV.lss rfl rfl rfl) rfl ?_
  refine WL.nil ?_
  refine WE.cond rfl (fun hc22 => ?_) (fun hc22 => ?_)
  · skip
    try simp only [decide_eq_true_eq, decide_eq_false_iff_not, ne_eq, Decidable.not_not, Bool.not_eq_true', Bool.not_eq_false', Bool.and_eq_true, Bool.or_eq_true, Bool.not_not, Bool.and_eq_false_iff, Bool.or_eq_false_iff, Int.not_lt, Int.not_le] at hc22
    have hlt : 64 * n + 64 ≤ (padOf la).length := by omega
    refine WE.skip ?_
    refine WE.seq ?_
    refine WE.block ?_
    refine WE.seq_reg ?_
    refine WL.mv rfl rfl ?_
    refine WL.mv rfl rfl ?_
    refine WL.mv rfl rfl ?_
    refine WL.pv (PV.eq (v' := .int .i64 ((64 * n + 64 : Nat) : Int)) (PV.add64 rfl rfl rfl (by omega) (by omega)) (by rfl)) rfl ?_
    refine WL.pv (PV.subLH rfl (H.p 0 rfl) TryzT.sl32 TryzT.sz5 rfl rfl rfl (by omega) (by omega)) rfl ?_
    refine WL.call TryzT.fb114 rfl (schedule_c (la := (((padOf la).drop (64 * n)).take 64)) H.yylt ((H.rob 0 rfl).imp fun _ h => by have := SlB.sub (lo := 64 * n) (hi := 64 * n + 64) h (by omega) (by omega); rw [show 64 * n + 64 - 64 * n = 64 by omega] at this; exact this) (by simp; omega)) ?_
    rintro v30 w7 ⟨hO, hR⟩
    replace H := (H.out hO).add hR
    refine WL.as rfl rfl ?_
    refine WL.nil ?_
    refine WE.seq_reg ?_
    refine WL.loadR rfl TryzT.ag148 rfl rfl (by exact Blk.segAt (H.l 0 rfl) (Seg.all _) (by rfl)) (by (rw [TryzT.sz148]; refine congrArg some ?_; (simp only [kc_length, kw_length, List.length_replicate, List.length_append, List.length_cons, List.length_nil]; omega))) ?_
    refine WL.alloc H rfl TryzT.ze148 rfl ?_
    intro b8 w8 H
    refine WL.storeL H 0 rfl rfl rfl (new := _) rfl (by (rw [TryzT.sz148]; refine congrArg some ?_; (simp only [kc_length, kw_length, List.length_replicate, List.length_append, List.length_cons, List.length_nil]; omega))) (by exact kw_one _) (Laid.at (Laid.all (by (simp only [kc_length, kw_length, List.length_replicate, List.length_append, List.length_cons, List.length_nil]; omega))) (by rfl)) rfl ?_
    intro w9 H
    refine WL.nil ?_
    refine WE.seq ?_
    refine WE.seq_reg ?_
    refine WL.as rfl rfl ?_
    refine WL.nil ?_
    refine WE.block ?_
    have hW : (sched (((padOf la).drop (64 * n)).take 64) 48).length = 64 := sched_length _ _
    refine WE.loop (α := Nat) [9, 10, 11, 32, 33, 34, 35, 36, 37, 38, 39, 40, 41, 42, 43, 44, 45, 46, 47, 48, 49, 50, 51, 52, 53, 54, 55, 56, 57, 58, 59, 60, 61, 62, 63, 64, 65, 66, 67, 68, 69, 70, 71, 72, 73, 74, 75, 76, 77, 78, 79, 80, 81, 82, 83, 84, 85, 86, 87, 88, 89, 90, 91, 92, 93, 94, 95, 96, 97, 98, 99, 100, 101, 102, 103, 104, 105, 106, 107, 108, 109, 110, 111, 112, 113, 114, 115, 116, 117, 118, 119, 120, 121] (fun i => [(9, .int .i64 i)]) (fun i wl => i ≤ 64 ∧ St X w wl [] [Ent.blk b8 148 (kw (rnds (sched (((padOf la).drop (64 * n)).take 64) 48) (shaSt (padOf la) n) i)), Ent.blk b3 148 (kw (shaSt (padOf la) n)), Ent.blk b2 42 (kc (List.replicate 32 0))] (SlW v30 (sched (((padOf la).drop (64 * n)).take 64) 48) :: [SlB v18 (padOf la), SlW v16 roundsL, SlB a la])) (fun i => 64 - i) 0 ⟨rfl, trivial⟩ ⟨Nat.zero_le _, H⟩ ?_
    intro i γ1 w10 hI
    try dsimp only at hI
    obtain ⟨hi, H⟩ := hI
    have hR := rnds_length (sched (((padOf la).drop (64 * n)).take 64) 48) (shaSt (padOf la) n) hS i
    refine WE.seq ?_
    refine WE.seq_reg ?_
    refine WL.mv rfl rfl ?_
    refine WL.pv (PV.lss rfl rfl rfl) rfl ?_
    refine WL.nil ?_
    refine WE.cond rfl (fun hc33 => ?_) (fun hc33 => ?_)
    · skip
      try simp only [decide_eq_true_eq, decide_eq_false_iff_not, ne_eq, Decidable.not_not, Bool.not_eq_true', Bool.not_eq_false', Bool.and_eq_true, Bool.or_eq_true, Bool.not_not, Bool.and_eq_false_iff, Bool.or_eq_false_iff, Int.not_lt, Int.not_le] at hc33
      have hlt2 : i < 64 := by omega
      refine WE.skip ?_
      refine WE.seq ?_
      refine WE.block ?_
      refine WE.seq_draw (.take 0 (.take 1 (.take 2 (.take 3 (.take 5 (.take 6 (.take 9 (.take 10 (.take 14 (.take 15 (.take 16 (.take 17 (.take 18 (.take 19 (.take 20 (.take 21 (.take 22 (.take 23 (.take 24 (.take 25 (.take 27 (.take 28 (.take 29 (.take 30 (.take 32 (.take 33 (.take 34 (.take 35 (.pick1 4 (.pick1 7 (.take 8 (.pick1 11 (.take 12 (.take 13 (.take 26 (.take 31 (.take 36 (.take 37 .done)))))))))))))))))))))))))))))))))))))) TryzT.mixed (by kernel_rfl) ?_
      replace H := H.out (Out.drew _)
      refine WP.take_pure rfl rfl (PV.indexArr rfl TryzT.ar148 TryzT.sz147 rfl rfl (by omega) (by omega)) ?_
      refine WP.take_read rfl rfl (RV.loadOne rfl TryzT.ag147 rfl) (by exact Blk.segAt (H.l 0 rfl) (Seg.word 7 (by (simp [kc_length, kw_length, *]; done))) (by rfl)) ?_
      refine WP.take_pure rfl rfl (PV.indexArr rfl TryzT.ar148 TryzT.sz147 rfl rfl (by omega) (by omega)) ?_
      refine WP.take_read rfl rfl (RV.loadOne rfl TryzT.ag147 rfl) (by exact Blk.segAt (H.l 0 rfl) (Seg.word 4 (by (simp [kc_length, kw_length, *]; done))) (by rfl)) ?_
      refine WP.take_pure rfl rfl (PV.indexArr rfl TryzT.ar148 TryzT.sz147 rfl rfl (by omega) (by omega)) ?_
      refine WP.take_read rfl rfl (RV.loadOne rfl TryzT.ag147 rfl) (by exact Blk.segAt (H.l 0 rfl) (Seg.word 4 (by (simp [kc_length, kw_length, *]; done))) (by rfl)) ?_
      refine WP.take_pure rfl rfl (PV.indexArr rfl TryzT.ar148 TryzT.sz147 rfl rfl (by omega) (by omega)) ?_
      refine WP.take_read rfl rfl (RV.loadOne rfl TryzT.ag147 rfl) (by exact Blk.segAt (H.l 0 rfl) (Seg.word 4 (by (simp [kc_length, kw_length, *]; done))) (by rfl)) ?_
      refine WP.take_pure rfl rfl (PV.indexArr rfl TryzT.ar148 TryzT.sz147 rfl rfl (by omega) (by omega)) ?_
      refine WP.take_read rfl rfl (RV.loadOne rfl TryzT.ag147 rfl) (by exact Blk.segAt (H.l 0 rfl) (Seg.word 4 (by (simp [kc_length, kw_length, *]; done))) (by rfl)) ?_
      refine WP.take_pure rfl rfl (PV.indexArr rfl TryzT.ar148 TryzT.sz147 rfl rfl (by omega) (by omega)) ?_
      refine WP.take_read rfl rfl (RV.loadOne rfl TryzT.ag147 rfl) (by exact Blk.segAt (H.l 0 rfl) (Seg.word 5 (by (simp [kc_length, kw_length, *]; done))) (by rfl)) ?_
      refine WP.take_pure rfl rfl (PV.and32 rfl rfl rfl) ?_
      refine WP.take_pure rfl rfl (PV.indexArr rfl TryzT.ar148 TryzT.sz147 rfl rfl (by omega) (by omega)) ?_
      refine WP.take_read rfl rfl (RV.loadOne rfl TryzT.ag147 rfl) (by exact Blk.segAt (H.l 0 rfl) (Seg.word 4 (by (simp [kc_length, kw_length, *]; done))) (by rfl)) ?_
      refine WP.take_pure rfl rfl (PV.not32 rfl rfl) ?_
      refine WP.take_pure rfl rfl (PV.indexArr rfl TryzT.ar148 TryzT.sz147 rfl rfl (by omega) (by omega)) ?_
      refine WP.take_read rfl rfl (RV.loadOne rfl TryzT.ag147 rfl) (by exact Blk.segAt (H.l 0 rfl) (Seg.word 6 (by (simp [kc_length, kw_length, *]; done))) (by rfl)) ?_
      refine WP.take_pure rfl rfl (PV.and32 rfl rfl rfl) ?_
      refine WP.take_pure rfl rfl (PV.xor32 rfl rfl rfl) ?_
      refine WP.mv rfl rfl rfl ?_
      refine WP.mv rfl rfl rfl ?_
      refine WP.take_pure rfl rfl (PV.idxS rfl (H.p 2 rfl) TryzT.sl167 TryzT.sz147 rfl rfl (by omega) (by omega)) ?_
      refine WP.take_read rfl rfl (RV.loadOne rfl TryzT.ag147 rfl) (SlC.rdw (H.p 2 rfl : SlW v16 roundsL _) i (by omega)) ?_
      refine WP.mv rfl rfl rfl ?_
      refine WP.mv rfl rfl rfl ?_
      refine WP.take_pure rfl rfl (PV.idxS rfl (H.p 0 rfl) TryzT.sl167 TryzT.sz147 rfl rfl (by omega) (by omega)) ?_
      refine WP.take_read rfl rfl (RV.loadOne rfl TryzT.ag147 rfl) (SlC.rdw (H.p 0 rfl : SlW v30 (sched (((padOf la).drop (64 * n)).take 64) 48) _) i (by omega)) ?_
      refine WP.pick1 rfl ?_
      refine WL.call TryzT.fb115 rfl (turn_c (x := (rnds (sched (((padOf la).drop (64 * n)).take 64) 48) (shaSt (padOf la) n) i)[4]'(by rw [hR]; omega)) (n := 6) H.yylt (by decide) (by decide)) ?_
      rintro _ w11 ⟨rfl, hO⟩
      replace H := H.out hO
      refine WL.nil ⟨(List.forall_mem_cons.2 ⟨(fun _ _ => (SlC.rdw (H.p 0 rfl : SlW v30 (sched (((padOf la).drop (64 * n)).take 64) 48) _) i (by omega))), (List.forall_mem_cons.2 ⟨(fun _ _ => (SlC.rdw (H.p 2 rfl : SlW v16 roundsL _) i (by omega))), (List.forall_mem_cons.2 ⟨(fun _ _ => (by exact Blk.segAt (H.l 0 rfl) (Seg.word 6 (by (simp [kc_length, kw_length, *]; done))) (by rfl))), (List.forall_mem_cons.2 ⟨(fun _ _ => (by exact Blk.segAt (H.l 0 rfl) (Seg.word 4 (by (simp [kc_length, kw_length, *]; done))) (by rfl))), (List.forall_mem_cons.2 ⟨(fun _ _ => (by exact Blk.segAt (H.l 0 rfl) (Seg.word 5 (by (simp [kc_length, kw_length, *]; done))) (by rfl))), (List.forall_mem_cons.2 ⟨(fun _ _ => (by exact Blk.segAt (H.l 0 rfl) (Seg.word 4 (by (simp [kc_length, kw_length, *]; done))) (by rfl))), (List.forall_mem_cons.2 ⟨(fun _ _ => (by exact Blk.segAt (H.l 0 rfl) (Seg.word 4 (by (simp [kc_length, kw_length, *]; done))) (by rfl))), (List.forall_mem_cons.2 ⟨(fun _ _ => (by exact Blk.segAt (H.l 0 rfl) (Seg.word 4 (by (simp [kc_length, kw_length, *]; done))) (by rfl))), (List.forall_mem_cons.2 ⟨(by exact (fun h => absurd (show waits _ 4 3 = false from h) (by decide +kernel))), (List.forall_mem_cons.2 ⟨(fun _ _ => (by exact Blk.segAt (H.l 0 rfl) (Seg.word 7 (by (simp [kc_length, kw_length, *]; done))) (by rfl))), (fun _ h => by cases h)⟩)⟩)⟩)⟩)⟩)⟩)⟩)⟩)⟩)⟩), ?_⟩
      refine WP.pick1 rfl ?_
      refine WL.call TryzT.fb115 rfl (turn_c (x := (rnds (sched (((padOf la).drop (64 * n)).take 64) 48) (shaSt (padOf la) n) i)[4]'(by rw [hR]; omega)) (n := 11) H.yylt (by decide) (by decide)) ?_
      rintro _ w12 ⟨rfl, hO⟩
      replace H := H.out hO
      refine WL.nil ⟨(List.forall_mem_cons.2 ⟨(fun _ _ => (SlC.rdw (H.p 0 rfl : SlW v30 (sched (((padOf la).drop (64 * n)).take 64) 48) _) i (by omega))), (List.forall_mem_cons.2 ⟨(fun _ _ => (SlC.rdw (H.p 2 rfl : SlW v16 roundsL _) i (by omega))), (List.forall_mem_cons.2 ⟨(fun _ _ => (by exact Blk.segAt (H.l 0 rfl) (Seg.word 6 (by (simp [kc_length, kw_length, *]; done))) (by rfl))), (List.forall_mem_cons.2 ⟨(fun _ _ => (by exact Blk.segAt (H.l 0 rfl) (Seg.word 4 (by (simp [kc_length, kw_length, *]; done))) (by rfl))), (List.forall_mem_cons.2 ⟨(fun _ _ => (by exact Blk.segAt (H.l 0 rfl) (Seg.word 5 (by (simp [kc_length, kw_length, *]; done))) (by rfl))), (List.forall_mem_cons.2 ⟨(fun _ _ => (by exact Blk.segAt (H.l 0 rfl) (Seg.word 4 (by (simp [kc_length, kw_length, *]; done))) (by rfl))), (List.forall_mem_cons.2 ⟨(fun _ _ => (by exact Blk.segAt (H.l 0 rfl) (Seg.word 4 (by (simp [kc_length, kw_length, *]; done))) (by rfl))), (List.forall_mem_cons.2 ⟨(by exact (fun h => absurd (show waits _ 7 6 = false from h) (by decide +kernel))), (List.forall_mem_cons.2 ⟨(by exact (fun h => absurd (show waits _ 7 3 = false from h) (by decide +kernel))), (List.forall_mem_cons.2 ⟨(fun _ _ => (by exact Blk.segAt (H.l 0 rfl) (Seg.word 7 (by (simp [kc_length, kw_length, *]; done))) (by rfl))), (fun _ h => by cases h)⟩)⟩)⟩)⟩)⟩)⟩)⟩)⟩)⟩)⟩), ?_⟩
      refine WP.take_pure rfl rfl (PV.xor32 rfl rfl rfl) ?_
      refine WP.pick1 rfl ?_
      refine WL.call TryzT.fb115 rfl (turn_c (x := (rnds (sched (((padOf la).drop (64 * n)).take 64) 48) (shaSt (padOf la) n) i)[4]'(by rw [hR]; omega)) (n := 25) H.yylt (by decide) (by decide)) ?_
      rintro _ w13 ⟨rfl, hO⟩
      replace H := H.out hO
      refine WL.nil ⟨(List.forall_mem_cons.2 ⟨(fun _ _ => (SlC.rdw (H.p 0 rfl : SlW v30 (sched (((padOf la).drop (64 * n)).take 64) 48) _) i (by omega))), (List.forall_mem_cons.2 ⟨(fun _ _ => (SlC.rdw (H.p 2 rfl : SlW v16 roundsL _) i (by omega))), (List.forall_mem_cons.2 ⟨(fun _ _ => (by exact Blk.segAt (H.l 0 rfl) (Seg.word 6 (by (simp [kc_length, kw_length, *]; done))) (by rfl))), (List.forall_mem_cons.2 ⟨(fun _ _ => (by exact Blk.segAt (H.l 0 rfl) (Seg.word 4 (by (simp [kc_length, kw_length, *]; done))) (by rfl))), (List.forall_mem_cons.2 ⟨(fun _ _ => (by exact Blk.segAt (H.l 0 rfl) (Seg.word 5 (by (simp [kc_length, kw_length, *]; done))) (by rfl))), (List.forall_mem_cons.2 ⟨(fun _ _ => (by exact Blk.segAt (H.l 0 rfl) (Seg.word 4 (by (simp [kc_length, kw_length, *]; done))) (by rfl))), (List.forall_mem_cons.2 ⟨(by exact (fun h => absurd (show waits _ 11 10 = false from h) (by decide +kernel))), (List.forall_mem_cons.2 ⟨(by exact (fun h => absurd (show waits _ 11 6 = false from h) (by decide +kernel))), (List.forall_mem_cons.2 ⟨(by exact (fun h => absurd (show waits _ 11 3 = false from h) (by decide +kernel))), (List.forall_mem_cons.2 ⟨(fun _ _ => (by exact Blk.segAt (H.l 0 rfl) (Seg.word 7 (by (simp [kc_length, kw_length, *]; done))) (by rfl))), (fun _ h => by cases h)⟩)⟩)⟩)⟩)⟩)⟩)⟩)⟩)⟩)⟩), ?_⟩
      refine WP.take_pure rfl rfl (PV.xor32 rfl rfl rfl) ?_
      refine WP.take_pure rfl rfl (PV.add32 rfl rfl rfl) ?_
      refine WP.take_pure rfl rfl (PV.add32 rfl rfl rfl) ?_
      refine WP.take_pure rfl rfl (PV.add32 rfl rfl rfl) ?_
      refine WP.take_pure rfl rfl (PV.add32 rfl rfl rfl) ?_
      refine WP.as rfl rfl rfl ?_
      refine WP.done ?_
      refine WE.seq_draw (.take 0 (.take 1 (.take 3 (.take 4 (.take 7 (.take 8 (.take 11 (.take 12 (.take 13 (.take 14 (.take 15 (.take 16 (.take 17 (.take 18 (.take 19 (.take 20 (.take 21 (.take 22 (.take 23 (.take 24 (.take 25 (.take 26 (.take 27 (.pick1 2 (.pick1 5 (.take 6 (.pick1 9 (.take 10 (.take 28 (.take 29 .done)))))))))))))))))))))))))))))) TryzT.mixed (by kernel_rfl) ?_
      replace H := H.out (Out.drew _)
      refine WP.take_pure rfl rfl (PV.indexArr rfl TryzT.ar148 TryzT.sz147 rfl rfl (by omega) (by omega)) ?_
      refine WP.take_read rfl rfl (RV.loadOne rfl TryzT.ag147 rfl) (by exact Blk.segAt (H.l 0 rfl) (Seg.word 0 (by (simp [kc_length, kw_length, *]; done))) (by rfl)) ?_
      refine WP.take_pure rfl rfl (PV.indexArr rfl TryzT.ar148 TryzT.sz147 rfl rfl (by omega) (by omega)) ?_
      refine WP.take_read rfl rfl (RV.loadOne rfl TryzT.ag147 rfl) (by exact Blk.segAt (H.l 0 rfl) (Seg.word 0 (by (simp [kc_length, kw_length, *]; done))) (by rfl)) ?_
      refine WP.take_pure rfl rfl (PV.indexArr rfl TryzT.ar148 TryzT.sz147 rfl rfl (by omega) (by omega)) ?_
      refine WP.take_read rfl rfl (RV.loadOne rfl TryzT.ag147 rfl) (by exact Blk.segAt (H.l 0 rfl) (Seg.word 0 (by (simp [kc_length, kw_length, *]; done))) (by rfl)) ?_
      refine WP.take_pure rfl rfl (PV.indexArr rfl TryzT.ar148 TryzT.sz147 rfl rfl (by omega) (by omega)) ?_
      refine WP.take_read rfl rfl (RV.loadOne rfl TryzT.ag147 rfl) (by exact Blk.segAt (H.l 0 rfl) (Seg.word 0 (by (simp [kc_length, kw_length, *]; done))) (by rfl)) ?_
      refine WP.take_pure rfl rfl (PV.indexArr rfl TryzT.ar148 TryzT.sz147 rfl rfl (by omega) (by omega)) ?_
      refine WP.take_read rfl rfl (RV.loadOne rfl TryzT.ag147 rfl) (by exact Blk.segAt (H.l 0 rfl) (Seg.word 1 (by (simp [kc_length, kw_length, *]; done))) (by rfl)) ?_
      refine WP.take_pure rfl rfl (PV.and32 rfl rfl rfl) ?_
      refine WP.take_pure rfl rfl (PV.indexArr rfl TryzT.ar148 TryzT.sz147 rfl rfl (by omega) (by omega)) ?_
      refine WP.take_read rfl rfl (RV.loadOne rfl TryzT.ag147 rfl) (by exact Blk.segAt (H.l 0 rfl) (Seg.word 0 (by (simp [kc_length, kw_length, *]; done))) (by rfl)) ?_
      refine WP.take_pure rfl rfl (PV.indexArr rfl TryzT.ar148 TryzT.sz147 rfl rfl (by omega) (by omega)) ?_
      refine WP.take_read rfl rfl (RV.loadOne rfl TryzT.ag147 rfl) (by exact Blk.segAt (H.l 0 rfl) (Seg.word 2 (by (simp [kc_length, kw_length, *]; done))) (by rfl)) ?_
      refine WP.take_pure rfl rfl (PV.and32 rfl rfl rfl) ?_
      refine WP.take_pure rfl rfl (PV.xor32 rfl rfl rfl) ?_
      refine WP.take_pure rfl rfl (PV.indexArr rfl TryzT.ar148 TryzT.sz147 rfl rfl (by omega) (by omega)) ?_
      refine WP.take_read rfl rfl (RV.loadOne rfl TryzT.ag147 rfl) (by exact Blk.segAt (H.l 0 rfl) (Seg.word 1 (by (simp [kc_length, kw_length, *]; done))) (by rfl)) ?_
      refine WP.take_pure rfl rfl (PV.indexArr rfl TryzT.ar148 TryzT.sz147 rfl rfl (by omega) (by omega)) ?_
      refine WP.take_read rfl rfl (RV.loadOne rfl TryzT.ag147 rfl) (by exact Blk.segAt (H.l 0 rfl) (Seg.word 2 (by (simp [kc_length, kw_length, *]; done))) (by rfl)) ?_
      refine WP.take_pure rfl rfl (PV.and32 rfl rfl rfl) ?_
      refine WP.take_pure rfl rfl (PV.xor32 rfl rfl rfl) ?_
      refine WP.pick1 rfl ?_
      refine WL.call TryzT.fb115 rfl (turn_c (x := (rnds (sched (((padOf la).drop (64 * n)).take 64) 48) (shaSt (padOf la) n) i)[0]'(by rw [hR]; omega)) (n := 2) H.yylt (by decide) (by decide)) ?_
      rintro _ w14 ⟨rfl, hO⟩
      replace H := H.out hO
      refine WL.nil ⟨(List.forall_mem_cons.2 ⟨(fun _ _ => (by exact Blk.segAt (H.l 0 rfl) (Seg.word 2 (by (simp [kc_length, kw_length, *]; done))) (by rfl))), (List.forall_mem_cons.2 ⟨(fun _ _ => (by exact Blk.segAt (H.l 0 rfl) (Seg.word 1 (by (simp [kc_length, kw_length, *]; done))) (by rfl))), (List.forall_mem_cons.2 ⟨(fun _ _ => (by exact Blk.segAt (H.l 0 rfl) (Seg.word 2 (by (simp [kc_length, kw_length, *]; done))) (by rfl))), (List.forall_mem_cons.2 ⟨(fun _ _ => (by exact Blk.segAt (H.l 0 rfl) (Seg.word 0 (by (simp [kc_length, kw_length, *]; done))) (by rfl))), (List.forall_mem_cons.2 ⟨(fun _ _ => (by exact Blk.segAt (H.l 0 rfl) (Seg.word 1 (by (simp [kc_length, kw_length, *]; done))) (by rfl))), (List.forall_mem_cons.2 ⟨(fun _ _ => (by exact Blk.segAt (H.l 0 rfl) (Seg.word 0 (by (simp [kc_length, kw_length, *]; done))) (by rfl))), (List.forall_mem_cons.2 ⟨(fun _ _ => (by exact Blk.segAt (H.l 0 rfl) (Seg.word 0 (by (simp [kc_length, kw_length, *]; done))) (by rfl))), (List.forall_mem_cons.2 ⟨(fun _ _ => (by exact Blk.segAt (H.l 0 rfl) (Seg.word 0 (by (simp [kc_length, kw_length, *]; done))) (by rfl))), (List.forall_mem_cons.2 ⟨(by exact (fun h => absurd (show waits _ 2 1 = false from h) (by decide +kernel))), (fun _ h => by cases h)⟩)⟩)⟩)⟩)⟩)⟩)⟩)⟩)⟩), ?_⟩
      refine WP.pick1 rfl ?_
      refine WL.call TryzT.fb115 rfl (turn_c (x := (rnds (sched (((padOf la).drop (64 * n)).take 64) 48) (shaSt (padOf la) n) i)[0]'(by rw [hR]; omega)) (n := 13) H.yylt (by decide) (by decide)) ?_
      rintro _ w15 ⟨rfl, hO⟩
      replace H := H.out hO
      refine WL.nil ⟨(List.forall_mem_cons.2 ⟨(fun _ _ => (by exact Blk.segAt (H.l 0 rfl) (Seg.word 2 (by (simp [kc_length, kw_length, *]; done))) (by rfl))), (List.forall_mem_cons.2 ⟨(fun _ _ => (by exact Blk.segAt (H.l 0 rfl) (Seg.word 1 (by (simp [kc_length, kw_length, *]; done))) (by rfl))), (List.forall_mem_cons.2 ⟨(fun _ _ => (by exact Blk.segAt (H.l 0 rfl) (Seg.word 2 (by (simp [kc_length, kw_length, *]; done))) (by rfl))), (List.forall_mem_cons.2 ⟨(fun _ _ => (by exact Blk.segAt (H.l 0 rfl) (Seg.word 0 (by (simp [kc_length, kw_length, *]; done))) (by rfl))), (List.forall_mem_cons.2 ⟨(fun _ _ => (by exact Blk.segAt (H.l 0 rfl) (Seg.word 1 (by (simp [kc_length, kw_length, *]; done))) (by rfl))), (List.forall_mem_cons.2 ⟨(fun _ _ => (by exact Blk.segAt (H.l 0 rfl) (Seg.word 0 (by (simp [kc_length, kw_length, *]; done))) (by rfl))), (List.forall_mem_cons.2 ⟨(fun _ _ => (by exact Blk.segAt (H.l 0 rfl) (Seg.word 0 (by (simp [kc_length, kw_length, *]; done))) (by rfl))), (List.forall_mem_cons.2 ⟨(by exact (fun h => absurd (show waits _ 5 4 = false from h) (by decide +kernel))), (List.forall_mem_cons.2 ⟨(by exact (fun h => absurd (show waits _ 5 1 = false from h) (by decide +kernel))), (fun _ h => by cases h)⟩)⟩)⟩)⟩)⟩)⟩)⟩)⟩)⟩), ?_⟩
      refine WP.take_pure rfl rfl (PV.xor32 rfl rfl rfl) ?_
      refine WP.pick1 rfl ?_
      refine WL.call TryzT.fb115 rfl (turn_c (x := (rnds (sched (((padOf la).drop (64 * n)).take 64) 48) (shaSt (padOf la) n) i)[0]'(by rw [hR]; omega)) (n := 22) H.yylt (by decide) (by decide)) ?_
      rintro _ w16 ⟨rfl, hO⟩
      replace H := H.out hO
      refine WL.nil ⟨(List.forall_mem_cons.2 ⟨(fun _ _ => (by exact Blk.segAt (H.l 0 rfl) (Seg.word 2 (by (simp [kc_length, kw_length, *]; done))) (by rfl))), (List.forall_mem_cons.2 ⟨(fun _ _ => (by exact Blk.segAt (H.l 0 rfl) (Seg.word 1 (by (simp [kc_length, kw_length, *]; done))) (by rfl))), (List.forall_mem_cons.2 ⟨(fun _ _ => (by exact Blk.segAt (H.l 0 rfl) (Seg.word 2 (by (simp [kc_length, kw_length, *]; done))) (by rfl))), (List.forall_mem_cons.2 ⟨(fun _ _ => (by exact Blk.segAt (H.l 0 rfl) (Seg.word 0 (by (simp [kc_length, kw_length, *]; done))) (by rfl))), (List.forall_mem_cons.2 ⟨(fun _ _ => (by exact Blk.segAt (H.l 0 rfl) (Seg.word 1 (by (simp [kc_length, kw_length, *]; done))) (by rfl))), (List.forall_mem_cons.2 ⟨(fun _ _ => (by exact Blk.segAt (H.l 0 rfl) (Seg.word 0 (by (simp [kc_length, kw_length, *]; done))) (by rfl))), (List.forall_mem_cons.2 ⟨(by exact (fun h => absurd (show waits _ 9 8 = false from h) (by decide +kernel))), (List.forall_mem_cons.2 ⟨(by exact (fun h => absurd (show waits _ 9 4 = false from h) (by decide +kernel))), (List.forall_mem_cons.2 ⟨(by exact (fun h => absurd (show waits _ 9 1 = false from h) (by decide +kernel))), (fun _ h => by cases h)⟩)⟩)⟩)⟩)⟩)⟩)⟩)⟩)⟩), ?_⟩
      refine WP.take_pure rfl rfl (PV.xor32 rfl rfl rfl) ?_
      refine WP.take_pure rfl rfl (PV.add32 rfl rfl rfl) ?_
      refine WP.as rfl rfl rfl ?_
      refine WP.done ?_
      refine WE.reg ?_
      refine WL.mv rfl rfl ?_
      refine WL.mv rfl rfl ?_
      refine WL.pv (PV.add32 rfl rfl rfl) rfl ?_
      refine WL.pv (PV.indexArr rfl TryzT.ar148 TryzT.sz147 rfl rfl (by omega) (by omega)) rfl ?_
      refine WL.load1 rfl TryzT.ag147 rfl rfl (by exact Blk.segAt (H.l 0 rfl) (Seg.word 0 (by (simp [kc_length, kw_length, *]; done))) (by rfl)) ?_
      refine WL.pv (PV.indexArr rfl TryzT.ar148 TryzT.sz147 rfl rfl (by omega) (by omega)) rfl ?_
      refine WL.load1 rfl TryzT.ag147 rfl rfl (by exact Blk.segAt (H.l 0 rfl) (Seg.word 1 (by (simp [kc_length, kw_length, *]; done))) (by rfl)) ?_
      refine WL.pv (PV.indexArr rfl TryzT.ar148 TryzT.sz147 rfl rfl (by omega) (by omega)) rfl ?_
      refine WL.load1 rfl TryzT.ag147 rfl rfl (by exact Blk.segAt (H.l 0 rfl) (Seg.word 2 (by (simp [kc_length, kw_length, *]; done))) (by rfl)) ?_
      refine WL.pv (PV.indexArr rfl TryzT.ar148 TryzT.sz147 rfl rfl (by omega) (by omega)) rfl ?_
      refine WL.load1 rfl TryzT.ag147 rfl rfl (by exact Blk.segAt (H.l 0 rfl) (Seg.word 3 (by (simp [kc_length, kw_length, *]; done))) (by rfl)) ?_
      refine WL.mv rfl rfl ?_
      refine WL.pv (PV.add32 rfl rfl rfl) rfl ?_
      refine WL.pv (PV.indexArr rfl TryzT.ar148 TryzT.sz147 rfl rfl (by omega) (by omega)) rfl ?_
      refine WL.load1 rfl TryzT.ag147 rfl rfl (by exact Blk.segAt (H.l 0 rfl) (Seg.word 4 (by (simp [kc_length, kw_length, *]; done))) (by rfl)) ?_
      refine WL.pv (PV.indexArr rfl TryzT.ar148 TryzT.sz147 rfl rfl (by omega) (by omega)) rfl ?_
      refine WL.load1 rfl TryzT.ag147 rfl rfl (by exact Blk.segAt (H.l 0 rfl) (Seg.word 5 (by (simp [kc_length, kw_length, *]; done))) (by rfl)) ?_
      refine WL.pv (PV.indexArr rfl TryzT.ar148 TryzT.sz147 rfl rfl (by omega) (by omega)) rfl ?_
      refine WL.load1 rfl TryzT.ag147 rfl rfl (by exact Blk.segAt (H.l 0 rfl) (Seg.word 6 (by (simp [kc_length, kw_length, *]; done))) (by rfl)) ?_
      refine WL.pv (PV.buildA rfl TryzT.ar148 TryzT.sz147 TryzT.ze148 (Fl.cons rfl (by rfl) (by (simp only [kc_length, kw_length, List.length_replicate, List.length_append, List.length_cons, List.length_nil]; done)) (Laid.wordA 0 (by (simp only [kc_length, kw_length, List.length_replicate, List.length_append, List.length_cons, List.length_nil]; omega))) (Fl.cons rfl (by rfl) (by (simp only [kc_length, kw_length, List.length_replicate, List.length_append, List.length_cons, List.length_nil]; done)) (Laid.wordA 1 (by (simp [kc_length, kw_length, *]; done))) (Fl.cons rfl (by rfl) (by (simp only [kc_length, kw_length, List.length_replicate, List.length_append, List.length_cons, List.length_nil]; done)) (Laid.wordA 2 (by (simp [kc_length, kw_length, *]; done))) (Fl.cons rfl (by rfl) (by (simp only [kc_length, kw_length, List.length_replicate, List.length_append, List.length_cons, List.length_nil]; done)) (Laid.wordA 3 (by (simp [kc_length, kw_length, *]; done))) (Fl.cons rfl (by rfl) (by (simp only [kc_length, kw_length, List.length_replicate, List.length_append, List.length_cons, List.length_nil]; done)) (Laid.wordA 4 (by (simp [kc_length, kw_length, *]; done))) (Fl.cons rfl (by rfl) (by (simp only [kc_length, kw_length, List.length_replicate, List.length_append, List.length_cons, List.length_nil]; done)) (Laid.wordA 5 (by (simp [kc_length, kw_length, *]; done))) (Fl.cons rfl (by rfl) (by (simp only [kc_length, kw_length, List.length_replicate, List.length_append, List.length_cons, List.length_nil]; done)) (Laid.wordA 6 (by (simp [kc_length, kw_length, *]; done))) (Fl.cons rfl (by rfl) (by (simp only [kc_length, kw_length, List.length_replicate, List.length_append, List.length_cons, List.length_nil]; done)) (Laid.wordA 7 (by (simp [kc_length, kw_length, *]; done))) Fl.nil))))))))) rfl ?_
      refine WL.storeL H 0 rfl rfl rfl (new := _) rfl (by exact TryzT.sz148) (by exact kw_one _) (Laid.at (Laid.all (by (simp [kc_length, kw_length]; omega))) (by rfl)) rfl ?_
      intro w17 H
      refine WL.nil ?_
      refine WE.reg ?_
      refine WL.mv rfl rfl ?_
      refine WL.pv (PV.add64 rfl rfl rfl (by omega) (by omega)) rfl ?_
      refine WL.as rfl rfl ?_
      refine WL.nil ?_
      have e := rnds_succ (sched (((padOf la).drop (64 * n)).take 64) 48) (shaSt (padOf la) n) hS i hlt2 (by omega)
      rw [stp_eq _ hR] at e
      exact ⟨i + 1, (by repeat (first | with_reducible exact Off.refl _ _ | refine Off.upd rfl ?_ | refine Off.setAll rfl ?_ | refine Off.forget' rfl ?_)), ⟨rfl, trivial⟩, rfl, ⟨by omega, H.conv (by rw [e]; rfl)⟩, (by omega)⟩
    · skip
      try simp only [decide_eq_true_eq, decide_eq_false_iff_not, ne_eq, Decidable.not_not, Bool.not_eq_true', Bool.not_eq_false', Bool.and_eq_true, Bool.or_eq_true, Bool.not_not, Bool.and_eq_false_iff, Bool.or_eq_false_iff, Int.not_lt, Int.not_le] at hc33
      obtain rfl : i = 64 := by omega
      refine WE.exit ?_
      refine WE.seq_reg ?_
      refine WL.as rfl rfl ?_
      refine WL.nil ?_
      refine WE.block ?_
      refine WE.loop (α := Nat) [12, 122, 123, 124, 125, 126, 127, 128, 129, 130, 131, 132, 133] (fun i => [(12, .int .i64 i)]) (fun i wl => i ≤ 8 ∧ St X w wl [] [Ent.blk b8 148 (kw (rnds (sched (((padOf la).drop (64 * n)).take 64) 48) (shaSt (padOf la) n) 64)), Ent.blk b3 148 (kw (addTo (shaSt (padOf la) n) (rnds (sched (((padOf la).drop (64 * n)).take 64) 48) (shaSt (padOf la) n) 64) i)), Ent.blk b2 42 (kc (List.replicate 32 0))] (SlW v30 (sched (((padOf la).drop (64 * n)).take 64) 48) :: [SlB v18 (padOf la), SlW v16 roundsL, SlB a la])) (fun i => 8 - i) 0 ⟨rfl, trivial⟩ ⟨Nat.zero_le _, by rw [addTo_zero _ _ hS]; exact H⟩ ?_
      intro i γ2 w18 hI
      try dsimp only at hI
      obtain ⟨hi, H⟩ := hI
      have hR2 := rnds_length (sched (((padOf la).drop (64 * n)).take 64) 48) (shaSt (padOf la) n) hS 64
      refine WE.seq ?_
      refine WE.seq_reg ?_
      refine WL.mv rfl rfl ?_
      refine WL.pv (PV.lss rfl rfl rfl) rfl ?_
      refine WL.nil ?_
      refine WE.cond rfl (fun hc123 => ?_) (fun hc123 => ?_)
      · skip
        try simp only [decide_eq_true_eq, decide_eq_false_iff_not, ne_eq, Decidable.not_not, Bool.not_eq_true', Bool.not_eq_false', Bool.and_eq_true, Bool.or_eq_true, Bool.not_not, Bool.and_eq_false_iff, Bool.or_eq_false_iff, Int.not_lt, Int.not_le] at hc123
        have hlt3 : i < 8 := by omega
        refine WE.skip ?_
        refine WE.seq ?_
        refine WE.block ?_
        refine WE.draw (.take 0 (.take 1 (.take 2 (.take 3 (.take 4 (.take 5 (.take 6 (.take 7 (.pick1 8 .done))))))))) TryzT.mixed (by kernel_rfl) ?_
        replace H := H.out (Out.drew _)
        refine WP.mv rfl rfl rfl ?_
        refine WP.take_pure rfl rfl (PV.indexArr rfl TryzT.ar148 TryzT.sz147 rfl rfl (by omega) (by omega)) ?_
        refine WP.take_read rfl rfl (RV.loadOne rfl TryzT.ag147 rfl) (by exact Blk.segAt (H.l 1 rfl) (Seg.word i (by simp [addTo_length, *])) (by (simp; done))) ?_
        refine WP.mv rfl rfl rfl ?_
        refine WP.take_pure rfl rfl (PV.indexArr rfl TryzT.ar148 TryzT.sz147 rfl rfl (by omega) (by omega)) ?_
        refine WP.take_read rfl rfl (RV.loadOne rfl TryzT.ag147 rfl) (by exact Blk.segAt (H.l 0 rfl) (Seg.word i (by simp [addTo_length, *])) (by (simp; done))) ?_
        refine WP.take_pure rfl rfl (PV.add32 rfl rfl rfl) ?_
        refine WP.take_pure rfl rfl (PV.indexArr rfl TryzT.ar148 TryzT.sz147 rfl rfl (by omega) (by omega)) ?_
        refine WP.pick1 rfl ?_
        refine WL.storeL H 1 rfl rfl rfl (new := _) rfl (by exact TryzT.sz147) (by exact one_lit _ rfl) (Laid.at (Laid.wordA i (by simp [addTo_length, *])) (by (simp; done))) rfl ?_
        intro w19 H
        refine WL.nil ⟨(List.forall_mem_cons.2 ⟨(by exact (fun h => absurd (show waits _ 8 5 = false from h) (by decide +kernel))), (List.forall_mem_cons.2 ⟨(by exact (fun h => absurd (show waits _ 8 2 = false from h) (by decide +kernel))), (fun _ h => by cases h)⟩)⟩), ?_⟩
        refine WP.done ?_
        refine WE.reg ?_
        refine WL.mv rfl rfl ?_
        refine WL.pv (PV.add64 rfl rfl rfl (by omega) (by omega)) rfl ?_
        refine WL.as rfl rfl ?_
        refine WL.nil ?_
        have e := addTo_set (shaSt (padOf la) n) (rnds (sched (((padOf la).drop (64 * n)).take 64) 48) (shaSt (padOf la) n) 64) i hS hR2 hlt3
        exact ⟨i + 1, (by repeat (first | with_reducible exact Off.refl _ _ | refine Off.upd rfl ?_ | refine Off.setAll rfl ?_ | refine Off.forget' rfl ?_)), ⟨rfl, trivial⟩, rfl, ⟨by omega, H.conv (by rw [← e]; rfl)⟩, (by omega)⟩
      · skip
        try simp only [decide_eq_true_eq, decide_eq_false_iff_not, ne_eq, Decidable.not_not, Bool.not_eq_true', Bool.not_eq_false', Bool.and_eq_true, Bool.or_eq_true, Bool.not_not, Bool.and_eq_false_iff, Bool.or_eq_false_iff, Int.not_lt, Int.not_le] at hc123
        obtain rfl : i = 8 := by omega
        refine WE.exit ?_
        refine WE.reg ?_
        refine WL.mv rfl rfl ?_
        refine WL.pv (PV.add64 rfl rfl rfl (by omega) (by omega)) rfl ?_
        refine WL.as rfl rfl ?_
        refine WL.nil ?_
        replace H := H.forget 0
        replace H := H.drop (fun p hp => List.mem_cons_of_mem _ hp)
        exact ⟨n + 1, (by repeat (first | with_reducible exact Off.refl _ _ | refine Off.upd rfl ?_ | refine Off.setAll rfl ?_ | refine Off.forget' rfl ?_)), ⟨rfl, trivial⟩, rfl, ⟨by omega, H⟩, (by omega)⟩
  · skip
    try simp only [decide_eq_true_eq, decide_eq_false_iff_not, ne_eq, Decidable.not_not, Bool.not_eq_true', Bool.not_eq_false', Bool.and_eq_true, Bool.or_eq_true, Bool.not_not, Bool.and_eq_false_iff, Bool.or_eq_false_iff, Int.not_lt, Int.not_le] at hc22
    have hge : n = (padOf la).length / 64 := by omega
    refine WE.exit ?_
    refine WE.seq_reg ?_
    refine WL.alloc H rfl TryzT.ze42 rfl ?_
    intro b13 w20 H
    refine WL.nil ?_
    refine WE.seq ?_
    refine WE.seq_reg ?_
    refine WL.as rfl rfl ?_
    refine WL.nil ?_
    refine WE.block ?_
    refine WE.loop (α := Nat) [14, 134, 135, 136, 137, 138, 139, 140, 141, 142, 143, 144, 145, 146, 147, 148, 149, 150] (fun i => [(14, .int .i64 i)]) (fun i wl => i ≤ 32 ∧ St X w wl [] [Ent.blk b13 42 (kc (fillZ 32 i (outOf (shaSt (padOf la) n)))), Ent.blk b3 148 (kw (shaSt (padOf la) n)), Ent.blk b2 42 (kc (List.replicate 32 0))] [SlB v18 (padOf la), SlW v16 roundsL, SlB a la]) (fun i => 32 - i) 0 ⟨rfl, trivial⟩ ⟨Nat.zero_le _, by rw [fillZ_zero]; exact H⟩ ?_
    intro i γ3 w21 hI
    try dsimp only at hI
    obtain ⟨hi, H⟩ := hI
    refine WE.seq ?_
    refine WE.seq_reg ?_
    refine WL.mv rfl rfl ?_
    refine WL.pv (PV.lss rfl rfl rfl) rfl ?_
    refine WL.nil ?_
    refine WE.cond rfl (fun hc135 => ?_) (fun hc135 => ?_)
    · skip
      try simp only [decide_eq_true_eq, decide_eq_false_iff_not, ne_eq, Decidable.not_not, Bool.not_eq_true', Bool.not_eq_false', Bool.and_eq_true, Bool.or_eq_true, Bool.not_not, Bool.and_eq_false_iff, Bool.or_eq_false_iff, Int.not_lt, Int.not_le] at hc135
      have hlt4 : i < 32 := by omega
      refine WE.skip ?_
      refine WE.seq ?_
      refine WE.block ?_
      refine WE.reg ?_
      refine WL.mv rfl rfl ?_
      refine WL.mv rfl rfl ?_
      refine WL.pv (PV.eq (v' := .int .i64 ((i / 4 : Nat) : Int)) (PV.quo64 rfl rfl rfl (by omega) (by omega) (by omega)) (by rfl)) rfl ?_
      refine WL.pv (PV.indexArr rfl TryzT.ar148 TryzT.sz147 rfl rfl (by omega) (by omega)) rfl ?_
      refine WL.load1 rfl TryzT.ag147 rfl rfl (by exact Blk.segAt (H.l 1 rfl) (Seg.word (i / 4) (by rw [hS]; omega)) (by omega)) ?_
      refine WL.mv rfl rfl ?_
      refine WL.pv (PV.eq (v' := .int .i64 ((i % 4 : Nat) : Int)) (PV.rem64 rfl rfl rfl (by omega) (by omega)) (by rfl)) rfl ?_
      refine WL.pv (PV.eq (v' := .int .i64 ((8 * (i % 4) : Nat) : Int)) (PV.mul64 rfl rfl rfl (by omega) (by omega)) (by rfl)) rfl ?_
      refine WL.pv (PV.eq (v' := .int .i64 ((24 - 8 * (i % 4) : Nat) : Int)) (PV.sub64 rfl rfl rfl (by omega) (by omega)) (by (congr 1; omega))) rfl ?_
      refine WL.pv (PV.convN (n := 24 - 8 * (i % 4)) rfl TryzT.in3 TryzT.in171 rfl rfl (by omega)) rfl ?_
      refine WL.pv (PV.shr32 (n := 24 - 8 * (i % 4)) rfl rfl rfl (by omega)) rfl ?_
      refine WL.pv (PV.c32_8 rfl TryzT.in147 TryzT.in5 rfl) rfl ?_
      refine WL.pv (PV.indexArr rfl TryzT.ar42 TryzT.sz5 rfl rfl (by omega) (by omega)) rfl ?_
      refine WL.storeL H 0 rfl rfl rfl (new := _) rfl (by exact TryzT.sz5) (by exact one_lit _ rfl) (Laid.at (Laid.byteA i (by rw [fillZ_length (by omega) (by rw [outOf_length]; omega)]; omega)) (by (simp; done))) rfl ?_
      intro w22 H
      refine WL.nil ?_
      refine WE.reg ?_
      refine WL.mv rfl rfl ?_
      refine WL.pv (PV.add64 rfl rfl rfl (by omega) (by omega)) rfl ?_
      refine WL.as rfl rfl ?_
      refine WL.nil ?_
      have e := fillZ_set (m := 32) (k := i) (l := outOf (shaSt (padOf la) n)) (by omega) (by rw [outOf_length]; omega)
      rw [outOf_get _ _ _ (by rw [hS]; omega)] at e
      exact ⟨i + 1, (by repeat (first | with_reducible exact Off.refl _ _ | refine Off.upd rfl ?_ | refine Off.setAll rfl ?_ | refine Off.forget' rfl ?_)), ⟨rfl, trivial⟩, rfl, ⟨by omega, H.conv (by rw [← e]; rfl)⟩, (by omega)⟩
    · skip
      try simp only [decide_eq_true_eq, decide_eq_false_iff_not, ne_eq, Decidable.not_not, Bool.not_eq_true', Bool.not_eq_false', Bool.and_eq_true, Bool.or_eq_true, Bool.not_not, Bool.and_eq_false_iff, Bool.or_eq_false_iff, Int.not_lt, Int.not_le] at hc135
      obtain rfl : i = 32 := by omega
      refine WE.exit ?_
      refine WE.seq_reg ?_
      have e32 := fillZ_all (m := 32) (l := outOf (shaSt (padOf la) n)) (outOf_length _)
      rw [e32] at H
      refine WL.loadR rfl TryzT.ag42 rfl rfl (by exact Blk.segAt (H.l 0 rfl) (Seg.all _) (by rfl)) (by exact TryzT.sz42) ?_
      refine WL.storeL H 2 rfl rfl rfl (new := _) rfl (by exact TryzT.sz42) (by exact kc_one _) (Laid.at (Laid.all (by rfl)) (by rfl)) rfl ?_
      intro w23 H
      refine WL.nil ?_
      refine WE.ret ?_
      refine ⟨[_], _, .nil _, ⟨⟨_, rfl, run_loadVar_aggR TryzT.ag42 (by exact Blk.segAt (H.l 2 rfl) (Seg.all _) rfl) (by exact TryzT.sz42)⟩, trivial⟩, ?_⟩
      subst hge
      exact ⟨rfl, H.toOut0⟩

end Go.Sp.Tryz

