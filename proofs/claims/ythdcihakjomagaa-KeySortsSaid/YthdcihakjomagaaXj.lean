/- Walks of functions, printed by a program of this session (gen.py) from notes on each function. -/
import Derived.Test.YthdcihakjomagaaXi
import Derived.Test.YthdcihakjomagaaG1
import Derived.Test.YthdcihakjomagaaStr
set_option maxRecDepth 100000
set_option maxHeartbeats 1000000
set_option linter.unusedVariables false
set_option linter.unusedSimpArgs false
namespace Go.Sp.Try
open Go.Proofs Go.RowKit Go.Sp

theorem SlB.whole {a : Addr} {n c : Nat} {l : List UInt8} {w : World} (h : SlB (.slice (some a) n c) l w) : RdA w a (kc l) := by
  obtain ⟨A, c', hv, _, _, _, hr⟩ := h
  injection hv with hv _ _
  exact hr a hv.symm
theorem SlB.some {s : Value} {l : List UInt8} {w : World} (h : SlB s l w) (hl : 0 < l.length) : ∃ a c, s = .slice (some a) l.length c := by
  obtain ⟨a, c, hv, _⟩ := SlC.at_ h 0 hl
  exact ⟨a, c, hv⟩
theorem fillSet {lb : List UInt8} {i m : Nat} (h : i < lb.length) : (lb.take i ++ List.replicate (m + 1) (0 : UInt8)).set i lb[i] = lb.take (i + 1) ++ List.replicate m 0 := by
  have h1 : (lb.take i).length = i := by rw [List.length_take]; omega
  rw [List.set_append_right (h := by omega), h1, Nat.sub_self, List.replicate_succ, List.set_cons_zero, List.take_succ_eq_append_getElem h, List.append_assoc]
  rfl
theorem wrapi32 {n : Int} (h : -2147483648 ≤ n) (h' : n ≤ 2147483647) : IntKind.i32.wrap n = n :=
  IntWalk.i32_in n ⟨h, h'⟩
/-! digits -/
def dg (c : Nat) : Int := if 48 ≤ c ∧ c ≤ 57 then (c : Int) - 48 else if 97 ≤ c ∧ c ≤ 102 then (c : Int) - 87 else -1
def dgN (x : UInt8) : Nat := (dg x.toNat).toNat
theorem dg_lt (c : Nat) : dg c < 16 := by unfold dg; split <;> (try split) <;> omega
theorem dg_ge (c : Nat) : -1 ≤ dg c := by unfold dg; split <;> (try split) <;> omega
theorem dg_ascii {c : Nat} (h : 0 ≤ dg c) : c < 128 := by
  unfold dg at h
  split at h
  · omega
  · split at h
    · omega
    · omega
theorem dgN_lt (x : UInt8) : dgN x < 16 := by have := dg_lt x.toNat; unfold dgN; omega
theorem dgN_eq {x : UInt8} (h : 0 ≤ dg x.toNat) : (dgN x : Int) = dg x.toNat := by unfold dgN; omega
def okS (l : List UInt8) : Prop := l.length % 2 = 0 ∧ ∀ x ∈ l, 0 ≤ dg x.toNat
def rn (l : List UInt8) (i : Nat) : Nat := (Utf8.decode ⟨l.toArray⟩ i).1
theorem dec_dig {l : List UInt8} {i : Nat} (hi : i < l.length) : (0 ≤ dg l[i].toNat → 0 ≤ dg (rn l i)) ∧ (0 ≤ dg (rn l i) → Utf8.decode ⟨l.toArray⟩ i = (l[i].toNat, 1) ∧ 0 ≤ dg l[i].toNat) := by
  refine ⟨fun h => ?_, fun h => ?_⟩
  · unfold rn; rw [decode_lt hi (dg_ascii h)]; exact h
  · have h1 := dg_ascii h
    have h2 : l[i].toNat < 128 := by
      rcases Nat.lt_or_ge l[i].toNat 128 with h2 | h2
      · exact h2
      · have := (decode_ge hi h2).1
        unfold rn at h1; omega
    have h3 := decode_lt hi h2
    refine ⟨h3, ?_⟩
    unfold rn at h
    rw [h3] at h
    exact h
def cellP (l : List UInt8) (i k : Nat) : UInt8 := if 2 * k + 2 ≤ i then UInt8.ofNat (16 * dgN (l.getD (2 * k) 0) + dgN (l.getD (2 * k + 1) 0)) else if 2 * k + 1 = i then UInt8.ofNat (dgN (l.getD (2 * k) 0)) else 0
def mkP (l : List UInt8) (i : Nat) : List UInt8 := (List.range (l.length / 2)).map (cellP l i)
def fullL (l : List UInt8) (n : Nat) : List UInt8 := (List.range n).map fun k => UInt8.ofNat (16 * dgN (l.getD (2 * k) 0) + dgN (l.getD (2 * k + 1) 0))
def parL (l : List UInt8) : List UInt8 := fullL l (l.length / 2)
theorem mkP_len (l : List UInt8) (i : Nat) : (mkP l i).length = l.length / 2 := by simp [mkP]
theorem mkP_zero (l : List UInt8) : mkP l 0 = List.replicate (l.length / 2) 0 := by
  refine List.ext_getElem (by simp [mkP]) fun k h _ => ?_
  simp [mkP, cellP]
theorem mkP_end (l : List UInt8) : mkP l l.length = parL l := by
  refine List.ext_getElem (by simp [mkP, parL, fullL]) fun k h _ => ?_
  simp only [mkP, parL, fullL, List.getElem_map, List.getElem_range]
  rw [mkP_len] at h
  unfold cellP
  rw [if_pos (by omega)]
theorem u8_of {n : Nat} (h : n < 256) : (UInt8.ofNat n).toNat = n := by simp [UInt8.toNat_ofNat']; omega
theorem cell_lt (l : List UInt8) (i : Nat) : (cellP l i (i / 2)).toNat < 16 := by
  unfold cellP
  rw [if_neg (by omega)]
  split
  · have := dgN_lt (l.getD (2 * (i / 2)) 0)
    rw [u8_of (by omega)]; exact this
  · decide
theorem mkP_get {l : List UInt8} {i k : Nat} (h : k < l.length / 2) : (mkP l i)[k]'(by rw [mkP_len]; exact h) = cellP l i k := by simp [mkP]
theorem mkP_set {l : List UInt8} {i : Nat} (hi : i < l.length) (he : l.length % 2 = 0) : (mkP l i).set (i / 2) (UInt8.ofNat (16 * (cellP l i (i / 2)).toNat + dgN l[i])) = mkP l (i + 1) := by
  have hk : i / 2 < l.length / 2 := by omega
  refine List.ext_getElem (by rw [List.length_set, mkP_len, mkP_len]) fun k h1 h2 => ?_
  rw [mkP_len] at h2
  rw [List.getElem_set, mkP_get (i := i + 1) h2]
  have hgd : l.getD i 0 = l[i] := by rw [List.getD_eq_getElem?_getD, List.getElem?_eq_getElem hi]; rfl
  split
  · rename_i hk'
    subst hk'
    rcases Nat.mod_two_eq_zero_or_one i with hm | hm
    · have e1 : cellP l i (i / 2) = 0 := by unfold cellP; rw [if_neg (by omega), if_neg (by omega)]
      rw [e1]
      unfold cellP
      rw [if_neg (by omega), if_pos (by omega), show 2 * (i / 2) = i by omega, hgd]
      simp
    · have e1 : cellP l i (i / 2) = UInt8.ofNat (dgN (l.getD (2 * (i / 2)) 0)) := by unfold cellP; rw [if_neg (by omega), if_pos (by omega)]
      rw [e1, u8_of (by have := dgN_lt (l.getD (2 * (i / 2)) 0); omega)]
      unfold cellP
      rw [if_pos (by omega), show 2 * (i / 2) + 1 = i by omega, hgd]
  · rename_i hk'
    rw [mkP_get (i := i) h2]
    unfold cellP
    by_cases ha : 2 * k + 2 ≤ i
    · rw [if_pos ha, if_pos (by omega)]
    · rw [if_neg ha]
      by_cases hb : 2 * k + 1 = i
      · exfalso; omega
      · rw [if_neg hb, if_neg (by omega), if_neg (by omega)]
theorem or16 : ∀ a < 16, ∀ d < 16, IntKind.u8.wrap ((BitVec.ofInt IntKind.u8.bits ((16 * a : Nat) : Int) ||| BitVec.ofInt IntKind.u8.bits ((d : Nat) : Int)).toNat : Int) = ((16 * a + d : Nat) : Int) := by decide +kernel
theorem fullL_snoc (l : List UInt8) (n : Nat) : fullL l (n + 1) = fullL l n ++ [UInt8.ofNat (16 * dgN (l.getD (2 * n) 0) + dgN (l.getD (2 * n + 1) 0))] := by
  simp [fullL, List.range_succ]
theorem getD_at8 {l : List UInt8} {i : Nat} (h : i < l.length) : l.getD i 0 = l[i] := by rw [List.getD_eq_getElem?_getD, List.getElem?_eq_getElem h]; rfl
theorem iter_eq {X : Nat → Prop} {w0 w : World} {O L : List Ent} {Ps : List (World → Prop)} (H : St X w0 w O L Ps) {L' : List Ent} (h : L = L') : St X w0 w O L' Ps := h ▸ H

theorem OfGood_c {X : Nat → Prop} {w : World} {s : Value} {lb : List UInt8} (hX : ∀ b, X b → b < w.heap.size) (hf0 : Rob X (SlB s lb) w) (hlb : lb.length = 32) :
    Ret Try.prog 9 [s].toArray w fun v w' => v = .tuple [.agg (kc lb).toArray, .int .i64 0].toArray ∧ Out Nil w w' := by
  refine Ret.of_body (N := 11) Try.func9 rfl rfl (by simp) ?_
  have H := St.begin hX
  replace H := H.add (rob0 hf0)
  obtain ⟨sa, sc, rfl⟩ := SlB.some (H.p 0 rfl : SlB s lb _) (by omega)
  have hll : lb.length = 32 := hlb
  refine WE.seq_reg ?_
  refine WL.alloc H rfl TryT.ze24 rfl ?_
  intro b2 w1 H
  refine WL.as rfl rfl ?_
  refine WL.nil ?_
  refine WE.seq ?_
  refine WE.seq_reg ?_
  refine WL.mv rfl rfl ?_
  refine WL.pv (PV.lenSl TryT.sl22 rfl) rfl ?_
  refine WL.pv (PV.neq rfl rfl rfl) rfl ?_
  refine WL.nil ?_
  refine WE.cond_f' rfl (by simp [hlb]) ?_
  refine WE.skip ?_
  refine WE.seq_reg ?_
  refine WL.mv rfl rfl ?_
  refine WL.pv (PV.arrAt (n := 32) rfl TryT.ar24 (by rw [hlb]; rfl)) rfl ?_
  refine WL.loadR rfl TryT.ag24 rfl rfl (SlB.whole (H.p 0 rfl)) (by (rw [TryT.sz24]; refine congrArg some ?_; (simp only [kc_length, kw_length, List.length_replicate, List.length_append, List.length_cons, List.length_nil]; omega))) ?_
  refine WL.storeL H 0 rfl rfl rfl (new := _) rfl (by (rw [TryT.sz24]; refine congrArg some ?_; (simp only [kc_length, kw_length, List.length_replicate, List.length_append, List.length_cons, List.length_nil]; omega))) (by exact kc_one _) (Laid.at (Laid.all (by (simp only [kc_length, kw_length, List.length_replicate, List.length_append, List.length_cons, List.length_nil]; omega))) (by rfl)) rfl ?_
  intro w2 H
  refine WL.as rfl rfl ?_
  refine WL.nil ?_
  refine WE.ret ?_
  refine ⟨[_, _], _, .nil _, ⟨⟨_, rfl, run_loadVar_aggR TryT.ag24 (by exact Blk.segAt (H.l 0 rfl) (Seg.all _) rfl) (by (rw [TryT.sz24]; refine congrArg some ?_; (simp only [kc_length, kw_length, List.length_replicate, List.length_append, List.length_cons, List.length_nil]; omega)))⟩, rfl, trivial⟩, ?_⟩
  exact ⟨rfl, H.toOut0⟩

theorem OfBad_c {X : Nat → Prop} {w : World} {s : Value} {lb : List UInt8} (hX : ∀ b, X b → b < w.heap.size) (hf0 : Rob X (SlB s lb) w) (hlb : lb.length ≠ 32) (hle : lb.length ≤ 9223372036854775807) :
    Ret Try.prog 9 [s].toArray w fun v w' => v = .tuple [.agg (kc (List.replicate 32 0)).toArray, .int .i64 2].toArray ∧ Out Nil w w' := by
  refine Ret.of_body (N := 11) Try.func9 rfl rfl (by simp) ?_
  have H := St.begin hX
  replace H := H.add (rob0 hf0)
  refine WE.seq_reg ?_
  refine WL.alloc H rfl TryT.ze24 rfl ?_
  intro b2 w1 H
  refine WL.as rfl rfl ?_
  refine WL.nil ?_
  refine WE.seq ?_
  refine WE.seq_reg ?_
  refine WL.mv rfl rfl ?_
  refine WL.pv (PV.lenS (H.p 0 rfl) TryT.sl22 rfl) rfl ?_
  refine WL.pv (PV.neq rfl rfl rfl) rfl ?_
  refine WL.nil ?_
  refine WE.cond_t' rfl (by simp; omega) ?_
  refine WE.seq_reg ?_
  refine WL.pv (PV.buildA rfl TryT.ar24 TryT.sz5 TryT.ze24 Fl.nil) rfl ?_
  refine WL.storeL H 0 rfl rfl rfl (new := _) rfl (by exact TryT.sz24) (by exact kc_one _) (Laid.at (Laid.all (by with_reducible rfl)) (by rfl)) rfl ?_
  intro w2 H
  refine WL.as rfl rfl ?_
  refine WL.nil ?_
  refine WE.ret ?_
  refine ⟨[_, _], _, .nil _, ⟨⟨_, rfl, run_loadVar_aggR TryT.ag24 (by exact Blk.segAt (H.l 0 rfl) (Seg.all _) rfl) (by exact TryT.sz24)⟩, rfl, trivial⟩, ?_⟩
  exact ⟨rfl, H.toOut0⟩

theorem refOf_c {X : Nat → Prop} {w : World} {s : Value} {lb : List UInt8} (hX : ∀ b, X b → b < w.heap.size) (hf0 : Rob X (SlB s lb) w) (hlb : lb.length = 32) :
    Ret Try.prog 11 [s].toArray w fun v w' => v = .agg (kc lb).toArray ∧ Out Nil w w' := by
  refine Ret.of_body (N := 16) Try.func11 rfl rfl (by simp) ?_
  have H := St.begin hX
  replace H := H.add (rob0 hf0)
  refine WE.seq_reg ?_
  refine WL.alloc H rfl TryT.ze24 rfl ?_
  intro b2 w1 H
  refine WL.nil ?_
  refine WE.seq_reg ?_
  refine WL.alloc H rfl TryT.ze24 rfl ?_
  intro b3 w2 H
  refine WL.nil ?_
  refine WE.seq ?_
  refine WE.seq_reg ?_
  refine WL.as rfl rfl ?_
  refine WL.nil ?_
  refine WE.block ?_
  refine WE.loop (α := Nat) [4, 5, 6, 7, 8, 9, 10, 11, 12, 13, 14] (fun i => [(4, .int .i64 (i : Int))]) (fun i wl => i ≤ 32 ∧ St X w wl [] [Ent.blk b3 24 (kc (lb.take i ++ List.replicate (32 - i) 0)), Ent.blk b2 24 (kc (List.replicate 32 0))] [SlB s lb]) (fun i => 32 - i) 0 ⟨rfl, trivial⟩ ⟨Nat.zero_le _, H.conv (by rfl)⟩ ?_
  intro i γ0 w3 hI
  try dsimp only at hI
  obtain ⟨hi, H⟩ := hI
  refine WE.seq ?_
  refine WE.seq_reg ?_
  refine WL.mv rfl rfl ?_
  refine WL.pv (PV.lss rfl rfl rfl) rfl ?_
  refine WL.nil ?_
  refine WE.cond rfl (fun hc6 => ?_) (fun hc6 => ?_)
  · skip
    try simp only [decide_eq_true_eq, decide_eq_false_iff_not, ne_eq, Decidable.not_not, Bool.not_eq_true', Bool.not_eq_false', Bool.and_eq_true, Bool.or_eq_true, Bool.not_not, Bool.and_eq_false_iff, Bool.or_eq_false_iff, Int.not_lt, Int.not_le] at hc6
    have hi32 : i < 32 := by omega
    refine WE.skip ?_
    refine WE.seq ?_
    refine WE.block ?_
    refine WE.reg ?_
    refine WL.mv rfl rfl ?_
    refine WL.mv rfl rfl ?_
    refine WL.mv rfl rfl ?_
    refine WL.pv (PV.idxS rfl (H.p 0 rfl) TryT.sl22 TryT.sz5 rfl rfl (by omega) (by omega)) rfl ?_
    refine WL.load1 rfl TryT.ag5 rfl rfl (SlB.rd (H.p 0 rfl) i (by omega)) ?_
    refine WL.pv (PV.indexArr rfl TryT.ar24 TryT.sz5 rfl rfl (by omega) (by omega)) rfl ?_
    refine WL.storeL H 0 rfl rfl rfl (new := _) rfl (by exact TryT.sz5) (by exact one_lit _ rfl) (Laid.at (Laid.byteA (x := lb[i]) i (by rw [List.length_append, List.length_take, List.length_replicate]; omega)) (by simp)) rfl ?_
    intro w4 H
    refine WL.nil ?_
    refine WE.reg ?_
    refine WL.mv rfl rfl ?_
    refine WL.pv (PV.eq (v' := .int .i64 ((i + 1 : Nat) : Int)) (PV.add64 rfl rfl rfl (by omega) (by omega)) (by rfl)) rfl ?_
    refine WL.as rfl rfl ?_
    refine WL.nil ?_
    have hfs : (lb.take i ++ List.replicate (32 - i) (0 : UInt8)).set i lb[i] = lb.take (i + 1) ++ List.replicate (32 - (i + 1)) 0 := by rw [show 32 - i = (32 - (i + 1)) + 1 by omega]; exact fillSet (by omega)
    exact ⟨i + 1, (by repeat (first | with_reducible exact Off.refl _ _ | refine Off.upd rfl ?_ | refine Off.setAll rfl ?_ | refine Off.forget' rfl ?_)), ⟨rfl, trivial⟩, rfl, ⟨by omega, H.conv (by rw [← hfs]; rfl)⟩, (by omega)⟩
  · skip
    try simp only [decide_eq_true_eq, decide_eq_false_iff_not, ne_eq, Decidable.not_not, Bool.not_eq_true', Bool.not_eq_false', Bool.and_eq_true, Bool.or_eq_true, Bool.not_not, Bool.and_eq_false_iff, Bool.or_eq_false_iff, Int.not_lt, Int.not_le] at hc6
    have hie : i = 32 := by omega
    refine WE.exit ?_
    refine WE.seq_reg ?_
    subst hie
    replace H := H.conv (L' := [Ent.blk b3 24 (kc lb), Ent.blk b2 24 (kc (List.replicate 32 0))]) (by rw [List.take_of_length_le (by omega)]; simp)
    refine WL.loadR rfl TryT.ag24 rfl rfl (by exact Blk.segAt (H.l 0 rfl) (Seg.all _) (by rfl)) (by (rw [TryT.sz24]; refine congrArg some ?_; (simp only [kc_length, kw_length, List.length_replicate, List.length_append, List.length_cons, List.length_nil]; omega))) ?_
    refine WL.storeL H 1 rfl rfl rfl (new := _) rfl (by (rw [TryT.sz24]; refine congrArg some ?_; (simp only [kc_length, kw_length, List.length_replicate, List.length_append, List.length_cons, List.length_nil]; omega))) (by exact kc_one _) (Laid.at (Laid.all (by (simp only [kc_length, kw_length, List.length_replicate, List.length_append, List.length_cons, List.length_nil]; omega))) (by rfl)) rfl ?_
    intro w5 H
    refine WL.nil ?_
    refine WE.ret ?_
    refine ⟨[_], _, .nil _, ⟨⟨_, rfl, run_loadVar_aggR TryT.ag24 (by exact Blk.segAt (H.l 1 rfl) (Seg.all _) rfl) (by (rw [TryT.sz24]; refine congrArg some ?_; (simp only [kc_length, kw_length, List.length_replicate, List.length_append, List.length_cons, List.length_nil]; omega)))⟩, trivial⟩, ?_⟩
    exact ⟨rfl, H.toOut0⟩

theorem digit_c {X : Nat → Prop} {w : World} {c : Nat} (hX : ∀ b, X b → b < w.heap.size) (hc : c ≤ 2147483647) :
    Ret Try.prog 28 [.int .i32 (c : Int)].toArray w fun v w' => v = .int .i64 (dg c) ∧ Out Nil w w' := by
  refine Ret.of_body (N := 24) Try.func28 rfl rfl (by simp) ?_
  have H := St.begin hX
  refine WE.seq_reg ?_
  refine WL.as rfl rfl ?_
  refine WL.nil ?_
  refine WE.seq ?_
  refine WE.block ?_
  refine WE.seq_reg ?_
  refine WL.mv rfl rfl ?_
  refine WL.pv (PV.geq rfl rfl rfl) rfl ?_
  refine WL.mv rfl rfl ?_
  refine WL.split (t := 6) rfl (fun hg6 => ?_) (fun hg6 => ?_)
  · skip
    refine WL.known (t := 5) (c := true) rfl hg6 ?_
    try simp only [decide_eq_true_eq, decide_eq_false_iff_not, ne_eq, Decidable.not_not, Bool.not_eq_true', Bool.not_eq_false', Bool.and_eq_true, Bool.or_eq_true, Bool.not_not, Bool.and_eq_false_iff, Bool.or_eq_false_iff, Int.not_lt, Int.not_le] at hg6
    refine WL.mv rfl rfl ?_
    refine WL.pv (PV.leq rfl rfl rfl) rfl ?_
    refine WL.pv (PV.pick_t rfl rfl rfl) rfl ?_
    refine WL.as rfl rfl ?_
    refine WL.nil ?_
    refine WE.cond rfl (fun hc3 => ?_) (fun hc3 => ?_)
    · skip
      try simp only [decide_eq_true_eq, decide_eq_false_iff_not, ne_eq, Decidable.not_not, Bool.not_eq_true', Bool.not_eq_false', Bool.and_eq_true, Bool.or_eq_true, Bool.not_not, Bool.and_eq_false_iff, Bool.or_eq_false_iff, Int.not_lt, Int.not_le] at hc3
      refine WE.seq_reg ?_
      refine WL.mv rfl rfl ?_
      refine WL.pv (PV.eq (v' := .int .i32 ((c - 48 : Nat) : Int)) (PV.subw rfl rfl rfl) (by (rw [wrapi32 (by omega) (by omega)]; congr 1; omega))) rfl ?_
      refine WL.pv (PV.conv64 rfl TryT.in21 TryT.in3 rfl (by omega) (by omega)) rfl ?_
      refine WL.as rfl rfl ?_
      refine WL.nil ?_
      refine WE.ret ?_
      refine ⟨[_], _, .nil _, ⟨rfl, trivial⟩, ?_⟩
      refine ⟨?_, H.toOut0⟩
      show Value.int .i64 _ = _
      unfold dg
      rw [if_pos (by omega)]
      congr 1; omega
    · skip
      try simp only [decide_eq_true_eq, decide_eq_false_iff_not, ne_eq, Decidable.not_not, Bool.not_eq_true', Bool.not_eq_false', Bool.and_eq_true, Bool.or_eq_true, Bool.not_not, Bool.and_eq_false_iff, Bool.or_eq_false_iff, Int.not_lt, Int.not_le] at hc3
      refine WE.seq_reg ?_
      refine WL.mv rfl rfl ?_
      refine WL.pv (PV.geq rfl rfl rfl) rfl ?_
      refine WL.mv rfl rfl ?_
      refine WL.split (t := 16) rfl (fun hg16 => ?_) (fun hg16 => ?_)
      · skip
        refine WL.known (t := 15) (c := true) rfl hg16 ?_
        try simp only [decide_eq_true_eq, decide_eq_false_iff_not, ne_eq, Decidable.not_not, Bool.not_eq_true', Bool.not_eq_false', Bool.and_eq_true, Bool.or_eq_true, Bool.not_not, Bool.and_eq_false_iff, Bool.or_eq_false_iff, Int.not_lt, Int.not_le] at hg16
        refine WL.mv rfl rfl ?_
        refine WL.pv (PV.leq rfl rfl rfl) rfl ?_
        refine WL.pv (PV.pick_t rfl rfl rfl) rfl ?_
        refine WL.as rfl rfl ?_
        refine WL.nil ?_
        refine WE.cond rfl (fun hc13 => ?_) (fun hc13 => ?_)
        · skip
          try simp only [decide_eq_true_eq, decide_eq_false_iff_not, ne_eq, Decidable.not_not, Bool.not_eq_true', Bool.not_eq_false', Bool.and_eq_true, Bool.or_eq_true, Bool.not_not, Bool.and_eq_false_iff, Bool.or_eq_false_iff, Int.not_lt, Int.not_le] at hc13
          refine WE.seq_reg ?_
          refine WL.mv rfl rfl ?_
          refine WL.pv (PV.eq (v' := .int .i32 ((c - 97 : Nat) : Int)) (PV.subw rfl rfl rfl) (by (rw [wrapi32 (by omega) (by omega)]; congr 1; omega))) rfl ?_
          refine WL.pv (PV.conv64 rfl TryT.in21 TryT.in3 rfl (by omega) (by omega)) rfl ?_
          refine WL.pv (PV.add64 rfl rfl rfl (by omega) (by omega)) rfl ?_
          refine WL.as rfl rfl ?_
          refine WL.nil ?_
          refine WE.ret ?_
          refine ⟨[_], _, .nil _, ⟨rfl, trivial⟩, ?_⟩
          refine ⟨?_, H.toOut0⟩
          show Value.int .i64 _ = _
          unfold dg
          rw [if_neg (by omega), if_pos (by omega)]
          congr 1; omega
        · skip
          try simp only [decide_eq_true_eq, decide_eq_false_iff_not, ne_eq, Decidable.not_not, Bool.not_eq_true', Bool.not_eq_false', Bool.and_eq_true, Bool.or_eq_true, Bool.not_not, Bool.and_eq_false_iff, Bool.or_eq_false_iff, Int.not_lt, Int.not_le] at hc13
          refine WE.skip ?_
          refine WE.seq_reg ?_
          refine WL.as rfl rfl ?_
          refine WL.nil ?_
          refine WE.ret ?_
          refine ⟨[_], _, .nil _, ⟨rfl, trivial⟩, ?_⟩
          refine ⟨?_, H.toOut0⟩
          show Value.int .i64 _ = _
          unfold dg
          rw [if_neg (by omega), if_neg (by omega)]
      · skip
        refine WL.known (t := 15) (c := false) rfl hg16 ?_
        try simp only [decide_eq_true_eq, decide_eq_false_iff_not, ne_eq, Decidable.not_not, Bool.not_eq_true', Bool.not_eq_false', Bool.and_eq_true, Bool.or_eq_true, Bool.not_not, Bool.and_eq_false_iff, Bool.or_eq_false_iff, Int.not_lt, Int.not_le] at hg16
        refine WL.off rfl ?_
        refine WL.off rfl ?_
        refine WL.pv (PV.pick_f rfl rfl rfl) rfl ?_
        refine WL.as rfl rfl ?_
        refine WL.nil ?_
        refine WE.cond_f rfl ?_
        refine WE.skip ?_
        refine WE.seq_reg ?_
        refine WL.as rfl rfl ?_
        refine WL.nil ?_
        refine WE.ret ?_
        refine ⟨[_], _, .nil _, ⟨rfl, trivial⟩, ?_⟩
        refine ⟨?_, H.toOut0⟩
        show Value.int .i64 _ = _
        unfold dg
        rw [if_neg (by omega), if_neg (by omega)]
  · skip
    refine WL.known (t := 5) (c := false) rfl hg6 ?_
    try simp only [decide_eq_true_eq, decide_eq_false_iff_not, ne_eq, Decidable.not_not, Bool.not_eq_true', Bool.not_eq_false', Bool.and_eq_true, Bool.or_eq_true, Bool.not_not, Bool.and_eq_false_iff, Bool.or_eq_false_iff, Int.not_lt, Int.not_le] at hg6
    refine WL.off rfl ?_
    refine WL.off rfl ?_
    refine WL.pv (PV.pick_f rfl rfl rfl) rfl ?_
    refine WL.as rfl rfl ?_
    refine WL.nil ?_
    refine WE.cond_f rfl ?_
    refine WE.seq_reg ?_
    refine WL.mv rfl rfl ?_
    refine WL.pv (PV.geq rfl rfl rfl) rfl ?_
    refine WL.mv rfl rfl ?_
    refine WL.split (t := 16) rfl (fun hg16 => ?_) (fun hg16 => ?_)
    · skip
      refine WL.known (t := 15) (c := true) rfl hg16 ?_
      try simp only [decide_eq_true_eq, decide_eq_false_iff_not, ne_eq, Decidable.not_not, Bool.not_eq_true', Bool.not_eq_false', Bool.and_eq_true, Bool.or_eq_true, Bool.not_not, Bool.and_eq_false_iff, Bool.or_eq_false_iff, Int.not_lt, Int.not_le] at hg16
      refine WL.mv rfl rfl ?_
      refine WL.pv (PV.leq rfl rfl rfl) rfl ?_
      refine WL.pv (PV.pick_t rfl rfl rfl) rfl ?_
      refine WL.as rfl rfl ?_
      refine WL.nil ?_
      refine WE.cond rfl (fun hc13 => ?_) (fun hc13 => ?_)
      · skip
        try simp only [decide_eq_true_eq, decide_eq_false_iff_not, ne_eq, Decidable.not_not, Bool.not_eq_true', Bool.not_eq_false', Bool.and_eq_true, Bool.or_eq_true, Bool.not_not, Bool.and_eq_false_iff, Bool.or_eq_false_iff, Int.not_lt, Int.not_le] at hc13
        refine WE.seq_reg ?_
        refine WL.mv rfl rfl ?_
        refine WL.pv (PV.eq (v' := .int .i32 ((c - 97 : Nat) : Int)) (PV.subw rfl rfl rfl) (by (congr 1; omega))) rfl ?_
        refine WL.pv (PV.conv64 rfl TryT.in21 TryT.in3 rfl (by omega) (by omega)) rfl ?_
        refine WL.pv (PV.add64 rfl rfl rfl (by omega) (by omega)) rfl ?_
        refine WL.as rfl rfl ?_
        refine WL.nil ?_
        refine WE.ret ?_
        refine ⟨[_], _, .nil _, ⟨rfl, trivial⟩, ?_⟩
        refine ⟨?_, H.toOut0⟩
        show Value.int .i64 _ = _
        unfold dg
        rw [if_neg (by omega), if_pos (by omega)]
        congr 1; omega
      · skip
        try simp only [decide_eq_true_eq, decide_eq_false_iff_not, ne_eq, Decidable.not_not, Bool.not_eq_true', Bool.not_eq_false', Bool.and_eq_true, Bool.or_eq_true, Bool.not_not, Bool.and_eq_false_iff, Bool.or_eq_false_iff, Int.not_lt, Int.not_le] at hc13
        refine WE.skip ?_
        refine WE.seq_reg ?_
        refine WL.as rfl rfl ?_
        refine WL.nil ?_
        refine WE.ret ?_
        refine ⟨[_], _, .nil _, ⟨rfl, trivial⟩, ?_⟩
        refine ⟨?_, H.toOut0⟩
        show Value.int .i64 _ = _
        unfold dg
        rw [if_neg (by omega), if_neg (by omega)]
    · skip
      refine WL.known (t := 15) (c := false) rfl hg16 ?_
      try simp only [decide_eq_true_eq, decide_eq_false_iff_not, ne_eq, Decidable.not_not, Bool.not_eq_true', Bool.not_eq_false', Bool.and_eq_true, Bool.or_eq_true, Bool.not_not, Bool.and_eq_false_iff, Bool.or_eq_false_iff, Int.not_lt, Int.not_le] at hg16
      refine WL.off rfl ?_
      refine WL.off rfl ?_
      refine WL.pv (PV.pick_f rfl rfl rfl) rfl ?_
      refine WL.as rfl rfl ?_
      refine WL.nil ?_
      refine WE.cond_f rfl ?_
      refine WE.skip ?_
      refine WE.seq_reg ?_
      refine WL.as rfl rfl ?_
      refine WL.nil ?_
      refine WE.ret ?_
      refine ⟨[_], _, .nil _, ⟨rfl, trivial⟩, ?_⟩
      refine ⟨?_, H.toOut0⟩
      show Value.int .i64 _ = _
      unfold dg
      rw [if_neg (by omega), if_neg (by omega)]

theorem refDigit_c {X : Nat → Prop} {w : World} {c : Nat} (hX : ∀ b, X b → b < w.heap.size) (hc : c ≤ 255) :
    Ret Try.prog 29 [.int .u8 (c : Int)].toArray w fun v w' => v = .int .i64 (dg c) ∧ Out Nil w w' := by
  refine Ret.of_body (N := 22) Try.func29 rfl rfl (by simp) ?_
  have H := St.begin hX
  refine WE.seq_reg ?_
  refine WL.as rfl rfl ?_
  refine WL.nil ?_
  refine WE.seq ?_
  refine WE.seq_reg ?_
  refine WL.mv rfl rfl ?_
  refine WL.pv (PV.geq rfl rfl rfl) rfl ?_
  refine WL.mv rfl rfl ?_
  refine WL.split (t := 5) rfl (fun hg5 => ?_) (fun hg5 => ?_)
  · skip
    refine WL.known (t := 4) (c := true) rfl hg5 ?_
    try simp only [decide_eq_true_eq, decide_eq_false_iff_not, ne_eq, Decidable.not_not, Bool.not_eq_true', Bool.not_eq_false', Bool.and_eq_true, Bool.or_eq_true, Bool.not_not, Bool.and_eq_false_iff, Bool.or_eq_false_iff, Int.not_lt, Int.not_le] at hg5
    refine WL.mv rfl rfl ?_
    refine WL.pv (PV.leq rfl rfl rfl) rfl ?_
    refine WL.pv (PV.pick_t rfl rfl rfl) rfl ?_
    refine WL.nil ?_
    refine WE.cond rfl (fun hc8 => ?_) (fun hc8 => ?_)
    · skip
      try simp only [decide_eq_true_eq, decide_eq_false_iff_not, ne_eq, Decidable.not_not, Bool.not_eq_true', Bool.not_eq_false', Bool.and_eq_true, Bool.or_eq_true, Bool.not_not, Bool.and_eq_false_iff, Bool.or_eq_false_iff, Int.not_lt, Int.not_le] at hc8
      refine WE.seq_reg ?_
      refine WL.mv rfl rfl ?_
      refine WL.pv (PV.conv64 rfl TryT.in5 TryT.in3 rfl (by omega) (by omega)) rfl ?_
      refine WL.pv (PV.sub64 rfl rfl rfl (by omega) (by omega)) rfl ?_
      refine WL.as rfl rfl ?_
      refine WL.nil ?_
      refine WE.ret ?_
      refine ⟨[_], _, .nil _, ⟨rfl, trivial⟩, ?_⟩
      refine ⟨?_, H.toOut0⟩
      show Value.int .i64 _ = _
      unfold dg
      rw [if_pos (by omega)]
    · skip
      try simp only [decide_eq_true_eq, decide_eq_false_iff_not, ne_eq, Decidable.not_not, Bool.not_eq_true', Bool.not_eq_false', Bool.and_eq_true, Bool.or_eq_true, Bool.not_not, Bool.and_eq_false_iff, Bool.or_eq_false_iff, Int.not_lt, Int.not_le] at hc8
      refine WE.skip ?_
      refine WE.seq ?_
      refine WE.seq_reg ?_
      refine WL.mv rfl rfl ?_
      refine WL.pv (PV.geq rfl rfl rfl) rfl ?_
      refine WL.mv rfl rfl ?_
      refine WL.split (t := 14) rfl (fun hg14 => ?_) (fun hg14 => ?_)
      · skip
        refine WL.known (t := 13) (c := true) rfl hg14 ?_
        try simp only [decide_eq_true_eq, decide_eq_false_iff_not, ne_eq, Decidable.not_not, Bool.not_eq_true', Bool.not_eq_false', Bool.and_eq_true, Bool.or_eq_true, Bool.not_not, Bool.and_eq_false_iff, Bool.or_eq_false_iff, Int.not_lt, Int.not_le] at hg14
        refine WL.mv rfl rfl ?_
        refine WL.pv (PV.leq rfl rfl rfl) rfl ?_
        refine WL.pv (PV.pick_t rfl rfl rfl) rfl ?_
        refine WL.nil ?_
        refine WE.cond rfl (fun hc17 => ?_) (fun hc17 => ?_)
        · skip
          try simp only [decide_eq_true_eq, decide_eq_false_iff_not, ne_eq, Decidable.not_not, Bool.not_eq_true', Bool.not_eq_false', Bool.and_eq_true, Bool.or_eq_true, Bool.not_not, Bool.and_eq_false_iff, Bool.or_eq_false_iff, Int.not_lt, Int.not_le] at hc17
          refine WE.seq_reg ?_
          refine WL.mv rfl rfl ?_
          refine WL.pv (PV.conv64 rfl TryT.in5 TryT.in3 rfl (by omega) (by omega)) rfl ?_
          refine WL.pv (PV.sub64 rfl rfl rfl (by omega) (by omega)) rfl ?_
          refine WL.pv (PV.add64 rfl rfl rfl (by omega) (by omega)) rfl ?_
          refine WL.as rfl rfl ?_
          refine WL.nil ?_
          refine WE.ret ?_
          refine ⟨[_], _, .nil _, ⟨rfl, trivial⟩, ?_⟩
          refine ⟨?_, H.toOut0⟩
          show Value.int .i64 _ = _
          unfold dg
          rw [if_neg (by omega), if_pos (by omega)]
          congr 1; omega
        · skip
          try simp only [decide_eq_true_eq, decide_eq_false_iff_not, ne_eq, Decidable.not_not, Bool.not_eq_true', Bool.not_eq_false', Bool.and_eq_true, Bool.or_eq_true, Bool.not_not, Bool.and_eq_false_iff, Bool.or_eq_false_iff, Int.not_lt, Int.not_le] at hc17
          refine WE.skip ?_
          refine WE.seq_reg ?_
          refine WL.as rfl rfl ?_
          refine WL.nil ?_
          refine WE.ret ?_
          refine ⟨[_], _, .nil _, ⟨rfl, trivial⟩, ?_⟩
          refine ⟨?_, H.toOut0⟩
          show Value.int .i64 _ = _
          unfold dg
          rw [if_neg (by omega), if_neg (by omega)]
      · skip
        refine WL.known (t := 13) (c := false) rfl hg14 ?_
        try simp only [decide_eq_true_eq, decide_eq_false_iff_not, ne_eq, Decidable.not_not, Bool.not_eq_true', Bool.not_eq_false', Bool.and_eq_true, Bool.or_eq_true, Bool.not_not, Bool.and_eq_false_iff, Bool.or_eq_false_iff, Int.not_lt, Int.not_le] at hg14
        refine WL.off rfl ?_
        refine WL.off rfl ?_
        refine WL.pv (PV.pick_f rfl rfl rfl) rfl ?_
        refine WL.nil ?_
        refine WE.cond_f rfl ?_
        refine WE.skip ?_
        refine WE.seq_reg ?_
        refine WL.as rfl rfl ?_
        refine WL.nil ?_
        refine WE.ret ?_
        refine ⟨[_], _, .nil _, ⟨rfl, trivial⟩, ?_⟩
        refine ⟨?_, H.toOut0⟩
        show Value.int .i64 _ = _
        unfold dg
        rw [if_neg (by omega), if_neg (by omega)]
  · skip
    refine WL.known (t := 4) (c := false) rfl hg5 ?_
    try simp only [decide_eq_true_eq, decide_eq_false_iff_not, ne_eq, Decidable.not_not, Bool.not_eq_true', Bool.not_eq_false', Bool.and_eq_true, Bool.or_eq_true, Bool.not_not, Bool.and_eq_false_iff, Bool.or_eq_false_iff, Int.not_lt, Int.not_le] at hg5
    refine WL.off rfl ?_
    refine WL.off rfl ?_
    refine WL.pv (PV.pick_f rfl rfl rfl) rfl ?_
    refine WL.nil ?_
    refine WE.cond_f rfl ?_
    refine WE.skip ?_
    refine WE.seq ?_
    refine WE.seq_reg ?_
    refine WL.mv rfl rfl ?_
    refine WL.pv (PV.geq rfl rfl rfl) rfl ?_
    refine WL.mv rfl rfl ?_
    refine WL.split (t := 14) rfl (fun hg14 => ?_) (fun hg14 => ?_)
    · skip
      refine WL.known (t := 13) (c := true) rfl hg14 ?_
      try simp only [decide_eq_true_eq, decide_eq_false_iff_not, ne_eq, Decidable.not_not, Bool.not_eq_true', Bool.not_eq_false', Bool.and_eq_true, Bool.or_eq_true, Bool.not_not, Bool.and_eq_false_iff, Bool.or_eq_false_iff, Int.not_lt, Int.not_le] at hg14
      refine WL.mv rfl rfl ?_
      refine WL.pv (PV.leq rfl rfl rfl) rfl ?_
      refine WL.pv (PV.pick_t rfl rfl rfl) rfl ?_
      refine WL.nil ?_
      refine WE.cond rfl (fun hc17 => ?_) (fun hc17 => ?_)
      · skip
        try simp only [decide_eq_true_eq, decide_eq_false_iff_not, ne_eq, Decidable.not_not, Bool.not_eq_true', Bool.not_eq_false', Bool.and_eq_true, Bool.or_eq_true, Bool.not_not, Bool.and_eq_false_iff, Bool.or_eq_false_iff, Int.not_lt, Int.not_le] at hc17
        refine WE.seq_reg ?_
        refine WL.mv rfl rfl ?_
        refine WL.pv (PV.conv64 rfl TryT.in5 TryT.in3 rfl (by omega) (by omega)) rfl ?_
        refine WL.pv (PV.sub64 rfl rfl rfl (by omega) (by omega)) rfl ?_
        refine WL.pv (PV.add64 rfl rfl rfl (by omega) (by omega)) rfl ?_
        refine WL.as rfl rfl ?_
        refine WL.nil ?_
        refine WE.ret ?_
        refine ⟨[_], _, .nil _, ⟨rfl, trivial⟩, ?_⟩
        refine ⟨?_, H.toOut0⟩
        show Value.int .i64 _ = _
        unfold dg
        rw [if_neg (by omega), if_pos (by omega)]
        congr 1; omega
      · skip
        try simp only [decide_eq_true_eq, decide_eq_false_iff_not, ne_eq, Decidable.not_not, Bool.not_eq_true', Bool.not_eq_false', Bool.and_eq_true, Bool.or_eq_true, Bool.not_not, Bool.and_eq_false_iff, Bool.or_eq_false_iff, Int.not_lt, Int.not_le] at hc17
        refine WE.skip ?_
        refine WE.seq_reg ?_
        refine WL.as rfl rfl ?_
        refine WL.nil ?_
        refine WE.ret ?_
        refine ⟨[_], _, .nil _, ⟨rfl, trivial⟩, ?_⟩
        refine ⟨?_, H.toOut0⟩
        show Value.int .i64 _ = _
        unfold dg
        rw [if_neg (by omega), if_neg (by omega)]
    · skip
      refine WL.known (t := 13) (c := false) rfl hg14 ?_
      try simp only [decide_eq_true_eq, decide_eq_false_iff_not, ne_eq, Decidable.not_not, Bool.not_eq_true', Bool.not_eq_false', Bool.and_eq_true, Bool.or_eq_true, Bool.not_not, Bool.and_eq_false_iff, Bool.or_eq_false_iff, Int.not_lt, Int.not_le] at hg14
      refine WL.off rfl ?_
      refine WL.off rfl ?_
      refine WL.pv (PV.pick_f rfl rfl rfl) rfl ?_
      refine WL.nil ?_
      refine WE.cond_f rfl ?_
      refine WE.skip ?_
      refine WE.seq_reg ?_
      refine WL.as rfl rfl ?_
      refine WL.nil ?_
      refine WE.ret ?_
      refine ⟨[_], _, .nil _, ⟨rfl, trivial⟩, ?_⟩
      refine ⟨?_, H.toOut0⟩
      show Value.int .i64 _ = _
      unfold dg
      rw [if_neg (by omega), if_neg (by omega)]

theorem Parse_c {X : Nat → Prop} {w : World} {l : List UInt8} (hX : ∀ b, X b → b < w.heap.size) (hl : l.length ≤ 1000000) :
    Ret Try.prog 13 [strV l].toArray w fun v w' => Out Nil w w' ∧ (okS l → ∃ s, v = .tuple [s, .int .i64 0].toArray ∧ Rob X (SlB s (parL l)) w') ∧ (¬ okS l → v = .tuple [.slice none 0 0, .int .i64 14].toArray) := by
  refine Ret.of_body (N := 40) Try.func13 rfl rfl (by simp) ?_
  have H := St.begin hX
  refine WE.seq_reg ?_
  refine WL.as rfl rfl ?_
  refine WL.as rfl rfl ?_
  refine WL.nil ?_
  refine WE.seq ?_
  refine WE.seq_reg ?_
  refine WL.mv rfl rfl ?_
  refine WL.pv (PV.lenStr Try.underlying9 rfl) rfl ?_
  refine WL.pv (PV.eq (v' := .int .i64 ((l.length % 2 : Nat) : Int)) (PV.rem64 rfl rfl rfl (by omega) (by omega)) (by rfl)) rfl ?_
  refine WL.pv (PV.eql rfl rfl rfl) rfl ?_
  refine WL.nil ?_
  refine WE.cond rfl (fun hc11 => ?_) (fun hc11 => ?_)
  · skip
    try simp only [decide_eq_true_eq, decide_eq_false_iff_not, ne_eq, Decidable.not_not, Bool.not_eq_true', Bool.not_eq_false', Bool.and_eq_true, Bool.or_eq_true, Bool.not_not, Bool.and_eq_false_iff, Bool.or_eq_false_iff, Int.not_lt, Int.not_le] at hc11
    have hodd : l.length % 2 = 1 := by omega
    refine WE.seq_reg ?_
    refine WL.as rfl rfl ?_
    refine WL.as rfl rfl ?_
    refine WL.nil ?_
    refine WE.ret ?_
    refine ⟨[_, _], _, .nil _, ⟨rfl, rfl, trivial⟩, ?_⟩
    exact ⟨H.toOut0, (fun h => absurd h.1 (by omega)), fun _ => rfl⟩
  · skip
    try simp only [decide_eq_true_eq, decide_eq_false_iff_not, ne_eq, Decidable.not_not, Bool.not_eq_true', Bool.not_eq_false', Bool.and_eq_true, Bool.or_eq_true, Bool.not_not, Bool.and_eq_false_iff, Bool.or_eq_false_iff, Int.not_lt, Int.not_le] at hc11
    have heven : l.length % 2 = 0 := by omega
    refine WE.skip ?_
    refine WE.seq_reg ?_
    refine WL.mv rfl rfl ?_
    refine WL.pv (PV.lenStr Try.underlying9 rfl) rfl ?_
    refine WL.pv (PV.eq (v' := .int .i64 ((l.length / 2 : Nat) : Int)) (PV.quo64 rfl rfl rfl (by omega) (by omega) (by omega)) (by rfl)) rfl ?_
    refine WL.makeSlice (n := l.length / 2) H rfl TryT.st22 rfl (by omega) (by omega) rfl ?_
    intro b15 w2 H
    replace H := H.conv (L' := [Ent.blk b15 5 (kc (mkP l 0))]) (by rw [mkP_zero, zrow_one]; simp [kc])
    refine WL.as rfl rfl ?_
    refine WL.nil ?_
    refine WE.seq ?_
    refine WE.seq_reg ?_
    refine WL.mv rfl rfl ?_
    refine WL.rangeStr (l := l) H rfl Try.underlying9 rfl rfl ?_
    intro b17 w5 H
    refine WL.nil ?_
    refine WE.block ?_
    refine WE.loop (α := Nat) [2, 3, 5, 6, 7, 18, 19, 20, 21, 22, 23, 24, 25, 26, 27, 28, 29, 30, 31, 32, 33, 34, 35, 36, 37, 38] (fun i => []) (fun i wl => i ≤ l.length ∧ (∀ j (h : j < l.length), j < i → 0 ≤ dg l[j].toNat) ∧ St X w wl [] [Ent.obj b17 (.stringIter ⟨l.toArray⟩ i), Ent.blk b15 5 (kc (mkP l i))] []) (fun i => l.length - i) 0 trivial ⟨Nat.zero_le _, (fun j _ h => absurd h (Nat.not_lt_zero _)), H⟩ ?_
    intro i γ0 w6 hI
    try dsimp only at hI
    obtain ⟨hi, hdg, H⟩ := hI
    refine WE.seq_reg ?_
    rcases Nat.lt_or_ge i l.length with hlt | hge_
    · skip
      refine WL.nextStr H 0 rfl rfl rfl hlt rfl ?_
      intro w7 H
      refine WL.pv (PV.extract rfl rfl rfl) rfl ?_
      refine WL.nil ?_
      refine WE.seq ?_
      refine WE.cond_t rfl ?_
      refine WE.skip ?_
      refine WE.block ?_
      refine WE.seq_reg ?_
      refine WL.pv (PV.extract rfl rfl rfl) rfl ?_
      refine WL.pv (PV.extract rfl rfl rfl) rfl ?_
      refine WL.as rfl rfl ?_
      refine WL.as rfl rfl ?_
      refine WL.nil ?_
      refine WE.seq_reg ?_
      refine WL.mv rfl rfl ?_
      refine WL.call TryT.fb28 rfl (digit_c (c := rn l i) H.yylt  (decode_le _ _)) ?_
      rintro _ w8 ⟨rfl, hO⟩
      replace H := H.out hO
      refine WL.as rfl rfl ?_
      refine WL.nil ?_
      refine WE.seq ?_
      refine WE.seq_reg ?_
      refine WL.mv rfl rfl ?_
      refine WL.pv (PV.lss rfl rfl rfl) rfl ?_
      refine WL.nil ?_
      refine WE.cond rfl (fun hc25 => ?_) (fun hc25 => ?_)
      · skip
        try simp only [decide_eq_true_eq, decide_eq_false_iff_not, ne_eq, Decidable.not_not, Bool.not_eq_true', Bool.not_eq_false', Bool.and_eq_true, Bool.or_eq_true, Bool.not_not, Bool.and_eq_false_iff, Bool.or_eq_false_iff, Int.not_lt, Int.not_le] at hc25
        have hbad : ¬ 0 ≤ dg (rn l i) := by omega
        refine WE.seq_reg ?_
        refine WL.as rfl rfl ?_
        refine WL.as rfl rfl ?_
        refine WL.nil ?_
        refine WE.ret ?_
        refine ⟨[_, _], _, .nil _, ⟨rfl, rfl, trivial⟩, ?_⟩
        refine ⟨H.toOut0, (fun h => absurd ((dec_dig hlt).1 (h.2 _ (List.getElem_mem hlt))) hbad), fun _ => rfl⟩
      · skip
        try simp only [decide_eq_true_eq, decide_eq_false_iff_not, ne_eq, Decidable.not_not, Bool.not_eq_true', Bool.not_eq_false', Bool.and_eq_true, Bool.or_eq_true, Bool.not_not, Bool.and_eq_false_iff, Bool.or_eq_false_iff, Int.not_lt, Int.not_le] at hc25
        have hgood : 0 ≤ dg (rn l i) := by omega
        have hdd := (dec_dig hlt).2 hgood
        have hrn : rn l i = l[i].toNat := congrArg Prod.fst hdd.1
        have hdn : dg (rn l i) = (dgN l[i] : Int) := by rw [hrn]; exact (dgN_eq hdd.2).symm
        have hms := mkP_set hlt heven
        replace H := H.conv (L' := [Ent.obj b17 (.stringIter ⟨l.toArray⟩ (i + 1)), Ent.blk b15 5 (kc (mkP l i))]) (by rw [hdd.1]; rfl)
        refine WE.skip ?_
        refine WE.reg ?_
        refine WL.mv rfl rfl ?_
        refine WL.mv rfl rfl ?_
        refine WL.pv (PV.eq (v' := .int .i64 ((i / 2 : Nat) : Int)) (PV.quo64 rfl rfl rfl (by omega) (by omega) (by omega)) (by rfl)) rfl ?_
        refine WL.mv rfl rfl ?_
        refine WL.mv rfl rfl ?_
        refine WL.pv (PV.eq (v' := .int .i64 ((i / 2 : Nat) : Int)) (PV.quo64 rfl rfl rfl (by omega) (by omega) (by omega)) (by rfl)) rfl ?_
        refine WL.pv (PV.indexSl rfl TryT.sl22 TryT.sz5 rfl rfl (by omega) (by omega)) rfl ?_
        refine WL.load1 rfl TryT.ag5 rfl rfl ((by have h_ := Blk.segAt (o' := 0 + Int.toNat ((i / 2 : Nat) : Int) * 1) (H.l 1 rfl) (Seg.byte (l := mkP l i) (i / 2) (by rw [mkP_len]; omega)) (by rw [Int.toNat_natCast]; omega); rw [mkP_get (by omega)] at h_; exact h_)) ?_
        refine WL.pv (PV.eq (v' := .int .u8 ((16 * (cellP l i (i / 2)).toNat : Nat) : Int)) (PV.shlw rfl rfl rfl (by omega)) (by (have h_ := cell_lt l i; show Value.int .u8 (IntKind.u8.wrap (((cellP l i (i / 2)).toNat : Int) * 16)) = _; rw [wrap8]; congr 1; omega))) rfl ?_
        refine WL.mv rfl rfl ?_
        refine WL.pv (PV.eq (v' := .int .u8 ((dgN l[i] : Nat) : Int)) (PV.conv rfl TryT.in3 TryT.in5 rfl) (by (have h_ := dgN_lt l[i]; rw [wrap8, hdn]; congr 1; omega))) rfl ?_
        refine WL.pv (PV.eq (v' := .int .u8 ((UInt8.ofNat (16 * (cellP l i (i / 2)).toNat + dgN l[i])).toNat : Int)) (PV.orw rfl rfl rfl) (by have h1_ := cell_lt l i; have h2_ := dgN_lt l[i]; rw [u8_of (by omega), or16 _ h1_ _ h2_])) rfl ?_
        refine WL.pv (PV.indexSl rfl TryT.sl22 TryT.sz5 rfl rfl (by omega) (by omega)) rfl ?_
        refine WL.storeL H 1 rfl rfl rfl (new := _) rfl (by exact TryT.sz5) (by exact one_lit _ rfl) (Laid.at (Laid.byteA (i / 2) (by rw [mkP_len]; omega)) (by rw [Int.toNat_natCast]; omega)) rfl ?_
        intro w9 H
        refine WL.nil ?_
        exact ⟨i + 1, (by repeat (first | with_reducible exact Off.refl _ _ | refine Off.upd rfl ?_ | refine Off.setAll rfl ?_ | refine Off.forget' rfl ?_)), trivial, rfl, ⟨by omega, (fun j hj hji => by rcases Nat.lt_or_ge j i with h_ | h_; exact hdg j hj h_; (have e_ : j = i := by omega); subst e_; exact hdd.2), H.conv (by rw [← hms]; rfl)⟩, (by omega)⟩
    · skip
      refine WL.nextEnd H 0 rfl rfl rfl hge_ rfl ?_
      have hie : i = l.length := by omega
      refine WL.pv (PV.extract rfl rfl rfl) rfl ?_
      refine WL.nil ?_
      refine WE.seq ?_
      refine WE.cond_f rfl ?_
      refine WE.exit ?_
      refine WE.seq_reg ?_
      refine WL.mv rfl rfl ?_
      refine WL.as rfl rfl ?_
      refine WL.as rfl rfl ?_
      refine WL.nil ?_
      refine WE.ret ?_
      refine ⟨[_, _], _, .nil _, ⟨rfl, rfl, trivial⟩, ?_⟩
      have hok : okS l := ⟨heven, fun x hx => by obtain ⟨j, hj, rfl⟩ := List.getElem_of_mem hx; exact hdg j hj (by omega)⟩
      subst hie
      rw [mkP_end] at H
      replace H := H.freeze (i := 1) rfl
      exact ⟨H.toOut0, (fun _ => ⟨_, rfl, H.give ((H.rob 0 rfl).imp fun _ h => SlB.of_blk h (by simp [parL, fullL]))⟩), fun h => absurd hok h⟩

end Go.Sp.Try
