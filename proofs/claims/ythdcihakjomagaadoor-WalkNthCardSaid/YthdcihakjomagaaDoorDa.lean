/- Walks of functions, printed by a program of this session (gen.py) from notes on each function. -/
import Derived.Test.YthdcihakjomagaaDoorG3
set_option maxRecDepth 100000
set_option maxHeartbeats 1000000
set_option linter.unusedVariables false
set_option linter.unusedSimpArgs false
namespace Go.Sp.Tryd
open Go.Proofs Go.RowKit Go.Sp

/-- the first k bits of a byte -/
def cutByte (x : UInt8) (k : Nat) : UInt8 := UInt8.ofNat (x.toNat / 2 ^ (8 - k) * 2 ^ (8 - k))
def keptN (j q : Nat) : Nat := min (j - 8 * q) 8
/-- the first j bits -/
def cutN (l : List UInt8) (j : Nat) : List UInt8 := (List.range 32).map fun q => cutByte (l.getD q 0) (keptN j q)
def clampN (b : Int) : Nat := (min (max b 0) 256).toNat
def cutI (l : List UInt8) (b : Int) : List UInt8 := cutN l (clampN b)
theorem cutN_length (l : List UInt8) (j : Nat) : (cutN l j).length = 32 := by simp [cutN]
theorem cutI_length (l : List UInt8) (b : Int) : (cutI l b).length = 32 := cutN_length _ _
theorem cutN_get (l : List UInt8) (j q : Nat) (h : q < (cutN l j).length) : (cutN l j)[q] = cutByte (l.getD q 0) (keptN j q) := by simp [cutN]
theorem cutN_getD (l : List UInt8) (j q : Nat) (h : q < 32) : (cutN l j).getD q 0 = cutByte (l.getD q 0) (keptN j q) := by
  rw [getD_at (by rw [cutN_length]; exact h), cutN_get]
theorem cutByte_toNat (x : UInt8) (k : Nat) : (cutByte x k).toNat = x.toNat / 2 ^ (8 - k) * 2 ^ (8 - k) := by
  have h := Nat.div_mul_le_self x.toNat (2 ^ (8 - k))
  have := x.toNat_lt
  simp [cutByte]; omega
theorem cutByte_8 (x : UInt8) : cutByte x 8 = x := by simp [cutByte]
theorem cutN_full (l : List UInt8) (hl : l.length = 32) : cutN l 256 = l := by
  apply List.ext_getElem
  · rw [cutN_length, hl]
  · intro i h1 h2
    rw [cutN_get, show keptN 256 i = 8 by unfold keptN; omega, cutByte_8, getD_at h2]
theorem cut_cut9 : ∀ k k' : Fin 9, ∀ x : Fin 256, (x.val / 2 ^ (8 - k.val) * 2 ^ (8 - k.val)) / 2 ^ (8 - k'.val) * 2 ^ (8 - k'.val) = x.val / 2 ^ (8 - min k.val k'.val) * 2 ^ (8 - min k.val k'.val) := by decide +kernel
theorem cutByte_cut (x : UInt8) (k k' : Nat) (hk : k ≤ 8) (hk' : k' ≤ 8) : cutByte (cutByte x k) k' = cutByte x (min k k') := by
  apply UInt8.toNat_inj.1
  rw [cutByte_toNat, cutByte_toNat, cutByte_toNat]
  exact cut_cut9 ⟨k, by omega⟩ ⟨k', by omega⟩ ⟨x.toNat, x.toNat_lt⟩
theorem cutN_cutN (l : List UInt8) (j j' : Nat) : cutN (cutN l j) j' = cutN l (min j j') := by
  apply List.ext_getElem
  · rw [cutN_length, cutN_length]
  · intro i h1 h2
    rw [cutN_length] at h1
    rw [cutN_get, cutN_get, cutN_getD _ _ _ h1, cutByte_cut _ _ _ (by unfold keptN; omega) (by unfold keptN; omega)]
    congr 1
    unfold keptN; omega
theorem cutI_cutI (l : List UInt8) (b b' : Int) : cutI (cutI l b) b' = cutI l (min b b') := by
  unfold cutI
  rw [cutN_cutN]
  congr 1
  unfold clampN; omega
theorem cut_set (l : List UInt8) (j i : Nat) (hi : i < 32) (hl : l.length = 32) : ((List.range 32).map fun q => if q < i then cutByte (l.getD q 0) (keptN j q) else l.getD q 0).set i (cutByte (l.getD i 0) (keptN j i)) = (List.range 32).map fun q => if q < i + 1 then cutByte (l.getD q 0) (keptN j q) else l.getD q 0 := by
  apply List.ext_getElem
  · simp
  · intro q h1 h2
    simp at h2
    rw [List.getElem_set]
    split
    · rename_i h; subst h; simp
    · rename_i h
      simp only [List.getElem_map, List.getElem_range]
      by_cases h3 : q < i
      · rw [if_pos h3, if_pos (by omega)]
      · rw [if_neg h3, if_neg (by omega)]
def cutPart (l : List UInt8) (j i : Nat) : List UInt8 := (List.range 32).map fun q => if q < i then cutByte (l.getD q 0) (keptN j q) else l.getD q 0
theorem cutPart_length (l : List UInt8) (j i : Nat) : (cutPart l j i).length = 32 := by simp [cutPart]
theorem cutPart_zero (l : List UInt8) (j : Nat) (hl : l.length = 32) : cutPart l j 0 = l := by
  apply List.ext_getElem
  · rw [cutPart_length, hl]
  · intro q h1 h2; simp [cutPart, h2]
theorem cutPart_all (l : List UInt8) (j : Nat) : cutPart l j 32 = cutN l j := by
  unfold cutPart cutN
  apply List.map_congr_left
  intro q hq
  rw [if_pos (by simpa using hq)]
theorem cutPart_get (l : List UInt8) (j i : Nat) (hi : i < (cutPart l j i).length) : (cutPart l j i)[i] = l.getD i 0 := by simp [cutPart]
theorem and_mask9 : ∀ k : Fin 9, ∀ x : Fin 256, IntKind.u8.wrap ((BitVec.ofInt IntKind.u8.bits (x.val : Int) &&& BitVec.ofInt IntKind.u8.bits (IntKind.u8.wrap (255 * 2 ^ (min ((8 : Int) - (k.val : Int)).toNat IntKind.u8.bits)))).toNat) = ((x.val / 2 ^ (8 - k.val) * 2 ^ (8 - k.val) : Nat) : Int) := by decide +kernel
theorem and_mask (x : UInt8) (k : Nat) (hk : k ≤ 8) (z : Int) (hz : z = 8 - (k : Int)) : IntKind.u8.wrap ((BitVec.ofInt IntKind.u8.bits (x.toNat : Int) &&& BitVec.ofInt IntKind.u8.bits (IntKind.u8.wrap (255 * 2 ^ (min z.toNat IntKind.u8.bits)))).toNat) = ((cutByte x k).toNat : Int) := by
  subst hz
  rw [cutByte_toNat]
  exact and_mask9 ⟨k, by omega⟩ ⟨x.toNat, x.toNat_lt⟩
/-! the bits of a key -/
def bitN (l : List UInt8) (i : Nat) : Nat := (l.getD (i / 8) 0).toNat / 2 ^ (7 - i % 8) % 2
def bitI (l : List UInt8) (i : Int) : Int := if i < 0 ∨ 255 < i then -1 else (bitN l i.toNat : Int)
theorem halfN (b t : Nat) : ((b / 2 ^ t : Nat) : Int) / 2 = ((b / 2 ^ (t + 1) : Nat) : Int) := by
  rw [Nat.pow_succ, ← Nat.div_div_eq_div_mul]; omega
def flipN (l : List UInt8) (i : Nat) : List UInt8 := l.set (i / 8) (if bitN l i = 0 then UInt8.ofNat ((l.getD (i / 8) 0).toNat + 2 ^ (7 - i % 8)) else UInt8.ofNat ((l.getD (i / 8) 0).toNat - 2 ^ (7 - i % 8)))
theorem bitN_lt (l : List UInt8) (i : Nat) : bitN l i < 2 := Nat.mod_lt _ (by decide)
theorem cut_bit8 : ∀ r : Fin 8, ∀ x : Fin 256, (x.val / 2 ^ (7 - r.val) * 2 ^ (7 - r.val)) / 2 ^ (7 - r.val) % 2 = 1 → 2 ^ (7 - r.val) ≤ x.val / 2 ^ (7 - r.val) * 2 ^ (7 - r.val) ∧ x.val / 2 ^ (7 - r.val) * 2 ^ (7 - r.val) - 2 ^ (7 - r.val) = x.val / 2 ^ (8 - r.val) * 2 ^ (8 - r.val) := by decide +kernel
theorem cut_bit8' : ∀ r : Fin 8, ∀ x : Fin 256, (x.val / 2 ^ (7 - r.val) * 2 ^ (7 - r.val)) / 2 ^ (7 - r.val) % 2 = 0 → x.val / 2 ^ (7 - r.val) * 2 ^ (7 - r.val) = x.val / 2 ^ (8 - r.val) * 2 ^ (8 - r.val) := by decide +kernel
theorem bitN_cut (l : List UInt8) (j : Nat) (hj : j < 256) : bitN (cutN l (j + 1)) j = ((l.getD (j / 8) 0).toNat / 2 ^ (7 - j % 8) * 2 ^ (7 - j % 8)) / 2 ^ (7 - j % 8) % 2 := by
  unfold bitN
  rw [cutN_getD _ _ _ (by omega), cutByte_toNat, show 8 - keptN (j + 1) (j / 8) = 7 - j % 8 by unfold keptN; omega]
theorem cut_other (l : List UInt8) (j q : Nat) (hq : q ≠ j / 8) : keptN (j + 1) q = keptN j q := by unfold keptN; omega
theorem cut_step0 (l : List UInt8) (j : Nat) (hj : j < 256) (h : bitN (cutN l (j + 1)) j ≠ 1) : cutN l (j + 1) = cutN l j := by
  have h0 : bitN (cutN l (j + 1)) j = 0 := by have := bitN_lt (cutN l (j + 1)) j; omega
  rw [bitN_cut _ _ hj] at h0
  have h1 := cut_bit8' ⟨j % 8, by omega⟩ ⟨(l.getD (j / 8) 0).toNat, UInt8.toNat_lt _⟩ h0
  apply List.ext_getElem
  · rw [cutN_length, cutN_length]
  · intro q h2 h3
    rw [cutN_get, cutN_get]
    by_cases hq : q = j / 8
    · subst hq
      apply UInt8.toNat_inj.1
      rw [cutByte_toNat, cutByte_toNat, show 8 - keptN (j + 1) (j / 8) = 7 - j % 8 by unfold keptN; omega, show 8 - keptN j (j / 8) = 8 - j % 8 by unfold keptN; omega]
      exact h1
    · rw [cut_other l j q hq]
theorem cut_step1 (l : List UInt8) (j : Nat) (hj : j < 256) (h : bitN (cutN l (j + 1)) j = 1) : flipN (cutN l (j + 1)) j = cutN l j := by
  have h0 := h
  rw [bitN_cut _ _ hj] at h0
  have hh := cut_bit8 ⟨j % 8, by omega⟩ ⟨(l.getD (j / 8) 0).toNat, UInt8.toNat_lt _⟩ h0
  dsimp only at hh
  obtain ⟨h1a, h1⟩ := hh
  unfold flipN
  rw [if_neg (by omega)]
  apply List.ext_getElem
  · simp [cutN_length]
  · intro q h2 h3
    rw [cutN_length] at h3
    rw [List.getElem_set]
    split
    · rename_i hq
      subst hq
      rw [cutN_get]
      apply UInt8.toNat_inj.1
      rw [cutByte_toNat, show 8 - keptN j (j / 8) = 8 - j % 8 by unfold keptN; omega, cutN_getD _ _ _ (by omega)]
      have e : (cutByte (l.getD (j / 8) 0) (keptN (j + 1) (j / 8))).toNat = (l.getD (j / 8) 0).toNat / 2 ^ (7 - j % 8) * 2 ^ (7 - j % 8) := by
        rw [cutByte_toNat, show 8 - keptN (j + 1) (j / 8) = 7 - j % 8 by unfold keptN; omega]
      rw [e]
      rw [h1]
      have h4 := Nat.div_mul_le_self (l.getD (j / 8) 0).toNat (2 ^ (8 - j % 8))
      have h5 := (l.getD (j / 8) 0).toNat_lt
      simp only [UInt8.toNat_ofNat']
      exact Nat.mod_eq_of_lt (Nat.lt_of_le_of_lt h4 h5)
    · rename_i hq
      rw [cutN_get, cutN_get, cut_other l j q (fun h => hq h.symm)]
theorem Blk.bytD {w : World} {b o : Nat} {t : TypeId} {l : List UInt8} (h : Blk w b t (kc l)) (i : Nat) (hi : i < l.length) (ho : o = i) : RdA w ⟨b, o, none⟩ [.int .u8 ((l.getD i 0).toNat : Int)] := by
  have h1 := Blk.segAt h (Seg.byte i hi) ho
  rwa [← getD_at (d := 0)] at h1
def HAt (bh bc : Nat) (bits : Int) (w : World) : Prop := RdA w ⟨bh, 0, none⟩ [.pointer (some ⟨bc, 0, none⟩), .int .i64 bits]

theorem refBit_c {X : Nat → Prop} {w : World} {l : List UInt8} {i : Int} (hX : ∀ b, X b → b < w.heap.size) (hl : l.length = 32) (hi : -9223372036854775808 ≤ i ∧ i ≤ 9223372036854775807) :
    Ret Tryd.prog 77 [.agg (kc l).toArray, .int .i64 i].toArray w fun v w' => v = .int .i64 (bitI l i) ∧ Out Nil w w' := by
  refine Ret.of_body (N := 28) Tryd.func77 rfl rfl (by simp) ?_
  have H := St.begin hX
  refine WE.seq_reg ?_
  refine WL.box (l := kc l) H rfl (by rfl) rfl ?_
  intro b2 w1 H
  refine WL.as rfl rfl ?_
  refine WL.nil ?_
  refine WE.seq ?_
  refine WE.seq_reg ?_
  refine WL.mv rfl rfl ?_
  refine WL.pv (PV.lss rfl rfl rfl) rfl ?_
  refine WL.mv rfl rfl ?_
  refine WL.split (t := 9) rfl (fun hg9 => ?_) (fun hg9 => ?_)
  · skip
    refine WL.known (t := 8) (c := true) rfl hg9 ?_
    try simp only [decide_eq_true_eq, decide_eq_false_iff_not, ne_eq, Decidable.not_not, Bool.not_eq_true', Bool.not_eq_false', Bool.and_eq_true, Bool.or_eq_true, Bool.not_not, Bool.and_eq_false_iff, Bool.or_eq_false_iff, Int.not_lt, Int.not_le] at hg9
    refine WL.off rfl ?_
    refine WL.off rfl ?_
    refine WL.pv (PV.pick_t rfl rfl rfl) rfl ?_
    refine WL.nil ?_
    refine WE.cond_t rfl ?_
    refine WE.seq_reg ?_
    refine WL.as rfl rfl ?_
    refine WL.nil ?_
    refine WE.ret ?_
    refine ⟨[_], _, .nil _, ⟨rfl, trivial⟩, ?_⟩
    refine ⟨?_, H.toOut0⟩
    rw [bitI, if_pos (by omega)]; rfl
  · skip
    refine WL.known (t := 8) (c := false) rfl hg9 ?_
    try simp only [decide_eq_true_eq, decide_eq_false_iff_not, ne_eq, Decidable.not_not, Bool.not_eq_true', Bool.not_eq_false', Bool.and_eq_true, Bool.or_eq_true, Bool.not_not, Bool.and_eq_false_iff, Bool.or_eq_false_iff, Int.not_lt, Int.not_le] at hg9
    refine WL.mv rfl rfl ?_
    refine WL.pv (PV.gtr rfl rfl rfl) rfl ?_
    refine WL.pv (PV.pick_f rfl rfl rfl) rfl ?_
    refine WL.nil ?_
    refine WE.cond rfl (fun hc12 => ?_) (fun hc12 => ?_)
    · skip
      try simp only [decide_eq_true_eq, decide_eq_false_iff_not, ne_eq, Decidable.not_not, Bool.not_eq_true', Bool.not_eq_false', Bool.and_eq_true, Bool.or_eq_true, Bool.not_not, Bool.and_eq_false_iff, Bool.or_eq_false_iff, Int.not_lt, Int.not_le] at hc12
      refine WE.seq_reg ?_
      refine WL.as rfl rfl ?_
      refine WL.nil ?_
      refine WE.ret ?_
      refine ⟨[_], _, .nil _, ⟨rfl, trivial⟩, ?_⟩
      refine ⟨?_, H.toOut0⟩
      rw [bitI, if_pos (by omega)]; rfl
    · skip
      try simp only [decide_eq_true_eq, decide_eq_false_iff_not, ne_eq, Decidable.not_not, Bool.not_eq_true', Bool.not_eq_false', Bool.and_eq_true, Bool.or_eq_true, Bool.not_not, Bool.and_eq_false_iff, Bool.or_eq_false_iff, Int.not_lt, Int.not_le] at hc12
      obtain ⟨n, rfl⟩ : ∃ n : Nat, i = (n : Int) := ⟨i.toNat, by omega⟩
      have hn : n < 256 := by omega
      have hx := (l.getD (n / 8) 0).toNat_lt
      refine WE.skip ?_
      refine WE.seq_reg ?_
      refine WL.mv rfl rfl ?_
      refine WL.pv (PV.quo64 rfl rfl rfl (by omega) (by omega) (by omega)) rfl ?_
      refine WL.pv (PV.indexArr rfl TrydT.ar31 TrydT.sz5 rfl rfl (by omega) (by omega)) rfl ?_
      refine WL.load1 rfl TrydT.ag5 rfl rfl (Blk.bytD (H.l 0 rfl) (n / 8) (by omega) (by omega)) ?_
      refine WL.pv (PV.conv64 rfl TrydT.in5 TrydT.in3 rfl (by omega) (by omega)) rfl ?_
      refine WL.as rfl rfl ?_
      refine WL.nil ?_
      refine WE.seq ?_
      refine WE.seq_reg ?_
      refine WL.mv rfl rfl ?_
      refine WL.pv (PV.rem64 rfl rfl rfl (by omega) (by omega)) rfl ?_
      refine WL.as rfl rfl ?_
      refine WL.nil ?_
      refine WE.block ?_
      refine WE.loop (α := Nat) [5, 6, 20, 21, 22, 23, 24, 25] (fun j => [(6, .int .i64 j), (5, .int .i64 (((l.getD (n / 8) 0).toNat / 2 ^ (j - n % 8) : Nat) : Int))]) (fun j wl => n % 8 ≤ j ∧ j ≤ 7 ∧ St X w wl [] [Ent.blk b2 31 (kc l)] []) (fun j => 7 - j) (n % 8) ⟨rfl, by show Value.int .i64 _ = _; rw [Nat.sub_self, Nat.pow_zero, Nat.div_one], trivial⟩ ⟨Nat.le_refl _, by omega, H⟩ ?_
      intro j γ0 w2 hI
      try dsimp only at hI
      obtain ⟨hj0, hj7, H⟩ := hI
      refine WE.seq ?_
      refine WE.seq_reg ?_
      refine WL.mv rfl rfl ?_
      refine WL.pv (PV.lss rfl rfl rfl) rfl ?_
      refine WL.nil ?_
      refine WE.cond rfl (fun hc21 => ?_) (fun hc21 => ?_)
      · skip
        try simp only [decide_eq_true_eq, decide_eq_false_iff_not, ne_eq, Decidable.not_not, Bool.not_eq_true', Bool.not_eq_false', Bool.and_eq_true, Bool.or_eq_true, Bool.not_not, Bool.and_eq_false_iff, Bool.or_eq_false_iff, Int.not_lt, Int.not_le] at hc21
        have hlt : j < 7 := by omega
        refine WE.skip ?_
        refine WE.seq ?_
        refine WE.block ?_
        refine WE.reg ?_
        refine WL.mv rfl rfl ?_
        refine WL.pv (PV.eq (v' := .int .i64 (((l.getD (n / 8) 0).toNat / 2 ^ (j + 1 - n % 8) : Nat) : Int)) (PV.quo64 rfl rfl rfl (by generalize (l.getD (n / 8) 0).toNat / 2 ^ (j - n % 8) = Q; omega) (by have h2 := Nat.div_le_self (l.getD (n / 8) 0).toNat (2 ^ (j - n % 8)); generalize (l.getD (n / 8) 0).toNat / 2 ^ (j - n % 8) = Q at *; omega) (by omega)) (by rw [halfN, show j + 1 - n % 8 = (j - n % 8) + 1 by omega])) rfl ?_
        refine WL.as rfl rfl ?_
        refine WL.nil ?_
        refine WE.reg ?_
        refine WL.mv rfl rfl ?_
        refine WL.pv (PV.add64 rfl rfl rfl (by omega) (by omega)) rfl ?_
        refine WL.as rfl rfl ?_
        refine WL.nil ?_
        exact ⟨j + 1, (by repeat (first | with_reducible exact Off.refl _ _ | refine Off.upd rfl ?_ | refine Off.setAll rfl ?_ | refine Off.forget' rfl ?_)), ⟨rfl, rfl, trivial⟩, rfl, ⟨by omega, by omega, H⟩, (by omega)⟩
      · skip
        try simp only [decide_eq_true_eq, decide_eq_false_iff_not, ne_eq, Decidable.not_not, Bool.not_eq_true', Bool.not_eq_false', Bool.and_eq_true, Bool.or_eq_true, Bool.not_not, Bool.and_eq_false_iff, Bool.or_eq_false_iff, Int.not_lt, Int.not_le] at hc21
        obtain rfl : j = 7 := by omega
        refine WE.exit ?_
        refine WE.seq_reg ?_
        refine WL.mv rfl rfl ?_
        refine WL.pv (PV.remw rfl rfl rfl (by omega)) rfl ?_
        refine WL.as rfl rfl ?_
        refine WL.nil ?_
        refine WE.ret ?_
        refine ⟨[_], _, .nil _, ⟨rfl, trivial⟩, ?_⟩
        refine ⟨?_, H.toOut0⟩
        rw [bitI, if_neg (by omega)]
        show Value.int .i64 _ = _
        rw [Int.toNat_natCast]; rfl

theorem value_c {X : Nat → Prop} {w : World} {n : Nat} (hX : ∀ b, X b → b < w.heap.size) (hn : n < 256) :
    Ret Tryd.prog 114 [.int .i64 (n : Int)].toArray w fun v w' => v = .int .i64 ((2 ^ (7 - n % 8) : Nat) : Int) ∧ Out Nil w w' := by
  refine Ret.of_body (N := 14) Tryd.func114 rfl rfl (by simp) ?_
  have H := St.begin hX
  refine WE.seq_reg ?_
  refine WL.as rfl rfl ?_
  refine WL.nil ?_
  refine WE.seq_reg ?_
  refine WL.as rfl rfl ?_
  refine WL.nil ?_
  refine WE.seq ?_
  refine WE.seq_reg ?_
  refine WL.mv rfl rfl ?_
  refine WL.pv (PV.rem64 rfl rfl rfl (by omega) (by omega)) rfl ?_
  refine WL.as rfl rfl ?_
  refine WL.nil ?_
  refine WE.block ?_
  refine WE.loop (α := Nat) [3, 4, 7, 8, 9, 10, 11, 12] (fun j => [(4, .int .i64 j), (3, .int .i64 ((2 ^ (j - n % 8) : Nat) : Int))]) (fun j wl => n % 8 ≤ j ∧ j ≤ 7 ∧ St X w wl [] [] []) (fun j => 7 - j) (n % 8) ⟨rfl, by show Value.int .i64 _ = _; rw [Nat.sub_self]; rfl, trivial⟩ ⟨Nat.le_refl _, by omega, H⟩ ?_
  intro j γ0 w1 hI
  try dsimp only at hI
  obtain ⟨hj0, hj7, H⟩ := hI
  refine WE.seq ?_
  refine WE.seq_reg ?_
  refine WL.mv rfl rfl ?_
  refine WL.pv (PV.lss rfl rfl rfl) rfl ?_
  refine WL.nil ?_
  refine WE.cond rfl (fun hc8 => ?_) (fun hc8 => ?_)
  · skip
    try simp only [decide_eq_true_eq, decide_eq_false_iff_not, ne_eq, Decidable.not_not, Bool.not_eq_true', Bool.not_eq_false', Bool.and_eq_true, Bool.or_eq_true, Bool.not_not, Bool.and_eq_false_iff, Bool.or_eq_false_iff, Int.not_lt, Int.not_le] at hc8
    have hlt : j < 7 := by omega
    refine WE.skip ?_
    refine WE.seq ?_
    refine WE.block ?_
    refine WE.reg ?_
    refine WL.mv rfl rfl ?_
    refine WL.pv (PV.eq (v' := .int .i64 ((2 ^ (j + 1 - n % 8) : Nat) : Int)) (PV.mul64 rfl rfl rfl (by generalize 2 ^ (j - n % 8) = P; omega) (by have h1 : 2 ^ (j - n % 8) ≤ 2 ^ 7 := Nat.pow_le_pow_right (by decide) (by omega); generalize 2 ^ (j - n % 8) = P at *; omega)) (by rw [show j + 1 - n % 8 = (j - n % 8) + 1 by omega, Nat.pow_succ]; push_cast; rfl)) rfl ?_
    refine WL.as rfl rfl ?_
    refine WL.nil ?_
    refine WE.reg ?_
    refine WL.mv rfl rfl ?_
    refine WL.pv (PV.add64 rfl rfl rfl (by omega) (by omega)) rfl ?_
    refine WL.as rfl rfl ?_
    refine WL.nil ?_
    exact ⟨j + 1, (by repeat (first | with_reducible exact Off.refl _ _ | refine Off.upd rfl ?_ | refine Off.setAll rfl ?_ | refine Off.forget' rfl ?_)), ⟨rfl, rfl, trivial⟩, rfl, ⟨by omega, by omega, H⟩, (by omega)⟩
  · skip
    try simp only [decide_eq_true_eq, decide_eq_false_iff_not, ne_eq, Decidable.not_not, Bool.not_eq_true', Bool.not_eq_false', Bool.and_eq_true, Bool.or_eq_true, Bool.not_not, Bool.and_eq_false_iff, Bool.or_eq_false_iff, Int.not_lt, Int.not_le] at hc8
    obtain rfl : j = 7 := by omega
    refine WE.exit ?_
    refine WE.seq_reg ?_
    refine WL.mv rfl rfl ?_
    refine WL.as rfl rfl ?_
    refine WL.nil ?_
    refine WE.ret ?_
    refine ⟨[_], _, .nil _, ⟨rfl, trivial⟩, ?_⟩
    exact ⟨rfl, H.toOut0⟩

theorem Flip_c {X : Nat → Prop} {w : World} {l : List UInt8} {n : Nat} (hX : ∀ b, X b → b < w.heap.size) (hl : l.length = 32) (hn : n < 256) :
    Ret Tryd.prog 111 [.agg (kc l).toArray, .int .i64 (n : Int)].toArray w fun v w' => v = .agg (kc (flipN l n)).toArray ∧ Out Nil w w' := by
  refine Ret.of_body (N := 37) Tryd.func111 rfl rfl (by simp) ?_
  have H := St.begin hX
  have hb := bitN_lt l n
  have hB : bitI l n = (bitN l n : Int) := by rw [bitI, if_neg (by omega), Int.toNat_natCast]
  have hx := (l.getD (n / 8) 0).toNat_lt
  have hp : 2 ^ (7 - n % 8) ≤ 128 := Nat.le_trans (Nat.pow_le_pow_right (by decide) (show 7 - n % 8 ≤ 7 by omega)) (by decide)
  have hfl : (flipN l n).length = 32 := by simp [flipN, hl]
  refine WE.seq_reg ?_
  refine WL.box (l := kc l) H rfl (by rfl) rfl ?_
  intro b2 w1 H
  refine WL.alloc H rfl TrydT.ze31 rfl ?_
  intro b4 w2 H
  refine WL.nil ?_
  refine WE.seq ?_
  refine WE.seq_reg ?_
  refine WL.loadR rfl TrydT.ag31 rfl rfl (by exact Blk.segAt (H.l 1 rfl) (Seg.all _) (by rfl)) (by (rw [TrydT.sz31]; refine congrArg some ?_; (simp only [kc_length, kw_length, List.length_replicate, List.length_append, List.length_cons, List.length_nil, cutI_length, cutN_length, cutPart_length, shaOf_length]; omega))) ?_
  refine WL.mv rfl rfl ?_
  refine WL.call TrydT.fb77 rfl (refBit_c (l := l) (i := (n : Int)) H.yylt hl (by omega)) ?_
  rintro _ w3 ⟨rfl, hO⟩
  replace H := H.out hO
  refine WL.nil ?_
  refine WE.block ?_
  refine WE.seq_reg ?_
  refine WL.pv (PV.eql rfl rfl rfl) rfl ?_
  refine WL.as rfl rfl ?_
  refine WL.nil ?_
  refine WE.cond rfl (fun hc8 => ?_) (fun hc8 => ?_)
  · skip
    try simp only [decide_eq_true_eq, decide_eq_false_iff_not, ne_eq, Decidable.not_not, Bool.not_eq_true', Bool.not_eq_false', Bool.and_eq_true, Bool.or_eq_true, Bool.not_not, Bool.and_eq_false_iff, Bool.or_eq_false_iff, Int.not_lt, Int.not_le] at hc8
    have h0 : bitN l n = 0 := by omega
    refine WE.draw (.take 0 (.take 1 (.take 2 (.take 3 (.take 4 (.take 5 (.take 6 (.take 7 (.pick1 8 (.take 9 (.take 10 (.take 11 (.pick1 12 .done))))))))))))) TrydT.mixed (by kernel_rfl) ?_
    replace H := H.out (Out.drew _)
    refine WP.mv rfl rfl rfl ?_
    refine WP.take_pure rfl rfl (PV.quo64 rfl rfl rfl (by omega) (by omega) (by omega)) ?_
    refine WP.mv rfl rfl rfl ?_
    refine WP.take_pure rfl rfl (PV.quo64 rfl rfl rfl (by omega) (by omega) (by omega)) ?_
    refine WP.take_pure rfl rfl (PV.indexArr rfl TrydT.ar31 TrydT.sz5 rfl rfl (by omega) (by omega)) ?_
    refine WP.take_read rfl rfl (RV.loadOne rfl TrydT.ag5 rfl) (Blk.bytD (H.l 1 rfl) (n / 8) (by omega) (by omega)) ?_
    refine WP.take_pure rfl rfl (PV.conv64 rfl TrydT.in5 TrydT.in3 rfl (by omega) (by omega)) ?_
    refine WP.mv rfl rfl rfl ?_
    refine WP.pick1 rfl ?_
    refine WL.call TrydT.fb114 rfl (value_c (n := n) H.yylt hn) ?_
    rintro _ w4 ⟨rfl, hO⟩
    replace H := H.out hO
    refine WL.nil ⟨(List.forall_mem_cons.2 ⟨(fun _ _ => (Blk.bytD (H.l 1 rfl) (n / 8) (by omega) (by omega))), (fun _ h => by cases h)⟩), ?_⟩
    refine WP.take_pure rfl rfl (PV.eq (v' := .int .i64 (((l.getD (n / 8) 0).toNat + 2 ^ (7 - n % 8) : Nat) : Int)) (PV.add64 rfl rfl rfl (by generalize 2 ^ (7 - n % 8) = P at *; omega) (by generalize 2 ^ (7 - n % 8) = P at *; omega)) (by rfl)) ?_
    refine WP.take_pure rfl rfl (PV.cN_8 (n := (l.getD (n / 8) 0).toNat + 2 ^ (7 - n % 8)) rfl TrydT.in3 TrydT.in5 rfl) ?_
    refine WP.take_pure rfl rfl (PV.indexArr rfl TrydT.ar31 TrydT.sz5 rfl rfl (by omega) (by omega)) ?_
    refine WP.pick1 rfl ?_
    refine WL.storeL H 1 rfl rfl rfl (new := _) rfl (by exact TrydT.sz5) (by exact one_lit _ rfl) (Laid.at (Laid.byteA (n / 8) (by omega)) (by omega)) rfl ?_
    intro w5 H
    replace H := H.conv (L' := [Ent.blk b4 31 (kc (List.replicate 32 0)), Ent.blk b2 31 (kc (flipN l n))]) (by rw [flipN, if_pos h0]; rfl)
    refine WL.nil ⟨(List.forall_mem_cons.2 ⟨(by exact (fun h => absurd (show waits _ 12 5 = false from h) (by decide +kernel))), (fun _ h => by cases h)⟩), ?_⟩
    refine WP.done ?_
    refine WE.seq_reg ?_
    refine WL.loadR rfl TrydT.ag31 rfl rfl (by exact Blk.segAt (H.l 1 rfl) (Seg.all _) (by rfl)) (by (rw [TrydT.sz31]; refine congrArg some ?_; (simp only [kc_length, kw_length, List.length_replicate, List.length_append, List.length_cons, List.length_nil, cutI_length, cutN_length, cutPart_length, shaOf_length]; omega))) ?_
    refine WL.storeL H 0 rfl rfl rfl (new := _) rfl (by (rw [TrydT.sz31]; refine congrArg some ?_; (simp only [kc_length, kw_length, List.length_replicate, List.length_append, List.length_cons, List.length_nil, cutI_length, cutN_length, cutPart_length, shaOf_length]; omega))) (by exact kc_one _) (Laid.at (Laid.all (by (simp only [kc_length, kw_length, List.length_replicate, List.length_append, List.length_cons, List.length_nil, cutI_length, cutN_length, cutPart_length, shaOf_length]; omega))) (by rfl)) rfl ?_
    intro w6 H
    refine WL.nil ?_
    refine WE.ret ?_
    refine ⟨[_], _, .nil _, ⟨⟨_, rfl, run_loadVar_aggR TrydT.ag31 (by exact Blk.segAt (H.l 0 rfl) (Seg.all _) rfl) (by (rw [TrydT.sz31]; refine congrArg some ?_; (simp only [kc_length, kw_length, List.length_replicate, List.length_append, List.length_cons, List.length_nil, cutI_length, cutN_length, cutPart_length, shaOf_length]; omega)))⟩, trivial⟩, ?_⟩
    exact ⟨rfl, H.toOut0⟩
  · skip
    try simp only [decide_eq_true_eq, decide_eq_false_iff_not, ne_eq, Decidable.not_not, Bool.not_eq_true', Bool.not_eq_false', Bool.and_eq_true, Bool.or_eq_true, Bool.not_not, Bool.and_eq_false_iff, Bool.or_eq_false_iff, Int.not_lt, Int.not_le] at hc8
    have h1 : bitN l n = 1 := by omega
    have hge : 2 ^ (7 - n % 8) ≤ (l.getD (n / 8) 0).toNat := by unfold bitN at h1; rcases Nat.lt_or_ge (l.getD (n / 8) 0).toNat (2 ^ (7 - n % 8)) with h | h; rw [Nat.div_eq_of_lt h] at h1; omega; exact h
    refine WE.seq_reg ?_
    refine WL.pv (PV.eql rfl rfl rfl) rfl ?_
    refine WL.as rfl rfl ?_
    refine WL.nil ?_
    refine WE.cond_t' rfl (decide_eq_true (by omega)) ?_
    refine WE.draw (.take 0 (.take 1 (.take 2 (.take 3 (.take 4 (.take 5 (.take 6 (.take 7 (.pick1 8 (.take 9 (.take 10 (.take 11 (.pick1 12 .done))))))))))))) TrydT.mixed (by kernel_rfl) ?_
    replace H := H.out (Out.drew _)
    refine WP.mv rfl rfl rfl ?_
    refine WP.take_pure rfl rfl (PV.quo64 rfl rfl rfl (by omega) (by omega) (by omega)) ?_
    refine WP.mv rfl rfl rfl ?_
    refine WP.take_pure rfl rfl (PV.quo64 rfl rfl rfl (by omega) (by omega) (by omega)) ?_
    refine WP.take_pure rfl rfl (PV.indexArr rfl TrydT.ar31 TrydT.sz5 rfl rfl (by omega) (by omega)) ?_
    refine WP.take_read rfl rfl (RV.loadOne rfl TrydT.ag5 rfl) (Blk.bytD (H.l 1 rfl) (n / 8) (by omega) (by omega)) ?_
    refine WP.take_pure rfl rfl (PV.conv64 rfl TrydT.in5 TrydT.in3 rfl (by omega) (by omega)) ?_
    refine WP.mv rfl rfl rfl ?_
    refine WP.pick1 rfl ?_
    refine WL.call TrydT.fb114 rfl (value_c (n := n) H.yylt hn) ?_
    rintro _ w7 ⟨rfl, hO⟩
    replace H := H.out hO
    refine WL.nil ⟨(List.forall_mem_cons.2 ⟨(fun _ _ => (Blk.bytD (H.l 1 rfl) (n / 8) (by omega) (by omega))), (fun _ h => by cases h)⟩), ?_⟩
    refine WP.take_pure rfl rfl (PV.eq (v' := .int .i64 (((l.getD (n / 8) 0).toNat - 2 ^ (7 - n % 8) : Nat) : Int)) (PV.sub64 rfl rfl rfl (by generalize 2 ^ (7 - n % 8) = P at *; omega) (by generalize 2 ^ (7 - n % 8) = P at *; omega)) (by (congr 1; omega))) ?_
    refine WP.take_pure rfl rfl (PV.cN_8 (n := (l.getD (n / 8) 0).toNat - 2 ^ (7 - n % 8)) rfl TrydT.in3 TrydT.in5 rfl) ?_
    refine WP.take_pure rfl rfl (PV.indexArr rfl TrydT.ar31 TrydT.sz5 rfl rfl (by omega) (by omega)) ?_
    refine WP.pick1 rfl ?_
    refine WL.storeL H 1 rfl rfl rfl (new := _) rfl (by exact TrydT.sz5) (by exact one_lit _ rfl) (Laid.at (Laid.byteA (n / 8) (by omega)) (by omega)) rfl ?_
    intro w8 H
    replace H := H.conv (L' := [Ent.blk b4 31 (kc (List.replicate 32 0)), Ent.blk b2 31 (kc (flipN l n))]) (by rw [flipN, if_neg (by omega)]; rfl)
    refine WL.nil ⟨(List.forall_mem_cons.2 ⟨(by exact (fun h => absurd (show waits _ 12 5 = false from h) (by decide +kernel))), (fun _ h => by cases h)⟩), ?_⟩
    refine WP.done ?_
    refine WE.seq_reg ?_
    refine WL.loadR rfl TrydT.ag31 rfl rfl (by exact Blk.segAt (H.l 1 rfl) (Seg.all _) (by rfl)) (by (rw [TrydT.sz31]; refine congrArg some ?_; (simp only [kc_length, kw_length, List.length_replicate, List.length_append, List.length_cons, List.length_nil, cutI_length, cutN_length, cutPart_length, shaOf_length]; omega))) ?_
    refine WL.storeL H 0 rfl rfl rfl (new := _) rfl (by (rw [TrydT.sz31]; refine congrArg some ?_; (simp only [kc_length, kw_length, List.length_replicate, List.length_append, List.length_cons, List.length_nil, cutI_length, cutN_length, cutPart_length, shaOf_length]; omega))) (by exact kc_one _) (Laid.at (Laid.all (by (simp only [kc_length, kw_length, List.length_replicate, List.length_append, List.length_cons, List.length_nil, cutI_length, cutN_length, cutPart_length, shaOf_length]; omega))) (by rfl)) rfl ?_
    intro w9 H
    refine WL.nil ?_
    refine WE.ret ?_
    refine ⟨[_], _, .nil _, ⟨⟨_, rfl, run_loadVar_aggR TrydT.ag31 (by exact Blk.segAt (H.l 0 rfl) (Seg.all _) rfl) (by (rw [TrydT.sz31]; refine congrArg some ?_; (simp only [kc_length, kw_length, List.length_replicate, List.length_append, List.length_cons, List.length_nil, cutI_length, cutN_length, cutPart_length, shaOf_length]; omega)))⟩, trivial⟩, ?_⟩
    exact ⟨rfl, H.toOut0⟩

theorem Prefix_c {X : Nat → Prop} {w : World} {l : List UInt8} {i : Int} (hX : ∀ b, X b → b < w.heap.size) (hl : l.length = 32) (hi : -9223372036854775808 ≤ i ∧ i ≤ 9223372036854775807) :
    Ret Tryd.prog 100 [.agg (kc l).toArray, .int .i64 i].toArray w fun v w' => v = .agg (kc (cutI l i)).toArray ∧ Out Nil w w' := by
  refine Ret.of_body (N := 21) Tryd.func100 rfl rfl (by simp) ?_
  have H := St.begin hX
  have hc : clampN i ≤ 256 := by unfold clampN; omega
  refine WE.seq_reg ?_
  refine WL.box (l := kc l) H rfl (by rfl) rfl ?_
  intro b2 w1 H
  refine WL.alloc H rfl TrydT.ze31 rfl ?_
  intro b4 w2 H
  refine WL.nil ?_
  refine WE.cut (α := Unit) [1, 6, 7] (fun _ => [(1, .int .i64 (max i 0))]) (fun _ wl => St X w wl [] [Ent.blk b4 31 (kc (List.replicate 32 0)), Ent.blk b2 31 (kc l)] []) ?_ ?_
  · skip
    refine WE.seq_reg ?_
    refine WL.mv rfl rfl ?_
    refine WL.pv (PV.lss rfl rfl rfl) rfl ?_
    refine WL.nil ?_
    refine WE.cond rfl (fun hc7 => ?_) (fun hc7 => ?_)
    · skip
      try simp only [decide_eq_true_eq, decide_eq_false_iff_not, ne_eq, Decidable.not_not, Bool.not_eq_true', Bool.not_eq_false', Bool.and_eq_true, Bool.or_eq_true, Bool.not_not, Bool.and_eq_false_iff, Bool.or_eq_false_iff, Int.not_lt, Int.not_le] at hc7
      refine WE.reg ?_
      refine WL.as rfl rfl ?_
      refine WL.nil ?_
      exact ⟨(), (by repeat (first | with_reducible exact Off.refl _ _ | refine Off.upd rfl ?_)), ⟨by (show Value.int .i64 _ = _; congr 1; omega), trivial⟩, rfl, H⟩
    · skip
      try simp only [decide_eq_true_eq, decide_eq_false_iff_not, ne_eq, Decidable.not_not, Bool.not_eq_true', Bool.not_eq_false', Bool.and_eq_true, Bool.or_eq_true, Bool.not_not, Bool.and_eq_false_iff, Bool.or_eq_false_iff, Int.not_lt, Int.not_le] at hc7
      refine WE.skip ?_
      exact ⟨(), (by repeat (first | with_reducible exact Off.refl _ _ | refine Off.upd rfl ?_)), ⟨by (show Value.int .i64 _ = _; congr 1; omega), trivial⟩, rfl, H⟩
  · skip
    intro _ γ w3 hI
    try dsimp only at hI
    replace H := hI
    refine WE.seq ?_
    refine WE.seq_reg ?_
    refine WL.as rfl rfl ?_
    refine WL.nil ?_
    refine WE.block ?_
    refine WE.loop (α := Nat) [5, 8, 9, 10, 11, 12, 13, 14, 15, 16, 17, 18, 19] (fun j => [(5, .int .i64 ((j : Int) - 1))]) (fun j wl => (max i 0 ≤ (j : Int) ∨ j = 256) ∧ clampN i ≤ j ∧ j ≤ 256 ∧ St X w wl [] [Ent.blk b4 31 (kc (List.replicate 32 0)), Ent.blk b2 31 (kc (cutN l j))] []) (fun j => j) 256 ⟨rfl, trivial⟩ ⟨.inr rfl, hc, Nat.le_refl _, by rw [cutN_full l hl]; exact H⟩ ?_
    intro j γ0 w4 hI
    try dsimp only at hI
    obtain ⟨hm, hj0, hj1, H⟩ := hI
    have hcl := cutN_length l j
    refine WE.seq ?_
    refine WE.seq_reg ?_
    refine WL.mv rfl rfl ?_
    refine WL.mv rfl rfl ?_
    refine WL.pv (PV.geq rfl rfl rfl) rfl ?_
    refine WL.nil ?_
    refine WE.cond rfl (fun hc10 => ?_) (fun hc10 => ?_)
    · skip
      try simp only [decide_eq_true_eq, decide_eq_false_iff_not, ne_eq, Decidable.not_not, Bool.not_eq_true', Bool.not_eq_false', Bool.and_eq_true, Bool.or_eq_true, Bool.not_not, Bool.and_eq_false_iff, Bool.or_eq_false_iff, Int.not_lt, Int.not_le] at hc10
      obtain ⟨k, rfl⟩ : ∃ k, j = k + 1 := ⟨j - 1, by omega⟩
      have hk : k < 256 := by omega
      have hck := cutN_length l k
      have hB : bitI (cutN l (k + 1)) ((k + 1 : Nat) - 1 : Int) = (bitN (cutN l (k + 1)) k : Int) := by rw [bitI, if_neg (by omega)]; congr 2; omega
      refine WE.skip ?_
      refine WE.seq ?_
      refine WE.block ?_
      refine WE.seq_reg ?_
      refine WL.loadR rfl TrydT.ag31 rfl rfl (by exact Blk.segAt (H.l 1 rfl) (Seg.all _) (by rfl)) (by exact TrydT.sz31) ?_
      refine WL.mv rfl rfl ?_
      refine WL.call TrydT.fb77 rfl (refBit_c (l := cutN l (k + 1)) (i := ((k + 1 : Nat) - 1 : Int)) H.yylt (cutN_length _ _) (by omega)) ?_
      rintro _ w5 ⟨rfl, hO⟩
      replace H := H.out hO
      refine WL.pv (PV.eql rfl rfl rfl) rfl ?_
      refine WL.nil ?_
      refine WE.cond rfl (fun hc16 => ?_) (fun hc16 => ?_)
      · skip
        try simp only [decide_eq_true_eq, decide_eq_false_iff_not, ne_eq, Decidable.not_not, Bool.not_eq_true', Bool.not_eq_false', Bool.and_eq_true, Bool.or_eq_true, Bool.not_not, Bool.and_eq_false_iff, Bool.or_eq_false_iff, Int.not_lt, Int.not_le] at hc16
        have h1 : bitN (cutN l (k + 1)) k = 1 := by omega
        have hE := cut_step1 l k hk h1
        refine WE.reg ?_
        refine WL.loadR rfl TrydT.ag31 rfl rfl (by exact Blk.segAt (H.l 1 rfl) (Seg.all _) (by rfl)) (by exact TrydT.sz31) ?_
        refine WL.pv (PV.eq (v' := .int .i64 (k : Int)) (PV.move rfl) (by show Value.int .i64 _ = _; congr 1; omega)) rfl ?_
        refine WL.call TrydT.fb111 rfl (Flip_c (l := cutN l (k + 1)) (n := k) H.yylt (cutN_length _ _) hk) ?_
        rintro _ w6 ⟨rfl, hO⟩
        replace H := H.out hO
        refine WL.storeL H 1 rfl rfl rfl (new := _) rfl (by (rw [TrydT.sz31]; refine congrArg some ?_; (simp [kc_length, kw_length, *]; done))) (by exact kc_one _) (Laid.at (Laid.all (by (simp [kc_length, kw_length, *]; done))) (by rfl)) rfl ?_
        intro w7 H
        refine WL.nil ?_
        refine WE.reg ?_
        refine WL.mv rfl rfl ?_
        refine WL.pv (PV.eq (v' := .int .i64 ((k : Int) - 1)) (PV.sub64 rfl rfl rfl (by omega) (by omega)) (by congr 1; omega)) rfl ?_
        refine WL.as rfl rfl ?_
        refine WL.nil ?_
        replace H := H.conv (L' := [Ent.blk b4 31 (kc (List.replicate 32 0)), Ent.blk b2 31 (kc (cutN l k))]) (by (rw [← hE]; rfl))
        exact ⟨k, (by repeat (first | with_reducible exact Off.refl _ _ | refine Off.upd rfl ?_ | refine Off.setAll rfl ?_ | refine Off.forget' rfl ?_)), ⟨rfl, trivial⟩, rfl, ⟨by unfold clampN at *; omega, by unfold clampN at *; omega, by omega, H⟩, (by omega)⟩
      · skip
        try simp only [decide_eq_true_eq, decide_eq_false_iff_not, ne_eq, Decidable.not_not, Bool.not_eq_true', Bool.not_eq_false', Bool.and_eq_true, Bool.or_eq_true, Bool.not_not, Bool.and_eq_false_iff, Bool.or_eq_false_iff, Int.not_lt, Int.not_le] at hc16
        have h1 : bitN (cutN l (k + 1)) k ≠ 1 := by omega
        have hE := cut_step0 l k hk h1
        refine WE.skip ?_
        refine WE.reg ?_
        refine WL.mv rfl rfl ?_
        refine WL.pv (PV.eq (v' := .int .i64 ((k : Int) - 1)) (PV.sub64 rfl rfl rfl (by omega) (by omega)) (by congr 1; omega)) rfl ?_
        refine WL.as rfl rfl ?_
        refine WL.nil ?_
        replace H := H.conv (L' := [Ent.blk b4 31 (kc (List.replicate 32 0)), Ent.blk b2 31 (kc (cutN l k))]) (by (rw [hE]; done))
        exact ⟨k, (by repeat (first | with_reducible exact Off.refl _ _ | refine Off.upd rfl ?_ | refine Off.setAll rfl ?_ | refine Off.forget' rfl ?_)), ⟨rfl, trivial⟩, rfl, ⟨by unfold clampN at *; omega, by unfold clampN at *; omega, by omega, H⟩, (by omega)⟩
    · skip
      try simp only [decide_eq_true_eq, decide_eq_false_iff_not, ne_eq, Decidable.not_not, Bool.not_eq_true', Bool.not_eq_false', Bool.and_eq_true, Bool.or_eq_true, Bool.not_not, Bool.and_eq_false_iff, Bool.or_eq_false_iff, Int.not_lt, Int.not_le] at hc10
      have hj : j = clampN i := by unfold clampN at *; omega
      refine WE.exit ?_
      refine WE.seq_reg ?_
      refine WL.loadR rfl TrydT.ag31 rfl rfl (by exact Blk.segAt (H.l 1 rfl) (Seg.all _) (by rfl)) (by exact TrydT.sz31) ?_
      refine WL.storeL H 0 rfl rfl rfl (new := _) rfl (by exact TrydT.sz31) (by exact kc_one _) (Laid.at (Laid.all (by (simp only [kc_length, kw_length, List.length_replicate, List.length_append, List.length_cons, List.length_nil, cutI_length, cutN_length, cutPart_length, shaOf_length]; done))) (by rfl)) rfl ?_
      intro w8 H
      refine WL.nil ?_
      refine WE.ret ?_
      refine ⟨[_], _, .nil _, ⟨⟨_, rfl, run_loadVar_aggR TrydT.ag31 (by exact Blk.segAt (H.l 0 rfl) (Seg.all _) rfl) (by exact TrydT.sz31)⟩, trivial⟩, ?_⟩
      subst hj
      exact ⟨rfl, H.toOut0⟩

theorem refCut_c {X : Nat → Prop} {w : World} {l : List UInt8} {i : Int} (hX : ∀ b, X b → b < w.heap.size) (hl : l.length = 32) (hi : -9223372036854775808 ≤ i ∧ i ≤ 9223372036854775807) :
    Ret Tryd.prog 86 [.agg (kc l).toArray, .int .i64 i].toArray w fun v w' => v = .agg (kc (cutI l i)).toArray ∧ Out Nil w w' := by
  refine Ret.of_body (N := 8) Tryd.func86 rfl rfl (by simp) ?_
  have H := St.begin hX
  refine WE.seq_reg ?_
  refine WL.box (l := kc l) H rfl (by rfl) rfl ?_
  intro b2 w1 H
  refine WL.alloc H rfl TrydT.ze79 rfl ?_
  intro b4 w2 H
  refine WL.nil ?_
  refine WE.seq_reg ?_
  refine WL.loadR rfl TrydT.ag79 rfl rfl (by exact Blk.segAt (H.l 1 rfl) (Seg.all _) (by rfl)) (by (rw [TrydT.sz79]; refine congrArg some ?_; (simp only [kc_length, kw_length, List.length_replicate, List.length_append, List.length_cons, List.length_nil, cutI_length, cutN_length, cutPart_length, shaOf_length]; omega))) ?_
  refine WL.mv rfl rfl ?_
  refine WL.call TrydT.fb100 rfl (Prefix_c  H.yylt  (by assumption) (by assumption)) ?_
  rintro _ w3 ⟨rfl, hO⟩
  replace H := H.out hO
  refine WL.storeL H 0 rfl rfl rfl (new := _) rfl (by exact TrydT.sz79) (by exact kc_one _) (Laid.at (Laid.all (by (simp only [kc_length, kw_length, List.length_replicate, List.length_append, List.length_cons, List.length_nil, cutI_length, cutN_length, cutPart_length, shaOf_length]; done))) (by rfl)) rfl ?_
  intro w4 H
  refine WL.nil ?_
  refine WE.ret ?_
  refine ⟨[_], _, .nil _, ⟨⟨_, rfl, run_loadVar_aggR TrydT.ag79 (by exact Blk.segAt (H.l 0 rfl) (Seg.all _) rfl) (by exact TrydT.sz79)⟩, trivial⟩, ?_⟩
  exact ⟨rfl, H.toOut0⟩

theorem refSum5_c {X : Nat → Prop} {w : World} {a : Value} {la : List UInt8} {i : Int} (hX : ∀ b, X b → b < w.heap.size) (hf0 : Rob X (SlB a la) w) (hla : la.length ≤ 1000000000) (hi : -9223372036854775808 ≤ i ∧ i ≤ 9223372036854775807) :
    Ret Tryd.prog 71 [.int .i64 i, a].toArray w fun v w' => v = .agg (kc (cutI (shaOf la) i)).toArray ∧ Out Nil w w' := by
  refine Ret.of_body (N := 9) Tryd.func71 rfl rfl (by simp) ?_
  have H := St.begin hX
  replace H := H.add (rob0 hf0)
  refine WE.seq_reg ?_
  refine WL.alloc H rfl TrydT.ze79 rfl ?_
  intro b4 w1 H
  refine WL.nil ?_
  refine WE.seq_reg ?_
  refine WL.mv rfl rfl ?_
  refine WL.call TrydT.fb87 rfl (refSum_c (la := la) H.yylt (H.rob 0 rfl) hla) ?_
  rintro _ w2 ⟨rfl, hO⟩
  replace H := H.out hO
  refine WL.mv rfl rfl ?_
  refine WL.call TrydT.fb86 rfl (refCut_c (l := shaOf la) (i := i) H.yylt (shaOf_length _) hi) ?_
  rintro _ w3 ⟨rfl, hO⟩
  replace H := H.out hO
  refine WL.storeL H 0 rfl rfl rfl (new := _) rfl (by exact TrydT.sz79) (by exact kc_one _) (Laid.at (Laid.all (by (simp only [kc_length, kw_length, List.length_replicate, List.length_append, List.length_cons, List.length_nil, cutI_length, cutN_length, cutPart_length, shaOf_length]; done))) (by rfl)) rfl ?_
  intro w4 H
  refine WL.nil ?_
  refine WE.ret ?_
  refine ⟨[_], _, .nil _, ⟨⟨_, rfl, run_loadVar_aggR TrydT.ag79 (by exact Blk.segAt (H.l 0 rfl) (Seg.all _) rfl) (by exact TrydT.sz79)⟩, trivial⟩, ?_⟩
  exact ⟨rfl, H.toOut0⟩

theorem Right_c {X : Nat → Prop} {w : World} {i : Int} (hX : ∀ b, X b → b < w.heap.size) :
    Ret Tryd.prog 30 [.int .i64 i].toArray w fun v w' => v = .bool (decide (0 ≤ i ∧ i ≤ 256)) ∧ Out Nil w w' := by
  refine Ret.of_body (N := 9) Tryd.func30 rfl rfl (by simp) ?_
  have H := St.begin hX
  refine WE.seq_reg ?_
  refine WL.as rfl rfl ?_
  refine WL.nil ?_
  refine WE.seq_reg ?_
  refine WL.mv rfl rfl ?_
  refine WL.pv (PV.geq rfl rfl rfl) rfl ?_
  refine WL.mv rfl rfl ?_
  refine WL.split (t := 5) rfl (fun hg5 => ?_) (fun hg5 => ?_)
  · skip
    refine WL.known (t := 4) (c := true) rfl hg5 ?_
    try simp only [decide_eq_true_eq, decide_eq_false_iff_not, ne_eq, Decidable.not_not, Bool.not_eq_true', Bool.not_eq_false', Bool.and_eq_true, Bool.or_eq_true, Bool.not_not, Bool.and_eq_false_iff, Bool.or_eq_false_iff, Int.not_lt, Int.not_le] at hg5
    refine WL.mv rfl rfl ?_
    refine WL.pv (PV.leq rfl rfl rfl) rfl ?_
    refine WL.pv (PV.pick_t rfl rfl rfl) rfl ?_
    refine WL.as rfl rfl ?_
    refine WL.nil ?_
    refine WE.ret ?_
    refine ⟨[_], _, .nil _, ⟨rfl, trivial⟩, ?_⟩
    refine ⟨?_, H.toOut0⟩
    show Value.bool _ = _
    congr 1
    (rw [decide_eq_decide]; omega)
  · skip
    refine WL.known (t := 4) (c := false) rfl hg5 ?_
    try simp only [decide_eq_true_eq, decide_eq_false_iff_not, ne_eq, Decidable.not_not, Bool.not_eq_true', Bool.not_eq_false', Bool.and_eq_true, Bool.or_eq_true, Bool.not_not, Bool.and_eq_false_iff, Bool.or_eq_false_iff, Int.not_lt, Int.not_le] at hg5
    refine WL.off rfl ?_
    refine WL.off rfl ?_
    refine WL.pv (PV.pick_f rfl rfl rfl) rfl ?_
    refine WL.as rfl rfl ?_
    refine WL.nil ?_
    refine WE.ret ?_
    refine ⟨[_], _, .nil _, ⟨rfl, trivial⟩, ?_⟩
    refine ⟨?_, H.toOut0⟩
    show Value.bool _ = _
    congr 1
    (symm; exact decide_eq_false (by omega))

theorem Cut_c {X : Nat → Prop} {w : World} {l : List UInt8} {i : Int} (hX : ∀ b, X b → b < w.heap.size) (hl : l.length = 32) (hi : -9223372036854775808 ≤ i ∧ i ≤ 9223372036854775807) :
    Ret Tryd.prog 83 [.agg (kc l).toArray, .int .i64 i].toArray w fun v w' => v = .agg (kc (cutI l i)).toArray ∧ Out Nil w w' := by
  refine Ret.of_body (N := 29) Tryd.func83 rfl rfl (by simp) ?_
  have H := St.begin hX
  have hc : ((clampN i : Nat) : Int) = min (max i 0) 256 := by unfold clampN; omega
  refine WE.seq_reg ?_
  refine WL.box (l := kc l) H rfl (by rfl) rfl ?_
  intro b2 w1 H
  refine WL.alloc H rfl TrydT.ze79 rfl ?_
  intro b4 w2 H
  refine WL.nil ?_
  refine WE.seq_reg ?_
  refine WL.mv rfl rfl ?_
  refine WL.pv (PV.maxI rfl rfl) rfl ?_
  refine WL.pv (PV.eq (v' := .int .i64 ((clampN i : Nat) : Int)) (PV.minI rfl rfl) (by rw [hc])) rfl ?_
  refine WL.as rfl rfl ?_
  refine WL.nil ?_
  refine WE.seq ?_
  refine WE.seq_reg ?_
  refine WL.mv rfl rfl ?_
  refine WL.nil ?_
  refine WE.block ?_
  refine WE.loop (α := Nat) [5, 6, 10, 11, 12, 13, 14, 15, 16, 17, 18, 19, 20, 21, 22, 23, 24, 25, 26, 27] (fun q => [(10, .int .i64 q)]) (fun q wl => q ≤ 32 ∧ St X w wl [] [Ent.blk b4 79 (kc (List.replicate 32 0)), Ent.blk b2 79 (kc (cutPart l (clampN i) q))] []) (fun q => 32 - q) 0 ⟨rfl, trivial⟩ ⟨Nat.zero_le _, by rw [cutPart_zero _ _ hl]; exact H⟩ ?_
  intro q γ0 w3 hI
  try dsimp only at hI
  obtain ⟨hq, H⟩ := hI
  have hcp := cutPart_length l (clampN i) q
  have hk8 : keptN (clampN i) q ≤ 8 := by unfold keptN; omega
  refine WE.seq_reg ?_
  refine WL.pv (PV.lss rfl rfl rfl) rfl ?_
  refine WL.nil ?_
  refine WE.seq ?_
  refine WE.cond rfl (fun hc11 => ?_) (fun hc11 => ?_)
  · skip
    try simp only [decide_eq_true_eq, decide_eq_false_iff_not, ne_eq, Decidable.not_not, Bool.not_eq_true', Bool.not_eq_false', Bool.and_eq_true, Bool.or_eq_true, Bool.not_not, Bool.and_eq_false_iff, Bool.or_eq_false_iff, Int.not_lt, Int.not_le] at hc11
    have hlt : q < 32 := by omega
    refine WE.skip ?_
    refine WE.seq ?_
    refine WE.block ?_
    refine WE.seq_reg ?_
    refine WL.mv rfl rfl ?_
    refine WL.as rfl rfl ?_
    refine WL.nil ?_
    refine WE.seq_reg ?_
    refine WL.mv rfl rfl ?_
    refine WL.mv rfl rfl ?_
    refine WL.pv (PV.mul64 rfl rfl rfl (by omega) (by omega)) rfl ?_
    refine WL.pv (PV.sub64 rfl rfl rfl (by omega) (by omega)) rfl ?_
    refine WL.pv (PV.maxI rfl rfl) rfl ?_
    refine WL.pv (PV.eq (v' := .int .i64 ((keptN (clampN i) q : Nat) : Int)) (PV.minI rfl rfl) (by congr 1; unfold keptN; omega)) rfl ?_
    refine WL.as rfl rfl ?_
    refine WL.nil ?_
    refine WE.draw (.take 0 (.take 1 (.take 2 (.take 3 (.take 4 (.take 5 (.take 6 (.take 7 (.pick1 8 .done))))))))) TrydT.mixed (by kernel_rfl) ?_
    replace H := H.out (Out.drew _)
    refine WP.mv rfl rfl rfl ?_
    refine WP.take_pure rfl rfl (PV.indexArr rfl TrydT.ar79 TrydT.sz5 rfl rfl (by omega) (by omega)) ?_
    refine WP.take_read rfl rfl (RV.loadOne rfl TrydT.ag5 rfl) (by have h1 := Blk.segAt (o' := 0 + (q : Int).toNat * 1) (H.l 1 rfl) (Seg.byte q (by rw [cutPart_length]; exact hlt)) (by omega); rw [cutPart_get] at h1; exact h1) ?_
    refine WP.mv rfl rfl rfl ?_
    refine WP.take_pure rfl rfl (PV.sub64 rfl rfl rfl (by omega) (by omega)) ?_
    refine WP.take_pure rfl rfl (PV.shlw rfl rfl rfl (by omega)) ?_
    refine WP.take_pure rfl rfl (PV.eq (v' := .int .u8 ((cutByte (l.getD q 0) (keptN (clampN i) q)).toNat : Int)) (PV.andw rfl rfl rfl) (congrArg (Value.int .u8) (and_mask _ _ (by unfold keptN; omega) _ rfl))) ?_
    refine WP.take_pure rfl rfl (PV.indexArr rfl TrydT.ar79 TrydT.sz5 rfl rfl (by omega) (by omega)) ?_
    refine WP.pick1 rfl ?_
    refine WL.storeL H 1 rfl rfl rfl (new := _) rfl (by exact TrydT.sz5) (by exact one_lit _ rfl) (Laid.at (Laid.byteA q (by rw [cutPart_length]; exact hlt)) (by (simp; done))) rfl ?_
    intro w4 H
    refine WL.nil ⟨(List.forall_mem_cons.2 ⟨(by exact (fun h => absurd (show waits _ 8 2 = false from h) (by decide +kernel))), (fun _ h => by cases h)⟩), ?_⟩
    refine WP.done ?_
    refine WE.reg ?_
    refine WL.pv (PV.add64 rfl rfl rfl (by omega) (by omega)) rfl ?_
    refine WL.mv rfl rfl ?_
    refine WL.nil ?_
    replace H := H.conv (L' := [Ent.blk b4 79 (kc (List.replicate 32 0)), Ent.blk b2 79 (kc (cutPart l (clampN i) (q + 1)))]) (by rw [show (cutPart l (clampN i) q).set q _ = _ from cut_set l (clampN i) q hlt hl]; rfl)
    exact ⟨q + 1, (by repeat (first | with_reducible exact Off.refl _ _ | refine Off.upd rfl ?_ | refine Off.setAll rfl ?_ | refine Off.forget' rfl ?_)), ⟨rfl, trivial⟩, rfl, ⟨by omega, H⟩, (by omega)⟩
  · skip
    try simp only [decide_eq_true_eq, decide_eq_false_iff_not, ne_eq, Decidable.not_not, Bool.not_eq_true', Bool.not_eq_false', Bool.and_eq_true, Bool.or_eq_true, Bool.not_not, Bool.and_eq_false_iff, Bool.or_eq_false_iff, Int.not_lt, Int.not_le] at hc11
    obtain rfl : q = 32 := by omega
    refine WE.exit ?_
    refine WE.seq_reg ?_
    rw [cutPart_all] at H
    have hcl := cutN_length l (clampN i)
    refine WL.loadR rfl TrydT.ag79 rfl rfl (by exact Blk.segAt (H.l 1 rfl) (Seg.all _) (by rfl)) (by exact TrydT.sz79) ?_
    refine WL.storeL H 0 rfl rfl rfl (new := _) rfl (by exact TrydT.sz79) (by exact kc_one _) (Laid.at (Laid.all (by (simp only [kc_length, kw_length, List.length_replicate, List.length_append, List.length_cons, List.length_nil, cutI_length, cutN_length, cutPart_length, shaOf_length]; done))) (by rfl)) rfl ?_
    intro w5 H
    refine WL.nil ?_
    refine WE.ret ?_
    refine ⟨[_], _, .nil _, ⟨⟨_, rfl, run_loadVar_aggR TrydT.ag79 (by exact Blk.segAt (H.l 0 rfl) (Seg.all _) rfl) (by exact TrydT.sz79)⟩, trivial⟩, ?_⟩
    exact ⟨rfl, H.toOut0⟩

theorem New_c {X : Nat → Prop} {w : World} {i : Int} (hX : ∀ b, X b → b < w.heap.size) (hbits : 0 ≤ i ∧ i ≤ 256) :
    Ret Tryd.prog 46 [.int .i64 i].toArray w fun v w' => ∃ bh bc, v = .tuple [.pointer (some ⟨bh, 0, none⟩), .int .i64 0].toArray ∧ Out Nil w w' ∧ w.heap.size ≤ bc ∧ Blk w' bc 118 [.int .i64 0] ∧ Rob (fun c => X c ∨ c = bc) (HAt bh bc i) w' := by
  refine Ret.of_body (N := 15) Tryd.func46 rfl rfl (by simp) ?_
  have H := St.begin hX
  refine WE.seq_reg ?_
  refine WL.as rfl rfl ?_
  refine WL.as rfl rfl ?_
  refine WL.nil ?_
  refine WE.seq ?_
  refine WE.seq_reg ?_
  refine WL.mv rfl rfl ?_
  refine WL.pv (PV.lss rfl rfl rfl) rfl ?_
  refine WL.mv rfl rfl ?_
  refine WL.split (t := 6) rfl (fun hg6 => ?_) (fun hg6 => ?_)
  · skip
    refine WL.known (t := 5) (c := true) rfl hg6 ?_
    try simp only [decide_eq_true_eq, decide_eq_false_iff_not, ne_eq, Decidable.not_not, Bool.not_eq_true', Bool.not_eq_false', Bool.and_eq_true, Bool.or_eq_true, Bool.not_not, Bool.and_eq_false_iff, Bool.or_eq_false_iff, Int.not_lt, Int.not_le] at hg6
    exfalso; omega
  · skip
    refine WL.known (t := 5) (c := false) rfl hg6 ?_
    try simp only [decide_eq_true_eq, decide_eq_false_iff_not, ne_eq, Decidable.not_not, Bool.not_eq_true', Bool.not_eq_false', Bool.and_eq_true, Bool.or_eq_true, Bool.not_not, Bool.and_eq_false_iff, Bool.or_eq_false_iff, Int.not_lt, Int.not_le] at hg6
    refine WL.mv rfl rfl ?_
    refine WL.pv (PV.gtr rfl rfl rfl) rfl ?_
    refine WL.pv (PV.pick_f rfl rfl rfl) rfl ?_
    refine WL.nil ?_
    refine WE.cond_f' rfl (by simp; omega) ?_
    refine WE.skip ?_
    refine WE.seq_reg ?_
    refine WL.pv (PV.buildS rfl TrydT.pl118 TrydT.ze118 Fl.nil) rfl ?_
    refine WL.box (l := _) H rfl (by rfl) rfl ?_
    intro b11 w1 H
    refine WL.mv rfl rfl ?_
    refine WL.pv (PV.buildS rfl TrydT.pl120 TrydT.ze120 (Fl.cons rfl (by rfl) (by (simp only [kc_length, kw_length, List.length_replicate, List.length_append, List.length_cons, List.length_nil, cutI_length, cutN_length, cutPart_length, shaOf_length]; done)) Laid.head (Fl.cons rfl (by rfl) (by (simp only [kc_length, kw_length, List.length_replicate, List.length_append, List.length_cons, List.length_nil, cutI_length, cutN_length, cutPart_length, shaOf_length]; done)) (Laid.tail Laid.head rfl) Fl.nil))) rfl ?_
    refine WL.box (l := _) H rfl (by rfl) rfl ?_
    intro b14 w2 H
    refine WL.as rfl rfl ?_
    refine WL.as rfl rfl ?_
    refine WL.nil ?_
    refine WE.ret ?_
    refine ⟨[_, _], _, .nil _, ⟨rfl, rfl, trivial⟩, ?_⟩
    replace H := H.freeze (i := 0) rfl
    exact ⟨_, _, rfl, H.toOut0, H.geL _ (List.mem_of_getElem? (i := 0) rfl) _ rfl, H.l 0 rfl, (H.give1 0 rfl).imp fun _ h => h.rd⟩

theorem NewBad_c {X : Nat → Prop} {w : World} {i : Int} (hX : ∀ b, X b → b < w.heap.size) (hbits : i < 0 ∨ 256 < i) :
    Ret Tryd.prog 46 [.int .i64 i].toArray w fun v w' => v = .tuple [.pointer none, .int .i64 4].toArray ∧ Out Nil w w' := by
  refine Ret.of_body (N := 15) Tryd.func46 rfl rfl (by simp) ?_
  have H := St.begin hX
  refine WE.seq_reg ?_
  refine WL.as rfl rfl ?_
  refine WL.as rfl rfl ?_
  refine WL.nil ?_
  refine WE.seq ?_
  refine WE.seq_reg ?_
  refine WL.mv rfl rfl ?_
  refine WL.pv (PV.lss rfl rfl rfl) rfl ?_
  refine WL.mv rfl rfl ?_
  refine WL.split (t := 6) rfl (fun hg6 => ?_) (fun hg6 => ?_)
  · skip
    refine WL.known (t := 5) (c := true) rfl hg6 ?_
    try simp only [decide_eq_true_eq, decide_eq_false_iff_not, ne_eq, Decidable.not_not, Bool.not_eq_true', Bool.not_eq_false', Bool.and_eq_true, Bool.or_eq_true, Bool.not_not, Bool.and_eq_false_iff, Bool.or_eq_false_iff, Int.not_lt, Int.not_le] at hg6
    refine WL.off rfl ?_
    refine WL.off rfl ?_
    refine WL.pv (PV.pick_t rfl rfl rfl) rfl ?_
    refine WL.nil ?_
    refine WE.cond_t rfl ?_
    refine WE.seq_reg ?_
    refine WL.as rfl rfl ?_
    refine WL.as rfl rfl ?_
    refine WL.nil ?_
    refine WE.ret ?_
    refine ⟨[_, _], _, .nil _, ⟨rfl, rfl, trivial⟩, ?_⟩
    exact ⟨rfl, H.toOut0⟩
  · skip
    refine WL.known (t := 5) (c := false) rfl hg6 ?_
    try simp only [decide_eq_true_eq, decide_eq_false_iff_not, ne_eq, Decidable.not_not, Bool.not_eq_true', Bool.not_eq_false', Bool.and_eq_true, Bool.or_eq_true, Bool.not_not, Bool.and_eq_false_iff, Bool.or_eq_false_iff, Int.not_lt, Int.not_le] at hg6
    refine WL.mv rfl rfl ?_
    refine WL.pv (PV.gtr rfl rfl rfl) rfl ?_
    refine WL.pv (PV.pick_f rfl rfl rfl) rfl ?_
    refine WL.nil ?_
    refine WE.cond_t' rfl (by simp; omega) ?_
    refine WE.seq_reg ?_
    refine WL.as rfl rfl ?_
    refine WL.as rfl rfl ?_
    refine WL.nil ?_
    refine WE.ret ?_
    refine ⟨[_, _], _, .nil _, ⟨rfl, rfl, trivial⟩, ?_⟩
    exact ⟨rfl, H.toOut0⟩

theorem Bits_c {X : Nat → Prop} {w : World} {bh bc : Nat} {bits : Int} (hX : ∀ b, X b → b < w.heap.size) (hf0 : Rob X (HAt bh bc bits) w) :
    Ret Tryd.prog 52 [.pointer (some ⟨bh, 0, none⟩)].toArray w fun v w' => v = .int .i64 bits ∧ Out Nil w w' := by
  refine Ret.of_body (N := 9) Tryd.func52 rfl rfl (by simp) ?_
  have H := St.begin hX
  replace H := H.add (rob0 hf0)
  refine WE.seq_reg ?_
  refine WL.as rfl rfl ?_
  refine WL.nil ?_
  refine WE.seq ?_
  refine WE.seq_reg ?_
  refine WL.mv rfl rfl ?_
  refine WL.pv (PV.eqlPn rfl TrydT.pt51 rfl rfl) rfl ?_
  refine WL.nil ?_
  refine WE.cond_f' rfl rfl ?_
  refine WE.skip ?_
  refine WE.seq_reg ?_
  refine WL.mv rfl rfl ?_
  refine WL.pv (PV.nilCheck rfl rfl) rfl ?_
  refine WL.pv (PV.fieldAddr rfl TrydT.fd120_1 rfl) rfl ?_
  refine WL.load1 rfl TrydT.ag3 rfl rfl (by exact RdA.at_ (o := 1) (H.p 0 rfl) rfl rfl) ?_
  refine WL.as rfl rfl ?_
  refine WL.nil ?_
  refine WE.ret ?_
  refine ⟨[_], _, .nil _, ⟨rfl, trivial⟩, ?_⟩
  exact ⟨rfl, H.toOut0⟩

theorem BitsNil_c {X : Nat → Prop} {w : World}  (hX : ∀ b, X b → b < w.heap.size) :
    Ret Tryd.prog 52 [.pointer none].toArray w fun v w' => v = .int .i64 0 ∧ Out Nil w w' := by
  refine Ret.of_body (N := 9) Tryd.func52 rfl rfl (by simp) ?_
  have H := St.begin hX
  refine WE.seq_reg ?_
  refine WL.as rfl rfl ?_
  refine WL.nil ?_
  refine WE.seq ?_
  refine WE.seq_reg ?_
  refine WL.mv rfl rfl ?_
  refine WL.pv (PV.eqlPn rfl TrydT.pt51 rfl rfl) rfl ?_
  refine WL.nil ?_
  refine WE.cond_t' rfl rfl ?_
  refine WE.seq_reg ?_
  refine WL.as rfl rfl ?_
  refine WL.nil ?_
  refine WE.ret ?_
  refine ⟨[_], _, .nil _, ⟨rfl, trivial⟩, ?_⟩
  exact ⟨rfl, H.toOut0⟩

theorem HSum_c {X : Nat → Prop} {w : World} {bh bc : Nat} {bits n : Int} {a : Value} {la : List UInt8} (hX : ∀ b, X b → b < w.heap.size) (ho0 : Blk w bc 118 ([.int .i64 n])) (hf0 : Rob (fun c_ => X c_ ∨ c_ = bc) (HAt bh bc bits) w) (hf1 : Rob (fun c_ => X c_ ∨ c_ = bc) (SlB a la) w) (hf2 : Rob (fun c_ => X c_ ∨ c_ = bc) (Rounds) w) (hbits : 0 ≤ bits ∧ bits ≤ 256) (hla : la.length ≤ 1000000000) :
    Ret Tryd.prog 68 [.pointer (some ⟨bh, 0, none⟩), a].toArray w fun v w' => v = .agg (kc (cutI (shaOf la) bits)).toArray ∧ Out (· = bc) w w' ∧ Blk w' bc 118 [.int .i64 (IntKind.i64.wrap (n + 1))] := by
  refine Ret.of_body (N := 25) Tryd.func68 rfl rfl (by simp) ?_
  have H := St.begin1 (b := bc) (t := 118) (l := [.int .i64 n]) hX ho0
  replace H := H.add (rob1 hf2)
  replace H := H.add (rob1 hf1)
  replace H := H.add (rob1 hf0)
  refine WE.seq_reg ?_
  refine WL.alloc H rfl TrydT.ze79 rfl ?_
  intro b4 w1 H
  refine WL.nil ?_
  refine WE.seq ?_
  refine WE.seq_reg ?_
  refine WL.mv rfl rfl ?_
  refine WL.pv (PV.eqlPn rfl TrydT.pt51 rfl rfl) rfl ?_
  refine WL.nil ?_
  refine WE.cond_f' rfl rfl ?_
  refine WE.skip ?_
  refine WE.seq_reg ?_
  refine WL.mv rfl rfl ?_
  refine WL.pv (PV.nilCheck rfl rfl) rfl ?_
  refine WL.pv (PV.fieldAddr rfl TrydT.fd120_0 rfl) rfl ?_
  refine WL.load1 rfl TrydT.ag116 rfl rfl (by exact RdA.at_ (o := 0) (H.p 0 rfl) rfl rfl) ?_
  refine WL.pv (PV.nilCheck rfl rfl) rfl ?_
  refine WL.pv (PV.fieldAddr rfl TrydT.fd118_0 rfl) rfl ?_
  refine WL.load1 rfl TrydT.ag3 rfl rfl (by exact Blk.segAt (H.o 0 rfl) Seg.hd (by rfl)) ?_
  refine WL.pv (PV.addw rfl rfl rfl) rfl ?_
  refine WL.pv (PV.nilCheck rfl rfl) rfl ?_
  refine WL.pv (PV.fieldAddr rfl TrydT.fd118_0 rfl) rfl ?_
  refine WL.storeO H 0 rfl rfl rfl (new := _) rfl (by exact TrydT.sz3) (by exact one_lit _ rfl) (Laid.at Laid.head (by rfl)) rfl ?_
  intro w2 H
  refine WL.nil ?_
  refine WE.seq_draw (.take 0 (.take 2 (.take 3 (.take 4 (.take 5 (.pick1 1 (.pick1 6 (.pick1 7 .done)))))))) TrydT.mixed (by kernel_rfl) ?_
  replace H := H.out (Out.drew _)
  refine WP.mv rfl rfl rfl ?_
  refine WP.mv rfl rfl rfl ?_
  refine WP.take_pure rfl rfl (PV.nilCheck rfl rfl) ?_
  refine WP.take_pure rfl rfl (PV.fieldAddr rfl TrydT.fd120_1 rfl) ?_
  refine WP.take_read rfl rfl (RV.loadOne rfl TrydT.ag3 rfl) (by exact RdA.at_ (o := 1) (H.p 0 rfl) rfl rfl) ?_
  refine WP.pick1 rfl ?_
  refine WL.call TrydT.fb84 rfl (Sum_c (la := la) H.yylt (H.rob 1 rfl) (H.rob 2 rfl) hla) ?_
  rintro _ w3 ⟨rfl, hO⟩
  replace H := H.out hO
  refine WL.nil ⟨(List.forall_mem_cons.2 ⟨(fun _ _ => (by exact RdA.at_ (o := 1) (H.p 0 rfl) rfl rfl)), (fun _ h => by cases h)⟩), ?_⟩
  refine WP.pick1 rfl ?_
  refine WL.call TrydT.fb83 rfl (Cut_c (l := shaOf la) (i := bits) H.yylt (shaOf_length _) (by omega)) ?_
  rintro _ w4 ⟨rfl, hO⟩
  replace H := H.out hO
  refine WL.nil ⟨(List.forall_mem_cons.2 ⟨(by exact (fun h => absurd (show waits _ 6 5 = false from h) (by decide +kernel))), (fun _ h => by cases h)⟩), ?_⟩
  refine WP.pick1 rfl ?_
  refine WL.storeL H 0 rfl rfl rfl (new := _) rfl (by exact TrydT.sz79) (by exact kc_one _) (Laid.at (Laid.all (by (simp only [kc_length, kw_length, List.length_replicate, List.length_append, List.length_cons, List.length_nil, cutI_length, cutN_length, cutPart_length, shaOf_length]; done))) (by rfl)) rfl ?_
  intro w5 H
  refine WL.nil ⟨(List.forall_mem_cons.2 ⟨(by exact (fun h => absurd (show waits _ 7 5 = false from h) (by decide +kernel))), (fun _ h => by cases h)⟩), ?_⟩
  refine WP.done ?_
  refine WE.ret ?_
  refine ⟨[_], _, .nil _, ⟨⟨_, rfl, run_loadVar_aggR TrydT.ag79 (by exact Blk.segAt (H.l 0 rfl) (Seg.all _) rfl) (by exact TrydT.sz79)⟩, trivial⟩, ?_⟩
  exact ⟨rfl, H.toOut1, H.o 0 rfl⟩

theorem HSumNil_c {X : Nat → Prop} {w : World} {a : Value} (hX : ∀ b, X b → b < w.heap.size) :
    Ret Tryd.prog 68 [.pointer none, a].toArray w fun v w' => v = .agg (kc (List.replicate 32 0)).toArray ∧ Out Nil w w' := by
  refine Ret.of_body (N := 25) Tryd.func68 rfl rfl (by simp) ?_
  have H := St.begin hX
  refine WE.seq_reg ?_
  refine WL.alloc H rfl TrydT.ze79 rfl ?_
  intro b4 w1 H
  refine WL.nil ?_
  refine WE.seq ?_
  refine WE.seq_reg ?_
  refine WL.mv rfl rfl ?_
  refine WL.pv (PV.eqlPn rfl TrydT.pt51 rfl rfl) rfl ?_
  refine WL.nil ?_
  refine WE.cond_t' rfl rfl ?_
  refine WE.seq_reg ?_
  refine WL.pv (PV.buildA rfl TrydT.ar79 TrydT.sz5 TrydT.ze79 Fl.nil) rfl ?_
  refine WL.storeL H 0 rfl rfl rfl (new := _) rfl (by exact TrydT.sz79) (by exact kc_one _) (Laid.at (Laid.all (by with_reducible rfl)) (by rfl)) rfl ?_
  intro w2 H
  refine WL.nil ?_
  refine WE.ret ?_
  refine ⟨[_], _, .nil _, ⟨⟨_, rfl, run_loadVar_aggR TrydT.ag79 (by exact Blk.segAt (H.l 0 rfl) (Seg.all _) rfl) (by exact TrydT.sz79)⟩, trivial⟩, ?_⟩
  exact ⟨rfl, H.toOut0⟩

end Go.Sp.Tryd
