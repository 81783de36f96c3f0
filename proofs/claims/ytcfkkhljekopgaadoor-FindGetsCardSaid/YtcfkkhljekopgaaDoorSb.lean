/- Walks of functions, printed by a program of this session (gen.py) from notes on each function. -/
import Derived.Test.YtcfkkhljekopgaaDoorSa
import Derived.Test.YtcfkkhljekopgaaDoorPb
set_option maxRecDepth 100000
set_option maxHeartbeats 1000000
set_option linter.unusedVariables false
set_option linter.unusedSimpArgs false
namespace Go.Sp.Tryd
open Go.Proofs Go.RowKit Go.Sp

def zc (n : Nat) : Nat := (119 - n % 64) % 64
def be8 (N : Nat) : List UInt8 := (List.range 8).map fun i => UInt8.ofNat (N / 2 ^ (56 - 8 * i))
def padOf (l : List UInt8) : List UInt8 := l ++ 128 :: (List.replicate (zc l.length) 0 ++ be8 (8 * l.length))
theorem be8_length (N : Nat) : (be8 N).length = 8 := by simp [be8]
theorem be8_get (N i : Nat) (h : i < (be8 N).length) : (be8 N)[i] = UInt8.ofNat (N / 2 ^ (56 - 8 * i)) := by simp [be8]
theorem padOf_length (l : List UInt8) : (padOf l).length = l.length + 9 + zc l.length := by
  simp [padOf, be8_length]; omega
def roundsL : List UInt32 := [1116352408, 1899447441, 3049323471, 3921009573, 961987163, 1508970993, 2453635748, 2870763221, 3624381080, 310598401, 607225278, 1426881987, 1925078388, 2162078206, 2614888103, 3248222580, 3835390401, 4022224774, 264347078, 604807628, 770255983, 1249150122, 1555081692, 1996064986, 2554220882, 2821834349, 2952996808, 3210313671, 3336571891, 3584528711, 113926993, 338241895, 666307205, 773529912, 1294757372, 1396182291, 1695183700, 1986661051, 2177026350, 2456956037, 2730485921, 2820302411, 3259730800, 3345764771, 3516065817, 3600352804, 4094571909, 275423344, 430227734, 506948616, 659060556, 883997877, 958139571, 1322822218, 1537002063, 1747873779, 1955562222, 2024104815, 2227730452, 2361852424, 2428436474, 2756734187, 3204031479, 3329325298]

theorem refPad_c {X : Nat → Prop} {w : World} {a : Value} {la : List UInt8} (hX : ∀ b, X b → b < w.heap.size) (hf0 : Rob X (SlB a la) w) (hla : la.length ≤ 1000000000) :
    Ret Tryd.prog 101 [a].toArray w fun v w' => Out Nil w w' ∧ Rob X (SlB v (padOf la)) w' := by
  refine Ret.of_body (N := 36) Tryd.func101 rfl rfl (by simp) ?_
  have H := St.begin hX
  replace H := H.add (rob0 hf0)
  have hz64 : zc la.length < 64 ∧ (la.length + 1 + zc la.length) % 64 = 56 := by unfold zc; omega
  refine WE.seq_reg ?_
  refine WL.as rfl rfl ?_
  refine WL.nil ?_
  refine WE.seq_reg ?_
  refine WL.buildSliceF (l0 := []) H rfl TrydT.st33 (by decide) (zrow_one _ _) Fl.nil rfl ?_
  intro b6 w1 H
  replace H := H.toOsl (n := 0) (sz := 1) (i := 0) rfl rfl (by decide)
  refine WL.mv rfl rfl ?_
  refine WL.append H 0 TrydT.st33 (by decide) rfl rfl rfl (by exact H.p 0 rfl) (by exact kc_one _) (by omega) (by decide) rfl ?_
  intro v8 w2 H
  refine WL.as rfl rfl ?_
  refine WL.nil ?_
  refine WE.seq_reg ?_
  refine WL.mv rfl rfl ?_
  refine WL.buildSliceF (l0 := [.int .u8 (0)]) H rfl TrydT.st33 (by decide) (zrow_one _ _) (Fl.cons rfl (by rfl) (by (simp only [kc_length, kw_length, List.length_replicate, List.length_append, List.length_cons, List.length_nil]; done)) Laid.head Fl.nil) rfl ?_
  intro b10 w3 H
  refine WL.append H 1 TrydT.st33 (by decide) rfl rfl rfl (SlC.of_blk (n := 1) (H.l 0 rfl) rfl) (by exact one_lit _ rfl) (by omega) (by decide) rfl ?_
  intro v11 w4 H
  refine WL.as rfl rfl ?_
  refine WL.nil ?_
  refine WE.seq ?_
  refine WE.block ?_
  replace H := H.forget 0
  have e0 : kc (la ++ 128 :: List.replicate 0 0) = ([] ++ kc la) ++ [.int .u8 128] := by rw [kc_append]; rfl
  refine WE.loop (α := Nat × Value) [3, 12, 13, 14, 15, 16, 17, 18] (fun p => [(3, p.2)]) (fun p wl => p.1 ≤ zc la.length ∧ St X w wl [] [Ent.osl w.heap.size p.2 5 1 (la.length + 1 + p.1) (kc (la ++ 128 :: List.replicate p.1 0))] [SlB a la]) (fun p => zc la.length - p.1) (0, v11) ⟨rfl, trivial⟩ ⟨Nat.zero_le _, H.conv (by rw [e0, Nat.add_zero]; rw [show 0 + la.length + 1 = la.length + 1 by omega]; rfl)⟩ ?_
  intro ⟨j, v⟩ γ0 w5 hI
  try dsimp only at hI
  obtain ⟨hj, H⟩ := hI
  refine WE.seq ?_
  refine WE.seq_reg ?_
  refine WL.mv rfl rfl ?_
  refine WL.pv (PV.lenS (SlC.of_own (H.l 0 rfl)) TrydT.sl33 rfl) rfl ?_
  refine WL.pv (PV.rem64 rfl rfl rfl (by omega) (by omega)) rfl ?_
  refine WL.pv (PV.neq rfl rfl rfl) rfl ?_
  refine WL.nil ?_
  refine WE.cond rfl (fun hc15 => ?_) (fun hc15 => ?_)
  · skip
    try simp only [decide_eq_true_eq, decide_eq_false_iff_not, ne_eq, Decidable.not_not, Bool.not_eq_true', Bool.not_eq_false', Bool.and_eq_true, Bool.or_eq_true, Bool.not_not, Bool.and_eq_false_iff, Bool.or_eq_false_iff, Int.not_lt, Int.not_le] at hc15
    have hlt : j < zc la.length := by omega
    refine WE.skip ?_
    refine WE.block ?_
    refine WE.reg ?_
    refine WL.mv rfl rfl ?_
    refine WL.buildSliceF (l0 := [.int .u8 (0)]) H rfl TrydT.st33 (by decide) (zrow_one _ _) (Fl.cons rfl (by rfl) (by (simp only [kc_length, kw_length, List.length_replicate, List.length_append, List.length_cons, List.length_nil]; done)) Laid.head Fl.nil) rfl ?_
    intro b17 w6 H
    refine WL.append H 1 TrydT.st33 (by decide) rfl rfl rfl (SlC.of_blk (n := 1) (H.l 0 rfl) rfl) (by exact one_lit _ rfl) (by omega) (by decide) rfl ?_
    intro v18 w7 H
    refine WL.as rfl rfl ?_
    refine WL.nil ?_
    replace H := H.forget 0
    have e : kc (la ++ 128 :: List.replicate (j + 1) 0) = kc (la ++ 128 :: List.replicate j 0) ++ [.int .u8 0] := by rw [List.replicate_succ', ← List.cons_append, ← List.append_assoc, kc_append]; rfl
    exact ⟨(j + 1, v18), (by repeat (first | with_reducible exact Off.refl _ _ | refine Off.upd rfl ?_ | refine Off.setAll rfl ?_ | refine Off.forget' rfl ?_)), ⟨rfl, trivial⟩, rfl, ⟨by dsimp only; omega, H.conv (by rw [e]; rfl)⟩, (by dsimp only; omega)⟩
  · skip
    try simp only [decide_eq_true_eq, decide_eq_false_iff_not, ne_eq, Decidable.not_not, Bool.not_eq_true', Bool.not_eq_false', Bool.and_eq_true, Bool.or_eq_true, Bool.not_not, Bool.and_eq_false_iff, Bool.or_eq_false_iff, Int.not_lt, Int.not_le] at hc15
    obtain rfl : j = zc la.length := by omega
    refine WE.exit ?_
    refine WE.seq_reg ?_
    refine WL.mv rfl rfl ?_
    refine WL.pv (PV.lenS (H.p 0 rfl) TrydT.sl33 rfl) rfl ?_
    refine WL.pv (PV.convN (n := la.length) rfl TrydT.in3 TrydT.in139 rfl rfl (by omega)) rfl ?_
    refine WL.pv (PV.mulN (m := la.length) (n := 8) (q := 8 * la.length) rfl rfl rfl (by omega) (by omega)) rfl ?_
    refine WL.as rfl rfl ?_
    refine WL.nil ?_
    refine WE.seq ?_
    refine WE.seq_reg ?_
    refine WL.as rfl rfl ?_
    refine WL.nil ?_
    refine WE.block ?_
    refine WE.loop (α := Nat × Value) [3, 5, 23, 24, 25, 26, 27, 28, 29, 30, 31, 32, 33, 34] (fun p => [(5, .int .i64 (56 - 8 * (p.1 : Int))), (3, p.2)]) (fun p wl => p.1 ≤ 8 ∧ St X w wl [] [Ent.osl w.heap.size p.2 5 1 (la.length + 1 + zc la.length + p.1) (kc ((la ++ 128 :: List.replicate (zc la.length) 0) ++ (be8 (8 * la.length)).take p.1))] [SlB a la]) (fun p => 8 - p.1) (0, v) ⟨rfl, rfl, trivial⟩ ⟨Nat.zero_le _, by dsimp only; rw [List.take_zero, List.append_nil]; exact H⟩ ?_
    intro ⟨i, u⟩ γ1 w8 hI
    try dsimp only at hI
    obtain ⟨hi, H⟩ := hI
    refine WE.seq ?_
    refine WE.seq_reg ?_
    refine WL.mv rfl rfl ?_
    refine WL.pv (PV.geq rfl rfl rfl) rfl ?_
    refine WL.nil ?_
    refine WE.cond rfl (fun hc24 => ?_) (fun hc24 => ?_)
    · skip
      try simp only [decide_eq_true_eq, decide_eq_false_iff_not, ne_eq, Decidable.not_not, Bool.not_eq_true', Bool.not_eq_false', Bool.and_eq_true, Bool.or_eq_true, Bool.not_not, Bool.and_eq_false_iff, Bool.or_eq_false_iff, Int.not_lt, Int.not_le] at hc24
      have hi8 : i < 8 := by omega
      refine WE.skip ?_
      refine WE.seq ?_
      refine WE.block ?_
      refine WE.reg ?_
      refine WL.mv rfl rfl ?_
      refine WL.mv rfl rfl ?_
      refine WL.mv rfl rfl ?_
      refine WL.pv (PV.convN (n := 56 - 8 * i) rfl TrydT.in3 TrydT.in135 rfl (by omega) (by omega)) rfl ?_
      refine WL.pv (PV.shrN (m := 8 * la.length) (n := 56 - 8 * i) rfl rfl rfl (show _ < 64 by omega)) rfl ?_
      refine WL.pv (PV.cN_8 (n := 8 * la.length / 2 ^ (56 - 8 * i)) rfl TrydT.in139 TrydT.in5 rfl) rfl ?_
      refine WL.buildSliceF (l0 := [.int .u8 (0)]) H rfl TrydT.st33 (by decide) (zrow_one _ _) (Fl.cons rfl (by rfl) (by (simp only [kc_length, kw_length, List.length_replicate, List.length_append, List.length_cons, List.length_nil]; done)) Laid.head Fl.nil) rfl ?_
      intro b33 w9 H
      refine WL.append H 1 TrydT.st33 (by decide) rfl rfl rfl (SlC.of_blk (n := 1) (H.l 0 rfl) rfl) (by exact one_lit _ rfl) (by omega) (by decide) rfl ?_
      intro v34 w10 H
      refine WL.as rfl rfl ?_
      refine WL.nil ?_
      refine WE.reg ?_
      refine WL.mv rfl rfl ?_
      refine WL.pv (PV.eq (v' := .int .i64 (56 - 8 * ((i + 1 : Nat) : Int))) (PV.sub64 rfl rfl rfl (by omega) (by omega)) (by congr 1; omega)) rfl ?_
      refine WL.as rfl rfl ?_
      refine WL.nil ?_
      replace H := H.forget 0
      have e := kc_snoc (la ++ 128 :: List.replicate (zc la.length) 0) (be8 (8 * la.length)) i (by rw [be8_length]; omega)
      rw [be8_get] at e
      exact ⟨(i + 1, v34), (by repeat (first | with_reducible exact Off.refl _ _ | refine Off.upd rfl ?_ | refine Off.setAll rfl ?_ | refine Off.forget' rfl ?_)), ⟨rfl, rfl, trivial⟩, rfl, ⟨by dsimp only; omega, H.conv (by rw [e]; rfl)⟩, (by dsimp only; omega)⟩
    · skip
      try simp only [decide_eq_true_eq, decide_eq_false_iff_not, ne_eq, Decidable.not_not, Bool.not_eq_true', Bool.not_eq_false', Bool.and_eq_true, Bool.or_eq_true, Bool.not_not, Bool.and_eq_false_iff, Bool.or_eq_false_iff, Int.not_lt, Int.not_le] at hc24
      obtain rfl : i = 8 := by omega
      refine WE.exit ?_
      refine WE.seq_reg ?_
      refine WL.mv rfl rfl ?_
      refine WL.as rfl rfl ?_
      refine WL.nil ?_
      refine WE.ret ?_
      refine ⟨[_], _, .nil _, ⟨rfl, trivial⟩, ?_⟩
      replace H := H.freeze (i := 0) rfl
      exact ⟨H.toOut0, H.give ((H.rob 0 rfl).imp fun _ h => by have := SlB.of_own h; rw [List.take_of_length_le (by rw [be8_length]; omega), List.append_assoc, List.cons_append] at this; exact this)⟩

end Go.Sp.Tryd
