/- Walks of functions, printed by a program of this session (gen.py) from notes on each function. -/
import Derived.Test.YtcfkkhljekopgaaDoorSc
set_option maxRecDepth 100000
set_option maxHeartbeats 1000000
set_option linter.unusedVariables false
set_option linter.unusedSimpArgs false
namespace Go.Sp.Tryd
open Go.Proofs Go.RowKit Go.Sp

theorem padT {n : Nat} (h : n ≤ 1152921504606846976) : 64 * blocksOf (n : Int) = ((n + 9 + zc n : Nat) : Int) := by
  unfold blocksOf zc
  rw [if_neg (by omega)]
  omega
/-- the padding while its length is written, from behind -/
def padC (l : List UInt8) (i : Nat) : List UInt8 := (l ++ 128 :: List.replicate (zc l.length + (8 - i)) 0) ++ (be8 (8 * l.length)).drop (8 - i)
theorem padC_zero (l : List UInt8) : padC l 0 = l ++ 128 :: List.replicate (zc l.length + 8) 0 := by
  unfold padC
  rw [List.drop_eq_nil_of_le (by rw [be8_length]; omega), List.append_nil]
theorem padC_eight (l : List UInt8) : padC l 8 = padOf l := by simp [padC, padOf]
theorem padC_length (l : List UInt8) (i : Nat) (hi : i ≤ 8) : (padC l i).length = l.length + 9 + zc l.length := by
  simp [padC, be8_length]; omega
theorem padC_set (l : List UInt8) (i : Nat) (hi : i < 8) : (padC l i).set (l.length + 8 + zc l.length - i) (UInt8.ofNat (8 * l.length / 2 ^ (8 * i))) = padC l (i + 1) := by
  have hb := be8_length (8 * l.length)
  have h7 : 7 - i < (be8 (8 * l.length)).length := by omega
  have hd : (be8 (8 * l.length)).drop (8 - (i + 1)) = UInt8.ofNat (8 * l.length / 2 ^ (8 * i)) :: (be8 (8 * l.length)).drop (8 - i) := by
    rw [show 8 - (i + 1) = 7 - i by omega, List.drop_eq_getElem_cons h7, be8_get, show 7 - i + 1 = 8 - i by omega, show 56 - 8 * (7 - i) = 8 * i by omega]
  unfold padC
  rw [hd]
  have hr : l ++ 128 :: List.replicate (zc l.length + (8 - i)) 0 = (l ++ 128 :: List.replicate (zc l.length + (8 - (i + 1))) 0) ++ [0] := by
    rw [show zc l.length + (8 - i) = (zc l.length + (8 - (i + 1))) + 1 by omega, List.replicate_succ', ← List.cons_append, ← List.append_assoc]
  have hlen : (l ++ 128 :: List.replicate (zc l.length + (8 - (i + 1))) (0 : UInt8)).length = l.length + 8 + zc l.length - i := by simp; omega
  rw [hr, List.append_assoc, ← hlen, List.set_append_right _ _ (Nat.le_refl _), Nat.sub_self]
  rfl
theorem copy_front (l : List UInt8) (m : Nat) : Laid (kc (List.replicate (l.length + m) 0)) 0 ((kc l).take (min l.length (l.length + m))) (kc (l ++ List.replicate m 0)) := by
  have e : (kc l).take (min l.length (l.length + m)) = kc l := by rw [show min l.length (l.length + m) = l.length by omega]; exact List.take_of_length_le (by rw [kc_length]; omega)
  rw [e, ← List.replicate_append_replicate]
  have : Laid (kc (List.replicate l.length 0)) 0 (kc l) (kc l) := Laid.all (by simp [kc_length])
  have h2 := Laid.left (b := kc (List.replicate m 0)) this
  rwa [← kc_append, ← kc_append] at h2
theorem set_front (l : List UInt8) (m : Nat) : (l ++ List.replicate (m + 1) (0 : UInt8)).set l.length 128 = l ++ 128 :: List.replicate m 0 := by
  rw [List.set_append_right _ _ (Nat.le_refl _), Nat.sub_self]; rfl

theorem PadO_c {X : Nat → Prop} {w : World} {a : Value} {la : List UInt8} (hX : ∀ b, X b → b < w.heap.size) (hf0 : Rob X (SlB a la) w) (hla : la.length ≤ 1000000000) :
    Ret Tryd.prog 85 [a].toArray w fun v w' => Out Nil w w' ∧ ∃ b, v = .slice (some ⟨b, 0, none⟩) (padOf la).length (padOf la).length ∧ w.heap.size ≤ b ∧ Blk w' b 5 (kc (padOf la)) := by
  refine Ret.of_body (N := 39) Tryd.func85 rfl rfl (by simp) ?_
  have H := St.begin hX
  replace H := H.add (rob0 hf0)
  have hz64 : zc la.length < 64 := by unfold zc; omega
  have hT := padT (n := la.length) (by omega)
  refine WE.seq_reg ?_
  refine WL.as rfl rfl ?_
  refine WL.nil ?_
  refine WE.seq_reg ?_
  refine WL.mv rfl rfl ?_
  refine WL.pv (PV.lenS (H.p 0 rfl) TrydT.sl33 rfl) rfl ?_
  refine WL.call TrydT.fb97 rfl (Blocks_c (n := (la.length : Int)) H.yylt (by omega)) ?_
  rintro _ w1 ⟨rfl, hO⟩
  replace H := H.out hO
  refine WL.pv (PV.eq (v' := .int .i64 (((la.length + 9 + zc la.length) : Nat) : Int)) (PV.mul64 rfl rfl rfl (by omega) (by omega)) (by congr 1)) rfl ?_
  refine WL.makeSlice (n := (la.length + 9 + zc la.length)) H rfl TrydT.st33 rfl (by omega) (by omega) rfl ?_
  intro b10 w3 H
  replace H := H.conv (L' := [Ent.blk b10 5 (kc (List.replicate (la.length + (8 + zc la.length + 1)) 0))]) (by rw [zrow_one, show la.length + (8 + zc la.length + 1) = (la.length + 9 + zc la.length) by omega]; simp [kc])
  refine WL.as rfl rfl ?_
  refine WL.nil ?_
  refine WE.seq_reg ?_
  refine WL.mv rfl rfl ?_
  refine WL.mv rfl rfl ?_
  refine WL.copy H 0 TrydT.sl33 TrydT.sz5 rfl rfl rfl (H.p 0 rfl) (by exact kc_one _) (by have := copy_front la (8 + zc la.length + 1); rw [show la.length + (8 + zc la.length + 1) = (la.length + 9 + zc la.length) by omega] at this ⊢; exact this) rfl ?_
  intro w5 H
  refine WL.nil ?_
  refine WE.seq_reg ?_
  refine WL.mv rfl rfl ?_
  refine WL.mv rfl rfl ?_
  refine WL.pv (PV.lenS (H.p 0 rfl) TrydT.sl33 rfl) rfl ?_
  refine WL.pv (PV.indexSl rfl TrydT.sl33 TrydT.sz5 rfl rfl (by omega) (by omega)) rfl ?_
  refine WL.storeL H 0 rfl rfl rfl (new := _) rfl (by exact TrydT.sz5) (by exact one_lit _ rfl) (Laid.at (Laid.byteA (x := 128) la.length (by simp)) (by simp)) rfl ?_
  intro w6 H
  replace H := H.conv (L' := [Ent.blk b10 5 (kc (padC la 0))]) (by rw [padC_zero, set_front, Nat.add_comm 8]; rfl)
  refine WL.nil ?_
  refine WE.seq_reg ?_
  refine WL.mv rfl rfl ?_
  refine WL.pv (PV.lenS (H.p 0 rfl) TrydT.sl33 rfl) rfl ?_
  refine WL.pv (PV.convN (n := la.length) rfl TrydT.in3 TrydT.in139 rfl rfl (by omega)) rfl ?_
  refine WL.pv (PV.mulN (m := la.length) (n := 8) (q := 8 * la.length) rfl rfl rfl (by omega) (by omega)) rfl ?_
  refine WL.as rfl rfl ?_
  refine WL.nil ?_
  refine WE.seq ?_
  refine WE.seq_reg ?_
  refine WL.mv rfl rfl ?_
  refine WL.nil ?_
  refine WE.block ?_
  refine WE.loop (α := Nat) [5, 22, 23, 24, 25, 26, 27, 28, 29, 30, 31, 32, 33, 34, 35, 36, 37] (fun i => [(22, .int .i64 i)]) (fun i wl => i ≤ 8 ∧ St X w wl [] [Ent.blk b10 5 (kc (padC la i))] [SlB a la]) (fun i => 8 - i) 0 ⟨rfl, trivial⟩ ⟨Nat.zero_le _, H⟩ ?_
  intro i γ0 w7 hI
  try dsimp only at hI
  obtain ⟨hi, H⟩ := hI
  refine WE.seq_reg ?_
  refine WL.pv (PV.lss rfl rfl rfl) rfl ?_
  refine WL.nil ?_
  refine WE.seq ?_
  refine WE.cond rfl (fun hc23 => ?_) (fun hc23 => ?_)
  · skip
    try simp only [decide_eq_true_eq, decide_eq_false_iff_not, ne_eq, Decidable.not_not, Bool.not_eq_true', Bool.not_eq_false', Bool.and_eq_true, Bool.or_eq_true, Bool.not_not, Bool.and_eq_false_iff, Bool.or_eq_false_iff, Int.not_lt, Int.not_le] at hc23
    have hi8 : i < 8 := by omega
    refine WE.skip ?_
    refine WE.seq ?_
    refine WE.block ?_
    refine WE.seq_reg ?_
    refine WL.mv rfl rfl ?_
    refine WL.as rfl rfl ?_
    refine WL.nil ?_
    refine WE.reg ?_
    refine WL.mv rfl rfl ?_
    refine WL.mv rfl rfl ?_
    refine WL.pv (PV.lenSl TrydT.sl33 rfl) rfl ?_
    refine WL.pv (PV.eq (v' := .int .i64 ((la.length + 8 + zc la.length : Nat) : Int)) (PV.sub64 rfl rfl rfl (by omega) (by omega)) (by congr 1; omega)) rfl ?_
    refine WL.mv rfl rfl ?_
    refine WL.pv (PV.eq (v' := .int .i64 ((la.length + 8 + zc la.length - i : Nat) : Int)) (PV.sub64 rfl rfl rfl (by omega) (by omega)) (by congr 1; omega)) rfl ?_
    refine WL.mv rfl rfl ?_
    refine WL.mv rfl rfl ?_
    refine WL.pv (PV.eq (v' := .int .i64 ((8 * i : Nat) : Int)) (PV.mul64 rfl rfl rfl (by omega) (by omega)) (by congr 1)) rfl ?_
    refine WL.pv (PV.shrN (m := 8 * la.length) (n := 8 * i) rfl rfl rfl (show _ < 64 by omega)) rfl ?_
    refine WL.pv (PV.cN_8 (n := 8 * la.length / 2 ^ (8 * i)) rfl TrydT.in139 TrydT.in5 rfl) rfl ?_
    refine WL.pv (PV.indexSl rfl TrydT.sl33 TrydT.sz5 rfl rfl (by omega) (by omega)) rfl ?_
    refine WL.storeL H 0 rfl rfl rfl (new := _) rfl (by exact TrydT.sz5) (by exact one_lit _ rfl) (Laid.at (Laid.byteA (la.length + 8 + zc la.length - i) (by rw [padC_length _ _ (by omega)]; omega)) (by simp)) rfl ?_
    intro w8 H
    refine WL.nil ?_
    refine WE.reg ?_
    refine WL.pv (PV.add64 rfl rfl rfl (by omega) (by omega)) rfl ?_
    refine WL.mv rfl rfl ?_
    refine WL.nil ?_
    have e := padC_set la i hi8
    exact ⟨i + 1, (by repeat (first | with_reducible exact Off.refl _ _ | refine Off.upd rfl ?_ | refine Off.setAll rfl ?_ | refine Off.forget' rfl ?_)), ⟨rfl, trivial⟩, rfl, ⟨by omega, H.conv (by rw [← e]; rfl)⟩, (by omega)⟩
  · skip
    try simp only [decide_eq_true_eq, decide_eq_false_iff_not, ne_eq, Decidable.not_not, Bool.not_eq_true', Bool.not_eq_false', Bool.and_eq_true, Bool.or_eq_true, Bool.not_not, Bool.and_eq_false_iff, Bool.or_eq_false_iff, Int.not_lt, Int.not_le] at hc23
    obtain rfl : i = 8 := by omega
    refine WE.exit ?_
    refine WE.seq_reg ?_
    refine WL.mv rfl rfl ?_
    refine WL.as rfl rfl ?_
    refine WL.nil ?_
    refine WE.ret ?_
    refine ⟨[_], _, .nil _, ⟨rfl, trivial⟩, ?_⟩
    rw [padC_eight] at H
    exact ⟨H.toOut0, b10, by rw [padOf_length]; rfl, H.geL _ (List.mem_of_getElem? (i := 0) rfl) _ rfl, H.l 0 rfl⟩


theorem Pad_c {X : Nat → Prop} {w : World} {a : Value} {la : List UInt8} (hX : ∀ b, X b → b < w.heap.size) (hf0 : Rob X (SlB a la) w) (hla : la.length ≤ 1000000000) :
    Ret Tryd.prog 85 [a].toArray w fun v w' => Out Nil w w' ∧ Rob X (SlB v (padOf la)) w' :=
  (PadO_c hX hf0 hla).mono fun v w' ⟨hO, b, hv, hb, h⟩ => ⟨hO, by subst hv; exact (rob_new hX hb h).imp fun _ h => SlB.of_blk h rfl⟩

end Go.Sp.Tryd
