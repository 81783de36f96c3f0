/- Walks of functions, printed by a program of this session (gen.py) from notes on each function. -/
import Derived.Test.YtcclagdjpoimaaaGreatDoorG2
set_option maxRecDepth 100000
set_option maxHeartbeats 1000000
set_option linter.unusedVariables false
set_option linter.unusedSimpArgs false
namespace Go.Sp.Tryz
open Go.Proofs Go.RowKit Go.Sp

theorem ch_eq (e f g : UInt32) : g ^^^ (e &&& (f ^^^ g)) = (e &&& f) ^^^ (~~~e &&& g) := by
  apply UInt32.toBitVec_inj.1
  apply BitVec.eq_of_getLsbD_eq
  intro i hi
  simp [hi]
  generalize e.toBitVec[i] = p
  generalize f.toBitVec[i] = q
  generalize g.toBitVec[i] = r
  revert p q r; decide
theorem maj_eq (a b c : UInt32) : (a &&& b) ||| (c &&& (a ||| b)) = ((a &&& b) ^^^ (a &&& c)) ^^^ (b &&& c) := by
  apply UInt32.toBitVec_inj.1
  apply BitVec.eq_of_getLsbD_eq
  intro i hi
  simp [hi]
  generalize a.toBitVec[i] = p
  generalize b.toBitVec[i] = q
  generalize c.toBitVec[i] = r
  revert p q r; decide
theorem rights2 (x : UInt32) (m n : Nat) : rights x [m, n] = rotr x m ^^^ rotr x n := by simp [rights]
theorem rights3 (x : UInt32) (l m n : Nat) : rights x [l, m, n] = (rotr x l ^^^ rotr x m) ^^^ rotr x n := by simp [rights]
def idx16 (i j : Nat) : Nat := max i 16 - 1 - ((max i 16 - 1 - j) % 16)
def win (W : List UInt32) (i : Nat) : List UInt32 := (List.range 16).map fun j => W.getD (idx16 i j) 0
theorem win_length (W : List UInt32) (i : Nat) : (win W i).length = 16 := by simp [win]
theorem win_get (W : List UInt32) (i j m : Nat) (hj : j < (win W i).length) (hm : idx16 i j = m) (h : m < W.length) : (win W i)[j] = W[m] := by
  subst hm
  simp [win, h]
theorem win_set (W : List UInt32) (i : Nat) (hi : 16 ≤ i) (h : i < W.length) : (win W i).set (i % 16) W[i] = win W (i + 1) := by
  apply List.ext_getElem
  · simp [win]
  · intro j h1 h2
    rw [win_length] at h2
    rw [List.getElem_set]
    by_cases hj : i % 16 = j
    · rw [if_pos hj]
      rw [win_get W (i + 1) j i _ (by unfold idx16; omega) h]
    · rw [if_neg hj]
      simp only [win, List.getElem_map, List.getElem_range]
      congr 1
      unfold idx16
      omega
theorem win_small (W : List UInt32) (i : Nat) (hi : i < 16) : win W (i + 1) = win W i := by
  unfold win
  apply List.map_congr_left
  intro j _
  congr 1
  unfold idx16
  omega
theorem acc_word (a b c d : UInt32) : ((((0 <<< UInt32.ofNat 8 ||| a) <<< UInt32.ofNat 8 ||| b) <<< UInt32.ofNat 8 ||| c) <<< UInt32.ofNat 8 ||| d) =
    ((a <<< UInt32.ofNat 24 ||| b <<< UInt32.ofNat 16) ||| c <<< UInt32.ofNat 8) ||| d := by
  have h : ∀ x : UInt32, ∀ m n : Nat, m + n < 32 → (x <<< UInt32.ofNat m) <<< UInt32.ofNat n = x <<< UInt32.ofNat (m + n) := by
    intro x m n hmn
    apply UInt32.toNat_inj.1
    rw [UInt32.toNat_shiftLeft, UInt32.toNat_shiftLeft, UInt32.toNat_shiftLeft, toNat_ofNat32 (by omega), toNat_ofNat32 (by omega), toNat_ofNat32 hmn]
    rw [Nat.shiftLeft_add]
    simp only [Nat.shiftLeft_eq]
    rw [Nat.mod_mul_mod]
  have ho : ∀ x y : UInt32, (x ||| y) <<< UInt32.ofNat 8 = x <<< UInt32.ofNat 8 ||| y <<< UInt32.ofNat 8 := by
    intro x y
    apply UInt32.toNat_inj.1
    simp only [UInt32.toNat_shiftLeft, UInt32.toNat_or, toNat_ofNat32 (show 8 < 32 by omega)]
    rw [Nat.shiftLeft_or_distrib, Nat.or_mod_two_pow]
  have h0 : (0 : UInt32) <<< UInt32.ofNat 8 = 0 := by decide
  simp only [h0, ho, h _ 8 8 (by omega), h _ 16 8 (by omega), UInt32.zero_or]
def wfil (b : List UInt8) (i : Nat) : List UInt32 := (List.range 16).map fun j => if j < i then word b j else 0
def accw (b : List UInt8) (i : Nat) : Nat → UInt32
  | 0 => 0
  | j + 1 => accw b i j <<< UInt32.ofNat 8 ||| (b.getD (4 * i + j) 0).toUInt32
theorem accw_four (b : List UInt8) (i : Nat) : accw b i 4 = word b i := by
  simp only [accw, word, Nat.add_zero]
  exact acc_word _ _ _ _
theorem wfil_length (b : List UInt8) (i : Nat) : (wfil b i).length = 16 := by simp [wfil]
theorem wfil_zero (b : List UInt8) : wfil b 0 = List.replicate 16 0 := by simp [wfil]; rfl
theorem wfil_set0 (b : List UInt8) (i : Nat) (hi : i < 16) : (wfil b i).set i 0 = wfil b i := by
  apply List.ext_getElem
  · simp
  · intro j h1 h2
    rw [List.getElem_set]
    split
    · rename_i h; subst h; simp [wfil]
    · rfl
theorem wfil_set (b : List UInt8) (i : Nat) (hi : i < 16) : (wfil b i).set i (word b i) = wfil b (i + 1) := by
  apply List.ext_getElem
  · simp [wfil]
  · intro j h1 h2
    rw [wfil_length] at h2
    rw [List.getElem_set]
    split
    · rename_i h; subst h; simp [wfil]
    · rename_i h
      simp only [wfil, List.getElem_map, List.getElem_range]
      by_cases h3 : j < i
      · rw [if_pos h3, if_pos (by omega)]
      · rw [if_neg h3, if_neg (by omega)]

theorem getD_app {α : Type} {l m : List α} {d : α} {i : Nat} (h : i < l.length) : (l ++ m).getD i d = l.getD i d := by simp [List.getD, List.getElem?_append_left h]
theorem getD_end {α : Type} (l : List α) (x d : α) : (l ++ [x]).getD l.length d = x := by simp [List.getD]
theorem sched_prefix (b : List UInt8) (k i : Nat) (hi : i < 16 + k) : ∀ m, k ≤ m → (sched b m).getD i 0 = (sched b k).getD i 0 := by
  intro m hm
  induction m with
  | zero => obtain rfl : k = 0 := by omega
            rfl
  | succ m ih =>
    by_cases h : k = m + 1
    · subst h; rfl
    · rw [← ih (by omega)]
      have hl := sched_length b m
      show (ext (sched b m)).getD i 0 = _
      unfold ext
      rw [getD_app (by omega)]
theorem sched_w (b : List UInt8) (i : Nat) (h : 16 ≤ i) (h2 : i < 64) : (sched b 48).getD i 0 =
    (((sched b 48).getD (i - 16) 0 + sg0 ((sched b 48).getD (i - 15) 0)) + (sched b 48).getD (i - 7) 0) + sg1 ((sched b 48).getD (i - 2) 0) := by
  have hl := sched_length b (i - 16)
  rw [sched_prefix b (i - 16 + 1) i (by omega) 48 (by omega), sched_prefix b (i - 16) (i - 16) (by omega) 48 (by omega), sched_prefix b (i - 16) (i - 15) (by omega) 48 (by omega),
    sched_prefix b (i - 16) (i - 7) (by omega) 48 (by omega), sched_prefix b (i - 16) (i - 2) (by omega) 48 (by omega)]
  show (ext (sched b (i - 16))).getD i 0 = _
  unfold ext
  rw [hl, show 16 + (i - 16) - 16 = i - 16 by omega, show 16 + (i - 16) - 15 = i - 15 by omega, show 16 + (i - 16) - 7 = i - 7 by omega, show 16 + (i - 16) - 2 = i - 2 by omega]
  have e : ∀ x : UInt32, (sched b (i - 16) ++ [x]).getD i 0 = x := fun x => by
    have h3 := getD_end (sched b (i - 16)) x 0
    rwa [show (sched b (i - 16)).length = i by omega] at h3
  exact e _
theorem take_t (R : List UInt32) (k w : UInt32) : (((R.getD 7 0 + rights (R.getD 4 0) [6, 11, 25]) + (R.getD 6 0 ^^^ (R.getD 4 0 &&& (R.getD 5 0 ^^^ R.getD 6 0)))) + k) + w = t1f R k w := by
  rw [t1f, rights3, ch_eq]
theorem take_a (R : List UInt32) (t : UInt32) : (t + rights (R.getD 0 0) [2, 13, 22]) + ((R.getD 0 0 &&& R.getD 1 0) ||| (R.getD 2 0 &&& (R.getD 0 0 ||| R.getD 1 0))) = t + t2f R := by
  rw [t2f, rights3, maj_eq, UInt32.add_assoc]
theorem take_w (a x y z : UInt32) : a + (((rights x [7, 18] ^^^ (x >>> UInt32.ofNat 3)) + z) + (rights y [17, 19] ^^^ (y >>> UInt32.ofNat 10))) = ((a + sg0 x) + z) + sg1 y := by
  rw [sg0, sg1, rights2, rights2, UInt32.add_assoc, UInt32.add_assoc]
  simp only [UInt32.add_assoc]
theorem kw8 (R : List UInt32) (h : R.length = 8) : [Value.int .u32 ((R.getD 0 0).toNat : Int), .int .u32 ((R.getD 1 0).toNat : Int), .int .u32 ((R.getD 2 0).toNat : Int), .int .u32 ((R.getD 3 0).toNat : Int),
    .int .u32 ((R.getD 4 0).toNat : Int), .int .u32 ((R.getD 5 0).toNat : Int), .int .u32 ((R.getD 6 0).toNat : Int), .int .u32 ((R.getD 7 0).toNat : Int)] = kw R := by
  match R, h with
  | [a, b, c, d, e, f, g, i], _ => rfl
theorem kw_getD (l : List UInt32) (i : Nat) (h : i < l.length) : (kw l)[i]? = some (.int .u32 ((l.getD i 0).toNat : Int)) := by
  simp [kw, h]
theorem win_getD (W : List UInt32) (i j m : Nat) (hj : j < 16) (hm : idx16 i j = m) (h : m < W.length) : (win W i)[j]'(by rw [win_length]; exact hj) = W.getD m 0 := by
  rw [win_get W i j m _ hm h, getD_at h]
theorem SlN.of_blk {w : World} {b n : Nat} {e : TypeId} {l : List Nat} (h : Blk w b e (l.map fun (n : Nat) => Value.int .i64 (n : Int))) (hn : l.length = n) : SlN (.slice (some ⟨b, 0, none⟩) n n) l w :=
  SlV.of_blk h (by simpa using hn)
theorem win_wfil (b : List UInt8) : wfil b 16 = win (sched b 48) 0 := by
  apply List.ext_getElem
  · rw [wfil_length, win_length]
  · intro j h1 h2
    rw [wfil_length] at h1
    rw [win_getD (sched b 48) 0 j j h1 (by unfold idx16; omega) (by rw [sched_length]; omega), sched_prefix b 0 j (by omega) 48 (by omega)]
    simp [wfil, sched, h1]

theorem Blk.winrd {w : World} {b o : Nat} {t : TypeId} {W : List UInt32} {i : Nat} (h : Blk w b t (kw (win W i))) (j m : Nat) (hj : j < 16) (ho : o = j) (hm : idx16 i j = m) (hW : m < W.length) : RdA w ⟨b, o, none⟩ [.int .u32 ((W.getD m 0).toNat : Int)] := by
  have h1 := Blk.segAt h (Seg.word j (by rw [win_length]; exact hj)) ho
  rwa [win_getD W i j m hj hm hW] at h1
theorem win_setD (W : List UInt32) (i : Nat) (hi : 16 ≤ i) (h : i < W.length) : (win W i).set (i % 16) (W.getD i 0) = win W (i + 1) := by
  rw [getD_at h]; exact win_set W i hi h
theorem kw_get (l : List UInt32) (i : Nat) (h : i < l.length) : (kw l)[i]? = some (.int .u32 (l[i].toNat : Int)) := by simp [kw, h]
theorem SlB.rdSub {w : World} {v : Value} {l : List UInt8} {lo hi : Nat} (h : SlB (subSl v 1 lo hi) ((l.drop lo).take (hi - lo)) w) (j : Nat) (hj : j < hi - lo) (hl : hi ≤ l.length) : RdA w (sAddr (subSl v 1 lo hi) (j * 1)) [.int .u8 ((l.getD (lo + j) 0).toNat : Int)] := by
  have h1 := SlB.rd h j (by simp; omega)
  have e : ((l.drop lo).take (hi - lo))[j]'(by simp; omega) = l.getD (lo + j) 0 := by
    rw [getD_at (by omega)]; simp
  rwa [e] at h1
theorem Blk.rdD {w : World} {b o : Nat} {t : TypeId} {l : List UInt32} (h : Blk w b t (kw l)) (i : Nat) (hi : i < l.length) (ho : o = i) : RdA w ⟨b, o, none⟩ [.int .u32 ((l.getD i 0).toNat : Int)] := by
  have h1 := Blk.segAt h (Seg.word i hi) ho
  rwa [← getD_at (d := 0)] at h1
def Rounds (w : World) : Prop := RdA w ⟨0, 0, none⟩ (kw roundsL)

theorem take_c {X : Nat → Prop} {w : World} {b : Nat} {s : List UInt32} {a : Value} {la : List UInt8} (hX : ∀ b, X b → b < w.heap.size) (ho0 : Blk w b 149 (kw s)) (hf0 : Rob (fun c_ => X c_ ∨ c_ = b) (SlB a la) w) (hf1 : Rob (fun c_ => X c_ ∨ c_ = b) (Rounds) w) (hla : la.length = 64) (hs : s.length = 8) :
    Ret Tryz.prog 98 [.pointer (some ⟨b, 0, none⟩), a].toArray w fun v w' => v = .tuple #[] ∧ Out (· = b) w w' ∧ Blk w' b 149 (kw (comp s la)) := by
  refine Ret.of_body (N := 192) Tryz.func98 rfl rfl (by simp) ?_
  have H := St.begin1 (b := b) (t := 149) (l := kw s) hX ho0
  replace H := H.add (rob1 hf1)
  replace H := H.add (rob1 hf0)
  have hWl : (sched la 48).length = 64 := sched_length _ _
  refine WE.seq_reg ?_
  refine WL.alloc H rfl TryzT.ze174 rfl ?_
  intro b4 w1 H
  refine WL.nil ?_
  refine WE.seq ?_
  refine WE.seq_reg ?_
  refine WL.mv rfl rfl ?_
  replace H := H.conv (L' := [Ent.blk b4 174 (kw (wfil la 0))]) (by rw [wfil_zero])
  refine WL.nil ?_
  refine WE.block ?_
  refine WE.loop (α := Nat) [5, 7, 24, 25, 26, 27, 28, 29, 30, 31, 32, 33, 34, 35, 36, 37, 38, 39, 40, 41, 42, 43, 44, 45, 46, 47, 48, 49] (fun i => [(24, .int .i64 i)]) (fun i wl => i ≤ 16 ∧ St X w wl [Ent.blk b 149 (kw s)] [Ent.blk b4 174 (kw (wfil la i))] [SlB a la, Rounds]) (fun i => 16 - i) 0 ⟨rfl, trivial⟩ ⟨Nat.zero_le _, H⟩ ?_
  intro i γ0 w2 hI
  try dsimp only at hI
  obtain ⟨hi, H⟩ := hI
  refine WE.seq_reg ?_
  refine WL.pv (PV.lss rfl rfl rfl) rfl ?_
  refine WL.nil ?_
  refine WE.seq ?_
  refine WE.cond rfl (fun hc25 => ?_) (fun hc25 => ?_)
  · skip
    try simp only [decide_eq_true_eq, decide_eq_false_iff_not, ne_eq, Decidable.not_not, Bool.not_eq_true', Bool.not_eq_false', Bool.and_eq_true, Bool.or_eq_true, Bool.not_not, Bool.and_eq_false_iff, Bool.or_eq_false_iff, Int.not_lt, Int.not_le] at hc25
    have hlt : i < 16 := by omega
    refine WE.skip ?_
    refine WE.seq ?_
    refine WE.block ?_
    refine WE.seq_reg ?_
    refine WL.mv rfl rfl ?_
    refine WL.as rfl rfl ?_
    refine WL.nil ?_
    refine WE.seq_reg ?_
    refine WL.mv rfl rfl ?_
    refine WL.mv rfl rfl ?_
    refine WL.pv (PV.mul64 rfl rfl rfl (by omega) (by omega)) rfl ?_
    refine WL.mv rfl rfl ?_
    refine WL.pv (PV.mul64 rfl rfl rfl (by omega) (by omega)) rfl ?_
    refine WL.pv (PV.add64 rfl rfl rfl (by omega) (by omega)) rfl ?_
    refine WL.pv (PV.eq (v' := subSl a 1 (4 * i) (4 * i + 4)) (PV.subLH rfl (H.p 0 rfl) TryzT.sl32 TryzT.sz5 rfl rfl rfl (by omega) (by omega)) (by congr 1 <;> omega)) rfl ?_
    replace H := H.add ((H.rob 0 rfl).imp fun _ h => SlB.sub (lo := 4 * i) (hi := 4 * i + 4) h (by omega) (by omega))
    refine WL.pv (PV.eq (v' := .int .i64 4) (PV.lenS (H.p 0 rfl) TryzT.sl32 rfl) (by simp; omega)) rfl ?_
    refine WL.mv rfl rfl ?_
    refine WL.nil ?_
    refine WE.block ?_
    refine WE.loop (α := Nat) [7, 35, 36, 37, 38, 39, 40, 41, 42, 43, 44, 45, 46, 47, 48] (fun j => [(35, .int .i64 j)]) (fun j wl => j ≤ 4 ∧ St X w wl [Ent.blk b 149 (kw s)] [Ent.blk b4 174 (kw ((wfil la i).set i (accw la i j)))] [SlB (subSl a 1 (4 * i) (4 * i + 4)) ((la.drop (4 * i)).take (4 * i + 4 - 4 * i)), SlB a la, Rounds]) (fun j => 4 - j) 0 ⟨rfl, trivial⟩ ⟨Nat.zero_le _, H.conv (by rw [show accw la i 0 = 0 from rfl, wfil_set0 _ _ hlt])⟩ ?_
    intro j γ1 w3 hI
    try dsimp only at hI
    obtain ⟨hj, H⟩ := hI
    refine WE.seq_reg ?_
    refine WL.pv (PV.lss rfl rfl rfl) rfl ?_
    refine WL.nil ?_
    refine WE.seq ?_
    refine WE.cond rfl (fun hc36 => ?_) (fun hc36 => ?_)
    · skip
      try simp only [decide_eq_true_eq, decide_eq_false_iff_not, ne_eq, Decidable.not_not, Bool.not_eq_true', Bool.not_eq_false', Bool.and_eq_true, Bool.or_eq_true, Bool.not_not, Bool.and_eq_false_iff, Bool.or_eq_false_iff, Int.not_lt, Int.not_le] at hc36
      have hj4 : j < 4 := by omega
      refine WE.skip ?_
      refine WE.seq ?_
      refine WE.block ?_
      refine WE.seq_reg ?_
      refine WL.pv (PV.idxS rfl (H.p 0 rfl) TryzT.sl32 TryzT.sz5 rfl rfl (by omega) (by simp; omega)) rfl ?_
      refine WL.load1 rfl TryzT.ag5 rfl rfl (SlB.rdSub (H.p 0 rfl) j (by omega) (by omega)) ?_
      refine WL.as rfl rfl ?_
      refine WL.nil ?_
      refine WE.reg ?_
      refine WL.mv rfl rfl ?_
      refine WL.mv rfl rfl ?_
      refine WL.pv (PV.indexArr rfl TryzT.ar174 TryzT.sz147 rfl rfl (by omega) (by omega)) rfl ?_
      refine WL.load1 rfl TryzT.ag147 rfl rfl (by have h1 := Blk.segAt (o' := 0 + (i : Int).toNat * 1) (H.l 0 rfl) (Seg.word i (by simp [wfil_length]; omega)) (by omega); rw [List.getElem_set_self] at h1; exact h1) ?_
      refine WL.pv (PV.shl32 (n := 8) rfl rfl rfl (by omega)) rfl ?_
      refine WL.mv rfl rfl ?_
      refine WL.pv (PV.c8_32 rfl TryzT.in5 TryzT.in147 rfl) rfl ?_
      refine WL.pv (PV.or32 rfl rfl rfl) rfl ?_
      refine WL.pv (PV.indexArr rfl TryzT.ar174 TryzT.sz147 rfl rfl (by omega) (by omega)) rfl ?_
      refine WL.storeL H 0 rfl rfl rfl (new := _) rfl (by exact TryzT.sz147) (by exact one_lit _ rfl) (Laid.at (Laid.wordA i (by simp [wfil_length]; omega)) (by (simp; done))) rfl ?_
      intro w4 H
      refine WL.nil ?_
      refine WE.reg ?_
      refine WL.pv (PV.add64 rfl rfl rfl (by omega) (by omega)) rfl ?_
      refine WL.mv rfl rfl ?_
      refine WL.nil ?_
      replace H := H.conv (L' := [Ent.blk b4 174 (kw ((wfil la i).set i (accw la i (j + 1))))]) (by rw [List.set_set]; rfl)
      exact ⟨j + 1, (by repeat (first | with_reducible exact Off.refl _ _ | refine Off.upd rfl ?_ | refine Off.setAll rfl ?_ | refine Off.forget' rfl ?_)), ⟨rfl, trivial⟩, rfl, ⟨by omega, H⟩, (by omega)⟩
    · skip
      try simp only [decide_eq_true_eq, decide_eq_false_iff_not, ne_eq, Decidable.not_not, Bool.not_eq_true', Bool.not_eq_false', Bool.and_eq_true, Bool.or_eq_true, Bool.not_not, Bool.and_eq_false_iff, Bool.or_eq_false_iff, Int.not_lt, Int.not_le] at hc36
      obtain rfl : j = 4 := by omega
      refine WE.exit ?_
      refine WE.reg ?_
      refine WL.pv (PV.add64 rfl rfl rfl (by omega) (by omega)) rfl ?_
      refine WL.mv rfl rfl ?_
      refine WL.nil ?_
      replace H := H.conv (L' := [Ent.blk b4 174 (kw (wfil la (i + 1)))]) (by rw [accw_four, wfil_set _ _ hlt])
      replace H := H.drop (fun p hp => List.mem_cons_of_mem _ hp)
      exact ⟨i + 1, (by repeat (first | with_reducible exact Off.refl _ _ | refine Off.upd rfl ?_ | refine Off.setAll rfl ?_ | refine Off.forget' rfl ?_)), ⟨rfl, trivial⟩, rfl, ⟨by omega, H⟩, (by omega)⟩
  · skip
    try simp only [decide_eq_true_eq, decide_eq_false_iff_not, ne_eq, Decidable.not_not, Bool.not_eq_true', Bool.not_eq_false', Bool.and_eq_true, Bool.or_eq_true, Bool.not_not, Bool.and_eq_false_iff, Bool.or_eq_false_iff, Int.not_lt, Int.not_le] at hc25
    obtain rfl : i = 16 := by omega
    refine WE.exit ?_
    refine WE.seq_draw (.take 0 (.take 1 (.take 2 (.take 3 (.take 4 (.take 5 (.take 6 (.take 7 (.take 8 (.take 9 (.take 10 (.take 11 (.take 12 (.take 13 (.take 14 (.take 15 (.take 16 (.take 17 (.take 18 (.take 19 (.take 20 (.take 21 (.take 22 (.take 23 (.take 24 (.take 25 (.take 26 (.take 27 (.take 28 (.take 29 (.take 30 (.take 31 (.take 32 (.take 33 (.take 34 (.take 35 (.take 36 (.take 37 (.take 38 (.take 39 .done)))))))))))))))))))))))))))))))))))))))) TryzT.mixed (by kernel_rfl) ?_
    replace H := H.out (Out.drew _)
    refine WP.mv rfl rfl rfl ?_
    refine WP.take_pure rfl rfl (PV.nilCheck rfl rfl) ?_
    refine WP.take_pure rfl rfl (PV.indexArr rfl TryzT.ar149 TryzT.sz147 rfl rfl (by omega) (by omega)) ?_
    refine WP.take_read rfl rfl (RV.loadOne rfl TryzT.ag147 rfl) (Blk.rdD (H.o 0 rfl) 0 (by omega) rfl) ?_
    refine WP.mv rfl rfl rfl ?_
    refine WP.take_pure rfl rfl (PV.nilCheck rfl rfl) ?_
    refine WP.take_pure rfl rfl (PV.indexArr rfl TryzT.ar149 TryzT.sz147 rfl rfl (by omega) (by omega)) ?_
    refine WP.take_read rfl rfl (RV.loadOne rfl TryzT.ag147 rfl) (Blk.rdD (H.o 0 rfl) 1 (by omega) rfl) ?_
    refine WP.mv rfl rfl rfl ?_
    refine WP.take_pure rfl rfl (PV.nilCheck rfl rfl) ?_
    refine WP.take_pure rfl rfl (PV.indexArr rfl TryzT.ar149 TryzT.sz147 rfl rfl (by omega) (by omega)) ?_
    refine WP.take_read rfl rfl (RV.loadOne rfl TryzT.ag147 rfl) (Blk.rdD (H.o 0 rfl) 2 (by omega) rfl) ?_
    refine WP.mv rfl rfl rfl ?_
    refine WP.take_pure rfl rfl (PV.nilCheck rfl rfl) ?_
    refine WP.take_pure rfl rfl (PV.indexArr rfl TryzT.ar149 TryzT.sz147 rfl rfl (by omega) (by omega)) ?_
    refine WP.take_read rfl rfl (RV.loadOne rfl TryzT.ag147 rfl) (Blk.rdD (H.o 0 rfl) 3 (by omega) rfl) ?_
    refine WP.mv rfl rfl rfl ?_
    refine WP.take_pure rfl rfl (PV.nilCheck rfl rfl) ?_
    refine WP.take_pure rfl rfl (PV.indexArr rfl TryzT.ar149 TryzT.sz147 rfl rfl (by omega) (by omega)) ?_
    refine WP.take_read rfl rfl (RV.loadOne rfl TryzT.ag147 rfl) (Blk.rdD (H.o 0 rfl) 4 (by omega) rfl) ?_
    refine WP.mv rfl rfl rfl ?_
    refine WP.take_pure rfl rfl (PV.nilCheck rfl rfl) ?_
    refine WP.take_pure rfl rfl (PV.indexArr rfl TryzT.ar149 TryzT.sz147 rfl rfl (by omega) (by omega)) ?_
    refine WP.take_read rfl rfl (RV.loadOne rfl TryzT.ag147 rfl) (Blk.rdD (H.o 0 rfl) 5 (by omega) rfl) ?_
    refine WP.mv rfl rfl rfl ?_
    refine WP.take_pure rfl rfl (PV.nilCheck rfl rfl) ?_
    refine WP.take_pure rfl rfl (PV.indexArr rfl TryzT.ar149 TryzT.sz147 rfl rfl (by omega) (by omega)) ?_
    refine WP.take_read rfl rfl (RV.loadOne rfl TryzT.ag147 rfl) (Blk.rdD (H.o 0 rfl) 6 (by omega) rfl) ?_
    refine WP.mv rfl rfl rfl ?_
    refine WP.take_pure rfl rfl (PV.nilCheck rfl rfl) ?_
    refine WP.take_pure rfl rfl (PV.indexArr rfl TryzT.ar149 TryzT.sz147 rfl rfl (by omega) (by omega)) ?_
    refine WP.take_read rfl rfl (RV.loadOne rfl TryzT.ag147 rfl) (Blk.rdD (H.o 0 rfl) 7 (by omega) rfl) ?_
    refine WP.as rfl rfl rfl ?_
    refine WP.as rfl rfl rfl ?_
    refine WP.as rfl rfl rfl ?_
    refine WP.as rfl rfl rfl ?_
    refine WP.as rfl rfl rfl ?_
    refine WP.as rfl rfl rfl ?_
    refine WP.as rfl rfl rfl ?_
    refine WP.as rfl rfl rfl ?_
    refine WP.done ?_
    refine WE.seq ?_
    refine WE.seq_reg ?_
    refine WL.loadR rfl TryzT.ag175 rfl rfl (H.p 1 rfl) (by exact TryzT.sz175) ?_
    refine WL.mv rfl rfl ?_
    refine WL.nil ?_
    refine WE.block ?_
    refine WE.loop (α := Nat) [8, 9, 10, 11, 12, 13, 14, 15, 16, 17, 18, 19, 20, 21, 83, 84, 85, 86, 87, 88, 89, 90, 91, 92, 93, 94, 95, 96, 97, 98, 99, 100, 101, 102, 103, 104, 105, 106, 107, 108, 109, 110, 111, 112, 113, 114, 115, 116, 117, 118, 119, 120, 121, 122, 123, 124, 125, 126, 127, 128, 129, 130, 131, 132, 133, 134, 135, 136, 137, 138, 139, 140, 141, 142, 143, 144, 145, 146, 147, 148, 149, 150, 151, 152, 153, 154, 155, 156, 157, 158, 159, 160, 161, 162, 163, 164, 165, 166, 167, 168] (fun i => [(83, .int .i64 i), (8, .int .u32 (((rnds (sched la 48) s i).getD 0 0).toNat : Int)), (9, .int .u32 (((rnds (sched la 48) s i).getD 1 0).toNat : Int)), (10, .int .u32 (((rnds (sched la 48) s i).getD 2 0).toNat : Int)), (11, .int .u32 (((rnds (sched la 48) s i).getD 3 0).toNat : Int)), (12, .int .u32 (((rnds (sched la 48) s i).getD 4 0).toNat : Int)), (13, .int .u32 (((rnds (sched la 48) s i).getD 5 0).toNat : Int)), (14, .int .u32 (((rnds (sched la 48) s i).getD 6 0).toNat : Int)), (15, .int .u32 (((rnds (sched la 48) s i).getD 7 0).toNat : Int))]) (fun i wl => i ≤ 64 ∧ St X w wl [Ent.blk b 149 (kw s)] [Ent.blk b4 174 (kw (win (sched la 48) (i)))] [SlB a la, Rounds]) (fun i => 64 - i) 0 ⟨rfl, rfl, rfl, rfl, rfl, rfl, rfl, rfl, rfl, trivial⟩ ⟨Nat.zero_le _, H.conv (by rw [win_wfil])⟩ ?_
    intro i γ2 w5 hI
    try dsimp only at hI
    obtain ⟨hi, H⟩ := hI
    refine WE.seq_reg ?_
    refine WL.pv (PV.lss rfl rfl rfl) rfl ?_
    refine WL.nil ?_
    refine WE.seq ?_
    refine WE.cond rfl (fun hc84 => ?_) (fun hc84 => ?_)
    · skip
      try simp only [decide_eq_true_eq, decide_eq_false_iff_not, ne_eq, Decidable.not_not, Bool.not_eq_true', Bool.not_eq_false', Bool.and_eq_true, Bool.or_eq_true, Bool.not_not, Bool.and_eq_false_iff, Bool.or_eq_false_iff, Int.not_lt, Int.not_le] at hc84
      have hlt : i < 64 := by omega
      refine WE.skip ?_
      refine WE.seq ?_
      refine WE.block ?_
      refine WE.seq_reg ?_
      refine WL.mv rfl rfl ?_
      refine WL.pv (PV.index1 (l := kw roundsL) rfl TryzT.ar175 TryzT.sz147 TryzT.ag147 rfl rfl (by omega) (kw_getD roundsL i hlt)) rfl ?_
      refine WL.as rfl rfl ?_
      refine WL.as rfl rfl ?_
      refine WL.nil ?_
      refine WE.seq_reg ?_
      refine WL.mv rfl rfl ?_
      refine WL.pv (PV.rem64 rfl rfl rfl (by omega) (by omega)) rfl ?_
      refine WL.as rfl rfl ?_
      refine WL.nil ?_
      refine WE.cut (α := Unit) [19, 20, 89, 90, 91, 92, 93, 94, 95, 96, 97, 98, 99, 100, 101, 102, 103, 104, 105, 106, 107, 108, 109, 110, 111, 112, 113, 114, 115, 116, 117, 118, 119, 120, 121, 122, 123, 124] (fun _ => []) (fun _ wl => St X w wl [Ent.blk b 149 (kw s)] [Ent.blk b4 174 (kw (win (sched la 48) (i + 1)))] [SlB a la, Rounds]) ?_ ?_
      · skip
        refine WE.seq_reg ?_
        refine WL.mv rfl rfl ?_
        refine WL.pv (PV.geq rfl rfl rfl) rfl ?_
        refine WL.nil ?_
        refine WE.cond rfl (fun hc90 => ?_) (fun hc90 => ?_)
        · skip
          try simp only [decide_eq_true_eq, decide_eq_false_iff_not, ne_eq, Decidable.not_not, Bool.not_eq_true', Bool.not_eq_false', Bool.and_eq_true, Bool.or_eq_true, Bool.not_not, Bool.and_eq_false_iff, Bool.or_eq_false_iff, Int.not_lt, Int.not_le] at hc90
          have h16 : 16 ≤ i := by omega
          refine WE.seq_draw (.take 0 (.take 1 (.take 2 (.take 3 (.take 4 (.take 5 (.take 6 (.take 7 (.take 8 (.take 9 (.take 10 (.take 11 .done)))))))))))) TryzT.mixed (by kernel_rfl) ?_
          replace H := H.out (Out.drew _)
          refine WP.mv rfl rfl rfl ?_
          refine WP.take_pure rfl rfl (PV.add64 rfl rfl rfl (by omega) (by omega)) ?_
          refine WP.take_pure rfl rfl (PV.rem64 rfl rfl rfl (by omega) (by omega)) ?_
          refine WP.take_pure rfl rfl (PV.indexArr rfl TryzT.ar174 TryzT.sz147 rfl rfl (by omega) (by omega)) ?_
          refine WP.take_read rfl rfl (RV.loadOne rfl TryzT.ag147 rfl) (Blk.winrd (H.l 0 rfl) ((i + 1) % 16) (i - 15) (by omega) (by omega) (by unfold idx16; omega) (by rw [sched_length]; omega)) ?_
          refine WP.mv rfl rfl rfl ?_
          refine WP.take_pure rfl rfl (PV.add64 rfl rfl rfl (by omega) (by omega)) ?_
          refine WP.take_pure rfl rfl (PV.rem64 rfl rfl rfl (by omega) (by omega)) ?_
          refine WP.take_pure rfl rfl (PV.indexArr rfl TryzT.ar174 TryzT.sz147 rfl rfl (by omega) (by omega)) ?_
          refine WP.take_read rfl rfl (RV.loadOne rfl TryzT.ag147 rfl) (Blk.winrd (H.l 0 rfl) ((i + 14) % 16) (i - 2) (by omega) (by omega) (by unfold idx16; omega) (by rw [sched_length]; omega)) ?_
          refine WP.as rfl rfl rfl ?_
          refine WP.as rfl rfl rfl ?_
          refine WP.done ?_
          refine WE.draw (.take 0 (.take 1 (.take 2 (.take 3 (.take 6 (.take 7 (.take 9 (.take 10 (.take 11 (.take 12 (.take 13 (.take 15 (.take 18 (.take 19 (.pick2 4 (.pick2 5 (.take 8 (.take 14 (.pick1 16 (.pick1 17 (.take 20 (.take 21 (.take 22 (.take 23 (.pick1 24 .done))))))))) 16 (.pick1 5 (.take 8 (.take 14 (.pick1 17 (.take 20 (.take 21 (.take 22 (.take 23 (.pick1 24 .done)))))))))) 16 (.pick1 4 (.pick1 5 (.take 8 (.take 14 (.pick1 17 (.take 20 (.take 21 (.take 22 (.take 23 (.pick1 24 .done))))))))))))))))))))))))) TryzT.mixed (by kernel_rfl) ?_
          replace H := H.out (Out.drew _)
          refine WP.mv rfl rfl rfl ?_
          refine WP.take_pure rfl rfl (PV.indexArr rfl TryzT.ar174 TryzT.sz147 rfl rfl (by omega) (by omega)) ?_
          refine WP.take_read rfl rfl (RV.loadOne rfl TryzT.ag147 rfl) (Blk.winrd (H.l 0 rfl) (i % 16) (i - 16) (by omega) (by omega) (by unfold idx16; omega) (by rw [sched_length]; omega)) ?_
          refine WP.mv rfl rfl rfl ?_
          refine WP.mv rfl rfl rfl ?_
          refine WP.take_pure rfl rfl (PV.shr32 (n := 3) rfl rfl rfl (by omega)) ?_
          refine WP.mv rfl rfl rfl ?_
          refine WP.take_pure rfl rfl (PV.add64 rfl rfl rfl (by omega) (by omega)) ?_
          refine WP.take_pure rfl rfl (PV.rem64 rfl rfl rfl (by omega) (by omega)) ?_
          refine WP.take_pure rfl rfl (PV.indexArr rfl TryzT.ar174 TryzT.sz147 rfl rfl (by omega) (by omega)) ?_
          refine WP.take_read rfl rfl (RV.loadOne rfl TryzT.ag147 rfl) (Blk.winrd (H.l 0 rfl) ((i + 9) % 16) (i - 7) (by omega) (by omega) (by unfold idx16; omega) (by rw [sched_length]; omega)) ?_
          refine WP.mv rfl rfl rfl ?_
          refine WP.mv rfl rfl rfl ?_
          refine WP.take_pure rfl rfl (PV.shr32 (n := 10) rfl rfl rfl (by omega)) ?_
          refine WP.pick2 rfl rfl ?_ ?_ 
          · skip
            refine WL.buildSliceF (l0 := [.int .i64 (0), .int .i64 (0)]) H rfl TryzT.st184 (by decide) (zrow_one _ _) (Fl.cons rfl (by rfl) (by (simp only [kc_length, kw_length, List.length_replicate, List.length_append, List.length_cons, List.length_nil]; done)) Laid.head (Fl.cons rfl (by rfl) (by (simp only [kc_length, kw_length, List.length_replicate, List.length_append, List.length_cons, List.length_nil]; done)) (Laid.tail Laid.head rfl) Fl.nil)) rfl ?_
            intro b105 w6 H
            replace H := H.freeze (i := 0) rfl
            replace H := H.add ((H.rob 0 rfl).imp fun _ h => SlN.of_blk (l := [7, 18]) h rfl)
            refine WL.nil ⟨(List.forall_mem_cons.2 ⟨(fun _ _ => (Blk.winrd (H.l 0 rfl) ((i + 9) % 16) (i - 7) (by omega) (by omega) (by unfold idx16; omega) (by rw [sched_length]; omega))), (List.forall_mem_cons.2 ⟨(fun _ _ => (Blk.winrd (H.l 0 rfl) (i % 16) (i - 16) (by omega) (by omega) (by unfold idx16; omega) (by rw [sched_length]; omega))), (fun _ h => by cases h)⟩)⟩), ?_⟩
            refine WP.pick2 rfl rfl ?_ ?_ 
            · skip
              refine WL.call TryzT.fb120 rfl (right_c (x := (sched la 48).getD (i - 15) 0) (l := [7, 18]) H.yylt (by exact H.rob 0 rfl) (by decide) (by decide)) ?_
              rintro _ w7 ⟨rfl, hO⟩
              replace H := H.out hO
              refine WL.nil ⟨(List.forall_mem_cons.2 ⟨(fun _ _ => (Blk.winrd (H.l 0 rfl) ((i + 9) % 16) (i - 7) (by omega) (by omega) (by unfold idx16; omega) (by rw [sched_length]; omega))), (List.forall_mem_cons.2 ⟨(fun _ _ => (Blk.winrd (H.l 0 rfl) (i % 16) (i - 16) (by omega) (by omega) (by unfold idx16; omega) (by rw [sched_length]; omega))), (fun _ h => by cases h)⟩)⟩), ?_⟩
              refine WP.take_pure rfl rfl (PV.xor32 rfl rfl rfl) ?_
              refine WP.take_pure rfl rfl (PV.add32 rfl rfl rfl) ?_
              refine WP.pick1 rfl ?_
              refine WL.buildSliceF (l0 := [.int .i64 (0), .int .i64 (0)]) H rfl TryzT.st184 (by decide) (zrow_one _ _) (Fl.cons rfl (by rfl) (by (simp only [kc_length, kw_length, List.length_replicate, List.length_append, List.length_cons, List.length_nil]; done)) Laid.head (Fl.cons rfl (by rfl) (by (simp only [kc_length, kw_length, List.length_replicate, List.length_append, List.length_cons, List.length_nil]; done)) (Laid.tail Laid.head rfl) Fl.nil)) rfl ?_
              intro b117 w8 H
              replace H := H.freeze (i := 0) rfl
              replace H := H.add ((H.rob 0 rfl).imp fun _ h => SlN.of_blk (l := [17, 19]) h rfl)
              refine WL.nil ⟨(List.forall_mem_cons.2 ⟨(fun _ _ => (Blk.winrd (H.l 0 rfl) ((i + 9) % 16) (i - 7) (by omega) (by omega) (by unfold idx16; omega) (by rw [sched_length]; omega))), (List.forall_mem_cons.2 ⟨(fun _ _ => (Blk.winrd (H.l 0 rfl) (i % 16) (i - 16) (by omega) (by omega) (by unfold idx16; omega) (by rw [sched_length]; omega))), (fun _ h => by cases h)⟩)⟩), ?_⟩
              refine WP.pick1 rfl ?_
              refine WL.call TryzT.fb120 rfl (right_c (x := (sched la 48).getD (i - 2) 0) (l := [17, 19]) H.yylt (by exact H.rob 0 rfl) (by decide) (by decide)) ?_
              rintro _ w9 ⟨rfl, hO⟩
              replace H := H.out hO
              refine WL.nil ⟨(List.forall_mem_cons.2 ⟨(fun _ _ => (Blk.winrd (H.l 0 rfl) ((i + 9) % 16) (i - 7) (by omega) (by omega) (by unfold idx16; omega) (by rw [sched_length]; omega))), (List.forall_mem_cons.2 ⟨(fun _ _ => (Blk.winrd (H.l 0 rfl) (i % 16) (i - 16) (by omega) (by omega) (by unfold idx16; omega) (by rw [sched_length]; omega))), (fun _ h => by cases h)⟩)⟩), ?_⟩
              refine WP.take_pure rfl rfl (PV.xor32 rfl rfl rfl) ?_
              refine WP.take_pure rfl rfl (PV.add32 rfl rfl rfl) ?_
              refine WP.take_pure rfl rfl (PV.add32 rfl rfl rfl) ?_
              refine WP.take_pure rfl rfl (PV.indexArr rfl TryzT.ar174 TryzT.sz147 rfl rfl (by omega) (by omega)) ?_
              refine WP.pick1 rfl ?_
              refine WL.storeL H 0 rfl rfl rfl (new := _) rfl (by exact TryzT.sz147) (by exact one_lit _ rfl) (Laid.at (Laid.wordA (i % 16) (by rw [win_length]; omega)) (by omega)) rfl ?_
              intro w10 H
              replace H := H.conv (L' := [Ent.blk b4 174 (kw (win (sched la 48) (i + 1)))]) (by rw [take_w, ← sched_w la i h16 hlt, win_setD _ _ h16 (by omega)]; rfl)
              refine WL.nil ⟨(List.forall_mem_cons.2 ⟨(by exact (fun h => absurd (show waits _ 24 13 = false from h) (by decide +kernel))), (List.forall_mem_cons.2 ⟨(by exact (fun h => absurd (show waits _ 24 2 = false from h) (by decide +kernel))), (fun _ h => by cases h)⟩)⟩), ?_⟩
              refine WP.done ?_
              replace H := H.drop (Ps' := [SlB a la, Rounds]) (by intro p hp; simp at hp ⊢; rcases hp with h | h <;> simp [h])
              exact ⟨(), (by repeat (first | with_reducible exact Off.refl _ _ | refine Off.upd rfl ?_)), trivial, rfl, H⟩
            · skip
              refine WL.buildSliceF (l0 := [.int .i64 (0), .int .i64 (0)]) H rfl TryzT.st184 (by decide) (zrow_one _ _) (Fl.cons rfl (by rfl) (by (simp only [kc_length, kw_length, List.length_replicate, List.length_append, List.length_cons, List.length_nil]; done)) Laid.head (Fl.cons rfl (by rfl) (by (simp only [kc_length, kw_length, List.length_replicate, List.length_append, List.length_cons, List.length_nil]; done)) (Laid.tail Laid.head rfl) Fl.nil)) rfl ?_
              intro b117 w11 H
              replace H := H.freeze (i := 0) rfl
              replace H := H.add ((H.rob 0 rfl).imp fun _ h => SlN.of_blk (l := [17, 19]) h rfl)
              refine WL.nil ⟨(List.forall_mem_cons.2 ⟨(fun _ _ => (Blk.winrd (H.l 0 rfl) ((i + 9) % 16) (i - 7) (by omega) (by omega) (by unfold idx16; omega) (by rw [sched_length]; omega))), (List.forall_mem_cons.2 ⟨(fun _ _ => (Blk.winrd (H.l 0 rfl) (i % 16) (i - 16) (by omega) (by omega) (by unfold idx16; omega) (by rw [sched_length]; omega))), (fun _ h => by cases h)⟩)⟩), ?_⟩
              refine WP.pick1 rfl ?_
              refine WL.call TryzT.fb120 rfl (right_c (x := (sched la 48).getD (i - 15) 0) (l := [7, 18]) H.yylt (by exact H.rob 2 rfl) (by decide) (by decide)) ?_
              rintro _ w12 ⟨rfl, hO⟩
              replace H := H.out hO
              refine WL.nil ⟨(List.forall_mem_cons.2 ⟨(fun _ _ => (Blk.winrd (H.l 0 rfl) ((i + 9) % 16) (i - 7) (by omega) (by omega) (by unfold idx16; omega) (by rw [sched_length]; omega))), (List.forall_mem_cons.2 ⟨(fun _ _ => (Blk.winrd (H.l 0 rfl) (i % 16) (i - 16) (by omega) (by omega) (by unfold idx16; omega) (by rw [sched_length]; omega))), (fun _ h => by cases h)⟩)⟩), ?_⟩
              refine WP.take_pure rfl rfl (PV.xor32 rfl rfl rfl) ?_
              refine WP.take_pure rfl rfl (PV.add32 rfl rfl rfl) ?_
              refine WP.pick1 rfl ?_
              refine WL.call TryzT.fb120 rfl (right_c (x := (sched la 48).getD (i - 2) 0) (l := [17, 19]) H.yylt (by exact H.rob 0 rfl) (by decide) (by decide)) ?_
              rintro _ w13 ⟨rfl, hO⟩
              replace H := H.out hO
              refine WL.nil ⟨(List.forall_mem_cons.2 ⟨(fun _ _ => (Blk.winrd (H.l 0 rfl) ((i + 9) % 16) (i - 7) (by omega) (by omega) (by unfold idx16; omega) (by rw [sched_length]; omega))), (List.forall_mem_cons.2 ⟨(fun _ _ => (Blk.winrd (H.l 0 rfl) (i % 16) (i - 16) (by omega) (by omega) (by unfold idx16; omega) (by rw [sched_length]; omega))), (fun _ h => by cases h)⟩)⟩), ?_⟩
              refine WP.take_pure rfl rfl (PV.xor32 rfl rfl rfl) ?_
              refine WP.take_pure rfl rfl (PV.add32 rfl rfl rfl) ?_
              refine WP.take_pure rfl rfl (PV.add32 rfl rfl rfl) ?_
              refine WP.take_pure rfl rfl (PV.indexArr rfl TryzT.ar174 TryzT.sz147 rfl rfl (by omega) (by omega)) ?_
              refine WP.pick1 rfl ?_
              refine WL.storeL H 0 rfl rfl rfl (new := _) rfl (by exact TryzT.sz147) (by exact one_lit _ rfl) (Laid.at (Laid.wordA (i % 16) (by rw [win_length]; omega)) (by omega)) rfl ?_
              intro w14 H
              replace H := H.conv (L' := [Ent.blk b4 174 (kw (win (sched la 48) (i + 1)))]) (by rw [take_w, ← sched_w la i h16 hlt, win_setD _ _ h16 (by omega)]; rfl)
              refine WL.nil ⟨(List.forall_mem_cons.2 ⟨(by exact (fun h => absurd (show waits _ 24 13 = false from h) (by decide +kernel))), (List.forall_mem_cons.2 ⟨(by exact (fun h => absurd (show waits _ 24 2 = false from h) (by decide +kernel))), (fun _ h => by cases h)⟩)⟩), ?_⟩
              refine WP.done ?_
              replace H := H.drop (Ps' := [SlB a la, Rounds]) (by intro p hp; simp at hp ⊢; rcases hp with h | h <;> simp [h])
              exact ⟨(), (by repeat (first | with_reducible exact Off.refl _ _ | refine Off.upd rfl ?_)), trivial, rfl, H⟩
          · skip
            refine WL.buildSliceF (l0 := [.int .i64 (0), .int .i64 (0)]) H rfl TryzT.st184 (by decide) (zrow_one _ _) (Fl.cons rfl (by rfl) (by (simp only [kc_length, kw_length, List.length_replicate, List.length_append, List.length_cons, List.length_nil]; done)) Laid.head (Fl.cons rfl (by rfl) (by (simp only [kc_length, kw_length, List.length_replicate, List.length_append, List.length_cons, List.length_nil]; done)) (Laid.tail Laid.head rfl) Fl.nil)) rfl ?_
            intro b117 w15 H
            replace H := H.freeze (i := 0) rfl
            replace H := H.add ((H.rob 0 rfl).imp fun _ h => SlN.of_blk (l := [17, 19]) h rfl)
            refine WL.nil ⟨(List.forall_mem_cons.2 ⟨(fun _ _ => (Blk.winrd (H.l 0 rfl) ((i + 9) % 16) (i - 7) (by omega) (by omega) (by unfold idx16; omega) (by rw [sched_length]; omega))), (List.forall_mem_cons.2 ⟨(fun _ _ => (Blk.winrd (H.l 0 rfl) (i % 16) (i - 16) (by omega) (by omega) (by unfold idx16; omega) (by rw [sched_length]; omega))), (fun _ h => by cases h)⟩)⟩), ?_⟩
            refine WP.pick1 rfl ?_
            refine WL.buildSliceF (l0 := [.int .i64 (0), .int .i64 (0)]) H rfl TryzT.st184 (by decide) (zrow_one _ _) (Fl.cons rfl (by rfl) (by (simp only [kc_length, kw_length, List.length_replicate, List.length_append, List.length_cons, List.length_nil]; done)) Laid.head (Fl.cons rfl (by rfl) (by (simp only [kc_length, kw_length, List.length_replicate, List.length_append, List.length_cons, List.length_nil]; done)) (Laid.tail Laid.head rfl) Fl.nil)) rfl ?_
            intro b105 w16 H
            replace H := H.freeze (i := 0) rfl
            replace H := H.add ((H.rob 0 rfl).imp fun _ h => SlN.of_blk (l := [7, 18]) h rfl)
            refine WL.nil ⟨(List.forall_mem_cons.2 ⟨(fun _ _ => (Blk.winrd (H.l 0 rfl) ((i + 9) % 16) (i - 7) (by omega) (by omega) (by unfold idx16; omega) (by rw [sched_length]; omega))), (List.forall_mem_cons.2 ⟨(fun _ _ => (Blk.winrd (H.l 0 rfl) (i % 16) (i - 16) (by omega) (by omega) (by unfold idx16; omega) (by rw [sched_length]; omega))), (fun _ h => by cases h)⟩)⟩), ?_⟩
            refine WP.pick1 rfl ?_
            refine WL.call TryzT.fb120 rfl (right_c (x := (sched la 48).getD (i - 15) 0) (l := [7, 18]) H.yylt (by exact H.rob 0 rfl) (by decide) (by decide)) ?_
            rintro _ w17 ⟨rfl, hO⟩
            replace H := H.out hO
            refine WL.nil ⟨(List.forall_mem_cons.2 ⟨(fun _ _ => (Blk.winrd (H.l 0 rfl) ((i + 9) % 16) (i - 7) (by omega) (by omega) (by unfold idx16; omega) (by rw [sched_length]; omega))), (List.forall_mem_cons.2 ⟨(fun _ _ => (Blk.winrd (H.l 0 rfl) (i % 16) (i - 16) (by omega) (by omega) (by unfold idx16; omega) (by rw [sched_length]; omega))), (fun _ h => by cases h)⟩)⟩), ?_⟩
            refine WP.take_pure rfl rfl (PV.xor32 rfl rfl rfl) ?_
            refine WP.take_pure rfl rfl (PV.add32 rfl rfl rfl) ?_
            refine WP.pick1 rfl ?_
            refine WL.call TryzT.fb120 rfl (right_c (x := (sched la 48).getD (i - 2) 0) (l := [17, 19]) H.yylt (by exact H.rob 2 rfl) (by decide) (by decide)) ?_
            rintro _ w18 ⟨rfl, hO⟩
            replace H := H.out hO
            refine WL.nil ⟨(List.forall_mem_cons.2 ⟨(fun _ _ => (Blk.winrd (H.l 0 rfl) ((i + 9) % 16) (i - 7) (by omega) (by omega) (by unfold idx16; omega) (by rw [sched_length]; omega))), (List.forall_mem_cons.2 ⟨(fun _ _ => (Blk.winrd (H.l 0 rfl) (i % 16) (i - 16) (by omega) (by omega) (by unfold idx16; omega) (by rw [sched_length]; omega))), (fun _ h => by cases h)⟩)⟩), ?_⟩
            refine WP.take_pure rfl rfl (PV.xor32 rfl rfl rfl) ?_
            refine WP.take_pure rfl rfl (PV.add32 rfl rfl rfl) ?_
            refine WP.take_pure rfl rfl (PV.add32 rfl rfl rfl) ?_
            refine WP.take_pure rfl rfl (PV.indexArr rfl TryzT.ar174 TryzT.sz147 rfl rfl (by omega) (by omega)) ?_
            refine WP.pick1 rfl ?_
            refine WL.storeL H 0 rfl rfl rfl (new := _) rfl (by exact TryzT.sz147) (by exact one_lit _ rfl) (Laid.at (Laid.wordA (i % 16) (by rw [win_length]; omega)) (by omega)) rfl ?_
            intro w19 H
            replace H := H.conv (L' := [Ent.blk b4 174 (kw (win (sched la 48) (i + 1)))]) (by rw [take_w, ← sched_w la i h16 hlt, win_setD _ _ h16 (by omega)]; rfl)
            refine WL.nil ⟨(List.forall_mem_cons.2 ⟨(by exact (fun h => absurd (show waits _ 24 13 = false from h) (by decide +kernel))), (List.forall_mem_cons.2 ⟨(by exact (fun h => absurd (show waits _ 24 2 = false from h) (by decide +kernel))), (fun _ h => by cases h)⟩)⟩), ?_⟩
            refine WP.done ?_
            replace H := H.drop (Ps' := [SlB a la, Rounds]) (by intro p hp; simp at hp ⊢; rcases hp with h | h <;> simp [h])
            exact ⟨(), (by repeat (first | with_reducible exact Off.refl _ _ | refine Off.upd rfl ?_)), trivial, rfl, H⟩
        · skip
          try simp only [decide_eq_true_eq, decide_eq_false_iff_not, ne_eq, Decidable.not_not, Bool.not_eq_true', Bool.not_eq_false', Bool.and_eq_true, Bool.or_eq_true, Bool.not_not, Bool.and_eq_false_iff, Bool.or_eq_false_iff, Int.not_lt, Int.not_le] at hc90
          have h16 : i < 16 := by omega
          replace H := H.conv (L' := [Ent.blk b4 174 (kw (win (sched la 48) (i + 1)))]) (by rw [win_small _ _ h16])
          refine WE.skip ?_
          replace H := H.drop (Ps' := [SlB a la, Rounds]) (by intro p hp; simp at hp ⊢; rcases hp with h | h <;> simp [h])
          exact ⟨(), (by repeat (first | with_reducible exact Off.refl _ _ | refine Off.upd rfl ?_)), trivial, rfl, H⟩
      · skip
        intro _ γ w20 hI
        try dsimp only at hI
        replace H := hI
        refine WE.seq_draw (.take 0 (.take 1 (.take 5 (.take 6 (.take 7 (.take 8 (.take 9 (.take 10 (.take 11 (.take 13 (.take 15 (.take 16 (.take 17 (.pick1 2 (.pick1 3 (.take 4 (.take 12 (.take 14 (.take 18 (.take 19 .done)))))))))))))))))))) TryzT.mixed (by kernel_rfl) ?_
        replace H := H.out (Out.drew _)
        refine WP.mv rfl rfl rfl ?_
        refine WP.mv rfl rfl rfl ?_
        refine WP.mv rfl rfl rfl ?_
        refine WP.mv rfl rfl rfl ?_
        refine WP.mv rfl rfl rfl ?_
        refine WP.mv rfl rfl rfl ?_
        refine WP.take_pure rfl rfl (PV.xor32 rfl rfl rfl) ?_
        refine WP.take_pure rfl rfl (PV.and32 rfl rfl rfl) ?_
        refine WP.take_pure rfl rfl (PV.xor32 rfl rfl rfl) ?_
        refine WP.mv rfl rfl rfl ?_
        refine WP.mv rfl rfl rfl ?_
        refine WP.take_pure rfl rfl (PV.indexArr rfl TryzT.ar174 TryzT.sz147 rfl rfl (by omega) (by omega)) ?_
        refine WP.take_read rfl rfl (RV.loadOne rfl TryzT.ag147 rfl) (Blk.winrd (H.l 0 rfl) (i % 16) (i) (by omega) (by omega) (by unfold idx16; omega) (by rw [sched_length]; omega)) ?_
        refine WP.pick1 rfl ?_
        refine WL.buildSliceF (l0 := [.int .i64 (0), .int .i64 (0), .int .i64 (0)]) H rfl TryzT.st184 (by decide) (zrow_one _ _) (Fl.cons rfl (by rfl) (by (simp only [kc_length, kw_length, List.length_replicate, List.length_append, List.length_cons, List.length_nil]; done)) Laid.head (Fl.cons rfl (by rfl) (by (simp only [kc_length, kw_length, List.length_replicate, List.length_append, List.length_cons, List.length_nil]; done)) (Laid.tail Laid.head rfl) (Fl.cons rfl (by rfl) (by (simp only [kc_length, kw_length, List.length_replicate, List.length_append, List.length_cons, List.length_nil]; done)) (Laid.tail (Laid.tail Laid.head rfl) rfl) Fl.nil))) rfl ?_
        intro b127 w21 H
        replace H := H.freeze (i := 0) rfl
        replace H := H.add ((H.rob 0 rfl).imp fun _ h => SlN.of_blk (l := [6, 11, 25]) h rfl)
        refine WL.nil ⟨(List.forall_mem_cons.2 ⟨(fun _ _ => (Blk.winrd (H.l 0 rfl) (i % 16) (i) (by omega) (by omega) (by unfold idx16; omega) (by rw [sched_length]; omega))), (fun _ h => by cases h)⟩), ?_⟩
        refine WP.pick1 rfl ?_
        refine WL.call TryzT.fb120 rfl (right_c (x := (rnds (sched la 48) s i).getD 4 0) (l := [6, 11, 25]) H.yylt (by exact H.rob 0 rfl) (by decide) (by decide)) ?_
        rintro _ w22 ⟨rfl, hO⟩
        replace H := H.out hO
        refine WL.nil ⟨(List.forall_mem_cons.2 ⟨(fun _ _ => (Blk.winrd (H.l 0 rfl) (i % 16) (i) (by omega) (by omega) (by unfold idx16; omega) (by rw [sched_length]; omega))), (fun _ h => by cases h)⟩), ?_⟩
        refine WP.take_pure rfl rfl (PV.add32 rfl rfl rfl) ?_
        refine WP.take_pure rfl rfl (PV.add32 rfl rfl rfl) ?_
        refine WP.take_pure rfl rfl (PV.add32 rfl rfl rfl) ?_
        refine WP.take_pure rfl rfl (PV.add32 rfl rfl rfl) ?_
        refine WP.as rfl rfl rfl ?_
        refine WP.done ?_
        refine WE.norm [8, 9, 10, 11, 12, 13, 14, 15, 16, 17, 18, 19, 20, 21, 83, 84, 85, 86, 87, 88, 89, 90, 91, 92, 93, 94, 95, 96, 97, 98, 99, 100, 101, 102, 103, 104, 105, 106, 107, 108, 109, 110, 111, 112, 113, 114, 115, 116, 117, 118, 119, 120, 121, 122, 123, 124, 125, 126, 127, 128, 129, 130, 131, 132, 133, 134, 135, 136, 137, 138, 139, 140, 141, 142, 143, 144, 145, 146, 147, 148, 149, 150, 151, 152, 153, 154, 155, 156, 157, 158, 159, 160, 161, 162, 163, 164, 165, 166, 167, 168] [(83, .int .i64 i), (21, .int .u32 ((t1f (rnds (sched la 48) s i) (roundsL.getD i 0) ((sched la 48).getD i 0)).toNat : Int)), (8, .int .u32 (((rnds (sched la 48) s i).getD 0 0).toNat : Int)), (9, .int .u32 (((rnds (sched la 48) s i).getD 1 0).toNat : Int)), (10, .int .u32 (((rnds (sched la 48) s i).getD 2 0).toNat : Int)), (11, .int .u32 (((rnds (sched la 48) s i).getD 3 0).toNat : Int)), (12, .int .u32 (((rnds (sched la 48) s i).getD 4 0).toNat : Int)), (13, .int .u32 (((rnds (sched la 48) s i).getD 5 0).toNat : Int)), (14, .int .u32 (((rnds (sched la 48) s i).getD 6 0).toNat : Int)), (15, .int .u32 (((rnds (sched la 48) s i).getD 7 0).toNat : Int))] (Off.refl _ _) ⟨rfl, (by show Value.int .u32 _ = _; rw [take_t]), rfl, rfl, rfl, rfl, rfl, rfl, rfl, rfl, trivial⟩ ?_
        intro γ_
        refine WE.seq_reg ?_
        refine WL.mv rfl rfl ?_
        refine WL.mv rfl rfl ?_
        refine WL.mv rfl rfl ?_
        refine WL.mv rfl rfl ?_
        refine WL.mv rfl rfl ?_
        refine WL.pv (PV.add32 rfl rfl rfl) rfl ?_
        refine WL.as rfl rfl ?_
        refine WL.as rfl rfl ?_
        refine WL.as rfl rfl ?_
        refine WL.as rfl rfl ?_
        refine WL.nil ?_
        refine WE.reg ?_
        refine WL.mv rfl rfl ?_
        refine WL.mv rfl rfl ?_
        refine WL.mv rfl rfl ?_
        refine WL.mv rfl rfl ?_
        refine WL.mv rfl rfl ?_
        refine WL.buildSliceF (l0 := [.int .i64 (0), .int .i64 (0), .int .i64 (0)]) H rfl TryzT.st184 (by decide) (zrow_one _ _) (Fl.cons rfl (by rfl) (by (simp only [kc_length, kw_length, List.length_replicate, List.length_append, List.length_cons, List.length_nil]; done)) Laid.head (Fl.cons rfl (by rfl) (by (simp only [kc_length, kw_length, List.length_replicate, List.length_append, List.length_cons, List.length_nil]; done)) (Laid.tail Laid.head rfl) (Fl.cons rfl (by rfl) (by (simp only [kc_length, kw_length, List.length_replicate, List.length_append, List.length_cons, List.length_nil]; done)) (Laid.tail (Laid.tail Laid.head rfl) rfl) Fl.nil))) rfl ?_
        intro b155 w23 H
        replace H := H.freeze (i := 0) rfl
        replace H := H.add ((H.rob 0 rfl).imp fun _ h => SlN.of_blk (l := [2, 13, 22]) h rfl)
        refine WL.call TryzT.fb120 rfl (right_c (x := (rnds (sched la 48) s i).getD 0 0) (l := [2, 13, 22]) H.yylt (by exact H.rob 0 rfl) (by decide) (by decide)) ?_
        rintro _ w24 ⟨rfl, hO⟩
        replace H := H.out hO
        refine WL.pv (PV.add32 rfl rfl rfl) rfl ?_
        refine WL.mv rfl rfl ?_
        refine WL.mv rfl rfl ?_
        refine WL.pv (PV.and32 rfl rfl rfl) rfl ?_
        refine WL.mv rfl rfl ?_
        refine WL.mv rfl rfl ?_
        refine WL.mv rfl rfl ?_
        refine WL.pv (PV.or32 rfl rfl rfl) rfl ?_
        refine WL.pv (PV.and32 rfl rfl rfl) rfl ?_
        refine WL.pv (PV.or32 rfl rfl rfl) rfl ?_
        refine WL.pv (PV.add32 rfl rfl rfl) rfl ?_
        refine WL.as rfl rfl ?_
        refine WL.as rfl rfl ?_
        refine WL.as rfl rfl ?_
        refine WL.as rfl rfl ?_
        refine WL.nil ?_
        refine WE.reg ?_
        refine WL.pv (PV.add64 rfl rfl rfl (by omega) (by omega)) rfl ?_
        refine WL.mv rfl rfl ?_
        refine WL.nil ?_
        replace H := H.drop (Ps' := [SlB a la, Rounds]) (by intro p hp; simp at hp ⊢; rcases hp with h | h <;> simp [h])
        exact ⟨i + 1, (by repeat (first | with_reducible exact Off.refl _ _ | refine Off.upd rfl ?_ | refine Off.setAll rfl ?_ | refine Off.forget' rfl ?_)), ⟨rfl, by show Value.int .u32 _ = _; rw [take_a]; rfl, rfl, rfl, rfl, rfl, rfl, rfl, rfl, trivial⟩, rfl, ⟨by omega, H⟩, (by omega)⟩
    · skip
      try simp only [decide_eq_true_eq, decide_eq_false_iff_not, ne_eq, Decidable.not_not, Bool.not_eq_true', Bool.not_eq_false', Bool.and_eq_true, Bool.or_eq_true, Bool.not_not, Bool.and_eq_false_iff, Bool.or_eq_false_iff, Int.not_lt, Int.not_le] at hc84
      obtain rfl : i = 64 := by omega
      refine WE.exit ?_
      refine WE.seq_reg ?_
      refine WL.mv rfl rfl ?_
      refine WL.mv rfl rfl ?_
      refine WL.mv rfl rfl ?_
      refine WL.mv rfl rfl ?_
      refine WL.mv rfl rfl ?_
      refine WL.mv rfl rfl ?_
      refine WL.mv rfl rfl ?_
      refine WL.mv rfl rfl ?_
      refine WL.pv (PV.eq (v' := .agg (kw (rnds (sched la 48) s 64)).toArray) (PV.buildA (l := kw (rnds (sched la 48) s 64)) rfl TryzT.ar148 TryzT.sz147 TryzT.ze148 (by rw [← kw8 _ (rnds_length _ s hs 64)]; exact (Fl.cons rfl (by rfl) (by (simp only [kc_length, kw_length, List.length_replicate, List.length_append, List.length_cons, List.length_nil]; done)) (Laid.wordA 0 (by (simp only [kc_length, kw_length, List.length_replicate, List.length_append, List.length_cons, List.length_nil]; omega))) (Fl.cons rfl (by rfl) (by (simp only [kc_length, kw_length, List.length_replicate, List.length_append, List.length_cons, List.length_nil]; done)) (Laid.wordA 1 (by (simp [kc_length, kw_length, *]; done))) (Fl.cons rfl (by rfl) (by (simp only [kc_length, kw_length, List.length_replicate, List.length_append, List.length_cons, List.length_nil]; done)) (Laid.wordA 2 (by (simp [kc_length, kw_length, *]; done))) (Fl.cons rfl (by rfl) (by (simp only [kc_length, kw_length, List.length_replicate, List.length_append, List.length_cons, List.length_nil]; done)) (Laid.wordA 3 (by (simp [kc_length, kw_length, *]; done))) (Fl.cons rfl (by rfl) (by (simp only [kc_length, kw_length, List.length_replicate, List.length_append, List.length_cons, List.length_nil]; done)) (Laid.wordA 4 (by (simp [kc_length, kw_length, *]; done))) (Fl.cons rfl (by rfl) (by (simp only [kc_length, kw_length, List.length_replicate, List.length_append, List.length_cons, List.length_nil]; done)) (Laid.wordA 5 (by (simp [kc_length, kw_length, *]; done))) (Fl.cons rfl (by rfl) (by (simp only [kc_length, kw_length, List.length_replicate, List.length_append, List.length_cons, List.length_nil]; done)) (Laid.wordA 6 (by (simp [kc_length, kw_length, *]; done))) (Fl.cons rfl (by rfl) (by (simp only [kc_length, kw_length, List.length_replicate, List.length_append, List.length_cons, List.length_nil]; done)) (Laid.wordA 7 (by (simp [kc_length, kw_length, *]; done))) Fl.nil)))))))))) rfl) rfl ?_
      refine WL.mv rfl rfl ?_
      refine WL.nil ?_
      refine WE.block ?_
      refine WE.loop (α := Nat) [22, 23, 178, 179, 180, 181, 182, 183, 184, 185, 186, 187, 188, 189, 190, 191] (fun i => [(178, .int .i64 i)]) (fun i wl => i ≤ 8 ∧ St X w wl [Ent.blk b 149 (kw (addTo s (rnds (sched la 48) s 64) i))] [Ent.blk b4 174 (kw (win (sched la 48) (64)))] [SlB a la, Rounds]) (fun i => 8 - i) 0 ⟨rfl, trivial⟩ ⟨Nat.zero_le _, by rw [addTo_zero _ _ hs]; exact H⟩ ?_
      intro i γ3 w25 hI
      try dsimp only at hI
      obtain ⟨hi, H⟩ := hI
      refine WE.seq_reg ?_
      refine WL.pv (PV.lss rfl rfl rfl) rfl ?_
      refine WL.nil ?_
      refine WE.seq ?_
      refine WE.cond rfl (fun hc179 => ?_) (fun hc179 => ?_)
      · skip
        try simp only [decide_eq_true_eq, decide_eq_false_iff_not, ne_eq, Decidable.not_not, Bool.not_eq_true', Bool.not_eq_false', Bool.and_eq_true, Bool.or_eq_true, Bool.not_not, Bool.and_eq_false_iff, Bool.or_eq_false_iff, Int.not_lt, Int.not_le] at hc179
        have hlt : i < 8 := by omega
        refine WE.skip ?_
        refine WE.seq ?_
        refine WE.block ?_
        refine WE.seq_reg ?_
        refine WL.mv rfl rfl ?_
        refine WL.pv (PV.index1 (l := kw (rnds (sched la 48) s 64)) rfl TryzT.ar148 TryzT.sz147 TryzT.ag147 rfl rfl (by omega) (kw_get _ i (by rw [rnds_length _ s hs]; exact hlt))) rfl ?_
        refine WL.as rfl rfl ?_
        refine WL.as rfl rfl ?_
        refine WL.nil ?_
        refine WE.draw (.take 0 (.take 1 (.take 2 (.take 3 (.take 4 (.take 5 (.take 6 (.take 7 (.take 8 (.pick1 9 .done)))))))))) TryzT.mixed (by kernel_rfl) ?_
        replace H := H.out (Out.drew _)
        refine WP.mv rfl rfl rfl ?_
        refine WP.mv rfl rfl rfl ?_
        refine WP.take_pure rfl rfl (PV.nilCheck rfl rfl) ?_
        refine WP.take_pure rfl rfl (PV.indexArr rfl TryzT.ar149 TryzT.sz147 rfl rfl (by omega) (by omega)) ?_
        refine WP.take_read rfl rfl (RV.loadOne rfl TryzT.ag147 rfl) (by exact Blk.segAt (H.o 0 rfl) (Seg.word i (by rw [addTo_length]; exact hlt)) (by (simp; done))) ?_
        refine WP.mv rfl rfl rfl ?_
        refine WP.take_pure rfl rfl (PV.add32 rfl rfl rfl) ?_
        refine WP.take_pure rfl rfl (PV.nilCheck rfl rfl) ?_
        refine WP.take_pure rfl rfl (PV.indexArr rfl TryzT.ar149 TryzT.sz147 rfl rfl (by omega) (by omega)) ?_
        refine WP.pick1 rfl ?_
        refine WL.storeO H 0 rfl rfl rfl (new := _) rfl (by exact TryzT.sz147) (by exact one_lit _ rfl) (Laid.at (Laid.wordA i (by rw [addTo_length]; exact hlt)) (by (simp; done))) rfl ?_
        intro w26 H
        refine WL.nil ⟨(List.forall_mem_cons.2 ⟨(by exact (fun h => absurd (show waits _ 9 4 = false from h) (by decide +kernel))), (fun _ h => by cases h)⟩), ?_⟩
        refine WP.done ?_
        refine WE.reg ?_
        refine WL.pv (PV.add64 rfl rfl rfl (by omega) (by omega)) rfl ?_
        refine WL.mv rfl rfl ?_
        refine WL.nil ?_
        have e := addTo_set s (rnds (sched la 48) s 64) i hs (rnds_length _ s hs 64) hlt
        exact ⟨i + 1, (by repeat (first | with_reducible exact Off.refl _ _ | refine Off.upd rfl ?_ | refine Off.setAll rfl ?_ | refine Off.forget' rfl ?_)), ⟨rfl, trivial⟩, rfl, ⟨by omega, by rw [← e]; exact H⟩, (by omega)⟩
      · skip
        try simp only [decide_eq_true_eq, decide_eq_false_iff_not, ne_eq, Decidable.not_not, Bool.not_eq_true', Bool.not_eq_false', Bool.and_eq_true, Bool.or_eq_true, Bool.not_not, Bool.and_eq_false_iff, Bool.or_eq_false_iff, Int.not_lt, Int.not_le] at hc179
        obtain rfl : i = 8 := by omega
        refine WE.exit ?_
        refine ⟨[], _, .nil _, trivial, ?_⟩
        exact ⟨rfl, H.toOut1, H.o 0 rfl⟩

end Go.Sp.Tryz

set_option maxRecDepth 100000
set_option maxHeartbeats 1000000
set_option linter.unusedVariables false
set_option linter.unusedSimpArgs false
namespace Go.Sp.Tryz
open Go.Proofs Go.RowKit Go.Sp

def chunkV (v : Value) (i : Nat) (xs : List Value) (_ : World) : Prop := xs = [subSl3 v 1 (64 * i) (64 * i + 64)]

theorem Chunk1_seq {C : Nat → Prop} {w : World} {bs bn n : Nat} {v : Value} {l : List UInt8} (hC : ∀ b, C b → b < w.heap.size) (hf0 : Rob C (SlB v l) w) (hf1 : Rob C (fun w => RdA w ⟨bs, 0, none⟩ [v]) w) (hf2 : Rob C (fun w => RdA w ⟨bn, 0, none⟩ [.int .i64 64]) w) (hl : l.length = 64 * n) (hlm : l.length ≤ 2000000000) : SeqV Tryz.prog 121 [] [.pointer (some ⟨bs, 0, none⟩), .pointer (some ⟨bn, 0, none⟩)] (n) (chunkV v) Nil C w := by
  intro f J Jx hst hsta hstx hround hf
  show Ret Tryz.prog 121 ([f, .pointer (some ⟨bs, 0, none⟩), .pointer (some ⟨bn, 0, none⟩)] : List Value).toArray w _
  refine Ret.of_body (N := 31) Tryz.func121 rfl rfl (by simp) ?_
  have H := St.begin (X := C) hC
  replace H := H.add (rob0 hf2)
  replace H := H.add (rob0 hf1)
  replace H := H.add (rob0 hf0)
  refine WE.seq_reg ?_
  refine WL.as rfl rfl ?_
  refine WL.nil ?_
  refine WE.block ?_
  refine WE.loop (α := Nat) [4, 5, 6, 7, 8, 9, 10, 11, 12, 13, 14, 15, 16, 17, 18, 19, 20, 21, 22, 23, 24, 25, 26, 27, 28, 29, 30] (fun k => [(4, .int .i64 ((64 * k : Nat) : Int))]) (fun k wl => k ≤ n ∧ J Nil k wl ∧ St C wl wl [] [] [SlB v l, fun w => RdA w ⟨bs, 0, none⟩ [v], fun w => RdA w ⟨bn, 0, none⟩ [.int .i64 64]]) (fun k => n - k) 0 ⟨rfl, trivial⟩ ⟨Nat.zero_le _, hst Nil w (Out.refl _ _) (fun _ h => h.elim) (fun _ h => h), H⟩ ?_
  intro k γ0 w1 hI
  try dsimp only at hI
  obtain ⟨hk0, hJ, H⟩ := hI
  have hwl : ∃ wl1, wl1 = w1 := ⟨_, rfl⟩
  obtain ⟨wl1, hwl⟩ := hwl
  rw [← hwl] at hJ H ⊢
  clear hwl
  refine WE.seq ?_
  refine WE.seq_reg ?_
  refine WL.mv rfl rfl ?_
  refine WL.load1 rfl TryzT.ag32 rfl rfl (H.p 1 rfl) ?_
  refine WL.pv (PV.lenS (H.p 0 rfl) TryzT.sl32 rfl) rfl ?_
  refine WL.pv (PV.lss rfl rfl rfl) rfl ?_
  refine WL.nil ?_
  refine WE.cond rfl (fun hc9 => ?_) (fun hc9 => ?_)
  · skip
    try simp only [decide_eq_true_eq, decide_eq_false_iff_not, ne_eq, Decidable.not_not, Bool.not_eq_true', Bool.not_eq_false', Bool.and_eq_true, Bool.or_eq_true, Bool.not_not, Bool.and_eq_false_iff, Bool.or_eq_false_iff, Int.not_lt, Int.not_le] at hc9
    have hlt : k < n := by omega
    refine WE.skip ?_
    refine WE.seq ?_
    refine WE.block ?_
    refine WE.seq_draw (.take 0 (.take 1 (.take 2 (.take 3 (.take 4 (.take 5 (.take 6 .done))))))) TryzT.mixed (by kernel_rfl) ?_
    replace H := H.out (Out.drew _)
    refine WP.take_read rfl rfl (RV.loadOne rfl TryzT.ag3 rfl) (H.p 2 rfl) ?_
    refine WP.take_read rfl rfl (RV.loadOne rfl TryzT.ag32 rfl) (H.p 1 rfl) ?_
    refine WP.mv rfl rfl rfl ?_
    refine WP.take_pure rfl rfl (PV.eq (v' := subSl v 1 (64 * k) l.length) (PV.subL rfl (H.p 0 rfl) TryzT.sl32 TryzT.sz5 rfl rfl (by omega) (by omega)) (by congr 1)) ?_
    refine WP.take_pure rfl rfl (PV.eq (v' := .int .i64 ((l.length - 64 * k : Nat) : Int)) (PV.lenS (SlB.sub (lo := 64 * k) (hi := l.length) (H.p 0 rfl) (by omega) (Nat.le_refl _)) TryzT.sl32 rfl) (by simp)) ?_
    refine WP.take_pure rfl rfl (PV.eq (v' := .int .i64 64) (PV.minI rfl rfl) (by congr 1; omega)) ?_
    refine WP.as rfl rfl rfl ?_
    refine WP.done ?_
    refine WE.seq_reg ?_
    refine WL.mv rfl rfl ?_
    refine WL.load1 rfl TryzT.ag32 rfl rfl (H.p 1 rfl) ?_
    refine WL.mv rfl rfl ?_
    refine WL.mv rfl rfl ?_
    refine WL.mv rfl rfl ?_
    refine WL.pv (PV.add64 rfl rfl rfl (by omega) (by omega)) rfl ?_
    refine WL.mv rfl rfl ?_
    refine WL.mv rfl rfl ?_
    refine WL.pv (PV.add64 rfl rfl rfl (by omega) (by omega)) rfl ?_
    refine WL.pv (PV.eq (v' := subSl3 v 1 (64 * k) (64 * k + 64)) (PV.subLHM rfl (H.p 0 rfl) TryzT.sl32 TryzT.sz5 rfl rfl rfl rfl (by omega) (by omega)) (by congr 1)) rfl ?_
    refine WL.callV rfl rfl (hround Nil k _ wl1 _ (by omega) hJ H.toOut0 (Rob.pure rfl)) ?_
    rintro _ w2 ⟨hk, ⟨rfl, hJ⟩ | ⟨rfl, hJ⟩⟩
    · skip
      replace H := St.again0 (Ps := [SlB v l, fun w => RdA w ⟨bs, 0, none⟩ [v], fun w => RdA w ⟨bn, 0, none⟩ [.int .i64 64]]) hC hk (fun _ h => h.elim) (by intro p hp; simp at hp; rcases hp with rfl | rfl | rfl <;> assumption)
      refine WL.pv (PV.not rfl rfl) rfl ?_
      refine WL.nil ?_
      refine WE.cond_f rfl ?_
      refine WE.skip ?_
      refine WE.reg ?_
      refine WL.mv rfl rfl ?_
      refine WL.load1 rfl TryzT.ag3 rfl rfl (H.p 2 rfl) ?_
      refine WL.pv (PV.add64 rfl rfl rfl (by omega) (by omega)) rfl ?_
      refine WL.as rfl rfl ?_
      refine WL.nil ?_
      exact ⟨k + 1, (by repeat (first | with_reducible exact Off.refl _ _ | refine Off.upd rfl ?_ | refine Off.setAll rfl ?_ | refine Off.forget' rfl ?_)), ⟨rfl, trivial⟩, rfl, ⟨by omega, hJ, H⟩, (by omega)⟩
    · skip
      refine WL.pv (PV.not rfl rfl) rfl ?_
      refine WL.nil ?_
      refine WE.cond_t rfl ?_
      refine WE.ret ?_
      refine ⟨[], _, .nil _, trivial, ?_⟩
      exact ⟨rfl, Nil, .inr hJ⟩
  · skip
    try simp only [decide_eq_true_eq, decide_eq_false_iff_not, ne_eq, Decidable.not_not, Bool.not_eq_true', Bool.not_eq_false', Bool.and_eq_true, Bool.or_eq_true, Bool.not_not, Bool.and_eq_false_iff, Bool.or_eq_false_iff, Int.not_lt, Int.not_le] at hc9
    obtain rfl : k = n := by omega
    refine WE.exit ?_
    refine ⟨[], _, .nil _, trivial, ?_⟩
    exact ⟨rfl, Nil, .inl (hsta _ _ _ _ hJ H.toOut0)⟩

theorem Chunk_c {X : Nat → Prop} {w : World} {v : Value} {l : List UInt8} (hX : ∀ b, X b → b < w.heap.size) (hf0 : Rob X (SlB v l) w) :
    Ret Tryz.prog 99 [v, .int .i64 64].toArray w fun r w' => ∃ bs bn, r = .func (.func 121) [].toArray [.pointer (some ⟨bs, 0, none⟩), .pointer (some ⟨bn, 0, none⟩)].toArray ∧ Out Nil w w' ∧ Rob X (fun w => RdA w ⟨bs, 0, none⟩ [v]) w' ∧ Rob X (fun w => RdA w ⟨bn, 0, none⟩ [.int .i64 64]) w' := by
  refine Ret.of_body (N := 9) Tryz.func99 rfl rfl (by simp) ?_
  have H := St.begin hX
  replace H := H.add (rob0 hf0)
  refine WE.seq_reg ?_
  refine WL.box (l := [v]) H rfl (by exact SlC.cells (H.p 0 rfl)) rfl ?_
  intro b2 w1 H
  refine WL.box (l := _) H rfl (by rfl) rfl ?_
  intro b3 w2 H
  refine WL.as rfl rfl ?_
  refine WL.nil ?_
  refine WE.seq ?_
  refine WE.seq_reg ?_
  refine WL.load1 rfl TryzT.ag3 rfl rfl (by exact Blk.segAt (H.l 0 rfl) (Seg.all _) (by rfl)) ?_
  refine WL.pv (PV.lss rfl rfl rfl) rfl ?_
  refine WL.nil ?_
  refine WE.cond_f' rfl (by decide) ?_
  refine WE.skip ?_
  refine WE.seq_reg ?_
  refine WL.pv (PV.makeFunc rfl) rfl ?_
  refine WL.as rfl rfl ?_
  refine WL.nil ?_
  refine WE.ret ?_
  refine ⟨[_], _, .nil _, ⟨rfl, trivial⟩, ?_⟩
  replace H := (H.freeze (i := 0) rfl).freeze (i := 0) rfl
  exact ⟨b2, b3, rfl, H.toOut0, H.give ((H.rob 0 rfl).imp fun _ h => h.rd), H.give ((H.rob 1 rfl).imp fun _ h => h.rd)⟩

theorem Sum_c {X : Nat → Prop} {w : World} {a : Value} {la : List UInt8} (hX : ∀ b, X b → b < w.heap.size) (hf0 : Rob X (SlB a la) w) (hf1 : Rob X (Rounds) w) (hla : la.length ≤ 1000000000) :
    Ret Tryz.prog 65 [a].toArray w fun v w' => v = .agg (kc (shaOf la)).toArray ∧ Out Nil w w' := by
  refine Ret.of_body (N := 34) Tryz.func65 rfl rfl (by simp) ?_
  have H := St.begin hX
  replace H := H.add (rob0 hf1)
  replace H := H.add (rob0 hf0)
  have hp64 := padOf_64 la
  have hpl := padOf_length la
  have hz64 : zc la.length < 64 := by unfold zc; omega
  refine WE.seq_reg ?_
  refine WL.alloc H rfl TryzT.ze42 rfl ?_
  intro b2 w1 H
  refine WL.nil ?_
  refine WE.seq_reg ?_
  refine WL.call TryzT.fb97 rfl (start_c  H.yylt  ) ?_
  rintro _ w2 ⟨rfl, hO⟩
  replace H := H.out hO
  refine WL.alloc H rfl TryzT.ze149 rfl ?_
  intro b3 w3 H
  refine WL.storeL H 0 rfl rfl rfl (new := _) rfl (by exact TryzT.sz149) (by exact kw_one _) (Laid.at (Laid.all (by (simp only [kc_length, kw_length, List.length_replicate, List.length_append, List.length_cons, List.length_nil]; done))) (by rfl)) rfl ?_
  intro w4 H
  refine WL.nil ?_
  refine WE.seq_reg ?_
  refine WL.pv (PV.eq (v' := .func (.func 98) [.pointer (some ⟨b3, 0, none⟩)].toArray [].toArray) (PV.makeFunc rfl) rfl) rfl ?_
  refine WL.alloc H rfl TryzT.ze151 rfl ?_
  intro b4 w5 H
  refine WL.storeL H 0 rfl rfl rfl (new := _) rfl (by exact TryzT.sz151) (by exact one_lit _ rfl) (Laid.at (Laid.all (by (simp only [kc_length, kw_length, List.length_replicate, List.length_append, List.length_cons, List.length_nil]; done))) (by rfl)) rfl ?_
  intro w6 H
  refine WL.nil ?_
  refine WE.seq ?_
  refine WE.seq_reg ?_
  refine WL.mv rfl rfl ?_
  refine WL.call TryzT.fb100 rfl (Pad_c (la := la) H.yylt (H.rob 0 rfl) hla) ?_
  rintro v11 w7 ⟨hO, hR⟩
  replace H := (H.out hO).add hR
  refine WL.call TryzT.fb99 rfl (Chunk_c  H.yylt (by exact H.rob 0 rfl) ) ?_
  rintro _ w8 ⟨bs, bn, rfl, hO, hR1, hR2⟩
  replace H := ((H.out hO).add hR2).add hR1
  refine WL.nil ?_
  refine WE.block ?_
  replace H := H.pushNil
  refine WE.rangeF (α := Unit) (fun i _ => True) (fun i _ => []) (fun i _ => [Ent.blk b4 151 [.func (.func 98) [.pointer (some ⟨b3, 0, none⟩)].toArray [].toArray], Ent.blk b3 149 (kw (shaSt (padOf la) i)), Ent.blk b2 42 (kc (List.replicate 32 0))]) (fun i _ => [fun w => RdA w ⟨bs, 0, none⟩ [v11], fun w => RdA w ⟨bn, 0, none⟩ [.int .i64 64], SlB v11 (padOf la), SlB a la, Rounds]) (fun _ _ => False) (fun _ _ => []) (fun _ _ => []) (fun _ _ => []) () H rfl TryzT.fb121 (fun W0 hO => Chunk1_seq (n := (padOf la).length / 64) (H.ccLt hO) (H.ccRob0 hO 2 rfl) (H.ccRob0 hO 0 rfl) (H.ccRob0 hO 1 rfl) (by omega) (by omega)) (by intro _ _ _ h; rw [h]; rfl) ⟨trivial, rfl, rfl, rfl⟩ ?_ ?_ ?_
  · skip
    intro i _ xs_ l_ d_ o_ T_ sc_ w9 hi_ hR_ hV_
    obtain rfl := hV_
    refine WE.reg ?_
    refine WL.as rfl rfl ?_
    refine WL.nil ?_
    refine ⟨rfl, rfl, rfl, ?_⟩
    intro w10 H
    refine WE.block ?_
    refine WE.reg ?_
    refine WL.load1 rfl TryzT.ag151 rfl rfl (by exact Blk.segAt (H.l 0 rfl) (Seg.all _) (by rfl)) ?_
    refine WL.mv rfl rfl ?_
    refine WL.callv TryzT.fb98 rfl rfl (take_c (b := b3) (s := shaSt (padOf la) i) (la := ((padOf la).drop (64 * i)).take (64 * i + 64 - 64 * i)) H.yylt (H.l 1 rfl) ((H.robL 1 rfl 3 rfl).imp fun _ h => SlB.sub3 h (by omega) (by omega)) (H.robL 1 rfl 5 rfl) (by simp; omega) (shaSt_length _ _)) ?_
    rintro _ w11 ⟨rfl, hO, hB⟩
    replace H := H.called 1 rfl hO hB
    refine WL.nil ?_
    replace H := H.conv (L' := [Ent.blk b4 151 [.func (.func 98) [.pointer (some ⟨b3, 0, none⟩)].toArray [].toArray], Ent.blk b3 149 (kw (shaSt (padOf la) (i + 1))), Ent.blk b2 42 (kc (List.replicate 32 0)), Ent.obj l_ o_, Ent.obj d_ (.deferred (some [])), Ent.sn T_ w10]) (by rw [show 64 * i + 64 - 64 * i = 64 by omega]; rfl)
    replace H := H.drop (fun p hp => List.mem_cons_of_mem _ hp)
    exact ⟨(), trivial, H⟩
  · skip
    intro _ d_0 w12 hR_ H
    refine WE.seq_reg ?_
    refine WL.alloc H rfl TryzT.ze42 rfl ?_
    intro b6 w13 H
    refine WL.nil ?_
    refine WE.seq ?_
    refine WE.seq_reg ?_
    refine WL.mv rfl rfl ?_
    refine WL.nil ?_
    refine WE.block ?_
    have hS := shaSt_length (padOf la) ((padOf la).length / 64)
    refine WE.loop (α := Nat) [7, 17, 18, 19, 20, 21, 22, 23, 24, 25, 26, 27, 28, 29, 30, 31, 32] (fun k => [(17, .int .i64 k)]) (fun k wl => k ≤ 32 ∧ St X w wl [] [Ent.blk b6 42 (kc (fillZ 32 k (outOf (shaSt (padOf la) ((padOf la).length / 64))))), Ent.obj d_0 (.deferred (some [])), Ent.blk b4 151 [.func (.func 98) [.pointer (some ⟨b3, 0, none⟩)].toArray [].toArray], Ent.blk b3 149 (kw (shaSt (padOf la) ((padOf la).length / 64))), Ent.blk b2 42 (kc (List.replicate 32 0))] [fun w => RdA w ⟨bs, 0, none⟩ [v11], fun w => RdA w ⟨bn, 0, none⟩ [.int .i64 64], SlB v11 (padOf la), SlB a la, Rounds]) (fun k => 32 - k) 0 ⟨rfl, trivial⟩ ⟨Nat.zero_le _, by rw [fillZ_zero]; exact H⟩ ?_
    intro k γ0 w14 hI
    try dsimp only at hI
    obtain ⟨hi, H⟩ := hI
    refine WE.seq_reg ?_
    refine WL.pv (PV.lss rfl rfl rfl) rfl ?_
    refine WL.nil ?_
    refine WE.seq ?_
    refine WE.cond rfl (fun hc18 => ?_) (fun hc18 => ?_)
    · skip
      try simp only [decide_eq_true_eq, decide_eq_false_iff_not, ne_eq, Decidable.not_not, Bool.not_eq_true', Bool.not_eq_false', Bool.and_eq_true, Bool.or_eq_true, Bool.not_not, Bool.and_eq_false_iff, Bool.or_eq_false_iff, Int.not_lt, Int.not_le] at hc18
      have hlt4 : k < 32 := by omega
      refine WE.skip ?_
      refine WE.seq ?_
      refine WE.block ?_
      refine WE.seq_reg ?_
      refine WL.mv rfl rfl ?_
      refine WL.as rfl rfl ?_
      refine WL.nil ?_
      refine WE.reg ?_
      refine WL.mv rfl rfl ?_
      refine WL.mv rfl rfl ?_
      refine WL.pv (PV.eq (v' := .int .i64 ((k / 4 : Nat) : Int)) (PV.quo64 rfl rfl rfl (by omega) (by omega) (by omega)) (by rfl)) rfl ?_
      refine WL.pv (PV.indexArr rfl TryzT.ar149 TryzT.sz147 rfl rfl (by omega) (by omega)) rfl ?_
      refine WL.load1 rfl TryzT.ag147 rfl rfl (by exact Blk.segAt (H.l 3 rfl) (Seg.word (k / 4) (by rw [hS]; omega)) (by omega)) ?_
      refine WL.mv rfl rfl ?_
      refine WL.pv (PV.eq (v' := .int .i64 ((k % 4 : Nat) : Int)) (PV.rem64 rfl rfl rfl (by omega) (by omega)) (by rfl)) rfl ?_
      refine WL.pv (PV.eq (v' := .int .i64 ((8 * (k % 4) : Nat) : Int)) (PV.mul64 rfl rfl rfl (by omega) (by omega)) (by rfl)) rfl ?_
      refine WL.pv (PV.eq (v' := .int .i64 ((24 - 8 * (k % 4) : Nat) : Int)) (PV.sub64 rfl rfl rfl (by omega) (by omega)) (by (congr 1; omega))) rfl ?_
      refine WL.pv (PV.shr32 (n := 24 - 8 * (k % 4)) rfl rfl rfl (by omega)) rfl ?_
      refine WL.pv (PV.c32_8 rfl TryzT.in147 TryzT.in5 rfl) rfl ?_
      refine WL.pv (PV.indexArr rfl TryzT.ar42 TryzT.sz5 rfl rfl (by omega) (by omega)) rfl ?_
      refine WL.storeL H 0 rfl rfl rfl (new := _) rfl (by exact TryzT.sz5) (by exact one_lit _ rfl) (Laid.at (Laid.byteA k (by rw [fillZ_length (by omega) (by rw [outOf_length]; omega)]; omega)) (by (simp; done))) rfl ?_
      intro w15 H
      refine WL.nil ?_
      refine WE.reg ?_
      refine WL.pv (PV.add64 rfl rfl rfl (by omega) (by omega)) rfl ?_
      refine WL.mv rfl rfl ?_
      refine WL.nil ?_
      have e := fillZ_set (m := 32) (k := k) (l := outOf (shaSt (padOf la) ((padOf la).length / 64))) (by omega) (by rw [outOf_length]; omega)
      rw [outOf_get _ _ _ (by rw [hS]; omega)] at e
      exact ⟨k + 1, (by repeat (first | with_reducible exact Off.refl _ _ | refine Off.upd rfl ?_ | refine Off.setAll rfl ?_ | refine Off.forget' rfl ?_)), ⟨rfl, trivial⟩, rfl, ⟨by omega, H.conv (by rw [← e]; rfl)⟩, (by omega)⟩
    · skip
      try simp only [decide_eq_true_eq, decide_eq_false_iff_not, ne_eq, Decidable.not_not, Bool.not_eq_true', Bool.not_eq_false', Bool.and_eq_true, Bool.or_eq_true, Bool.not_not, Bool.and_eq_false_iff, Bool.or_eq_false_iff, Int.not_lt, Int.not_le] at hc18
      obtain rfl : k = 32 := by omega
      refine WE.exit ?_
      refine WE.seq_reg ?_
      have e32 := fillZ_all (m := 32) (l := outOf (shaSt (padOf la) ((padOf la).length / 64))) (outOf_length _)
      rw [e32] at H
      refine WL.loadR rfl TryzT.ag42 rfl rfl (by exact Blk.segAt (H.l 0 rfl) (Seg.all _) (by rfl)) (by exact TryzT.sz42) ?_
      refine WL.storeL H 4 rfl rfl rfl (new := _) rfl (by exact TryzT.sz42) (by exact kc_one _) (Laid.at (Laid.all (by rfl)) (by rfl)) rfl ?_
      intro w16 H
      refine WL.nil ?_
      refine WE.ret ?_
      (obtain ⟨w17, hl_0, H⟩ := H.unmark 1 rfl)
      refine ⟨[_], _, (hl_0 _ (.nil _)), ⟨⟨_, rfl, run_loadVar_aggR TryzT.ag42 (by exact Blk.segAt (H.l 3 rfl) (Seg.all _) rfl) (by exact TryzT.sz42)⟩, trivial⟩, ?_⟩
      exact ⟨rfl, H.toOut0⟩
  · skip
    intro e_ _ d_0 w18 he_ hR_ H
    exact hR_.elim

end Go.Sp.Tryz

set_option maxRecDepth 100000
set_option maxHeartbeats 1000000
set_option linter.unusedVariables false
set_option linter.unusedSimpArgs false
namespace Go.Sp.Tryz
open Go.Proofs Go.RowKit Go.Sp

def cutByte (x : UInt8) (k : Nat) : UInt8 := UInt8.ofNat (x.toNat / 2 ^ (8 - k) * 2 ^ (8 - k))
def keptN (j q : Nat) : Nat := min (j - 8 * q) 8
def cutN (l : List UInt8) (j : Nat) : List UInt8 := (List.range 32).map fun q => cutByte (l.getD q 0) (keptN j q)
def clampN (b : Int) : Nat := (min (max b 0) 256).toNat
def cutI (l : List UInt8) (b : Int) : List UInt8 := cutN l (clampN b)
theorem cutN_length (l : List UInt8) (j : Nat) : (cutN l j).length = 32 := by simp [cutN]
theorem cutI_length (l : List UInt8) (b : Int) : (cutI l b).length = 32 := cutN_length _ _
theorem cutByte_toNat (x : UInt8) (k : Nat) : (cutByte x k).toNat = x.toNat / 2 ^ (8 - k) * 2 ^ (8 - k) := by
  have h := Nat.div_mul_le_self x.toNat (2 ^ (8 - k))
  have := x.toNat_lt
  simp [cutByte]; omega
theorem cut_set (l : List UInt8) (j i : Nat) (hi : i < 32) (hl : l.length = 32) : ((List.range 32).map fun q => if q < i then cutByte (l.getD q 0) (keptN j q) else l.getD q 0).set i (cutByte (l.getD i 0) (keptN j i)) = (List.range 32).map fun q => if q < i + 1 then cutByte (l.getD q 0) (keptN j q) else l.getD q 0 := by
  apply List.ext_getElem
  · simp
  · intro q h1 h2
    simp at h2
    rw [List.getElem_set]
    split
    · rename_i h; subst h; simp
    · rename_i h
      simp only [List.getElem_map, List.getElem_range]
      by_cases h3 : q < i
      · rw [if_pos h3, if_pos (by omega)]
      · rw [if_neg h3, if_neg (by omega)]
def cutPart (l : List UInt8) (j i : Nat) : List UInt8 := (List.range 32).map fun q => if q < i then cutByte (l.getD q 0) (keptN j q) else l.getD q 0
theorem cutPart_length (l : List UInt8) (j i : Nat) : (cutPart l j i).length = 32 := by simp [cutPart]
theorem cutPart_zero (l : List UInt8) (j : Nat) (hl : l.length = 32) : cutPart l j 0 = l := by
  apply List.ext_getElem
  · rw [cutPart_length, hl]
  · intro q h1 h2; simp [cutPart, h2]
theorem cutPart_all (l : List UInt8) (j : Nat) : cutPart l j 32 = cutN l j := by
  unfold cutPart cutN
  apply List.map_congr_left
  intro q hq
  rw [if_pos (by simpa using hq)]
theorem cutPart_get (l : List UInt8) (j i : Nat) (hi : i < (cutPart l j i).length) : (cutPart l j i)[i] = l.getD i 0 := by simp [cutPart]
theorem and_mask9 : ∀ k : Fin 9, ∀ x : Fin 256, IntKind.u8.wrap ((BitVec.ofInt IntKind.u8.bits (x.val : Int) &&& BitVec.ofInt IntKind.u8.bits (IntKind.u8.wrap (255 * 2 ^ (min ((8 : Int) - (k.val : Int)).toNat IntKind.u8.bits)))).toNat) = ((x.val / 2 ^ (8 - k.val) * 2 ^ (8 - k.val) : Nat) : Int) := by decide +kernel
theorem and_mask (x : UInt8) (k : Nat) (hk : k ≤ 8) (z : Int) (hz : z = 8 - (k : Int)) : IntKind.u8.wrap ((BitVec.ofInt IntKind.u8.bits (x.toNat : Int) &&& BitVec.ofInt IntKind.u8.bits (IntKind.u8.wrap (255 * 2 ^ (min z.toNat IntKind.u8.bits)))).toNat) = ((cutByte x k).toNat : Int) := by
  subst hz
  rw [cutByte_toNat]
  exact and_mask9 ⟨k, by omega⟩ ⟨x.toNat, x.toNat_lt⟩
def bitN (l : List UInt8) (i : Nat) : Nat := (l.getD (i / 8) 0).toNat / 2 ^ (7 - i % 8) % 2
def bitI (l : List UInt8) (i : Int) : Int := if i < 0 ∨ 255 < i then -1 else (bitN l i.toNat : Int)
theorem halfN (b t : Nat) : ((b / 2 ^ t : Nat) : Int) / 2 = ((b / 2 ^ (t + 1) : Nat) : Int) := by
  rw [Nat.pow_succ, ← Nat.div_div_eq_div_mul]; omega
def flipN (l : List UInt8) (i : Nat) : List UInt8 := l.set (i / 8) (if bitN l i = 0 then UInt8.ofNat ((l.getD (i / 8) 0).toNat + 2 ^ (7 - i % 8)) else UInt8.ofNat ((l.getD (i / 8) 0).toNat - 2 ^ (7 - i % 8)))
theorem bitN_lt (l : List UInt8) (i : Nat) : bitN l i < 2 := Nat.mod_lt _ (by decide)
theorem Blk.bytD {w : World} {b o : Nat} {t : TypeId} {l : List UInt8} (h : Blk w b t (kc l)) (i : Nat) (hi : i < l.length) (ho : o = i) : RdA w ⟨b, o, none⟩ [.int .u8 ((l.getD i 0).toNat : Int)] := by
  have h1 := Blk.segAt h (Seg.byte i hi) ho
  rwa [← getD_at (d := 0)] at h1
def HAt (bh bc : Nat) (bits : Int) (w : World) : Prop := RdA w ⟨bh, 0, none⟩ [.pointer (some ⟨bc, 0, none⟩), .int .i64 bits]

theorem refBit_c {X : Nat → Prop} {w : World} {l : List UInt8} {i : Int} (hX : ∀ b, X b → b < w.heap.size) (hl : l.length = 32) (hi : -9223372036854775808 ≤ i ∧ i ≤ 9223372036854775807) :
    Ret Tryz.prog 83 [.agg (kc l).toArray, .int .i64 i].toArray w fun v w' => v = .int .i64 (bitI l i) ∧ Out Nil w w' := by
  refine Ret.of_body (N := 28) Tryz.func83 rfl rfl (by simp) ?_
  have H := St.begin hX
  refine WE.seq_reg ?_
  refine WL.box (l := kc l) H rfl (by rfl) rfl ?_
  intro b2 w1 H
  refine WL.as rfl rfl ?_
  refine WL.nil ?_
  refine WE.seq ?_
  refine WE.seq_reg ?_
  refine WL.mv rfl rfl ?_
  refine WL.pv (PV.lss rfl rfl rfl) rfl ?_
  refine WL.mv rfl rfl ?_
  refine WL.split (t := 9) rfl (fun hg9 => ?_) (fun hg9 => ?_)
  · skip
    refine WL.known (t := 8) (c := true) rfl hg9 ?_
    try simp only [decide_eq_true_eq, decide_eq_false_iff_not, ne_eq, Decidable.not_not, Bool.not_eq_true', Bool.not_eq_false', Bool.and_eq_true, Bool.or_eq_true, Bool.not_not, Bool.and_eq_false_iff, Bool.or_eq_false_iff, Int.not_lt, Int.not_le] at hg9
    refine WL.off rfl ?_
    refine WL.off rfl ?_
    refine WL.pv (PV.pick_t rfl rfl rfl) rfl ?_
    refine WL.nil ?_
    refine WE.cond_t rfl ?_
    refine WE.seq_reg ?_
    refine WL.as rfl rfl ?_
    refine WL.nil ?_
    refine WE.ret ?_
    refine ⟨[_], _, .nil _, ⟨rfl, trivial⟩, ?_⟩
    refine ⟨?_, H.toOut0⟩
    rw [bitI, if_pos (by omega)]; rfl
  · skip
    refine WL.known (t := 8) (c := false) rfl hg9 ?_
    try simp only [decide_eq_true_eq, decide_eq_false_iff_not, ne_eq, Decidable.not_not, Bool.not_eq_true', Bool.not_eq_false', Bool.and_eq_true, Bool.or_eq_true, Bool.not_not, Bool.and_eq_false_iff, Bool.or_eq_false_iff, Int.not_lt, Int.not_le] at hg9
    refine WL.mv rfl rfl ?_
    refine WL.pv (PV.gtr rfl rfl rfl) rfl ?_
    refine WL.pv (PV.pick_f rfl rfl rfl) rfl ?_
    refine WL.nil ?_
    refine WE.cond rfl (fun hc12 => ?_) (fun hc12 => ?_)
    · skip
      try simp only [decide_eq_true_eq, decide_eq_false_iff_not, ne_eq, Decidable.not_not, Bool.not_eq_true', Bool.not_eq_false', Bool.and_eq_true, Bool.or_eq_true, Bool.not_not, Bool.and_eq_false_iff, Bool.or_eq_false_iff, Int.not_lt, Int.not_le] at hc12
      refine WE.seq_reg ?_
      refine WL.as rfl rfl ?_
      refine WL.nil ?_
      refine WE.ret ?_
      refine ⟨[_], _, .nil _, ⟨rfl, trivial⟩, ?_⟩
      refine ⟨?_, H.toOut0⟩
      rw [bitI, if_pos (by omega)]; rfl
    · skip
      try simp only [decide_eq_true_eq, decide_eq_false_iff_not, ne_eq, Decidable.not_not, Bool.not_eq_true', Bool.not_eq_false', Bool.and_eq_true, Bool.or_eq_true, Bool.not_not, Bool.and_eq_false_iff, Bool.or_eq_false_iff, Int.not_lt, Int.not_le] at hc12
      obtain ⟨n, rfl⟩ : ∃ n : Nat, i = (n : Int) := ⟨i.toNat, by omega⟩
      have hn : n < 256 := by omega
      have hx := (l.getD (n / 8) 0).toNat_lt
      refine WE.skip ?_
      refine WE.seq_reg ?_
      refine WL.mv rfl rfl ?_
      refine WL.pv (PV.quo64 rfl rfl rfl (by omega) (by omega) (by omega)) rfl ?_
      refine WL.pv (PV.indexArr rfl TryzT.ar31 TryzT.sz5 rfl rfl (by omega) (by omega)) rfl ?_
      refine WL.load1 rfl TryzT.ag5 rfl rfl (Blk.bytD (H.l 0 rfl) (n / 8) (by omega) (by omega)) ?_
      refine WL.pv (PV.conv64 rfl TryzT.in5 TryzT.in3 rfl (by omega) (by omega)) rfl ?_
      refine WL.as rfl rfl ?_
      refine WL.nil ?_
      refine WE.seq ?_
      refine WE.seq_reg ?_
      refine WL.mv rfl rfl ?_
      refine WL.pv (PV.rem64 rfl rfl rfl (by omega) (by omega)) rfl ?_
      refine WL.as rfl rfl ?_
      refine WL.nil ?_
      refine WE.block ?_
      refine WE.loop (α := Nat) [5, 6, 20, 21, 22, 23, 24, 25] (fun j => [(6, .int .i64 j), (5, .int .i64 (((l.getD (n / 8) 0).toNat / 2 ^ (j - n % 8) : Nat) : Int))]) (fun j wl => n % 8 ≤ j ∧ j ≤ 7 ∧ St X w wl [] [Ent.blk b2 31 (kc l)] []) (fun j => 7 - j) (n % 8) ⟨rfl, by show Value.int .i64 _ = _; rw [Nat.sub_self, Nat.pow_zero, Nat.div_one], trivial⟩ ⟨Nat.le_refl _, by omega, H⟩ ?_
      intro j γ0 w2 hI
      try dsimp only at hI
      obtain ⟨hj0, hj7, H⟩ := hI
      refine WE.seq ?_
      refine WE.seq_reg ?_
      refine WL.mv rfl rfl ?_
      refine WL.pv (PV.lss rfl rfl rfl) rfl ?_
      refine WL.nil ?_
      refine WE.cond rfl (fun hc21 => ?_) (fun hc21 => ?_)
      · skip
        try simp only [decide_eq_true_eq, decide_eq_false_iff_not, ne_eq, Decidable.not_not, Bool.not_eq_true', Bool.not_eq_false', Bool.and_eq_true, Bool.or_eq_true, Bool.not_not, Bool.and_eq_false_iff, Bool.or_eq_false_iff, Int.not_lt, Int.not_le] at hc21
        have hlt : j < 7 := by omega
        refine WE.skip ?_
        refine WE.seq ?_
        refine WE.block ?_
        refine WE.reg ?_
        refine WL.mv rfl rfl ?_
        refine WL.pv (PV.eq (v' := .int .i64 (((l.getD (n / 8) 0).toNat / 2 ^ (j + 1 - n % 8) : Nat) : Int)) (PV.quo64 rfl rfl rfl (by generalize (l.getD (n / 8) 0).toNat / 2 ^ (j - n % 8) = Q; omega) (by have h2 := Nat.div_le_self (l.getD (n / 8) 0).toNat (2 ^ (j - n % 8)); generalize (l.getD (n / 8) 0).toNat / 2 ^ (j - n % 8) = Q at *; omega) (by omega)) (by rw [halfN, show j + 1 - n % 8 = (j - n % 8) + 1 by omega])) rfl ?_
        refine WL.as rfl rfl ?_
        refine WL.nil ?_
        refine WE.reg ?_
        refine WL.mv rfl rfl ?_
        refine WL.pv (PV.add64 rfl rfl rfl (by omega) (by omega)) rfl ?_
        refine WL.as rfl rfl ?_
        refine WL.nil ?_
        exact ⟨j + 1, (by repeat (first | with_reducible exact Off.refl _ _ | refine Off.upd rfl ?_ | refine Off.setAll rfl ?_ | refine Off.forget' rfl ?_)), ⟨rfl, rfl, trivial⟩, rfl, ⟨by omega, by omega, H⟩, (by omega)⟩
      · skip
        try simp only [decide_eq_true_eq, decide_eq_false_iff_not, ne_eq, Decidable.not_not, Bool.not_eq_true', Bool.not_eq_false', Bool.and_eq_true, Bool.or_eq_true, Bool.not_not, Bool.and_eq_false_iff, Bool.or_eq_false_iff, Int.not_lt, Int.not_le] at hc21
        obtain rfl : j = 7 := by omega
        refine WE.exit ?_
        refine WE.seq_reg ?_
        refine WL.mv rfl rfl ?_
        refine WL.pv (PV.remw rfl rfl rfl (by omega)) rfl ?_
        refine WL.as rfl rfl ?_
        refine WL.nil ?_
        refine WE.ret ?_
        refine ⟨[_], _, .nil _, ⟨rfl, trivial⟩, ?_⟩
        refine ⟨?_, H.toOut0⟩
        rw [bitI, if_neg (by omega)]
        show Value.int .i64 _ = _
        rw [Int.toNat_natCast]; rfl

theorem Right_c {X : Nat → Prop} {w : World} {i : Int} (hX : ∀ b, X b → b < w.heap.size) :
    Ret Tryz.prog 28 [.int .i64 i].toArray w fun v w' => v = .bool (decide (0 ≤ i ∧ i ≤ 256)) ∧ Out Nil w w' := by
  refine Ret.of_body (N := 9) Tryz.func28 rfl rfl (by simp) ?_
  have H := St.begin hX
  refine WE.seq_reg ?_
  refine WL.as rfl rfl ?_
  refine WL.nil ?_
  refine WE.seq_reg ?_
  refine WL.mv rfl rfl ?_
  refine WL.pv (PV.geq rfl rfl rfl) rfl ?_
  refine WL.mv rfl rfl ?_
  refine WL.split (t := 5) rfl (fun hg5 => ?_) (fun hg5 => ?_)
  · skip
    refine WL.known (t := 4) (c := true) rfl hg5 ?_
    try simp only [decide_eq_true_eq, decide_eq_false_iff_not, ne_eq, Decidable.not_not, Bool.not_eq_true', Bool.not_eq_false', Bool.and_eq_true, Bool.or_eq_true, Bool.not_not, Bool.and_eq_false_iff, Bool.or_eq_false_iff, Int.not_lt, Int.not_le] at hg5
    refine WL.mv rfl rfl ?_
    refine WL.pv (PV.leq rfl rfl rfl) rfl ?_
    refine WL.pv (PV.pick_t rfl rfl rfl) rfl ?_
    refine WL.as rfl rfl ?_
    refine WL.nil ?_
    refine WE.ret ?_
    refine ⟨[_], _, .nil _, ⟨rfl, trivial⟩, ?_⟩
    refine ⟨?_, H.toOut0⟩
    show Value.bool _ = _
    congr 1
    (rw [decide_eq_decide]; omega)
  · skip
    refine WL.known (t := 4) (c := false) rfl hg5 ?_
    try simp only [decide_eq_true_eq, decide_eq_false_iff_not, ne_eq, Decidable.not_not, Bool.not_eq_true', Bool.not_eq_false', Bool.and_eq_true, Bool.or_eq_true, Bool.not_not, Bool.and_eq_false_iff, Bool.or_eq_false_iff, Int.not_lt, Int.not_le] at hg5
    refine WL.off rfl ?_
    refine WL.off rfl ?_
    refine WL.pv (PV.pick_f rfl rfl rfl) rfl ?_
    refine WL.as rfl rfl ?_
    refine WL.nil ?_
    refine WE.ret ?_
    refine ⟨[_], _, .nil _, ⟨rfl, trivial⟩, ?_⟩
    refine ⟨?_, H.toOut0⟩
    show Value.bool _ = _
    congr 1
    (symm; exact decide_eq_false (by omega))

theorem Cut_c {X : Nat → Prop} {w : World} {l : List UInt8} {i : Int} (hX : ∀ b, X b → b < w.heap.size) (hl : l.length = 32) (hi : -9223372036854775808 ≤ i ∧ i ≤ 9223372036854775807) :
    Ret Tryz.prog 64 [.agg (kc l).toArray, .int .i64 i].toArray w fun v w' => v = .agg (kc (cutI l i)).toArray ∧ Out Nil w w' := by
  refine Ret.of_body (N := 29) Tryz.func64 rfl rfl (by simp) ?_
  have H := St.begin hX
  have hc : ((clampN i : Nat) : Int) = min (max i 0) 256 := by unfold clampN; omega
  refine WE.seq_reg ?_
  refine WL.box (l := kc l) H rfl (by rfl) rfl ?_
  intro b2 w1 H
  refine WL.alloc H rfl TryzT.ze42 rfl ?_
  intro b4 w2 H
  refine WL.nil ?_
  refine WE.seq_reg ?_
  refine WL.mv rfl rfl ?_
  refine WL.pv (PV.maxI rfl rfl) rfl ?_
  refine WL.pv (PV.eq (v' := .int .i64 ((clampN i : Nat) : Int)) (PV.minI rfl rfl) (by rw [hc])) rfl ?_
  refine WL.as rfl rfl ?_
  refine WL.nil ?_
  refine WE.seq ?_
  refine WE.seq_reg ?_
  refine WL.mv rfl rfl ?_
  refine WL.nil ?_
  refine WE.block ?_
  refine WE.loop (α := Nat) [5, 6, 10, 11, 12, 13, 14, 15, 16, 17, 18, 19, 20, 21, 22, 23, 24, 25, 26, 27] (fun q => [(10, .int .i64 q)]) (fun q wl => q ≤ 32 ∧ St X w wl [] [Ent.blk b4 42 (kc (List.replicate 32 0)), Ent.blk b2 42 (kc (cutPart l (clampN i) q))] []) (fun q => 32 - q) 0 ⟨rfl, trivial⟩ ⟨Nat.zero_le _, by rw [cutPart_zero _ _ hl]; exact H⟩ ?_
  intro q γ0 w3 hI
  try dsimp only at hI
  obtain ⟨hq, H⟩ := hI
  have hcp := cutPart_length l (clampN i) q
  have hk8 : keptN (clampN i) q ≤ 8 := by unfold keptN; omega
  refine WE.seq_reg ?_
  refine WL.pv (PV.lss rfl rfl rfl) rfl ?_
  refine WL.nil ?_
  refine WE.seq ?_
  refine WE.cond rfl (fun hc11 => ?_) (fun hc11 => ?_)
  · skip
    try simp only [decide_eq_true_eq, decide_eq_false_iff_not, ne_eq, Decidable.not_not, Bool.not_eq_true', Bool.not_eq_false', Bool.and_eq_true, Bool.or_eq_true, Bool.not_not, Bool.and_eq_false_iff, Bool.or_eq_false_iff, Int.not_lt, Int.not_le] at hc11
    have hlt : q < 32 := by omega
    refine WE.skip ?_
    refine WE.seq ?_
    refine WE.block ?_
    refine WE.seq_reg ?_
    refine WL.mv rfl rfl ?_
    refine WL.as rfl rfl ?_
    refine WL.nil ?_
    refine WE.seq_reg ?_
    refine WL.mv rfl rfl ?_
    refine WL.mv rfl rfl ?_
    refine WL.pv (PV.mul64 rfl rfl rfl (by omega) (by omega)) rfl ?_
    refine WL.pv (PV.sub64 rfl rfl rfl (by omega) (by omega)) rfl ?_
    refine WL.pv (PV.maxI rfl rfl) rfl ?_
    refine WL.pv (PV.eq (v' := .int .i64 ((keptN (clampN i) q : Nat) : Int)) (PV.minI rfl rfl) (by congr 1; unfold keptN; omega)) rfl ?_
    refine WL.as rfl rfl ?_
    refine WL.nil ?_
    refine WE.draw (.take 0 (.take 1 (.take 2 (.take 3 (.take 4 (.take 5 (.take 6 (.take 7 (.pick1 8 .done))))))))) TryzT.mixed (by kernel_rfl) ?_
    replace H := H.out (Out.drew _)
    refine WP.mv rfl rfl rfl ?_
    refine WP.take_pure rfl rfl (PV.indexArr rfl TryzT.ar42 TryzT.sz5 rfl rfl (by omega) (by omega)) ?_
    refine WP.take_read rfl rfl (RV.loadOne rfl TryzT.ag5 rfl) (by have h1 := Blk.segAt (o' := 0 + (q : Int).toNat * 1) (H.l 1 rfl) (Seg.byte q (by rw [cutPart_length]; exact hlt)) (by omega); rw [cutPart_get] at h1; exact h1) ?_
    refine WP.mv rfl rfl rfl ?_
    refine WP.take_pure rfl rfl (PV.sub64 rfl rfl rfl (by omega) (by omega)) ?_
    refine WP.take_pure rfl rfl (PV.shlw rfl rfl rfl (by omega)) ?_
    refine WP.take_pure rfl rfl (PV.eq (v' := .int .u8 ((cutByte (l.getD q 0) (keptN (clampN i) q)).toNat : Int)) (PV.andw rfl rfl rfl) (congrArg (Value.int .u8) (and_mask _ _ (by unfold keptN; omega) _ rfl))) ?_
    refine WP.take_pure rfl rfl (PV.indexArr rfl TryzT.ar42 TryzT.sz5 rfl rfl (by omega) (by omega)) ?_
    refine WP.pick1 rfl ?_
    refine WL.storeL H 1 rfl rfl rfl (new := _) rfl (by exact TryzT.sz5) (by exact one_lit _ rfl) (Laid.at (Laid.byteA q (by rw [cutPart_length]; exact hlt)) (by (simp; done))) rfl ?_
    intro w4 H
    refine WL.nil ⟨(List.forall_mem_cons.2 ⟨(by exact (fun h => absurd (show waits _ 8 2 = false from h) (by decide +kernel))), (fun _ h => by cases h)⟩), ?_⟩
    refine WP.done ?_
    refine WE.reg ?_
    refine WL.pv (PV.add64 rfl rfl rfl (by omega) (by omega)) rfl ?_
    refine WL.mv rfl rfl ?_
    refine WL.nil ?_
    replace H := H.conv (L' := [Ent.blk b4 42 (kc (List.replicate 32 0)), Ent.blk b2 42 (kc (cutPart l (clampN i) (q + 1)))]) (by rw [show (cutPart l (clampN i) q).set q _ = _ from cut_set l (clampN i) q hlt hl]; rfl)
    exact ⟨q + 1, (by repeat (first | with_reducible exact Off.refl _ _ | refine Off.upd rfl ?_ | refine Off.setAll rfl ?_ | refine Off.forget' rfl ?_)), ⟨rfl, trivial⟩, rfl, ⟨by omega, H⟩, (by omega)⟩
  · skip
    try simp only [decide_eq_true_eq, decide_eq_false_iff_not, ne_eq, Decidable.not_not, Bool.not_eq_true', Bool.not_eq_false', Bool.and_eq_true, Bool.or_eq_true, Bool.not_not, Bool.and_eq_false_iff, Bool.or_eq_false_iff, Int.not_lt, Int.not_le] at hc11
    obtain rfl : q = 32 := by omega
    refine WE.exit ?_
    refine WE.seq_reg ?_
    rw [cutPart_all] at H
    have hcl := cutN_length l (clampN i)
    refine WL.loadR rfl TryzT.ag42 rfl rfl (by exact Blk.segAt (H.l 1 rfl) (Seg.all _) (by rfl)) (by exact TryzT.sz42) ?_
    refine WL.storeL H 0 rfl rfl rfl (new := _) rfl (by exact TryzT.sz42) (by exact kc_one _) (Laid.at (Laid.all (by (simp only [kc_length, kw_length, List.length_replicate, List.length_append, List.length_cons, List.length_nil, cutI_length, cutN_length, cutPart_length, shaOf_length]; done))) (by rfl)) rfl ?_
    intro w5 H
    refine WL.nil ?_
    refine WE.ret ?_
    refine ⟨[_], _, .nil _, ⟨⟨_, rfl, run_loadVar_aggR TryzT.ag42 (by exact Blk.segAt (H.l 0 rfl) (Seg.all _) rfl) (by exact TryzT.sz42)⟩, trivial⟩, ?_⟩
    exact ⟨rfl, H.toOut0⟩

theorem New_c {X : Nat → Prop} {w : World} {i : Int} (hX : ∀ b, X b → b < w.heap.size) (hbits : 0 ≤ i ∧ i ≤ 256) :
    Ret Tryz.prog 32 [.int .i64 i].toArray w fun v w' => ∃ bh bc, v = .tuple [.pointer (some ⟨bh, 0, none⟩), .int .i64 0].toArray ∧ Out Nil w w' ∧ w.heap.size ≤ bc ∧ Blk w' bc 108 [.int .i64 0] ∧ Rob (fun c => X c ∨ c = bc) (HAt bh bc i) w' := by
  refine Ret.of_body (N := 15) Tryz.func32 rfl rfl (by simp) ?_
  have H := St.begin hX
  refine WE.seq_reg ?_
  refine WL.as rfl rfl ?_
  refine WL.as rfl rfl ?_
  refine WL.nil ?_
  refine WE.seq ?_
  refine WE.seq_reg ?_
  refine WL.mv rfl rfl ?_
  refine WL.pv (PV.lss rfl rfl rfl) rfl ?_
  refine WL.mv rfl rfl ?_
  refine WL.split (t := 6) rfl (fun hg6 => ?_) (fun hg6 => ?_)
  · skip
    refine WL.known (t := 5) (c := true) rfl hg6 ?_
    try simp only [decide_eq_true_eq, decide_eq_false_iff_not, ne_eq, Decidable.not_not, Bool.not_eq_true', Bool.not_eq_false', Bool.and_eq_true, Bool.or_eq_true, Bool.not_not, Bool.and_eq_false_iff, Bool.or_eq_false_iff, Int.not_lt, Int.not_le] at hg6
    exfalso; omega
  · skip
    refine WL.known (t := 5) (c := false) rfl hg6 ?_
    try simp only [decide_eq_true_eq, decide_eq_false_iff_not, ne_eq, Decidable.not_not, Bool.not_eq_true', Bool.not_eq_false', Bool.and_eq_true, Bool.or_eq_true, Bool.not_not, Bool.and_eq_false_iff, Bool.or_eq_false_iff, Int.not_lt, Int.not_le] at hg6
    refine WL.mv rfl rfl ?_
    refine WL.pv (PV.gtr rfl rfl rfl) rfl ?_
    refine WL.pv (PV.pick_f rfl rfl rfl) rfl ?_
    refine WL.nil ?_
    refine WE.cond_f' rfl (by simp; omega) ?_
    refine WE.skip ?_
    refine WE.seq_reg ?_
    refine WL.pv (PV.buildS rfl TryzT.pl108 TryzT.ze108 Fl.nil) rfl ?_
    refine WL.box (l := _) H rfl (by rfl) rfl ?_
    intro b11 w1 H
    refine WL.mv rfl rfl ?_
    refine WL.pv (PV.buildS rfl TryzT.pl110 TryzT.ze110 (Fl.cons rfl (by rfl) (by (simp only [kc_length, kw_length, List.length_replicate, List.length_append, List.length_cons, List.length_nil, cutI_length, cutN_length, cutPart_length, shaOf_length]; done)) Laid.head (Fl.cons rfl (by rfl) (by (simp only [kc_length, kw_length, List.length_replicate, List.length_append, List.length_cons, List.length_nil, cutI_length, cutN_length, cutPart_length, shaOf_length]; done)) (Laid.tail Laid.head rfl) Fl.nil))) rfl ?_
    refine WL.box (l := _) H rfl (by rfl) rfl ?_
    intro b14 w2 H
    refine WL.as rfl rfl ?_
    refine WL.as rfl rfl ?_
    refine WL.nil ?_
    refine WE.ret ?_
    refine ⟨[_, _], _, .nil _, ⟨rfl, rfl, trivial⟩, ?_⟩
    replace H := H.freeze (i := 0) rfl
    exact ⟨_, _, rfl, H.toOut0, H.geL _ (List.mem_of_getElem? (i := 0) rfl) _ rfl, H.l 0 rfl, (H.give1 0 rfl).imp fun _ h => h.rd⟩

theorem NewBad_c {X : Nat → Prop} {w : World} {i : Int} (hX : ∀ b, X b → b < w.heap.size) (hbits : i < 0 ∨ 256 < i) :
    Ret Tryz.prog 32 [.int .i64 i].toArray w fun v w' => v = .tuple [.pointer none, .int .i64 4].toArray ∧ Out Nil w w' := by
  refine Ret.of_body (N := 15) Tryz.func32 rfl rfl (by simp) ?_
  have H := St.begin hX
  refine WE.seq_reg ?_
  refine WL.as rfl rfl ?_
  refine WL.as rfl rfl ?_
  refine WL.nil ?_
  refine WE.seq ?_
  refine WE.seq_reg ?_
  refine WL.mv rfl rfl ?_
  refine WL.pv (PV.lss rfl rfl rfl) rfl ?_
  refine WL.mv rfl rfl ?_
  refine WL.split (t := 6) rfl (fun hg6 => ?_) (fun hg6 => ?_)
  · skip
    refine WL.known (t := 5) (c := true) rfl hg6 ?_
    try simp only [decide_eq_true_eq, decide_eq_false_iff_not, ne_eq, Decidable.not_not, Bool.not_eq_true', Bool.not_eq_false', Bool.and_eq_true, Bool.or_eq_true, Bool.not_not, Bool.and_eq_false_iff, Bool.or_eq_false_iff, Int.not_lt, Int.not_le] at hg6
    refine WL.off rfl ?_
    refine WL.off rfl ?_
    refine WL.pv (PV.pick_t rfl rfl rfl) rfl ?_
    refine WL.nil ?_
    refine WE.cond_t rfl ?_
    refine WE.seq_reg ?_
    refine WL.as rfl rfl ?_
    refine WL.as rfl rfl ?_
    refine WL.nil ?_
    refine WE.ret ?_
    refine ⟨[_, _], _, .nil _, ⟨rfl, rfl, trivial⟩, ?_⟩
    exact ⟨rfl, H.toOut0⟩
  · skip
    refine WL.known (t := 5) (c := false) rfl hg6 ?_
    try simp only [decide_eq_true_eq, decide_eq_false_iff_not, ne_eq, Decidable.not_not, Bool.not_eq_true', Bool.not_eq_false', Bool.and_eq_true, Bool.or_eq_true, Bool.not_not, Bool.and_eq_false_iff, Bool.or_eq_false_iff, Int.not_lt, Int.not_le] at hg6
    refine WL.mv rfl rfl ?_
    refine WL.pv (PV.gtr rfl rfl rfl) rfl ?_
    refine WL.pv (PV.pick_f rfl rfl rfl) rfl ?_
    refine WL.nil ?_
    refine WE.cond_t' rfl (by simp; omega) ?_
    refine WE.seq_reg ?_
    refine WL.as rfl rfl ?_
    refine WL.as rfl rfl ?_
    refine WL.nil ?_
    refine WE.ret ?_
    refine ⟨[_, _], _, .nil _, ⟨rfl, rfl, trivial⟩, ?_⟩
    exact ⟨rfl, H.toOut0⟩

theorem HSum_c {X : Nat → Prop} {w : World} {bh bc : Nat} {bits n : Int} {a : Value} {la : List UInt8} (hX : ∀ b, X b → b < w.heap.size) (ho0 : Blk w bc 108 ([.int .i64 n])) (hf0 : Rob (fun c_ => X c_ ∨ c_ = bc) (HAt bh bc bits) w) (hf1 : Rob (fun c_ => X c_ ∨ c_ = bc) (SlB a la) w) (hf2 : Rob (fun c_ => X c_ ∨ c_ = bc) (Rounds) w) (hbits : 0 ≤ bits ∧ bits ≤ 256) (hla : la.length ≤ 1000000000) :
    Ret Tryz.prog 37 [.pointer (some ⟨bh, 0, none⟩), a].toArray w fun v w' => v = .agg (kc (cutI (shaOf la) bits)).toArray ∧ Out (· = bc) w w' ∧ Blk w' bc 108 [.int .i64 (IntKind.i64.wrap (n + 1))] := by
  refine Ret.of_body (N := 25) Tryz.func37 rfl rfl (by simp) ?_
  have H := St.begin1 (b := bc) (t := 108) (l := [.int .i64 n]) hX ho0
  replace H := H.add (rob1 hf2)
  replace H := H.add (rob1 hf1)
  replace H := H.add (rob1 hf0)
  refine WE.seq_reg ?_
  refine WL.alloc H rfl TryzT.ze42 rfl ?_
  intro b4 w1 H
  refine WL.nil ?_
  refine WE.seq ?_
  refine WE.seq_reg ?_
  refine WL.mv rfl rfl ?_
  refine WL.pv (PV.eqlPn rfl TryzT.pt26 rfl rfl) rfl ?_
  refine WL.nil ?_
  refine WE.cond_f' rfl rfl ?_
  refine WE.skip ?_
  refine WE.seq_reg ?_
  refine WL.mv rfl rfl ?_
  refine WL.pv (PV.nilCheck rfl rfl) rfl ?_
  refine WL.pv (PV.fieldAddr rfl TryzT.fd110_0 rfl) rfl ?_
  refine WL.load1 rfl TryzT.ag106 rfl rfl (by exact RdA.at_ (o := 0) (H.p 0 rfl) rfl rfl) ?_
  refine WL.pv (PV.nilCheck rfl rfl) rfl ?_
  refine WL.pv (PV.fieldAddr rfl TryzT.fd108_0 rfl) rfl ?_
  refine WL.load1 rfl TryzT.ag3 rfl rfl (by exact Blk.segAt (H.o 0 rfl) Seg.hd (by rfl)) ?_
  refine WL.pv (PV.addw rfl rfl rfl) rfl ?_
  refine WL.pv (PV.nilCheck rfl rfl) rfl ?_
  refine WL.pv (PV.fieldAddr rfl TryzT.fd108_0 rfl) rfl ?_
  refine WL.storeO H 0 rfl rfl rfl (new := _) rfl (by exact TryzT.sz3) (by exact one_lit _ rfl) (Laid.at Laid.head (by rfl)) rfl ?_
  intro w2 H
  refine WL.nil ?_
  refine WE.seq_draw (.take 0 (.take 2 (.take 3 (.take 4 (.take 5 (.pick1 1 (.pick1 6 (.pick1 7 .done)))))))) TryzT.mixed (by kernel_rfl) ?_
  replace H := H.out (Out.drew _)
  refine WP.mv rfl rfl rfl ?_
  refine WP.mv rfl rfl rfl ?_
  refine WP.take_pure rfl rfl (PV.nilCheck rfl rfl) ?_
  refine WP.take_pure rfl rfl (PV.fieldAddr rfl TryzT.fd110_1 rfl) ?_
  refine WP.take_read rfl rfl (RV.loadOne rfl TryzT.ag3 rfl) (by exact RdA.at_ (o := 1) (H.p 0 rfl) rfl rfl) ?_
  refine WP.pick1 rfl ?_
  refine WL.call TryzT.fb65 rfl (Sum_c (la := la) H.yylt (H.rob 1 rfl) (H.rob 2 rfl) hla) ?_
  rintro _ w3 ⟨rfl, hO⟩
  replace H := H.out hO
  refine WL.nil ⟨(List.forall_mem_cons.2 ⟨(fun _ _ => (by exact RdA.at_ (o := 1) (H.p 0 rfl) rfl rfl)), (fun _ h => by cases h)⟩), ?_⟩
  refine WP.pick1 rfl ?_
  refine WL.call TryzT.fb64 rfl (Cut_c (l := shaOf la) (i := bits) H.yylt (shaOf_length _) (by omega)) ?_
  rintro _ w4 ⟨rfl, hO⟩
  replace H := H.out hO
  refine WL.nil ⟨(List.forall_mem_cons.2 ⟨(by exact (fun h => absurd (show waits _ 6 5 = false from h) (by decide +kernel))), (fun _ h => by cases h)⟩), ?_⟩
  refine WP.pick1 rfl ?_
  refine WL.storeL H 0 rfl rfl rfl (new := _) rfl (by exact TryzT.sz42) (by exact kc_one _) (Laid.at (Laid.all (by (simp only [kc_length, kw_length, List.length_replicate, List.length_append, List.length_cons, List.length_nil, cutI_length, cutN_length, cutPart_length, shaOf_length]; done))) (by rfl)) rfl ?_
  intro w5 H
  refine WL.nil ⟨(List.forall_mem_cons.2 ⟨(by exact (fun h => absurd (show waits _ 7 5 = false from h) (by decide +kernel))), (fun _ h => by cases h)⟩), ?_⟩
  refine WP.done ?_
  refine WE.ret ?_
  refine ⟨[_], _, .nil _, ⟨⟨_, rfl, run_loadVar_aggR TryzT.ag42 (by exact Blk.segAt (H.l 0 rfl) (Seg.all _) rfl) (by exact TryzT.sz42)⟩, trivial⟩, ?_⟩
  exact ⟨rfl, H.toOut1, H.o 0 rfl⟩

end Go.Sp.Tryz

