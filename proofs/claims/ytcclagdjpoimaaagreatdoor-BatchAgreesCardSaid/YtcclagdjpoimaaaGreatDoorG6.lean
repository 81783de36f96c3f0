/- Walks of functions, printed by a program of this session (gen.py) from notes on each function. -/
import Derived.Test.YtcclagdjpoimaaaGreatDoorG4
import Derived.Test.YtcclagdjpoimaaaGreatDoorG5
set_option maxRecDepth 100000
set_option maxHeartbeats 1000000
set_option linter.unusedVariables false
set_option linter.unusedSimpArgs false
namespace Go.Sp.Tryz
open Go.Proofs Go.RowKit Go.Sp

def Sh.fit : Nat → Sh → Prop
  | d, .inner l r => d < 256 ∧ l.fit (d + 1) ∧ r.fit (d + 1)
  | _, _ => True
theorem grow_fit {d : Nat} {m : List En} (h : Pm d m) : (grow d m).fit d :=
  grow_ind (P := fun d _ s => s.fit d) (fun _ => trivial) (fun _ _ => trivial) (fun _ _ _ hd _ h0 h1 => ⟨hd, h0, h1⟩) _ d m rfl h
theorem grow_kind {d : Nat} {m : List En} (h : Pm d m) : (grow d m).kind = 2 ↔ 2 ≤ m.length := by
  match m, h with
  | [], _ => rw [grow_nil]; simp [Sh.kind]
  | [e], _ => rw [grow_one]; simp [Sh.kind]
  | a :: b :: m, h =>
    rw [grow_many d _ (h.lt (by simp)) (by simp)]
    simp [Sh.kind]
def Tr.child (T : Tr) (b : Nat) : Tr := if b = 0 then T.left else T.right
def Tr.step (k : List UInt8) (d : Nat) (T : Tr) : Tr := T.child (bitN k d)
def Tr.beside (k : List UInt8) (d : Nat) (T : Tr) : Tr := T.child (1 - bitN k d)
def Tr.atN (k : List UInt8) (d : Nat) (T : Tr) : Nat → Tr
  | 0 => T
  | i + 1 => (Tr.atN k d T i).step k (i + d)
def Tr.dp (k : List UInt8) : Nat → Tr → Nat
  | d, .inner _ l r => if bitN k d = 0 then Tr.dp k (d + 1) l + 1 else Tr.dp k (d + 1) r + 1
  | _, _ => 0
theorem Tr.atN_shift (k : List UInt8) (T : Tr) : ∀ (i d : Nat), Tr.atN k d T (i + 1) = Tr.atN k (d + 1) (T.step k d) i := by
  intro i
  induction i with
  | zero => intro d; show T.step k (0 + d) = _; rw [Nat.zero_add]; rfl
  | succ i ih =>
    intro d
    show (Tr.atN k d T (i + 1)).step k (i + 1 + d) = (Tr.atN k (d + 1) (T.step k d) i).step k (i + (d + 1))
    rw [ih, show i + 1 + d = i + (d + 1) by omega]
theorem Tr.dp_step {k : List UInt8} {d : Nat} {T : Tr} (h : T.er.kind = 2) : T.dp k d = (T.step k d).dp k (d + 1) + 1 := by
  obtain ⟨a, l, r, rfl⟩ := Tr.kind2 h
  unfold Tr.step Tr.child
  show (if bitN k d = 0 then _ else _) = _
  split <;> rfl
theorem TrA.step {bits : Int} {T : Tr} {w : World} {k : List UInt8} {d : Nat} (h : TrA bits T w) : TrA bits (T.step k d) w := by
  unfold Tr.step Tr.child; split
  · exact h.left
  · exact h.right
theorem TrA.beside {bits : Int} {T : Tr} {w : World} {k : List UInt8} {d : Nat} (h : TrA bits T w) : TrA bits (T.beside k d) w := by
  unfold Tr.beside Tr.child; split
  · exact h.left
  · exact h.right
theorem TrA.atN {bits : Int} {T : Tr} {w : World} {k : List UInt8} {d : Nat} (h : TrA bits T w) : ∀ i, TrA bits (T.atN k d i) w
  | 0 => h
  | i + 1 => (TrA.atN h i).step
theorem Tr.atN_in {k : List UInt8} : ∀ (i d : Nat) (T : Tr), i < T.dp k d → (T.atN k d i).er.kind = 2 := by
  intro i
  induction i with
  | zero =>
    intro d T h
    show T.er.kind = 2
    cases T <;> first | rfl | (simp [Tr.dp] at h)
  | succ i ih =>
    intro d T h
    have h2 : T.er.kind = 2 := by
      cases T <;> first | rfl | (simp [Tr.dp] at h)
    rw [Tr.atN_shift]
    rw [Tr.dp_step h2] at h
    exact ih _ _ (by omega)
theorem Tr.atN_out {k : List UInt8} : ∀ (n d : Nat) (T : Tr), T.dp k d = n → (T.atN k d n).er.kind ≠ 2 := by
  intro n
  induction n with
  | zero =>
    intro d T h h2
    have h2' : T.er.kind = 2 := h2
    rw [Tr.dp_step h2'] at h
    omega
  | succ n ih =>
    intro d T h
    have h2 : T.er.kind = 2 := by
      cases T <;> first | rfl | (simp [Tr.dp] at h)
    rw [Tr.atN_shift]
    rw [Tr.dp_step h2] at h
    exact ih _ _ (by omega)
theorem Tr.dp_fit {k : List UInt8} : ∀ (n d : Nat) (T : Tr), T.dp k d = n → T.er.fit d → d ≤ 256 → d + T.dp k d ≤ 256 := by
  intro n
  induction n with
  | zero => intro d T h _ _; omega
  | succ n ih =>
    intro d T h hf hd
    have h2 : T.er.kind = 2 := by
      cases T <;> first | rfl | (simp [Tr.dp] at h)
    have h' := h
    rw [Tr.dp_step h2] at h
    obtain ⟨a, l, r, rfl⟩ := Tr.kind2 h2
    have hs : ((Tr.inner a l r).step k d).er.fit (d + 1) := by unfold Tr.step Tr.child; split; exact hf.2.1; exact hf.2.2
    have := ih (d + 1) _ (by omega) hs hf.1
    omega
def atM (k : List UInt8) (d : Nat) (m : List En) : Nat → List En
  | 0 => m
  | i + 1 => partM (atM k d m i) (i + d) (bitN k (i + d))
theorem grow_step {T : Tr} {d : Nat} {m : List En} (k : List UInt8) (hT : T.er = grow d m) (hp : Pm d m) (h2 : T.er.kind = 2) :
    d < 256 ∧ 2 ≤ m.length ∧ (T.step k d).er = grow (d + 1) (partM m d (bitN k d)) ∧ (T.beside k d).er = grow (d + 1) (partM m d (1 - bitN k d)) := by
  rw [hT] at h2
  have hm := (grow_kind hp).1 h2
  have hd := hp.lt hm
  rw [grow_many d m hd hm] at hT
  have hb := bitN_lt k d
  cases T with
  | nil => cases hT
  | leaf => cases hT
  | inner a l r =>
    injection hT with h1 h3
    refine ⟨hd, hm, ?_, ?_⟩
    · unfold Tr.step Tr.child
      by_cases h : bitN k d = 0
      · rw [if_pos h, h]; exact h1
      · rw [if_neg h, show bitN k d = 1 by omega]; exact h3
    · unfold Tr.beside Tr.child
      by_cases h : bitN k d = 0
      · rw [h]; exact h3
      · rw [show bitN k d = 1 by omega]; exact h1
theorem at_er {T : Tr} {d : Nat} {m : List En} {k : List UInt8} (hT : T.er = grow d m) (hp : Pm d m) : ∀ i, i ≤ T.dp k d → (T.atN k d i).er = grow (i + d) (atM k d m i) ∧ Pm (i + d) (atM k d m i) := by
  intro i
  induction i with
  | zero => intro _; rw [Nat.zero_add]; exact ⟨hT, hp⟩
  | succ i ih =>
    intro hi
    have h := ih (by omega)
    have hs := grow_step k h.1 h.2 (Tr.atN_in i d T (by omega))
    rw [show i + 1 + d = i + d + 1 by omega]
    exact ⟨hs.2.2.1, h.2.part hs.1 _⟩
theorem at_len {T : Tr} {d : Nat} {m : List En} {k : List UInt8} (hT : T.er = grow d m) (hp : Pm d m) {i : Nat} (hi : i < T.dp k d) : 2 ≤ (atM k d m i).length ∧ i + d < 256 := by
  have h := at_er (k := k) hT hp i (by omega)
  have hs := grow_step k h.1 h.2 (Tr.atN_in i d T hi)
  exact ⟨hs.2.1, hs.1⟩
theorem at_end {T : Tr} {d : Nat} {m : List En} {k : List UInt8} (hT : T.er = grow d m) (hp : Pm d m) : (atM k d m (T.dp k d)).length ≤ 1 := by
  have h := at_er (k := k) hT hp _ (Nat.le_refl _)
  have h2 := Tr.atN_out _ d T (rfl : T.dp k d = _)
  rw [h.1] at h2
  have := mt (grow_kind h.2).2 h2
  omega
theorem partM_mem {m : List En} {d b : Nat} {e : En} : e ∈ partM m d b ↔ e ∈ m ∧ bitN e.k d = b := by simp [partM]
theorem atM_mem {k : List UInt8} {d : Nat} {m : List En} : ∀ {i : Nat} {e : En}, e ∈ atM k d m i → e ∈ m
  | 0, _, h => h
  | _ + 1, _, h => atM_mem (partM_mem.1 h).1
def getM (m : List En) (k : List UInt8) : Option En := m.find? fun e => e.k == k
theorem getM_part {m : List En} {k : List UInt8} {d : Nat} : getM (partM m d (bitN k d)) k = getM m k := by
  induction m with
  | nil => rfl
  | cons e m ih =>
    have e1 : partM (e :: m) d (bitN k d) = if (bitN e.k d == bitN k d) = true then e :: partM m d (bitN k d) else partM m d (bitN k d) := List.filter_cons
    rw [e1]
    by_cases h : e.k = k
    · subst h
      simp [getM]
    · have h' : (e.k == k) = false := by simpa using h
      by_cases hb : (bitN e.k d == bitN k d) = true
      · rw [if_pos hb]
        show List.find? _ (e :: _) = List.find? _ (e :: _)
        rw [List.find?_cons, List.find?_cons, h']
        exact ih
      · rw [if_neg hb]
        show _ = List.find? _ (e :: _)
        rw [List.find?_cons, h']
        exact ih
theorem vals_part {m : List En} {w : World} {d b : Nat} (h : Vals m w) : Vals (partM m d b) w := fun e he => h e (partM_mem.1 he).1

end Go.Sp.Tryz

set_option maxRecDepth 100000
set_option maxHeartbeats 1000000
set_option linter.unusedVariables false
set_option linter.unusedSimpArgs false
namespace Go.Sp.Tryz
open Go.Proofs Go.RowKit Go.Sp

theorem rootM_length (bits : Int) (d : Nat) (m : List En) : (rootM bits d m).length = 32 := dig_length _ _
def ShortV (m : List En) : Prop := ∀ e ∈ m, e.v.length ≤ 1000000
theorem ShortV.part {m : List En} {d b : Nat} (h : ShortV m) : ShortV (partM m d b) := fun e he => h e (partM_mem.1 he).1
theorem partM_le (m : List En) (d b : Nat) : (partM m d b).length ≤ m.length := List.length_filter_le _ _
theorem OneS.part {m : List En} {d b : Nat} (h : OneS m) : OneS (partM m d b) := fun e he => h e (partM_mem.1 he).1
def RootOK (bits : Int) (d : Nat) : Prop := ∀ {X : Nat → Prop} {w : World} {s : Value} {m : List En}, (∀ b, X b → b < w.heap.size) → Rob X (SlE s m) w → Rob X (Vals m) w → Rob X Rounds w → Pm d m → m.length ≤ 1000000 → ShortV m → 0 ≤ bits ∧ bits ≤ 256 →
  Ret Tryz.prog 24 [.int .i64 bits, s, .int .i64 (d : Int)].toArray w fun v w' => v = .agg (kc (rootM bits d m)).toArray ∧ Out Nil w w'

end Go.Sp.Tryz

set_option maxRecDepth 100000
set_option maxHeartbeats 1000000
set_option linter.unusedVariables false
set_option linter.unusedSimpArgs false
namespace Go.Sp.Tryz
open Go.Proofs Go.RowKit Go.Sp

def GrowOK (d : Nat) : Prop := ∀ {X : Nat → Prop} {w : World} {bh bc : Nat} {bits n : Int} {s : Value} {m : List En}, (∀ b, X b → b < w.heap.size) → Blk w bc 108 [.int .i64 n] → Rob (fun c => X c ∨ c = bc) (HAt bh bc bits) w →
  Rob (fun c => X c ∨ c = bc) (SlE s m) w → Rob (fun c => X c ∨ c = bc) (Vals m) w → Rob (fun c => X c ∨ c = bc) Rounds w → Pm d m → m.length ≤ 1000000 → ShortV m → 0 ≤ bits ∧ bits ≤ 256 →
  Ret Tryz.prog 31 [.pointer (some ⟨bh, 0, none⟩), s, .int .i64 (d : Int)].toArray w fun v w' => ∃ (T : Tr) (k : Int), v = T.ptr ∧ T.er = grow d m ∧ Out (· = bc) w w' ∧ Blk w' bc 108 [.int .i64 k] ∧ Rob (fun c => X c ∨ c = bc) (TrA bits T) w'
theorem Pm.cnt {d : Nat} {m : List En} (h : Pm d m) : (grow d m).cnt = m.length := grow_cnt h

theorem GrowT_s {X : Nat → Prop} {w : World} {bh bc : Nat} {bits n : Int} {s : Value} {m : List En} {d : Nat} (hX : ∀ b, X b → b < w.heap.size) (ho0 : Blk w bc 108 ([.int .i64 n])) (hf0 : Rob (fun c_ => X c_ ∨ c_ = bc) (HAt bh bc bits) w) (hf1 : Rob (fun c_ => X c_ ∨ c_ = bc) (SlE s m) w) (hf2 : Rob (fun c_ => X c_ ∨ c_ = bc) (Vals m) w) (hf3 : Rob (fun c_ => X c_ ∨ c_ = bc) (Rounds) w) (hpm : Pm d m) (hlen : m.length ≤ 1000000) (hsv : ShortV m) (hbits : 0 ≤ bits ∧ bits ≤ 256) (ih : GrowOK (d + 1)) :
    Ret Tryz.prog 31 [.pointer (some ⟨bh, 0, none⟩), s, .int .i64 (d : Int)].toArray w fun v w' => ∃ (T : Tr) (k : Int), v = T.ptr ∧ T.er = grow d m ∧ Out (· = bc) w w' ∧ Blk w' bc 108 [.int .i64 k] ∧ Rob (fun c => X c ∨ c = bc) (TrA bits T) w' := by
  refine Ret.of_body (N := 34) Tryz.func31 rfl rfl (by simp) ?_
  have H := St.begin1 (b := bc) (t := 108) (l := [.int .i64 n]) hX ho0
  replace H := H.add (rob1 hf3)
  replace H := H.add (rob1 hf2)
  replace H := H.add (rob1 hf1)
  replace H := H.add (rob1 hf0)
  have hkl := hpm.kl
  have hone := OneS.of (hf2.here)
  refine WE.seq_reg ?_
  refine WL.as rfl rfl ?_
  refine WL.nil ?_
  refine WE.seq ?_
  refine WE.seq_reg ?_
  refine WL.mv rfl rfl ?_
  refine WL.pv (PV.lenS (by exact H.p 1 rfl : SlE s m _) TryzT.sl22 rfl) rfl ?_
  refine WL.nil ?_
  refine WE.block ?_
  refine WE.seq_reg ?_
  refine WL.pv (PV.eql rfl rfl rfl) rfl ?_
  refine WL.as rfl rfl ?_
  refine WL.nil ?_
  refine WE.cond rfl (fun hc9 => ?_) (fun hc9 => ?_)
  · skip
    try simp only [decide_eq_true_eq, decide_eq_false_iff_not, ne_eq, Decidable.not_not, Bool.not_eq_true', Bool.not_eq_false', Bool.and_eq_true, Bool.or_eq_true, Bool.not_not, Bool.and_eq_false_iff, Bool.or_eq_false_iff, Int.not_lt, Int.not_le] at hc9
    obtain rfl : m = [] := List.eq_nil_of_length_eq_zero (by omega)
    refine WE.seq_reg ?_
    refine WL.as rfl rfl ?_
    refine WL.nil ?_
    refine WE.ret ?_
    refine ⟨[_], _, .nil _, ⟨rfl, trivial⟩, ?_⟩
    exact ⟨.nil, n, rfl, (grow_nil d).symm, H.toOut1, H.o 0 rfl, Rob.pure trivial⟩
  · skip
    try simp only [decide_eq_true_eq, decide_eq_false_iff_not, ne_eq, Decidable.not_not, Bool.not_eq_true', Bool.not_eq_false', Bool.and_eq_true, Bool.or_eq_true, Bool.not_not, Bool.and_eq_false_iff, Bool.or_eq_false_iff, Int.not_lt, Int.not_le] at hc9
    refine WE.seq_reg ?_
    refine WL.pv (PV.eql rfl rfl rfl) rfl ?_
    refine WL.as rfl rfl ?_
    refine WL.nil ?_
    refine WE.cond rfl (fun hc11 => ?_) (fun hc11 => ?_)
    · skip
      try simp only [decide_eq_true_eq, decide_eq_false_iff_not, ne_eq, Decidable.not_not, Bool.not_eq_true', Bool.not_eq_false', Bool.and_eq_true, Bool.or_eq_true, Bool.not_not, Bool.and_eq_false_iff, Bool.or_eq_false_iff, Int.not_lt, Int.not_le] at hc11
      obtain ⟨e, rfl⟩ : ∃ e, m = [e] := List.length_eq_one_iff.1 (by omega)
      have hk := hkl e (by simp)
      have hv := hsv e (by simp)
      have henc : (enC e).length = 33 := enC_length hk
      refine WE.seq_reg ?_
      refine WL.mv rfl rfl ?_
      refine WL.mv rfl rfl ?_
      refine WL.pv (PV.idxS rfl (by exact H.p 1 rfl : SlE s _ _) TryzT.sl22 TryzT.sz34 rfl rfl (by omega) (by simp)) rfl ?_
      refine WL.loadR rfl TryzT.ag34 rfl rfl ((show SlE s [e] _ from H.p 1 rfl).rd hkl 0 (by simp)) (by (rw [TryzT.sz34]; refine congrArg some ?_; (simp [kc_length, kw_length, *]; done))) ?_
      refine WL.call TryzT.fb58 rfl (NewLeaf_c (k := e.k) (lv := e.v) (s := e.s) H.yylt (H.o 0 rfl) (by exact H.robOld 0 rfl 0 rfl) ((H.robOld 0 rfl 2 rfl).imp fun _ h => h e (by simp)) (by exact H.robOld 0 rfl 3 rfl) hbits hv hk) ?_
      rintro _ w1 ⟨Tv17, mv17, rfl, hTv17, hO, hB, hR⟩
      replace H := H.calledOR 0 rfl hO hB hR
      refine WL.as rfl rfl ?_
      refine WL.nil ?_
      refine WE.ret ?_
      refine ⟨[_], _, .nil _, ⟨rfl, trivial⟩, ?_⟩
      exact ⟨Tv17, _, rfl, hTv17.trans (grow_one d e).symm, H.toOut1, H.o 0 rfl, H.giveO (H.rob 0 rfl)⟩
    · skip
      try simp only [decide_eq_true_eq, decide_eq_false_iff_not, ne_eq, Decidable.not_not, Bool.not_eq_true', Bool.not_eq_false', Bool.and_eq_true, Bool.or_eq_true, Bool.not_not, Bool.and_eq_false_iff, Bool.or_eq_false_iff, Int.not_lt, Int.not_le] at hc11
      have h2 : 2 ≤ m.length := by omega
      have hd := hpm.lt h2
      refine WE.skip ?_
      refine WE.seq_reg ?_
      refine WL.mv rfl rfl ?_
      refine WL.mv rfl rfl ?_
      refine WL.mv rfl rfl ?_
      refine WL.mv rfl rfl ?_
      refine WL.call TryzT.fb52 rfl (Part_c (m := m) (d := d) (b := 0) H.yylt (by exact H.rob 1 rfl) (by assumption) (by assumption) (by assumption) (by assumption)) ?_
      rintro v22 w2 ⟨hO, hR⟩
      replace H := (H.out hO).add hR
      refine WL.mv rfl rfl ?_
      refine WL.pv (PV.eq (v' := .int .i64 ((d + 1 : Nat) : Int)) (PV.add64 rfl rfl rfl (by omega) (by omega)) rfl) rfl ?_
      refine WL.call TryzT.fb31 rfl (ih (m := partM m d 0) H.yylt (H.o 0 rfl) (by exact H.robOld 0 rfl 1 rfl) (by exact H.robOld 0 rfl 0 rfl) (by exact (H.robOld 0 rfl 3 rfl).imp fun _ h => vals_part h) (by exact H.robOld 0 rfl 4 rfl) (by exact hpm.part hd _) (by exact Nat.le_trans (partM_le _ _ _) hlen) (by exact ShortV.part hsv) hbits) ?_
      rintro _ w3 ⟨Tv25, mv25, rfl, hTv25, hO, hB, hR⟩
      replace H := H.calledOR 0 rfl hO hB hR
      refine WL.mv rfl rfl ?_
      refine WL.mv rfl rfl ?_
      refine WL.mv rfl rfl ?_
      refine WL.call TryzT.fb52 rfl (Part_c (m := m) (d := d) (b := 1) H.yylt (by exact H.rob 3 rfl) (by assumption) (by assumption) (by assumption) (by assumption)) ?_
      rintro v29 w4 ⟨hO, hR⟩
      replace H := (H.out hO).add hR
      refine WL.mv rfl rfl ?_
      refine WL.pv (PV.eq (v' := .int .i64 ((d + 1 : Nat) : Int)) (PV.add64 rfl rfl rfl (by omega) (by omega)) rfl) rfl ?_
      refine WL.call TryzT.fb31 rfl (ih (m := partM m d 1) H.yylt (H.o 0 rfl) (by exact H.robOld 0 rfl 3 rfl) (by exact H.robOld 0 rfl 0 rfl) (by exact (H.robOld 0 rfl 5 rfl).imp fun _ h => vals_part h) (by exact H.robOld 0 rfl 6 rfl) (by exact hpm.part hd _) (by exact Nat.le_trans (partM_le _ _ _) hlen) (by exact ShortV.part hsv) hbits) ?_
      rintro _ w5 ⟨Tv32, mv32, rfl, hTv32, hO, hB, hR⟩
      replace H := H.calledOR 0 rfl hO hB hR
      refine WL.call TryzT.fb59 rfl (Join_c (bits := bits) H.yylt (H.o 0 rfl) (by exact H.robOld 0 rfl 4 rfl) (by exact H.robOld 0 rfl 2 rfl) (by exact H.robOld 0 rfl 0 rfl) (by exact H.robOld 0 rfl 7 rfl) hbits (by rw [hTv25, hTv32, (hpm.part hd 0).cnt, (hpm.part hd 1).cnt]; have := part_len m d; omega)) ?_
      rintro _ w6 ⟨Tv33, mv33, rfl, hTv33, hO, hB, hR⟩
      replace H := H.calledOR 0 rfl hO hB hR
      refine WL.as rfl rfl ?_
      refine WL.nil ?_
      refine WE.ret ?_
      refine ⟨[_], _, .nil _, ⟨rfl, trivial⟩, ?_⟩
      refine ⟨Tv33, _, rfl, ?_, H.toOut1, H.o 0 rfl, H.giveO (H.rob 0 rfl)⟩
      rw [hTv33, hTv25, hTv32, joinS_inner (by rw [(hpm.part hd 0).cnt, (hpm.part hd 1).cnt]; have := part_len m d; omega), grow_many d m hd h2]

theorem GrowT_ok : ∀ (q d : Nat), 256 - d = q → GrowOK d := by
  intro q
  induction q with
  | zero =>
    intro d hn X w bh bc bits n s m hX hb0 h0 h1 h2 h3 hp hl hs hb
    exact GrowT_s hX hb0 h0 h1 h2 h3 hp hl hs hb (fun _ _ _ _ _ _ hp' => absurd hp'.le (by omega))
  | succ q ih =>
    intro d hn X w bh bc bits n s m hX hb0 h0 h1 h2 h3 hp hl hs hb
    exact GrowT_s hX hb0 h0 h1 h2 h3 hp hl hs hb (ih (d + 1) (by omega))
theorem GrowT_c {X : Nat → Prop} {w : World} {bh bc : Nat} {bits n : Int} {s : Value} {m : List En} {d : Nat} (hX : ∀ b, X b → b < w.heap.size) (ho0 : Blk w bc 108 [.int .i64 n]) (hf0 : Rob (fun c => X c ∨ c = bc) (HAt bh bc bits) w)
    (hf1 : Rob (fun c => X c ∨ c = bc) (SlE s m) w) (hf2 : Rob (fun c => X c ∨ c = bc) (Vals m) w) (hf3 : Rob (fun c => X c ∨ c = bc) Rounds w) (hp : Pm d m) (hl : m.length ≤ 1000000) (hs : ShortV m) (hb : 0 ≤ bits ∧ bits ≤ 256) :
    Ret Tryz.prog 31 [.pointer (some ⟨bh, 0, none⟩), s, .int .i64 (d : Int)].toArray w fun v w' => ∃ (T : Tr) (k : Int), v = T.ptr ∧ T.er = grow d m ∧ Out (· = bc) w w' ∧ Blk w' bc 108 [.int .i64 k] ∧ Rob (fun c => X c ∨ c = bc) (TrA bits T) w' :=
  GrowT_ok _ d rfl hX ho0 hf0 hf1 hf2 hf3 hp hl hs hb

end Go.Sp.Tryz

set_option maxRecDepth 100000
set_option maxHeartbeats 1000000
set_option linter.unusedVariables false
set_option linter.unusedSimpArgs false
namespace Go.Sp.Tryz
open Go.Proofs Go.RowKit Go.Sp

theorem Tr.leaf_of {T : Tr} {k v : List UInt8} (h : T.er = .leaf k v) : ∃ a s, T = .leaf a k v s := by
  cases T with
  | nil => cases h
  | inner => cases h
  | leaf a k' v' s => injection h with h1 h2; subst h1; subst h2; exact ⟨a, s, rfl⟩
theorem Tr.inner_of {T : Tr} {x y : Sh} (h : T.er = .inner x y) : ∃ a l r, T = .inner a l r ∧ l.er = x ∧ r.er = y := by
  cases T with
  | nil => cases h
  | leaf => cases h
  | inner a l r => injection h with h1 h2; exact ⟨a, l, r, rfl, h1, h2⟩
theorem Tr.nil_er {T : Tr} (h : T.er = .nil) : T = .nil := by cases T <;> first | rfl | cases h
theorem FewB_c {X : Nat → Prop} {w : World} {s : Value} {m : List En} (hX : ∀ b, X b → b < w.heap.size) (h0 : Rob X (SlE s m) w) (h1 : Rob X (Vals m) w) (hkl : KL m) (hlen : m.length ≤ 9223372036854775807) (hvl : ∀ e ∈ m, e.v.length ≤ 9223372036854775807) :
    Ret Tryz.prog 29 [s].toArray w fun v w' => ∃ b, v = .bool b ∧ (b = true → m.length ≤ 12 ∧ ∀ e ∈ m, e.v.length ≤ 200) ∧ Out Nil w w' :=
  (Few_c hX h0 h1 hkl hlen hvl).mono fun v w' ⟨h, h2, hO⟩ => by
    rcases h with rfl | rfl
    · exact ⟨true, rfl, fun _ => h2 rfl, hO⟩
    · exact ⟨false, rfl, fun h => (by cases h), hO⟩

theorem Entry_c {X : Nat → Prop} {w : World} {bits : Int} {T : Tr} (hX : ∀ b, X b → b < w.heap.size) (hf0 : Rob X (TrA bits T) w) :
    Ret Tryz.prog 63 [T.ptr].toArray w fun v w' => ∃ s2, v = .agg (kc T.key ++ [s2]).toArray ∧ Out Nil w w' ∧ w'.ownsRow w.heap.size 5 1 s2 T.val.length (kc T.val) := by
  refine Ret.of_body (N := 13) Tryz.func63 rfl rfl (by simp) ?_
  have H := St.begin hX
  replace H := H.add (rob0 hf0)
  have hk := TrA.key_length (hf0.here)
  have hd := Tr.vd_length bits T
  have hvl := TrA.vlen (hf0.here)
  have hvs := SlC.one1 (TrA.vsl (hf0.here))
  refine WE.seq_reg ?_
  refine WL.alloc H rfl TryzT.ze34 rfl ?_
  intro b2 w1 H
  refine WL.nil ?_
  refine WE.seq_reg ?_
  refine WL.mv rfl rfl ?_
  refine WL.call TryzT.fb96 rfl (leafM_c (T := T) H.yylt (H.rob 0 rfl)) ?_
  rintro _ w2 ⟨rfl, hO⟩
  replace H := H.out hO
  rw [Tr.lfC_eq]
  refine WL.alloc H rfl TryzT.ze142 rfl ?_
  intro b3 w3 H
  refine WL.storeL H 0 rfl rfl rfl (new := _) rfl (by (rw [TryzT.sz142]; refine congrArg some ?_; (simp only [kc_length, kw_length, List.length_replicate, List.length_append, List.length_cons, List.length_nil, cutI_length, shaOf_length, dig_length, valD_length, rootM_length]; omega))) (one_append (one_append (kc_one _) (kc_one _)) (one_lit _ (by simp [hvs]))) (Laid.at (Laid.all (by (simp only [kc_length, kw_length, List.length_replicate, List.length_append, List.length_cons, List.length_nil, cutI_length, shaOf_length, dig_length, valD_length, rootM_length]; omega))) (by rfl)) rfl ?_
  intro w4 H
  refine WL.nil ?_
  refine WE.seq_draw (.take 0 (.take 1 (.take 2 (.take 3 (.take 4 (.pick1 5 (.take 6 (.pick1 7 .done)))))))) TryzT.mixed (by kernel_rfl) ?_
  replace H := H.out (Out.drew _)
  refine WP.take_pure rfl rfl (PV.fieldAddr rfl TryzT.fd142_0 rfl) ?_
  refine WP.take_pure rfl rfl (PV.fieldAddr rfl TryzT.fd93_0 rfl) ?_
  refine WP.readA rfl rfl rfl TryzT.ag31 rfl (by exact Blk.segAt (H.l 0 rfl) (Seg.l (Seg.l (Seg.all _))) (by rfl)) (by (rw [TryzT.sz31]; refine congrArg some ?_; (simp only [kc_length, kw_length, List.length_replicate, List.length_append, List.length_cons, List.length_nil, cutI_length, shaOf_length, dig_length, valD_length, rootM_length]; omega))) ?_
  refine WP.take_pure rfl rfl (PV.fieldAddr rfl TryzT.fd142_1 rfl) ?_
  refine WP.take_read rfl rfl (RV.loadOne rfl TryzT.ag32 rfl) (by exact Blk.segAt (H.l 0 rfl) (Seg.r (Seg.all _) (by with_reducible rfl)) (by (simp [kc_length, kw_length, *]; done))) ?_
  refine WP.pick1 rfl ?_
  refine WL.call TryzT.fb94 rfl (CloneO_c (la := T.val) H.yylt ((H.rob 0 rfl).imp fun _ h => h.vsl) (by omega)) ?_
  rintro s2 w5 ⟨hO, hOwn⟩
  have hs2 := SlC.one1 (SlB.of_own hOwn)
  replace H := H.push hO (Ent.osl w.heap.size s2 5 1 _ _) (ownsRow_base hOwn H.size) (fun b hb => (hOwn.lt b hb).1)
  refine WL.nil ⟨(List.forall_mem_cons.2 ⟨(by exact (fun h => absurd (show waits _ 5 4 = false from h) (by decide +kernel))), (List.forall_mem_cons.2 ⟨(fun _ _ => (by exact Blk.segAt (H.l 1 rfl) (Seg.l (Seg.l (Seg.all _))) (by rfl))), (fun _ h => by cases h)⟩)⟩), ?_⟩
  refine WP.take_pure rfl rfl (PV.buildS rfl TryzT.pl34 TryzT.ze34 (Fl.cons rfl (by rfl) (by (simp only [kc_length, kw_length, List.length_replicate, List.length_append, List.length_cons, List.length_nil, cutI_length, shaOf_length, dig_length, valD_length, rootM_length]; omega)) (Laid.left (Laid.all (by (simp only [kc_length, kw_length, List.length_replicate, List.length_append, List.length_cons, List.length_nil, cutI_length, shaOf_length, dig_length, valD_length, rootM_length]; omega)))) (Fl.cons rfl (cells_one hs2) (by (simp only [kc_length, kw_length, List.length_replicate, List.length_append, List.length_cons, List.length_nil, cutI_length, shaOf_length, dig_length, valD_length, rootM_length]; done)) (Laid.right (Laid.all (by (simp only [kc_length, kw_length, List.length_replicate, List.length_append, List.length_cons, List.length_nil, cutI_length, shaOf_length, dig_length, valD_length, rootM_length]; done))) (by (simp only [kc_length, kw_length, List.length_replicate, List.length_append, List.length_cons, List.length_nil, cutI_length, shaOf_length, dig_length, valD_length, rootM_length]; omega))) Fl.nil))) ?_
  refine WP.pick1 rfl ?_
  refine WL.storeL H 2 rfl rfl rfl (new := kc T.key ++ [s2]) rfl (by (rw [TryzT.sz34]; refine congrArg some ?_; (simp only [kc_length, kw_length, List.length_replicate, List.length_append, List.length_cons, List.length_nil, cutI_length, shaOf_length, dig_length, valD_length, rootM_length]; omega))) (one_append (kc_one _) (one_lit _ (by simp [hs2]))) (Laid.at (Laid.all (by (simp only [kc_length, kw_length, List.length_replicate, List.length_append, List.length_cons, List.length_nil, cutI_length, shaOf_length, dig_length, valD_length, rootM_length]; omega))) (by rfl)) rfl ?_
  intro w6 H
  refine WL.nil ⟨(List.forall_mem_cons.2 ⟨(by exact (fun h => absurd (show waits _ 7 4 = false from h) (by decide +kernel))), (List.forall_mem_cons.2 ⟨(by exact (fun h => absurd (show waits _ 7 2 = false from h) (by decide +kernel))), (fun _ h => by cases h)⟩)⟩), ?_⟩
  refine WP.done ?_
  refine WE.ret ?_
  refine ⟨[_], _, .nil _, ⟨⟨_, rfl, run_loadVar_aggR TryzT.ag34 (by exact Blk.segAt (H.l 2 rfl) (Seg.all _) rfl) (by (rw [TryzT.sz34]; refine congrArg some ?_; (simp only [kc_length, kw_length, List.length_replicate, List.length_append, List.length_cons, List.length_nil, cutI_length, shaOf_length, dig_length, valD_length, rootM_length]; omega)))⟩, trivial⟩, ?_⟩
  exact ⟨s2, rfl, H.toOut0, H.l 0 rfl⟩

end Go.Sp.Tryz

