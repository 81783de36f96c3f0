/- Walks of functions, printed by a program of this session (gen.py) from notes on each function. -/
import Derived.Test.YthdcihakjomagaaTy
import Derived.Test.YthdcihakjomagaaG1
import Derived.Test.YthdcihakjomagaaExt
import Derived.Test.YthdcihakjomagaaRng
import Derived.Test.YthdcihakjomagaaMore
import Derived.Test.YthdcihakjomagaaRules
set_option maxRecDepth 100000
set_option maxHeartbeats 1000000
set_option linter.unusedVariables false
set_option linter.unusedSimpArgs false
namespace Go.Sp.Try
open Go.Proofs Go.RowKit Go.Sp
theorem getD_at {α : Type} {l : List α} {d : α} {i : Nat} (h : i < l.length) : l.getD i d = l[i] := by simp [h]
def bitN (l : List UInt8) (i : Nat) : Nat := (l.getD (i / 8) 0).toNat / 2 ^ (7 - i % 8) % 2
def bitI (l : List UInt8) (i : Int) : Int := if i < 0 ∨ 255 < i then -1 else (bitN l i.toNat : Int)
theorem halfN (b t : Nat) : ((b / 2 ^ t : Nat) : Int) / 2 = ((b / 2 ^ (t + 1) : Nat) : Int) := by
  rw [Nat.pow_succ, ← Nat.div_div_eq_div_mul]; omega
theorem bitN_lt (l : List UInt8) (i : Nat) : bitN l i < 2 := Nat.mod_lt _ (by decide)
theorem Blk.bytD {w : World} {b o : Nat} {t : TypeId} {l : List UInt8} (h : Blk w b t (kc l)) (i : Nat) (hi : i < l.length) (ho : o = i) : RdA w ⟨b, o, none⟩ [.int .u8 ((l.getD i 0).toNat : Int)] := by
  have h1 := Blk.segAt h (Seg.byte i hi) ho
  rwa [← getD_at (d := 0)] at h1
theorem and1 {m : Nat} (h : m < 256) : IntKind.u8.wrap ((BitVec.ofInt IntKind.u8.bits (m : Int) &&& BitVec.ofInt IntKind.u8.bits 1).toNat : Int) = ((m % 2 : Nat) : Int) := by
  rw [wrap8]
  have e : (BitVec.ofInt IntKind.u8.bits (m : Int) &&& BitVec.ofInt IntKind.u8.bits 1).toNat = m % 2 := by
    show (BitVec.ofInt 8 (m : Int) &&& 1#8).toNat = _
    rw [BitVec.ofInt_natCast, BitVec.toNat_and]
    simp [Nat.and_one_is_mod]
  rw [e]
  omega

def num (k : List UInt8) : Nat := k.foldl (fun s x => s * 256 + x.toNat) 0
theorem foldl_num (k : List UInt8) : ∀ a : Nat, k.foldl (fun s x => s * 256 + x.toNat) a = a * 256 ^ k.length + num k := by
  induction k with
  | nil => intro a; simp [num]
  | cons x k ih =>
    intro a
    have e : num (x :: k) = (0 * 256 + x.toNat) * 256 ^ k.length + num k := ih _
    rw [e, List.foldl_cons, ih, List.length_cons, Nat.pow_succ]
    rw [Nat.zero_mul, Nat.zero_add, Nat.add_mul, Nat.add_assoc, Nat.mul_assoc, Nat.mul_comm 256]
theorem num_cons (x : UInt8) (k : List UInt8) : num (x :: k) = x.toNat * 256 ^ k.length + num k := by
  have h := foldl_num k (0 * 256 + x.toNat)
  rw [Nat.zero_mul, Nat.zero_add] at h
  simpa [num] using h
theorem num_append (a b : List UInt8) : num (a ++ b) = num a * 256 ^ b.length + num b := by
  show (a ++ b).foldl _ 0 = _
  rw [List.foldl_append]
  exact foldl_num b _
theorem num_lt (k : List UInt8) : num k < 256 ^ k.length := by
  induction k with
  | nil => simp [num]
  | cons x k ih =>
    rw [num_cons, List.length_cons, Nat.pow_succ]
    have hx : x.toNat + 1 ≤ 256 := by have := x.toNat_lt; omega
    calc x.toNat * 256 ^ k.length + num k < x.toNat * 256 ^ k.length + 256 ^ k.length := by omega
      _ = (x.toNat + 1) * 256 ^ k.length := by rw [Nat.add_mul, Nat.one_mul]
      _ ≤ 256 * 256 ^ k.length := Nat.mul_le_mul_right _ hx
      _ = 256 ^ k.length * 256 := Nat.mul_comm _ _
theorem num_inj : ∀ (a b : List UInt8), a.length = b.length → num a = num b → a = b := by
  intro a
  induction a with
  | nil => intro b h _; exact (List.eq_nil_of_length_eq_zero h.symm).symm
  | cons x a ih =>
    intro b h hn
    cases b with
    | nil => cases h
    | cons y b =>
      have hl : a.length = b.length := by simpa using h
      rw [num_cons, num_cons, hl] at hn
      have h1 := num_lt a
      have h2 := num_lt b
      rw [hl] at h1
      have hxy : x.toNat = y.toNat := by
        have e1 : (x.toNat * 256 ^ b.length + num a) / 256 ^ b.length = x.toNat := by
          rw [Nat.mul_comm, Nat.mul_add_div (Nat.pow_pos (by decide)), Nat.div_eq_of_lt h1, Nat.add_zero]
        have e2 : (y.toNat * 256 ^ b.length + num b) / 256 ^ b.length = y.toNat := by
          rw [Nat.mul_comm, Nat.mul_add_div (Nat.pow_pos (by decide)), Nat.div_eq_of_lt h2, Nat.add_zero]
        rw [← e1, ← e2, hn]
      rw [UInt8.toNat_inj.1 hxy, ih b hl (by rw [hxy] at hn; omega)]
theorem bit_num (k : List UInt8) (h : k.length = 32) (i : Nat) (hi : i < 256) : bitN k i = num k / 2 ^ (255 - i) % 2 := by
  have hq : i / 8 < k.length := by omega
  have e : k = k.take (i / 8) ++ k[i / 8] :: k.drop (i / 8 + 1) := by rw [← List.drop_eq_getElem_cons hq, List.take_append_drop]
  have hn : num k = (num (k.take (i / 8)) * 256 + k[i / 8].toNat) * 256 ^ (31 - i / 8) + num (k.drop (i / 8 + 1)) := by
    have hl : (k.drop (i / 8 + 1)).length = 31 - i / 8 := by simp; omega
    have := num_append (k.take (i / 8)) (k[i / 8] :: k.drop (i / 8 + 1))
    rw [← e, num_cons, List.length_cons, hl, Nat.pow_succ] at this
    rw [this, Nat.add_mul, Nat.mul_assoc, Nat.mul_comm 256, Nat.add_assoc]
  have hd := num_lt (k.drop (i / 8 + 1))
  rw [show (k.drop (i / 8 + 1)).length = 31 - i / 8 by simp; omega] at hd
  have h8 : (256 : Nat) ^ (31 - i / 8) = 2 ^ (8 * (31 - i / 8)) := by rw [show (256 : Nat) = 2 ^ 8 from rfl, ← Nat.pow_mul]
  have hdiv : num k / 2 ^ (8 * (31 - i / 8)) = num (k.take (i / 8)) * 256 + k[i / 8].toNat := by
    rw [← h8, hn, Nat.mul_comm _ (256 ^ _), Nat.mul_add_div (Nat.pow_pos (by decide)), Nat.div_eq_of_lt hd, Nat.add_zero]
  have hsplit : 255 - i = 8 * (31 - i / 8) + (7 - i % 8) := by omega
  rw [hsplit, Nat.pow_add, ← Nat.div_div_eq_div_mul, hdiv]
  have h256 : (256 : Nat) = 2 ^ (7 - i % 8) * (2 ^ (i % 8) * 2) := by
    rw [← Nat.pow_succ, ← Nat.pow_add, show 7 - i % 8 + (i % 8 + 1) = 8 by omega]
  unfold bitN
  rw [getD_at hq]
  have e3 : num (k.take (i / 8)) * 256 + k[i / 8].toNat = 2 ^ (7 - i % 8) * (num (k.take (i / 8)) * (2 ^ (i % 8) * 2)) + k[i / 8].toNat := by
    rw [← Nat.mul_assoc, Nat.mul_comm (2 ^ (7 - i % 8)), Nat.mul_assoc, ← h256]
  rw [e3, Nat.mul_add_div (Nat.pow_pos (by decide)), ← Nat.mul_assoc, Nat.mul_comm _ 2, Nat.mul_add_mod]
def pre (d : Nat) (k : List UInt8) : Nat := num k / 2 ^ (256 - d)
theorem pre_zero (k : List UInt8) (h : k.length = 32) : pre 0 k = 0 := by
  unfold pre
  apply Nat.div_eq_of_lt
  have := num_lt k
  rw [h] at this
  exact this
theorem pre_full (k : List UInt8) : pre 256 k = num k := by simp [pre]
theorem pre_succ (k : List UInt8) (h : k.length = 32) (d : Nat) (hd : d < 256) : pre (d + 1) k = 2 * pre d k + bitN k d := by
  unfold pre
  rw [bit_num k h d hd, show 256 - d = (255 - d) + 1 by omega, show 256 - (d + 1) = 255 - d by omega, Nat.pow_succ, ← Nat.div_div_eq_div_mul]
  omega
theorem num_lt_of {a b : List UInt8} (hl : a.length = b.length) (i : Nat) (hi : i < a.length) (hp : a.take i = b.take i) (h : a[i].toNat < (b[i]'(by omega)).toNat) : num a < num b := by
  have hib : i < b.length := by omega
  have ea : a = a.take i ++ a[i] :: a.drop (i + 1) := by rw [← List.drop_eq_getElem_cons hi, List.take_append_drop]
  have eb : b = a.take i ++ b[i] :: b.drop (i + 1) := by rw [hp, ← List.drop_eq_getElem_cons hib, List.take_append_drop]
  have h1 := num_append (a.take i) (a[i] :: a.drop (i + 1))
  have h2 := num_append (a.take i) (b[i] :: b.drop (i + 1))
  rw [← ea, num_cons] at h1
  rw [← eb, num_cons] at h2
  have hla : (a.drop (i + 1)).length = (b.drop (i + 1)).length := by simp; omega
  have h3 := num_lt (a.drop (i + 1))
  rw [List.length_cons] at h1 h2
  rw [hla] at h1 h3
  rw [h1, h2]
  have h4 : (a[i].toNat + 1) * 256 ^ (b.drop (i + 1)).length ≤ b[i].toNat * 256 ^ (b.drop (i + 1)).length := Nat.mul_le_mul_right _ h
  rw [Nat.add_mul, Nat.one_mul] at h4
  omega
def cmpI (a b : List UInt8) : Int := if num a < num b then -1 else if num b < num a then 1 else 0
theorem cmpI_neg {a b : List UInt8} : cmpI a b < 0 ↔ num a < num b := by
  unfold cmpI
  by_cases h : num a < num b
  · simp [h]
  · rw [if_neg h]
    by_cases h2 : num b < num a <;> simp [h, h2]
def comF (a b : List UInt8) : Nat → Nat → Nat
  | 0, i => i
  | f + 1, i => if bitN a i = bitN b i then comF a b f (i + 1) else i
def comN (a b : List UInt8) : Nat := comF a b 256 0
structure IsCom (a b : List UInt8) (c : Nat) : Prop where
  le : c ≤ 256
  eq : ∀ i, i < c → bitN a i = bitN b i
  ne : c < 256 → bitN a c ≠ bitN b c
theorem comF_is (a b : List UInt8) : ∀ (f i : Nat), f + i = 256 → (∀ j, j < i → bitN a j = bitN b j) → IsCom a b (comF a b f i) := by
  intro f
  induction f with
  | zero => intro i h he; exact ⟨by show i ≤ 256; omega, he, fun hl => absurd hl (by show ¬ i < 256; omega)⟩
  | succ f ih =>
    intro i h he
    unfold comF
    by_cases hb : bitN a i = bitN b i
    · rw [if_pos hb]
      refine ih (i + 1) (by omega) fun j hj => ?_
      by_cases e : j = i
      · subst e; exact hb
      · exact he j (by omega)
    · rw [if_neg hb]
      exact ⟨by omega, he, fun _ => hb⟩
theorem comN_is (a b : List UInt8) : IsCom a b (comN a b) := comF_is a b 256 0 rfl fun _ h => by omega
theorem IsCom.uniq {a b : List UInt8} {c d : Nat} (h : IsCom a b c) (g : IsCom a b d) : c = d := by
  have h1 := h.le
  have h2 := g.le
  rcases Nat.lt_trichotomy c d with hl | hl | hl
  · exact absurd (g.eq c hl) (h.ne (by omega))
  · exact hl
  · exact absurd (h.eq d hl) (g.ne (by omega))
theorem comN_le (a b : List UInt8) : comN a b ≤ 256 := (comN_is a b).le
theorem comN_succ {a b : List UInt8} {c : Nat} (hc : c < 256) : c + 1 ≤ comN a b ↔ c ≤ comN a b ∧ bitN a c = bitN b c := by
  have h := comN_is a b
  constructor
  · intro hl; exact ⟨by omega, h.eq c (by omega)⟩
  · rintro ⟨h1, h2⟩
    rcases Nat.lt_or_ge c (comN a b) with hl | hl
    · exact hl
    · have e : comN a b = c := by omega
      exact absurd (e ▸ h2 : bitN a (comN a b) = bitN b (comN a b)) (h.ne (by omega))
theorem pre_com {a b : List UInt8} (ha : a.length = 32) (hb : b.length = 32) : ∀ d, d ≤ 256 → (pre d a = pre d b ↔ d ≤ comN a b) := by
  intro d
  induction d with
  | zero => intro _; rw [pre_zero a ha, pre_zero b hb]; simp
  | succ d ih =>
    intro hd
    have h1 := bitN_lt a d
    have h2 := bitN_lt b d
    rw [pre_succ a ha d (by omega), pre_succ b hb d (by omega), comN_succ (by omega), ← ih (by omega)]
    constructor
    · intro h; omega
    · rintro ⟨h3, h4⟩; rw [h3, h4]
theorem comN_full {a b : List UInt8} (ha : a.length = 32) (hb : b.length = 32) : 256 ≤ comN a b ↔ a = b := by
  rw [← pre_com ha hb 256 (by omega), pre_full, pre_full]
  exact ⟨num_inj a b (by rw [ha, hb]), fun h => by rw [h]⟩
theorem pre_mono {a b : List UInt8} {d : Nat} (h : num a ≤ num b) : pre d a ≤ pre d b := Nat.div_le_div_right h
theorem lt_of_pre {a b : List UInt8} {d : Nat} (h : pre d a < pre d b) : num a < num b := by
  rcases Nat.lt_or_ge (num a) (num b) with hl | hl
  · exact hl
  · exact absurd (pre_mono (d := d) hl) (by omega)
theorem lt_of_bit {a b : List UInt8} {d : Nat} (ha : a.length = 32) (hb : b.length = 32) (hd : d < 256) (hp : pre d a = pre d b) (h0 : bitN a d = 0) (h1 : bitN b d = 1) : num a < num b := by
  apply lt_of_pre (d := d + 1)
  rw [pre_succ a ha d hd, pre_succ b hb d hd, hp, h0, h1]
  omega
def SlK (v : Value) (ks : List (List UInt8)) (w : World) : Prop := SlC w v 32 ks.length (ks.flatMap kc)
def K32 (ks : List (List UInt8)) : Prop := ∀ k ∈ ks, k.length = 32
theorem K32.take {l : List (List UInt8)} (h : K32 l) (i : Nat) : K32 (l.take i) := fun e he => h e (List.mem_of_mem_take he)
theorem kc_seg : ∀ (ks : List (List UInt8)) (hk : K32 ks) (i : Nat) (hi : i < ks.length), ((ks.flatMap kc).drop (i * 32)).take 32 = kc ks[i] := by
  intro ks
  induction ks with
  | nil => intro _ i hi; simp at hi
  | cons x ks ih =>
    intro hk i hi
    have hx := hk x (by simp)
    have hl : (kc x).length = 32 := by rw [kc_length, hx]
    cases i with
    | zero =>
      rw [List.flatMap_cons, Nat.zero_mul, List.drop_zero, List.take_left' hl]; rfl
    | succ i =>
      rw [List.flatMap_cons, show (i + 1) * 32 = 32 + i * 32 by omega, ← List.drop_drop, List.drop_left' hl]
      exact ih (fun k h => hk k (List.mem_cons_of_mem _ h)) i (by simpa using hi)
theorem SlK.rd {v : Value} {ks : List (List UInt8)} {w : World} (h : SlK v ks w) (hk : K32 ks) (i : Nat) (hi : i < ks.length) : RdA w (sAddr v (i * 32)) (kc ks[i]) := by
  have := SlC.rd h i hi
  rwa [kc_seg ks hk i hi] at this
theorem cmpI_cons (x : UInt8) (a b : List UInt8) (h : a.length = b.length) : cmpI (x :: a) (x :: b) = cmpI a b := by
  unfold cmpI
  rw [num_cons, num_cons, h]
  simp only [Nat.add_lt_add_iff_left]
theorem compareBytes_num : ∀ (a b : List UInt8), a.length = b.length → Lib.compareBytes a b = cmpI a b
  | [], [], _ => by simp [Lib.compareBytes, cmpI]
  | [], _ :: _, h => by cases h
  | _ :: _, [], h => by cases h
  | x :: a, y :: b, h => by
    have hl : a.length = b.length := by simpa using h
    unfold Lib.compareBytes
    by_cases h1 : x < y
    · rw [if_pos h1]
      have := num_lt_of (a := x :: a) (b := y :: b) h 0 (by simp) rfl (UInt8.lt_iff_toNat_lt.1 h1)
      rw [cmpI, if_pos this]
    · rw [if_neg h1]
      by_cases h2 : y < x
      · rw [if_pos h2]
        have := num_lt_of (a := y :: b) (b := x :: a) h.symm 0 (by simp) rfl (UInt8.lt_iff_toNat_lt.1 h2)
        rw [cmpI, if_neg (by omega), if_pos this]
      · rw [if_neg h2]
        have e : x = y := by
          have h3 : ¬ x.toNat < y.toNat := fun h => h1 (UInt8.lt_iff_toNat_lt.2 h)
          have h4 : ¬ y.toNat < x.toNat := fun h => h2 (UInt8.lt_iff_toNat_lt.2 h)
          exact UInt8.toNat_inj.1 (by omega)
        subst e
        rw [compareBytes_num a b hl, cmpI_cons _ _ _ hl]

theorem refBit_c {X : Nat → Prop} {w : World} {l : List UInt8} {i : Int} (hX : ∀ b, X b → b < w.heap.size) (hl : l.length = 32) (hi : -9223372036854775808 ≤ i ∧ i ≤ 9223372036854775807) :
    Ret Try.prog 22 [.agg (kc l).toArray, .int .i64 i].toArray w fun v w' => v = .int .i64 (bitI l i) ∧ Out Nil w w' := by
  refine Ret.of_body (N := 28) Try.func22 rfl rfl (by simp) ?_
  have H := St.begin hX
  refine WE.seq_reg ?_
  refine WL.box (l := kc l) H rfl (by rfl) rfl ?_
  intro b2 w1 H
  refine WL.as rfl rfl ?_
  refine WL.nil ?_
  refine WE.seq ?_
  refine WE.seq_reg ?_
  refine WL.mv rfl rfl ?_
  refine WL.pv (PV.lss rfl rfl rfl) rfl ?_
  refine WL.mv rfl rfl ?_
  refine WL.split (t := 9) rfl (fun hg9 => ?_) (fun hg9 => ?_)
  · skip
    refine WL.known (t := 8) (c := true) rfl hg9 ?_
    try simp only [decide_eq_true_eq, decide_eq_false_iff_not, ne_eq, Decidable.not_not, Bool.not_eq_true', Bool.not_eq_false', Bool.and_eq_true, Bool.or_eq_true, Bool.not_not, Bool.and_eq_false_iff, Bool.or_eq_false_iff, Int.not_lt, Int.not_le] at hg9
    refine WL.off rfl ?_
    refine WL.off rfl ?_
    refine WL.pv (PV.pick_t rfl rfl rfl) rfl ?_
    refine WL.nil ?_
    refine WE.cond_t rfl ?_
    refine WE.seq_reg ?_
    refine WL.as rfl rfl ?_
    refine WL.nil ?_
    refine WE.ret ?_
    refine ⟨[_], _, .nil _, ⟨rfl, trivial⟩, ?_⟩
    refine ⟨?_, H.toOut0⟩
    rw [bitI, if_pos (by omega)]; rfl
  · skip
    refine WL.known (t := 8) (c := false) rfl hg9 ?_
    try simp only [decide_eq_true_eq, decide_eq_false_iff_not, ne_eq, Decidable.not_not, Bool.not_eq_true', Bool.not_eq_false', Bool.and_eq_true, Bool.or_eq_true, Bool.not_not, Bool.and_eq_false_iff, Bool.or_eq_false_iff, Int.not_lt, Int.not_le] at hg9
    refine WL.mv rfl rfl ?_
    refine WL.pv (PV.gtr rfl rfl rfl) rfl ?_
    refine WL.pv (PV.pick_f rfl rfl rfl) rfl ?_
    refine WL.nil ?_
    refine WE.cond rfl (fun hc12 => ?_) (fun hc12 => ?_)
    · skip
      try simp only [decide_eq_true_eq, decide_eq_false_iff_not, ne_eq, Decidable.not_not, Bool.not_eq_true', Bool.not_eq_false', Bool.and_eq_true, Bool.or_eq_true, Bool.not_not, Bool.and_eq_false_iff, Bool.or_eq_false_iff, Int.not_lt, Int.not_le] at hc12
      refine WE.seq_reg ?_
      refine WL.as rfl rfl ?_
      refine WL.nil ?_
      refine WE.ret ?_
      refine ⟨[_], _, .nil _, ⟨rfl, trivial⟩, ?_⟩
      refine ⟨?_, H.toOut0⟩
      rw [bitI, if_pos (by omega)]; rfl
    · skip
      try simp only [decide_eq_true_eq, decide_eq_false_iff_not, ne_eq, Decidable.not_not, Bool.not_eq_true', Bool.not_eq_false', Bool.and_eq_true, Bool.or_eq_true, Bool.not_not, Bool.and_eq_false_iff, Bool.or_eq_false_iff, Int.not_lt, Int.not_le] at hc12
      obtain ⟨n, rfl⟩ : ∃ n : Nat, i = (n : Int) := ⟨i.toNat, by omega⟩
      have hn : n < 256 := by omega
      have hx := (l.getD (n / 8) 0).toNat_lt
      refine WE.skip ?_
      refine WE.seq_reg ?_
      refine WL.mv rfl rfl ?_
      refine WL.pv (PV.quo64 rfl rfl rfl (by omega) (by omega) (by omega)) rfl ?_
      refine WL.pv (PV.indexArr rfl TryT.ar24 TryT.sz5 rfl rfl (by omega) (by omega)) rfl ?_
      refine WL.load1 rfl TryT.ag5 rfl rfl (Blk.bytD (H.l 0 rfl) (n / 8) (by omega) (by omega)) ?_
      refine WL.pv (PV.conv64 rfl TryT.in5 TryT.in3 rfl (by omega) (by omega)) rfl ?_
      refine WL.as rfl rfl ?_
      refine WL.nil ?_
      refine WE.seq ?_
      refine WE.seq_reg ?_
      refine WL.mv rfl rfl ?_
      refine WL.pv (PV.rem64 rfl rfl rfl (by omega) (by omega)) rfl ?_
      refine WL.as rfl rfl ?_
      refine WL.nil ?_
      refine WE.block ?_
      refine WE.loop (α := Nat) [5, 6, 20, 21, 22, 23, 24, 25] (fun j => [(6, .int .i64 j), (5, .int .i64 (((l.getD (n / 8) 0).toNat / 2 ^ (j - n % 8) : Nat) : Int))]) (fun j wl => n % 8 ≤ j ∧ j ≤ 7 ∧ St X w wl [] [Ent.blk b2 24 (kc l)] []) (fun j => 7 - j) (n % 8) ⟨rfl, by show Value.int .i64 _ = _; rw [Nat.sub_self, Nat.pow_zero, Nat.div_one], trivial⟩ ⟨Nat.le_refl _, by omega, H⟩ ?_
      intro j γ0 w2 hI
      try dsimp only at hI
      obtain ⟨hj0, hj7, H⟩ := hI
      refine WE.seq ?_
      refine WE.seq_reg ?_
      refine WL.mv rfl rfl ?_
      refine WL.pv (PV.lss rfl rfl rfl) rfl ?_
      refine WL.nil ?_
      refine WE.cond rfl (fun hc21 => ?_) (fun hc21 => ?_)
      · skip
        try simp only [decide_eq_true_eq, decide_eq_false_iff_not, ne_eq, Decidable.not_not, Bool.not_eq_true', Bool.not_eq_false', Bool.and_eq_true, Bool.or_eq_true, Bool.not_not, Bool.and_eq_false_iff, Bool.or_eq_false_iff, Int.not_lt, Int.not_le] at hc21
        have hlt : j < 7 := by omega
        refine WE.skip ?_
        refine WE.seq ?_
        refine WE.block ?_
        refine WE.reg ?_
        refine WL.mv rfl rfl ?_
        refine WL.pv (PV.eq (v' := .int .i64 (((l.getD (n / 8) 0).toNat / 2 ^ (j + 1 - n % 8) : Nat) : Int)) (PV.quo64 rfl rfl rfl (by generalize (l.getD (n / 8) 0).toNat / 2 ^ (j - n % 8) = Q; omega) (by have h2 := Nat.div_le_self (l.getD (n / 8) 0).toNat (2 ^ (j - n % 8)); generalize (l.getD (n / 8) 0).toNat / 2 ^ (j - n % 8) = Q at *; omega) (by omega)) (by rw [halfN, show j + 1 - n % 8 = (j - n % 8) + 1 by omega])) rfl ?_
        refine WL.as rfl rfl ?_
        refine WL.nil ?_
        refine WE.reg ?_
        refine WL.mv rfl rfl ?_
        refine WL.pv (PV.add64 rfl rfl rfl (by omega) (by omega)) rfl ?_
        refine WL.as rfl rfl ?_
        refine WL.nil ?_
        exact ⟨j + 1, (by repeat (first | with_reducible exact Off.refl _ _ | refine Off.upd rfl ?_ | refine Off.setAll rfl ?_ | refine Off.forget' rfl ?_)), ⟨rfl, rfl, trivial⟩, rfl, ⟨by omega, by omega, H⟩, (by omega)⟩
      · skip
        try simp only [decide_eq_true_eq, decide_eq_false_iff_not, ne_eq, Decidable.not_not, Bool.not_eq_true', Bool.not_eq_false', Bool.and_eq_true, Bool.or_eq_true, Bool.not_not, Bool.and_eq_false_iff, Bool.or_eq_false_iff, Int.not_lt, Int.not_le] at hc21
        obtain rfl : j = 7 := by omega
        refine WE.exit ?_
        refine WE.seq_reg ?_
        refine WL.mv rfl rfl ?_
        refine WL.pv (PV.remw rfl rfl rfl (by omega)) rfl ?_
        refine WL.as rfl rfl ?_
        refine WL.nil ?_
        refine WE.ret ?_
        refine ⟨[_], _, .nil _, ⟨rfl, trivial⟩, ?_⟩
        refine ⟨?_, H.toOut0⟩
        rw [bitI, if_neg (by omega)]
        show Value.int .i64 _ = _
        rw [Int.toNat_natCast]; rfl


theorem refBitN_c {X : Nat → Prop} {w : World} {k : List UInt8} {d : Nat} (hX : ∀ b, X b → b < w.heap.size) (hk : k.length = 32) (hd : d < 256) :
    Ret Try.prog 22 [.agg (kc k).toArray, .int .i64 (d : Int)].toArray w fun v w' => v = .int .i64 (bitN k d : Int) ∧ Out Nil w w' := by
  have h := refBit_c (i := (d : Int)) hX hk (by omega)
  rwa [bitI, if_neg (by omega), Int.toNat_natCast] at h

theorem refCompare_c {X : Nat → Prop} {w : World} {k l : List UInt8} (hX : ∀ b, X b → b < w.heap.size) (hk : k.length = 32) (hl : l.length = 32) :
    Ret Try.prog 31 [.agg (kc k).toArray, .agg (kc l).toArray].toArray w fun v w' => v = .int .i64 (cmpI k l) ∧ Out Nil w w' := by
  refine Ret.of_body (N := 24) Try.func31 rfl rfl (by simp) ?_
  have H := St.begin hX
  refine WE.seq_reg ?_
  refine WL.box (l := kc k) H rfl (by rfl) rfl ?_
  intro b2 w1 H
  refine WL.box (l := kc l) H rfl (by rfl) rfl ?_
  intro b3 w2 H
  refine WL.as rfl rfl ?_
  refine WL.nil ?_
  refine WE.seq ?_
  refine WE.seq_reg ?_
  refine WL.as rfl rfl ?_
  refine WL.nil ?_
  refine WE.block ?_
  refine WE.loop (α := Nat) [4, 5, 6, 7, 8, 9, 10, 11, 12, 13, 14, 15, 16, 17, 18, 19, 20, 21, 22, 23] (fun i => [(5, .int .i64 i)]) (fun i wl => i ≤ 32 ∧ k.take i = l.take i ∧ St X w wl [] [Ent.blk b3 24 (kc l), Ent.blk b2 24 (kc k)] []) (fun i => 32 - i) 0 ⟨rfl, trivial⟩ ⟨Nat.zero_le _, by simp, H⟩ ?_
  intro i γ0 w3 hI
  try dsimp only at hI
  obtain ⟨hi, hpre, H⟩ := hI
  refine WE.seq ?_
  refine WE.seq_reg ?_
  refine WL.mv rfl rfl ?_
  refine WL.pv (PV.lss rfl rfl rfl) rfl ?_
  refine WL.nil ?_
  refine WE.cond rfl (fun hc7 => ?_) (fun hc7 => ?_)
  · skip
    try simp only [decide_eq_true_eq, decide_eq_false_iff_not, ne_eq, Decidable.not_not, Bool.not_eq_true', Bool.not_eq_false', Bool.and_eq_true, Bool.or_eq_true, Bool.not_not, Bool.and_eq_false_iff, Bool.or_eq_false_iff, Int.not_lt, Int.not_le] at hc7
    have hlt : i < 32 := by omega
    refine WE.skip ?_
    refine WE.seq ?_
    refine WE.block ?_
    refine WE.seq ?_
    refine WE.seq_draw (.take 0 (.take 1 (.take 2 (.take 3 (.take 4 (.take 5 (.take 6 .done))))))) TryT.mixed (by kernel_rfl) ?_
    replace H := H.out (Out.drew _)
    refine WP.mv rfl rfl rfl ?_
    refine WP.take_pure rfl rfl (PV.indexArr rfl TryT.ar24 TryT.sz5 rfl rfl (by omega) (by omega)) ?_
    refine WP.take_read rfl rfl (RV.loadOne rfl TryT.ag5 rfl) (by exact Blk.segAt (H.l 1 rfl) (Seg.byte i (by omega)) (by (simp; done))) ?_
    refine WP.mv rfl rfl rfl ?_
    refine WP.take_pure rfl rfl (PV.indexArr rfl TryT.ar24 TryT.sz5 rfl rfl (by omega) (by omega)) ?_
    refine WP.take_read rfl rfl (RV.loadOne rfl TryT.ag5 rfl) (by exact Blk.segAt (H.l 0 rfl) (Seg.byte i (by omega)) (by (simp; done))) ?_
    refine WP.take_pure rfl rfl (PV.lss rfl rfl rfl) ?_
    refine WP.done ?_
    refine WE.cond rfl (fun hc16 => ?_) (fun hc16 => ?_)
    · skip
      try simp only [decide_eq_true_eq, decide_eq_false_iff_not, ne_eq, Decidable.not_not, Bool.not_eq_true', Bool.not_eq_false', Bool.and_eq_true, Bool.or_eq_true, Bool.not_not, Bool.and_eq_false_iff, Bool.or_eq_false_iff, Int.not_lt, Int.not_le] at hc16
      have hnum := num_lt_of (by omega) i (by omega) hpre (by omega)
      refine WE.seq_reg ?_
      refine WL.as rfl rfl ?_
      refine WL.nil ?_
      refine WE.ret ?_
      refine ⟨[_], _, .nil _, ⟨rfl, trivial⟩, ?_⟩
      refine ⟨?_, H.toOut0⟩
      rw [cmpI, if_pos hnum]; rfl
    · skip
      try simp only [decide_eq_true_eq, decide_eq_false_iff_not, ne_eq, Decidable.not_not, Bool.not_eq_true', Bool.not_eq_false', Bool.and_eq_true, Bool.or_eq_true, Bool.not_not, Bool.and_eq_false_iff, Bool.or_eq_false_iff, Int.not_lt, Int.not_le] at hc16
      refine WE.skip ?_
      refine WE.seq_draw (.take 0 (.take 1 (.take 2 (.take 3 (.take 4 (.take 5 (.take 6 .done))))))) TryT.mixed (by kernel_rfl) ?_
      replace H := H.out (Out.drew _)
      refine WP.mv rfl rfl rfl ?_
      refine WP.take_pure rfl rfl (PV.indexArr rfl TryT.ar24 TryT.sz5 rfl rfl (by omega) (by omega)) ?_
      refine WP.take_read rfl rfl (RV.loadOne rfl TryT.ag5 rfl) (by exact Blk.segAt (H.l 1 rfl) (Seg.byte i (by omega)) (by (simp; done))) ?_
      refine WP.mv rfl rfl rfl ?_
      refine WP.take_pure rfl rfl (PV.indexArr rfl TryT.ar24 TryT.sz5 rfl rfl (by omega) (by omega)) ?_
      refine WP.take_read rfl rfl (RV.loadOne rfl TryT.ag5 rfl) (by exact Blk.segAt (H.l 0 rfl) (Seg.byte i (by omega)) (by (simp; done))) ?_
      refine WP.take_pure rfl rfl (PV.gtr rfl rfl rfl) ?_
      refine WP.done ?_
      refine WE.cond rfl (fun hc23 => ?_) (fun hc23 => ?_)
      · skip
        try simp only [decide_eq_true_eq, decide_eq_false_iff_not, ne_eq, Decidable.not_not, Bool.not_eq_true', Bool.not_eq_false', Bool.and_eq_true, Bool.or_eq_true, Bool.not_not, Bool.and_eq_false_iff, Bool.or_eq_false_iff, Int.not_lt, Int.not_le] at hc23
        have hnum := num_lt_of (a := l) (b := k) (by omega) i (by omega) hpre.symm (by omega)
        refine WE.seq_reg ?_
        refine WL.as rfl rfl ?_
        refine WL.nil ?_
        refine WE.ret ?_
        refine ⟨[_], _, .nil _, ⟨rfl, trivial⟩, ?_⟩
        refine ⟨?_, H.toOut0⟩
        rw [cmpI, if_neg (by omega), if_pos hnum]; rfl
      · skip
        try simp only [decide_eq_true_eq, decide_eq_false_iff_not, ne_eq, Decidable.not_not, Bool.not_eq_true', Bool.not_eq_false', Bool.and_eq_true, Bool.or_eq_true, Bool.not_not, Bool.and_eq_false_iff, Bool.or_eq_false_iff, Int.not_lt, Int.not_le] at hc23
        have heq : k[i] = l[i] := UInt8.toNat_inj.1 (by omega)
        have hpre2 : k.take (i + 1) = l.take (i + 1) := by rw [List.take_succ_eq_append_getElem (by omega), List.take_succ_eq_append_getElem (by omega), hpre, heq]
        refine WE.skip ?_
        refine WE.reg ?_
        refine WL.mv rfl rfl ?_
        refine WL.pv (PV.add64 rfl rfl rfl (by omega) (by omega)) rfl ?_
        refine WL.as rfl rfl ?_
        refine WL.nil ?_
        exact ⟨i + 1, (by repeat (first | with_reducible exact Off.refl _ _ | refine Off.upd rfl ?_ | refine Off.setAll rfl ?_ | refine Off.forget' rfl ?_)), ⟨rfl, trivial⟩, rfl, ⟨by omega, hpre2, H⟩, (by omega)⟩
  · skip
    try simp only [decide_eq_true_eq, decide_eq_false_iff_not, ne_eq, Decidable.not_not, Bool.not_eq_true', Bool.not_eq_false', Bool.and_eq_true, Bool.or_eq_true, Bool.not_not, Bool.and_eq_false_iff, Bool.or_eq_false_iff, Int.not_lt, Int.not_le] at hc7
    have hi32 : i = 32 := by omega
    refine WE.exit ?_
    refine WE.seq_reg ?_
    refine WL.as rfl rfl ?_
    refine WL.nil ?_
    refine WE.ret ?_
    refine ⟨[_], _, .nil _, ⟨rfl, trivial⟩, ?_⟩
    refine ⟨?_, H.toOut0⟩
    have e : k = l := by rw [← List.take_of_length_le (show k.length ≤ i by omega), ← List.take_of_length_le (show l.length ≤ i by omega), hpre]
    rw [e, cmpI, if_neg (by omega), if_neg (by omega)]; rfl

theorem refCommon_c {X : Nat → Prop} {w : World} {a b : List UInt8} (hX : ∀ b, X b → b < w.heap.size) (ha : a.length = 32) (hb : b.length = 32) :
    Ret Try.prog 20 [.agg (kc a).toArray, .agg (kc b).toArray].toArray w fun v w' => v = .int .i64 (comN a b : Int) ∧ Out Nil w w' := by
  refine Ret.of_body (N := 20) Try.func20 rfl rfl (by simp) ?_
  have H := St.begin hX
  refine WE.seq_reg ?_
  refine WL.box (l := kc a) H rfl (by rfl) rfl ?_
  intro b2 w1 H
  refine WL.box (l := kc b) H rfl (by rfl) rfl ?_
  intro b3 w2 H
  refine WL.as rfl rfl ?_
  refine WL.nil ?_
  refine WE.seq_reg ?_
  refine WL.as rfl rfl ?_
  refine WL.nil ?_
  refine WE.seq ?_
  refine WE.block ?_
  refine WE.loop (α := Nat) [5, 6, 7, 8, 9, 10, 11, 12, 13, 14, 15, 16, 17, 18] (fun n => [(5, .int .i64 n)]) (fun n wl => n ≤ 256 ∧ (∀ j, j < n → bitN a j = bitN b j) ∧ St X w wl [] [Ent.blk b3 24 (kc b), Ent.blk b2 24 (kc a)] []) (fun n => 256 - n) 0 ⟨rfl, trivial⟩ ⟨Nat.zero_le _, fun _ h => by omega, H⟩ ?_
  intro n γ0 w3 hI
  try dsimp only at hI
  obtain ⟨hle, hall, H⟩ := hI
  refine WE.seq ?_
  refine WE.seq_draw (.take 0 (.take 1 (.take 2 (.take 3 (.take 4 (.take 6 (.take 7 (.pick1 5 (.pick1 8 (.take 9 (.take 10 .done))))))))))) TryT.mixed (by kernel_rfl) ?_
  replace H := H.out (Out.drew _)
  refine WP.mv rfl rfl rfl ?_
  refine WP.take_pure rfl rfl (PV.lss rfl rfl rfl) ?_
  refine WP.mv rfl rfl rfl ?_
  refine WP.split (t := 8) rfl (fun hg8 => ?_) (fun hg8 => ?_)
  · skip
    refine WP.known (t := 7) (c := true) rfl hg8 ?_
    try simp only [decide_eq_true_eq, decide_eq_false_iff_not, ne_eq, Decidable.not_not, Bool.not_eq_true', Bool.not_eq_false', Bool.and_eq_true, Bool.or_eq_true, Bool.not_not, Bool.and_eq_false_iff, Bool.or_eq_false_iff, Int.not_lt, Int.not_le] at hg8
    have hn : n < 256 := by omega
    refine WP.readA rfl rfl rfl TryT.ag24 rfl (by exact Blk.segAt (H.l 1 rfl) (Seg.all _) (by rfl)) (by (rw [TryT.sz24]; refine congrArg some ?_; (simp only [kc_length, kw_length, List.length_replicate, List.length_append, List.length_cons, List.length_nil]; omega))) ?_
    refine WP.mv rfl rfl rfl ?_
    refine WP.readA rfl rfl rfl TryT.ag24 rfl (by exact Blk.segAt (H.l 0 rfl) (Seg.all _) (by rfl)) (by (rw [TryT.sz24]; refine congrArg some ?_; (simp only [kc_length, kw_length, List.length_replicate, List.length_append, List.length_cons, List.length_nil]; omega))) ?_
    refine WP.mv rfl rfl rfl ?_
    refine WP.pick1 rfl ?_
    refine WL.call TryT.fb22 rfl (refBitN_c (k := a) (d := n) H.yylt  (by assumption) (by assumption)) ?_
    rintro _ w4 ⟨rfl, hO⟩
    replace H := H.out hO
    refine WL.nil ⟨(List.forall_mem_cons.2 ⟨(fun _ _ => (by exact Blk.segAt (H.l 0 rfl) (Seg.all _) (by rfl))), (List.forall_mem_cons.2 ⟨(by exact (fun h => absurd (show waits _ 5 3 = false from h) (by decide +kernel))), (fun _ h => by cases h)⟩)⟩), ?_⟩
    refine WP.pick1 rfl ?_
    refine WL.call TryT.fb22 rfl (refBitN_c (k := b) (d := n) H.yylt  (by assumption) (by assumption)) ?_
    rintro _ w5 ⟨rfl, hO⟩
    replace H := H.out hO
    refine WL.nil ⟨(List.forall_mem_cons.2 ⟨(by exact (fun h => absurd (show waits _ 8 6 = false from h) (by decide +kernel))), (List.forall_mem_cons.2 ⟨(by exact (fun h => absurd (show waits _ 8 3 = false from h) (by decide +kernel))), (fun _ h => by cases h)⟩)⟩), ?_⟩
    refine WP.take_pure rfl rfl (PV.eql rfl rfl rfl) ?_
    refine WP.take_pure rfl rfl (PV.pick_t rfl rfl rfl) ?_
    refine WP.done ?_
    refine WE.cond rfl (fun hc16 => ?_) (fun hc16 => ?_)
    · skip
      try simp only [decide_eq_true_eq, decide_eq_false_iff_not, ne_eq, Decidable.not_not, Bool.not_eq_true', Bool.not_eq_false', Bool.and_eq_true, Bool.or_eq_true, Bool.not_not, Bool.and_eq_false_iff, Bool.or_eq_false_iff, Int.not_lt, Int.not_le] at hc16
      have hbit : bitN a n = bitN b n := by omega
      refine WE.skip ?_
      refine WE.block ?_
      refine WE.reg ?_
      refine WL.mv rfl rfl ?_
      refine WL.pv (PV.add64 rfl rfl rfl (by omega) (by omega)) rfl ?_
      refine WL.as rfl rfl ?_
      refine WL.nil ?_
      exact ⟨n + 1, (by repeat (first | with_reducible exact Off.refl _ _ | refine Off.upd rfl ?_ | refine Off.setAll rfl ?_ | refine Off.forget' rfl ?_)), ⟨rfl, trivial⟩, rfl, ⟨by omega, fun j hj => by (by_cases e : j = n; (subst e; exact hbit); exact hall j (by omega)), H⟩, (by omega)⟩
    · skip
      try simp only [decide_eq_true_eq, decide_eq_false_iff_not, ne_eq, Decidable.not_not, Bool.not_eq_true', Bool.not_eq_false', Bool.and_eq_true, Bool.or_eq_true, Bool.not_not, Bool.and_eq_false_iff, Bool.or_eq_false_iff, Int.not_lt, Int.not_le] at hc16
      have hbit : bitN a n ≠ bitN b n := by omega
      refine WE.exit ?_
      refine WE.seq_reg ?_
      refine WL.mv rfl rfl ?_
      refine WL.as rfl rfl ?_
      refine WL.nil ?_
      refine WE.ret ?_
      refine ⟨[_], _, .nil _, ⟨rfl, trivial⟩, ?_⟩
      refine ⟨?_, H.toOut0⟩
      show Value.int .i64 _ = Value.int .i64 _
      rw [(comN_is a b).uniq ⟨hle, hall, fun _ => hbit⟩]
  · skip
    refine WP.known (t := 7) (c := false) rfl hg8 ?_
    try simp only [decide_eq_true_eq, decide_eq_false_iff_not, ne_eq, Decidable.not_not, Bool.not_eq_true', Bool.not_eq_false', Bool.and_eq_true, Bool.or_eq_true, Bool.not_not, Bool.and_eq_false_iff, Bool.or_eq_false_iff, Int.not_lt, Int.not_le] at hg8
    have hn2 : n = 256 := by omega
    refine WP.take_off rfl rfl ?_
    refine WP.take_off rfl rfl ?_
    refine WP.take_off rfl rfl ?_
    refine WP.take_off rfl rfl ?_
    refine WP.pick1 rfl ?_
    refine WL.off rfl ?_
    refine WL.nil ⟨(fun _ h => by cases h), ?_⟩
    refine WP.pick1 rfl ?_
    refine WL.off rfl ?_
    refine WL.nil ⟨(fun _ h => by cases h), ?_⟩
    refine WP.take_off rfl rfl ?_
    refine WP.take_pure rfl rfl (PV.pick_f rfl rfl rfl) ?_
    refine WP.done ?_
    refine WE.cond_f rfl ?_
    refine WE.exit ?_
    refine WE.seq_reg ?_
    refine WL.mv rfl rfl ?_
    refine WL.as rfl rfl ?_
    refine WL.nil ?_
    refine WE.ret ?_
    refine ⟨[_], _, .nil _, ⟨rfl, trivial⟩, ?_⟩
    refine ⟨?_, H.toOut0⟩
    show Value.int .i64 _ = Value.int .i64 _
    rw [(comN_is a b).uniq ⟨hle, hall, fun h => by omega⟩]

theorem bitsBit_c {X : Nat → Prop} {w : World} {k : List UInt8} {d : Nat} (hX : ∀ b, X b → b < w.heap.size) (hk : k.length = 32) (hd : d < 256) :
    Ret Try.prog 34 [.agg (kc k).toArray, .int .i64 (d : Int)].toArray w fun v w' => v = .int .i64 (bitN k d : Int) ∧ Out Nil w w' := by
  refine Ret.of_body (N := 21) Try.func34 rfl rfl (by simp) ?_
  have H := St.begin hX
  have hx := (k.getD (d / 8) 0).toNat_lt
  have hb2 := bitN_lt k d
  refine WE.seq_reg ?_
  refine WL.box (l := kc k) H rfl (by rfl) rfl ?_
  intro b2 w1 H
  refine WL.as rfl rfl ?_
  refine WL.nil ?_
  refine WE.seq ?_
  refine WE.seq_reg ?_
  refine WL.mv rfl rfl ?_
  refine WL.pv (PV.lss rfl rfl rfl) rfl ?_
  refine WL.mv rfl rfl ?_
  refine WL.known (t := 7) (c := false) rfl (by (simp; done)) ?_
  refine WL.mv rfl rfl ?_
  refine WL.pv (PV.geq rfl rfl rfl) rfl ?_
  refine WL.pv (PV.pick_f rfl rfl rfl) rfl ?_
  refine WL.nil ?_
  refine WE.cond_f' rfl (by (simp; omega)) ?_
  refine WE.skip ?_
  refine WE.seq_reg ?_
  refine WL.mv rfl rfl ?_
  refine WL.pv (PV.eq (v' := .int .i64 ((d / 8 : Nat) : Int)) (PV.quo64 rfl rfl rfl (by omega) (by omega) (by omega)) (by rfl)) rfl ?_
  refine WL.pv (PV.indexArr rfl TryT.ar24 TryT.sz5 rfl rfl (by omega) (by omega)) rfl ?_
  refine WL.load1 rfl TryT.ag5 rfl rfl (Blk.bytD (H.l 0 rfl) (d / 8) (by omega) (by omega)) ?_
  refine WL.mv rfl rfl ?_
  refine WL.pv (PV.eq (v' := .int .i64 ((d % 8 : Nat) : Int)) (PV.rem64 rfl rfl rfl (by omega) (by omega)) (by rfl)) rfl ?_
  refine WL.pv (PV.eq (v' := .int .i64 ((7 - d % 8 : Nat) : Int)) (PV.sub64 rfl rfl rfl (by omega) (by omega)) (by (congr 1; omega))) rfl ?_
  refine WL.pv (PV.eq (v' := .int .u8 (((k.getD (d / 8) 0).toNat / 2 ^ (7 - d % 8) : Nat) : Int)) (PV.shrN rfl rfl rfl (by show _ < 8; omega)) rfl) rfl ?_
  refine WL.pv (PV.eq (v' := .int .u8 ((bitN k d : Nat) : Int)) (PV.andw rfl rfl rfl) (congrArg (Value.int .u8) (and1 (Nat.lt_of_le_of_lt (Nat.div_le_self _ _) hx)))) rfl ?_
  refine WL.pv (PV.conv64 rfl TryT.in5 TryT.in3 rfl (by omega) (by omega)) rfl ?_
  refine WL.as rfl rfl ?_
  refine WL.nil ?_
  refine WE.ret ?_
  refine ⟨[_], _, .nil _, ⟨rfl, trivial⟩, ?_⟩
  exact ⟨rfl, H.toOut0⟩

theorem bytesCompare_c {X : Nat → Prop} {w : World} {a b : Value} {la lb : List UInt8} (hX : ∀ b, X b → b < w.heap.size) (hf0 : Rob X (SlB a la) w) (hf1 : Rob X (SlB b lb) w) :
    Ret Try.prog 39 [a, b].toArray w fun v w' => v = .int .i64 (Lib.compareBytes la lb) ∧ Out Nil w w' := by
  refine Ret.of_body (N := 8) Try.func39 rfl rfl (by simp) ?_
  have H := St.begin hX
  replace H := H.add (rob0 hf1)
  replace H := H.add (rob0 hf0)
  refine WE.seq_reg ?_
  refine WL.as rfl rfl ?_
  refine WL.nil ?_
  refine WE.seq_reg ?_
  refine WL.mv rfl rfl ?_
  refine WL.mv rfl rfl ?_
  refine WL.extern (e := Extern.BytealgCompare.compare) (v := .int .i64 (Lib.compareBytes la lb)) Try.func44 (by kernel_rfl) (by kernel_rfl) (by kernel_rfl) (by kernel_rfl) rfl (run_compareB (H.p 0 rfl) (H.p 1 rfl)) ?_
  refine WL.as rfl rfl ?_
  refine WL.nil ?_
  refine WE.ret ?_
  refine ⟨[_], _, .nil _, ⟨rfl, trivial⟩, ?_⟩
  exact ⟨rfl, H.toOut0⟩

theorem bitsCompare_c {X : Nat → Prop} {w : World} {k l : List UInt8} (hX : ∀ b, X b → b < w.heap.size) (hk : k.length = 32) (hl : l.length = 32) :
    Ret Try.prog 30 [.agg (kc k).toArray, .agg (kc l).toArray].toArray w fun v w' => v = .int .i64 (cmpI k l) ∧ Out Nil w w' := by
  refine Ret.of_body (N := 8) Try.func30 rfl rfl (by simp) ?_
  have H := St.begin hX
  refine WE.seq_reg ?_
  refine WL.box (l := kc k) H rfl (by rfl) rfl ?_
  intro b2 w1 H
  refine WL.box (l := kc l) H rfl (by rfl) rfl ?_
  intro b3 w2 H
  refine WL.as rfl rfl ?_
  refine WL.nil ?_
  refine WE.seq_draw (.take 0 (.take 1 (.pick1 2 (.take 3 .done)))) TryT.mixed (by kernel_rfl) ?_
  replace H := H.out (Out.drew _)
  replace H := H.freeze (i := 0) rfl
  replace H := H.freeze (i := 0) rfl
  replace H := H.sel [1, 0]
  refine WP.take_pure rfl rfl (PV.sliceArr rfl TryT.ar24 (by rw [TryT.sz5]; rfl) rfl) ?_
  refine WP.take_pure rfl rfl (PV.sliceArr rfl TryT.ar24 (by rw [TryT.sz5]; rfl) rfl) ?_
  refine WP.pick1 rfl ?_
  refine WL.call TryT.fb39 rfl (bytesCompare_c (la := k) (lb := l) H.yylt ((H.rob 1 rfl).imp fun _ h => SlB.of_blk h hk) ((H.rob 0 rfl).imp fun _ h => SlB.of_blk h hl)) ?_
  rintro _ w3 ⟨rfl, hO⟩
  replace H := H.out hO
  rw [compareBytes_num k l (by rw [hk, hl])]
  refine WL.nil ⟨(fun _ h => by cases h), ?_⟩
  refine WP.as rfl rfl rfl ?_
  refine WP.done ?_
  refine WE.ret ?_
  refine ⟨[_], _, .nil _, ⟨rfl, trivial⟩, ?_⟩
  exact ⟨rfl, H.toOut0⟩

theorem EqK_c {X : Nat → Prop} {w : World} {s1 s2 : Value} {ks : List (List UInt8)} (hX : ∀ b, X b → b < w.heap.size) (hf0 : Rob X (SlK s1 ks) w) (hf1 : Rob X (SlK s2 ks) w) (hkl : K32 ks) (hlen : ks.length ≤ 1000000) :
    Ret Try.prog 25 [s1, s2].toArray w fun v w' => v = .bool true ∧ Out Nil w w' := by
  refine Ret.of_body (N := 26) Try.func25 rfl rfl (by simp) ?_
  have H := St.begin hX
  replace H := H.add (rob0 hf1)
  replace H := H.add (rob0 hf0)
  refine WE.seq_reg ?_
  refine WL.as rfl rfl ?_
  refine WL.nil ?_
  refine WE.seq ?_
  refine WE.seq_reg ?_
  refine WL.mv rfl rfl ?_
  refine WL.pv (PV.lenS (by exact (H.p 0 rfl : SlK s1 ks _)) TryT.sl38 rfl) rfl ?_
  refine WL.mv rfl rfl ?_
  refine WL.pv (PV.lenS (by exact (H.p 1 rfl : SlK s2 ks _)) TryT.sl38 rfl) rfl ?_
  refine WL.pv (PV.neq rfl rfl rfl) rfl ?_
  refine WL.nil ?_
  refine WE.cond_f' rfl (by simp) ?_
  refine WE.skip ?_
  refine WE.seq ?_
  refine WE.seq_reg ?_
  refine WL.mv rfl rfl ?_
  refine WL.pv (PV.lenS (by exact (H.p 0 rfl : SlK s1 ks _)) TryT.sl38 rfl) rfl ?_
  refine WL.mv rfl rfl ?_
  refine WL.nil ?_
  refine WE.block ?_
  refine WE.loop (α := Nat) [4, 5, 13, 14, 15, 16, 17, 18, 19, 20, 21, 22, 23, 24, 25] (fun i => [(13, .int .i64 i)]) (fun i wl => i ≤ ks.length ∧ St X w wl [] [] [SlK s1 ks, SlK s2 ks]) (fun i => ks.length - i) 0 ⟨rfl, trivial⟩ ⟨Nat.zero_le _, H⟩ ?_
  intro i γ0 w1 hI
  try dsimp only at hI
  obtain ⟨hi, H⟩ := hI
  refine WE.seq_reg ?_
  refine WL.pv (PV.lss rfl rfl rfl) rfl ?_
  refine WL.nil ?_
  refine WE.seq ?_
  refine WE.cond rfl (fun hc14 => ?_) (fun hc14 => ?_)
  · skip
    try simp only [decide_eq_true_eq, decide_eq_false_iff_not, ne_eq, Decidable.not_not, Bool.not_eq_true', Bool.not_eq_false', Bool.and_eq_true, Bool.or_eq_true, Bool.not_not, Bool.and_eq_false_iff, Bool.or_eq_false_iff, Int.not_lt, Int.not_le] at hc14
    have hlt : i < ks.length := by omega
    have hke := hkl _ (List.getElem_mem hlt)
    refine WE.skip ?_
    refine WE.seq ?_
    refine WE.block ?_
    refine WE.seq_reg ?_
    refine WL.mv rfl rfl ?_
    refine WL.as rfl rfl ?_
    refine WL.nil ?_
    refine WE.seq_draw (.take 0 (.take 1 (.take 2 (.take 3 (.take 4 (.take 5 (.take 6 (.take 7 (.take 8 .done))))))))) TryT.mixed (by kernel_rfl) ?_
    replace H := H.out (Out.drew _)
    refine WP.mv rfl rfl rfl ?_
    refine WP.mv rfl rfl rfl ?_
    refine WP.take_pure rfl rfl (PV.idxS rfl (by exact (H.p 0 rfl : SlK s1 ks _)) TryT.sl38 TryT.sz24 rfl rfl (by omega) (by omega)) ?_
    refine WP.readA rfl rfl rfl TryT.ag24 rfl (SlK.rd (by exact (H.p 0 rfl : SlK s1 ks _)) hkl i hlt) (by (rw [TryT.sz24]; refine congrArg some ?_; (simp only [kc_length, kw_length, List.length_replicate, List.length_append, List.length_cons, List.length_nil]; omega))) ?_
    refine WP.mv rfl rfl rfl ?_
    refine WP.mv rfl rfl rfl ?_
    refine WP.take_pure rfl rfl (PV.idxS rfl (by exact (H.p 1 rfl : SlK s2 ks _)) TryT.sl38 TryT.sz24 rfl rfl (by omega) (by omega)) ?_
    refine WP.readA rfl rfl rfl TryT.ag24 rfl (SlK.rd (by exact (H.p 1 rfl : SlK s2 ks _)) hkl i hlt) (by (rw [TryT.sz24]; refine congrArg some ?_; (simp only [kc_length, kw_length, List.length_replicate, List.length_append, List.length_cons, List.length_nil]; omega))) ?_
    refine WP.take_pure rfl rfl (PV.neqB rfl TryT.ar24 TryT.in5 TryT.sz5 (by kernel_rfl) rfl rfl (by assumption) (by assumption)) ?_
    refine WP.done ?_
    refine WE.cond_f' rfl (by simp) ?_
    refine WE.skip ?_
    refine WE.reg ?_
    refine WL.pv (PV.add64 rfl rfl rfl (by omega) (by omega)) rfl ?_
    refine WL.mv rfl rfl ?_
    refine WL.nil ?_
    exact ⟨i + 1, (by repeat (first | with_reducible exact Off.refl _ _ | refine Off.upd rfl ?_ | refine Off.setAll rfl ?_ | refine Off.forget' rfl ?_)), ⟨rfl, trivial⟩, rfl, ⟨by omega, H⟩, (by omega)⟩
  · skip
    try simp only [decide_eq_true_eq, decide_eq_false_iff_not, ne_eq, Decidable.not_not, Bool.not_eq_true', Bool.not_eq_false', Bool.and_eq_true, Bool.or_eq_true, Bool.not_not, Bool.and_eq_false_iff, Bool.or_eq_false_iff, Int.not_lt, Int.not_le] at hc14
    refine WE.exit ?_
    refine WE.seq_reg ?_
    refine WL.as rfl rfl ?_
    refine WL.nil ?_
    refine WE.ret ?_
    refine ⟨[_], _, .nil _, ⟨rfl, trivial⟩, ?_⟩
    refine ⟨?_, H.toOut0⟩
    rfl


def chkK : List (List UInt8) → Int
  | a :: b :: r => if cmpI a b = 0 then 9 else if 0 < cmpI a b then 8 else chkK (b :: r)
  | _ => 0
theorem chkK_step {l : List (List UInt8)} {i : Nat} (h : i + 1 < l.length) : chkK (l.drop i) = if cmpI l[i] l[i + 1] = 0 then 9 else if 0 < cmpI l[i] l[i + 1] then 8 else chkK (l.drop (i + 1)) := by
  rw [List.drop_eq_getElem_cons (by omega : i < l.length), List.drop_eq_getElem_cons h]
  rfl
theorem chkK_end {l : List (List UInt8)} {i : Nat} (h : l.length ≤ i + 1) : chkK (l.drop i) = 0 := by
  rcases Nat.lt_or_ge i l.length with hl | hl
  · rw [List.drop_eq_getElem_cons hl, List.drop_eq_nil_of_le (by omega)]; rfl
  · rw [List.drop_eq_nil_of_le hl]; rfl

theorem Check_c {X : Nat → Prop} {w : World} {s : Value} {ks : List (List UInt8)} (hX : ∀ b, X b → b < w.heap.size) (hf0 : Rob X (SlK s ks) w) (hkl : K32 ks) (hlen : ks.length ≤ 1000000) :
    Ret Try.prog 17 [s].toArray w fun v w' => v = .int .i64 (chkK ks) ∧ Out Nil w w' := by
  refine Ret.of_body (N := 27) Try.func17 rfl rfl (by simp) ?_
  have H := St.begin hX
  replace H := H.add (rob0 hf0)
  refine WE.seq_reg ?_
  refine WL.as rfl rfl ?_
  refine WL.nil ?_
  refine WE.seq ?_
  refine WE.seq_reg ?_
  refine WL.as rfl rfl ?_
  refine WL.nil ?_
  refine WE.block ?_
  refine WE.loop (α := Nat) [2, 3, 4, 5, 6, 7, 8, 9, 10, 11, 12, 13, 14, 15, 16, 17, 18, 19, 20, 21, 22, 23, 24, 25, 26] (fun i => [(3, .int .i64 ((i + 1 : Nat) : Int))]) (fun i wl => i ≤ ks.length ∧ chkK (ks.drop i) = chkK ks ∧ St X w wl [] [] [SlK s ks]) (fun i => ks.length - i) 0 ⟨rfl, trivial⟩ ⟨Nat.zero_le _, rfl, H⟩ ?_
  intro i γ0 w1 hI
  try dsimp only at hI
  obtain ⟨hi, hch, H⟩ := hI
  refine WE.seq ?_
  refine WE.seq_reg ?_
  refine WL.mv rfl rfl ?_
  refine WL.mv rfl rfl ?_
  refine WL.pv (PV.lenS (H.p 0 rfl : SlK s ks _) TryT.sl38 rfl) rfl ?_
  refine WL.pv (PV.lss rfl rfl rfl) rfl ?_
  refine WL.nil ?_
  refine WE.cond rfl (fun hc8 => ?_) (fun hc8 => ?_)
  · skip
    try simp only [decide_eq_true_eq, decide_eq_false_iff_not, ne_eq, Decidable.not_not, Bool.not_eq_true', Bool.not_eq_false', Bool.and_eq_true, Bool.or_eq_true, Bool.not_not, Bool.and_eq_false_iff, Bool.or_eq_false_iff, Int.not_lt, Int.not_le] at hc8
    have hlt : i + 1 < ks.length := by omega
    have hk1 := hkl _ (List.getElem_mem (show i < ks.length by omega))
    have hk2 := hkl _ (List.getElem_mem hlt)
    have hst := chkK_step hlt
    refine WE.skip ?_
    refine WE.seq ?_
    refine WE.block ?_
    refine WE.seq_draw (.take 0 (.take 1 (.take 2 (.take 3 (.take 4 (.take 5 (.take 6 (.take 7 (.take 8 (.pick1 9 (.take 10 .done))))))))))) TryT.mixed (by kernel_rfl) ?_
    replace H := H.out (Out.drew _)
    refine WP.mv rfl rfl rfl ?_
    refine WP.mv rfl rfl rfl ?_
    refine WP.take_pure rfl rfl (PV.eq (v' := .int .i64 ((i : Nat) : Int)) (PV.sub64 rfl rfl rfl (by omega) (by omega)) (by congr 1; omega)) ?_
    refine WP.take_pure rfl rfl (PV.idxS rfl (H.p 0 rfl : SlK s ks _) TryT.sl38 TryT.sz24 rfl rfl (by omega) (by omega)) ?_
    refine WP.readA rfl rfl rfl TryT.ag24 rfl (SlK.rd (H.p 0 rfl : SlK s ks _) hkl i (by omega)) (by (rw [TryT.sz24]; refine congrArg some ?_; (simp only [kc_length, kw_length, List.length_replicate, List.length_append, List.length_cons, List.length_nil]; omega))) ?_
    refine WP.mv rfl rfl rfl ?_
    refine WP.mv rfl rfl rfl ?_
    refine WP.take_pure rfl rfl (PV.idxS rfl (H.p 0 rfl : SlK s ks _) TryT.sl38 TryT.sz24 rfl rfl (by omega) (by omega)) ?_
    refine WP.readA rfl rfl rfl TryT.ag24 rfl (SlK.rd (H.p 0 rfl : SlK s ks _) hkl (i + 1) (by omega)) (by (rw [TryT.sz24]; refine congrArg some ?_; (simp only [kc_length, kw_length, List.length_replicate, List.length_append, List.length_cons, List.length_nil]; omega))) ?_
    refine WP.pick1 rfl ?_
    refine WL.call TryT.fb30 rfl (bitsCompare_c (k := ks[i]) (l := ks[i + 1]) H.yylt  hk1 hk2) ?_
    rintro _ w2 ⟨rfl, hO⟩
    replace H := H.out hO
    refine WL.nil ⟨(List.forall_mem_cons.2 ⟨(by exact (fun h => absurd (show waits _ 9 8 = false from h) (by decide +kernel))), (List.forall_mem_cons.2 ⟨(by exact (fun h => absurd (show waits _ 9 4 = false from h) (by decide +kernel))), (fun _ h => by cases h)⟩)⟩), ?_⟩
    refine WP.as rfl rfl rfl ?_
    refine WP.done ?_
    refine WE.block ?_
    refine WE.seq_reg ?_
    refine WL.mv rfl rfl ?_
    refine WL.pv (PV.eql rfl rfl rfl) rfl ?_
    refine WL.as rfl rfl ?_
    refine WL.nil ?_
    refine WE.cond rfl (fun hc21 => ?_) (fun hc21 => ?_)
    · skip
      try simp only [decide_eq_true_eq, decide_eq_false_iff_not, ne_eq, Decidable.not_not, Bool.not_eq_true', Bool.not_eq_false', Bool.and_eq_true, Bool.or_eq_true, Bool.not_not, Bool.and_eq_false_iff, Bool.or_eq_false_iff, Int.not_lt, Int.not_le] at hc21
      have hz0 : cmpI ks[i] ks[i + 1] = 0 := by exact hc21
      refine WE.seq_reg ?_
      refine WL.as rfl rfl ?_
      refine WL.nil ?_
      refine WE.ret ?_
      refine ⟨[_], _, .nil _, ⟨rfl, trivial⟩, ?_⟩
      refine ⟨?_, H.toOut0⟩
      rw [← hch, hst, if_pos hz0]; rfl
    · skip
      try simp only [decide_eq_true_eq, decide_eq_false_iff_not, ne_eq, Decidable.not_not, Bool.not_eq_true', Bool.not_eq_false', Bool.and_eq_true, Bool.or_eq_true, Bool.not_not, Bool.and_eq_false_iff, Bool.or_eq_false_iff, Int.not_lt, Int.not_le] at hc21
      have hn0 : ¬ cmpI ks[i] ks[i + 1] = 0 := by exact hc21
      refine WE.seq_reg ?_
      refine WL.mv rfl rfl ?_
      refine WL.pv (PV.gtr rfl rfl rfl) rfl ?_
      refine WL.as rfl rfl ?_
      refine WL.nil ?_
      refine WE.cond rfl (fun hc24 => ?_) (fun hc24 => ?_)
      · skip
        try simp only [decide_eq_true_eq, decide_eq_false_iff_not, ne_eq, Decidable.not_not, Bool.not_eq_true', Bool.not_eq_false', Bool.and_eq_true, Bool.or_eq_true, Bool.not_not, Bool.and_eq_false_iff, Bool.or_eq_false_iff, Int.not_lt, Int.not_le] at hc24
        have hp1 : 0 < cmpI ks[i] ks[i + 1] := by exact hc24
        refine WE.seq_reg ?_
        refine WL.as rfl rfl ?_
        refine WL.nil ?_
        refine WE.ret ?_
        refine ⟨[_], _, .nil _, ⟨rfl, trivial⟩, ?_⟩
        refine ⟨?_, H.toOut0⟩
        (rw [← hch, hst, if_neg hn0, if_pos hp1]; rfl)
      · skip
        try simp only [decide_eq_true_eq, decide_eq_false_iff_not, ne_eq, Decidable.not_not, Bool.not_eq_true', Bool.not_eq_false', Bool.and_eq_true, Bool.or_eq_true, Bool.not_not, Bool.and_eq_false_iff, Bool.or_eq_false_iff, Int.not_lt, Int.not_le] at hc24
        have hn1 : ¬ 0 < cmpI ks[i] ks[i + 1] := by (have := hc24; omega)
        refine WE.skip ?_
        refine WE.reg ?_
        refine WL.mv rfl rfl ?_
        refine WL.pv (PV.eq (v' := .int .i64 ((i + 1 + 1 : Nat) : Int)) (PV.add64 rfl rfl rfl (by omega) (by omega)) (by congr 1)) rfl ?_
        refine WL.as rfl rfl ?_
        refine WL.nil ?_
        exact ⟨i + 1, (by repeat (first | with_reducible exact Off.refl _ _ | refine Off.upd rfl ?_ | refine Off.setAll rfl ?_ | refine Off.forget' rfl ?_)), ⟨rfl, trivial⟩, rfl, ⟨by omega, by rw [← hch, hst, if_neg hn0, if_neg hn1], H⟩, (by omega)⟩
  · skip
    try simp only [decide_eq_true_eq, decide_eq_false_iff_not, ne_eq, Decidable.not_not, Bool.not_eq_true', Bool.not_eq_false', Bool.and_eq_true, Bool.or_eq_true, Bool.not_not, Bool.and_eq_false_iff, Bool.or_eq_false_iff, Int.not_lt, Int.not_le] at hc8
    have hen := chkK_end (l := ks) (i := i) (by omega)
    refine WE.exit ?_
    refine WE.seq_reg ?_
    refine WL.as rfl rfl ?_
    refine WL.nil ?_
    refine WE.ret ?_
    refine ⟨[_], _, .nil _, ⟨rfl, trivial⟩, ?_⟩
    refine ⟨?_, H.toOut0⟩
    rw [← hch, hen]; rfl

theorem refCheck_c {X : Nat → Prop} {w : World} {s : Value} {ks : List (List UInt8)} (hX : ∀ b, X b → b < w.heap.size) (hf0 : Rob X (SlK s ks) w) (hkl : K32 ks) (hlen : ks.length ≤ 1000000) :
    Ret Try.prog 18 [s].toArray w fun v w' => v = .int .i64 (chkK ks) ∧ Out Nil w w' := by
  refine Ret.of_body (N := 25) Try.func18 rfl rfl (by simp) ?_
  have H := St.begin hX
  replace H := H.add (rob0 hf0)
  refine WE.seq_reg ?_
  refine WL.as rfl rfl ?_
  refine WL.nil ?_
  refine WE.seq ?_
  refine WE.seq_reg ?_
  refine WL.as rfl rfl ?_
  refine WL.nil ?_
  refine WE.block ?_
  refine WE.loop (α := Nat) [2, 3, 4, 5, 6, 7, 8, 9, 10, 11, 12, 13, 14, 15, 16, 17, 18, 19, 20, 21, 22, 23, 24] (fun i => [(3, .int .i64 ((i + 1 : Nat) : Int))]) (fun i wl => i ≤ ks.length ∧ chkK (ks.drop i) = chkK ks ∧ St X w wl [] [] [SlK s ks]) (fun i => ks.length - i) 0 ⟨rfl, trivial⟩ ⟨Nat.zero_le _, rfl, H⟩ ?_
  intro i γ0 w1 hI
  try dsimp only at hI
  obtain ⟨hi, hch, H⟩ := hI
  refine WE.seq ?_
  refine WE.seq_reg ?_
  refine WL.mv rfl rfl ?_
  refine WL.mv rfl rfl ?_
  refine WL.pv (PV.lenS (H.p 0 rfl : SlK s ks _) TryT.sl38 rfl) rfl ?_
  refine WL.pv (PV.lss rfl rfl rfl) rfl ?_
  refine WL.nil ?_
  refine WE.cond rfl (fun hc8 => ?_) (fun hc8 => ?_)
  · skip
    try simp only [decide_eq_true_eq, decide_eq_false_iff_not, ne_eq, Decidable.not_not, Bool.not_eq_true', Bool.not_eq_false', Bool.and_eq_true, Bool.or_eq_true, Bool.not_not, Bool.and_eq_false_iff, Bool.or_eq_false_iff, Int.not_lt, Int.not_le] at hc8
    have hlt : i + 1 < ks.length := by omega
    have hk1 := hkl _ (List.getElem_mem (show i < ks.length by omega))
    have hk2 := hkl _ (List.getElem_mem hlt)
    have hst := chkK_step hlt
    refine WE.skip ?_
    refine WE.seq ?_
    refine WE.block ?_
    refine WE.seq_draw (.take 0 (.take 1 (.take 2 (.take 3 (.take 4 (.take 5 (.take 6 (.take 7 (.take 8 (.pick1 9 (.take 10 .done))))))))))) TryT.mixed (by kernel_rfl) ?_
    replace H := H.out (Out.drew _)
    refine WP.mv rfl rfl rfl ?_
    refine WP.mv rfl rfl rfl ?_
    refine WP.take_pure rfl rfl (PV.eq (v' := .int .i64 ((i : Nat) : Int)) (PV.sub64 rfl rfl rfl (by omega) (by omega)) (by congr 1; omega)) ?_
    refine WP.take_pure rfl rfl (PV.idxS rfl (H.p 0 rfl : SlK s ks _) TryT.sl38 TryT.sz24 rfl rfl (by omega) (by omega)) ?_
    refine WP.readA rfl rfl rfl TryT.ag24 rfl (SlK.rd (H.p 0 rfl : SlK s ks _) hkl i (by omega)) (by (rw [TryT.sz24]; refine congrArg some ?_; (simp only [kc_length, kw_length, List.length_replicate, List.length_append, List.length_cons, List.length_nil]; omega))) ?_
    refine WP.mv rfl rfl rfl ?_
    refine WP.mv rfl rfl rfl ?_
    refine WP.take_pure rfl rfl (PV.idxS rfl (H.p 0 rfl : SlK s ks _) TryT.sl38 TryT.sz24 rfl rfl (by omega) (by omega)) ?_
    refine WP.readA rfl rfl rfl TryT.ag24 rfl (SlK.rd (H.p 0 rfl : SlK s ks _) hkl (i + 1) (by omega)) (by (rw [TryT.sz24]; refine congrArg some ?_; (simp only [kc_length, kw_length, List.length_replicate, List.length_append, List.length_cons, List.length_nil]; omega))) ?_
    refine WP.pick1 rfl ?_
    refine WL.call TryT.fb31 rfl (refCompare_c (k := ks[i]) (l := ks[i + 1]) H.yylt  hk1 hk2) ?_
    rintro _ w2 ⟨rfl, hO⟩
    replace H := H.out hO
    refine WL.nil ⟨(List.forall_mem_cons.2 ⟨(by exact (fun h => absurd (show waits _ 9 8 = false from h) (by decide +kernel))), (List.forall_mem_cons.2 ⟨(by exact (fun h => absurd (show waits _ 9 4 = false from h) (by decide +kernel))), (fun _ h => by cases h)⟩)⟩), ?_⟩
    refine WP.as rfl rfl rfl ?_
    refine WP.done ?_
    refine WE.seq ?_
    refine WE.seq_reg ?_
    refine WL.mv rfl rfl ?_
    refine WL.pv (PV.eql rfl rfl rfl) rfl ?_
    refine WL.nil ?_
    refine WE.cond rfl (fun hc22 => ?_) (fun hc22 => ?_)
    · skip
      try simp only [decide_eq_true_eq, decide_eq_false_iff_not, ne_eq, Decidable.not_not, Bool.not_eq_true', Bool.not_eq_false', Bool.and_eq_true, Bool.or_eq_true, Bool.not_not, Bool.and_eq_false_iff, Bool.or_eq_false_iff, Int.not_lt, Int.not_le] at hc22
      have hz0 : cmpI ks[i] ks[i + 1] = 0 := by exact hc22
      refine WE.seq_reg ?_
      refine WL.as rfl rfl ?_
      refine WL.nil ?_
      refine WE.ret ?_
      refine ⟨[_], _, .nil _, ⟨rfl, trivial⟩, ?_⟩
      refine ⟨?_, H.toOut0⟩
      rw [← hch, hst, if_pos hz0]; rfl
    · skip
      try simp only [decide_eq_true_eq, decide_eq_false_iff_not, ne_eq, Decidable.not_not, Bool.not_eq_true', Bool.not_eq_false', Bool.and_eq_true, Bool.or_eq_true, Bool.not_not, Bool.and_eq_false_iff, Bool.or_eq_false_iff, Int.not_lt, Int.not_le] at hc22
      have hn0 : ¬ cmpI ks[i] ks[i + 1] = 0 := by exact hc22
      refine WE.skip ?_
      refine WE.seq_reg ?_
      refine WL.mv rfl rfl ?_
      refine WL.pv (PV.gtr rfl rfl rfl) rfl ?_
      refine WL.nil ?_
      refine WE.cond rfl (fun hc24 => ?_) (fun hc24 => ?_)
      · skip
        try simp only [decide_eq_true_eq, decide_eq_false_iff_not, ne_eq, Decidable.not_not, Bool.not_eq_true', Bool.not_eq_false', Bool.and_eq_true, Bool.or_eq_true, Bool.not_not, Bool.and_eq_false_iff, Bool.or_eq_false_iff, Int.not_lt, Int.not_le] at hc24
        have hp1 : 0 < cmpI ks[i] ks[i + 1] := by exact hc24
        refine WE.seq_reg ?_
        refine WL.as rfl rfl ?_
        refine WL.nil ?_
        refine WE.ret ?_
        refine ⟨[_], _, .nil _, ⟨rfl, trivial⟩, ?_⟩
        refine ⟨?_, H.toOut0⟩
        (rw [← hch, hst, if_neg hn0, if_pos hp1]; rfl)
      · skip
        try simp only [decide_eq_true_eq, decide_eq_false_iff_not, ne_eq, Decidable.not_not, Bool.not_eq_true', Bool.not_eq_false', Bool.and_eq_true, Bool.or_eq_true, Bool.not_not, Bool.and_eq_false_iff, Bool.or_eq_false_iff, Int.not_lt, Int.not_le] at hc24
        have hn1 : ¬ 0 < cmpI ks[i] ks[i + 1] := by (have := hc24; omega)
        refine WE.skip ?_
        refine WE.reg ?_
        refine WL.mv rfl rfl ?_
        refine WL.pv (PV.eq (v' := .int .i64 ((i + 1 + 1 : Nat) : Int)) (PV.add64 rfl rfl rfl (by omega) (by omega)) (by congr 1)) rfl ?_
        refine WL.as rfl rfl ?_
        refine WL.nil ?_
        exact ⟨i + 1, (by repeat (first | with_reducible exact Off.refl _ _ | refine Off.upd rfl ?_ | refine Off.setAll rfl ?_ | refine Off.forget' rfl ?_)), ⟨rfl, trivial⟩, rfl, ⟨by omega, by rw [← hch, hst, if_neg hn0, if_neg hn1], H⟩, (by omega)⟩
  · skip
    try simp only [decide_eq_true_eq, decide_eq_false_iff_not, ne_eq, Decidable.not_not, Bool.not_eq_true', Bool.not_eq_false', Bool.and_eq_true, Bool.or_eq_true, Bool.not_not, Bool.and_eq_false_iff, Bool.or_eq_false_iff, Int.not_lt, Int.not_le] at hc8
    have hen := chkK_end (l := ks) (i := i) (by omega)
    refine WE.exit ?_
    refine WE.seq_reg ?_
    refine WL.as rfl rfl ?_
    refine WL.nil ?_
    refine WE.ret ?_
    refine ⟨[_], _, .nil _, ⟨rfl, trivial⟩, ?_⟩
    refine ⟨?_, H.toOut0⟩
    rw [← hch, hen]; rfl

end Go.Sp.Try
