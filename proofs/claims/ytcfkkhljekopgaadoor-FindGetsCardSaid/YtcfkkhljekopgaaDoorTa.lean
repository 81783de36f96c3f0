/- Walks of functions, printed by a program of this session (gen.py) from notes on each function. -/
import Derived.Test.YtcfkkhljekopgaaDoorDa
set_option maxRecDepth 100000
set_option maxHeartbeats 1000000
set_option linter.unusedVariables false
set_option linter.unusedSimpArgs false
namespace Go.Sp.Tryd
open Go.Proofs Go.RowKit Go.Sp

/-! keys as numbers -/
def num (k : List UInt8) : Nat := k.foldl (fun s x => s * 256 + x.toNat) 0
theorem foldl_num (k : List UInt8) : ∀ a : Nat, k.foldl (fun s x => s * 256 + x.toNat) a = a * 256 ^ k.length + num k := by
  induction k with
  | nil => intro a; simp [num]
  | cons x k ih =>
    intro a
    have e : num (x :: k) = (0 * 256 + x.toNat) * 256 ^ k.length + num k := ih _
    rw [e, List.foldl_cons, ih, List.length_cons, Nat.pow_succ]
    rw [Nat.zero_mul, Nat.zero_add, Nat.add_mul, Nat.add_assoc, Nat.mul_assoc, Nat.mul_comm 256]
theorem num_cons (x : UInt8) (k : List UInt8) : num (x :: k) = x.toNat * 256 ^ k.length + num k := by
  have h := foldl_num k (0 * 256 + x.toNat)
  rw [Nat.zero_mul, Nat.zero_add] at h
  simpa [num] using h
theorem num_append (a b : List UInt8) : num (a ++ b) = num a * 256 ^ b.length + num b := by
  show (a ++ b).foldl _ 0 = _
  rw [List.foldl_append]
  exact foldl_num b _
theorem num_lt (k : List UInt8) : num k < 256 ^ k.length := by
  induction k with
  | nil => simp [num]
  | cons x k ih =>
    rw [num_cons, List.length_cons, Nat.pow_succ]
    have hx : x.toNat + 1 ≤ 256 := by have := x.toNat_lt; omega
    calc x.toNat * 256 ^ k.length + num k < x.toNat * 256 ^ k.length + 256 ^ k.length := by omega
      _ = (x.toNat + 1) * 256 ^ k.length := by rw [Nat.add_mul, Nat.one_mul]
      _ ≤ 256 * 256 ^ k.length := Nat.mul_le_mul_right _ hx
      _ = 256 ^ k.length * 256 := Nat.mul_comm _ _
theorem num_inj : ∀ (a b : List UInt8), a.length = b.length → num a = num b → a = b := by
  intro a
  induction a with
  | nil => intro b h _; exact (List.eq_nil_of_length_eq_zero h.symm).symm
  | cons x a ih =>
    intro b h hn
    cases b with
    | nil => cases h
    | cons y b =>
      have hl : a.length = b.length := by simpa using h
      rw [num_cons, num_cons, hl] at hn
      have h1 := num_lt a
      have h2 := num_lt b
      rw [hl] at h1
      have hxy : x.toNat = y.toNat := by
        have e1 : (x.toNat * 256 ^ b.length + num a) / 256 ^ b.length = x.toNat := by
          rw [Nat.mul_comm, Nat.mul_add_div (Nat.pow_pos (by decide)), Nat.div_eq_of_lt h1, Nat.add_zero]
        have e2 : (y.toNat * 256 ^ b.length + num b) / 256 ^ b.length = y.toNat := by
          rw [Nat.mul_comm, Nat.mul_add_div (Nat.pow_pos (by decide)), Nat.div_eq_of_lt h2, Nat.add_zero]
        rw [← e1, ← e2, hn]
      rw [UInt8.toNat_inj.1 hxy, ih b hl (by rw [hxy] at hn; omega)]
theorem bit_num (k : List UInt8) (h : k.length = 32) (i : Nat) (hi : i < 256) : bitN k i = num k / 2 ^ (255 - i) % 2 := by
  have hq : i / 8 < k.length := by omega
  have e : k = k.take (i / 8) ++ k[i / 8] :: k.drop (i / 8 + 1) := by rw [← List.drop_eq_getElem_cons hq, List.take_append_drop]
  have hn : num k = (num (k.take (i / 8)) * 256 + k[i / 8].toNat) * 256 ^ (31 - i / 8) + num (k.drop (i / 8 + 1)) := by
    have hl : (k.drop (i / 8 + 1)).length = 31 - i / 8 := by simp; omega
    have := num_append (k.take (i / 8)) (k[i / 8] :: k.drop (i / 8 + 1))
    rw [← e, num_cons, List.length_cons, hl, Nat.pow_succ] at this
    rw [this, Nat.add_mul, Nat.mul_assoc, Nat.mul_comm 256, Nat.add_assoc]
  have hd := num_lt (k.drop (i / 8 + 1))
  rw [show (k.drop (i / 8 + 1)).length = 31 - i / 8 by simp; omega] at hd
  have h8 : (256 : Nat) ^ (31 - i / 8) = 2 ^ (8 * (31 - i / 8)) := by rw [show (256 : Nat) = 2 ^ 8 from rfl, ← Nat.pow_mul]
  have hdiv : num k / 2 ^ (8 * (31 - i / 8)) = num (k.take (i / 8)) * 256 + k[i / 8].toNat := by
    rw [← h8, hn, Nat.mul_comm _ (256 ^ _), Nat.mul_add_div (Nat.pow_pos (by decide)), Nat.div_eq_of_lt hd, Nat.add_zero]
  have hsplit : 255 - i = 8 * (31 - i / 8) + (7 - i % 8) := by omega
  rw [hsplit, Nat.pow_add, ← Nat.div_div_eq_div_mul, hdiv]
  have h256 : (256 : Nat) = 2 ^ (7 - i % 8) * (2 ^ (i % 8) * 2) := by
    rw [← Nat.pow_succ, ← Nat.pow_add, show 7 - i % 8 + (i % 8 + 1) = 8 by omega]
  unfold bitN
  rw [getD_at hq]
  have e3 : num (k.take (i / 8)) * 256 + k[i / 8].toNat = 2 ^ (7 - i % 8) * (num (k.take (i / 8)) * (2 ^ (i % 8) * 2)) + k[i / 8].toNat := by
    rw [← Nat.mul_assoc, Nat.mul_comm (2 ^ (7 - i % 8)), Nat.mul_assoc, ← h256]
  rw [e3, Nat.mul_add_div (Nat.pow_pos (by decide)), ← Nat.mul_assoc, Nat.mul_comm _ 2, Nat.mul_add_mod]
/-- the first d bits, as a number -/
def pre (d : Nat) (k : List UInt8) : Nat := num k / 2 ^ (256 - d)
theorem pre_zero (k : List UInt8) (h : k.length = 32) : pre 0 k = 0 := by
  unfold pre
  apply Nat.div_eq_of_lt
  have := num_lt k
  rw [h] at this
  exact this
theorem pre_full (k : List UInt8) : pre 256 k = num k := by simp [pre]
theorem pre_succ (k : List UInt8) (h : k.length = 32) (d : Nat) (hd : d < 256) : pre (d + 1) k = 2 * pre d k + bitN k d := by
  unfold pre
  rw [bit_num k h d hd, show 256 - d = (255 - d) + 1 by omega, show 256 - (d + 1) = 255 - d by omega, Nat.pow_succ, ← Nat.div_div_eq_div_mul]
  omega
/-! entries; maps -/
structure En where
  k : List UInt8
  s : Value
  v : List UInt8
def enC (e : En) : List Value := kc e.k ++ [e.s]
def KL (m : List En) : Prop := ∀ e ∈ m, e.k.length = 32
def partM (m : List En) (d b : Nat) : List En := m.filter fun e => bitN e.k d == b
/-- distinct keys that have the first d bits in common -/
structure Pm (d : Nat) (m : List En) : Prop where
  le : d ≤ 256
  kl : KL m
  dis : m.Pairwise fun a b => num a.k ≠ num b.k
  com : ∀ a ∈ m, ∀ b ∈ m, pre d a.k = pre d b.k
theorem Pm.lt {d : Nat} {m : List En} (h : Pm d m) (h2 : 2 ≤ m.length) : d < 256 := by
  rcases Nat.lt_or_ge d 256 with hlt | hge
  · exact hlt
  · have hd : d = 256 := by have := h.le; omega
    subst hd
    match m, h2 with
    | a :: b :: m, _ =>
      exfalso
      have h1 := (List.pairwise_cons.1 h.dis).1 b (by simp)
      have h3 := h.com a (by simp) b (by simp)
      rw [pre_full, pre_full] at h3
      exact h1 h3
theorem Pm.part {d : Nat} {m : List En} (h : Pm d m) (hd : d < 256) (b : Nat) : Pm (d + 1) (partM m d b) where
  le := hd
  kl := fun e he => h.kl e (List.mem_filter.1 he).1
  dis := h.dis.filter _
  com := fun x hx y hy => by
    have hx' := List.mem_filter.1 hx
    have hy' := List.mem_filter.1 hy
    rw [pre_succ _ (h.kl _ hx'.1) d hd, pre_succ _ (h.kl _ hy'.1) d hd, h.com _ hx'.1 _ hy'.1]
    have e1 : bitN x.k d = b := by simpa using hx'.2
    have e2 : bitN y.k d = b := by simpa using hy'.2
    rw [e1, e2]
theorem part_len (m : List En) (d : Nat) : (partM m d 0).length + (partM m d 1).length = m.length := by
  induction m with
  | nil => rfl
  | cons e m ih =>
    have hb := bitN_lt e.k d
    have e0 : partM (e :: m) d 0 = if (bitN e.k d == 0) = true then e :: partM m d 0 else partM m d 0 := List.filter_cons
    have e1 : partM (e :: m) d 1 = if (bitN e.k d == 1) = true then e :: partM m d 1 else partM m d 1 := List.filter_cons
    rw [e0, e1, List.length_cons]
    by_cases h : bitN e.k d = 0
    · rw [if_pos (by simp [h]), if_neg (by simp [h]), List.length_cons]; omega
    · have h1 : bitN e.k d = 1 := by omega
      rw [if_neg (by simp [h1]), if_pos (by simp [h1]), List.length_cons]; omega
theorem Pm.zero {m : List En} (hk : KL m) (hd : m.Pairwise fun a b => num a.k ≠ num b.k) : Pm 0 m := ⟨by omega, hk, hd, fun a ha b hb => by rw [pre_zero _ (hk a ha), pre_zero _ (hk b hb)]⟩
/-! shapes of trees -/
inductive Sh where
  | nil
  | leaf (k v : List UInt8)
  | inner (l r : Sh)
def Sh.cnt : Sh → Nat
  | .nil => 0
  | .leaf _ _ => 1
  | .inner l r => l.cnt + r.cnt
def Sh.kind : Sh → Int
  | .nil => 0
  | .leaf _ _ => 1
  | .inner _ _ => 2
def valD (bits : Int) (v : List UInt8) : List UInt8 := cutI (shaOf (2 :: v)) bits
def leafD (bits : Int) (k v : List UInt8) : List UInt8 := cutI (shaOf (0 :: (k ++ valD bits v))) bits
def nodeD (bits : Int) (a b : List UInt8) : List UInt8 := cutI (shaOf (1 :: (a ++ b))) bits
def emptyD (bits : Int) : List UInt8 := cutI (shaOf [3]) bits
def Sh.dig (bits : Int) : Sh → List UInt8
  | .nil => emptyD bits
  | .leaf k v => leafD bits k v
  | .inner l r => nodeD bits (l.dig bits) (r.dig bits)
theorem dig_length (bits : Int) (s : Sh) : (s.dig bits).length = 32 := by cases s <;> exact cutI_length _ _
def joinS : Sh → Sh → Sh
  | .nil, .inner l r => .inner .nil (.inner l r)
  | .nil, s => s
  | .inner l r, .nil => .inner (.inner l r) .nil
  | s, .nil => s
  | s, t => .inner s t
/-- the tree of a map whose keys have the first d bits in common; n: how many bits are left -/
def growS : Nat → Nat → List En → Sh
  | _, _, [] => .nil
  | _, _, [e] => .leaf e.k e.v
  | 0, _, e :: _ => .leaf e.k e.v
  | n + 1, d, m => .inner (growS n (d + 1) (partM m d 0)) (growS n (d + 1) (partM m d 1))
def grow (d : Nat) (m : List En) : Sh := growS (256 - d) d m
theorem grow_nil (d : Nat) : grow d [] = .nil := by unfold grow; cases 256 - d <;> rfl
theorem grow_one (d : Nat) (e : En) : grow d [e] = .leaf e.k e.v := by unfold grow; cases 256 - d <;> rfl
theorem grow_many (d : Nat) (m : List En) (hd : d < 256) (h : 2 ≤ m.length) : grow d m = .inner (grow (d + 1) (partM m d 0)) (grow (d + 1) (partM m d 1)) := by
  unfold grow
  rw [show 256 - d = (256 - (d + 1)) + 1 by omega]
  match m, h with
  | a :: b :: m, _ => rfl
theorem grow_ind {P : Nat → List En → Sh → Prop} (h0 : ∀ d, P d [] .nil) (h1 : ∀ d e, P d [e] (.leaf e.k e.v))
    (h2 : ∀ d m, Pm d m → d < 256 → 2 ≤ m.length → P (d + 1) (partM m d 0) (grow (d + 1) (partM m d 0)) → P (d + 1) (partM m d 1) (grow (d + 1) (partM m d 1)) → P d m (.inner (grow (d + 1) (partM m d 0)) (grow (d + 1) (partM m d 1)))) :
    ∀ (n d : Nat) (m : List En), 256 - d = n → Pm d m → P d m (grow d m) := by
  intro n
  induction n with
  | zero =>
    intro d m hn hp
    match m, hp with
    | [], _ => rw [grow_nil]; exact h0 d
    | [e], _ => rw [grow_one]; exact h1 d e
    | a :: b :: m, hp => have := hp.lt (by simp); omega
  | succ n ih =>
    intro d m hn hp
    match m, hp with
    | [], _ => rw [grow_nil]; exact h0 d
    | [e], _ => rw [grow_one]; exact h1 d e
    | a :: b :: m, hp =>
      have hd := hp.lt (by simp)
      rw [grow_many d _ hd (by simp)]
      exact h2 d _ hp hd (by simp) (ih _ _ (by omega) (hp.part hd 0)) (ih _ _ (by omega) (hp.part hd 1))
theorem grow_cnt {d : Nat} {m : List En} (h : Pm d m) : (grow d m).cnt = m.length :=
  grow_ind (P := fun _ m s => s.cnt = m.length) (fun _ => rfl) (fun _ _ => rfl) (fun d m _ _ _ h0 h1 => by
    show (grow _ _).cnt + (grow _ _).cnt = _
    rw [h0, h1, part_len]) _ d m rfl h
theorem joinS_inner {l r : Sh} (h : 2 ≤ l.cnt + r.cnt) : joinS l r = .inner l r := by
  cases l <;> cases r <;> first | rfl | (simp [Sh.cnt] at h; done)
  all_goals (simp [Sh.cnt] at h)
/-! the root of a map -/
def rootS (bits : Int) : Nat → Nat → List En → List UInt8
  | _, _, [] => emptyD bits
  | _, _, [e] => leafD bits e.k e.v
  | 0, _, e :: _ => leafD bits e.k e.v
  | n + 1, d, m => nodeD bits (rootS bits n (d + 1) (partM m d 0)) (rootS bits n (d + 1) (partM m d 1))
theorem rootS_dig (bits : Int) : ∀ (n d : Nat) (m : List En), rootS bits n d m = (growS n d m).dig bits := by
  intro n
  induction n with
  | zero =>
    intro d m
    match m with
    | [] => rfl
    | [e] => rfl
    | a :: b :: m => rfl
  | succ n ih =>
    intro d m
    match m with
    | [] => rfl
    | [e] => rfl
    | a :: b :: m =>
      show nodeD bits _ _ = nodeD bits _ _
      rw [ih, ih]
def rootM (bits : Int) (d : Nat) (m : List En) : List UInt8 := (grow d m).dig bits


theorem num_lt_of {a b : List UInt8} (hl : a.length = b.length) (i : Nat) (hi : i < a.length) (hp : a.take i = b.take i) (h : a[i].toNat < (b[i]'(by omega)).toNat) : num a < num b := by
  have hib : i < b.length := by omega
  have ea : a = a.take i ++ a[i] :: a.drop (i + 1) := by rw [← List.drop_eq_getElem_cons hi, List.take_append_drop]
  have eb : b = a.take i ++ b[i] :: b.drop (i + 1) := by rw [hp, ← List.drop_eq_getElem_cons hib, List.take_append_drop]
  have h1 := num_append (a.take i) (a[i] :: a.drop (i + 1))
  have h2 := num_append (a.take i) (b[i] :: b.drop (i + 1))
  rw [← ea, num_cons] at h1
  rw [← eb, num_cons] at h2
  have hla : (a.drop (i + 1)).length = (b.drop (i + 1)).length := by simp; omega
  have h3 := num_lt (a.drop (i + 1))
  rw [List.length_cons] at h1 h2
  rw [hla] at h1 h3
  rw [h1, h2]
  have h4 : (a[i].toNat + 1) * 256 ^ (b.drop (i + 1)).length ≤ b[i].toNat * 256 ^ (b.drop (i + 1)).length := Nat.mul_le_mul_right _ h
  rw [Nat.add_mul, Nat.one_mul] at h4
  omega
def cmpI (a b : List UInt8) : Int := if num a < num b then -1 else if num b < num a then 1 else 0
theorem cmpI_neg {a b : List UInt8} : cmpI a b < 0 ↔ num a < num b := by
  unfold cmpI
  by_cases h : num a < num b
  · simp [h]
  · rw [if_neg h]
    by_cases h2 : num b < num a <;> simp [h, h2]
/-! maps that entries lead to -/
def rmM (m : List En) (k : List UInt8) : List En := m.filter fun x => decide (x.k ≠ k)
def ins (e : En) : List En → List En
  | [] => [e]
  | x :: r => if num e.k < num x.k then e :: x :: r else x :: ins e r
def putM (m : List En) (e : En) : List En := ins e (rmM m e.k)
def ofM (l : List En) : List En := l.foldl putM []
def Srt (m : List En) : Prop := m.Pairwise fun a b => num a.k < num b.k
def putF (e : En) (p : List En × Bool) (x : En) : List En × Bool := if p.2 = false ∧ num e.k < num x.k then (p.1 ++ [e, x], true) else (p.1 ++ [x], p.2)
theorem putF_true (e : En) : ∀ (l out : List En), l.foldl (putF e) (out, true) = (out ++ l, true) := by
  intro l
  induction l with
  | nil => intro out; simp
  | cons x l ih =>
    intro out
    rw [List.foldl_cons]
    have : putF e (out, true) x = (out ++ [x], true) := by simp [putF]
    rw [this, ih]; simp
theorem putF_ins (e : En) : ∀ (l out : List En), cond (l.foldl (putF e) (out, false)).2 (l.foldl (putF e) (out, false)).1 ((l.foldl (putF e) (out, false)).1 ++ [e]) = out ++ ins e l := by
  intro l
  induction l with
  | nil => intro out; simp [ins]
  | cons x l ih =>
    intro out
    rw [List.foldl_cons]
    by_cases h : num e.k < num x.k
    · have : putF e (out, false) x = (out ++ [e, x], true) := by simp [putF, h]
      rw [this, putF_true]
      simp [ins, h]
    · have : putF e (out, false) x = (out ++ [x], false) := by simp [putF, h]
      rw [this, ih]
      simp [ins, h]
theorem mem_ins {e x : En} {l : List En} : x ∈ ins e l ↔ x = e ∨ x ∈ l := by
  induction l with
  | nil => simp [ins]
  | cons y l ih =>
    unfold ins
    split
    · simp
    · simp [ih]; constructor
      · rintro (h | h | h) <;> simp [h]
      · rintro (h | h | h) <;> simp [h]
theorem ins_srt {e : En} {l : List En} (h : Srt l) (hn : ∀ x ∈ l, num x.k ≠ num e.k) : Srt (ins e l) := by
  induction l with
  | nil => simp [ins, Srt]
  | cons y l ih =>
    have h1 := List.pairwise_cons.1 h
    unfold ins
    split
    · rename_i hlt
      refine List.pairwise_cons.2 ⟨fun x hx => ?_, h⟩
      cases List.mem_cons.1 hx with
      | inl e => rw [e]; exact hlt
      | inr hx => exact Nat.lt_trans hlt (h1.1 x hx)
    · rename_i hnl
      refine List.pairwise_cons.2 ⟨fun x hx => ?_, ih h1.2 fun x hx => hn x (List.mem_cons_of_mem _ hx)⟩
      rcases mem_ins.1 hx with rfl | hx
      · have := hn y (by simp); omega
      · exact h1.1 x hx
theorem mem_rmM {m : List En} {k : List UInt8} {x : En} : x ∈ rmM m k ↔ x ∈ m ∧ x.k ≠ k := by simp [rmM]
theorem putM_srt {m : List En} {e : En} (h : Srt m) (hk : KL m) (he : e.k.length = 32) : Srt (putM m e) :=
  ins_srt (h.filter _) fun x hx hn => (mem_rmM.1 hx).2 (num_inj _ _ (by rw [hk x (mem_rmM.1 hx).1, he]) hn)
theorem mem_putM {m : List En} {e x : En} : x ∈ putM m e ↔ x = e ∨ (x ∈ m ∧ x.k ≠ e.k) := by
  unfold putM; rw [mem_ins, mem_rmM]
theorem putM_kl {m : List En} {e : En} (hk : KL m) (he : e.k.length = 32) : KL (putM m e) := fun x hx => by
  rcases mem_putM.1 hx with rfl | hx
  · exact he
  · exact hk x hx.1
theorem ins_len (e : En) (l : List En) : (ins e l).length = l.length + 1 := by
  induction l with
  | nil => rfl
  | cons y l ih => unfold ins; split <;> simp [ih]
theorem putM_len (m : List En) (e : En) : (putM m e).length ≤ m.length + 1 := by
  unfold putM
  rw [ins_len]
  have : (rmM m e.k).length ≤ m.length := List.length_filter_le _ _
  omega
theorem ofM_snoc (l : List En) (e : En) : ofM (l ++ [e]) = putM (ofM l) e := by simp [ofM]
theorem ofM_ok (l : List En) (hk : KL l) : Srt (ofM l) ∧ KL (ofM l) ∧ (ofM l).length ≤ l.length ∧ ∀ e ∈ ofM l, e ∈ l := by
  suffices h : ∀ (l m : List En) (n : Nat) (S : List En), KL l → Srt m → KL m → m.length ≤ n → (∀ e ∈ m, e ∈ S) → (∀ e ∈ l, e ∈ S) →
      Srt (l.foldl putM m) ∧ KL (l.foldl putM m) ∧ (l.foldl putM m).length ≤ n + l.length ∧ ∀ e ∈ l.foldl putM m, e ∈ S by
    have := h l [] 0 l hk List.Pairwise.nil (fun _ h => by cases h) (by simp) (fun _ h => by cases h) (fun _ h => h)
    simpa [ofM] using this
  intro l
  induction l with
  | nil => intro m n S _ h1 h2 h3 h4 _; exact ⟨h1, h2, by simpa using h3, h4⟩
  | cons e l ih =>
    intro m n S hk h1 h2 h3 h4 h5
    have he := hk e (by simp)
    have := ih (putM m e) (n + 1) S (fun x hx => hk x (List.mem_cons_of_mem _ hx)) (putM_srt h1 h2 he) (putM_kl h2 he) (by have := putM_len m e; omega)
      (fun x hx => by
        rcases mem_putM.1 hx with rfl | hx
        · exact h5 x (by simp)
        · exact h4 x hx.1) (fun x hx => h5 x (List.mem_cons_of_mem _ hx))
    simp only [List.foldl_cons, List.length_cons]
    exact ⟨this.1, this.2.1, by omega, this.2.2.2⟩
theorem Srt.dis {m : List En} (h : Srt m) : m.Pairwise fun a b => num a.k ≠ num b.k := h.imp fun h => Nat.ne_of_lt h
theorem ofM_pm (l : List En) (hk : KL l) : Pm 0 (ofM l) := Pm.zero (ofM_ok l hk).2.1 (ofM_ok l hk).1.dis
theorem enC_length {e : En} (h : e.k.length = 32) : (enC e).length = 33 := by simp [enC, kc_length, h]
theorem enC_seg (m : List En) (hk : KL m) (i : Nat) (hi : i < m.length) : ((m.flatMap enC).drop (i * 33)).take 33 = enC m[i] := by
  induction m generalizing i with
  | nil => cases hi
  | cons e m ih =>
    have he := enC_length (hk e (by simp))
    cases i with
    | zero =>
      rw [Nat.zero_mul, List.drop_zero, List.flatMap_cons, List.take_append_of_le_length (by omega), List.take_of_length_le (by omega)]
      rfl
    | succ i =>
      have := ih (fun x hx => hk x (List.mem_cons_of_mem _ hx)) i (by simpa using hi)
      rw [List.flatMap_cons, show (i + 1) * 33 = (enC e).length + i * 33 by rw [he]; omega, List.drop_append]
      rw [List.drop_eq_nil_of_le (by omega), List.nil_append, show (enC e).length + i * 33 - (enC e).length = i * 33 by omega, this]
      rfl
theorem enC_len (m : List En) (hk : KL m) : (m.flatMap enC).length = m.length * 33 := by
  induction m with
  | nil => rfl
  | cons e m ih => rw [List.flatMap_cons, List.length_append, enC_length (hk e (by simp)), ih fun x hx => hk x (List.mem_cons_of_mem _ hx), List.length_cons]; omega
/-- a slice of entries -/
def SlE (v : Value) (m : List En) (w : World) : Prop := SlC w v 33 m.length (m.flatMap enC)
def Vals (m : List En) (w : World) : Prop := ∀ e ∈ m, SlB e.s e.v w
theorem SlE.rd {v : Value} {m : List En} {w : World} (h : SlE v m w) (hk : KL m) (i : Nat) (hi : i < m.length) : RdA w (sAddr v (i * 33)) (enC m[i]) := by
  have := SlC.rd h i hi
  rwa [enC_seg m hk i hi] at this

end Go.Sp.Tryd
