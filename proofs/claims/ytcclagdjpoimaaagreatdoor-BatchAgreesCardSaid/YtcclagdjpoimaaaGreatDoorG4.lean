/- Walks of functions, printed by a program of this session (gen.py) from notes on each function. -/
import Derived.Test.YtcclagdjpoimaaaGreatDoorG3
import Derived.Test.YtcclagdjpoimaaaGreatDoorG1
set_option maxRecDepth 100000
set_option maxHeartbeats 1000000
set_option linter.unusedVariables false
set_option linter.unusedSimpArgs false
namespace Go.Sp.Tryz
open Go.Proofs Go.RowKit Go.Sp

def num (k : List UInt8) : Nat := k.foldl (fun s x => s * 256 + x.toNat) 0
theorem foldl_num (k : List UInt8) : ∀ a : Nat, k.foldl (fun s x => s * 256 + x.toNat) a = a * 256 ^ k.length + num k := by
  induction k with
  | nil => intro a; simp [num]
  | cons x k ih =>
    intro a
    have e : num (x :: k) = (0 * 256 + x.toNat) * 256 ^ k.length + num k := ih _
    rw [e, List.foldl_cons, ih, List.length_cons, Nat.pow_succ]
    rw [Nat.zero_mul, Nat.zero_add, Nat.add_mul, Nat.add_assoc, Nat.mul_assoc, Nat.mul_comm 256]
theorem num_cons (x : UInt8) (k : List UInt8) : num (x :: k) = x.toNat * 256 ^ k.length + num k := by
  have h := foldl_num k (0 * 256 + x.toNat)
  rw [Nat.zero_mul, Nat.zero_add] at h
  simpa [num] using h
theorem num_append (a b : List UInt8) : num (a ++ b) = num a * 256 ^ b.length + num b := by
  show (a ++ b).foldl _ 0 = _
  rw [List.foldl_append]
  exact foldl_num b _
theorem num_lt (k : List UInt8) : num k < 256 ^ k.length := by
  induction k with
  | nil => simp [num]
  | cons x k ih =>
    rw [num_cons, List.length_cons, Nat.pow_succ]
    have hx : x.toNat + 1 ≤ 256 := by have := x.toNat_lt; omega
    calc x.toNat * 256 ^ k.length + num k < x.toNat * 256 ^ k.length + 256 ^ k.length := by omega
      _ = (x.toNat + 1) * 256 ^ k.length := by rw [Nat.add_mul, Nat.one_mul]
      _ ≤ 256 * 256 ^ k.length := Nat.mul_le_mul_right _ hx
      _ = 256 ^ k.length * 256 := Nat.mul_comm _ _
theorem num_inj : ∀ (a b : List UInt8), a.length = b.length → num a = num b → a = b := by
  intro a
  induction a with
  | nil => intro b h _; exact (List.eq_nil_of_length_eq_zero h.symm).symm
  | cons x a ih =>
    intro b h hn
    cases b with
    | nil => cases h
    | cons y b =>
      have hl : a.length = b.length := by simpa using h
      rw [num_cons, num_cons, hl] at hn
      have h1 := num_lt a
      have h2 := num_lt b
      rw [hl] at h1
      have hxy : x.toNat = y.toNat := by
        have e1 : (x.toNat * 256 ^ b.length + num a) / 256 ^ b.length = x.toNat := by
          rw [Nat.mul_comm, Nat.mul_add_div (Nat.pow_pos (by decide)), Nat.div_eq_of_lt h1, Nat.add_zero]
        have e2 : (y.toNat * 256 ^ b.length + num b) / 256 ^ b.length = y.toNat := by
          rw [Nat.mul_comm, Nat.mul_add_div (Nat.pow_pos (by decide)), Nat.div_eq_of_lt h2, Nat.add_zero]
        rw [← e1, ← e2, hn]
      rw [UInt8.toNat_inj.1 hxy, ih b hl (by rw [hxy] at hn; omega)]
theorem bit_num (k : List UInt8) (h : k.length = 32) (i : Nat) (hi : i < 256) : bitN k i = num k / 2 ^ (255 - i) % 2 := by
  have hq : i / 8 < k.length := by omega
  have e : k = k.take (i / 8) ++ k[i / 8] :: k.drop (i / 8 + 1) := by rw [← List.drop_eq_getElem_cons hq, List.take_append_drop]
  have hn : num k = (num (k.take (i / 8)) * 256 + k[i / 8].toNat) * 256 ^ (31 - i / 8) + num (k.drop (i / 8 + 1)) := by
    have hl : (k.drop (i / 8 + 1)).length = 31 - i / 8 := by simp; omega
    have := num_append (k.take (i / 8)) (k[i / 8] :: k.drop (i / 8 + 1))
    rw [← e, num_cons, List.length_cons, hl, Nat.pow_succ] at this
    rw [this, Nat.add_mul, Nat.mul_assoc, Nat.mul_comm 256, Nat.add_assoc]
  have hd := num_lt (k.drop (i / 8 + 1))
  rw [show (k.drop (i / 8 + 1)).length = 31 - i / 8 by simp; omega] at hd
  have h8 : (256 : Nat) ^ (31 - i / 8) = 2 ^ (8 * (31 - i / 8)) := by rw [show (256 : Nat) = 2 ^ 8 from rfl, ← Nat.pow_mul]
  have hdiv : num k / 2 ^ (8 * (31 - i / 8)) = num (k.take (i / 8)) * 256 + k[i / 8].toNat := by
    rw [← h8, hn, Nat.mul_comm _ (256 ^ _), Nat.mul_add_div (Nat.pow_pos (by decide)), Nat.div_eq_of_lt hd, Nat.add_zero]
  have hsplit : 255 - i = 8 * (31 - i / 8) + (7 - i % 8) := by omega
  rw [hsplit, Nat.pow_add, ← Nat.div_div_eq_div_mul, hdiv]
  have h256 : (256 : Nat) = 2 ^ (7 - i % 8) * (2 ^ (i % 8) * 2) := by
    rw [← Nat.pow_succ, ← Nat.pow_add, show 7 - i % 8 + (i % 8 + 1) = 8 by omega]
  unfold bitN
  rw [getD_at hq]
  have e3 : num (k.take (i / 8)) * 256 + k[i / 8].toNat = 2 ^ (7 - i % 8) * (num (k.take (i / 8)) * (2 ^ (i % 8) * 2)) + k[i / 8].toNat := by
    rw [← Nat.mul_assoc, Nat.mul_comm (2 ^ (7 - i % 8)), Nat.mul_assoc, ← h256]
  rw [e3, Nat.mul_add_div (Nat.pow_pos (by decide)), ← Nat.mul_assoc, Nat.mul_comm _ 2, Nat.mul_add_mod]
def pre (d : Nat) (k : List UInt8) : Nat := num k / 2 ^ (256 - d)
theorem pre_zero (k : List UInt8) (h : k.length = 32) : pre 0 k = 0 := by
  unfold pre
  apply Nat.div_eq_of_lt
  have := num_lt k
  rw [h] at this
  exact this
theorem pre_full (k : List UInt8) : pre 256 k = num k := by simp [pre]
theorem pre_succ (k : List UInt8) (h : k.length = 32) (d : Nat) (hd : d < 256) : pre (d + 1) k = 2 * pre d k + bitN k d := by
  unfold pre
  rw [bit_num k h d hd, show 256 - d = (255 - d) + 1 by omega, show 256 - (d + 1) = 255 - d by omega, Nat.pow_succ, ← Nat.div_div_eq_div_mul]
  omega
structure En where
  k : List UInt8
  s : Value
  v : List UInt8
def enC (e : En) : List Value := kc e.k ++ [e.s]
def KL (m : List En) : Prop := ∀ e ∈ m, e.k.length = 32
def partM (m : List En) (d b : Nat) : List En := m.filter fun e => bitN e.k d == b
structure Pm (d : Nat) (m : List En) : Prop where
  le : d ≤ 256
  kl : KL m
  dis : m.Pairwise fun a b => num a.k ≠ num b.k
  com : ∀ a ∈ m, ∀ b ∈ m, pre d a.k = pre d b.k
theorem Pm.lt {d : Nat} {m : List En} (h : Pm d m) (h2 : 2 ≤ m.length) : d < 256 := by
  rcases Nat.lt_or_ge d 256 with hlt | hge
  · exact hlt
  · have hd : d = 256 := by have := h.le; omega
    subst hd
    match m, h2 with
    | a :: b :: m, _ =>
      exfalso
      have h1 := (List.pairwise_cons.1 h.dis).1 b (by simp)
      have h3 := h.com a (by simp) b (by simp)
      rw [pre_full, pre_full] at h3
      exact h1 h3
theorem Pm.part {d : Nat} {m : List En} (h : Pm d m) (hd : d < 256) (b : Nat) : Pm (d + 1) (partM m d b) where
  le := hd
  kl := fun e he => h.kl e (List.mem_filter.1 he).1
  dis := h.dis.filter _
  com := fun x hx y hy => by
    have hx' := List.mem_filter.1 hx
    have hy' := List.mem_filter.1 hy
    rw [pre_succ _ (h.kl _ hx'.1) d hd, pre_succ _ (h.kl _ hy'.1) d hd, h.com _ hx'.1 _ hy'.1]
    have e1 : bitN x.k d = b := by simpa using hx'.2
    have e2 : bitN y.k d = b := by simpa using hy'.2
    rw [e1, e2]
theorem part_len (m : List En) (d : Nat) : (partM m d 0).length + (partM m d 1).length = m.length := by
  induction m with
  | nil => rfl
  | cons e m ih =>
    have hb := bitN_lt e.k d
    have e0 : partM (e :: m) d 0 = if (bitN e.k d == 0) = true then e :: partM m d 0 else partM m d 0 := List.filter_cons
    have e1 : partM (e :: m) d 1 = if (bitN e.k d == 1) = true then e :: partM m d 1 else partM m d 1 := List.filter_cons
    rw [e0, e1, List.length_cons]
    by_cases h : bitN e.k d = 0
    · rw [if_pos (by simp [h]), if_neg (by simp [h]), List.length_cons]; omega
    · have h1 : bitN e.k d = 1 := by omega
      rw [if_neg (by simp [h1]), if_pos (by simp [h1]), List.length_cons]; omega
theorem Pm.zero {m : List En} (hk : KL m) (hd : m.Pairwise fun a b => num a.k ≠ num b.k) : Pm 0 m := ⟨by omega, hk, hd, fun a ha b hb => by rw [pre_zero _ (hk a ha), pre_zero _ (hk b hb)]⟩
inductive Sh where
  | nil
  | leaf (k v : List UInt8)
  | inner (l r : Sh)
def Sh.cnt : Sh → Nat
  | .nil => 0
  | .leaf _ _ => 1
  | .inner l r => l.cnt + r.cnt
def Sh.kind : Sh → Int
  | .nil => 0
  | .leaf _ _ => 1
  | .inner _ _ => 2
def valD (bits : Int) (v : List UInt8) : List UInt8 := cutI (shaOf (2 :: v)) bits
def leafD (bits : Int) (k v : List UInt8) : List UInt8 := cutI (shaOf (0 :: (k ++ valD bits v))) bits
def nodeD (bits : Int) (a b : List UInt8) : List UInt8 := cutI (shaOf (1 :: (a ++ b))) bits
def emptyD (bits : Int) : List UInt8 := cutI (shaOf [3]) bits
def Sh.dig (bits : Int) : Sh → List UInt8
  | .nil => emptyD bits
  | .leaf k v => leafD bits k v
  | .inner l r => nodeD bits (l.dig bits) (r.dig bits)
theorem dig_length (bits : Int) (s : Sh) : (s.dig bits).length = 32 := by cases s <;> exact cutI_length _ _
def joinS : Sh → Sh → Sh
  | .nil, .inner l r => .inner .nil (.inner l r)
  | .nil, s => s
  | .inner l r, .nil => .inner (.inner l r) .nil
  | s, .nil => s
  | s, t => .inner s t
def growS : Nat → Nat → List En → Sh
  | _, _, [] => .nil
  | _, _, [e] => .leaf e.k e.v
  | 0, _, e :: _ => .leaf e.k e.v
  | n + 1, d, m => .inner (growS n (d + 1) (partM m d 0)) (growS n (d + 1) (partM m d 1))
def grow (d : Nat) (m : List En) : Sh := growS (256 - d) d m
theorem grow_nil (d : Nat) : grow d [] = .nil := by unfold grow; cases 256 - d <;> rfl
theorem grow_one (d : Nat) (e : En) : grow d [e] = .leaf e.k e.v := by unfold grow; cases 256 - d <;> rfl
theorem grow_many (d : Nat) (m : List En) (hd : d < 256) (h : 2 ≤ m.length) : grow d m = .inner (grow (d + 1) (partM m d 0)) (grow (d + 1) (partM m d 1)) := by
  unfold grow
  rw [show 256 - d = (256 - (d + 1)) + 1 by omega]
  match m, h with
  | a :: b :: m, _ => rfl
theorem grow_ind {P : Nat → List En → Sh → Prop} (h0 : ∀ d, P d [] .nil) (h1 : ∀ d e, P d [e] (.leaf e.k e.v))
    (h2 : ∀ d m, Pm d m → d < 256 → 2 ≤ m.length → P (d + 1) (partM m d 0) (grow (d + 1) (partM m d 0)) → P (d + 1) (partM m d 1) (grow (d + 1) (partM m d 1)) → P d m (.inner (grow (d + 1) (partM m d 0)) (grow (d + 1) (partM m d 1)))) :
    ∀ (n d : Nat) (m : List En), 256 - d = n → Pm d m → P d m (grow d m) := by
  intro n
  induction n with
  | zero =>
    intro d m hn hp
    match m, hp with
    | [], _ => rw [grow_nil]; exact h0 d
    | [e], _ => rw [grow_one]; exact h1 d e
    | a :: b :: m, hp => have := hp.lt (by simp); omega
  | succ n ih =>
    intro d m hn hp
    match m, hp with
    | [], _ => rw [grow_nil]; exact h0 d
    | [e], _ => rw [grow_one]; exact h1 d e
    | a :: b :: m, hp =>
      have hd := hp.lt (by simp)
      rw [grow_many d _ hd (by simp)]
      exact h2 d _ hp hd (by simp) (ih _ _ (by omega) (hp.part hd 0)) (ih _ _ (by omega) (hp.part hd 1))
theorem grow_cnt {d : Nat} {m : List En} (h : Pm d m) : (grow d m).cnt = m.length :=
  grow_ind (P := fun _ m s => s.cnt = m.length) (fun _ => rfl) (fun _ _ => rfl) (fun d m _ _ _ h0 h1 => by
    show (grow _ _).cnt + (grow _ _).cnt = _
    rw [h0, h1, part_len]) _ d m rfl h
theorem joinS_inner {l r : Sh} (h : 2 ≤ l.cnt + r.cnt) : joinS l r = .inner l r := by
  cases l <;> cases r <;> first | rfl | (simp [Sh.cnt] at h; done)
  all_goals (simp [Sh.cnt] at h)
def rootS (bits : Int) : Nat → Nat → List En → List UInt8
  | _, _, [] => emptyD bits
  | _, _, [e] => leafD bits e.k e.v
  | 0, _, e :: _ => leafD bits e.k e.v
  | n + 1, d, m => nodeD bits (rootS bits n (d + 1) (partM m d 0)) (rootS bits n (d + 1) (partM m d 1))
def rootM (bits : Int) (d : Nat) (m : List En) : List UInt8 := (grow d m).dig bits

theorem num_lt_of {a b : List UInt8} (hl : a.length = b.length) (i : Nat) (hi : i < a.length) (hp : a.take i = b.take i) (h : a[i].toNat < (b[i]'(by omega)).toNat) : num a < num b := by
  have hib : i < b.length := by omega
  have ea : a = a.take i ++ a[i] :: a.drop (i + 1) := by rw [← List.drop_eq_getElem_cons hi, List.take_append_drop]
  have eb : b = a.take i ++ b[i] :: b.drop (i + 1) := by rw [hp, ← List.drop_eq_getElem_cons hib, List.take_append_drop]
  have h1 := num_append (a.take i) (a[i] :: a.drop (i + 1))
  have h2 := num_append (a.take i) (b[i] :: b.drop (i + 1))
  rw [← ea, num_cons] at h1
  rw [← eb, num_cons] at h2
  have hla : (a.drop (i + 1)).length = (b.drop (i + 1)).length := by simp; omega
  have h3 := num_lt (a.drop (i + 1))
  rw [List.length_cons] at h1 h2
  rw [hla] at h1 h3
  rw [h1, h2]
  have h4 : (a[i].toNat + 1) * 256 ^ (b.drop (i + 1)).length ≤ b[i].toNat * 256 ^ (b.drop (i + 1)).length := Nat.mul_le_mul_right _ h
  rw [Nat.add_mul, Nat.one_mul] at h4
  omega
def cmpI (a b : List UInt8) : Int := if num a < num b then -1 else if num b < num a then 1 else 0
theorem cmpI_neg {a b : List UInt8} : cmpI a b < 0 ↔ num a < num b := by
  unfold cmpI
  by_cases h : num a < num b
  · simp [h]
  · rw [if_neg h]
    by_cases h2 : num b < num a <;> simp [h, h2]
def rmM (m : List En) (k : List UInt8) : List En := m.filter fun x => decide (x.k ≠ k)
def ins (e : En) : List En → List En
  | [] => [e]
  | x :: r => if num e.k < num x.k then e :: x :: r else x :: ins e r
def putM (m : List En) (e : En) : List En := ins e (rmM m e.k)
def ofM (l : List En) : List En := l.foldl putM []
def Srt (m : List En) : Prop := m.Pairwise fun a b => num a.k < num b.k
def putF (e : En) (p : List En × Bool) (x : En) : List En × Bool := if p.2 = false ∧ num e.k < num x.k then (p.1 ++ [e, x], true) else (p.1 ++ [x], p.2)
theorem putF_true (e : En) : ∀ (l out : List En), l.foldl (putF e) (out, true) = (out ++ l, true) := by
  intro l
  induction l with
  | nil => intro out; simp
  | cons x l ih =>
    intro out
    rw [List.foldl_cons]
    have : putF e (out, true) x = (out ++ [x], true) := by simp [putF]
    rw [this, ih]; simp
theorem putF_ins (e : En) : ∀ (l out : List En), cond (l.foldl (putF e) (out, false)).2 (l.foldl (putF e) (out, false)).1 ((l.foldl (putF e) (out, false)).1 ++ [e]) = out ++ ins e l := by
  intro l
  induction l with
  | nil => intro out; simp [ins]
  | cons x l ih =>
    intro out
    rw [List.foldl_cons]
    by_cases h : num e.k < num x.k
    · have : putF e (out, false) x = (out ++ [e, x], true) := by simp [putF, h]
      rw [this, putF_true]
      simp [ins, h]
    · have : putF e (out, false) x = (out ++ [x], false) := by simp [putF, h]
      rw [this, ih]
      simp [ins, h]
theorem mem_ins {e x : En} {l : List En} : x ∈ ins e l ↔ x = e ∨ x ∈ l := by
  induction l with
  | nil => simp [ins]
  | cons y l ih =>
    unfold ins
    split
    · simp
    · simp [ih]; constructor
      · rintro (h | h | h) <;> simp [h]
      · rintro (h | h | h) <;> simp [h]
theorem ins_srt {e : En} {l : List En} (h : Srt l) (hn : ∀ x ∈ l, num x.k ≠ num e.k) : Srt (ins e l) := by
  induction l with
  | nil => simp [ins, Srt]
  | cons y l ih =>
    have h1 := List.pairwise_cons.1 h
    unfold ins
    split
    · rename_i hlt
      refine List.pairwise_cons.2 ⟨fun x hx => ?_, h⟩
      cases List.mem_cons.1 hx with
      | inl e => rw [e]; exact hlt
      | inr hx => exact Nat.lt_trans hlt (h1.1 x hx)
    · rename_i hnl
      refine List.pairwise_cons.2 ⟨fun x hx => ?_, ih h1.2 fun x hx => hn x (List.mem_cons_of_mem _ hx)⟩
      rcases mem_ins.1 hx with rfl | hx
      · have := hn y (by simp); omega
      · exact h1.1 x hx
theorem mem_rmM {m : List En} {k : List UInt8} {x : En} : x ∈ rmM m k ↔ x ∈ m ∧ x.k ≠ k := by simp [rmM]
theorem putM_srt {m : List En} {e : En} (h : Srt m) (hk : KL m) (he : e.k.length = 32) : Srt (putM m e) :=
  ins_srt (h.filter _) fun x hx hn => (mem_rmM.1 hx).2 (num_inj _ _ (by rw [hk x (mem_rmM.1 hx).1, he]) hn)
theorem mem_putM {m : List En} {e x : En} : x ∈ putM m e ↔ x = e ∨ (x ∈ m ∧ x.k ≠ e.k) := by
  unfold putM; rw [mem_ins, mem_rmM]
theorem putM_kl {m : List En} {e : En} (hk : KL m) (he : e.k.length = 32) : KL (putM m e) := fun x hx => by
  rcases mem_putM.1 hx with rfl | hx
  · exact he
  · exact hk x hx.1
theorem ins_len (e : En) (l : List En) : (ins e l).length = l.length + 1 := by
  induction l with
  | nil => rfl
  | cons y l ih => unfold ins; split <;> simp [ih]
theorem putM_len (m : List En) (e : En) : (putM m e).length ≤ m.length + 1 := by
  unfold putM
  rw [ins_len]
  have : (rmM m e.k).length ≤ m.length := List.length_filter_le _ _
  omega
theorem ofM_snoc (l : List En) (e : En) : ofM (l ++ [e]) = putM (ofM l) e := by simp [ofM]
theorem ofM_ok (l : List En) (hk : KL l) : Srt (ofM l) ∧ KL (ofM l) ∧ (ofM l).length ≤ l.length ∧ ∀ e ∈ ofM l, e ∈ l := by
  suffices h : ∀ (l m : List En) (n : Nat) (S : List En), KL l → Srt m → KL m → m.length ≤ n → (∀ e ∈ m, e ∈ S) → (∀ e ∈ l, e ∈ S) →
      Srt (l.foldl putM m) ∧ KL (l.foldl putM m) ∧ (l.foldl putM m).length ≤ n + l.length ∧ ∀ e ∈ l.foldl putM m, e ∈ S by
    have := h l [] 0 l hk List.Pairwise.nil (fun _ h => by cases h) (by simp) (fun _ h => by cases h) (fun _ h => h)
    simpa [ofM] using this
  intro l
  induction l with
  | nil => intro m n S _ h1 h2 h3 h4 _; exact ⟨h1, h2, by simpa using h3, h4⟩
  | cons e l ih =>
    intro m n S hk h1 h2 h3 h4 h5
    have he := hk e (by simp)
    have := ih (putM m e) (n + 1) S (fun x hx => hk x (List.mem_cons_of_mem _ hx)) (putM_srt h1 h2 he) (putM_kl h2 he) (by have := putM_len m e; omega)
      (fun x hx => by
        rcases mem_putM.1 hx with rfl | hx
        · exact h5 x (by simp)
        · exact h4 x hx.1) (fun x hx => h5 x (List.mem_cons_of_mem _ hx))
    simp only [List.foldl_cons, List.length_cons]
    exact ⟨this.1, this.2.1, by omega, this.2.2.2⟩
theorem Srt.dis {m : List En} (h : Srt m) : m.Pairwise fun a b => num a.k ≠ num b.k := h.imp fun h => Nat.ne_of_lt h
theorem ofM_pm (l : List En) (hk : KL l) : Pm 0 (ofM l) := Pm.zero (ofM_ok l hk).2.1 (ofM_ok l hk).1.dis
theorem enC_length {e : En} (h : e.k.length = 32) : (enC e).length = 33 := by simp [enC, kc_length, h]
theorem enC_seg (m : List En) (hk : KL m) (i : Nat) (hi : i < m.length) : ((m.flatMap enC).drop (i * 33)).take 33 = enC m[i] := by
  induction m generalizing i with
  | nil => cases hi
  | cons e m ih =>
    have he := enC_length (hk e (by simp))
    cases i with
    | zero =>
      rw [Nat.zero_mul, List.drop_zero, List.flatMap_cons, List.take_append_of_le_length (by omega), List.take_of_length_le (by omega)]
      rfl
    | succ i =>
      have := ih (fun x hx => hk x (List.mem_cons_of_mem _ hx)) i (by simpa using hi)
      rw [List.flatMap_cons, show (i + 1) * 33 = (enC e).length + i * 33 by rw [he]; omega, List.drop_append]
      rw [List.drop_eq_nil_of_le (by omega), List.nil_append, show (enC e).length + i * 33 - (enC e).length = i * 33 by omega, this]
      rfl
def SlE (v : Value) (m : List En) (w : World) : Prop := SlC w v 33 m.length (m.flatMap enC)
def Vals (m : List En) (w : World) : Prop := ∀ e ∈ m, SlB e.s e.v w
theorem SlE.rd {v : Value} {m : List En} {w : World} (h : SlE v m w) (hk : KL m) (i : Nat) (hi : i < m.length) : RdA w (sAddr v (i * 33)) (enC m[i]) := by
  have := SlC.rd h i hi
  rwa [enC_seg m hk i hi] at this

end Go.Sp.Tryz

set_option maxRecDepth 100000
set_option maxHeartbeats 1000000
set_option linter.unusedVariables false
set_option linter.unusedSimpArgs false
namespace Go.Sp.Tryz
open Go.Proofs Go.RowKit Go.Sp

inductive Tr where
  | nil
  | leaf (a : Nat) (k v : List UInt8) (s : Value)
  | inner (a : Nat) (l r : Tr)
def Tr.addr : Tr → Option Addr
  | .nil => none
  | .leaf a _ _ _ => some ⟨a, 0, none⟩
  | .inner a _ _ => some ⟨a, 0, none⟩
def Tr.ptr (T : Tr) : Value := .pointer T.addr
def Tr.er : Tr → Sh
  | .nil => .nil
  | .leaf _ k v _ => .leaf k v
  | .inner _ l r => .inner l.er r.er
def leafC (bits : Int) (k v : List UInt8) (s : Value) : List Value := (kc k ++ kc (valD bits v)) ++ [s]
def innerC (bits : Int) (l r : Tr) : List Value := [l.ptr, r.ptr] ++ ((kc (l.er.dig bits) ++ kc (r.er.dig bits)) ++ [.int .i64 ((l.er.cnt + r.er.cnt : Nat) : Int)])
def NodeAt (a : Nat) (t : TypeId) (L : List Value) (D : List UInt8) (w : World) : Prop := Blk w a 80 ([.iface t (.agg L.toArray)] ++ kc D)
def TrA (bits : Int) : Tr → World → Prop
  | .nil, _ => True
  | .leaf a k v s, w => k.length = 32 ∧ SlB s v w ∧ v.length ≤ 1000000 ∧ NodeAt a 142 (leafC bits k v s) (leafD bits k v) w
  | .inner a l r, w => TrA bits l w ∧ TrA bits r w ∧ NodeAt a 102 (innerC bits l r) (nodeD bits (l.er.dig bits) (r.er.dig bits)) w
def zeroLeafC : List Value := (kc (List.replicate 32 0) ++ kc (List.replicate 32 0)) ++ [.slice none 0 0]
def zeroInnerC : List Value := [.pointer none, .pointer none] ++ ((kc (List.replicate 32 0) ++ kc (List.replicate 32 0)) ++ [.int .i64 0])
def Tr.lfC (bits : Int) : Tr → List Value
  | .leaf _ k v s => leafC bits k v s
  | _ => zeroLeafC
def Tr.inC (bits : Int) : Tr → List Value
  | .inner _ l r => innerC bits l r
  | _ => zeroInnerC
def Tr.left : Tr → Tr
  | .inner _ l _ => l
  | _ => .nil
def Tr.right : Tr → Tr
  | .inner _ _ r => r
  | _ => .nil
def Tr.key : Tr → List UInt8
  | .leaf _ k _ _ => k
  | _ => List.replicate 32 0
def Tr.val : Tr → List UInt8
  | .leaf _ _ v _ => v
  | _ => []
def Tr.vs : Tr → Value
  | .leaf _ _ _ s => s
  | _ => .slice none 0 0
def Tr.vd (bits : Int) : Tr → List UInt8
  | .leaf _ _ v _ => valD bits v
  | _ => List.replicate 32 0
def Tr.icnt : Tr → Nat
  | .inner _ l r => l.er.cnt + r.er.cnt
  | _ => 0
def Tr.ld (bits : Int) : Tr → List UInt8
  | .inner _ l _ => l.er.dig bits
  | _ => List.replicate 32 0
def Tr.rd (bits : Int) : Tr → List UInt8
  | .inner _ _ r => r.er.dig bits
  | _ => List.replicate 32 0
theorem valD_length (bits : Int) (v : List UInt8) : (valD bits v).length = 32 := cutI_length _ _
theorem Tr.vd_length (bits : Int) (T : Tr) : (T.vd bits).length = 32 := match T with | .leaf _ _ v _ => valD_length bits v | .nil => List.length_replicate | .inner _ _ _ => List.length_replicate
theorem Tr.ld_length (bits : Int) (T : Tr) : (T.ld bits).length = 32 := match T with | .inner _ l _ => dig_length bits l.er | .nil => List.length_replicate | .leaf _ _ _ _ => List.length_replicate
theorem Tr.rd_length (bits : Int) (T : Tr) : (T.rd bits).length = 32 := match T with | .inner _ _ r => dig_length bits r.er | .nil => List.length_replicate | .leaf _ _ _ _ => List.length_replicate
theorem TrA.key_length {bits : Int} {T : Tr} {w : World} (h : TrA bits T w) : T.key.length = 32 := by
  cases T <;> first | exact h.1 | simp [Tr.key]
theorem TrA.vsl {bits : Int} {T : Tr} {w : World} (h : TrA bits T w) : SlB T.vs T.val w := by
  cases T <;> first | exact h.2.1 | exact SlB.nil _
theorem TrA.vlen {bits : Int} {T : Tr} {w : World} (h : TrA bits T w) : T.val.length ≤ 1000000 := by
  cases T <;> first | exact h.2.2.1 | simp [Tr.val]
theorem TrA.left {bits : Int} {T : Tr} {w : World} (h : TrA bits T w) : TrA bits T.left w := by
  cases T <;> first | exact h.1 | trivial
theorem TrA.right {bits : Int} {T : Tr} {w : World} (h : TrA bits T w) : TrA bits T.right w := by
  cases T <;> first | exact h.2.1 | trivial
theorem Tr.lfC_eq (bits : Int) (T : Tr) : T.lfC bits = (kc T.key ++ kc (T.vd bits)) ++ [T.vs] := by cases T <;> rfl
theorem Tr.inC_eq (bits : Int) (T : Tr) : T.inC bits = [T.left.ptr, T.right.ptr] ++ ((kc (T.ld bits) ++ kc (T.rd bits)) ++ [.int .i64 (T.icnt : Int)]) := by cases T <;> rfl
theorem Tr.one_lfC {bits : Int} {T : Tr} {w : World} (h : TrA bits T w) : oneAll (T.lfC bits) := by
  rw [Tr.lfC_eq]; exact one_append (one_append (kc_one _) (kc_one _)) (one_lit _ (by simp [SlC.one1 h.vsl]))
theorem Tr.one_inC (bits : Int) (T : Tr) : oneAll (T.inC bits) := by
  rw [Tr.inC_eq]; exact one_append (one_lit _ rfl) (one_append (one_append (kc_one _) (kc_one _)) (one_lit _ rfl))
theorem Tr.len_lfC {bits : Int} {T : Tr} {w : World} (h : TrA bits T w) : (T.lfC bits).length = 65 := by
  rw [Tr.lfC_eq]; simp [kc_length, h.key_length, Tr.vd_length]
theorem Tr.len_inC (bits : Int) (T : Tr) : (T.inC bits).length = 67 := by
  rw [Tr.inC_eq]; simp [kc_length, Tr.ld_length, Tr.rd_length]
theorem Tr.kind1 {T : Tr} (h : T.er.kind = 1) : ∃ a k v s, T = .leaf a k v s := by cases T <;> first | exact ⟨_, _, _, _, rfl⟩ | simp [Tr.er, Sh.kind] at h
theorem Tr.kind2 {T : Tr} (h : T.er.kind = 2) : ∃ a l r, T = .inner a l r := by cases T <;> first | exact ⟨_, _, _, rfl⟩ | simp [Tr.er, Sh.kind] at h
theorem Tr.lfC_not {bits : Int} {T : Tr} (h : T.er.kind ≠ 1) : T.lfC bits = zeroLeafC := by cases T <;> first | rfl | exact absurd rfl h
theorem Tr.inC_not {bits : Int} {T : Tr} (h : T.er.kind ≠ 2) : T.inC bits = zeroInnerC := by cases T <;> first | rfl | exact absurd rfl h
theorem Tr.cnt_eq (T : Tr) : T.er.cnt = if T.er.kind = 1 then 1 else T.icnt := by cases T <;> simp [Tr.er, Sh.cnt, Sh.kind, Tr.icnt]

theorem KindNil_c {X : Nat → Prop} {w : World}  (hX : ∀ b, X b → b < w.heap.size) :
    Ret Tryz.prog 56 [.pointer none].toArray w fun v w' => v = .int .i64 0 ∧ Out Nil w w' := by
  refine Ret.of_body (N := 15) Tryz.func56 rfl rfl (by simp) ?_
  have H := St.begin hX
  refine WE.seq_reg ?_
  refine WL.as rfl rfl ?_
  refine WL.nil ?_
  refine WE.seq ?_
  refine WE.seq_reg ?_
  refine WL.mv rfl rfl ?_
  refine WL.pv (PV.eqlPn rfl TryzT.pt23 rfl rfl) rfl ?_
  refine WL.nil ?_
  refine WE.cond_t' rfl rfl ?_
  refine WE.seq_reg ?_
  refine WL.as rfl rfl ?_
  refine WL.nil ?_
  refine WE.ret ?_
  refine ⟨[_], _, .nil _, ⟨rfl, trivial⟩, ?_⟩
  exact ⟨rfl, H.toOut0⟩

theorem KindLeaf_c {X : Nat → Prop} {w : World} {a : Nat} {L : List Value} {D : List UInt8} (hX : ∀ b, X b → b < w.heap.size) (hf0 : Rob X (NodeAt a 142 L D) w) :
    Ret Tryz.prog 56 [.pointer (some ⟨a, 0, none⟩)].toArray w fun v w' => v = .int .i64 1 ∧ Out Nil w w' := by
  refine Ret.of_body (N := 15) Tryz.func56 rfl rfl (by simp) ?_
  have H := St.begin hX
  replace H := H.add (rob0 hf0)
  refine WE.seq_reg ?_
  refine WL.as rfl rfl ?_
  refine WL.nil ?_
  refine WE.seq ?_
  refine WE.seq_reg ?_
  refine WL.mv rfl rfl ?_
  refine WL.pv (PV.eqlPn rfl TryzT.pt23 rfl rfl) rfl ?_
  refine WL.nil ?_
  refine WE.cond_f' rfl rfl ?_
  refine WE.skip ?_
  refine WE.seq ?_
  refine WE.seq_reg ?_
  refine WL.mv rfl rfl ?_
  refine WL.pv (PV.nilCheck rfl rfl) rfl ?_
  refine WL.pv (PV.fieldAddr rfl TryzT.fd80_0 rfl) rfl ?_
  refine WL.load1 rfl TryzT.ag78 rfl rfl (RdA.at_ (o := 0) (Blk.rd (H.p 0 rfl)) rfl rfl) ?_
  refine WL.nil ?_
  refine WE.block ?_
  refine WE.seq_reg ?_
  refine WL.pv (PV.assertOk rfl TryzT.cn142 TryzT.zz142 rfl) rfl ?_
  refine WL.pv (PV.extract rfl rfl rfl) rfl ?_
  refine WL.pv (PV.extract rfl rfl rfl) rfl ?_
  refine WL.nil ?_
  refine WE.cond_t' rfl rfl ?_
  refine WE.seq_reg ?_
  refine WL.as rfl rfl ?_
  refine WL.nil ?_
  refine WE.ret ?_
  refine ⟨[_], _, .nil _, ⟨rfl, trivial⟩, ?_⟩
  exact ⟨rfl, H.toOut0⟩

theorem KindInner_c {X : Nat → Prop} {w : World} {a : Nat} {L : List Value} {D : List UInt8} (hX : ∀ b, X b → b < w.heap.size) (hf0 : Rob X (NodeAt a 102 L D) w) :
    Ret Tryz.prog 56 [.pointer (some ⟨a, 0, none⟩)].toArray w fun v w' => v = .int .i64 2 ∧ Out Nil w w' := by
  refine Ret.of_body (N := 15) Tryz.func56 rfl rfl (by simp) ?_
  have H := St.begin hX
  replace H := H.add (rob0 hf0)
  refine WE.seq_reg ?_
  refine WL.as rfl rfl ?_
  refine WL.nil ?_
  refine WE.seq ?_
  refine WE.seq_reg ?_
  refine WL.mv rfl rfl ?_
  refine WL.pv (PV.eqlPn rfl TryzT.pt23 rfl rfl) rfl ?_
  refine WL.nil ?_
  refine WE.cond_f' rfl rfl ?_
  refine WE.skip ?_
  refine WE.seq ?_
  refine WE.seq_reg ?_
  refine WL.mv rfl rfl ?_
  refine WL.pv (PV.nilCheck rfl rfl) rfl ?_
  refine WL.pv (PV.fieldAddr rfl TryzT.fd80_0 rfl) rfl ?_
  refine WL.load1 rfl TryzT.ag78 rfl rfl (RdA.at_ (o := 0) (Blk.rd (H.p 0 rfl)) rfl rfl) ?_
  refine WL.nil ?_
  refine WE.block ?_
  refine WE.seq_reg ?_
  refine WL.pv (PV.assertOk rfl TryzT.cn142 TryzT.zz142 rfl) rfl ?_
  refine WL.pv (PV.extract rfl rfl rfl) rfl ?_
  refine WL.pv (PV.extract rfl rfl rfl) rfl ?_
  refine WL.nil ?_
  refine WE.cond_f' rfl rfl ?_
  refine WE.seq_reg ?_
  refine WL.pv (PV.assertOk rfl TryzT.cn102 TryzT.zz102 rfl) rfl ?_
  refine WL.pv (PV.extract rfl rfl rfl) rfl ?_
  refine WL.pv (PV.extract rfl rfl rfl) rfl ?_
  refine WL.nil ?_
  refine WE.cond_t' rfl rfl ?_
  refine WE.seq_reg ?_
  refine WL.as rfl rfl ?_
  refine WL.nil ?_
  refine WE.ret ?_
  refine ⟨[_], _, .nil _, ⟨rfl, trivial⟩, ?_⟩
  exact ⟨rfl, H.toOut0⟩

theorem NKind_c {X : Nat → Prop} {w : World} {bits : Int} {T : Tr} (hX : ∀ b, X b → b < w.heap.size) (hf0 : Rob X (TrA bits T) w) :
    Ret Tryz.prog 56 [T.ptr].toArray w fun v w' => v = .int .i64 T.er.kind ∧ Out Nil w w' := by
  cases T with
  | nil => exact KindNil_c hX
  | leaf a k v s => exact KindLeaf_c hX (hf0.imp fun _ h => h.2.2.2)
  | inner a l r => exact KindInner_c hX (hf0.imp fun _ h => h.2.2)

theorem leafM_c {X : Nat → Prop} {w : World} {bits : Int} {T : Tr} (hX : ∀ b, X b → b < w.heap.size) (hf0 : Rob X (TrA bits T) w) :
    Ret Tryz.prog 96 [T.ptr].toArray w fun v w' => v = .agg (T.lfC bits).toArray ∧ Out Nil w w' := by
  refine Ret.of_body (N := 12) Tryz.func96 rfl rfl (by simp) ?_
  have H := St.begin hX
  replace H := H.add (rob0 hf0)
  have hlen := Tr.len_lfC (hf0.here)
  have hone := Tr.one_lfC (hf0.here)
  refine WE.seq_reg ?_
  refine WL.alloc H rfl TryzT.ze142 rfl ?_
  intro b2 w1 H
  refine WL.nil ?_
  refine WE.seq ?_
  refine WE.seq_reg ?_
  refine WL.mv rfl rfl ?_
  refine WL.call TryzT.fb56 rfl (NKind_c (T := T) H.yylt (H.rob 0 rfl)) ?_
  rintro _ w2 ⟨rfl, hO⟩
  replace H := H.out hO
  refine WL.pv (PV.neq rfl rfl rfl) rfl ?_
  refine WL.nil ?_
  refine WE.cond rfl (fun hc5 => ?_) (fun hc5 => ?_)
  · skip
    try simp only [decide_eq_true_eq, decide_eq_false_iff_not, ne_eq, Decidable.not_not, Bool.not_eq_true', Bool.not_eq_false', Bool.and_eq_true, Bool.or_eq_true, Bool.not_not, Bool.and_eq_false_iff, Bool.or_eq_false_iff, Int.not_lt, Int.not_le] at hc5
    have hz := Tr.lfC_not (bits := bits) hc5
    refine WE.seq_reg ?_
    refine WL.pv (PV.eq (v' := .agg (T.lfC bits).toArray) (PV.buildS (l := T.lfC bits) rfl TryzT.pl142 TryzT.ze142 (by rw [hz]; exact Fl.nil)) rfl) rfl ?_
    refine WL.storeL H 0 rfl rfl rfl (new := _) rfl (by (rw [TryzT.sz142]; refine congrArg some ?_; (symm; assumption))) hone (Laid.all (by rw [hlen]; rfl)) rfl ?_
    intro w3 H
    refine WL.nil ?_
    refine WE.ret ?_
    refine ⟨[_], _, .nil _, ⟨⟨_, rfl, run_loadVar_aggR TryzT.ag142 (by exact Blk.segAt (H.l 0 rfl) (Seg.all _) rfl) (by (rw [TryzT.sz142]; refine congrArg some ?_; (symm; assumption)))⟩, trivial⟩, ?_⟩
    exact ⟨rfl, H.toOut0⟩
  · skip
    try simp only [decide_eq_true_eq, decide_eq_false_iff_not, ne_eq, Decidable.not_not, Bool.not_eq_true', Bool.not_eq_false', Bool.and_eq_true, Bool.or_eq_true, Bool.not_not, Bool.and_eq_false_iff, Bool.or_eq_false_iff, Int.not_lt, Int.not_le] at hc5
    obtain ⟨a, k, v, s, rfl⟩ := Tr.kind1 hc5
    refine WE.skip ?_
    refine WE.seq_reg ?_
    refine WL.mv rfl rfl ?_
    refine WL.pv (PV.nilCheck rfl rfl) rfl ?_
    refine WL.pv (PV.fieldAddr rfl TryzT.fd80_0 rfl) rfl ?_
    refine WL.load1 rfl TryzT.ag78 rfl rfl (RdA.at_ (o := 0) (Blk.rd ((H.p 0 rfl : TrA bits _ _).2.2.2)) rfl rfl) ?_
    refine WL.pv (PV.assert1 rfl TryzT.cn142 rfl) rfl ?_
    refine WL.storeL H 0 rfl rfl rfl (new := _) rfl (by (rw [TryzT.sz142]; refine congrArg some ?_; (symm; assumption))) hone (Laid.all (show (leafC bits k v s).length = _ from hlen)) rfl ?_
    intro w4 H
    refine WL.nil ?_
    refine WE.ret ?_
    refine ⟨[_], _, .nil _, ⟨⟨_, rfl, run_loadVar_aggR TryzT.ag142 (by exact Blk.segAt (H.l 0 rfl) (Seg.all _) rfl) (by (rw [TryzT.sz142]; refine congrArg some ?_; (symm; assumption)))⟩, trivial⟩, ?_⟩
    exact ⟨rfl, H.toOut0⟩

theorem innerM_c {X : Nat → Prop} {w : World} {bits : Int} {T : Tr} (hX : ∀ b, X b → b < w.heap.size) (hf0 : Rob X (TrA bits T) w) :
    Ret Tryz.prog 57 [T.ptr].toArray w fun v w' => v = .agg (T.inC bits).toArray ∧ Out Nil w w' := by
  refine Ret.of_body (N := 12) Tryz.func57 rfl rfl (by simp) ?_
  have H := St.begin hX
  replace H := H.add (rob0 hf0)
  have hlen := Tr.len_inC bits T
  have hone := Tr.one_inC bits T
  refine WE.seq_reg ?_
  refine WL.alloc H rfl TryzT.ze102 rfl ?_
  intro b2 w1 H
  refine WL.nil ?_
  refine WE.seq ?_
  refine WE.seq_reg ?_
  refine WL.mv rfl rfl ?_
  refine WL.call TryzT.fb56 rfl (NKind_c (T := T) H.yylt (H.rob 0 rfl)) ?_
  rintro _ w2 ⟨rfl, hO⟩
  replace H := H.out hO
  refine WL.pv (PV.neq rfl rfl rfl) rfl ?_
  refine WL.nil ?_
  refine WE.cond rfl (fun hc5 => ?_) (fun hc5 => ?_)
  · skip
    try simp only [decide_eq_true_eq, decide_eq_false_iff_not, ne_eq, Decidable.not_not, Bool.not_eq_true', Bool.not_eq_false', Bool.and_eq_true, Bool.or_eq_true, Bool.not_not, Bool.and_eq_false_iff, Bool.or_eq_false_iff, Int.not_lt, Int.not_le] at hc5
    have hz := Tr.inC_not (bits := bits) hc5
    refine WE.seq_reg ?_
    refine WL.pv (PV.eq (v' := .agg (T.inC bits).toArray) (PV.buildS (l := T.inC bits) rfl TryzT.pl102 TryzT.ze102 (by rw [hz]; exact Fl.nil)) rfl) rfl ?_
    refine WL.storeL H 0 rfl rfl rfl (new := _) rfl (by (rw [TryzT.sz102]; refine congrArg some ?_; (symm; assumption))) hone (Laid.all (by rw [hlen]; rfl)) rfl ?_
    intro w3 H
    refine WL.nil ?_
    refine WE.ret ?_
    refine ⟨[_], _, .nil _, ⟨⟨_, rfl, run_loadVar_aggR TryzT.ag102 (by exact Blk.segAt (H.l 0 rfl) (Seg.all _) rfl) (by (rw [TryzT.sz102]; refine congrArg some ?_; (symm; assumption)))⟩, trivial⟩, ?_⟩
    exact ⟨rfl, H.toOut0⟩
  · skip
    try simp only [decide_eq_true_eq, decide_eq_false_iff_not, ne_eq, Decidable.not_not, Bool.not_eq_true', Bool.not_eq_false', Bool.and_eq_true, Bool.or_eq_true, Bool.not_not, Bool.and_eq_false_iff, Bool.or_eq_false_iff, Int.not_lt, Int.not_le] at hc5
    obtain ⟨a, l, r, rfl⟩ := Tr.kind2 hc5
    refine WE.skip ?_
    refine WE.seq_reg ?_
    refine WL.mv rfl rfl ?_
    refine WL.pv (PV.nilCheck rfl rfl) rfl ?_
    refine WL.pv (PV.fieldAddr rfl TryzT.fd80_0 rfl) rfl ?_
    refine WL.load1 rfl TryzT.ag78 rfl rfl (RdA.at_ (o := 0) (Blk.rd ((H.p 0 rfl : TrA bits _ _).2.2)) rfl rfl) ?_
    refine WL.pv (PV.assert1 rfl TryzT.cn102 rfl) rfl ?_
    refine WL.storeL H 0 rfl rfl rfl (new := _) rfl (by (rw [TryzT.sz102]; refine congrArg some ?_; (symm; assumption))) hone (Laid.all (show (innerC bits l r).length = _ from hlen)) rfl ?_
    intro w4 H
    refine WL.nil ?_
    refine WE.ret ?_
    refine ⟨[_], _, .nil _, ⟨⟨_, rfl, run_loadVar_aggR TryzT.ag102 (by exact Blk.segAt (H.l 0 rfl) (Seg.all _) rfl) (by (rw [TryzT.sz102]; refine congrArg some ?_; (symm; assumption)))⟩, trivial⟩, ?_⟩
    exact ⟨rfl, H.toOut0⟩

theorem Leaf2_c {X : Nat → Prop} {w : World} {bits : Int} {T : Tr} (hX : ∀ b, X b → b < w.heap.size) (hf0 : Rob X (TrA bits T) w) :
    Ret Tryz.prog 62 [T.ptr].toArray w fun v w' => v = .agg (kc T.key ++ kc (T.vd bits)).toArray ∧ Out Nil w w' := by
  refine Ret.of_body (N := 6) Tryz.func62 rfl rfl (by simp) ?_
  have H := St.begin hX
  replace H := H.add (rob0 hf0)
  have hk := TrA.key_length (hf0.here)
  have hd := Tr.vd_length bits T
  refine WE.seq_reg ?_
  refine WL.alloc H rfl TryzT.ze93 rfl ?_
  intro b2 w1 H
  refine WL.nil ?_
  refine WE.seq_reg ?_
  refine WL.mv rfl rfl ?_
  refine WL.call TryzT.fb96 rfl (leafM_c (T := T) H.yylt (H.rob 0 rfl)) ?_
  rintro _ w2 ⟨rfl, hO⟩
  replace H := H.out hO
  rw [Tr.lfC_eq]
  refine WL.pv (PV.fieldV rfl TryzT.fd142_0 rfl (PartAt.agg TryzT.ag93 (by (rw [TryzT.sz93]; refine congrArg some ?_; (simp only [kc_length, kw_length, List.length_replicate, List.length_append, List.length_cons, List.length_nil, cutI_length, shaOf_length, dig_length, valD_length, Tr.vd_length, Tr.ld_length, Tr.rd_length]; omega))) (Seg.l (Seg.all _)))) rfl ?_
  refine WL.storeL H 0 rfl rfl rfl (new := _) rfl (by (rw [TryzT.sz93]; refine congrArg some ?_; (simp only [kc_length, kw_length, List.length_replicate, List.length_append, List.length_cons, List.length_nil, cutI_length, shaOf_length, dig_length, valD_length, Tr.vd_length, Tr.ld_length, Tr.rd_length]; omega))) (one_append (kc_one _) (kc_one _)) (Laid.at (Laid.all (by (simp only [kc_length, kw_length, List.length_replicate, List.length_append, List.length_cons, List.length_nil, cutI_length, shaOf_length, dig_length, valD_length, Tr.vd_length, Tr.ld_length, Tr.rd_length]; omega))) (by rfl)) rfl ?_
  intro w3 H
  refine WL.nil ?_
  refine WE.ret ?_
  refine ⟨[_], _, .nil _, ⟨⟨_, rfl, run_loadVar_aggR TryzT.ag93 (by exact Blk.segAt (H.l 0 rfl) (Seg.all _) rfl) (by (rw [TryzT.sz93]; refine congrArg some ?_; (simp only [kc_length, kw_length, List.length_replicate, List.length_append, List.length_cons, List.length_nil, cutI_length, shaOf_length, dig_length, valD_length, Tr.vd_length, Tr.ld_length, Tr.rd_length]; omega)))⟩, trivial⟩, ?_⟩
  exact ⟨rfl, H.toOut0⟩

theorem Left_c {X : Nat → Prop} {w : World} {bits : Int} {T : Tr} (hX : ∀ b, X b → b < w.heap.size) (hf0 : Rob X (TrA bits T) w) :
    Ret Tryz.prog 85 [T.ptr].toArray w fun v w' => v = T.left.ptr ∧ Out Nil w w' := by
  refine Ret.of_body (N := 7) Tryz.func85 rfl rfl (by simp) ?_
  have H := St.begin hX
  replace H := H.add (rob0 hf0)
  refine WE.seq_reg ?_
  refine WL.as rfl rfl ?_
  refine WL.nil ?_
  refine WE.seq_reg ?_
  refine WL.mv rfl rfl ?_
  refine WL.call TryzT.fb57 rfl (innerM_c (T := T) H.yylt (H.rob 0 rfl)) ?_
  rintro _ w1 ⟨rfl, hO⟩
  replace H := H.out hO
  rw [Tr.inC_eq]
  refine WL.pv (PV.fieldV rfl TryzT.fd102_0 rfl (PartAt.agg TryzT.ag99 (by exact TryzT.sz99) (Seg.l (Seg.all _)))) rfl ?_
  refine WL.pv (PV.indexV (i := 0) rfl TryzT.ar99 TryzT.sz23 rfl rfl (by decide) (PartAt.one TryzT.ag23 Seg.hd)) rfl ?_
  refine WL.as rfl rfl ?_
  refine WL.nil ?_
  refine WE.ret ?_
  refine ⟨[_], _, .nil _, ⟨rfl, trivial⟩, ?_⟩
  exact ⟨rfl, H.toOut0⟩

theorem Right2_c {X : Nat → Prop} {w : World} {bits : Int} {T : Tr} (hX : ∀ b, X b → b < w.heap.size) (hf0 : Rob X (TrA bits T) w) :
    Ret Tryz.prog 86 [T.ptr].toArray w fun v w' => v = T.right.ptr ∧ Out Nil w w' := by
  refine Ret.of_body (N := 7) Tryz.func86 rfl rfl (by simp) ?_
  have H := St.begin hX
  replace H := H.add (rob0 hf0)
  refine WE.seq_reg ?_
  refine WL.as rfl rfl ?_
  refine WL.nil ?_
  refine WE.seq_reg ?_
  refine WL.mv rfl rfl ?_
  refine WL.call TryzT.fb57 rfl (innerM_c (T := T) H.yylt (H.rob 0 rfl)) ?_
  rintro _ w1 ⟨rfl, hO⟩
  replace H := H.out hO
  rw [Tr.inC_eq]
  refine WL.pv (PV.fieldV rfl TryzT.fd102_0 rfl (PartAt.agg TryzT.ag99 (by exact TryzT.sz99) (Seg.l (Seg.all _)))) rfl ?_
  refine WL.pv (PV.indexV (i := 1) rfl TryzT.ar99 TryzT.sz23 rfl rfl (by decide) (PartAt.one TryzT.ag23 (Seg.tl Seg.hd rfl))) rfl ?_
  refine WL.as rfl rfl ?_
  refine WL.nil ?_
  refine WE.ret ?_
  refine ⟨[_], _, .nil _, ⟨rfl, trivial⟩, ?_⟩
  exact ⟨rfl, H.toOut0⟩

theorem Len_c {X : Nat → Prop} {w : World} {bits : Int} {T : Tr} (hX : ∀ b, X b → b < w.heap.size) (hf0 : Rob X (TrA bits T) w) :
    Ret Tryz.prog 27 [T.ptr].toArray w fun v w' => v = .int .i64 (T.er.cnt : Int) ∧ Out Nil w w' := by
  refine Ret.of_body (N := 9) Tryz.func27 rfl rfl (by simp) ?_
  have H := St.begin hX
  replace H := H.add (rob0 hf0)
  have hd := Tr.ld_length bits T
  have hr := Tr.rd_length bits T
  refine WE.seq_reg ?_
  refine WL.as rfl rfl ?_
  refine WL.nil ?_
  refine WE.seq ?_
  refine WE.seq_reg ?_
  refine WL.mv rfl rfl ?_
  refine WL.call TryzT.fb56 rfl (NKind_c (T := T) H.yylt (H.rob 0 rfl)) ?_
  rintro _ w1 ⟨rfl, hO⟩
  replace H := H.out hO
  refine WL.pv (PV.eql rfl rfl rfl) rfl ?_
  refine WL.nil ?_
  refine WE.cond rfl (fun hc5 => ?_) (fun hc5 => ?_)
  · skip
    try simp only [decide_eq_true_eq, decide_eq_false_iff_not, ne_eq, Decidable.not_not, Bool.not_eq_true', Bool.not_eq_false', Bool.and_eq_true, Bool.or_eq_true, Bool.not_not, Bool.and_eq_false_iff, Bool.or_eq_false_iff, Int.not_lt, Int.not_le] at hc5
    refine WE.seq_reg ?_
    refine WL.as rfl rfl ?_
    refine WL.nil ?_
    refine WE.ret ?_
    refine ⟨[_], _, .nil _, ⟨rfl, trivial⟩, ?_⟩
    refine ⟨?_, H.toOut0⟩
    rw [Tr.cnt_eq, if_pos hc5]; rfl
  · skip
    try simp only [decide_eq_true_eq, decide_eq_false_iff_not, ne_eq, Decidable.not_not, Bool.not_eq_true', Bool.not_eq_false', Bool.and_eq_true, Bool.or_eq_true, Bool.not_not, Bool.and_eq_false_iff, Bool.or_eq_false_iff, Int.not_lt, Int.not_le] at hc5
    refine WE.skip ?_
    refine WE.seq_reg ?_
    refine WL.mv rfl rfl ?_
    refine WL.call TryzT.fb57 rfl (innerM_c (T := T) H.yylt (H.rob 0 rfl)) ?_
    rintro _ w2 ⟨rfl, hO⟩
    replace H := H.out hO
    rw [Tr.inC_eq]
    refine WL.pv (PV.fieldV rfl TryzT.fd102_2 rfl (PartAt.one TryzT.ag3 (Seg.r (Seg.r (Seg.all _) (by with_reducible rfl)) (by (simp only [kc_length, kw_length, List.length_replicate, List.length_append, List.length_cons, List.length_nil, cutI_length, shaOf_length, dig_length, valD_length, Tr.vd_length, Tr.ld_length, Tr.rd_length]; done))))) rfl ?_
    refine WL.as rfl rfl ?_
    refine WL.nil ?_
    refine WE.ret ?_
    refine ⟨[_], _, .nil _, ⟨rfl, trivial⟩, ?_⟩
    refine ⟨?_, H.toOut0⟩
    rw [Tr.cnt_eq, if_neg hc5]; rfl

end Go.Sp.Tryz

set_option maxRecDepth 100000
set_option maxHeartbeats 1000000
set_option linter.unusedVariables false
set_option linter.unusedSimpArgs false
namespace Go.Sp.Tryz
open Go.Proofs Go.RowKit Go.Sp
theorem LeafOf_c {X : Nat → Prop} {w : World} {bh bc : Nat} {bits n : Int} {a : Value} {k la : List UInt8} (hX : ∀ b, X b → b < w.heap.size) (ho0 : Blk w bc 108 ([.int .i64 n])) (hf0 : Rob (fun c_ => X c_ ∨ c_ = bc) (HAt bh bc bits) w) (hf1 : Rob (fun c_ => X c_ ∨ c_ = bc) (SlB a la) w) (hf2 : Rob (fun c_ => X c_ ∨ c_ = bc) (Rounds) w) (hbits : 0 ≤ bits ∧ bits ≤ 256) (hla : la.length ≤ 1000000) (hk : k.length = 32) :
    Ret Tryz.prog 93 [.pointer (some ⟨bh, 0, none⟩), .agg (kc k).toArray, a].toArray w fun v w' => ∃ m, v = .agg (kc k ++ kc (valD bits la)).toArray ∧ Out (· = bc) w w' ∧ Blk w' bc 108 [.int .i64 m] := by
  refine Ret.of_body (N := 13) Tryz.func93 rfl rfl (by simp) ?_
  have H := St.begin1 (b := bc) (t := 108) (l := [.int .i64 n]) hX ho0
  replace H := H.add (rob1 hf2)
  replace H := H.add (rob1 hf1)
  replace H := H.add (rob1 hf0)
  refine WE.seq_reg ?_
  refine WL.box (l := kc k) H rfl (by rfl) rfl ?_
  intro b4 w1 H
  refine WL.alloc H rfl TryzT.ze93 rfl ?_
  intro b6 w2 H
  refine WL.nil ?_
  refine WE.seq_draw (.take 0 (.take 1 (.take 2 (.pick1 3 (.pick1 4 (.take 5 (.pick1 6 .done))))))) TryzT.mixed (by kernel_rfl) ?_
  replace H := H.out (Out.drew _)
  refine WP.readA rfl rfl rfl TryzT.ag31 rfl (by exact Blk.segAt (H.l 1 rfl) (Seg.all _) (by rfl)) (by (rw [TryzT.sz31]; refine congrArg some ?_; (simp only [kc_length, kw_length, List.length_replicate, List.length_append, List.length_cons, List.length_nil, cutI_length, shaOf_length, dig_length, valD_length, Tr.vd_length, Tr.ld_length, Tr.rd_length]; omega))) ?_
  refine WP.mv rfl rfl rfl ?_
  refine WP.mv rfl rfl rfl ?_
  refine WP.pick1 rfl ?_
  refine WL.call TryzT.fb118 rfl (Value_c (la := la) H.yylt (H.rob 1 rfl) (by omega)) ?_
  rintro v10 w3 ⟨hO, hR⟩
  replace H := (H.out hO).add hR
  refine WL.nil ⟨(List.forall_mem_cons.2 ⟨(fun _ _ => (by exact Blk.segAt (H.l 1 rfl) (Seg.all _) (by rfl))), (fun _ h => by cases h)⟩), ?_⟩
  refine WP.pick1 rfl ?_
  refine WL.call TryzT.fb37 rfl (HSum_c (la := 2 :: la) H.yylt (H.o 0 rfl) (by exact H.robOld 0 rfl 1 rfl) (by exact H.robOld 0 rfl 0 rfl) (by exact H.robOld 0 rfl 3 rfl) hbits (by simp; omega)) ?_
  rintro _ w4 ⟨rfl, hO, hB⟩
  replace H := H.calledO 0 rfl hO hB
  refine WL.nil ⟨(List.forall_mem_cons.2 ⟨(fun _ _ => (by exact Blk.segAt (H.l 1 rfl) (Seg.all _) (by rfl))), (fun _ h => by cases h)⟩), ?_⟩
  refine WP.take_pure rfl rfl (PV.buildS rfl TryzT.pl93 TryzT.ze93 (Fl.cons rfl (by rfl) (by (simp only [kc_length, kw_length, List.length_replicate, List.length_append, List.length_cons, List.length_nil, cutI_length, shaOf_length, dig_length, valD_length, Tr.vd_length, Tr.ld_length, Tr.rd_length]; omega)) (Laid.left (Laid.all (by (simp only [kc_length, kw_length, List.length_replicate, List.length_append, List.length_cons, List.length_nil, cutI_length, shaOf_length, dig_length, valD_length, Tr.vd_length, Tr.ld_length, Tr.rd_length]; omega)))) (Fl.cons rfl (by rfl) (by (simp only [kc_length, kw_length, List.length_replicate, List.length_append, List.length_cons, List.length_nil, cutI_length, shaOf_length, dig_length, valD_length, Tr.vd_length, Tr.ld_length, Tr.rd_length]; done)) (Laid.right (Laid.all (by (simp only [kc_length, kw_length, List.length_replicate, List.length_append, List.length_cons, List.length_nil, cutI_length, shaOf_length, dig_length, valD_length, Tr.vd_length, Tr.ld_length, Tr.rd_length]; done))) (by (simp only [kc_length, kw_length, List.length_replicate, List.length_append, List.length_cons, List.length_nil, cutI_length, shaOf_length, dig_length, valD_length, Tr.vd_length, Tr.ld_length, Tr.rd_length]; omega))) Fl.nil))) ?_
  refine WP.pick1 rfl ?_
  refine WL.storeL H 0 rfl rfl rfl (new := _) rfl (by (rw [TryzT.sz93]; refine congrArg some ?_; (simp only [kc_length, kw_length, List.length_replicate, List.length_append, List.length_cons, List.length_nil, cutI_length, shaOf_length, dig_length, valD_length, Tr.vd_length, Tr.ld_length, Tr.rd_length]; omega))) (one_append (kc_one _) (kc_one _)) (Laid.at (Laid.all (by (simp only [kc_length, kw_length, List.length_replicate, List.length_append, List.length_cons, List.length_nil, cutI_length, shaOf_length, dig_length, valD_length, Tr.vd_length, Tr.ld_length, Tr.rd_length]; omega))) (by rfl)) rfl ?_
  intro w5 H
  refine WL.nil ⟨(List.forall_mem_cons.2 ⟨(by exact (fun h => absurd (show waits _ 6 0 = false from h) (by decide +kernel))), (fun _ h => by cases h)⟩), ?_⟩
  refine WP.done ?_
  refine WE.ret ?_
  refine ⟨[_], _, .nil _, ⟨⟨_, rfl, run_loadVar_aggR TryzT.ag93 (by exact Blk.segAt (H.l 0 rfl) (Seg.all _) rfl) (by (rw [TryzT.sz93]; refine congrArg some ?_; (simp only [kc_length, kw_length, List.length_replicate, List.length_append, List.length_cons, List.length_nil, cutI_length, shaOf_length, dig_length, valD_length, Tr.vd_length, Tr.ld_length, Tr.rd_length]; omega)))⟩, trivial⟩, ?_⟩
  exact ⟨_, rfl, H.toOut1, H.o 0 rfl⟩

theorem leafPre_c {X : Nat → Prop} {w : World} {k d : List UInt8} {s : Value} (hX : ∀ b, X b → b < w.heap.size) (hk : k.length = 32) (hd : d.length = 32) :
    Ret Tryz.prog 153 [.agg ((kc k ++ kc d) ++ [s]).toArray].toArray w fun v w' => Out Nil w w' ∧ Rob X (SlB v (0 :: (k ++ d))) w' := by
  refine Ret.of_body (N := 6) Tryz.func153 rfl rfl (by simp) ?_
  have H := St.begin hX
  refine WE.seq_reg ?_
  refine WL.box (l := (kc k ++ kc d) ++ [s]) H rfl (by rfl) rfl ?_
  intro b1 w1 H
  refine WL.as rfl rfl ?_
  refine WL.nil ?_
  refine WE.seq_reg ?_
  refine WL.pv (PV.fieldAddr rfl TryzT.fd142_0 rfl) rfl ?_
  refine WL.loadR rfl TryzT.ag93 rfl rfl (by exact Blk.segAt (H.l 0 rfl) (Seg.l (Seg.all _)) (by rfl)) (by (rw [TryzT.sz93]; refine congrArg some ?_; (simp only [kc_length, kw_length, List.length_replicate, List.length_append, List.length_cons, List.length_nil, cutI_length, shaOf_length, dig_length, valD_length, Tr.vd_length, Tr.ld_length, Tr.rd_length]; omega))) ?_
  refine WL.call TryzT.fb154 rfl (Leaf_c (k := k) (l := d) H.yylt hk hd) ?_
  rintro v5 w2 ⟨hO, hR⟩
  replace H := (H.out hO).add hR
  refine WL.as rfl rfl ?_
  refine WL.nil ?_
  refine WE.ret ?_
  refine ⟨[_], _, .nil _, ⟨rfl, trivial⟩, ?_⟩
  exact ⟨H.toOut0, H.give (H.rob 0 rfl)⟩

theorem innerPre_c {X : Nat → Prop} {w : World} {p d e : List UInt8} {x y z : Value} (hX : ∀ b, X b → b < w.heap.size) (hd : d.length = 32) (he : e.length = 32) :
    Ret Tryz.prog 150 [.agg ([x, y] ++ ((kc d ++ kc e) ++ [z])).toArray].toArray w fun v w' => Out Nil w w' ∧ Rob X (SlB v (1 :: (d ++ e))) w' := by
  refine Ret.of_body (N := 10) Tryz.func150 rfl rfl (by simp) ?_
  have H := St.begin hX
  refine WE.seq_reg ?_
  refine WL.box (l := [x, y] ++ ((kc d ++ kc e) ++ [z])) H rfl (by rfl) rfl ?_
  intro b1 w1 H
  refine WL.as rfl rfl ?_
  refine WL.nil ?_
  refine WE.seq_reg ?_
  refine WL.pv (PV.fieldAddr rfl TryzT.fd102_1 rfl) rfl ?_
  refine WL.pv (PV.indexArr rfl TryzT.ar100 TryzT.sz42 rfl rfl (by omega) (by omega)) rfl ?_
  refine WL.loadR rfl TryzT.ag42 rfl rfl (by exact Blk.segAt (H.l 0 rfl) (Seg.r (Seg.l (Seg.l (Seg.all _))) (by with_reducible rfl)) (by rfl)) (by (rw [TryzT.sz42]; refine congrArg some ?_; (simp only [kc_length, kw_length, List.length_replicate, List.length_append, List.length_cons, List.length_nil, cutI_length, shaOf_length, dig_length, valD_length, Tr.vd_length, Tr.ld_length, Tr.rd_length]; omega))) ?_
  refine WL.pv (PV.fieldAddr rfl TryzT.fd102_1 rfl) rfl ?_
  refine WL.pv (PV.indexArr rfl TryzT.ar100 TryzT.sz42 rfl rfl (by omega) (by omega)) rfl ?_
  refine WL.loadR rfl TryzT.ag42 rfl rfl (by exact Blk.segAt (H.l 0 rfl) (Seg.r (Seg.l (Seg.r (Seg.all _) (by with_reducible rfl))) (by with_reducible rfl)) (by (simp [kc_length, kw_length, *]; done))) (by (rw [TryzT.sz42]; refine congrArg some ?_; (simp only [kc_length, kw_length, List.length_replicate, List.length_append, List.length_cons, List.length_nil, cutI_length, shaOf_length, dig_length, valD_length, Tr.vd_length, Tr.ld_length, Tr.rd_length]; omega))) ?_
  refine WL.call TryzT.fb151 rfl (Node_c (k := d) (l := e) H.yylt hd he) ?_
  rintro v9 w2 ⟨hO, hR⟩
  replace H := (H.out hO).add hR
  refine WL.as rfl rfl ?_
  refine WL.nil ?_
  refine WE.ret ?_
  refine ⟨[_], _, .nil _, ⟨rfl, trivial⟩, ?_⟩
  exact ⟨H.toOut0, H.give (H.rob 0 rfl)⟩

theorem withLeaf_c {X : Nat → Prop} {w : World} {bh bc : Nat} {bits n : Int} {k d : List UInt8} {s : Value} (hX : ∀ b, X b → b < w.heap.size) (ho0 : Blk w bc 108 ([.int .i64 n])) (hf0 : Rob (fun c_ => X c_ ∨ c_ = bc) (HAt bh bc bits) w) (hf1 : Rob (fun c_ => X c_ ∨ c_ = bc) (Rounds) w) (hbits : 0 ≤ bits ∧ bits ≤ 256) (hk : k.length = 32) (hd : d.length = 32) :
    Ret Tryz.prog 92 [.pointer (some ⟨bh, 0, none⟩), .iface 142 (.agg ((kc k ++ kc d) ++ [s]).toArray)].toArray w fun v w' => ∃ a m, v = .pointer (some ⟨a, 0, none⟩) ∧ Out (· = bc) w w' ∧ Blk w' bc 108 [.int .i64 m] ∧ Rob (fun c => X c ∨ c = bc) (NodeAt a 142 ((kc k ++ kc d) ++ [s]) (cutI (shaOf (0 :: (k ++ d))) bits)) w' := by
  refine Ret.of_body (N := 12) Tryz.func92 rfl rfl (by simp) ?_
  have H := St.begin1 (b := bc) (t := 108) (l := [.int .i64 n]) hX ho0
  replace H := H.add (rob1 hf1)
  replace H := H.add (rob1 hf0)
  refine WE.seq_reg ?_
  refine WL.as rfl rfl ?_
  refine WL.nil ?_
  refine WE.seq_reg ?_
  refine WL.mv rfl rfl ?_
  refine WL.mv rfl rfl ?_
  refine WL.mv rfl rfl ?_
  refine WL.invoke rfl (by kernel_rfl) TryzT.cn142 TryzT.fb153 rfl (leafPre_c (k := k) (d := d) (s := s) H.yylt hk hd) ?_
  rintro v8 w2 ⟨hO, hR⟩
  replace H := (H.out hO).add hR
  refine WL.call TryzT.fb37 rfl (HSum_c (la := 0 :: (k ++ d)) H.yylt (H.o 0 rfl) (by exact H.robOld 0 rfl 1 rfl) (by exact H.robOld 0 rfl 0 rfl) (by exact H.robOld 0 rfl 2 rfl) hbits (by simp; omega)) ?_
  rintro _ w4 ⟨rfl, hO, hB⟩
  replace H := H.calledO 0 rfl hO hB
  refine WL.pv (PV.buildS rfl TryzT.pl80 TryzT.ze80 (Fl.cons rfl (by rfl) (by (simp only [kc_length, kw_length, List.length_replicate, List.length_append, List.length_cons, List.length_nil, cutI_length, shaOf_length, dig_length, valD_length, Tr.vd_length, Tr.ld_length, Tr.rd_length]; done)) (Laid.left (Laid.all (by (simp only [kc_length, kw_length, List.length_replicate, List.length_append, List.length_cons, List.length_nil, cutI_length, shaOf_length, dig_length, valD_length, Tr.vd_length, Tr.ld_length, Tr.rd_length]; done)))) (Fl.cons rfl (by rfl) (by (simp only [kc_length, kw_length, List.length_replicate, List.length_append, List.length_cons, List.length_nil, cutI_length, shaOf_length, dig_length, valD_length, Tr.vd_length, Tr.ld_length, Tr.rd_length]; done)) (Laid.right (Laid.all (by (simp only [kc_length, kw_length, List.length_replicate, List.length_append, List.length_cons, List.length_nil, cutI_length, shaOf_length, dig_length, valD_length, Tr.vd_length, Tr.ld_length, Tr.rd_length]; done))) (by (simp only [kc_length, kw_length, List.length_replicate, List.length_append, List.length_cons, List.length_nil, cutI_length, shaOf_length, dig_length, valD_length, Tr.vd_length, Tr.ld_length, Tr.rd_length]; done))) Fl.nil))) rfl ?_
  refine WL.box (l := _) H rfl (by rfl) rfl ?_
  intro b11 w5 H
  refine WL.as rfl rfl ?_
  refine WL.nil ?_
  refine WE.ret ?_
  refine ⟨[_], _, .nil _, ⟨rfl, trivial⟩, ?_⟩
  replace H := H.freeze (i := 0) rfl
  exact ⟨_, _, rfl, H.toOut1, H.o 0 rfl, (H.giveO (H.rob 0 rfl)).imp fun _ h => h⟩

theorem withInner_c {X : Nat → Prop} {w : World} {bh bc : Nat} {bits n : Int} {d e : List UInt8} {x y z : Value} (hX : ∀ b, X b → b < w.heap.size) (ho0 : Blk w bc 108 ([.int .i64 n])) (hf0 : Rob (fun c_ => X c_ ∨ c_ = bc) (HAt bh bc bits) w) (hf1 : Rob (fun c_ => X c_ ∨ c_ = bc) (Rounds) w) (hbits : 0 ≤ bits ∧ bits ≤ 256) (hd : d.length = 32) (he : e.length = 32) :
    Ret Tryz.prog 92 [.pointer (some ⟨bh, 0, none⟩), .iface 102 (.agg ([x, y] ++ ((kc d ++ kc e) ++ [z])).toArray)].toArray w fun v w' => ∃ a m, v = .pointer (some ⟨a, 0, none⟩) ∧ Out (· = bc) w w' ∧ Blk w' bc 108 [.int .i64 m] ∧ Rob (fun c => X c ∨ c = bc) (NodeAt a 102 ([x, y] ++ ((kc d ++ kc e) ++ [z])) (cutI (shaOf (1 :: (d ++ e))) bits)) w' := by
  refine Ret.of_body (N := 12) Tryz.func92 rfl rfl (by simp) ?_
  have H := St.begin1 (b := bc) (t := 108) (l := [.int .i64 n]) hX ho0
  replace H := H.add (rob1 hf1)
  replace H := H.add (rob1 hf0)
  refine WE.seq_reg ?_
  refine WL.as rfl rfl ?_
  refine WL.nil ?_
  refine WE.seq_reg ?_
  refine WL.mv rfl rfl ?_
  refine WL.mv rfl rfl ?_
  refine WL.mv rfl rfl ?_
  refine WL.invoke rfl (by kernel_rfl) TryzT.cn102 TryzT.fb150 rfl (innerPre_c (p := []) (x := x) (y := y) (z := z) H.yylt hd he) ?_
  rintro v8 w2 ⟨hO, hR⟩
  replace H := (H.out hO).add hR
  refine WL.call TryzT.fb37 rfl (HSum_c (la := 1 :: (d ++ e)) H.yylt (H.o 0 rfl) (by exact H.robOld 0 rfl 1 rfl) (by exact H.robOld 0 rfl 0 rfl) (by exact H.robOld 0 rfl 2 rfl) hbits (by simp; omega)) ?_
  rintro _ w4 ⟨rfl, hO, hB⟩
  replace H := H.calledO 0 rfl hO hB
  refine WL.pv (PV.buildS rfl TryzT.pl80 TryzT.ze80 (Fl.cons rfl (by rfl) (by (simp only [kc_length, kw_length, List.length_replicate, List.length_append, List.length_cons, List.length_nil, cutI_length, shaOf_length, dig_length, valD_length, Tr.vd_length, Tr.ld_length, Tr.rd_length]; done)) (Laid.left (Laid.all (by (simp only [kc_length, kw_length, List.length_replicate, List.length_append, List.length_cons, List.length_nil, cutI_length, shaOf_length, dig_length, valD_length, Tr.vd_length, Tr.ld_length, Tr.rd_length]; done)))) (Fl.cons rfl (by rfl) (by (simp only [kc_length, kw_length, List.length_replicate, List.length_append, List.length_cons, List.length_nil, cutI_length, shaOf_length, dig_length, valD_length, Tr.vd_length, Tr.ld_length, Tr.rd_length]; done)) (Laid.right (Laid.all (by (simp only [kc_length, kw_length, List.length_replicate, List.length_append, List.length_cons, List.length_nil, cutI_length, shaOf_length, dig_length, valD_length, Tr.vd_length, Tr.ld_length, Tr.rd_length]; done))) (by (simp only [kc_length, kw_length, List.length_replicate, List.length_append, List.length_cons, List.length_nil, cutI_length, shaOf_length, dig_length, valD_length, Tr.vd_length, Tr.ld_length, Tr.rd_length]; done))) Fl.nil))) rfl ?_
  refine WL.box (l := _) H rfl (by rfl) rfl ?_
  intro b11 w5 H
  refine WL.as rfl rfl ?_
  refine WL.nil ?_
  refine WE.ret ?_
  refine ⟨[_], _, .nil _, ⟨rfl, trivial⟩, ?_⟩
  replace H := H.freeze (i := 0) rfl
  exact ⟨_, _, rfl, H.toOut1, H.o 0 rfl, (H.giveO (H.rob 0 rfl)).imp fun _ h => h⟩

theorem RdA.segAt {w : World} {b o o' : Nat} {l0 l : List Value} (h : RdA w ⟨b, 0, none⟩ l0) (s : Seg l0 o l) (ho : o' = o) : RdA w ⟨b, o', none⟩ l := by
  subst ho
  have := RdA.sub h s
  rwa [add_mk, Nat.zero_add] at this
theorem Rob.and3 {X : Nat → Prop} {p q r : World → Prop} {w : World} (h : Rob X p w) (h' : Rob X q w) (h'' : Rob X r w) : Rob X (fun w => p w ∧ q w ∧ r w) w := fun w' hw => ⟨h w' hw, h' w' hw, h'' w' hw⟩

theorem NewLeaf_c {X : Nat → Prop} {w : World} {bh bc : Nat} {bits n : Int} {k lv : List UInt8} {s : Value} (hX : ∀ b, X b → b < w.heap.size) (ho0 : Blk w bc 108 ([.int .i64 n])) (hf0 : Rob (fun c_ => X c_ ∨ c_ = bc) (HAt bh bc bits) w) (hf1 : Rob (fun c_ => X c_ ∨ c_ = bc) (SlB s lv) w) (hf2 : Rob (fun c_ => X c_ ∨ c_ = bc) (Rounds) w) (hbits : 0 ≤ bits ∧ bits ≤ 256) (hla : lv.length ≤ 1000000) (hk : k.length = 32) :
    Ret Tryz.prog 58 [.pointer (some ⟨bh, 0, none⟩), .agg (kc k ++ [s]).toArray].toArray w fun v w' => ∃ (T : Tr) (m : Int), v = T.ptr ∧ T.er = .leaf k lv ∧ Out (· = bc) w w' ∧ Blk w' bc 108 [.int .i64 m] ∧ Rob (fun c => X c ∨ c = bc) (TrA bits T) w' := by
  refine Ret.of_body (N := 18) Tryz.func58 rfl rfl (by simp) ?_
  have H := St.begin1 (b := bc) (t := 108) (l := [.int .i64 n]) hX ho0
  replace H := H.add (rob1 hf2)
  replace H := H.add (rob1 hf1)
  replace H := H.add (rob1 hf0)
  have hvl := valD_length bits lv
  refine WE.seq_reg ?_
  refine WL.box (l := kc k ++ [s]) H rfl (by rfl) rfl ?_
  intro b3 w1 H
  refine WL.as rfl rfl ?_
  refine WL.nil ?_
  refine WE.seq_draw (.take 0 (.take 1 (.take 2 (.take 3 (.take 4 (.take 5 (.take 7 (.take 8 (.pick1 6 (.pick1 9 (.take 10 (.take 11 (.pick1 12 (.take 13 .done)))))))))))))) TryzT.mixed (by kernel_rfl) ?_
  replace H := H.out (Out.drew _)
  refine WP.mv rfl rfl rfl ?_
  refine WP.mv rfl rfl rfl ?_
  refine WP.take_pure rfl rfl (PV.fieldAddr rfl TryzT.fd34_0 rfl) ?_
  refine WP.readA rfl rfl rfl TryzT.ag31 rfl (by exact Blk.segAt (H.l 0 rfl) (Seg.l (Seg.all _)) (by rfl)) (by (rw [TryzT.sz31]; refine congrArg some ?_; (simp only [kc_length, kw_length, List.length_replicate, List.length_append, List.length_cons, List.length_nil, cutI_length, shaOf_length, dig_length, valD_length, Tr.vd_length, Tr.ld_length, Tr.rd_length]; omega))) ?_
  refine WP.take_pure rfl rfl (PV.fieldAddr rfl TryzT.fd34_1 rfl) ?_
  refine WP.take_read rfl rfl (RV.loadOne rfl TryzT.ag32 rfl) (by exact Blk.segAt (H.l 0 rfl) (Seg.r (Seg.all _) (by with_reducible rfl)) (by (simp [kc_length, kw_length, *]; done))) ?_
  refine WP.take_pure rfl rfl (PV.fieldAddr rfl TryzT.fd34_1 rfl) ?_
  refine WP.take_read rfl rfl (RV.loadOne rfl TryzT.ag32 rfl) (by exact Blk.segAt (H.l 0 rfl) (Seg.r (Seg.all _) (by with_reducible rfl)) (by (simp [kc_length, kw_length, *]; done))) ?_
  refine WP.pick1 rfl ?_
  refine WL.call TryzT.fb93 rfl (LeafOf_c (k := k) (la := lv) H.yylt (H.o 0 rfl) (by exact H.robOld 0 rfl 0 rfl) (by exact H.robOld 0 rfl 1 rfl) (by exact H.robOld 0 rfl 2 rfl) hbits hla hk) ?_
  rintro _ w2 ⟨m1, rfl, hO, hB⟩
  replace H := H.calledO 0 rfl hO hB
  refine WL.nil ⟨(List.forall_mem_cons.2 ⟨(fun _ _ => (by exact Blk.segAt (H.l 0 rfl) (Seg.r (Seg.all _) (by with_reducible rfl)) (by (simp [kc_length, kw_length, *]; done)))), (List.forall_mem_cons.2 ⟨(by exact (fun h => absurd (show waits _ 6 5 = false from h) (by decide +kernel))), (List.forall_mem_cons.2 ⟨(by exact (fun h => absurd (show waits _ 6 3 = false from h) (by decide +kernel))), (fun _ h => by cases h)⟩)⟩)⟩), ?_⟩
  refine WP.pick1 rfl ?_
  refine WL.call TryzT.fb94 rfl (CloneO_c (la := lv) H.yylt (H.rob 1 rfl) (by omega)) ?_
  rintro s2 w3 ⟨hO, hOwn⟩
  have hr_ := (rob_own H.yylt hOwn).imp fun _ h => SlB.of_own h
  replace H := (H.out hO).add hr_
  refine WL.nil ⟨(List.forall_mem_cons.2 ⟨(by exact (fun h => absurd (show waits _ 9 8 = false from h) (by decide +kernel))), (List.forall_mem_cons.2 ⟨(by exact (fun h => absurd (show waits _ 9 5 = false from h) (by decide +kernel))), (List.forall_mem_cons.2 ⟨(by exact (fun h => absurd (show waits _ 9 3 = false from h) (by decide +kernel))), (fun _ h => by cases h)⟩)⟩)⟩), ?_⟩
  refine WP.take_pure rfl rfl (PV.buildS rfl TryzT.pl142 TryzT.ze142 (Fl.cons rfl (by rfl) (by (simp only [kc_length, kw_length, List.length_replicate, List.length_append, List.length_cons, List.length_nil, cutI_length, shaOf_length, dig_length, valD_length, Tr.vd_length, Tr.ld_length, Tr.rd_length]; omega)) (Laid.left (Laid.all (by (simp only [kc_length, kw_length, List.length_replicate, List.length_append, List.length_cons, List.length_nil, cutI_length, shaOf_length, dig_length, valD_length, Tr.vd_length, Tr.ld_length, Tr.rd_length]; omega)))) (Fl.cons rfl (SlC.cells (H.p 0 rfl)) (by (simp only [kc_length, kw_length, List.length_replicate, List.length_append, List.length_cons, List.length_nil, cutI_length, shaOf_length, dig_length, valD_length, Tr.vd_length, Tr.ld_length, Tr.rd_length]; done)) (Laid.right (Laid.all (by (simp only [kc_length, kw_length, List.length_replicate, List.length_append, List.length_cons, List.length_nil, cutI_length, shaOf_length, dig_length, valD_length, Tr.vd_length, Tr.ld_length, Tr.rd_length]; done))) (by (simp only [kc_length, kw_length, List.length_replicate, List.length_append, List.length_cons, List.length_nil, cutI_length, shaOf_length, dig_length, valD_length, Tr.vd_length, Tr.ld_length, Tr.rd_length]; omega))) Fl.nil))) ?_
  refine WP.take_pure rfl rfl (PV.mkIface rfl TryzT.cn142) ?_
  refine WP.pick1 rfl ?_
  refine WL.call TryzT.fb92 rfl (withLeaf_c (k := k) (d := valD bits lv) (s := s2) H.yylt (H.o 0 rfl) (by exact H.robOld 0 rfl 1 rfl) (by exact H.robOld 0 rfl 3 rfl) hbits hk hvl) ?_
  rintro _ w4 ⟨a2, m2, rfl, hO, hB, hR⟩
  replace H := H.calledOR 0 rfl hO hB hR
  refine WL.nil ⟨(List.forall_mem_cons.2 ⟨(by exact (fun h => absurd (show waits _ 12 8 = false from h) (by decide +kernel))), (List.forall_mem_cons.2 ⟨(by exact (fun h => absurd (show waits _ 12 5 = false from h) (by decide +kernel))), (List.forall_mem_cons.2 ⟨(by exact (fun h => absurd (show waits _ 12 3 = false from h) (by decide +kernel))), (fun _ h => by cases h)⟩)⟩)⟩), ?_⟩
  refine WP.as rfl rfl rfl ?_
  refine WP.done ?_
  refine WE.ret ?_
  refine ⟨[_], _, .nil _, ⟨rfl, trivial⟩, ?_⟩
  exact ⟨.leaf a2 k lv s2, m2, rfl, rfl, H.toOut1, H.o 0 rfl, (H.giveO ((H.rob 0 rfl).and (H.rob 1 rfl))).imp fun _ h => ⟨hk, h.2, hla, h.1⟩⟩

theorem DigestNil_c {X : Nat → Prop} {w : World} {bh bc : Nat} {bits n : Int} (hX : ∀ b, X b → b < w.heap.size) (ho0 : Blk w bc 108 ([.int .i64 n])) (hf0 : Rob (fun c_ => X c_ ∨ c_ = bc) (HAt bh bc bits) w) (hf1 : Rob (fun c_ => X c_ ∨ c_ = bc) (Rounds) w) (hbits : 0 ≤ bits ∧ bits ≤ 256) :
    Ret Tryz.prog 14 [.pointer (some ⟨bh, 0, none⟩), .pointer none].toArray w fun v w' => ∃ m, v = .agg (kc (emptyD bits)).toArray ∧ Out (· = bc) w w' ∧ Blk w' bc 108 [.int .i64 m] := by
  refine Ret.of_body (N := 14) Tryz.func14 rfl rfl (by simp) ?_
  have H := St.begin1 (b := bc) (t := 108) (l := [.int .i64 n]) hX ho0
  replace H := H.add (rob1 hf1)
  replace H := H.add (rob1 hf0)
  refine WE.seq_reg ?_
  refine WL.alloc H rfl TryzT.ze42 rfl ?_
  intro b4 w1 H
  refine WL.nil ?_
  refine WE.seq ?_
  refine WE.seq_reg ?_
  refine WL.mv rfl rfl ?_
  refine WL.pv (PV.eqlPn rfl TryzT.pt23 rfl rfl) rfl ?_
  refine WL.nil ?_
  refine WE.cond_t' rfl rfl ?_
  refine WE.seq_reg ?_
  refine WL.mv rfl rfl ?_
  refine WL.call TryzT.fb38 rfl (Empty_c H.yylt) ?_
  rintro v8 w2 ⟨hO, hR⟩
  replace H := (H.out hO).add hR
  refine WL.call TryzT.fb37 rfl (HSum_c (la := [3]) H.yylt (H.o 0 rfl) (by exact H.robOld 0 rfl 1 rfl) (by exact H.robOld 0 rfl 0 rfl) (by exact H.robOld 0 rfl 2 rfl) hbits (by simp)) ?_
  rintro _ w3 ⟨rfl, hO, hB⟩
  replace H := H.calledO 0 rfl hO hB
  refine WL.storeL H 0 rfl rfl rfl (new := _) rfl (by exact TryzT.sz42) (by exact kc_one _) (Laid.at (Laid.all (by (simp only [kc_length, kw_length, List.length_replicate, List.length_append, List.length_cons, List.length_nil, cutI_length, shaOf_length, dig_length, valD_length, Tr.vd_length, Tr.ld_length, Tr.rd_length]; done))) (by rfl)) rfl ?_
  intro w4 H
  refine WL.nil ?_
  refine WE.ret ?_
  refine ⟨[_], _, .nil _, ⟨⟨_, rfl, run_loadVar_aggR TryzT.ag42 (by exact Blk.segAt (H.l 0 rfl) (Seg.all _) rfl) (by exact TryzT.sz42)⟩, trivial⟩, ?_⟩
  exact ⟨_, rfl, H.toOut1, H.o 0 rfl⟩

theorem DigestAt_c {X : Nat → Prop} {w : World} {h : Value} {a : Nat} {t : TypeId} {L : List Value} {D : List UInt8} (hX : ∀ b, X b → b < w.heap.size) (hf0 : Rob X (NodeAt a t L D) w) (hD : D.length = 32) :
    Ret Tryz.prog 14 [h, .pointer (some ⟨a, 0, none⟩)].toArray w fun v w' => v = .agg (kc D).toArray ∧ Out Nil w w' := by
  refine Ret.of_body (N := 14) Tryz.func14 rfl rfl (by simp) ?_
  have H := St.begin hX
  replace H := H.add (rob0 hf0)
  refine WE.seq_reg ?_
  refine WL.alloc H rfl TryzT.ze42 rfl ?_
  intro b4 w1 H
  refine WL.nil ?_
  refine WE.seq ?_
  refine WE.seq_reg ?_
  refine WL.mv rfl rfl ?_
  refine WL.pv (PV.eqlPn rfl TryzT.pt23 rfl rfl) rfl ?_
  refine WL.nil ?_
  refine WE.cond_f' rfl rfl ?_
  refine WE.skip ?_
  refine WE.seq_reg ?_
  refine WL.mv rfl rfl ?_
  refine WL.pv (PV.nilCheck rfl rfl) rfl ?_
  refine WL.pv (PV.fieldAddr rfl TryzT.fd80_1 rfl) rfl ?_
  refine WL.loadR rfl TryzT.ag42 rfl rfl (RdA.segAt (Blk.rd (H.p 0 rfl)) (Seg.r (a := [.iface t (.agg L.toArray)]) (Seg.all (kc D)) rfl) rfl) (by (rw [TryzT.sz42]; refine congrArg some ?_; (simp only [kc_length, kw_length, List.length_replicate, List.length_append, List.length_cons, List.length_nil, cutI_length, shaOf_length, dig_length, valD_length, Tr.vd_length, Tr.ld_length, Tr.rd_length]; omega))) ?_
  refine WL.storeL H 0 rfl rfl rfl (new := _) rfl (by (rw [TryzT.sz42]; refine congrArg some ?_; (simp only [kc_length, kw_length, List.length_replicate, List.length_append, List.length_cons, List.length_nil, cutI_length, shaOf_length, dig_length, valD_length, Tr.vd_length, Tr.ld_length, Tr.rd_length]; omega))) (by exact kc_one _) (Laid.at (Laid.all (by (simp only [kc_length, kw_length, List.length_replicate, List.length_append, List.length_cons, List.length_nil, cutI_length, shaOf_length, dig_length, valD_length, Tr.vd_length, Tr.ld_length, Tr.rd_length]; omega))) (by rfl)) rfl ?_
  intro w2 H
  refine WL.nil ?_
  refine WE.ret ?_
  refine ⟨[_], _, .nil _, ⟨⟨_, rfl, run_loadVar_aggR TryzT.ag42 (by exact Blk.segAt (H.l 0 rfl) (Seg.all _) rfl) (by (rw [TryzT.sz42]; refine congrArg some ?_; (simp only [kc_length, kw_length, List.length_replicate, List.length_append, List.length_cons, List.length_nil, cutI_length, shaOf_length, dig_length, valD_length, Tr.vd_length, Tr.ld_length, Tr.rd_length]; omega)))⟩, trivial⟩, ?_⟩
  exact ⟨rfl, H.toOut0⟩

end Go.Sp.Tryz

set_option maxRecDepth 100000
set_option maxHeartbeats 1000000
set_option linter.unusedVariables false
set_option linter.unusedSimpArgs false
namespace Go.Sp.Tryz
open Go.Proofs Go.RowKit Go.Sp

theorem Digest_c {X : Nat → Prop} {w : World} {bh bc : Nat} {bits n : Int} {T : Tr} (hX : ∀ b, X b → b < w.heap.size) (ho0 : Blk w bc 108 [.int .i64 n]) (hf0 : Rob (fun c => X c ∨ c = bc) (HAt bh bc bits) w)
    (hf1 : Rob (fun c => X c ∨ c = bc) (TrA bits T) w) (hf2 : Rob (fun c => X c ∨ c = bc) Rounds w) (hbits : 0 ≤ bits ∧ bits ≤ 256) :
    Ret Tryz.prog 14 [.pointer (some ⟨bh, 0, none⟩), T.ptr].toArray w fun v w' => ∃ m, v = .agg (kc (T.er.dig bits)).toArray ∧ Out (· = bc) w w' ∧ Blk w' bc 108 [.int .i64 m] := by
  have old : ∀ {w' : World}, Out Nil w w' → Out (· = bc) w w' ∧ Blk w' bc 108 [.int .i64 n] := fun hO => ⟨hO.mono fun _ _ h => h.elim, ho0.of_eq (hO.block _ ho0.lt id)⟩
  cases T with
  | nil => exact DigestNil_c hX ho0 hf0 hf2 hbits
  | leaf a k v s =>
    refine (DigestAt_c (X := Nil) (D := leafD bits k v) (nilX _) ((hf1.imp fun _ h => h.2.2.2).nil) (cutI_length _ _)).mono ?_
    rintro v w' ⟨rfl, hO⟩
    exact ⟨n, rfl, old hO⟩
  | inner a l r =>
    refine (DigestAt_c (X := Nil) (D := nodeD bits (l.er.dig bits) (r.er.dig bits)) (nilX _) ((hf1.imp fun _ h => h.2.2).nil) (cutI_length _ _)).mono ?_
    rintro v w' ⟨rfl, hO⟩
    exact ⟨n, rfl, old hO⟩

theorem JoinI_c {X : Nat → Prop} {w : World} {bh bc : Nat} {bits n : Int} {l r : Tr} (hX : ∀ b, X b → b < w.heap.size) (ho0 : Blk w bc 108 ([.int .i64 n])) (hf0 : Rob (fun c_ => X c_ ∨ c_ = bc) (HAt bh bc bits) w) (hf1 : Rob (fun c_ => X c_ ∨ c_ = bc) (TrA bits l) w) (hf2 : Rob (fun c_ => X c_ ∨ c_ = bc) (TrA bits r) w) (hf3 : Rob (fun c_ => X c_ ∨ c_ = bc) (Rounds) w) (hbits : 0 ≤ bits ∧ bits ≤ 256) (hA : l.addr.isNone = true → r.er.kind = 2) (hB_ : r.addr.isNone = true → l.er.kind = 2) (hcnt : l.er.cnt + r.er.cnt ≤ 1000000000) :
    Ret Tryz.prog 59 [.pointer (some ⟨bh, 0, none⟩), l.ptr, r.ptr].toArray w fun v w' => ∃ (T : Tr) (m : Int), v = T.ptr ∧ T.er = .inner l.er r.er ∧ Out (· = bc) w w' ∧ Blk w' bc 108 [.int .i64 m] ∧ Rob (fun c => X c ∨ c = bc) (TrA bits T) w' := by
  refine Ret.of_body (N := 44) Tryz.func59 rfl rfl (by simp) ?_
  have H := St.begin1 (b := bc) (t := 108) (l := [.int .i64 n]) hX ho0
  replace H := H.add (rob1 hf3)
  replace H := H.add (rob1 hf2)
  replace H := H.add (rob1 hf1)
  replace H := H.add (rob1 hf0)
  refine WE.seq_reg ?_
  refine WL.as rfl rfl ?_
  refine WL.nil ?_
  refine WE.cut (α := Unit) [6, 8, 9, 10, 11, 12, 13, 14, 15] (fun _ => []) (fun _ wl => St X w wl [Ent.blk bc 108 [.int .i64 n]] [] [HAt bh bc bits, TrA bits l, TrA bits r, Rounds]) ?_ ?_
  · skip
    refine WE.seq_reg ?_
    refine WL.mv rfl rfl ?_
    refine WL.pv (PV.eqlPn rfl TryzT.pt23 rfl rfl) rfl ?_
    refine WL.mv rfl rfl ?_
    refine WL.split (t := 10) rfl (fun hg10 => ?_) (fun hg10 => ?_)
    · skip
      refine WL.known (t := 9) (c := true) rfl hg10 ?_
      try simp only [decide_eq_true_eq, decide_eq_false_iff_not, ne_eq, Decidable.not_not, Bool.not_eq_true', Bool.not_eq_false', Bool.and_eq_true, Bool.or_eq_true, Bool.not_not, Bool.and_eq_false_iff, Bool.or_eq_false_iff, Int.not_lt, Int.not_le] at hg10
      refine WL.mv rfl rfl ?_
      refine WL.call TryzT.fb56 rfl (NKind_c (X := Nil) (T := r) (nilX _) (by exact (H.rob 2 rfl).nil)) ?_
      rintro _ w1 ⟨rfl, hO⟩
      replace H := H.out hO
      refine WL.pv (PV.neq rfl rfl rfl) rfl ?_
      refine WL.pv (PV.pick_t rfl rfl rfl) rfl ?_
      refine WL.nil ?_
      refine WE.cond_f' rfl (by simp [hA hg10]) ?_
      refine WE.skip ?_
      exact ⟨(), (by repeat (first | with_reducible exact Off.refl _ _ | refine Off.upd rfl ?_)), trivial, rfl, H⟩
    · skip
      refine WL.known (t := 9) (c := false) rfl hg10 ?_
      try simp only [decide_eq_true_eq, decide_eq_false_iff_not, ne_eq, Decidable.not_not, Bool.not_eq_true', Bool.not_eq_false', Bool.and_eq_true, Bool.or_eq_true, Bool.not_not, Bool.and_eq_false_iff, Bool.or_eq_false_iff, Int.not_lt, Int.not_le] at hg10
      refine WL.off rfl ?_
      refine WL.off rfl ?_
      refine WL.off rfl ?_
      refine WL.pv (PV.pick_f rfl rfl rfl) rfl ?_
      refine WL.nil ?_
      refine WE.cond_f rfl ?_
      refine WE.skip ?_
      exact ⟨(), (by repeat (first | with_reducible exact Off.refl _ _ | refine Off.upd rfl ?_)), trivial, rfl, H⟩
  · skip
    intro _ γ w2 hI
    try dsimp only at hI
    replace H := hI
    refine WE.cut (α := Unit) [6, 16, 17, 18, 19, 20, 21, 22, 23] (fun _ => []) (fun _ wl => St X w wl [Ent.blk bc 108 [.int .i64 n]] [] [HAt bh bc bits, TrA bits l, TrA bits r, Rounds]) ?_ ?_
    · skip
      refine WE.seq_reg ?_
      refine WL.mv rfl rfl ?_
      refine WL.pv (PV.eqlPn rfl TryzT.pt23 rfl rfl) rfl ?_
      refine WL.mv rfl rfl ?_
      refine WL.split (t := 18) rfl (fun hg18 => ?_) (fun hg18 => ?_)
      · skip
        refine WL.known (t := 17) (c := true) rfl hg18 ?_
        try simp only [decide_eq_true_eq, decide_eq_false_iff_not, ne_eq, Decidable.not_not, Bool.not_eq_true', Bool.not_eq_false', Bool.and_eq_true, Bool.or_eq_true, Bool.not_not, Bool.and_eq_false_iff, Bool.or_eq_false_iff, Int.not_lt, Int.not_le] at hg18
        refine WL.mv rfl rfl ?_
        refine WL.call TryzT.fb56 rfl (NKind_c (X := Nil) (T := l) (nilX _) (by exact (H.rob 1 rfl).nil)) ?_
        rintro _ w3 ⟨rfl, hO⟩
        replace H := H.out hO
        refine WL.pv (PV.neq rfl rfl rfl) rfl ?_
        refine WL.pv (PV.pick_t rfl rfl rfl) rfl ?_
        refine WL.nil ?_
        refine WE.cond_f' rfl (by simp [hB_ hg18]) ?_
        refine WE.skip ?_
        exact ⟨(), (by repeat (first | with_reducible exact Off.refl _ _ | refine Off.upd rfl ?_)), trivial, rfl, H⟩
      · skip
        refine WL.known (t := 17) (c := false) rfl hg18 ?_
        try simp only [decide_eq_true_eq, decide_eq_false_iff_not, ne_eq, Decidable.not_not, Bool.not_eq_true', Bool.not_eq_false', Bool.and_eq_true, Bool.or_eq_true, Bool.not_not, Bool.and_eq_false_iff, Bool.or_eq_false_iff, Int.not_lt, Int.not_le] at hg18
        refine WL.off rfl ?_
        refine WL.off rfl ?_
        refine WL.off rfl ?_
        refine WL.pv (PV.pick_f rfl rfl rfl) rfl ?_
        refine WL.nil ?_
        refine WE.cond_f rfl ?_
        refine WE.skip ?_
        exact ⟨(), (by repeat (first | with_reducible exact Off.refl _ _ | refine Off.upd rfl ?_)), trivial, rfl, H⟩
    · skip
      intro _ γ w4 hI
      try dsimp only at hI
      replace H := hI
      refine WE.seq_reg ?_
      refine WL.mv rfl rfl ?_
      refine WL.mv rfl rfl ?_
      refine WL.pv (PV.eq (v' := .agg [l.ptr, r.ptr].toArray) (PV.buildA rfl TryzT.ar99 TryzT.sz23 TryzT.ze99 (Fl.cons rfl (by rfl) (by (simp only [kc_length, kw_length, List.length_replicate, List.length_append, List.length_cons, List.length_nil, cutI_length, shaOf_length, dig_length, valD_length, Tr.vd_length, Tr.ld_length, Tr.rd_length]; done)) (Laid.oneA 0 (by (simp only [kc_length, kw_length, List.length_replicate, List.length_append, List.length_cons, List.length_nil, cutI_length, shaOf_length, dig_length, valD_length, Tr.vd_length, Tr.ld_length, Tr.rd_length]; omega))) (Fl.cons rfl (by rfl) (by (simp only [kc_length, kw_length, List.length_replicate, List.length_append, List.length_cons, List.length_nil, cutI_length, shaOf_length, dig_length, valD_length, Tr.vd_length, Tr.ld_length, Tr.rd_length]; done)) (Laid.oneA 1 (by (simp [kc_length, kw_length, *]; done))) Fl.nil))) rfl) rfl ?_
      refine WL.alloc H rfl TryzT.ze99 rfl ?_
      intro b7 w5 H
      refine WL.storeL H 0 rfl rfl rfl (new := _) rfl (by exact TryzT.sz99) (by exact one_lit _ rfl) (Laid.at (Laid.all (by (simp only [kc_length, kw_length, List.length_replicate, List.length_append, List.length_cons, List.length_nil, cutI_length, shaOf_length, dig_length, valD_length, Tr.vd_length, Tr.ld_length, Tr.rd_length]; done))) (by rfl)) rfl ?_
      intro w6 H
      refine WL.nil ?_
      refine WE.seq_draw (.take 0 (.take 1 (.take 2 (.take 3 (.take 5 (.take 6 (.take 9 (.take 11 (.pick1 4 (.pick1 7 (.take 8 (.pick1 10 (.pick1 12 (.take 13 (.take 14 (.take 15 (.pick1 16 (.take 17 .done)))))))))))))))))) TryzT.mixed (by kernel_rfl) ?_
      replace H := H.out (Out.drew _)
      refine WP.mv rfl rfl rfl ?_
      refine WP.readA rfl rfl rfl TryzT.ag99 rfl (by exact Blk.segAt (H.l 0 rfl) (Seg.all _) (by rfl)) (by exact TryzT.sz99) ?_
      refine WP.mv rfl rfl rfl ?_
      refine WP.mv rfl rfl rfl ?_
      refine WP.mv rfl rfl rfl ?_
      refine WP.mv rfl rfl rfl ?_
      refine WP.mv rfl rfl rfl ?_
      refine WP.mv rfl rfl rfl ?_
      refine WP.pick1 rfl ?_
      refine WL.call TryzT.fb14 rfl (Digest_c (T := l) H.yylt (H.o 0 rfl) (by exact H.robOld 0 rfl 0 rfl) (by exact H.robOld 0 rfl 1 rfl) (by exact H.robOld 0 rfl 3 rfl) hbits) ?_
      rintro _ w7 ⟨mv31, rfl, hO, hB⟩
      replace H := H.calledO 0 rfl hO hB
      refine WL.nil ⟨(List.forall_mem_cons.2 ⟨(fun _ _ => (by exact Blk.segAt (H.l 0 rfl) (Seg.all _) (by rfl))), (fun _ h => by cases h)⟩), ?_⟩
      refine WP.pick1 rfl ?_
      refine WL.call TryzT.fb14 rfl (Digest_c (T := r) H.yylt (H.o 0 rfl) (by exact H.robOld 0 rfl 0 rfl) (by exact H.robOld 0 rfl 2 rfl) (by exact H.robOld 0 rfl 3 rfl) hbits) ?_
      rintro _ w8 ⟨mv34, rfl, hO, hB⟩
      replace H := H.calledO 0 rfl hO hB
      refine WL.nil ⟨(List.forall_mem_cons.2 ⟨(fun _ _ => (by exact Blk.segAt (H.l 0 rfl) (Seg.all _) (by rfl))), (fun _ h => by cases h)⟩), ?_⟩
      refine WP.take_pure rfl rfl (PV.buildA rfl TryzT.ar100 TryzT.sz42 TryzT.ze100 (Fl.cons rfl (by rfl) (by (simp only [kc_length, kw_length, List.length_replicate, List.length_append, List.length_cons, List.length_nil, cutI_length, shaOf_length, dig_length, valD_length, Tr.vd_length, Tr.ld_length, Tr.rd_length]; done)) (Laid.left (Laid.all (by (simp only [kc_length, kw_length, List.length_replicate, List.length_append, List.length_cons, List.length_nil, cutI_length, shaOf_length, dig_length, valD_length, Tr.vd_length, Tr.ld_length, Tr.rd_length]; done)))) (Fl.cons rfl (by rfl) (by (simp only [kc_length, kw_length, List.length_replicate, List.length_append, List.length_cons, List.length_nil, cutI_length, shaOf_length, dig_length, valD_length, Tr.vd_length, Tr.ld_length, Tr.rd_length]; done)) (Laid.right (Laid.all (by (simp only [kc_length, kw_length, List.length_replicate, List.length_append, List.length_cons, List.length_nil, cutI_length, shaOf_length, dig_length, valD_length, Tr.vd_length, Tr.ld_length, Tr.rd_length]; done))) (by (simp only [kc_length, kw_length, List.length_replicate, List.length_append, List.length_cons, List.length_nil, cutI_length, shaOf_length, dig_length, valD_length, Tr.vd_length, Tr.ld_length, Tr.rd_length]; done))) Fl.nil))) ?_
      refine WP.pick1 rfl ?_
      refine WL.call TryzT.fb27 rfl (Len_c (X := Nil) (T := l) (nilX _) (by exact (H.rob 1 rfl).nil)) ?_
      rintro _ w9 ⟨rfl, hO⟩
      replace H := H.out hO
      refine WL.nil ⟨(List.forall_mem_cons.2 ⟨(fun _ _ => (by exact Blk.segAt (H.l 0 rfl) (Seg.all _) (by rfl))), (fun _ h => by cases h)⟩), ?_⟩
      refine WP.pick1 rfl ?_
      refine WL.call TryzT.fb27 rfl (Len_c (X := Nil) (T := r) (nilX _) (by exact (H.rob 2 rfl).nil)) ?_
      rintro _ w10 ⟨rfl, hO⟩
      replace H := H.out hO
      refine WL.nil ⟨(List.forall_mem_cons.2 ⟨(fun _ _ => (by exact Blk.segAt (H.l 0 rfl) (Seg.all _) (by rfl))), (fun _ h => by cases h)⟩), ?_⟩
      refine WP.take_pure rfl rfl (PV.eq (v' := .int .i64 ((l.er.cnt + r.er.cnt : Nat) : Int)) (PV.add64 rfl rfl rfl (by omega) (by omega)) (by congr 1)) ?_
      refine WP.take_pure rfl rfl (PV.buildS rfl TryzT.pl102 TryzT.ze102 (Fl.cons rfl (by rfl) (by (simp only [kc_length, kw_length, List.length_replicate, List.length_append, List.length_cons, List.length_nil, cutI_length, shaOf_length, dig_length, valD_length, Tr.vd_length, Tr.ld_length, Tr.rd_length]; done)) (Laid.left (Laid.all (by (simp only [kc_length, kw_length, List.length_replicate, List.length_append, List.length_cons, List.length_nil, cutI_length, shaOf_length, dig_length, valD_length, Tr.vd_length, Tr.ld_length, Tr.rd_length]; done)))) (Fl.cons rfl (by rfl) (by (simp only [kc_length, kw_length, List.length_replicate, List.length_append, List.length_cons, List.length_nil, cutI_length, shaOf_length, dig_length, valD_length, Tr.vd_length, Tr.ld_length, Tr.rd_length]; done)) (Laid.right (Laid.left (Laid.all (by (simp only [kc_length, kw_length, List.length_replicate, List.length_append, List.length_cons, List.length_nil, cutI_length, shaOf_length, dig_length, valD_length, Tr.vd_length, Tr.ld_length, Tr.rd_length]; done)))) (by (simp only [kc_length, kw_length, List.length_replicate, List.length_append, List.length_cons, List.length_nil, cutI_length, shaOf_length, dig_length, valD_length, Tr.vd_length, Tr.ld_length, Tr.rd_length]; done))) (Fl.cons rfl (by rfl) (by (simp only [kc_length, kw_length, List.length_replicate, List.length_append, List.length_cons, List.length_nil, cutI_length, shaOf_length, dig_length, valD_length, Tr.vd_length, Tr.ld_length, Tr.rd_length]; done)) (Laid.right (Laid.right (Laid.all (by (simp only [kc_length, kw_length, List.length_replicate, List.length_append, List.length_cons, List.length_nil, cutI_length, shaOf_length, dig_length, valD_length, Tr.vd_length, Tr.ld_length, Tr.rd_length]; done))) (by with_reducible rfl)) (by (simp only [kc_length, kw_length, List.length_replicate, List.length_append, List.length_cons, List.length_nil, cutI_length, shaOf_length, dig_length, valD_length, Tr.vd_length, Tr.ld_length, Tr.rd_length]; done))) Fl.nil)))) ?_
      refine WP.take_pure rfl rfl (PV.mkIface rfl TryzT.cn102) ?_
      refine WP.pick1 rfl ?_
      refine WL.call TryzT.fb92 rfl (withInner_c (d := l.er.dig bits) (e := r.er.dig bits) (x := l.ptr) (y := r.ptr) H.yylt (H.o 0 rfl) (by exact H.robOld 0 rfl 0 rfl) (by exact H.robOld 0 rfl 3 rfl) hbits (dig_length _ _) (dig_length _ _)) ?_
      rintro _ w11 ⟨a2, m2, rfl, hO, hB, hR⟩
      replace H := H.calledOR 0 rfl hO hB hR
      refine WL.nil ⟨(List.forall_mem_cons.2 ⟨(by exact (fun h => absurd (show waits _ 16 1 = false from h) (by decide +kernel))), (fun _ h => by cases h)⟩), ?_⟩
      refine WP.as rfl rfl rfl ?_
      refine WP.done ?_
      refine WE.ret ?_
      refine ⟨[_], _, .nil _, ⟨rfl, trivial⟩, ?_⟩
      exact ⟨.inner a2 l r, m2, rfl, rfl, H.toOut1, H.o 0 rfl, (H.giveO (Rob.and3 (H.rob 2 rfl) (H.rob 3 rfl) (H.rob 0 rfl))).imp fun _ h => h⟩

theorem JoinL_c {X : Nat → Prop} {w : World} {h : Value} {bits : Int} {r : Tr} (hX : ∀ b, X b → b < w.heap.size) (hf0 : Rob X (TrA bits r) w) (hk : r.er.kind ≠ 2) :
    Ret Tryz.prog 59 [h, .pointer none, r.ptr].toArray w fun v w' => v = r.ptr ∧ Out Nil w w' := by
  refine Ret.of_body (N := 44) Tryz.func59 rfl rfl (by simp) ?_
  have H := St.begin hX
  replace H := H.add (rob0 hf0)
  refine WE.seq_reg ?_
  refine WL.as rfl rfl ?_
  refine WL.nil ?_
  refine WE.seq ?_
  refine WE.seq_reg ?_
  refine WL.mv rfl rfl ?_
  refine WL.pv (PV.eqlPn rfl TryzT.pt23 rfl rfl) rfl ?_
  refine WL.mv rfl rfl ?_
  refine WL.known (t := 10) (c := true) rfl rfl ?_
  refine WL.mv rfl rfl ?_
  refine WL.call TryzT.fb56 rfl (NKind_c (T := r) H.yylt (H.rob 0 rfl)) ?_
  rintro _ w1 ⟨rfl, hO⟩
  replace H := H.out hO
  refine WL.pv (PV.neq rfl rfl rfl) rfl ?_
  refine WL.pv (PV.pick_t rfl rfl rfl) rfl ?_
  refine WL.nil ?_
  refine WE.cond_t' rfl (by simp [hk]) ?_
  refine WE.seq_reg ?_
  refine WL.mv rfl rfl ?_
  refine WL.as rfl rfl ?_
  refine WL.nil ?_
  refine WE.ret ?_
  refine ⟨[_], _, .nil _, ⟨rfl, trivial⟩, ?_⟩
  exact ⟨rfl, H.toOut0⟩

theorem JoinR_c {X : Nat → Prop} {w : World} {h : Value} {bits : Int} {l : Tr} (hX : ∀ b, X b → b < w.heap.size) (hf0 : Rob X (TrA bits l) w) (hn : l.addr.isNone = false) (hk : l.er.kind ≠ 2) :
    Ret Tryz.prog 59 [h, l.ptr, .pointer none].toArray w fun v w' => v = l.ptr ∧ Out Nil w w' := by
  refine Ret.of_body (N := 44) Tryz.func59 rfl rfl (by simp) ?_
  have H := St.begin hX
  replace H := H.add (rob0 hf0)
  refine WE.seq_reg ?_
  refine WL.as rfl rfl ?_
  refine WL.nil ?_
  refine WE.seq ?_
  refine WE.seq_reg ?_
  refine WL.mv rfl rfl ?_
  refine WL.pv (PV.eqlPn rfl TryzT.pt23 rfl rfl) rfl ?_
  refine WL.mv rfl rfl ?_
  refine WL.known (t := 10) (c := false) rfl hn ?_
  refine WL.off rfl ?_
  refine WL.off rfl ?_
  refine WL.off rfl ?_
  refine WL.pv (PV.pick_f rfl rfl rfl) rfl ?_
  refine WL.nil ?_
  refine WE.cond_f rfl ?_
  refine WE.skip ?_
  refine WE.seq ?_
  refine WE.seq_reg ?_
  refine WL.mv rfl rfl ?_
  refine WL.pv (PV.eqlPn rfl TryzT.pt23 rfl rfl) rfl ?_
  refine WL.mv rfl rfl ?_
  refine WL.known (t := 18) (c := true) rfl rfl ?_
  refine WL.mv rfl rfl ?_
  refine WL.call TryzT.fb56 rfl (NKind_c (T := l) H.yylt (H.rob 0 rfl)) ?_
  rintro _ w1 ⟨rfl, hO⟩
  replace H := H.out hO
  refine WL.pv (PV.neq rfl rfl rfl) rfl ?_
  refine WL.pv (PV.pick_t rfl rfl rfl) rfl ?_
  refine WL.nil ?_
  refine WE.cond_t' rfl (by simp [hk]) ?_
  refine WE.seq_reg ?_
  refine WL.mv rfl rfl ?_
  refine WL.as rfl rfl ?_
  refine WL.nil ?_
  refine WE.ret ?_
  refine ⟨[_], _, .nil _, ⟨rfl, trivial⟩, ?_⟩
  exact ⟨rfl, H.toOut0⟩

theorem Tr.nil_of {T : Tr} (h : T.addr.isNone = true) : T = .nil := by cases T <;> first | rfl | cases h
theorem Tr.addr_not {T : Tr} (h : T ≠ .nil) : T.addr.isNone = false := by cases T <;> first | rfl | exact absurd rfl h
theorem joinS_l {s : Sh} (h : s.kind ≠ 2) : joinS .nil s = s := by cases s <;> first | rfl | exact absurd rfl h
theorem joinS_r {s : Sh} (h : s.kind ≠ 2) : joinS s .nil = s := by cases s <;> first | rfl | exact absurd rfl h
theorem joinS_i {s t : Sh} (h1 : s = .nil → t.kind = 2) (h2 : t = .nil → s.kind = 2) : joinS s t = .inner s t := by
  cases s <;> cases t <;> first | rfl | (have := h1 rfl; simp [Sh.kind] at this; done) | (have := h2 rfl; simp [Sh.kind] at this)
theorem Join_c {X : Nat → Prop} {w : World} {bh bc : Nat} {bits n : Int} {l r : Tr} (hX : ∀ b, X b → b < w.heap.size) (ho0 : Blk w bc 108 [.int .i64 n]) (hf0 : Rob (fun c => X c ∨ c = bc) (HAt bh bc bits) w)
    (hf1 : Rob (fun c => X c ∨ c = bc) (TrA bits l) w) (hf2 : Rob (fun c => X c ∨ c = bc) (TrA bits r) w) (hf3 : Rob (fun c => X c ∨ c = bc) Rounds w) (hbits : 0 ≤ bits ∧ bits ≤ 256) (hcnt : l.er.cnt + r.er.cnt ≤ 1000000000) :
    Ret Tryz.prog 59 [.pointer (some ⟨bh, 0, none⟩), l.ptr, r.ptr].toArray w fun v w' => ∃ (T : Tr) (m : Int), v = T.ptr ∧ T.er = joinS l.er r.er ∧ Out (· = bc) w w' ∧ Blk w' bc 108 [.int .i64 m] ∧ Rob (fun c => X c ∨ c = bc) (TrA bits T) w' := by
  have old : ∀ {w' : World}, Out Nil w w' → Out (· = bc) w w' ∧ Blk w' bc 108 [.int .i64 n] := fun hO => ⟨hO.mono fun _ _ h => h.elim, ho0.of_eq (hO.block _ ho0.lt id)⟩
  have rob : ∀ {w' : World} {T : Tr}, Rob (fun c => X c ∨ c = bc) (TrA bits T) w → Out Nil w w' → Rob (fun c => X c ∨ c = bc) (TrA bits T) w' := fun h hO => h.out hO (fun _ _ h => h.elim) fun _ _ h => h
  by_cases h1 : l = .nil ∧ r.er.kind ≠ 2
  · obtain ⟨rfl, hk⟩ := h1
    refine (JoinL_c (X := Nil) (nilX _) hf2.nil hk).mono ?_
    rintro v w' ⟨rfl, hO⟩
    exact ⟨r, n, rfl, (joinS_l hk).symm, (old hO).1, (old hO).2, rob hf2 hO⟩
  · by_cases h2 : r = .nil ∧ l.er.kind ≠ 2
    · obtain ⟨rfl, hk⟩ := h2
      have hn : l ≠ .nil := fun e => h1 ⟨e, by simp [Tr.er, Sh.kind]⟩
      refine (JoinR_c (X := Nil) (nilX _) hf1.nil (Tr.addr_not hn) hk).mono ?_
      rintro v w' ⟨rfl, hO⟩
      exact ⟨l, n, rfl, (joinS_r hk).symm, (old hO).1, (old hO).2, rob hf1 hO⟩
    · have e1 : l = .nil → r.er.kind = 2 := fun e => Decidable.byContradiction fun h => h1 ⟨e, h⟩
      have e2 : r = .nil → l.er.kind = 2 := fun e => Decidable.byContradiction fun h => h2 ⟨e, h⟩
      refine (JoinI_c hX ho0 hf0 hf1 hf2 hf3 hbits (fun h => e1 (Tr.nil_of h)) (fun h => e2 (Tr.nil_of h)) hcnt).mono ?_
      rintro v w' ⟨T, m, rfl, hT, h⟩
      refine ⟨T, m, rfl, ?_, h⟩
      rw [hT, joinS_i]
      · intro e; cases l <;> first | exact e1 rfl | cases e
      · intro e; cases r <;> first | exact e2 rfl | cases e

end Go.Sp.Tryz

