/- Part of the proof of this claim: walks through the program's functions and the plain laws that they need, printed by a program of this session. -/
import Derived.Test.YthkombhebdjamaaGreatDoorP2
import Derived.Test.YthkombhebdjamaaGreatDoorP1
import Derived.Test.YthkombhebdjamaaGreatDoorErrs
import Derived.Test.YthkombhebdjamaaGreatDoorMk
import Derived.Test.YthkombhebdjamaaGreatDoorSeq
set_option maxRecDepth 100000
set_option maxHeartbeats 1000000
set_option linter.unusedVariables false
set_option linter.unusedSimpArgs false
namespace Go.Sp.Tryz
open Go.Proofs Go.RowKit Go.Sp Go.Sp.TryzT
variable {X : Nat → Prop} {w : World}
section
variable {r : Option Nat} {N : Nat} {σ : Env} {ds : List Deferred} {w : World} {ops : Array Oper} {rest : List Oper} {K : Env → List Deferred → World → Prop}
end
theorem R1 (B : List UInt8) (i : Nat) (x : UInt8) (j : Nat) (hi : i / 8 < B.length) : bH (B.set (i / 8) x) j = if j / 8 = i / 8 then x.toNat / 2 ^ (7 - j % 8) % 2 else bH B j := by
 unfold bH
 by_cases h : j / 8 = i / 8
 ·
  rw [if_pos h, h, List.getD_eq_getElem?_getD, List.getElem?_set_self hi]; rfl
 ·
  rw [if_neg h, List.getD_eq_getElem?_getD, List.getElem?_set_ne (fun e => h e.symm), ← List.getD_eq_getElem?_getD]
theorem SG : ∀ r s : Fin 8, ∀ x : Fin 256, x.val / 2 ^ (7 - r.val) % 2 = 0 → x.val + 2 ^ (7 - r.val) < 256 ∧ (x.val + 2 ^ (7 - r.val)) / 2 ^ (7 - s.val) % 2 = if s = r then 1 else x.val / 2 ^ (7 - s.val) % 2 := by decide +kernel
theorem N3 : ∀ r s : Fin 8, ∀ x : Fin 256, x.val / 2 ^ (7 - r.val) % 2 = 1 → 2 ^ (7 - r.val) ≤ x.val ∧ (x.val - 2 ^ (7 - r.val)) / 2 ^ (7 - s.val) % 2 = if s = r then 0 else x.val / 2 ^ (7 - s.val) % 2 := by decide +kernel
theorem jS (B : List UInt8) (i : Nat) : (nG B i).length = B.length := by unfold nG; rw [List.length_set]
theorem AJ {B : List UInt8} (hB : B.length = 32) {i : Nat} (hi : i < 256) (j : Nat) : bH (nG B i) j = if j = i then 1 - bH B i else bH B j := by
 unfold nG
 rw [R1 _ _ _ _ (by omega)]
 have hx := UInt8.toNat_lt (B.getD (i / 8) 0)
 by_cases hj : j / 8 = i / 8
 ·
  rw [if_pos hj]
  have hjx : bH B j = (B.getD (i / 8) 0).toNat / 2 ^ (7 - j % 8) % 2 := by unfold bH; rw [hj]
  have hix : bH B i = (B.getD (i / 8) 0).toNat / 2 ^ (7 - i % 8) % 2 := rfl
  by_cases h0 : bH B i = 0
  ·
   rw [if_pos h0]
   have h1 := SG ⟨i % 8, by omega⟩ ⟨j % 8, by omega⟩ ⟨(B.getD (i / 8) 0).toNat, hx⟩ (by rw [← h0]; rfl)
   dsimp only at h1
   rw [UInt8.toNat_ofNat', Nat.mod_eq_of_lt h1.1, h1.2]
   by_cases hji : j = i
   ·
    subst hji; rw [if_pos rfl, if_pos rfl, h0]
   ·
    rw [if_neg hji, if_neg (fun h => hji (by have h2 := congrArg Fin.val h; dsimp only at h2; omega)), hjx]
  ·
   have h01 : bH B i = 1 := by have := eA B i; omega
   rw [if_neg h0]
   have h1 := N3 ⟨i % 8, by omega⟩ ⟨j % 8, by omega⟩ ⟨(B.getD (i / 8) 0).toNat, hx⟩ (by rw [← h01]; rfl)
   dsimp only at h1
   rw [UInt8.toNat_ofNat', Nat.mod_eq_of_lt (Nat.lt_of_le_of_lt (Nat.sub_le _ _) hx), h1.2]
   by_cases hji : j = i
   ·
    subst hji; rw [if_pos rfl, if_pos rfl, h01]
   ·
    rw [if_neg hji, if_neg (fun h => hji (by have h2 := congrArg Fin.val h; dsimp only at h2; omega)), hjx]
 ·
  rw [if_neg hj, if_neg (fun h => hj (by rw [h]))]
def oM (B : List UInt8) (i : Nat) : List UInt8 := if bH B i = 1 then B else nG B i
def pG (B : List UInt8) (i : Nat) : List UInt8 := if bH B i = 1 then nG B i else B
theorem aX (B : List UInt8) (i : Nat) : (oM B i).length = B.length := by unfold oM; split; rfl; exact jS B i
theorem BE (B : List UInt8) (i : Nat) : (pG B i).length = B.length := by unfold pG; split; exact jS B i; rfl
theorem MG {B : List UInt8} (hB : B.length = 32) {i : Nat} (hi : i < 256) (j : Nat) : bH (oM B i) j = if j = i then 1 else bH B j := by
 unfold oM
 split
 ·
  rename_i h; split
  ·
   rename_i e; rw [e, h]
  ·
   rfl
 ·
  rename_i h
  have := eA B i
  rw [AJ hB hi, show bH B i = 0 by omega]
theorem uA {B : List UInt8} (hB : B.length = 32) {i : Nat} (hi : i < 256) (j : Nat) : bH (pG B i) j = if j = i then 0 else bH B j := by
 unfold pG
 split
 ·
  rename_i h
  rw [AJ hB hi, h]
 ·
  rename_i h
  have := eA B i
  split
  ·
   rename_i e; rw [e]; omega
  ·
   rfl
def bitsOf (B : List UInt8) (n : Nat) : List Nat := (List.range n).filter fun i => decide (bH B i = 1)
theorem uO (B : List UInt8) (n : Nat) : bitsOf B (n + 1) = if bH B n = 1 then bitsOf B n ++ [n] else bitsOf B n := by
 unfold bitsOf
 rw [List.range_succ, List.filter_append]
 split
 ·
  rename_i h; simp [h]
 ·
  rename_i h; simp [h]
theorem rG (B : List UInt8) (n : Nat) : (bitsOf B n).length ≤ n := by
 have := List.length_filter_le (fun i => decide (bH B i = 1)) (List.range n)
 rw [List.length_range] at this
 exact this
theorem u3 (B : List UInt8) (n : Nat) : (bitsOf B n).Pairwise (· < ·) := List.Pairwise.filter _ List.pairwise_lt_range
def qX : List UInt8 := List.replicate 32 0
theorem tZ (i : Nat) : bH qX i = 0 := by
 unfold bH qX
 have : (List.replicate 32 (0 : UInt8)).getD (i / 8) 0 = 0 := by
  rw [List.getD_eq_getElem?_getD, List.getElem?_replicate]; split <;> rfl
 rw [this]; simp
def pop8 (x : Nat) : Nat := ((List.range 8).filter fun j => decide (x / 2 ^ (7 - j) % 2 = 1)).length
theorem IY (x : Nat) : pop8 x ≤ 8 := by
 have := List.length_filter_le (fun j => decide (x / 2 ^ (7 - j) % 2 = 1)) (List.range 8)
 rw [List.length_range] at this
 exact this
theorem EY (B : List UInt8) (i : Nat) : (bitsOf B (8 * (i + 1))).length = (bitsOf B (8 * i)).length + pop8 (B.getD i 0).toNat := by
 unfold bitsOf pop8
 rw [show 8 * (i + 1) = 8 * i + 8 by omega, List.range_add, List.filter_append, List.length_append, List.filter_map, List.length_map]
 congr 2
 refine List.filter_congr fun j hj => ?_
 have hj' := List.mem_range.1 hj
 show decide (bH B (8 * i + j) = 1) = _
 unfold bH
 rw [show (8 * i + j) / 8 = i by omega, show (8 * i + j) % 8 = j by omega]
def o8 (T : Tr) (k : List UInt8) (j : Nat) : Tr := (T.iF k 0 j).beside k j
def zK (T : Tr) (k : List UInt8) (j : Nat) : Bool := decide ((o8 T k j).er.kind ≠ 0)
def O9 (T : Tr) (k : List UInt8) (n : Nat) : List Nat := (List.range n).filter (zK T k)
def lF (T : Tr) (k : List UInt8) : Nat → List UInt8
 | 0 => qX
 | j + 1 => if zK T k j then oM (lF T k j) j else lF T k j
def fZ (bits : Int) (T : Tr) (k : List UInt8) (n : Nat) : List (List UInt8) := (O9 T k n).map fun j => (o8 T k j).er.lV bits
theorem DJ (T : Tr) (k : List UInt8) (n : Nat) : O9 T k (n + 1) = if zK T k n then O9 T k n ++ [n] else O9 T k n := by
 unfold O9
 rw [List.range_succ, List.filter_append]
 split
 ·
  rename_i h; simp [h]
 ·
  rename_i h; simp [h]
theorem zF (bits : Int) (T : Tr) (k : List UInt8) (n : Nat) : fZ bits T k (n + 1) = if zK T k n then fZ bits T k n ++ [(o8 T k n).er.lV bits] else fZ bits T k n := by
 unfold fZ
 rw [DJ]
 split <;> simp
theorem DA (bits : Int) (T : Tr) (k : List UInt8) (n : Nat) : (fZ bits T k n).length ≤ n := by
 unfold fZ O9
 rw [List.length_map]
 have := List.length_filter_le (zK T k) (List.range n)
 rw [List.length_range] at this
 exact this
theorem bE (T : Tr) (k : List UInt8) : ∀ n, (lF T k n).length = 32
 | 0 => rfl
 | n + 1 => by
  show (if zK T k n then oM (lF T k n) n else lF T k n).length = 32
  split
  ·
   rw [aX, bE T k n]
  ·
   exact bE T k n
theorem A9 (T : Tr) (k : List UInt8) : ∀ n, n ≤ 256 → ∀ i, bH (lF T k n) i = if i < n ∧ zK T k i = true then 1 else 0
 | 0, _, i => by rw [if_neg (by omega)]; exact tZ i
 | n + 1, hn, i => by
  have ih := A9 T k n (by omega) i
  show bH (if zK T k n then oM (lF T k n) n else lF T k n) i = _
  split
  ·
   rename_i h
   rw [MG (bE T k n) (by omega), ih]
   by_cases hi : i = n
   ·
    subst hi; rw [if_pos rfl, if_pos ⟨by omega, h⟩]
   ·
    rw [if_neg hi]
    by_cases h2 : i < n ∧ zK T k i = true
    ·
     rw [if_pos h2, if_pos ⟨by omega, h2.2⟩]
    ·
     rw [if_neg h2, if_neg (fun h3 => h2 ⟨by omega, h3.2⟩)]
  ·
   rename_i h
   rw [ih]
   by_cases h2 : i < n ∧ zK T k i = true
   ·
    rw [if_pos h2, if_pos ⟨by omega, h2.2⟩]
   ·
    rw [if_neg h2, if_neg (fun h3 => h2 ⟨by
     rcases Nat.lt_or_ge i n with h4 | h4
     ·
      exact h4
     ·
      have h5 : i = n := by omega
      rw [h5] at h3; exact absurd h3.2 h, h3.2⟩)]
theorem wK {T : Tr} {k : List UInt8} {n : Nat} (hn : n ≤ 256) : bitsOf (lF T k n) 256 = O9 T k n := by
 unfold bitsOf O9
 rw [show 256 = n + (256 - n) by omega, List.range_add, List.filter_append, List.filter_map]
 have e1 : (List.range n).filter (fun i => decide (bH (lF T k n) i = 1)) = (List.range n).filter (zK T k) := List.filter_congr fun i hi => by
  have hi' := List.mem_range.1 hi
  rw [A9 T k n hn]
  cases h : zK T k i
  ·
   rw [if_neg (by simp)]; rfl
  ·
   rw [if_pos ⟨hi', rfl⟩]; rfl
 have e2 : (List.range (256 - n)).filter ((fun i => decide (bH (lF T k n) i = 1)) ∘ fun x => n + x) = [] := by
  rw [List.filter_eq_nil_iff]
  intro i _
  show ¬ decide (bH (lF T k n) (n + i) = 1) = true
  rw [A9 T k n hn, if_neg (by omega)]
  decide
 rw [e1, e2]; simp
theorem U3 {T : Tr} {m : List En} {k : List UInt8} (hT : T.er = grow 0 m) (hp : Pm 0 m) {n : Nat} (hn : T.dp k 0 = n + 1) : zK T k n = true := by
 have h1 := AM (k := k) hT hp n (by omega)
 have h2 := grow_step k h1.1 h1.2 (Tr.rJ n 0 T (by omega))
 have h3 := R6 (k := k) hT hp (i := n) (by omega)
 have h4 := B5 (k := k) hT hp
 rw [hn] at h4
 have h5 := mV (B6 k 0 m n) (n + 0)
 have hb := eA k n
 have zS : bH k (n + 0) = bH k n := rfl
 have e1 : B6 k 0 m (n + 1) = bR (B6 k 0 m n) (n + 0) (bH k (n + 0)) := rfl
 rw [e1] at h4
 have h6 : 1 ≤ (bR (B6 k 0 m n) (n + 0) (1 - bH k (n + 0))).length := by
  rcases Nat.lt_or_ge (bH k n) 1 with h | h
  ·
   have h0 : bH k (n + 0) = 0 := by omega
   rw [h0] at h4 ⊢
   show 1 ≤ (bR (B6 k 0 m n) (n + 0) 1).length
   have := h3.1
   omega
  ·
   have h0 : bH k (n + 0) = 1 := by omega
   rw [h0] at h4 ⊢
   show 1 ≤ (bR (B6 k 0 m n) (n + 0) 0).length
   have := h3.1
   omega
 unfold zK
 rw [decide_eq_true_iff]
 intro h7
 have h8 : (o8 T k n).er = grow (n + 0 + 1) (bR (B6 k 0 m n) (n + 0) (1 - bH k (n + 0))) := h2.2.2.2
 have h9 : (o8 T k n).er.fU = (bR (B6 k 0 m n) (n + 0) (1 - bH k (n + 0))).length := by rw [h8]; exact nE (h1.2.part h2.1 _)
 have h10 : (o8 T k n).er.fU = 0 := by
  revert h7
  cases (o8 T k n).er with
  | nil => intro _; rfl
  | leaf => intro h; cases h
  | inner => intro h; cases h
 omega
theorem O8 {T : Tr} {m : List En} {k : List UInt8} (hT : T.er = grow 0 m) (hp : Pm 0 m) : (O9 T k (T.dp k 0)).getLast? = if T.dp k 0 = 0 then none else some (T.dp k 0 - 1) := by
 cases hn : T.dp k 0 with
 | zero => rfl
 | succ n =>
  rw [DJ, if_pos (U3 hT hp hn), if_neg (by omega)]
  simp
structure iG (kind dp : Nat) (lk lv B : List UInt8) (sb : List (List UInt8)) : Prop where
 kd : kind = 0 ∨ kind = 1
 L8 : dp ≤ 256
 tJ : lk.length = 32
 lvl : lv.length = 32
 lz : kind = 0 → lk = qX ∧ lv = qX
 bl : B.length = 32
 last : (bitsOf B 256).getLast? = if dp = 0 then none else some (dp - 1)
 fU : sb.length = (bitsOf B 256).length
 sl : ∀ s ∈ sb, s.length = 32
def mC (out : List (List UInt8)) : List Nat → List (List UInt8) → List (List UInt8)
 | d :: ds, s :: sb => mC (out.set d s) ds sb
 | _, _ => out
theorem tQ : ∀ (ds : List Nat) (sb out : List (List UInt8)), (mC out ds sb).length = out.length
 | [], sb, out => by cases sb <;> rfl
 | d :: ds, [], out => rfl
 | d :: ds, s :: sb, out => by
  show (mC (out.set d s) ds sb).length = _
  rw [tQ ds sb, List.length_set]
theorem zY (f : Nat → List UInt8) (e : List UInt8) (n : Nat) : ∀ (ds : List Nat) (g : Nat → List UInt8), ds.Pairwise (· < ·) → (∀ d ∈ ds, d < n) → mC ((List.range n).map g) ds (ds.map f) = (List.range n).map fun d => if d ∈ ds then f d else g d
 | [], g, _, _ => by simp [mC]
 | d :: ds, g, hp, hn => by
  have h1 := List.pairwise_cons.1 hp
  have e1 : ((List.range n).map g).set d (f d) = (List.range n).map fun x => if x = d then f d else g x := by
   refine List.ext_getElem (by simp) fun i h2 h3 => ?_
   rw [List.getElem_set]
   simp only [List.getElem_map, List.getElem_range]
   by_cases h : d = i
   ·
    rw [if_pos h, if_pos h.symm]
   ·
    rw [if_neg h, if_neg (fun h' => h h'.symm)]
  show mC (((List.range n).map g).set d (f d)) ds (ds.map f) = _
  rw [e1, zY f e n ds _ h1.2 fun x hx => hn x (List.mem_cons_of_mem _ hx)]
  refine List.map_congr_left fun x _ => ?_
  by_cases hx : x ∈ ds
  ·
   rw [if_pos hx, if_pos (List.mem_cons_of_mem _ hx)]
  ·
   rw [if_neg hx]
   by_cases hxd : x = d
   ·
    subst hxd; rw [if_pos rfl, if_pos (by simp)]
   ·
    rw [if_neg hxd, if_neg (by simp [hxd, hx])]
def rS (bits : Int) (k : List UInt8) (d : Nat) (s below : List UInt8) : List UInt8 := if bH k d = 0 then uL bits below s else uL bits s below
def upD (bits : Int) (k : List UInt8) (AZ : List (List UInt8)) : Nat → List UInt8 → List UInt8
 | 0, b => b
 | d + 1, b => upD bits k AZ d (rS bits k d (AZ.getD d []) b)
theorem CS {bits : Int} {T : Tr} {k : List UInt8} {AZ : List (List UInt8)} : ∀ n, n ≤ T.dp k 0 → (∀ d, d < n → AZ.getD d [] = (o8 T k d).er.lV bits) → upD bits k AZ n ((T.iF k 0 n).er.lV bits) = T.er.lV bits
 | 0, _, _ => rfl
 | n + 1, hn, hs => by
  have ih := CS (bits := bits) (T := T) (k := k) (AZ := AZ) n (by omega) fun d hd => hs d (by omega)
  show upD bits k AZ n (rS bits k n (AZ.getD n []) ((T.iF k 0 (n + 1)).er.lV bits)) = _
  rw [← ih, hs n (by omega)]
  congr 1
  obtain ⟨a, l, r, e⟩ := Tr.zQ (Tr.rJ (k := k) n 0 T (by omega))
  have e1 : T.iF k 0 (n + 1) = (T.iF k 0 n).step k (n + 0) := rfl
  have hb := eA k n
  unfold rS o8
  rw [e1, e]
  unfold Tr.step Tr.beside Tr.child
  by_cases h : bH k n = 0
  ·
   rw [if_pos h, if_pos (show bH k (n + 0) = 0 from h), if_neg (by omega)]; rfl
  ·
   rw [if_neg h, if_neg (show ¬ bH k (n + 0) = 0 from h), if_pos (by omega)]; rfl
theorem RE {bits : Int} {T : Tr} {k : List UInt8} {n : Nat} : mC (List.replicate n (lK bits)) (O9 T k n) (fZ bits T k n) = (List.range n).map fun d => (o8 T k d).er.lV bits := by
 have e0 : List.replicate n (lK bits) = (List.range n).map fun _ => lK bits := by
  refine List.ext_getElem (by simp) fun i h1 h2 => ?_
  simp
 rw [e0]
 unfold fZ
 rw [zY _ (lK bits) n (O9 T k n) _ (List.Pairwise.filter _ List.pairwise_lt_range) fun d hd => List.mem_range.1 (List.mem_filter.1 hd).1]
 refine List.map_congr_left fun d hd => ?_
 split
 ·
  rfl
 ·
  rename_i h
  have h1 : ¬ zK T k d = true := fun h2 => h (List.mem_filter.2 ⟨hd, h2⟩)
  unfold zK at h1
  rw [decide_eq_true_iff, ne_eq, Decidable.not_not] at h1
  revert h1
  cases (o8 T k d).er with
  | nil => intro _; rfl
  | leaf => intro h; cases h
  | inner => intro h; cases h
theorem vG {m : List En} {k : List UInt8} {e : En} (h : getM m k = some e) : e ∈ m ∧ e.k = k := ⟨List.mem_of_find?_eq_some h, by have := List.find?_some h; simpa using this⟩
def gS (m : List En) (k : List UInt8) : Value := match getM m k with | some e => e.s | none => .slice none 0 0
def gV (m : List En) (k : List UInt8) : List UInt8 := match getM m k with | some e => e.v | none => []
theorem GU {m : List En} {w : World} (h : fB m w) (k : List UInt8) : bI (gS m k) (gV m k) w := by
 unfold gS gV
 cases hg : getM m k with
 | none => exact bI.nil w
 | some e => exact h e (vG hg).1
theorem aBp {m : List En} (h : SO m) (k : List UInt8) : (gV m k).length ≤ 1000000 := by
 unfold gV
 cases hg : getM m k with
 | none => exact Nat.zero_le _
 | some e => exact h e (vG hg).1
theorem V2 (m : List En) (k : List UInt8) : Q1 m k = .tuple [gS m k, .bool (iQ m k)].toArray := by
 unfold Q1 gS iQ
 cases getM m k <;> rfl
structure Up where
 sk : Value
 k : List UInt8
 sv : Value
 v : List UInt8
 d : Bool
structure qU where
 n : Int
 sk : Value
 k : List UInt8
 sv : Value
 v : List UInt8
 sb : Value
 b : List Up
instance : Inhabited Up := ⟨⟨.slice none 0 0, [], .slice none 0 0, [], false⟩⟩
instance : Inhabited qU := ⟨⟨0, .slice none 0 0, [], .slice none 0 0, [], .slice none 0 0, []⟩⟩
def NW (u : Up) : List Value := [u.sk] ++ ([u.sv] ++ [.bool u.d])
def zI (o : qU) : List Value := [.int .i64 o.n] ++ ([o.sk] ++ ([o.sv] ++ [o.sb]))
theorem T5 (u : Up) : (NW u).length = 3 := rfl
theorem UY (o : qU) : (zI o).length = 4 := rfl
def jL (v : Value) (l : List Up) (w : World) : Prop := cS w v 3 l.length (l.flatMap NW)
def B9 (v : Value) (l : List qU) (w : World) : Prop := cS w v 4 l.length (l.flatMap zI)
def dJ (l : List Up) (w : World) : Prop := ∀ u ∈ l, bI u.sk u.k w ∧ bI u.sv u.v w
def OV (o : qU) (w : World) : Prop := bI o.sk o.k w ∧ bI o.sv o.v w ∧ jL o.sb o.b w ∧ dJ o.b w
def lS (l : List qU) (w : World) : Prop := ∀ o ∈ l, OV o w
theorem jL.rd {v : Value} {l : List Up} {w : World} (h : jL v l w) (i : Nat) (hi : i < l.length) : cX w (jD v (i * 3)) (NW l[i]) := by
 have := cS.rd h i hi
 rwa [sI l (fun u _ => T5 u) i hi] at this
theorem B9.rd {v : Value} {l : List qU} {w : World} (h : B9 v l w) (i : Nat) (hi : i < l.length) : cX w (jD v (i * 4)) (zI l[i]) := by
 have := cS.rd h i hi
 rwa [sI l (fun u _ => UY u) i hi] at this
def CA (l : List Up) : Prop := l.length ≤ 20 ∧ ∀ u ∈ l, u.k.length ≤ 100 ∧ u.v.length ≤ 70000
def MY (l : List qU) : Prop := l.length ≤ 12 ∧ ∀ o ∈ l, o.k.length ≤ 100 ∧ o.v.length ≤ 70000 ∧ CA o.b
def bV (k v : List UInt8) : Int := if k.length ≠ 32 then 2 else if 65535 < v.length then 3 else 0
theorem c8 {k v : List UInt8} : bV k v = 0 ↔ k.length = 32 ∧ v.length ≤ 65535 := by
 unfold bV
 by_cases h : k.length = 32
 ·
  rw [if_neg (by omega)]
  by_cases h2 : 65535 < v.length
  ·
   rw [if_pos h2]; constructor
   ·
    intro h3; cases h3
   ·
    intro h3; omega
  ·
   rw [if_neg h2]; exact ⟨fun _ => ⟨h, by omega⟩, fun _ => rfl⟩
 ·
  rw [if_pos h]; constructor
  ·
   intro h3; cases h3
  ·
   intro h3; exact absurd h3.1 h
def Up.uv (u : Up) : List UInt8 := if u.d then [] else u.v
def lN (l : List Up) (u : Up) : Int := if bV u.k u.uv ≠ 0 then bV u.k u.uv else if ∃ x ∈ l, x.k = u.k then 9 else 0
def xN (i : Nat) (before : List Up) : List Up → Nat × Int
 | [] => (0, 0)
 | u :: l => if lN before u ≠ 0 then (i, lN before u) else xN (i + 1) (before ++ [u]) l
def jK (l : List Up) : Nat × Int := xN 0 [] l
theorem AF (l : List Up) : ∀ (n i : Nat), i + n = l.length → xN i (l.take i) (l.drop i) = if h : i < l.length then (if lN (l.take i) l[i] ≠ 0 then (i, lN (l.take i) l[i]) else xN (i + 1) (l.take (i + 1)) (l.drop (i + 1))) else (0, 0) := by
 intro n i hi
 by_cases h : i < l.length
 ·
  rw [dif_pos h, List.drop_eq_getElem_cons h, List.take_succ_eq_append_getElem h]; rfl
 ·
  rw [dif_neg h, List.drop_eq_nil_of_le (by omega)]; rfl
def nO (l : List Up) : Prop := (∀ u ∈ l, bV u.k u.uv = 0) ∧ l.Pairwise fun a b => a.k ≠ b.k
theorem uB {l : List Up} {u : Up} : lN l u = 0 ↔ bV u.k u.uv = 0 ∧ ∀ x ∈ l, x.k ≠ u.k := by
 unfold lN
 by_cases h : bV u.k u.uv = 0
 ·
  rw [if_neg (by simp [h])]
  by_cases h2 : ∃ x ∈ l, x.k = u.k
  ·
   rw [if_pos h2]
   constructor
   ·
    intro h3; cases h3
   ·
    intro h3; obtain ⟨x, hx, hk⟩ := h2; exact absurd hk (h3.2 x hx)
  ·
   rw [if_neg h2]
   exact ⟨fun _ => ⟨h, fun x hx hk => h2 ⟨x, hx, hk⟩⟩, fun _ => rfl⟩
 ·
  rw [if_pos h]
  exact ⟨fun h2 => absurd h2 h, fun h2 => absurd h2.1 h⟩
theorem nO.snoc {l : List Up} {u : Up} (h : nO l) (hu : lN l u = 0) : nO (l ++ [u]) := by
 have h2 := uB.1 hu
 refine ⟨fun x hx => ?_, List.pairwise_append.2 ⟨h.2, List.pairwise_singleton _ _, fun a ha b hb => ?_⟩⟩
 ·
  rcases List.mem_append.1 hx with hx | hx
  ·
   exact h.1 x hx
  ·
   rw [List.mem_singleton.1 hx]; exact h2.1
 ·
  rw [List.mem_singleton.1 hb]; exact h2.2 a ha
theorem AG : ∀ (l b : List Up) (i : Nat), nO b → (xN i b l).2 = 0 → nO (b ++ l)
 | [], b, _, hb, _ => by rwa [List.append_nil]
 | u :: l, b, i, hb, h => by
  unfold xN at h
  by_cases hu : lN b u = 0
  ·
   rw [if_neg (by simp [hu])] at h
   have := AG l (b ++ [u]) (i + 1) (hb.snoc hu) h
   rwa [List.append_assoc] at this
  ·
   rw [if_pos hu] at h; exact absurd h hu
theorem tW {l : List Up} (h : (jK l).2 = 0) : nO l := AG l [] 0 ⟨(fun _ h => by cases h), List.Pairwise.nil⟩ h
def Up.ch (u : Up) : Ch := ⟨u.k, if u.d then .slice none 0 0 else u.sv, u.uv, u.d⟩
def SA (m : List En) (u : Up) : List En := if u.d then eY m u.k else gL m ⟨u.k, u.sv, u.v⟩
def s5 (m : List En) (l : List Up) : List En := l.foldl SA m
theorem aBJ (m : List En) (u : Up) : SA m u = xX m u.ch := by
 unfold SA xX Up.ch Up.uv Ch.en
 cases u.d <;> rfl
theorem aAs (l : List Up) : ∀ m : List En, s5 m l = k8 m (l.map Up.ch) := by
 induction l with
 | nil => intro m; rfl
 | cons u l ih => intro m; show s5 (SA m u) l = k8 (xX m u.ch) (l.map Up.ch); rw [aBJ, ih]
theorem NV {l : List Up} {m : List En} {i : Nat} (h : i < l.length) : s5 m (l.take (i + 1)) = SA (s5 m (l.take i)) l[i] := by
 unfold s5
 rw [List.take_succ_eq_append_getElem h, List.foldl_append]; rfl
def M0 (l : List Ch) : Prop := l.Pairwise fun a b => a.k ≠ b.k
theorem BC : ∀ (l : List Ch) (m : List En) (e : En), M0 l → (e ∈ k8 m l ↔ (∃ c ∈ l, c.d = false ∧ e = c.en) ∨ (e ∈ m ∧ ∀ c ∈ l, e.k ≠ c.k))
 | [], m, e, _ => by simp [k8]
 | c :: l, m, e, hl => by
  have h1 := List.pairwise_cons.1 hl
  have ih := BC l (xX m c) e h1.2
  show e ∈ k8 (xX m c) l ↔ _
  rw [ih, I5]
  constructor
  ·
   rintro (⟨x, hx, h2, h3⟩ | ⟨⟨h2, h3⟩ | ⟨h2, h3⟩, h4⟩)
   ·
    exact .inl ⟨x, List.mem_cons_of_mem _ hx, h2, h3⟩
   ·
    exact .inl ⟨c, by simp, h2, h3⟩
   ·
    refine .inr ⟨h2, fun x hx => ?_⟩
    rcases List.mem_cons.1 hx with rfl | hx
    ·
     exact h3
    ·
     exact h4 x hx
  ·
   rintro (⟨x, hx, h2, h3⟩ | ⟨h2, h3⟩)
   ·
    rcases List.mem_cons.1 hx with rfl | hx
    ·
     refine .inr ⟨.inl ⟨h2, h3⟩, fun y hy => ?_⟩
     rw [h3]
     exact h1.1 y hy
    ·
     exact .inl ⟨x, hx, h2, h3⟩
   ·
    exact .inr ⟨.inr ⟨h2, h3 c (by simp)⟩, fun x hx => h3 x (List.mem_cons_of_mem _ hx)⟩
theorem SB {l l' : List Ch} {m : List En} (hp : l.Perm l') (hd : M0 l) (hs : k7 m) (hk : KL m) (hx : XL l) : k8 m l = k8 m l' := by
 have VU : M0 l' := hd.perm hp fun h e => h e.symm
 have hx' : XL l' := fun c hc => hx c (hp.mem_iff.2 hc)
 refine k7.ext (kH l m hs hk hx).1 (kH l' m hs hk hx').1 fun e => ?_
 rw [BC l m e hd, BC l' m e VU]
 simp only [hp.mem_iff]
theorem nO.ch {l : List Up} (h : nO l) : XL (l.map Up.ch) ∧ M0 (l.map Up.ch) ∧ oL (l.map Up.ch) := by
 refine ⟨fun c hc => ?_, (List.pairwise_map (f := Up.ch) (R := fun a b => a.k ≠ b.k)).2 h.2, fun c hc => ?_⟩
 ·
  obtain ⟨u, hu, rfl⟩ := List.mem_map.1 hc
  exact (c8.1 (h.1 u hu)).1
 ·
  obtain ⟨u, hu, rfl⟩ := List.mem_map.1 hc
  have := (c8.1 (h.1 u hu)).2
  show u.uv.length ≤ 1000000
  omega
def oX (m : List En) (o : qU) : List En :=
 if o.n = 0 then (if bV o.k o.v = 0 then gL m ⟨o.k, o.sv, o.v⟩ else m)
 else if o.n = 1 then m
 else if o.n = 2 then (if bV o.k [] = 0 then eY m o.k else m)
 else if (jK o.b).2 = 0 then s5 m o.b else m
def runM (l : List qU) : List En := l.foldl oX []
theorem zA {l : List qU} {i : Nat} (h : i < l.length) : runM (l.take (i + 1)) = oX (runM (l.take i)) l[i] := by
 unfold runM
 rw [List.take_succ_eq_append_getElem h, List.foldl_append]; rfl
structure eT (n : Nat) (m : List En) : Prop where
 s : k7 m
 k : KL m
 l : m.length ≤ n
 v : ∀ e ∈ m, e.v.length ≤ 65535
theorem eT.short {n : Nat} {m : List En} (h : eT n m) : SO m := fun e he => Nat.le_trans (h.v e he) (by decide)
theorem eT.nil (n : Nat) : eT n [] := ⟨List.Pairwise.nil, (fun _ h => by cases h), Nat.zero_le _, fun _ h => by cases h⟩
theorem eT.more {n n' : Nat} {m : List En} (h : eT n m) (hn : n ≤ n') : eT n' m := ⟨h.s, h.k, Nat.le_trans h.l hn, h.v⟩
theorem eT.put {n : Nat} {m : List En} {e : En} (h : eT n m) (hk : e.k.length = 32) (hv : e.v.length ≤ 65535) : eT (n + 1) (gL m e) := by
 refine ⟨wF h.s h.k hk, A5 h.k hk, Nat.le_trans (C9 m e) (Nat.succ_le_succ h.l), fun x hx => ?_⟩
 rcases mZ.1 hx with rfl | hx
 ·
  exact hv
 ·
  exact h.v x hx.1
theorem eT.rm {n : Nat} {m : List En} {k : List UInt8} (h : eT n m) : eT n (eY m k) := by
 refine ⟨h.s.filter _, fun e he => h.k e (iO.1 he).1, Nat.le_trans (u9 m k) h.l, fun x hx => h.v x (iO.1 hx).1⟩
theorem eT.dB : ∀ (l : List Up) {n : Nat} {m : List En}, eT n m → (∀ u ∈ l, bV u.k u.uv = 0) → eT (n + l.length) (s5 m l)
 | [], _, _, h, _ => h
 | u :: l, n, m, h, hg => by
  have h1 := c8.1 (hg u (by simp))
  have h2 : eT (n + 1) (SA m u) := by
   unfold SA
   split
   ·
    exact h.rm.more (by omega)
   ·
    rename_i hd
    refine h.put h1.1 ?_
    have h3 := h1.2
    unfold Up.uv at h3
    rw [if_neg hd] at h3
    exact h3
  have h3 := eT.dB l h2 fun x hx => hg x (List.mem_cons_of_mem _ hx)
  exact h3.more (by rw [List.length_cons]; omega)
theorem eT.do {n : Nat} {m : List En} {o : qU} (h : eT n m) (hf : CA o.b) : eT (n + 20) (oX m o) := by
 unfold oX
 split
 ·
  split
  ·
   rename_i h1
   have h2 := c8.1 h1
   exact (h.put (e := ⟨o.k, o.sv, o.v⟩) h2.1 h2.2).more (by omega)
  ·
   exact h.more (by omega)
 ·
  split
  ·
   exact h.more (by omega)
  ·
   split
   ·
    split
    ·
     exact h.rm.more (by omega)
    ·
     exact h.more (by omega)
   ·
    split
    ·
     rename_i h1
     have := hf.1
     exact (eT.dB o.b h (tW h1).1).more (by omega)
    ·
     exact h.more (by omega)
theorem eT.run {l : List qU} (hf : MY l) : ∀ i, i ≤ l.length → eT (20 * i) (runM (l.take i))
 | 0, _ => eT.nil _
 | i + 1, h => by
  rw [zA (by omega)]
  have h1 := (eT.run hf i (by omega)).do (hf.2 l[i] (List.getElem_mem (by omega))).2.2
  exact h1.more (by omega)
theorem VC (l : List UInt8) (i : Nat) (h : i < l.length) : (kc l)[i]? = some (.int .u8 ((l.getD i 0).toNat : Int)) := by
 unfold kc
 rw [List.getElem?_map, List.getElem?_eq_getElem h, jQ h]; rfl
theorem OX : ∀ x : Fin 256, (⟨#[0, 1, 1, 2, 1, 2, 2, 3, 1, 2, 2, 3, 2, 3, 3, 4, 1, 2, 2, 3, 2, 3, 3, 4, 2, 3, 3, 4, 3, 4, 4, 5, 1, 2, 2, 3, 2, 3, 3, 4, 2, 3, 3, 4, 3, 4, 4, 5, 2, 3, 3, 4, 3, 4, 4, 5, 3, 4, 4, 5, 4, 5, 5, 6, 1, 2, 2, 3, 2, 3, 3, 4, 2, 3, 3, 4, 3, 4, 4, 5, 2, 3, 3, 4, 3, 4, 4, 5, 3, 4, 4, 5, 4, 5, 5, 6, 2, 3, 3, 4, 3, 4, 4, 5, 3, 4, 4, 5, 4, 5, 5, 6, 3, 4, 4, 5, 4, 5, 5, 6, 4, 5, 5, 6, 5, 6, 6, 7, 1, 2, 2, 3, 2, 3, 3, 4, 2, 3, 3, 4, 3, 4, 4, 5, 2, 3, 3, 4, 3, 4, 4, 5, 3, 4, 4, 5, 4, 5, 5, 6, 2, 3, 3, 4, 3, 4, 4, 5, 3, 4, 4, 5, 4, 5, 5, 6, 3, 4, 4, 5, 4, 5, 5, 6, 4, 5, 5, 6, 5, 6, 6, 7, 2, 3, 3, 4, 3, 4, 4, 5, 3, 4, 4, 5, 4, 5, 5, 6, 3, 4, 4, 5, 4, 5, 5, 6, 4, 5, 5, 6, 5, 6, 6, 7, 3, 4, 4, 5, 4, 5, 5, 6, 4, 5, 5, 6, 5, 6, 6, 7, 4, 5, 5, 6, 5, 6, 6, 7, 5, 6, 6, 7, 6, 7, 7, 8]⟩ : ByteArray)[x.val]? = some (UInt8.ofNat (pop8 x.val)) := by decide +kernel
theorem OY (x : UInt8) : (⟨#[0, 1, 1, 2, 1, 2, 2, 3, 1, 2, 2, 3, 2, 3, 3, 4, 1, 2, 2, 3, 2, 3, 3, 4, 2, 3, 3, 4, 3, 4, 4, 5, 1, 2, 2, 3, 2, 3, 3, 4, 2, 3, 3, 4, 3, 4, 4, 5, 2, 3, 3, 4, 3, 4, 4, 5, 3, 4, 4, 5, 4, 5, 5, 6, 1, 2, 2, 3, 2, 3, 3, 4, 2, 3, 3, 4, 3, 4, 4, 5, 2, 3, 3, 4, 3, 4, 4, 5, 3, 4, 4, 5, 4, 5, 5, 6, 2, 3, 3, 4, 3, 4, 4, 5, 3, 4, 4, 5, 4, 5, 5, 6, 3, 4, 4, 5, 4, 5, 5, 6, 4, 5, 5, 6, 5, 6, 6, 7, 1, 2, 2, 3, 2, 3, 3, 4, 2, 3, 3, 4, 3, 4, 4, 5, 2, 3, 3, 4, 3, 4, 4, 5, 3, 4, 4, 5, 4, 5, 5, 6, 2, 3, 3, 4, 3, 4, 4, 5, 3, 4, 4, 5, 4, 5, 5, 6, 3, 4, 4, 5, 4, 5, 5, 6, 4, 5, 5, 6, 5, 6, 6, 7, 2, 3, 3, 4, 3, 4, 4, 5, 3, 4, 4, 5, 4, 5, 5, 6, 3, 4, 4, 5, 4, 5, 5, 6, 4, 5, 5, 6, 5, 6, 6, 7, 3, 4, 4, 5, 4, 5, 5, 6, 4, 5, 5, 6, 5, 6, 6, 7, 4, 5, 5, 6, 5, 6, 6, 7, 5, 6, 6, 7, 6, 7, 7, 8]⟩ : ByteArray)[x.toNat]? = some (UInt8.ofNat (pop8 x.toNat)) := OX ⟨x.toNat, x.toNat_lt⟩
theorem NL : ∀ r : Fin 8, ∀ x : Fin 256, x.val ^^^ 2 ^ (7 - r.val) = if x.val / 2 ^ (7 - r.val) % 2 = 0 then x.val + 2 ^ (7 - r.val) else x.val - 2 ^ (7 - r.val) := by decide +kernel
theorem OW : ∀ r : Fin 8, 2 ^ (7 - r.val) < 256 := by decide +kernel
def Q4 (B : List UInt8) (i : Nat) : UInt8 := if bH B i = 0 then UInt8.ofNat ((B.getD (i / 8) 0).toNat + 2 ^ (7 - i % 8)) else UInt8.ofNat ((B.getD (i / 8) 0).toNat - 2 ^ (7 - i % 8))
theorem NK (B : List UInt8) (i : Nat) : IntKind.u8.wrap ((BitVec.ofInt IntKind.u8.bits ((B.getD (i / 8) 0).toNat : Int) ^^^ BitVec.ofInt IntKind.u8.bits ((2 ^ (7 - i % 8) : Nat) : Int)).toNat : Int) = ((Q4 B i).toNat : Int) := by
 have hx := (B.getD (i / 8) 0).toNat_lt
 have hp := OW ⟨i % 8, by omega⟩
 have h1 := NL ⟨i % 8, by omega⟩ ⟨(B.getD (i / 8) 0).toNat, hx⟩
 dsimp only at h1 hp
 have e2 : UInt8.ofNat (2 ^ (7 - i % 8)) = UInt8.ofNat (2 ^ (7 - i % 8)) := rfl
 have h2 : ((2 ^ (7 - i % 8) : Nat) : Int) = ((UInt8.ofNat (2 ^ (7 - i % 8))).toNat : Int) := by rw [UInt8.toNat_ofNat_of_lt' hp]
 rw [h2, aCs, UInt8.toNat_xor, UInt8.toNat_ofNat_of_lt' hp, h1]
 have hb : bH B i = (B.getD (i / 8) 0).toNat / 2 ^ (7 - i % 8) % 2 := rfl
 have hlt := Nat.xor_lt_two_pow (n := 8) hx hp
 rw [h1] at hlt
 unfold Q4
 rw [hb]
 split
 ·
  rename_i h; rw [if_pos h] at hlt; rw [UInt8.toNat_ofNat_of_lt' hlt]
 ·
  rename_i h; rw [if_neg h] at hlt; rw [UInt8.toNat_ofNat_of_lt' hlt]
theorem OU {r : Nat} (h : r < 8) : IntKind.u8.wrap (1 * 2 ^ (min ((7 - r : Nat) : Int).toNat IntKind.u8.bits)) = ((2 ^ (7 - r) : Nat) : Int) := by
 have : ∀ r : Fin 8, IntKind.u8.wrap (1 * 2 ^ (min ((7 - r.val : Nat) : Int).toNat IntKind.u8.bits)) = ((2 ^ (7 - r.val) : Nat) : Int) := by decide +kernel
 exact this ⟨r, h⟩
def nA (l : List Nat) : Int := match l.getLast? with | none => -1 | some d => (d : Int)
theorem GA (l : List Nat) (d : Nat) : nA (l ++ [d]) = (d : Int) := by unfold nA; simp
theorem G4 {R : List UInt8} (hR : R.length = 32) {c : Nat} (hc : c < 256) (h1 : bH R c = 1) (h0 : ∀ j, j < c → bH R j = 0) : bitsOf R 256 = c :: bitsOf (pG R c) 256 := by
 unfold bitsOf
 have e : List.range 256 = List.range c ++ (c :: (List.range (255 - c)).map fun x => c + (x + 1)) := by
  have h2 : 256 = c + (1 + (255 - c)) := by omega
  rw [h2, List.range_add, List.range_add, List.map_append, List.map_map]
  have h3 : c + (1 + (255 - c)) = 256 := by omega
  simp [Function.comp_def, Nat.add_comm]
 rw [e, List.filter_append, List.filter_append]
 have f1 : (List.range c).filter (fun i => decide (bH R i = 1)) = [] := List.filter_eq_nil_iff.2 fun i hi => by
  rw [h0 i (List.mem_range.1 hi)]; decide
 have f2 : (List.range c).filter (fun i => decide (bH (pG R c) i = 1)) = [] := List.filter_eq_nil_iff.2 fun i hi => by
  have hi' := List.mem_range.1 hi
  rw [uA hR hc, if_neg (by omega), h0 i hi']; decide
 rw [f1, f2, List.filter_cons_of_pos (by simp [h1]), List.filter_cons_of_neg (by rw [uA hR hc, if_pos rfl]; decide)]
 rw [List.nil_append, List.nil_append]
 congr 1
 refine List.filter_congr fun i hi => ?_
 obtain ⟨x, _, rfl⟩ := List.mem_map.1 hi
 rw [uA hR hc, if_neg (by omega)]
theorem RO {R : List UInt8} (hR : R.length = 32) (hne : R ≠ List.replicate 32 0) : fF R (List.replicate 32 0) < 256 ∧ bH R (fF R (List.replicate 32 0)) = 1 ∧ ∀ j, j < fF R (List.replicate 32 0) → bH R j = 0 := by
 have hz : (List.replicate 32 (0 : UInt8)).length = 32 := List.length_replicate
 have h1 := JW R (List.replicate 32 0)
 obtain ⟨_, aHw, aHu⟩ := oJ R (List.replicate 32 0)
 have h2 : fF R (List.replicate 32 0) ≠ 256 := fun h => hne ((nH hR hz).1 (by omega))
 have z : ∀ j, bH (List.replicate 32 (0 : UInt8)) j = 0 := tZ
 have h3 : fF R (List.replicate 32 0) < 256 := by omega
 refine ⟨h3, ?_, fun j hj => ?_⟩
 ·
  have := aHu h3
  rw [z] at this
  have := eA R (fF R (List.replicate 32 0))
  omega
 ·
  have := aHw j hj
  rw [z] at this
  exact this
theorem EX : bitsOf (List.replicate 32 (0 : UInt8)) 256 = [] := List.filter_eq_nil_iff.2 fun i _ => by
 have : bH (List.replicate 32 (0 : UInt8)) i = 0 := tZ i
 rw [this]; decide
def wP (n : Nat) : Value := .int .i64 (n : Int)
theorem HY {X : Nat → Prop} {w : World} {B : List UInt8} {d : Nat} (hX : cW X w) (hB : B.length = 32) (hd : d < 256) :
  bD Tryz.prog 75 [.agg (kc B).toArray, .int .i64 (d : Int)].toArray w fun v w' => v = .bool (decide (bH B d = 1)) ∧ Out Nil w w' := by
 refine bD.aI (N := 9) Tryz.func75 rfl rfl (by simp) ?_
 have H := St.begin hX
 refine WE.aA ?_
 refine WL.box (l := kc B) H rfl (by rfl) rfl ?_
 intro b2 w1 H
 refine WL.as rfl rfl (WL.nil (WE.aA ?_))
 refine WL.bG rfl lY rfl rfl (by exact aK.aF (H.l 0 rfl) (aJ.all _) (by rfl)) (cI jI (by simp only [aR, aU, aB]; omega)) ?_
 refine WL.mv rfl rfl ?_
 refine WL.call ED rfl (jH (k := B) (d := d) H.aS  (by assumption) (by assumption)) ?_
 rintro _ w2 ⟨rfl, hO⟩
 replace H := H.out hO
 refine WL.pv (PV.eql rfl rfl rfl) rfl (WL.as rfl rfl (WL.nil (WE.ret ⟨[_], _, .nil _, ⟨rfl, trivial⟩, ?_⟩)))
 refine ⟨?_, H.aM⟩
 show Value.bool _ = Value.bool _
 congr 1
 rw [decide_eq_decide]
 omega
theorem J5 {X : Nat → Prop} {w : World} {B : List UInt8} {d : Nat} (hX : cW X w) (hB : B.length = 32) (hd : d < 256) :
  bD Tryz.prog 76 [.agg (kc B).toArray, .int .i64 (d : Int)].toArray w fun v w' => v = .agg (kc (nG B d)).toArray ∧ Out Nil w w' := by
 refine bD.aI (N := 22) Tryz.func76 rfl rfl (by simp) ?_
 have H := St.begin hX
 have hx := (B.getD (d / 8) 0).toNat_lt
 have JG := jS B d
 refine WE.aA ?_
 refine WL.box (l := kc B) H rfl (by rfl) rfl ?_
 intro b2 w1 H
 refine WL.alloc H rfl rO rfl ?_
 intro b4 w2 H
 refine WL.nil (WE.seq (WE.aA (WL.mv rfl rfl (WL.pv (PV.geq rfl rfl rfl) rfl (WL.mv rfl rfl ?_)))))
 refine WL.known (t := 7) (c := true) rfl (by rfl) ?_
 refine WL.mv rfl rfl (WL.pv (PV.lss rfl rfl rfl) rfl (WL.pv (PV.dH rfl rfl rfl) rfl (WL.nil ?_)))
 refine WE.cO rfl (by (simp; omega)) ?_
 refine WE.draw (.take 0 (.take 1 (.take 2 (.take 3 (.take 4 (.take 5 (.take 6 (.take 7 (.take 8 (.take 9 (.aG 10 .done))))))))))) mixed (by kernel_rfl) ?_
 replace H := H.out (Out.drew _)
 refine WP.mv rfl rfl rfl ?_
 refine WP.aC rfl rfl (PV.eq (v' := .int .i64 ((d / 8 : Nat) : Int)) (PV.zC rfl rfl rfl (by omega) (by omega) (by omega)) (by rfl)) ?_
 refine WP.aC rfl rfl (PV.cG rfl gQ iB rfl rfl (by omega) (by omega)) (WP.aQ rfl rfl (RV.aY rfl B7 rfl) (aK.RX (H.l 1 rfl) (d / 8) (by omega) (by omega)) (WP.mv rfl rfl rfl ?_))
 refine WP.aC rfl rfl (PV.eq (v' := .int .i64 ((d % 8 : Nat) : Int)) (PV.uI rfl rfl rfl (by omega) (by omega)) (by rfl)) ?_
 refine WP.aC rfl rfl (PV.eq (v' := .int .i64 ((7 - d % 8 : Nat) : Int)) (PV.iT rfl rfl rfl (by omega) (by omega)) (by (congr 1; omega))) ?_
 refine WP.aC rfl rfl (PV.eq (v' := .int .u8 ((2 ^ (7 - d % 8) : Nat) : Int)) (PV.UJ rfl rfl rfl (by omega)) (congrArg (Value.int .u8) (OU (Nat.mod_lt d (by decide))))) ?_
 refine WP.aC rfl rfl (PV.eq (v' := .int .u8 ((Q4 B d).toNat : Int)) (PV.aAn rfl rfl rfl) (congrArg (Value.int .u8) (NK B d))) ?_
 refine WP.aC rfl rfl (PV.cG rfl gQ iB rfl rfl (by omega) (by omega)) (WP.aG rfl ?_)
 refine WL.aT H 1 rfl rfl rfl (new := _) rfl (by exact iB) (by exact bC _ rfl) (Laid.at (Laid.AH (d / 8) (by omega)) (by omega)) rfl ?_
 intro w3 H
 replace H := H.conv (L' := [aO.blk b4 24 (kc (List.replicate 32 0)), aO.blk b2 24 (kc (nG B d))]) rfl
 refine WL.nil ⟨(fa (nw 10 3 (by decide +kernel)) cV), ?_⟩
 refine WP.done (WE.aA ?_)
 refine WL.bG rfl cU rfl rfl (by exact aK.aF (H.l 1 rfl) (aJ.all _) (by rfl)) (cI cN (by simp only [aR, aU, aB]; omega)) ?_
 refine WL.aT H 0 rfl rfl rfl (new := kc (nG B d)) rfl (cI cN (by simp only [aR, aU, aB]; omega)) (by exact bK _) (Laid.at (Laid.all (by simp only [aR, aU, aB]; omega)) (by rfl)) rfl ?_
 intro w4 H
 refine WL.nil (WE.ret ⟨[_], _, .nil _, ⟨⟨_, rfl, aV cU (by exact aK.aF (H.l 0 rfl) (aJ.all _) rfl) (cI cN (by simp only [aR, aU, aB]; omega))⟩, trivial⟩, ?_⟩)
 exact ⟨rfl, H.aM⟩
theorem X4 {X : Nat → Prop} {w : World} {B : List UInt8} {d : Nat} (hX : cW X w) (hB : B.length = 32) (hd : d < 256) :
  bD Tryz.prog 34 [.agg (kc B).toArray, .int .i64 (d : Int)].toArray w fun v w' => v = .agg (kc (oM B d)).toArray ∧ Out Nil w w' := by
 refine bD.aI (N := 12) Tryz.func34 rfl rfl (by simp) ?_
 have H := St.begin hX
 have JG := jS B d
 refine WE.aA ?_
 refine WL.box (l := kc B) H rfl (by rfl) rfl ?_
 intro b2 w1 H
 refine WL.alloc H rfl KJ rfl ?_
 intro b4 w2 H
 refine WL.nil (WE.seq (WE.aA ?_))
 refine WL.bG rfl lY rfl rfl (by exact aK.aF (H.l 1 rfl) (aJ.all _) (by rfl)) (cI jI (by simp only [aR, aU, aB]; omega)) ?_
 refine WL.mv rfl rfl ?_
 refine WL.call aBu rfl (HY (B := B) (d := d) H.aS  (by assumption) (by assumption)) ?_
 rintro _ w3 ⟨rfl, hO⟩
 replace H := H.out hO
 refine WL.nil ?_
 refine WE.cond rfl (fun yS => ?_) (fun yS => ?_)
 ·
  try simp only [bW] at yS
  have h1 : bH B d = 1 := by exact yS
  have hw : oM B d = B := if_pos h1
  refine WE.aA ?_
  refine WL.bG rfl lY rfl rfl (by exact aK.aF (H.l 1 rfl) (aJ.all _) (by rfl)) (cI jI (by simp only [aR, aU, aB]; omega)) ?_
  refine WL.aT H 0 rfl rfl rfl (new := kc B) rfl (cI jI (by simp only [aR, aU, aB]; omega)) (by exact bK _) (Laid.at (Laid.all (by simp only [aR, aU, aB]; omega)) (by rfl)) rfl ?_
  intro w4 H
  refine WL.nil (WE.ret ⟨[_], _, .nil _, ⟨⟨_, rfl, aV lY (by exact aK.aF (H.l 0 rfl) (aJ.all _) rfl) (cI jI (by simp only [aR, aU, aB]; omega))⟩, trivial⟩, ?_⟩)
  exact ⟨by rw [hw]; rfl, H.aM⟩
 ·
  try simp only [bW] at yS
  have h1 : ¬ bH B d = 1 := by exact yS
  have hw : oM B d = nG B d := if_neg h1
  refine WE.skip (WE.aA ?_)
  refine WL.bG rfl lY rfl rfl (by exact aK.aF (H.l 1 rfl) (aJ.all _) (by rfl)) (cI jI (by simp only [aR, aU, aB]; omega)) ?_
  refine WL.mv rfl rfl ?_
  refine WL.call aEw rfl (J5 (B := B) (d := d) H.aS  (by assumption) (by assumption)) ?_
  rintro _ w5 ⟨rfl, hO⟩
  replace H := H.out hO
  refine WL.aT H 0 rfl rfl rfl (new := kc (nG B d)) rfl (cI jI (by simp only [aR, aU, aB]; omega)) (by exact bK _) (Laid.at (Laid.all (by simp only [aR, aU, aB]; omega)) (by rfl)) rfl ?_
  intro w6 H
  refine WL.nil (WE.ret ⟨[_], _, .nil _, ⟨⟨_, rfl, aV lY (by exact aK.aF (H.l 0 rfl) (aJ.all _) rfl) (cI jI (by simp only [aR, aU, aB]; omega))⟩, trivial⟩, ?_⟩)
  exact ⟨by rw [hw]; rfl, H.aM⟩
theorem X6 {X : Nat → Prop} {w : World} {B : List UInt8} {d : Nat} (hX : cW X w) (hB : B.length = 32) (hd : d < 256) :
  bD Tryz.prog 163 [.agg (kc B).toArray, .int .i64 (d : Int)].toArray w fun v w' => v = .agg (kc (pG B d)).toArray ∧ Out Nil w w' := by
 refine bD.aI (N := 13) Tryz.func163 rfl rfl (by simp) ?_
 have H := St.begin hX
 have JG := jS B d
 refine WE.aA ?_
 refine WL.box (l := kc B) H rfl (by rfl) rfl ?_
 intro b2 w1 H
 refine WL.alloc H rfl KJ rfl ?_
 intro b4 w2 H
 refine WL.nil (WE.seq (WE.aA ?_))
 refine WL.bG rfl lY rfl rfl (by exact aK.aF (H.l 1 rfl) (aJ.all _) (by rfl)) (cI jI (by simp only [aR, aU, aB]; omega)) ?_
 refine WL.mv rfl rfl ?_
 refine WL.call aBu rfl (HY (B := B) (d := d) H.aS  (by assumption) (by assumption)) ?_
 rintro _ w3 ⟨rfl, hO⟩
 replace H := H.out hO
 refine WL.pv (PV.not rfl rfl) rfl (WL.nil ?_)
 refine WE.cond rfl (fun mO => ?_) (fun mO => ?_)
 ·
  try simp only [bW] at mO
  have h1 : ¬ bH B d = 1 := by exact mO
  have hw : pG B d = B := if_neg h1
  refine WE.aA ?_
  refine WL.bG rfl lY rfl rfl (by exact aK.aF (H.l 1 rfl) (aJ.all _) (by rfl)) (cI jI (by simp only [aR, aU, aB]; omega)) ?_
  refine WL.aT H 0 rfl rfl rfl (new := kc B) rfl (cI jI (by simp only [aR, aU, aB]; omega)) (by exact bK _) (Laid.at (Laid.all (by simp only [aR, aU, aB]; omega)) (by rfl)) rfl ?_
  intro w4 H
  refine WL.nil (WE.ret ⟨[_], _, .nil _, ⟨⟨_, rfl, aV lY (by exact aK.aF (H.l 0 rfl) (aJ.all _) rfl) (cI jI (by simp only [aR, aU, aB]; omega))⟩, trivial⟩, ?_⟩)
  exact ⟨by rw [hw]; rfl, H.aM⟩
 ·
  try simp only [bW] at mO
  have h1 : bH B d = 1 := by exact mO
  have hw : pG B d = nG B d := if_pos h1
  refine WE.skip (WE.aA ?_)
  refine WL.bG rfl lY rfl rfl (by exact aK.aF (H.l 1 rfl) (aJ.all _) (by rfl)) (cI jI (by simp only [aR, aU, aB]; omega)) ?_
  refine WL.mv rfl rfl ?_
  refine WL.call aEw rfl (J5 (B := B) (d := d) H.aS  (by assumption) (by assumption)) ?_
  rintro _ w5 ⟨rfl, hO⟩
  replace H := H.out hO
  refine WL.aT H 0 rfl rfl rfl (new := kc (nG B d)) rfl (cI jI (by simp only [aR, aU, aB]; omega)) (by exact bK _) (Laid.at (Laid.all (by simp only [aR, aU, aB]; omega)) (by rfl)) rfl ?_
  intro w6 H
  refine WL.nil (WE.ret ⟨[_], _, .nil _, ⟨⟨_, rfl, aV lY (by exact aK.aF (H.l 0 rfl) (aJ.all _) rfl) (cI jI (by simp only [aR, aU, aB]; omega))⟩, trivial⟩, ?_⟩)
  exact ⟨by rw [hw]; rfl, H.aM⟩
theorem XR {X : Nat → Prop} {w : World} {x : UInt8} (hX : cW X w) :
  bD Tryz.prog 165 [.int .u8 (x.toNat : Int)].toArray w fun v w' => v = .int .i64 (pop8 x.toNat : Int) ∧ Out Nil w w' := by
 refine bD.aI (N := 6) Tryz.func165 rfl rfl (by simp) ?_
 have H := St.begin hX
 have hle := IY x.toNat
 refine WE.aA (WL.as rfl rfl (WL.nil (WE.aA (WL.mv rfl rfl (WL.pv (PV.DQ (i := x.toNat) rfl (by kernel_rfl) rfl rfl (OY x)) rfl ?_)))))
 refine WL.pv (PV.eq (v' := .int .i64 ((pop8 x.toNat : Nat) : Int)) (PV.mL rfl pI yD rfl (by omega) (by have := (UInt8.ofNat (pop8 x.toNat)).toNat_lt; omega)) (by congr 1; rw [UInt8.toNat_ofNat_of_lt' (by show _ < 256; omega)])) rfl ?_
 refine WL.as rfl rfl (WL.nil (WE.ret ⟨[_], _, .nil _, ⟨rfl, trivial⟩, ?_⟩))
 exact ⟨rfl, H.aM⟩
theorem aCc {X : Nat → Prop} {w : World} {B : List UInt8} (hX : cW X w) (hB : B.length = 32) :
  bD Tryz.prog 120 [.agg (kc B).toArray].toArray w fun v w' => v = .int .i64 ((bitsOf B 256).length : Int) ∧ Out Nil w w' := by
 refine bD.aI (N := 16) Tryz.func120 rfl rfl (by simp) ?_
 have H := St.begin hX
 refine WE.aA ?_
 refine WL.box (l := kc B) H rfl (by rfl) rfl ?_
 intro b1 w1 H
 refine WL.as rfl rfl (WL.nil (WE.aA (WL.as rfl rfl (WL.nil (WE.seq (WE.aA ?_))))))
 refine WL.bG rfl lY rfl rfl (by exact aK.aF (H.l 0 rfl) (aJ.all _) (by rfl)) (cI jI (by simp only [aR, aU, aB]; omega)) ?_
 refine WL.mv rfl rfl (WL.nil (WE.block ?_))
 refine WE.loop (α := Nat) [3, 5, 7, 8, 9, 10, 11, 12, 13, 14] (fun i => [(3, .int .i64 ((bitsOf B (8 * i)).length : Int)), (7, .int .i64 (i : Int))]) (fun i wl => i ≤ 32 ∧ St X w wl [] [aO.blk b1 85 (kc B)] []) (fun i => 32 - i) 0 ⟨rfl, rfl, trivial⟩ ⟨Nat.zero_le _, H⟩ ?_
 intro i γ0 w2 hI
 try dsimp only at hI
 obtain ⟨hi, H⟩ := hI
 refine WE.aA (WL.pv (PV.lss rfl rfl rfl) rfl (WL.nil (WE.seq ?_)))
 refine WE.cond rfl (fun mO => ?_) (fun mO => ?_)
 ·
  try simp only [bW] at mO
  have hlt : i < 32 := by omega
  have hbb := EY B i
  have ZF := rG B (8 * i)
  have hp8 := IY (B.getD i 0).toNat
  refine WE.skip (WE.seq (WE.block (WE.aA (WL.pv (PV.GH (l := kc B) rfl aBI iB B7 rfl rfl (by omega) (VC B i (by omega))) rfl (WL.as rfl rfl (WL.nil (WE.eM ?_)))))))
  refine WL.mv rfl rfl (WL.mv rfl rfl ?_)
  refine WL.call aE7 rfl (XR (x := B.getD i 0) H.aS  ) ?_
  rintro _ w3 ⟨rfl, hO⟩
  replace H := H.out hO
  refine WL.pv (PV.eq (v' := .int .i64 (((bitsOf B (8 * i)).length + pop8 (B.getD i 0).toNat : Nat) : Int)) (PV.bZ rfl rfl rfl (by omega) (by omega)) (by rfl)) rfl ?_
  refine WL.as rfl rfl (WL.nil (WE.eM ?_))
  refine WL.pv (PV.eq (v' := .int .i64 ((i + 1 : Nat) : Int)) (PV.bZ rfl rfl rfl (by omega) (by omega)) (by rfl)) rfl ?_
  refine WL.mv rfl rfl (WL.nil ?_)
  exact ⟨i + 1, (by repeat (first | with_reducible exact bQ.refl _ _ | refine bQ.dB rfl ?_ | refine bQ.cE rfl ?_ | refine bQ.cB rfl ?_)), ⟨(by rw [hbb]; rfl), rfl, trivial⟩, rfl, ⟨by omega, H⟩, (by omega)⟩
 ·
  try simp only [bW] at mO
  have uM : i = 32 := by omega
  refine WE.exit (WE.aA (WL.mv rfl rfl (WL.as rfl rfl (WL.nil (WE.ret ⟨[_], _, .nil _, ⟨rfl, trivial⟩, ?_⟩)))))
  subst uM
  exact ⟨rfl, H.aM⟩
theorem X5 {X : Nat → Prop} {w : World} {B : List UInt8} (hX : cW X w) (hB : B.length = 32) :
  bD Tryz.prog 212 [.agg (kc B).toArray].toArray w fun v w' => Out Nil w w' ∧ aH X (jV v ((bitsOf B 256).map wP)) w' := by
 refine bD.aI (N := 17) Tryz.func212 rfl rfl (by simp) ?_
 have H := St.begin hX
 refine WE.aA ?_
 refine WL.box (l := kc B) H rfl (by rfl) rfl ?_
 intro b1 w1 H
 refine WL.as rfl rfl (WL.nil (WE.aA (WL.as rfl rfl ?_)))
 replace H := H.lG 3 1
 refine WL.nil (WE.seq (WE.aA (WL.mv rfl rfl (WL.nil (WE.block ?_)))))
 refine WE.loop (α := Nat × Value) [3, 4, 5, 6, 7, 8, 9, 10, 11, 12, 13, 14, 15] (fun p => [(5, .int .i64 (p.1 : Int)), (3, p.2)]) (fun p wl => p.1 ≤ 256 ∧ St X w wl [] [aO.iA w.heap.size p.2 3 1 (bitsOf B (p.1)).length ((bitsOf B (p.1)).map wP), aO.blk b1 85 (kc B)] []) (fun p => 256 - p.1) (0, .slice none 0 0) ⟨rfl, rfl, trivial⟩ ⟨Nat.zero_le _, H⟩ ?_
 intro ⟨i, q⟩ γ0 w2 hI
 try dsimp only at hI
 obtain ⟨hi, H⟩ := hI
 refine WE.aA (WL.pv (PV.lss rfl rfl rfl) rfl (WL.nil (WE.seq ?_)))
 refine WE.cond rfl (fun QL => ?_) (fun QL => ?_)
 ·
  try simp only [bW] at QL
  have hlt : i < 256 := by omega
  have ZF := rG B i
  refine WE.skip ?_
  refine WE.cut (α := Value) [3, 4, 7, 8, 9, 10, 11, 12, 13, 14] (fun g_ => [(3, g_)]) (fun g_ wl => St X w wl [] [aO.iA w.heap.size g_ 3 1 (bitsOf B (i + 1)).length ((bitsOf B (i + 1)).map wP), aO.blk b1 85 (kc B)] []) ?_ ?_
  ·
   refine WE.block (WE.aA (WL.mv rfl rfl (WL.as rfl rfl (WL.nil (WE.aA ?_)))))
   refine WL.bG rfl lY rfl rfl (by exact aK.aF (H.l 1 rfl) (aJ.all _) (by rfl)) (cI jI (by simp only [aR, aU, aB]; omega)) ?_
   refine WL.mv rfl rfl ?_
   refine WL.call aBu rfl (HY (B := B) (d := i) H.aS  (by assumption) (by assumption)) ?_
   rintro _ w3 ⟨rfl, hO⟩
   replace H := H.out hO
   refine WL.nil ?_
   refine WE.cond rfl (fun kS => ?_) (fun kS => ?_)
   ·
    try simp only [bW] at kS
    have h1 : bH B i = 1 := by exact kS
    refine WE.eM (WL.mv rfl rfl (WL.mv rfl rfl ?_))
    refine WL.bJ (l0 := [.int .i64 (0)]) H rfl rT (by decide) (dG _ _) (Fl.cons rfl (by rfl) (by simp only [aR, aU, aB]) Laid.head Fl.nil) rfl ?_
    intro b13 w4 H
    refine WL.append (m := 1) H 1 rT (by decide) rfl rfl rfl (cS.cA (n := 1) (H.l 0 rfl) rfl) (bC _ rfl) (by omega) (by decide) rfl ?_
    intro v14 w5 H
    replace H := H.forget 0
    replace H := H.conv (L' := [aO.iA w.heap.size v14 3 1 (bitsOf B (i + 1)).length ((bitsOf B (i + 1)).map wP), aO.blk b1 85 (kc B)]) (by rw [uO, if_pos h1, List.length_append, List.map_append]; rfl)
    refine WL.as rfl rfl (WL.nil ?_)
    exact ⟨v14, (by repeat (first | with_reducible exact bQ.refl _ _ | refine bQ.dB rfl ?_)), ⟨rfl, trivial⟩, rfl, H⟩
   ·
    try simp only [bW] at kS
    have h1 : ¬ bH B i = 1 := by exact kS
    replace H := H.conv (L' := [aO.iA w.heap.size q 3 1 (bitsOf B (i + 1)).length ((bitsOf B (i + 1)).map wP), aO.blk b1 85 (kc B)]) (by rw [uO, if_neg h1])
    refine WE.skip ?_
    exact ⟨q, (by repeat (first | with_reducible exact bQ.refl _ _ | refine bQ.dB rfl ?_)), ⟨rfl, trivial⟩, rfl, H⟩
  ·
   intro g_ γ w6 hI
   try dsimp only at hI
   replace H := hI
   refine WE.eM ?_
   refine WL.pv (PV.eq (v' := .int .i64 ((i + 1 : Nat) : Int)) (PV.bZ rfl rfl rfl (by omega) (by omega)) (by rfl)) rfl ?_
   refine WL.mv rfl rfl (WL.nil ?_)
   exact ⟨(i + 1, g_), (by repeat (first | with_reducible exact bQ.refl _ _ | refine bQ.dB rfl ?_ | refine bQ.cE rfl ?_ | refine bQ.cB rfl ?_)), ⟨rfl, rfl, trivial⟩, rfl, ⟨by dsimp only; omega, H⟩, (by dsimp only; omega)⟩
 ·
  try simp only [bW] at QL
  have uM : i = 256 := by omega
  refine WE.exit (WE.aA (WL.mv rfl rfl (WL.as rfl rfl (WL.nil (WE.ret ⟨[_], _, .nil _, ⟨rfl, trivial⟩, ?_⟩)))))
  subst uM
  replace H := H.freeze (i := 0) rfl
  exact ⟨H.aM, H.gU ((H.bN 0 rfl).imp fun _ h => by have h_ := cS.eH h; unfold jV; rw [List.length_map]; exact h_)⟩
theorem X7 {X : Nat → Prop} {w : World} {B : List UInt8} (hX : cW X w) (hB : B.length = 32) :
  bD Tryz.prog 118 [.agg (kc B).toArray].toArray w fun v w' => v = .int .i64 (nA (bitsOf B 256)) ∧ Out Nil w w' := by
 refine bD.aI (N := 17) Tryz.func118 rfl rfl (by simp) ?_
 have H := St.begin hX
 have BI : (List.replicate 32 (0 : UInt8)).length = 32 := List.length_replicate
 refine WE.aA ?_
 refine WL.box (l := kc B) H rfl (by rfl) rfl ?_
 intro b1 w1 H
 refine WL.as rfl rfl (WL.nil (WE.aA (WL.as rfl rfl (WL.nil (WE.seq (WE.aA ?_))))))
 refine WL.bG rfl lY rfl rfl (by exact aK.aF (H.l 0 rfl) (aJ.all _) (by rfl)) (cI jI (by simp only [aR, aU, aB]; omega)) ?_
 refine WL.alloc H rfl KJ rfl ?_
 intro b4 w2 H
 refine WL.aT H 0 rfl rfl rfl (new := kc B) rfl (cI jI (by simp only [aR, aU, aB]; omega)) (by exact bK _) (Laid.at (Laid.all (by simp only [aR, aU, aB]; omega)) (by rfl)) rfl ?_
 intro w3 H
 refine WL.nil (WE.block ?_)
 refine WE.loop (α := List Nat × List UInt8 × Nat) [3, 4, 6, 7, 8, 9, 10, 11, 12, 13, 14, 15] (fun p => [(3, .int .i64 (nA p.1)), (4, .pointer (some ⟨p.2.2, 0, none⟩))]) (fun p wl => (bitsOf B 256 = p.1 ++ bitsOf p.2.1 256 ∧ p.2.1.length = 32) ∧ St X w wl [] [aO.blk p.2.2 85 (kc p.2.1), aO.blk b1 85 (kc B)] []) (fun p => (bitsOf p.2.1 256).length) ([], B, b4) ⟨rfl, rfl, trivial⟩ ⟨⟨rfl, hB⟩, H⟩ ?_
 intro ⟨pre, R, bb⟩ γ0 w4 hI
 try dsimp only at hI
 obtain ⟨⟨sW, hR⟩, H⟩ := hI
 try dsimp only at sW hR
 refine WE.seq (WE.aA ?_)
 refine WL.bG rfl lY rfl rfl (by exact aK.aF (H.l 0 rfl) (aJ.all _) (by rfl)) (cI jI (by simp only [aR, aU, aB]; omega)) ?_
 refine WL.pv (PV.mM rfl aBI iB KJ Fl.nil) rfl (WL.pv (PV.PD rfl aBI pI iB (by kernel_rfl) rfl rfl (by assumption) (by assumption)) rfl (WL.nil ?_))
 refine WE.cond rfl (fun mO => ?_) (fun mO => ?_)
 ·
  try simp only [bW] at mO
  have hne : R ≠ List.replicate 32 0 := by exact mO
  have hcz := RO hR hne
  have hbf := G4 hR hcz.1 hcz.2.1 hcz.2.2
  have M8 := BE R (fF R (List.replicate 32 0))
  have hlt := hcz.1
  refine WE.skip (WE.seq (WE.block (WE.eM ?_)))
  refine WL.bG rfl lY rfl rfl (by exact aK.aF (H.l 0 rfl) (aJ.all _) (by rfl)) (cI jI (by simp only [aR, aU, aB]; omega)) ?_
  refine WL.pv (PV.mM rfl gQ iB rO Fl.nil) rfl ?_
  refine WL.call Q9 rfl (yA (a := R) (b := List.replicate 32 0) H.aS  (by assumption) (by assumption)) ?_
  rintro _ w5 ⟨rfl, hO⟩
  replace H := H.out hO
  refine WL.as rfl rfl (WL.nil (WE.seq (WE.aA ?_)))
  refine WL.bG rfl lY rfl rfl (by exact aK.aF (H.l 0 rfl) (aJ.all _) (by rfl)) (cI jI (by simp only [aR, aU, aB]; omega)) ?_
  refine WL.nil (WE.eM ?_)
  refine WL.alloc H rfl KJ rfl ?_
  intro b4 w6 H
  refine WL.aT H 0 rfl rfl rfl (new := kc R) rfl (cI jI (by simp only [aR, aU, aB]; omega)) (by exact bK _) (Laid.at (Laid.all (by simp only [aR, aU, aB]; omega)) (by rfl)) rfl ?_
  intro w7 H
  refine WL.nil (WE.eM ?_)
  refine WL.bG rfl lY rfl rfl (by exact aK.aF (H.l 0 rfl) (aJ.all _) (by rfl)) (cI jI (by simp only [aR, aU, aB]; omega)) ?_
  refine WL.mv rfl rfl ?_
  refine WL.call aE8 rfl (X6 (B := R) (d := fF R (List.replicate 32 0)) H.aS  (by assumption) (by assumption)) ?_
  rintro _ w8 ⟨rfl, hO⟩
  replace H := H.out hO
  refine WL.aT H 0 rfl rfl rfl (new := kc (pG R (fF R (List.replicate 32 0)))) rfl (cI jI (by simp only [aR, aU, aB]; omega)) (by exact bK _) (Laid.at (Laid.all (by simp only [aR, aU, aB]; omega)) (by rfl)) rfl ?_
  intro w9 H
  refine WL.nil ?_
  replace H := H.forget 1
  exact ⟨(pre ++ [fF R (List.replicate 32 0)], pG R (fF R (List.replicate 32 0)), b4), (by repeat (first | with_reducible exact bQ.refl _ _ | refine bQ.dB rfl ?_ | refine bQ.cE rfl ?_ | refine bQ.cB rfl ?_)), ⟨(by dsimp only; rw [GA]; rfl), rfl, trivial⟩, rfl, ⟨⟨by dsimp only; rw [sW, hbf, List.append_assoc]; rfl, by dsimp only; rw [M8, hR]⟩, H⟩, (by dsimp only; rw [hbf, List.length_cons]; omega)⟩
 ·
  try simp only [bW] at mO
  have hre : R = List.replicate 32 0 := by exact mO
  rw [hre, EX, List.append_nil] at sW
  refine WE.exit (WE.aA (WL.mv rfl rfl (WL.as rfl rfl (WL.nil (WE.ret ⟨[_], _, .nil _, ⟨rfl, trivial⟩, ?_⟩)))))
  refine ⟨?_, H.aM⟩
  rw [sW]; rfl
theorem _root_.Go.Sp.uV : cH Tryz.prog 35 = some ([.int .i64 0] ++ ([.int .i64 0] ++ ((kc (List.replicate 32 0) ++ kc (List.replicate 32 0)) ++ (kc (List.replicate 32 0) ++ [.slice none 0 0])))) := by kernel_rfl
def fH (kd dp : Nat) (lk lv B : List UInt8) (sl : Value) : List Value := [.int .i64 (kd : Int)] ++ ([.int .i64 (dp : Int)] ++ ((kc lk ++ kc lv) ++ (kc B ++ [sl])))
theorem gA {kd dp : Nat} {lk lv B : List UInt8} {sl : Value} (hk : lk.length = 32) (hv : lv.length = 32) (hB : B.length = 32) : (fH kd dp lk lv B sl).length = 99 := by simp [fH, aN, hk, hv, hB]
theorem aD (kd dp : Nat) (lk lv B : List UInt8) (sl : Value) : (fH kd dp lk lv B sl).length = 3 + (lk.length + lv.length + B.length) := by simp [fH, aN]; omega
theorem pU {kd dp : Nat} {lk lv B : List UInt8} {sl : Value} (h : sl.oneCell' = true) : ∀ v ∈ fH kd dp lk lv B sl, v.oneCell' = true := bO (bC _ rfl) (bO (bC _ rfl) (bO (bO (bK _) (bK _)) (bO (bK _) (dV h))))
theorem iG.nA {kd dp : Nat} {lk lv B : List UInt8} {sb : List (List UInt8)} (h : iG kd dp lk lv B sb) : nA (bitsOf B 256) = (dp : Int) - 1 := by
 unfold Go.Sp.Tryz.nA
 rw [h.last]
 by_cases hd : dp = 0
 ·
  rw [if_pos hd, hd]; rfl
 ·
  rw [if_neg hd]; show ((dp - 1 : Nat) : Int) = _; omega
theorem iG.NC {kd dp : Nat} {lk lv B : List UInt8} {sb : List (List UInt8)} (h : iG kd dp lk lv B sb) : sb.length ≤ 256 := by
 rw [h.fU]; exact rG B 256
theorem aCX {X : Nat → Prop} {w : World} {kd dp : Nat} {lk lv B : List UInt8} {sl : Value} {sb : List (List UInt8)} (hX : cW X w) (bU : aH X (eN sl sb) w) (hp : iG kd dp lk lv B sb) :
  bD Tryz.prog 114 [.agg (fH kd dp lk lv B sl).toArray, .agg (kc B).toArray].toArray w fun v w' => v = .bool true ∧ Out Nil w w' := by
 refine bD.aI (N := 13) Tryz.func114 rfl rfl (by simp) ?_
 have H := St.begin hX
 replace H := H.add (cF bU)
 have vE := hp.kd
 have yR := hp.L8
 have lW := hp.tJ
 have hlv := hp.lvl
 have o5 := hp.bl
 have hli := hp.nA
 have LU := hp.fU
 have oW := hp.NC
 have vC : (fH kd dp lk lv B sl).length = 99 := gA hp.tJ hp.lvl hp.bl
 have BI : (List.replicate 32 (0 : UInt8)).length = 32 := List.length_replicate
 have hs1 : sl.oneCell' = true := cS.fG (H.p 0 rfl : eN sl sb _)
 refine WE.aA ?_
 refine WL.box (l := fH kd dp lk lv B sl) H rfl (by rfl) rfl ?_
 intro b2 w1 H
 refine WL.box (l := kc B) H rfl (by rfl) rfl ?_
 intro b3 w2 H
 refine WL.as rfl rfl (WL.nil (WE.aA (WL.pv (PV.fieldAddr rfl mI rfl) rfl ?_)))
 refine WL.aZ rfl oZ rfl rfl (by exact aK.aF (H.l 1 rfl) (aJ.l (aJ.all _)) (by rfl)) ?_
 refine WL.pv (PV.eql rfl rfl rfl) rfl (WL.mv rfl rfl ?_)
 refine WL.split (t := 8) rfl (fun DY => ?_) (fun DY => ?_)
 ·
  refine WL.known (t := 7) (c := true) rfl DY ?_
  try simp only [bW] at DY
  refine WL.off rfl (WL.off rfl (WL.off rfl (WL.pv (PV.dH rfl rfl rfl) rfl (WL.as rfl rfl (WL.nil (WE.ret ⟨[_], _, .nil _, ⟨rfl, trivial⟩, ?_⟩))))))
  refine ⟨?_, H.aM⟩
  rfl
 ·
  refine WL.known (t := 7) (c := false) rfl DY ?_
  try simp only [bW] at DY
  refine WL.pv (PV.fieldAddr rfl mI rfl) rfl ?_
  refine WL.aZ rfl oZ rfl rfl (by exact aK.aF (H.l 1 rfl) (aJ.l (aJ.all _)) (by rfl)) ?_
  refine WL.pv (PV.eql rfl rfl rfl) rfl (WL.pv (PV.c5 rfl rfl rfl) rfl (WL.as rfl rfl (WL.nil (WE.ret ⟨[_], _, .nil _, ⟨rfl, trivial⟩, ?_⟩))))
  refine ⟨?_, H.aM⟩
  (show Value.bool _ = Value.bool true; (congr 1; exact decide_eq_true (by omega)))
theorem aCW {X : Nat → Prop} {w : World} {kd dp : Nat} {lk lv B : List UInt8} {sl : Value} {sb : List (List UInt8)} (hX : cW X w) (bU : aH X (eN sl sb) w) (hp : iG kd dp lk lv B sb) :
  bD Tryz.prog 115 [.agg (fH kd dp lk lv B sl).toArray, .agg (kc B).toArray].toArray w fun v w' => v = .bool true ∧ Out Nil w w' := by
 refine bD.aI (N := 13) Tryz.func115 rfl rfl (by simp) ?_
 have H := St.begin hX
 replace H := H.add (cF bU)
 have vE := hp.kd
 have yR := hp.L8
 have lW := hp.tJ
 have hlv := hp.lvl
 have o5 := hp.bl
 have hli := hp.nA
 have LU := hp.fU
 have oW := hp.NC
 have vC : (fH kd dp lk lv B sl).length = 99 := gA hp.tJ hp.lvl hp.bl
 have BI : (List.replicate 32 (0 : UInt8)).length = 32 := List.length_replicate
 have hs1 : sl.oneCell' = true := cS.fG (H.p 0 rfl : eN sl sb _)
 refine WE.aA ?_
 refine WL.box (l := fH kd dp lk lv B sl) H rfl (by rfl) rfl ?_
 intro b2 w1 H
 refine WL.box (l := kc B) H rfl (by rfl) rfl ?_
 intro b3 w2 H
 refine WL.as rfl rfl (WL.nil (WE.aA (WL.pv (PV.fieldAddr rfl rC rfl) rfl ?_)))
 refine WL.aZ rfl oZ rfl rfl (by exact aK.aF (H.l 1 rfl) (aJ.r (aJ.l (aJ.all _)) (by with_reducible rfl)) (by rfl)) ?_
 refine WL.pv (PV.geq rfl rfl rfl) rfl (WL.mv rfl rfl ?_)
 refine WL.known (t := 8) (c := true) rfl (by rfl) ?_
 refine WL.pv (PV.fieldAddr rfl rC rfl) rfl ?_
 refine WL.aZ rfl oZ rfl rfl (by exact aK.aF (H.l 1 rfl) (aJ.r (aJ.l (aJ.all _)) (by with_reducible rfl)) (by rfl)) ?_
 refine WL.pv (PV.leq rfl rfl rfl) rfl (WL.pv (PV.dH rfl rfl rfl) rfl (WL.as rfl rfl (WL.nil (WE.ret ⟨[_], _, .nil _, ⟨rfl, trivial⟩, ?_⟩))))
 refine ⟨?_, H.aM⟩
 (show Value.bool _ = Value.bool true; (congr 1; exact decide_eq_true (by omega)))
theorem aCV {X : Nat → Prop} {w : World} {kd dp : Nat} {lk lv B : List UInt8} {sl : Value} {sb : List (List UInt8)} (hX : cW X w) (bU : aH X (eN sl sb) w) (hp : iG kd dp lk lv B sb) :
  bD Tryz.prog 116 [.agg (fH kd dp lk lv B sl).toArray, .agg (kc B).toArray].toArray w fun v w' => v = .bool true ∧ Out Nil w w' := by
 refine bD.aI (N := 14) Tryz.func116 rfl rfl (by simp) ?_
 have H := St.begin hX
 replace H := H.add (cF bU)
 have vE := hp.kd
 have yR := hp.L8
 have lW := hp.tJ
 have hlv := hp.lvl
 have o5 := hp.bl
 have hli := hp.nA
 have LU := hp.fU
 have oW := hp.NC
 have vC : (fH kd dp lk lv B sl).length = 99 := gA hp.tJ hp.lvl hp.bl
 have BI : (List.replicate 32 (0 : UInt8)).length = 32 := List.length_replicate
 have hs1 : sl.oneCell' = true := cS.fG (H.p 0 rfl : eN sl sb _)
 refine WE.aA ?_
 refine WL.box (l := fH kd dp lk lv B sl) H rfl (by rfl) rfl ?_
 intro b2 w1 H
 refine WL.box (l := kc B) H rfl (by rfl) rfl ?_
 intro b3 w2 H
 refine WL.as rfl rfl (WL.nil (WE.aA (WL.pv (PV.fieldAddr rfl mI rfl) rfl ?_)))
 refine WL.aZ rfl oZ rfl rfl (by exact aK.aF (H.l 1 rfl) (aJ.l (aJ.all _)) (by rfl)) ?_
 refine WL.pv (PV.eql rfl rfl rfl) rfl (WL.mv rfl rfl ?_)
 refine WL.split (t := 8) rfl (fun DY => ?_) (fun DY => ?_)
 ·
  refine WL.known (t := 7) (c := true) rfl DY ?_
  try simp only [bW] at DY
  refine WL.off rfl (WL.off rfl (WL.off rfl (WL.off rfl (WL.pv (PV.dH rfl rfl rfl) rfl (WL.as rfl rfl (WL.nil (WE.ret ?_)))))))
  refine ⟨[_], _, .nil _, ⟨rfl, trivial⟩, ?_⟩
  refine ⟨?_, H.aM⟩
  rfl
 ·
  refine WL.known (t := 7) (c := false) rfl DY ?_
  try simp only [bW] at DY
  have NA : kd = 0 := by omega
  obtain ⟨hlz, hvz⟩ := hp.lz NA
  have aDz : lk = List.replicate 32 0 := hlz
  have aDk : lv = List.replicate 32 0 := hvz
  refine WL.pv (PV.fieldAddr rfl oG rfl) rfl ?_
  refine WL.bG rfl HH rfl rfl (by exact aK.aF (H.l 1 rfl) (aJ.r (aJ.r (aJ.l (aJ.all _)) (by with_reducible rfl)) (by with_reducible rfl)) (by rfl)) (cI AX (by simp only [aR, aU, aB]; omega)) ?_
  refine WL.pv (PV.dD rfl aAL NF Fl.nil) rfl ?_
  refine WL.pv (PV.aFI rfl aFJ rfl rfl (CD.struct (n := 3) aFK (TB.cons (dR.agg cU (cI cN (by simp only [aR, aU, aB]; omega)) (aJ.l (aJ.all _))) (dR.agg cU (by exact cN) (aJ.l (aJ.all _))) (CD.mono (CD.bytes gQ pI iB (by assumption) (by assumption)) (by decide)) (TB.cons (dR.agg iD (cI dK (by simp only [aR, aU, aB]; omega)) (aJ.r (aJ.all _) (by simp only [aR, aU, aB]; omega))) (dR.agg iD (by exact dK) (aJ.r (aJ.all _) (by simp only [aR, aU, aB]))) (CD.mono (CD.bytes oY pI iB (by assumption) (by assumption)) (by decide)) TB.nil))) (by decide)) rfl ?_
  refine WL.pv (PV.c5 rfl rfl rfl) rfl (WL.as rfl rfl (WL.nil (WE.ret ⟨[_], _, .nil _, ⟨rfl, trivial⟩, ?_⟩)))
  refine ⟨?_, H.aM⟩
  (show Value.bool _ = Value.bool true; simp_all)
theorem aCU {X : Nat → Prop} {w : World} {kd dp : Nat} {lk lv B : List UInt8} {sl : Value} {sb : List (List UInt8)} (hX : cW X w) (bU : aH X (eN sl sb) w) (hp : iG kd dp lk lv B sb) :
  bD Tryz.prog 117 [.agg (fH kd dp lk lv B sl).toArray, .agg (kc B).toArray].toArray w fun v w' => v = .bool true ∧ Out Nil w w' := by
 refine bD.aI (N := 11) Tryz.func117 rfl rfl (by simp) ?_
 have H := St.begin hX
 replace H := H.add (cF bU)
 have vE := hp.kd
 have yR := hp.L8
 have lW := hp.tJ
 have hlv := hp.lvl
 have o5 := hp.bl
 have hli := hp.nA
 have LU := hp.fU
 have oW := hp.NC
 have vC : (fH kd dp lk lv B sl).length = 99 := gA hp.tJ hp.lvl hp.bl
 have BI : (List.replicate 32 (0 : UInt8)).length = 32 := List.length_replicate
 have hs1 : sl.oneCell' = true := cS.fG (H.p 0 rfl : eN sl sb _)
 refine WE.aA ?_
 refine WL.box (l := fH kd dp lk lv B sl) H rfl (by rfl) rfl ?_
 intro b2 w1 H
 refine WL.box (l := kc B) H rfl (by rfl) rfl ?_
 intro b3 w2 H
 refine WL.as rfl rfl (WL.nil ?_)
 refine WE.bF (.take 0 (.take 2 (.take 3 (.take 4 (.aG 1 (.take 5 (.take 6 .done))))))) mixed (by kernel_rfl) ?_
 replace H := H.out (Out.drew _)
 refine WP.dF rfl rfl rfl lY rfl (by exact aK.aF (H.l 0 rfl) (aJ.all _) (by rfl)) (cI jI (by simp only [aR, aU, aB]; omega)) ?_
 refine WP.aC rfl rfl (PV.fieldAddr rfl rC rfl) ?_
 refine WP.aQ rfl rfl (RV.aY rfl oZ rfl) (by exact aK.aF (H.l 1 rfl) (aJ.r (aJ.l (aJ.all _)) (by with_reducible rfl)) (by rfl)) ?_
 refine WP.aC rfl rfl (PV.iT rfl rfl rfl (by omega) (by omega)) (WP.aG rfl ?_)
 refine WL.call aFA rfl (X7 (B := B) H.aS  (by assumption)) ?_
 rintro _ w3 ⟨rfl, hO⟩
 replace H := H.out hO
 refine WL.nil ⟨(fa (fun _ _ => (by exact aK.aF (H.l 1 rfl) (aJ.r (aJ.l (aJ.all _)) (by with_reducible rfl)) (by rfl))) (fa (nw 1 0 (by decide +kernel)) cV)), ?_⟩
 refine WP.aC rfl rfl (PV.eql rfl rfl rfl) (WP.as rfl rfl rfl (WP.done (WE.ret ⟨[_], _, .nil _, ⟨rfl, trivial⟩, ?_⟩)))
 refine ⟨?_, H.aM⟩
 (show Value.bool _ = Value.bool true; (congr 1; exact decide_eq_true (by omega)))
theorem aCT {X : Nat → Prop} {w : World} {kd dp : Nat} {lk lv B : List UInt8} {sl : Value} {sb : List (List UInt8)} (hX : cW X w) (bU : aH X (eN sl sb) w) (hp : iG kd dp lk lv B sb) :
  bD Tryz.prog 119 [.agg (fH kd dp lk lv B sl).toArray, .agg (kc B).toArray].toArray w fun v w' => v = .bool true ∧ Out Nil w w' := by
 refine bD.aI (N := 11) Tryz.func119 rfl rfl (by simp) ?_
 have H := St.begin hX
 replace H := H.add (cF bU)
 have vE := hp.kd
 have yR := hp.L8
 have lW := hp.tJ
 have hlv := hp.lvl
 have o5 := hp.bl
 have hli := hp.nA
 have LU := hp.fU
 have oW := hp.NC
 have vC : (fH kd dp lk lv B sl).length = 99 := gA hp.tJ hp.lvl hp.bl
 have BI : (List.replicate 32 (0 : UInt8)).length = 32 := List.length_replicate
 have hs1 : sl.oneCell' = true := cS.fG (H.p 0 rfl : eN sl sb _)
 refine WE.aA ?_
 refine WL.box (l := fH kd dp lk lv B sl) H rfl (by rfl) rfl ?_
 intro b2 w1 H
 refine WL.box (l := kc B) H rfl (by rfl) rfl ?_
 intro b3 w2 H
 refine WL.as rfl rfl (WL.nil ?_)
 refine WE.bF (.take 0 (.take 2 (.take 3 (.take 4 (.aG 1 (.take 5 (.take 6 .done))))))) mixed (by kernel_rfl) ?_
 replace H := H.out (Out.drew _)
 refine WP.dF rfl rfl rfl lY rfl (by exact aK.aF (H.l 0 rfl) (aJ.all _) (by rfl)) (cI jI (by simp only [aR, aU, aB]; omega)) ?_
 refine WP.aC rfl rfl (PV.fieldAddr rfl lJ rfl) ?_
 refine WP.aQ rfl rfl (RV.aY rfl sL rfl) (by exact aK.aF (H.l 1 rfl) (aJ.r (aJ.r (aJ.r (aJ.r (aJ.all _) (by with_reducible rfl)) (by with_reducible rfl)) (by with_reducible rfl)) (by with_reducible rfl)) (by (simp [aN, bA, *]; done))) ?_
 refine WP.aC rfl rfl (PV.dO (by exact (H.p 0 rfl : (eN sl sb) _)) mS rfl) ?_
 refine WP.aG rfl ?_
 refine WL.call aFx rfl (aCc (B := B) H.aS  (by assumption)) ?_
 rintro _ w3 ⟨rfl, hO⟩
 replace H := H.out hO
 refine WL.nil ⟨(fa (fun _ _ => (by exact aK.aF (H.l 1 rfl) (aJ.r (aJ.r (aJ.r (aJ.r (aJ.all _) (by with_reducible rfl)) (by with_reducible rfl)) (by with_reducible rfl)) (by with_reducible rfl)) (by (simp [aN, bA, *]; done)))) (fa (nw 1 0 (by decide +kernel)) cV)), ?_⟩
 refine WP.aC rfl rfl (PV.eql rfl rfl rfl) (WP.as rfl rfl rfl (WP.done (WE.ret ⟨[_], _, .nil _, ⟨rfl, trivial⟩, ?_⟩)))
 refine ⟨?_, H.aM⟩
 (show Value.bool _ = Value.bool true; (congr 1; exact decide_eq_true (by omega)))
theorem OD {X : Nat → Prop} {kd dp : Nat} {lk lv B : List UInt8} {sl : Value} {sb : List (List UInt8)} {W : World} (hX : ∀ b, X b → b < W.heap.size) (hs : aH X (eN sl sb) W) (hp : iG kd dp lk lv B sb) : eU Tryz.prog (vH 114) [.agg (fH kd dp lk lv B sl).toArray, .agg (kc B).toArray] W fun v W' => v = .bool true ∧ Out Nil W W' :=
 eU.iV (fs := []) (cs := []) aFE (aCX hX hs hp)
theorem OC {X : Nat → Prop} {kd dp : Nat} {lk lv B : List UInt8} {sl : Value} {sb : List (List UInt8)} {W : World} (hX : ∀ b, X b → b < W.heap.size) (hs : aH X (eN sl sb) W) (hp : iG kd dp lk lv B sb) : eU Tryz.prog (vH 115) [.agg (fH kd dp lk lv B sl).toArray, .agg (kc B).toArray] W fun v W' => v = .bool true ∧ Out Nil W W' :=
 eU.iV (fs := []) (cs := []) aFD (aCW hX hs hp)
theorem OB {X : Nat → Prop} {kd dp : Nat} {lk lv B : List UInt8} {sl : Value} {sb : List (List UInt8)} {W : World} (hX : ∀ b, X b → b < W.heap.size) (hs : aH X (eN sl sb) W) (hp : iG kd dp lk lv B sb) : eU Tryz.prog (vH 116) [.agg (fH kd dp lk lv B sl).toArray, .agg (kc B).toArray] W fun v W' => v = .bool true ∧ Out Nil W W' :=
 eU.iV (fs := []) (cs := []) aFC (aCV hX hs hp)
theorem OA {X : Nat → Prop} {kd dp : Nat} {lk lv B : List UInt8} {sl : Value} {sb : List (List UInt8)} {W : World} (hX : ∀ b, X b → b < W.heap.size) (hs : aH X (eN sl sb) W) (hp : iG kd dp lk lv B sb) : eU Tryz.prog (vH 117) [.agg (fH kd dp lk lv B sl).toArray, .agg (kc B).toArray] W fun v W' => v = .bool true ∧ Out Nil W W' :=
 eU.iV (fs := []) (cs := []) aFB (aCU hX hs hp)
theorem N9 {X : Nat → Prop} {kd dp : Nat} {lk lv B : List UInt8} {sl : Value} {sb : List (List UInt8)} {W : World} (hX : ∀ b, X b → b < W.heap.size) (hs : aH X (eN sl sb) W) (hp : iG kd dp lk lv B sb) : eU Tryz.prog (vH 119) [.agg (fH kd dp lk lv B sl).toArray, .agg (kc B).toArray] W fun v W' => v = .bool true ∧ Out Nil W W' :=
 eU.iV (fs := []) (cs := []) aFz (aCT hX hs hp)
def N8 : List Value := [vH 114, .int .i64 7] ++ ([vH 115, .int .i64 5] ++ ([vH 116, .int .i64 5] ++ ([vH 117, .int .i64 5] ++ ([vH 119, .int .i64 5]))))
theorem UL {X : Nat → Prop} {w : World}  (hX : cW X w) :
  bD Tryz.prog 77 [].toArray w fun v w' => v = .agg N8.toArray ∧ Out Nil w w' := by
 refine bD.aI (N := 7) Tryz.func77 rfl rfl (by decide +revert) ?_
 have H := St.begin hX
 refine WE.aA ?_
 refine WL.alloc H rfl YA rfl ?_
 intro b0 w1 H
 refine WL.nil (WE.aA ?_)
 refine WL.pv (PV.dD rfl DC qD (Fl.cons rfl (rfl) (by simp only [aR, aU, aB]) Laid.head (Fl.cons rfl (rfl) (by simp only [aR, aU, aB]) (Laid.tail Laid.head rfl) Fl.nil))) rfl ?_
 refine WL.pv (PV.dD rfl DC qD (Fl.cons rfl (rfl) (by simp only [aR, aU, aB]) Laid.head (Fl.cons rfl (rfl) (by simp only [aR, aU, aB]) (Laid.tail Laid.head rfl) Fl.nil))) rfl ?_
 refine WL.pv (PV.dD rfl DC qD (Fl.cons rfl (rfl) (by simp only [aR, aU, aB]) Laid.head (Fl.cons rfl (rfl) (by simp only [aR, aU, aB]) (Laid.tail Laid.head rfl) Fl.nil))) rfl ?_
 refine WL.pv (PV.dD rfl DC qD (Fl.cons rfl (rfl) (by simp only [aR, aU, aB]) Laid.head (Fl.cons rfl (rfl) (by simp only [aR, aU, aB]) (Laid.tail Laid.head rfl) Fl.nil))) rfl ?_
 refine WL.pv (PV.dD rfl DC qD (Fl.cons rfl (rfl) (by simp only [aR, aU, aB]) Laid.head (Fl.cons rfl (rfl) (by simp only [aR, aU, aB]) (Laid.tail Laid.head rfl) Fl.nil))) rfl ?_
 refine WL.pv (PV.mM rfl AO kZ YA (Fl.cons rfl (rfl) (by simp only [aR, aU, aB]) (Laid.left (Laid.all (by simp only [aR, aU, aB]))) (Fl.cons rfl (rfl) (by simp only [aR, aU, aB]) (Laid.right (Laid.left (Laid.all (by simp only [aR, aU, aB]))) (by simp only [aR, aU, aB])) (Fl.cons rfl (rfl) (by simp only [aR, aU, aB]) (Laid.right (Laid.right (Laid.left (Laid.all (by simp only [aR, aU, aB]))) (by with_reducible rfl)) (by simp only [aR, aU, aB])) (Fl.cons rfl (rfl) (by simp only [aR, aU, aB]) (Laid.right (Laid.right (Laid.right (Laid.left (Laid.all (by simp only [aR, aU, aB]))) (by with_reducible rfl)) (by with_reducible rfl)) (by simp only [aR, aU, aB])) (Fl.cons rfl (rfl) (by simp only [aR, aU, aB]) (Laid.right (Laid.right (Laid.right (Laid.right (Laid.all (by simp only [aR, aU, aB])) (by with_reducible rfl)) (by with_reducible rfl)) (by with_reducible rfl)) (by simp only [aR, aU, aB])) Fl.nil)))))) rfl ?_
 refine WL.aT H 0 rfl rfl rfl (new := N8) rfl (by exact YI) (bC _ rfl) (Laid.at (Laid.all (by rfl)) (by rfl)) rfl ?_
 intro w2 H
 refine WL.nil (WE.ret ⟨[_], _, .nil _, ⟨⟨_, rfl, aV aGd (by exact aK.aF (H.l 0 rfl) (aJ.all _) rfl) (by exact YI)⟩, trivial⟩, ?_⟩)
 exact ⟨rfl, H.aM⟩
theorem sP {X : Nat → Prop} {w : World} {kd dp : Nat} {lk lv B : List UInt8} {sl : Value} {sb : List (List UInt8)} (hX : cW X w) (bU : aH X (eN sl sb) w) (hp : iG kd dp lk lv B sb) :
  bD Tryz.prog 35 [.agg (fH kd dp lk lv B sl).toArray].toArray w fun v w' => v = .int .i64 0 ∧ Out Nil w w' := by
 refine bD.aI (N := 19) Tryz.func35 rfl rfl (by simp) ?_
 have H := St.begin hX
 replace H := H.add (cF bU)
 have vE := hp.kd
 have yR := hp.L8
 have lW := hp.tJ
 have hlv := hp.lvl
 have o5 := hp.bl
 have hli := hp.nA
 have LU := hp.fU
 have oW := hp.NC
 have vC : (fH kd dp lk lv B sl).length = 99 := gA hp.tJ hp.lvl hp.bl
 have BI : (List.replicate 32 (0 : UInt8)).length = 32 := List.length_replicate
 have hs1 : sl.oneCell' = true := cS.fG (H.p 0 rfl : eN sl sb _)
 refine WE.aA ?_
 refine WL.box (l := fH kd dp lk lv B sl) H rfl (by rfl) rfl ?_
 intro b1 w1 H
 refine WL.as rfl rfl (WL.nil (WE.seq (WE.aA ?_)))
 refine WL.call aHY rfl (UL  H.aS  ) ?_
 rintro _ w2 ⟨rfl, hO⟩
 replace H := H.out hO
 refine WL.mv rfl rfl (WL.nil (WE.block ?_))
 refine WE.jE 6 ?_
 refine dN.step ?_
 refine WE.aA (WL.pv (PV.lss rfl rfl rfl) rfl (WL.nil (WE.seq ?_)))
 refine WE.cO rfl rfl ?_
 refine WE.skip (WE.seq (WE.block (WE.aA ?_)))
 refine WL.pv (by exact PV.q6 (i := 0) rfl AO kZ rfl rfl (by decide) (dR.agg E4 (by exact kZ) (aJ.l (aJ.all _)))) rfl ?_
 refine WL.alloc H rfl qD rfl ?_
 intro b4 w3 H
 refine WL.aT H 0 rfl rfl rfl (new := _) rfl (by exact kZ) (bC _ rfl) (Laid.at (Laid.all (by simp only [aR, aU, aB])) (by rfl)) rfl ?_
 intro w4 H
 refine WL.nil (WE.aA (WL.pv (PV.fieldAddr rfl sJ rfl) rfl ?_))
 refine WL.aZ rfl E5 rfl rfl (by exact aK.aF (H.l 0 rfl) aJ.hd (by rfl)) ?_
 refine WL.bG rfl lZ rfl rfl (by exact aK.aF (H.l 1 rfl) (aJ.all _) (by rfl)) (by (rw [jU]; refine congrArg some ?_; (simp [aN, bA, *]; done))) ?_
 refine WL.pv (PV.fieldAddr rfl pM rfl) rfl ?_
 refine WL.bG rfl B8 rfl rfl (by exact aK.aF (H.l 1 rfl) (aJ.r (aJ.r (aJ.r (aJ.l (aJ.all _)) (by with_reducible rfl)) (by with_reducible rfl)) (by with_reducible rfl)) (by (simp [aN, bA, *]; done))) (cI uW (by simp only [aR, aU, aB]; omega)) ?_
 refine WL.iK rfl rfl (OD H.aS (by exact (H.bN 0 rfl : aH _ (eN sl sb) _)) hp) ?_
 rintro _ w6 ⟨rfl, hO⟩
 replace H := H.out hO
 refine WL.pv (PV.not rfl rfl) rfl (WL.nil ?_)
 refine WE.bB rfl rfl ?_
 refine WE.skip (WE.eM (WL.pv (PV.bZ rfl rfl rfl (by omega) (by omega)) rfl (WL.mv rfl rfl (WL.nil ?_))))
 replace H := H.forget 0
 refine dN.step ?_
 refine WE.aA (WL.pv (PV.lss rfl rfl rfl) rfl (WL.nil (WE.seq ?_)))
 refine WE.cO rfl rfl ?_
 refine WE.skip (WE.seq (WE.block (WE.aA ?_)))
 refine WL.pv (by exact PV.q6 (i := 1) rfl AO kZ rfl rfl (by decide) (dR.agg E4 (by exact kZ) (aJ.r (aJ.l (aJ.all _)) rfl))) rfl ?_
 refine WL.alloc H rfl qD rfl ?_
 intro b4 w8 H
 refine WL.aT H 0 rfl rfl rfl (new := _) rfl (by exact kZ) (bC _ rfl) (Laid.at (Laid.all (by simp only [aR, aU, aB])) (by rfl)) rfl ?_
 intro w9 H
 refine WL.nil (WE.aA (WL.pv (PV.fieldAddr rfl sJ rfl) rfl ?_))
 refine WL.aZ rfl E5 rfl rfl (by exact aK.aF (H.l 0 rfl) aJ.hd (by rfl)) ?_
 refine WL.bG rfl lZ rfl rfl (by exact aK.aF (H.l 1 rfl) (aJ.all _) (by rfl)) (by (rw [jU]; refine congrArg some ?_; (simp [aN, bA, *]; done))) ?_
 refine WL.pv (PV.fieldAddr rfl pM rfl) rfl ?_
 refine WL.bG rfl B8 rfl rfl (by exact aK.aF (H.l 1 rfl) (aJ.r (aJ.r (aJ.r (aJ.l (aJ.all _)) (by with_reducible rfl)) (by with_reducible rfl)) (by with_reducible rfl)) (by (simp [aN, bA, *]; done))) (cI uW (by simp only [aR, aU, aB]; omega)) ?_
 refine WL.iK rfl rfl (OC H.aS (by exact (H.bN 0 rfl : aH _ (eN sl sb) _)) hp) ?_
 rintro _ y8 ⟨rfl, hO⟩
 replace H := H.out hO
 refine WL.pv (PV.not rfl rfl) rfl (WL.nil ?_)
 refine WE.bB rfl rfl ?_
 refine WE.skip (WE.eM (WL.pv (PV.bZ rfl rfl rfl (by omega) (by omega)) rfl (WL.mv rfl rfl (WL.nil ?_))))
 replace H := H.forget 0
 refine dN.step ?_
 refine WE.aA (WL.pv (PV.lss rfl rfl rfl) rfl (WL.nil (WE.seq ?_)))
 refine WE.cO rfl rfl ?_
 refine WE.skip (WE.seq (WE.block (WE.aA ?_)))
 refine WL.pv (by exact PV.q6 (i := 2) rfl AO kZ rfl rfl (by decide) (dR.agg E4 (by exact kZ) (aJ.r (aJ.r (aJ.l (aJ.all _)) rfl) rfl))) rfl ?_
 refine WL.alloc H rfl qD rfl ?_
 intro b4 FI H
 refine WL.aT H 0 rfl rfl rfl (new := _) rfl (by exact kZ) (bC _ rfl) (Laid.at (Laid.all (by simp only [aR, aU, aB])) (by rfl)) rfl ?_
 intro KT H
 refine WL.nil (WE.aA (WL.pv (PV.fieldAddr rfl sJ rfl) rfl ?_))
 refine WL.aZ rfl E5 rfl rfl (by exact aK.aF (H.l 0 rfl) aJ.hd (by rfl)) ?_
 refine WL.bG rfl lZ rfl rfl (by exact aK.aF (H.l 1 rfl) (aJ.all _) (by rfl)) (by (rw [jU]; refine congrArg some ?_; (simp [aN, bA, *]; done))) ?_
 refine WL.pv (PV.fieldAddr rfl pM rfl) rfl ?_
 refine WL.bG rfl B8 rfl rfl (by exact aK.aF (H.l 1 rfl) (aJ.r (aJ.r (aJ.r (aJ.l (aJ.all _)) (by with_reducible rfl)) (by with_reducible rfl)) (by with_reducible rfl)) (by (simp [aN, bA, *]; done))) (cI uW (by simp only [aR, aU, aB]; omega)) ?_
 refine WL.iK rfl rfl (OB H.aS (by exact (H.bN 0 rfl : aH _ (eN sl sb) _)) hp) ?_
 rintro _ TK ⟨rfl, hO⟩
 replace H := H.out hO
 refine WL.pv (PV.not rfl rfl) rfl (WL.nil ?_)
 refine WE.bB rfl rfl ?_
 refine WE.skip (WE.eM (WL.pv (PV.bZ rfl rfl rfl (by omega) (by omega)) rfl (WL.mv rfl rfl (WL.nil ?_))))
 replace H := H.forget 0
 refine dN.step ?_
 refine WE.aA (WL.pv (PV.lss rfl rfl rfl) rfl (WL.nil (WE.seq ?_)))
 refine WE.cO rfl rfl ?_
 refine WE.skip (WE.seq (WE.block (WE.aA ?_)))
 refine WL.pv (by exact PV.q6 (i := 3) rfl AO kZ rfl rfl (by decide) (dR.agg E4 (by exact kZ) (aJ.r (aJ.r (aJ.r (aJ.l (aJ.all _)) rfl) rfl) rfl))) rfl ?_
 refine WL.alloc H rfl qD rfl ?_
 intro b4 TI H
 refine WL.aT H 0 rfl rfl rfl (new := _) rfl (by exact kZ) (bC _ rfl) (Laid.at (Laid.all (by simp only [aR, aU, aB])) (by rfl)) rfl ?_
 intro YF H
 refine WL.nil (WE.aA (WL.pv (PV.fieldAddr rfl sJ rfl) rfl ?_))
 refine WL.aZ rfl E5 rfl rfl (by exact aK.aF (H.l 0 rfl) aJ.hd (by rfl)) ?_
 refine WL.bG rfl lZ rfl rfl (by exact aK.aF (H.l 1 rfl) (aJ.all _) (by rfl)) (by (rw [jU]; refine congrArg some ?_; (simp [aN, bA, *]; done))) ?_
 refine WL.pv (PV.fieldAddr rfl pM rfl) rfl ?_
 refine WL.bG rfl B8 rfl rfl (by exact aK.aF (H.l 1 rfl) (aJ.r (aJ.r (aJ.r (aJ.l (aJ.all _)) (by with_reducible rfl)) (by with_reducible rfl)) (by with_reducible rfl)) (by (simp [aN, bA, *]; done))) (cI uW (by simp only [aR, aU, aB]; omega)) ?_
 refine WL.iK rfl rfl (OA H.aS (by exact (H.bN 0 rfl : aH _ (eN sl sb) _)) hp) ?_
 rintro _ w21 ⟨rfl, hO⟩
 replace H := H.out hO
 refine WL.pv (PV.not rfl rfl) rfl (WL.nil ?_)
 refine WE.bB rfl rfl ?_
 refine WE.skip (WE.eM (WL.pv (PV.bZ rfl rfl rfl (by omega) (by omega)) rfl (WL.mv rfl rfl (WL.nil ?_))))
 replace H := H.forget 0
 refine dN.step ?_
 refine WE.aA (WL.pv (PV.lss rfl rfl rfl) rfl (WL.nil (WE.seq ?_)))
 refine WE.cO rfl rfl ?_
 refine WE.skip (WE.seq (WE.block (WE.aA ?_)))
 refine WL.pv (by exact PV.q6 (i := 4) rfl AO kZ rfl rfl (by decide) (dR.agg E4 (by exact kZ) (aJ.r (aJ.r (aJ.r (aJ.r (aJ.all _) rfl) rfl) rfl) rfl))) rfl ?_
 refine WL.alloc H rfl qD rfl ?_
 intro b4 w23 H
 refine WL.aT H 0 rfl rfl rfl (new := _) rfl (by exact kZ) (bC _ rfl) (Laid.at (Laid.all (by simp only [aR, aU, aB])) (by rfl)) rfl ?_
 intro w24 H
 refine WL.nil (WE.aA (WL.pv (PV.fieldAddr rfl sJ rfl) rfl ?_))
 refine WL.aZ rfl E5 rfl rfl (by exact aK.aF (H.l 0 rfl) aJ.hd (by rfl)) ?_
 refine WL.bG rfl lZ rfl rfl (by exact aK.aF (H.l 1 rfl) (aJ.all _) (by rfl)) (by (rw [jU]; refine congrArg some ?_; (simp [aN, bA, *]; done))) ?_
 refine WL.pv (PV.fieldAddr rfl pM rfl) rfl ?_
 refine WL.bG rfl B8 rfl rfl (by exact aK.aF (H.l 1 rfl) (aJ.r (aJ.r (aJ.r (aJ.l (aJ.all _)) (by with_reducible rfl)) (by with_reducible rfl)) (by with_reducible rfl)) (by (simp [aN, bA, *]; done))) (cI uW (by simp only [aR, aU, aB]; omega)) ?_
 refine WL.iK rfl rfl (N9 H.aS (by exact (H.bN 0 rfl : aH _ (eN sl sb) _)) hp) ?_
 rintro _ w26 ⟨rfl, hO⟩
 replace H := H.out hO
 refine WL.pv (PV.not rfl rfl) rfl (WL.nil ?_)
 refine WE.bB rfl rfl ?_
 refine WE.skip (WE.eM (WL.pv (PV.bZ rfl rfl rfl (by omega) (by omega)) rfl (WL.mv rfl rfl (WL.nil ?_))))
 replace H := H.forget 0
 refine dN.step ?_
 refine WE.aA (WL.pv (PV.lss rfl rfl rfl) rfl (WL.nil (WE.seq ?_)))
 refine WE.bB rfl rfl ?_
 refine WE.exit (WE.aA (WL.as rfl rfl (WL.nil (WE.ret ⟨[_], _, .nil _, ⟨rfl, trivial⟩, ?_⟩))))
 exact ⟨rfl, H.aM⟩
theorem aB6 {X : Nat → Prop} {w : World} {bits : Int} {T : Tr} {m : List En} {k : List UInt8} (hX : cW X w) (bU : aH X (cQ bits T) w) (hk : k.length = 32) (hT : T.er = grow 0 m) (hs : k7 m) (sS : KL m) :
  bD Tryz.prog 51 [T.ptr, .agg (kc k).toArray].toArray w fun v w' => ∃ s, v = .tuple [s, .bool (iQ m k)].toArray ∧ Out Nil w w' ∧ aH X (bI s (gV m k)) w' := by
 have pm := hs.pm sS
 have hfit := xD pm
 rw [← hT] at hfit
 have hg0 := EA (k := k) hT pm
 cases hg : getM m k with
 | none =>
  refine (XZ hX bU hk hfit (by rw [hg0, hg]; rfl)).mono ?_
  rintro v w' ⟨rfl, hO⟩
  refine ⟨.slice none 0 0, by unfold iQ; rw [hg]; rfl, hO, fun w'' _ => ?_⟩
  unfold gV; rw [hg]; exact bI.nil w''
 | some e =>
  refine (S9 (v0 := e.v) hX bU hk hfit (by rw [hg0, hg]; rfl)).mono ?_
  rintro v w' ⟨s, rfl, hO, gT⟩
  refine ⟨s, by unfold iQ; rw [hg]; rfl, hO, ?_⟩
  have h1 := (pT hX gT).imp fun _ h => bI.eH h
  unfold gV; rw [hg]; exact h1
theorem tF {X : Nat → Prop} {w : World} {s : Value} {m : List En} {k : List UInt8} (hX : cW X w) (bU : aH X (gE s m) w) (pW : KL m) (hlen : m.length ≤ 1000000) (hk : k.length = 32) :
  bD Tryz.prog 40 [s, .agg (kc k).toArray].toArray w fun v w' => v = .tuple [gS m k, .bool (iQ m k)].toArray ∧ Out Nil w w' := by
 have := ON hX bU pW hlen hk
 rwa [V2] at this
theorem bI.whole {a : Addr} {n c : Nat} {l : List UInt8} {w : World} (h : bI (.slice (some a) n c) l w) : cX w a (kc l) := by
 obtain ⟨A, c', hv, _, _, _, hr⟩ := h
 injection hv with hv _ _
 exact hr a hv.symm
theorem bI.some {s : Value} {l : List UInt8} {w : World} (h : bI s l w) (hl : 0 < l.length) : ∃ a c, s = .slice (some a) l.length c := by
 obtain ⟨a, c, hv, _⟩ := cS.at_ h 0 hl
 exact ⟨a, c, hv⟩
theorem SU {X : Nat → Prop} {w : World} {s : Value} {lb : List UInt8} (hX : cW X w) (bU : aH X (bI s lb) w) (DX : lb.length = 32) :
  bD Tryz.prog 133 [s].toArray w fun v w' => v = .tuple [.agg (kc lb).toArray, .int .i64 0].toArray ∧ Out Nil w w' := by
 refine bD.aI (N := 11) Tryz.func133 rfl rfl (by simp) ?_
 have H := St.begin hX
 replace H := H.add (cF bU)
 obtain ⟨sa, sc, rfl⟩ := bI.some (H.p 0 rfl : bI s lb _) (by omega)
 have M8 : lb.length = 32 := DX
 refine WE.aA ?_
 refine WL.alloc H rfl rO rfl ?_
 intro b2 w1 H
 refine WL.as rfl rfl (WL.nil (WE.seq (WE.aA (WL.mv rfl rfl (WL.pv (PV.zO eV rfl) rfl (WL.pv (PV.neq rfl rfl rfl) rfl (WL.nil ?_)))))))
 refine WE.bB rfl (by simp [DX]) ?_
 refine WE.skip (WE.aA (WL.mv rfl rfl ?_))
 refine WL.pv (PV.uR (n := 32) rfl gQ (by rw [DX]; rfl)) rfl ?_
 refine WL.bG rfl cU rfl rfl (bI.whole (H.p 0 rfl)) (cI cN (by simp only [aR, aU, aB]; omega)) ?_
 refine WL.aT H 0 rfl rfl rfl (new := _) rfl (cI cN (by simp only [aR, aU, aB]; omega)) (by exact bK _) (Laid.at (Laid.all (by simp only [aR, aU, aB]; omega)) (by rfl)) rfl ?_
 intro w2 H
 refine WL.as rfl rfl (WL.nil (WE.ret ⟨[_, _], _, .nil _, ⟨⟨_, rfl, aV cU (by exact aK.aF (H.l 0 rfl) (aJ.all _) rfl) (cI cN (by simp only [aR, aU, aB]; omega))⟩, rfl, trivial⟩, ?_⟩))
 exact ⟨rfl, H.aM⟩
theorem XS {X : Nat → Prop} {w : World} {s : Value} {lb : List UInt8} (hX : cW X w) (bU : aH X (bI s lb) w) (DX : lb.length ≠ 32) (hle : lb.length ≤ 9223372036854775807) :
  bD Tryz.prog 133 [s].toArray w fun v w' => v = .tuple [.agg (kc (List.replicate 32 0)).toArray, .int .i64 2].toArray ∧ Out Nil w w' := by
 refine bD.aI (N := 11) Tryz.func133 rfl rfl (by simp) ?_
 have H := St.begin hX
 replace H := H.add (cF bU)
 refine WE.aA ?_
 refine WL.alloc H rfl rO rfl ?_
 intro b2 w1 H
 refine WL.as rfl rfl (WL.nil (WE.seq (WE.aA (WL.mv rfl rfl (WL.pv (PV.dO (H.p 0 rfl) eV rfl) rfl (WL.pv (PV.neq rfl rfl rfl) rfl (WL.nil ?_)))))))
 refine WE.cO rfl (by simp; omega) ?_
 refine WE.aA (WL.pv (PV.mM rfl gQ iB rO Fl.nil) rfl ?_)
 refine WL.aT H 0 rfl rfl rfl (new := _) rfl (by exact cN) (by exact bK _) (Laid.at (Laid.all (by with_reducible rfl)) (by rfl)) rfl ?_
 intro w2 H
 refine WL.as rfl rfl (WL.nil (WE.ret ⟨[_, _], _, .nil _, ⟨⟨_, rfl, aV cU (by exact aK.aF (H.l 0 rfl) (aJ.all _) rfl) (by exact cN)⟩, rfl, trivial⟩, ?_⟩))
 exact ⟨rfl, H.aM⟩
theorem V4 {lb : List UInt8} {i m : Nat} (h : i < lb.length) : (lb.take i ++ List.replicate (m + 1) (0 : UInt8)).set i lb[i] = lb.take (i + 1) ++ List.replicate m 0 := by
 have h1 : (lb.take i).length = i := by rw [List.length_take]; omega
 rw [List.set_append_right (h := by omega), h1, Nat.sub_self, List.replicate_succ, List.set_cons_zero, List.take_succ_eq_append_getElem h, List.append_assoc]
 rfl
theorem r4 {X : Nat → Prop} {w : World} {s : Value} {lb : List UInt8} (hX : cW X w) (bU : aH X (bI s lb) w) (DX : lb.length = 32) :
  bD Tryz.prog 45 [s].toArray w fun v w' => v = .agg (kc lb).toArray ∧ Out Nil w w' := by
 refine bD.aI (N := 16) Tryz.func45 rfl rfl (by simp) ?_
 have H := St.begin hX
 replace H := H.add (cF bU)
 refine WE.aA ?_
 refine WL.alloc H rfl rO rfl ?_
 intro b2 w1 H
 refine WL.nil (WE.aA ?_)
 refine WL.alloc H rfl rO rfl ?_
 intro b3 w2 H
 refine WL.nil (WE.seq (WE.aA (WL.as rfl rfl (WL.nil (WE.block ?_)))))
 refine WE.loop (α := Nat) [4, 5, 6, 7, 8, 9, 10, 11, 12, 13, 14] (fun i => [(4, .int .i64 (i : Int))]) (fun i wl => i ≤ 32 ∧ St X w wl [] [aO.blk b3 24 (kc (lb.take i ++ List.replicate (32 - i) 0)), aO.blk b2 24 (kc (List.replicate 32 0))] [bI s lb]) (fun i => 32 - i) 0 ⟨rfl, trivial⟩ ⟨Nat.zero_le _, H.conv (by rfl)⟩ ?_
 intro i γ0 w3 hI
 try dsimp only at hI
 obtain ⟨hi, H⟩ := hI
 refine WE.seq (WE.aA (WL.mv rfl rfl (WL.pv (PV.lss rfl rfl rfl) rfl (WL.nil ?_))))
 refine WE.cond rfl (fun QL => ?_) (fun QL => ?_)
 ·
  try simp only [bW] at QL
  have aHx : i < 32 := by omega
  refine WE.skip (WE.seq (WE.block (WE.eM (WL.mv rfl rfl (WL.mv rfl rfl (WL.mv rfl rfl (WL.pv (PV.eQ rfl (H.p 0 rfl) eV iB rfl rfl (by omega) (by omega)) rfl ?_)))))))
  refine WL.aZ rfl B7 rfl rfl (bI.rd (H.p 0 rfl) i (by omega)) (WL.pv (PV.cG rfl gQ iB rfl rfl (by omega) (by omega)) rfl ?_)
  refine WL.aT H 0 rfl rfl rfl (new := _) rfl (by exact iB) (by exact bC _ rfl) (Laid.at (Laid.AH (x := lb[i]) i (by rw [List.length_append, List.length_take, List.length_replicate]; omega)) (by simp)) rfl ?_
  intro w4 H
  refine WL.nil (WE.eM (WL.mv rfl rfl ?_))
  refine WL.pv (PV.eq (v' := .int .i64 ((i + 1 : Nat) : Int)) (PV.bZ rfl rfl rfl (by omega) (by omega)) (by rfl)) rfl ?_
  refine WL.as rfl rfl (WL.nil ?_)
  have hfs : (lb.take i ++ List.replicate (32 - i) (0 : UInt8)).set i lb[i] = lb.take (i + 1) ++ List.replicate (32 - (i + 1)) 0 := by rw [show 32 - i = (32 - (i + 1)) + 1 by omega]; exact V4 (by omega)
  exact ⟨i + 1, (by repeat (first | with_reducible exact bQ.refl _ _ | refine bQ.dB rfl ?_ | refine bQ.cE rfl ?_ | refine bQ.cB rfl ?_)), ⟨rfl, trivial⟩, rfl, ⟨by omega, H.conv (by rw [← hfs]; rfl)⟩, (by omega)⟩
 ·
  try simp only [bW] at QL
  have uM : i = 32 := by omega
  refine WE.exit (WE.aA ?_)
  subst uM
  replace H := H.conv (L' := [aO.blk b3 24 (kc lb), aO.blk b2 24 (kc (List.replicate 32 0))]) (by rw [List.take_of_length_le (by omega)]; simp)
  refine WL.bG rfl cU rfl rfl (by exact aK.aF (H.l 0 rfl) (aJ.all _) (by rfl)) (cI cN (by simp only [aR, aU, aB]; omega)) ?_
  refine WL.aT H 1 rfl rfl rfl (new := _) rfl (cI cN (by simp only [aR, aU, aB]; omega)) (by exact bK _) (Laid.at (Laid.all (by simp only [aR, aU, aB]; omega)) (by rfl)) rfl ?_
  intro w5 H
  refine WL.nil (WE.ret ⟨[_], _, .nil _, ⟨⟨_, rfl, aV cU (by exact aK.aF (H.l 1 rfl) (aJ.all _) rfl) (cI cN (by simp only [aR, aU, aB]; omega))⟩, trivial⟩, ?_⟩)
  exact ⟨rfl, H.aM⟩
def dM (op : List UInt8) (ix code : Int) : List Value := [o7 op, .int .i64 ix, .iface 42 (.int .i64 code)]
def e8 (op : List UInt8) (ix code : Int) (v : Value) (w : World) : Prop :=
 (code = 0 ∧ v = .nilIface) ∨ (code ≠ 0 ∧ ∃ bf, v = .iface 219 (.pointer (some ⟨bf, 0, none⟩)) ∧ aK w bf 221 (dM op ix code))
theorem e8.ifv {op : List UInt8} {ix code : Int} {v : Value} {w : World} (h : e8 op ix code v w) : yF v := by
 rcases h with ⟨_, rfl⟩ | ⟨_, bf, rfl, _⟩
 ·
  exact yF.nil
 ·
  exact yF.of
theorem e8.isNil {op : List UInt8} {ix code : Int} {v : Value} {w : World} (h : e8 op ix code v w) : iE v = decide (code = 0) := by
 rcases h with ⟨h, rfl⟩ | ⟨h, bf, rfl, _⟩
 ·
  rw [decide_eq_true h]; rfl
 ·
  rw [decide_eq_false h]; rfl
theorem e8.one {op : List UInt8} {ix code : Int} {v : Value} {w : World} (h : e8 op ix code v w) : v.oneCell' = true := by
 rcases h with ⟨_, rfl⟩ | ⟨_, bf, rfl, _⟩ <;> rfl
def jO (k : List UInt8) : List UInt8 := if k.length = 32 then k else qX
theorem nB (k : List UInt8) : (jO k).length = 32 := by
 unfold jO
 split
 ·
  assumption
 ·
  rfl
theorem gR (k : List UInt8) : bV k [] = if k.length = 32 then 0 else 2 := by
 unfold bV
 by_cases h : k.length = 32
 ·
  rw [if_neg (by omega), if_neg (by simp), if_pos h]
 ·
  rw [if_pos h, if_neg h]
theorem aGn {X : Nat → Prop} {w : World} {s : Value} {lb : List UInt8} (hX : cW X w) (bU : aH X (bI s lb) w) (hl : lb.length ≤ 9223372036854775807) :
  bD Tryz.prog 133 [s].toArray w fun v w' => v = .tuple [.agg (kc (jO lb)).toArray, .int .i64 (bV lb [])].toArray ∧ Out Nil w w' := by
 by_cases h : lb.length = 32
 ·
  have := SU hX bU h
  rw [gR, if_pos h, show jO lb = lb from if_pos h]; exact this
 ·
  have := XS hX bU h hl
  rw [gR, if_neg h, show jO lb = qX from if_neg h]; exact this
theorem dM.rd0 {w : World} {bf : Nat} {op : List UInt8} {ix code : Int} (h : aK w bf 221 (dM op ix code)) : cX w ⟨bf, 0, none⟩ [o7 op] := aK.aF h (o := 0) ⟨[], [.int .i64 ix, .iface 42 (.int .i64 code)], rfl, rfl⟩ rfl
theorem dM.rd1 {w : World} {bf : Nat} {op : List UInt8} {ix code : Int} (h : aK w bf 221 (dM op ix code)) : cX w ⟨bf, 1, none⟩ [.int .i64 ix] := aK.aF h (o := 1) ⟨[o7 op], [.iface 42 (.int .i64 code)], rfl, rfl⟩ rfl
theorem dM.rd2 {w : World} {bf : Nat} {op : List UInt8} {ix code : Int} (h : aK w bf 221 (dM op ix code)) : cX w ⟨bf, 2, none⟩ [.iface 42 (.int .i64 code)] := aK.aF h (o := 2) ⟨[o7 op, .int .i64 ix], [], rfl, rfl⟩ rfl
theorem x8 {X : Nat → Prop} {w : World} {op : List UInt8} {ix code : Int} (hX : cW X w) :
  bD Tryz.prog 80 [o7 op, .int .i64 ix, .iface 42 (.int .i64 code)].toArray w fun v w' => ∃ bf, v = .iface 219 (.pointer (some ⟨bf, 0, none⟩)) ∧ Out Nil w w' ∧ w.heap.size ≤ bf ∧ aK w' bf 221 (dM op ix code) := by
 refine bD.aI (N := 15) Tryz.func80 rfl rfl (by simp) ?_
 have H := St.begin hX
 refine WE.aA (WL.as rfl rfl (WL.nil (WE.seq (WE.aA (WL.mv rfl rfl ?_)))))
 refine WL.pv (PV.pN rfl (by kernel_rfl) (by exact yF.of)) rfl ?_
 refine WL.nil ?_
 refine WE.bB rfl rfl ?_
 refine WE.skip (WE.aA (WL.mv rfl rfl (WL.mv rfl rfl (WL.mv rfl rfl ?_))))
 refine WL.pv (PV.dD rfl aC4 aCn (Fl.cons rfl (rfl) (by simp only [aR, aU, aB]) Laid.head (Fl.cons rfl (rfl) (by simp only [aR, aU, aB]) (Laid.tail Laid.head rfl) (Fl.cons rfl (rfl) (by simp only [aR, aU, aB]) (Laid.tail (Laid.tail Laid.head rfl) rfl) Fl.nil)))) rfl ?_
 refine WL.box (l := dM op ix code) H rfl (by rfl) rfl ?_
 intro b13 w1 H
 refine WL.pv (PV.kR rfl (by kernel_rfl)) rfl (WL.as rfl rfl (WL.nil (WE.ret ⟨[_], _, .nil _, ⟨rfl, trivial⟩, ?_⟩)))
 exact ⟨_, rfl, H.aM, H.jR _ (List.mem_of_getElem? (i := 0) rfl) _ rfl, H.l 0 rfl⟩
theorem GY {X : Nat → Prop} {w : World} {op : List UInt8} {ix code : Int} (hX : cW X w) :
  bD Tryz.prog 53 [o7 op, .int .i64 ix, .int .i64 code].toArray w fun v w' => Out Nil w w' ∧ aH X (e8 op ix code v) w' := by
 refine bD.aI (N := 14) Tryz.func53 rfl rfl (by simp) ?_
 have H := St.begin hX
 refine WE.aA (WL.as rfl rfl (WL.nil (WE.seq (WE.aA (WL.mv rfl rfl (WL.pv (PV.eql rfl rfl rfl) rfl (WL.nil ?_)))))))
 refine WE.cond rfl (fun mO => ?_) (fun mO => ?_)
 ·
  try simp only [bW] at mO
  have hz : code = 0 := by exact mO
  refine WE.aA (WL.as rfl rfl (WL.nil (WE.ret ⟨[_], _, .nil _, ⟨rfl, trivial⟩, ?_⟩)))
  exact ⟨H.aM, fun _ _ => .inl ⟨hz, rfl⟩⟩
 ·
  try simp only [bW] at mO
  have hz : code ≠ 0 := by exact mO
  refine WE.skip (WE.aA (WL.mv rfl rfl (WL.mv rfl rfl (WL.mv rfl rfl (WL.pv (PV.kR rfl (by kernel_rfl)) rfl ?_)))))
  refine WL.call aEu rfl (x8 (op := op) (ix := ix) (code := code) H.aS  ) ?_
  rintro _ w1 ⟨R2, rfl, hO, hge, hB⟩
  replace H := H.push hO (aO.blk R2 221 (dM op ix code)) hB (fun c hc => by cases hc; exact hge)
  refine WL.as rfl rfl (WL.nil (WE.ret ⟨[_], _, .nil _, ⟨rfl, trivial⟩, ?_⟩))
  replace H := H.freeze (i := 0) rfl
  exact ⟨H.aM, (show aH X (fun w => aK w R2 221 (dM op ix code)) _ from H.gU (H.bN 0 rfl)).imp fun _ h => .inr ⟨hz, R2, rfl, h⟩⟩
theorem SJ {X : Nat → Prop} {w : World} {bf : Nat} {op : List UInt8} {ix code : Int} (hX : cW X w) (bU : aH X (fun w => aK w bf 221 (dM op ix code)) w) :
  bD Tryz.prog 249 [.pointer (some ⟨bf, 0, none⟩)].toArray w fun v w' => v = .iface 42 (.int .i64 code) ∧ Out Nil w w' := by
 refine bD.aI (N := 9) Tryz.func249 rfl rfl (by simp) ?_
 have H := St.begin hX
 replace H := H.add (cF bU)
 refine WE.aA (WL.as rfl rfl (WL.nil (WE.seq (WE.aA (WL.mv rfl rfl (WL.pv (PV.iX rfl YO rfl rfl) rfl (WL.nil ?_)))))))
 refine WE.bB rfl rfl ?_
 refine WE.skip (WE.aA (WL.mv rfl rfl (WL.pv (PV.nilCheck rfl rfl) rfl (WL.pv (PV.fieldAddr rfl JN rfl) rfl (WL.aZ rfl aF8 rfl rfl ((dM.rd2 (H.p 0 rfl))) (WL.as rfl rfl (WL.nil ?_)))))))
 refine WE.ret ⟨[_], _, .nil _, ⟨rfl, trivial⟩, ?_⟩
 exact ⟨rfl, H.aM⟩
theorem JU {X : Nat → Prop} {w : World} {s sv : Value} {lb vv : List UInt8} (hX : cW X w) (bU : aH X (bI s lb) w) (dA : aH X (bI sv vv) w) (DX : lb.length ≤ 9223372036854775807) (hvv : vv.length ≤ 9223372036854775807) :
  bD Tryz.prog 89 [s, sv].toArray w fun v w' => v = .tuple [.agg (kc (jO lb) ++ [sv]).toArray, .int .i64 (bV lb vv)].toArray ∧ Out Nil w w' := by
 refine bD.aI (N := 24) Tryz.func89 rfl rfl (by simp) ?_
 have H := St.begin hX
 replace H := H.add (cF dA)
 replace H := H.add (cF bU)
 have vD : sv.oneCell' = true := cS.fG (dA.here)
 have M9 := nB lb
 have PY := gR lb
 refine WE.aA ?_
 refine WL.alloc H rfl kL rfl ?_
 intro b4 w1 H
 refine WL.as rfl rfl (WL.nil (WE.aA (WL.mv rfl rfl ?_)))
 refine WL.call aFm rfl (aGn (lb := lb) H.aS (by exact (H.bN 0 rfl : aH _ (bI s lb) _)) DX) ?_
 rintro _ w2 ⟨rfl, hO⟩
 replace H := H.out hO
 refine WL.mv rfl rfl (WL.pv (PV.extract rfl rfl rfl) rfl (WL.pv (PV.extract rfl rfl rfl) rfl ?_))
 refine WL.alloc H rfl rO rfl ?_
 intro b6 w3 H
 refine WL.aT H 0 rfl rfl rfl (new := kc (jO lb)) rfl (cI cN (by simp only [aR, aU, aB]; omega)) (by exact bK _) (Laid.at (Laid.all (by simp only [aR, aU, aB]; omega)) (by rfl)) rfl ?_
 intro w4 H
 refine WL.as rfl rfl (WL.nil (WE.seq (WE.aA (WL.mv rfl rfl (WL.pv (PV.eql rfl rfl rfl) rfl (WL.mv rfl rfl ?_))))))
 refine WL.split (t := 15) rfl (fun sG => ?_) (fun sG => ?_)
 ·
  refine WL.known (t := 14) (c := true) rfl sG ?_
  try simp only [bW] at sG
  have hok : bV lb [] = 0 := by exact sG
  have FN : lb.length = 32 := (c8.1 hok).1
  refine WL.mv rfl rfl ?_
  refine WL.pv (PV.dO (by exact (H.p 1 rfl : (bI sv vv) _)) eV rfl) rfl ?_
  refine WL.pv (PV.gtr rfl rfl rfl) rfl (WL.pv (PV.dH rfl rfl rfl) rfl (WL.nil ?_))
  refine WE.cond rfl (fun jJ => ?_) (fun jJ => ?_)
  ·
   try simp only [bW] at jJ
   have hrn : bV lb vv = 3 := by unfold bV; rw [if_neg (by omega), if_pos (by omega)]
   refine WE.eM (WL.as rfl rfl (WL.nil (WE.aA ?_)))
   refine WL.bG rfl cU rfl rfl (by exact aK.aF (H.l 0 rfl) (aJ.all _) (by rfl)) (cI cN (by simp only [aR, aU, aB]; omega)) ?_
   refine WL.mv rfl rfl ?_
   refine WL.pv (PV.dD rfl wJ kL (Fl.cons rfl (by rfl) (by simp only [aR, aU, aB]; omega) (Laid.left (Laid.all (by simp only [aR, aU, aB]; omega))) (Fl.cons rfl (cells_one vD) (by simp only [aR, aU, aB]) (Laid.right (Laid.all (by simp only [aR, aU, aB])) (by simp only [aR, aU, aB]; omega)) Fl.nil))) rfl ?_
   refine WL.mv rfl rfl ?_
   refine WL.aT H 1 rfl rfl rfl (new := kc (jO lb) ++ [sv]) rfl (cI fL (by simp only [aR, aU, aB]; omega)) (bO (bK _) (dV vD)) (Laid.at (Laid.all (by simp only [aR, aU, aB]; omega)) (by rfl)) rfl ?_
   intro w5 H
   refine WL.as rfl rfl (WL.nil (WE.ret ⟨[_, _], _, .nil _, ⟨⟨_, rfl, aV oS (by exact aK.aF (H.l 1 rfl) (aJ.all _) rfl) (cI fL (by simp only [aR, aU, aB]; omega))⟩, rfl, trivial⟩, ?_⟩))
   refine ⟨?_, H.aM⟩
   rw [hrn]; rfl
  ·
   try simp only [bW] at jJ
   have hrn : bV lb vv = bV lb [] := by rw [hok]; exact c8.2 ⟨FN, by omega⟩
   refine WE.skip (WE.aA ?_)
   refine WL.bG rfl cU rfl rfl (by exact aK.aF (H.l 0 rfl) (aJ.all _) (by rfl)) (cI cN (by simp only [aR, aU, aB]; omega)) ?_
   refine WL.mv rfl rfl ?_
   refine WL.pv (PV.dD rfl wJ kL (Fl.cons rfl (by rfl) (by simp only [aR, aU, aB]; omega) (Laid.left (Laid.all (by simp only [aR, aU, aB]; omega))) (Fl.cons rfl (cells_one vD) (by simp only [aR, aU, aB]) (Laid.right (Laid.all (by simp only [aR, aU, aB])) (by simp only [aR, aU, aB]; omega)) Fl.nil))) rfl ?_
   refine WL.mv rfl rfl ?_
   refine WL.aT H 1 rfl rfl rfl (new := kc (jO lb) ++ [sv]) rfl (cI fL (by simp only [aR, aU, aB]; omega)) (bO (bK _) (dV vD)) (Laid.at (Laid.all (by simp only [aR, aU, aB]; omega)) (by rfl)) rfl ?_
   intro w6 H
   refine WL.as rfl rfl (WL.nil (WE.ret ⟨[_, _], _, .nil _, ⟨⟨_, rfl, aV oS (by exact aK.aF (H.l 1 rfl) (aJ.all _) rfl) (cI fL (by simp only [aR, aU, aB]; omega))⟩, rfl, trivial⟩, ?_⟩))
   refine ⟨?_, H.aM⟩
   rw [hrn]; rfl
 ·
  refine WL.known (t := 14) (c := false) rfl sG ?_
  try simp only [bW] at sG
  have hok : ¬ bV lb [] = 0 := by exact sG
  have FN : lb.length ≠ 32 := fun h => hok (c8.2 ⟨h, by simp⟩)
  have hrn : bV lb vv = bV lb [] := by rw [PY, if_neg FN]; exact if_pos FN
  refine WL.off rfl (WL.off rfl (WL.off rfl (WL.pv (PV.c5 rfl rfl rfl) rfl (WL.nil (WE.iJ rfl (WE.skip (WE.aA ?_)))))))
  refine WL.bG rfl cU rfl rfl (by exact aK.aF (H.l 0 rfl) (aJ.all _) (by rfl)) (cI cN (by simp only [aR, aU, aB]; omega)) ?_
  refine WL.mv rfl rfl ?_
  refine WL.pv (PV.dD rfl wJ kL (Fl.cons rfl (by rfl) (by simp only [aR, aU, aB]; omega) (Laid.left (Laid.all (by simp only [aR, aU, aB]; omega))) (Fl.cons rfl (cells_one vD) (by simp only [aR, aU, aB]) (Laid.right (Laid.all (by simp only [aR, aU, aB])) (by simp only [aR, aU, aB]; omega)) Fl.nil))) rfl ?_
  refine WL.mv rfl rfl ?_
  refine WL.aT H 1 rfl rfl rfl (new := kc (jO lb) ++ [sv]) rfl (cI fL (by simp only [aR, aU, aB]; omega)) (bO (bK _) (dV vD)) (Laid.at (Laid.all (by simp only [aR, aU, aB]; omega)) (by rfl)) rfl ?_
  intro w7 H
  refine WL.as rfl rfl (WL.nil (WE.ret ⟨[_, _], _, .nil _, ⟨⟨_, rfl, aV oS (by exact aK.aF (H.l 1 rfl) (aJ.all _) rfl) (cI fL (by simp only [aR, aU, aB]; omega))⟩, rfl, trivial⟩, ?_⟩))
  refine ⟨?_, H.aM⟩
  rw [hrn]; rfl
theorem vX {X : Nat → Prop} {w : World} {bt : Nat} {op : List UInt8} {s sv : Value} {lb vv : List UInt8} (hX : cW X w) (bU : aH X (bI s lb) w) (dA : aH X (bI sv vv) w) (DX : lb.length ≤ 9223372036854775807) (hvv : vv.length ≤ 9223372036854775807) :
  bD Tryz.prog 49 [.pointer (some ⟨bt, 0, none⟩), o7 op, s, sv].toArray w fun v w' => ∃ ev, v = .tuple [.agg (kc (jO lb) ++ [sv]).toArray, ev].toArray ∧ Out Nil w w' ∧ aH X (e8 op 0 (bV lb vv) ev) w' := by
 refine bD.aI (N := 27) Tryz.func49 rfl rfl (by simp) ?_
 have H := St.begin hX
 replace H := H.add (cF dA)
 replace H := H.add (cF bU)
 have vD : sv.oneCell' = true := cS.fG (dA.here)
 have M9 := nB lb
 refine WE.aA ?_
 refine WL.alloc H rfl kL rfl ?_
 intro b8 w1 H
 refine WL.as rfl rfl (WL.nil (WE.seq (WE.aA (WL.mv rfl rfl (WL.pv (PV.iX rfl F3 rfl rfl) rfl (WL.nil ?_))))))
 refine WE.bB rfl rfl ?_
 refine WE.skip (WE.aA (WL.mv rfl rfl (WL.mv rfl rfl ?_)))
 refine WL.call aEs rfl (JU (lb := lb) (vv := vv) H.aS (by exact H.bN 0 rfl) (by exact H.bN 1 rfl) (by assumption) (by assumption)) ?_
 rintro _ w2 ⟨rfl, hO⟩
 replace H := H.out hO
 refine WL.mv rfl rfl (WL.pv (PV.extract rfl rfl rfl) rfl (WL.pv (PV.extract rfl rfl rfl) rfl ?_))
 refine WL.alloc H rfl kL rfl ?_
 intro pQ w3 H
 refine WL.aT H 0 rfl rfl rfl (new := _) rfl (cI fL (by simp only [aR, aU, aB]; omega)) (bO (bK _) (dV vD)) (Laid.at (Laid.all (by simp only [aR, aU, aB]; omega)) (by rfl)) rfl ?_
 intro w4 H
 refine WL.as rfl rfl (WL.nil ?_)
 refine WE.bF (.take 0 (.take 1 (.take 2 (.aG 3 (.aG 4 (.take 5 .done)))))) mixed (by kernel_rfl) ?_
 replace H := H.out (Out.drew _)
 refine WP.dF rfl rfl rfl oS rfl (by exact aK.aF (H.l 0 rfl) (aJ.all _) (by rfl)) (cI fL (by simp only [aR, aU, aB]; omega)) ?_
 refine WP.mv rfl rfl rfl (WP.mv rfl rfl rfl (WP.aG rfl ?_))
 refine WL.call aBv rfl (GY (op := op) (ix := 0) (code := bV lb vv) H.aS  ) ?_
 rintro v26 w5 ⟨hO, hR⟩
 replace H := (H.out hO).add hR
 refine WL.nil ⟨(fa (fun _ _ => (by exact aK.aF (H.l 0 rfl) (aJ.all _) (by rfl))) cV), ?_⟩
 refine WP.aG rfl ?_
 refine WL.aT H 1 rfl rfl rfl (new := kc (jO lb) ++ [sv]) rfl (cI fL (by simp only [aR, aU, aB]; omega)) (bO (bK _) (dV vD)) (Laid.at (Laid.all (by simp only [aR, aU, aB]; omega)) (by rfl)) rfl ?_
 intro w6 H
 refine WL.nil ⟨(fa (nw 4 0 (by decide +kernel)) cV), ?_⟩
 refine WP.as rfl rfl rfl (WP.done (WE.ret ⟨[_, _], _, .nil _, ⟨⟨_, rfl, aV oS (by exact aK.aF (H.l 1 rfl) (aJ.all _) rfl) (cI fL (by simp only [aR, aU, aB]; omega))⟩, rfl, trivial⟩, ?_⟩))
 exact ⟨_, rfl, H.aM, H.gU (H.bN 0 rfl)⟩
theorem kK {X : Nat → Prop} {w : World} {bt bh : Nat} {T : Tr} (hX : cW X w) (bU : aH X (fun w => cX w ⟨bt, 0, none⟩ [.pointer (some ⟨bh, 0, none⟩), T.ptr]) w) :
  bD Tryz.prog 10 [.pointer (some ⟨bt, 0, none⟩)].toArray w fun v w' => v = .pointer (some ⟨bh, 0, none⟩) ∧ Out Nil w w' := by
 refine bD.aI (N := 9) Tryz.func10 rfl rfl (by simp) ?_
 have H := St.begin hX
 replace H := H.add (cF bU)
 refine WE.aA (WL.as rfl rfl (WL.nil (WE.seq (WE.aA (WL.mv rfl rfl (WL.pv (PV.iX rfl F3 rfl rfl) rfl (WL.nil ?_)))))))
 refine WE.bB rfl rfl ?_
 refine WE.skip (WE.aA (WL.mv rfl rfl (WL.pv (PV.nilCheck rfl rfl) rfl (WL.pv (PV.fieldAddr rfl xF rfl) rfl ?_))))
 refine WL.aZ rfl u4 rfl rfl (by exact cX.at_ (o := 0) (H.p 0 rfl) rfl rfl) ?_
 refine WL.as rfl rfl (WL.nil (WE.ret ⟨[_], _, .nil _, ⟨rfl, trivial⟩, ?_⟩))
 exact ⟨rfl, H.aM⟩
theorem vO {X : Nat → Prop} {w : World} {bt bh : Nat} {T : Tr} (hX : cW X w) (bU : aH X (fun w => cX w ⟨bt, 0, none⟩ [.pointer (some ⟨bh, 0, none⟩), T.ptr]) w) :
  bD Tryz.prog 11 [.pointer (some ⟨bt, 0, none⟩)].toArray w fun v w' => v = T.ptr ∧ Out Nil w w' := by
 refine bD.aI (N := 9) Tryz.func11 rfl rfl (by simp) ?_
 have H := St.begin hX
 replace H := H.add (cF bU)
 refine WE.aA (WL.as rfl rfl (WL.nil (WE.seq (WE.aA (WL.mv rfl rfl (WL.pv (PV.iX rfl F3 rfl rfl) rfl (WL.nil ?_)))))))
 refine WE.bB rfl rfl ?_
 refine WE.skip (WE.aA (WL.mv rfl rfl (WL.pv (PV.nilCheck rfl rfl) rfl (WL.pv (PV.fieldAddr rfl oF rfl) rfl ?_))))
 refine WL.aZ rfl gZ rfl rfl (by exact cX.at_ (o := 1) (H.p 0 rfl) rfl rfl) ?_
 refine WL.as rfl rfl (WL.nil (WE.ret ⟨[_], _, .nil _, ⟨rfl, trivial⟩, ?_⟩))
 exact ⟨rfl, H.aM⟩
theorem KD {X : Nat → Prop} {w : World} {bt bh bc : Nat} {bits c0 : Int} {T : Tr} (hX : cW X w) (eR : aK w bc 213 ([.int .i64 c0])) (bU : aH (fun c_ => X c_ ∨ c_ = bc) (fun w => cX w ⟨bt, 0, none⟩ [.pointer (some ⟨bh, 0, none⟩), T.ptr]) w) (dA : aH (fun c_ => X c_ ∨ c_ = bc) (fJ bh bc bits) w) (fO : aH (fun c_ => X c_ ∨ c_ = bc) (cQ bits T) w) (jM : aH (fun c_ => X c_ ∨ c_ = bc) (aW) w) (bS : 0 ≤ bits ∧ bits ≤ 256) :
  bD Tryz.prog 13 [.pointer (some ⟨bt, 0, none⟩)].toArray w fun v w' => ∃ m : Int, v = .agg (kc (T.er.lV bits)).toArray ∧ Out (· = bc) w w' ∧ aK w' bc 213 [.int .i64 m] := by
 refine bD.aI (N := 15) Tryz.func13 rfl rfl (by simp) ?_
 have H := St.c6 (b := bc) (t := 213) (l := [.int .i64 c0]) hX eR
 replace H := H.add (bY jM)
 replace H := H.add (bY fO)
 replace H := H.add (bY dA)
 replace H := H.add (bY bU)
 refine WE.aA ?_
 refine WL.alloc H rfl nP rfl ?_
 intro b2 w1 H
 refine WL.nil (WE.seq (WE.aA (WL.mv rfl rfl (WL.pv (PV.iX rfl F3 rfl rfl) rfl (WL.nil ?_)))))
 refine WE.bB rfl rfl ?_
 refine WE.skip ?_
 refine WE.bF (.take 0 (.take 1 (.take 2 (.take 3 (.take 4 (.take 5 (.take 6 (.take 7 (.aG 8 (.aG 9 .done)))))))))) mixed (by kernel_rfl) ?_
 replace H := H.out (Out.drew _)
 refine WP.mv rfl rfl rfl (WP.aC rfl rfl (PV.nilCheck rfl rfl) (WP.aC rfl rfl (PV.fieldAddr rfl xF rfl) ?_))
 refine WP.aQ rfl rfl (RV.aY rfl u4 rfl) (by exact cX.at_ (o := 0) (H.p 0 rfl) rfl rfl) ?_
 refine WP.mv rfl rfl rfl (WP.aC rfl rfl (PV.nilCheck rfl rfl) (WP.aC rfl rfl (PV.fieldAddr rfl oF rfl) ?_))
 refine WP.aQ rfl rfl (RV.aY rfl gZ rfl) (by exact cX.at_ (o := 1) (H.p 0 rfl) rfl rfl) ?_
 refine WP.aG rfl ?_
 refine WL.call Q7 rfl (sR (T := T) (bits := bits) H.aS (H.o 0 rfl) (by exact H.aL 0 rfl 1 rfl) (by exact H.aL 0 rfl 2 rfl) (by exact H.aL 0 rfl 3 rfl) (by assumption)) ?_
 rintro _ w2 ⟨aI4, rfl, hO, hB⟩
 replace H := H.eS 0 rfl hO hB
 refine WL.nil ⟨(fa (nw 8 7 (by decide +kernel)) (fa (nw 8 3 (by decide +kernel)) cV)), ?_⟩
 refine WP.aG rfl ?_
 refine WL.aT H 0 rfl rfl rfl (new := kc (T.er.lV bits)) rfl (cI dK (by simp only [aR, aU, aB])) (by exact bK _) (Laid.at (Laid.all (by simp only [aR, aU, aB])) (by rfl)) rfl ?_
 intro w3 H
 refine WL.nil ⟨(fa (nw 9 7 (by decide +kernel)) (fa (nw 9 3 (by decide +kernel)) cV)), ?_⟩
 refine WP.done (WE.ret ⟨[_], _, .nil _, ⟨⟨_, rfl, aV iD (by exact aK.aF (H.l 0 rfl) (aJ.all _) rfl) (cI dK (by simp only [aR, aU, aB]))⟩, trivial⟩, ?_⟩)
 exact ⟨_, rfl, H.cM, H.o 0 rfl⟩
theorem SL {X : Nat → Prop} {w : World} {i : Int} (hX : cW X w) (hi : 0 ≤ i ∧ i ≤ 256) :
  bD Tryz.prog 29 [.int .i64 i].toArray w fun v w' => ∃ bt bh bc, v = .tuple [.pointer (some ⟨bt, 0, none⟩), .int .i64 0].toArray ∧ Out Nil w w' ∧ w.heap.size ≤ bt ∧ w.heap.size ≤ bc ∧ bt ≠ bc ∧ aK w' bt 90 [.pointer (some ⟨bh, 0, none⟩), .pointer none] ∧ aK w' bc 213 [.int .i64 0] ∧ aH (fun c => X c ∨ c = bt ∨ c = bc) (fJ bh bc i) w' := by
 refine bD.aI (N := 17) Tryz.func29 rfl rfl (by simp) ?_
 have H := St.begin hX
 refine WE.aA (WL.as rfl rfl (WL.as rfl rfl (WL.nil (WE.aA (WL.mv rfl rfl ?_)))))
 refine WL.call aHZ rfl (aGo (i := i) H.aS  (by assumption)) ?_
 rintro _ w1 ⟨aIn, aIo, rfl, hO, hge, hB, hR⟩
 replace H := H.OS hO (aO.blk aIo 213 [.int .i64 0]) hB (fun c hc => by cases hc; exact hge) hR
 refine WL.mv rfl rfl (WL.pv (PV.extract rfl rfl rfl) rfl (WL.pv (PV.extract rfl rfl rfl) rfl (WL.as rfl rfl (WL.as rfl rfl (WL.nil (WE.seq (WE.aA ?_)))))))
 refine WL.mv rfl rfl (WL.pv (PV.neq rfl rfl rfl) rfl (WL.nil ?_))
 refine WE.bB rfl rfl ?_
 refine WE.skip (WE.aA (WL.mv rfl rfl ?_))
 refine WL.pv (PV.dD rfl aGR aGB (Fl.cons rfl (rfl) (by simp only [aR, aU, aB]) Laid.head Fl.nil)) rfl ?_
 refine WL.box (l := [.pointer (some ⟨aIn, 0, none⟩), .pointer none]) H rfl (by rfl) rfl ?_
 intro b16 w2 H
 refine WL.as rfl rfl (WL.as rfl rfl (WL.nil (WE.ret ⟨[_, _], _, .nil _, ⟨rfl, rfl, trivial⟩, ?_⟩)))
 exact ⟨_, _, _, rfl, H.aM, H.jR _ (List.mem_of_getElem? (i := 0) rfl) _ rfl, H.jR _ (List.mem_of_getElem? (i := 1) rfl) _ rfl, (fun e => eP H.gY (i := 0) (j := 1) (by decide) rfl rfl _ ⟨rfl, e⟩), H.l 0 rfl, H.l 1 rfl, H.ZN 0 rfl⟩
def pK (T : Tr) (k : List UInt8) : Nat := (T.fin k).er.kind.toNat
theorem aC9 (T : Tr) (k : List UInt8) : (T.fin k).er.kind = ((pK T k : Nat) : Int) := by
 unfold pK
 cases (T.fin k).er <;> rfl
theorem MZ {X : Nat → Prop} {w : World} {bits : Int} {T : Tr} {k : List UInt8} (hX : cW X w) (bU : aH X (cQ bits T) w) :
  bD Tryz.prog 31 [(T.fin k).ptr].toArray w fun v w' => v = .int .i64 ((pK T k : Nat) : Int) ∧ Out Nil w w' := by
 rw [← aC9]
 exact fC hX (bU.imp fun _ h => h.iF _)
theorem aAB {v : Value} {T : Tr} {k : List UInt8} {n i : Nat} {w : World} (h : jV v (nV T k n) w) (hi : i < n) : cX w (jD v (i * 1)) [(o8 T k i).ptr] := by
 have h2 := jV.rd h i (by rw [o9]; exact hi)
 rw [N5] at h2
 exact h2
theorem DE (T : Tr) (k : List UInt8) (i : Nat) : lF T k (i + 1) = if zK T k i then oM (lF T k i) i else lF T k i := rfl
theorem sO {X : Nat → Prop} {w : World} {bh bc : Nat} {bits n0 : Int} {T : Tr} {k : List UInt8} (hX : cW X w) (eR : aK w bc 213 ([.int .i64 n0])) (bU : aH (fun c_ => X c_ ∨ c_ = bc) (fJ bh bc bits) w) (dA : aH (fun c_ => X c_ ∨ c_ = bc) (cQ bits T) w) (fO : aH (fun c_ => X c_ ∨ c_ = bc) (aW) w) (bS : 0 ≤ bits ∧ bits ≤ 256) (hk : k.length = 32) (hfit : T.er.fit 0) :
  bD Tryz.prog 9 [.pointer (some ⟨bh, 0, none⟩), T.ptr, .agg (kc k).toArray].toArray w fun v w' => ∃ (m : Int) (sl : Value), v = .agg (fH (pK T k) (T.dp k 0) (T.fin k).key ((T.fin k).vd bits) (lF T k (T.dp k 0)) sl).toArray ∧ Out (· = bc) w w' ∧ aK w' bc 213 [.int .i64 m] ∧ aH (fun c => X c ∨ c = bc) (eN sl (fZ bits T k (T.dp k 0))) w' := by
 refine bD.aI (N := 52) Tryz.func9 rfl rfl (by simp) ?_
 have H := St.c6 (b := bc) (t := 213) (l := [.int .i64 n0]) hX eR
 replace H := H.add (bY fO)
 replace H := H.add (bY dA)
 replace H := H.add (bY bU)
 have yR := Tr.tU (k := k) _ 0 T rfl hfit (by omega)
 have hfk := cQ.gG (show cQ bits (T.fin k) w from (dA.here).iF _)
 have hvd := Tr.aP bits (T.fin k)
 refine WE.aA ?_
 refine WL.box (l := kc k) H rfl (by rfl) rfl ?_
 intro b5 w1 H
 refine WL.alloc H rfl uV rfl ?_
 intro b6 w2 H
 refine WL.nil (WE.aA (WL.mv rfl rfl ?_))
 refine WL.bG rfl cU rfl rfl (by exact aK.aF (H.l 1 rfl) (aJ.all _) (by rfl)) (cI cN (by simp only [aR, aU, aB, Tr.aP, bE, aX, aD]; omega)) ?_
 refine WL.call WJ rfl (sQ (T := T) (k := k) (bits := bits) H.aS (by exact (H.bN 1 rfl : aH _ (cQ bits T) _)) hk hfit) ?_
 rintro _ w3 ⟨rfl, hO⟩
 replace H := H.out hO
 refine WL.mv rfl rfl (WL.pv (PV.extract rfl rfl rfl) rfl (WL.pv (PV.extract rfl rfl rfl) rfl (WL.as rfl rfl (WL.as rfl rfl (WL.nil (WE.aA (WL.mv rfl rfl ?_)))))))
 refine WL.call mJ rfl (MZ (T := T) (k := k) (bits := bits) H.aS (by exact (H.bN 1 rfl : aH _ (cQ bits T) _))) ?_
 rintro _ w4 ⟨rfl, hO⟩
 replace H := H.out hO
 refine WL.mv rfl rfl (WL.mv rfl rfl ?_)
 refine WL.call EE rfl (mE (T := T.fin k) (bits := bits) H.aS (by exact (H.bN 1 rfl : aH _ (cQ bits T) _).imp fun _ h => h.iF _)) ?_
 rintro _ w5 ⟨rfl, hO⟩
 replace H := H.out hO
 refine WL.pv (PV.dD rfl aAK uV (Fl.cons rfl (by rfl) (by simp only [aR, aU, aB, Tr.aP, bE, aX, aD]) (Laid.left (Laid.all (by simp only [aR, aU, aB, Tr.aP, bE, aX, aD]))) (Fl.cons rfl (by rfl) (by simp only [aR, aU, aB, Tr.aP, bE, aX, aD]) (Laid.right (Laid.left (Laid.all (by simp only [aR, aU, aB, Tr.aP, bE, aX, aD]))) (by simp only [aR, aU, aB, Tr.aP, bE, aX, aD])) (Fl.cons rfl (by rfl) (by simp only [aR, aU, aB, Tr.aP, bE, aX, aD]; omega) (Laid.right (Laid.right (Laid.left (Laid.all (by simp only [aR, aU, aB, Tr.aP, bE, aX, aD]; omega))) (by with_reducible rfl)) (by simp only [aR, aU, aB, Tr.aP, bE, aX, aD])) Fl.nil)))) rfl ?_
 refine WL.alloc H rfl uV rfl ?_
 intro b9 w6 H
 refine WL.aT H 0 rfl rfl rfl (new := fH (pK T k) (T.dp k 0) (T.fin k).key ((T.fin k).vd bits) ((List.replicate 32 0)) (.slice none 0 0)) rfl (cI jU (by simp only [aR, aU, aB, Tr.aP, bE, aX, aD]; omega)) (pU rfl) (Laid.at (Laid.all (by simp only [aR, aU, aB, Tr.aP, bE, aX, aD]; omega)) (by rfl)) rfl ?_
 intro w7 H
 replace H := H.lG 30 32
 refine WL.nil (WE.aA ?_)
 refine WL.alloc H rfl KJ rfl ?_
 intro pQ w8 H
 replace H := H.perm (List.Perm.swap _ _ _)
 obtain ⟨z6, hz6⟩ : ∃ z6 : List Value, z6 = [.int .i64 0] ++ ([.int .i64 0] ++ ((kc (List.replicate 32 0) ++ kc (List.replicate 32 0)) ++ (kc (List.replicate 32 0) ++ [.slice none 0 0]))) := ⟨_, rfl⟩
 have aI6 : z6.length = 99 := by rw [hz6]; rfl
 rw [← hz6] at H
 refine WL.nil (WE.seq (WE.aA (WL.mv rfl rfl ?_)))
 refine WL.bG rfl cU rfl rfl (by exact aK.aF (H.l 4 rfl) (aJ.all _) (by rfl)) (cI cN (by simp only [aR, aU, aB, Tr.aP, bE, aX, aD]; omega)) ?_
 refine WL.call aIa rfl (HL (T := T) (k := k) (bits := bits) H.aS (by exact (H.bN 1 rfl : aH _ (cQ bits T) _)) hk hfit) ?_
 rintro v27 w9 ⟨hO, hR⟩
 replace H := (H.out hO).add hR
 refine WL.pv (PV.dO (by exact (H.p 0 rfl : (jV v27 (nV T k (T.dp k 0))) _)) N4 rfl) rfl ?_
 refine WL.mv rfl rfl (WL.nil (WE.block ?_))
 refine WE.loop (α := Nat × Value × Int) [11, 12, 29, 30, 31, 32, 33, 34, 35, 36, 37, 38, 39, 40, 41, 42, 43, 44, 45, 46, 47, 48] (fun p => [(29, .int .i64 (p.1 : Int))]) (fun p wl => p.1 ≤ T.dp k 0 ∧ St X w wl [aO.blk bc 213 [.int .i64 p.2.2]] [aO.iA w.heap.size p.2.1 30 32 (fZ bits T k (p.1)).length ((fZ bits T k (p.1)).flatMap kc), aO.blk pQ 85 (kc (lF T k (p.1))), aO.blk b9 35 (fH (pK T k) (T.dp k 0) (T.fin k).key ((T.fin k).vd bits) ((List.replicate 32 0)) p.2.1), aO.blk b6 35 z6, aO.blk b5 24 (kc k)] [jV v27 (nV T k (T.dp k 0)), fJ bh bc bits, cQ bits T, aW]) (fun p => T.dp k 0 - p.1) (0, .slice none 0 0, n0) ⟨rfl, trivial⟩ ⟨Nat.zero_le _, H⟩ ?_
 intro ⟨i, q, m⟩ γ0 vT hI
 try dsimp only at hI
 obtain ⟨hi, H⟩ := hI
 refine WE.aA (WL.pv (PV.lss rfl rfl rfl) rfl (WL.nil (WE.seq ?_)))
 refine WE.cond rfl (fun QQ => ?_) (fun QQ => ?_)
 ·
  try simp only [bW] at QQ
  have hlt : i < T.dp k 0 := by (rw [o9] at QQ; omega)
  have vC := DA bits T k i
  have ZF := bE T k i
  refine WE.skip ?_
  refine WE.cut (α := Value × Int) [11, 12, 31, 32, 33, 34, 35, 36, 37, 38, 39, 40, 41, 42, 43, 44, 45, 46, 47] (fun ⟨q1, m1⟩ => []) (fun ⟨q1, m1⟩ wl => St X w wl [aO.blk bc 213 [.int .i64 m1]] [aO.iA w.heap.size q1 30 32 (fZ bits T k (i + 1)).length ((fZ bits T k (i + 1)).flatMap kc), aO.blk pQ 85 (kc (lF T k (i + 1))), aO.blk b9 35 (fH (pK T k) (T.dp k 0) (T.fin k).key ((T.fin k).vd bits) ((List.replicate 32 0)) q1), aO.blk b6 35 z6, aO.blk b5 24 (kc k)] [jV v27 (nV T k (T.dp k 0)), fJ bh bc bits, cQ bits T, aW]) ?_ ?_
  ·
   refine WE.block (WE.aA (WL.mv rfl rfl ?_))
   refine WL.pv (PV.eQ rfl (by exact (H.p 0 rfl : (jV v27 (nV T k (T.dp k 0))) _)) N4 lC rfl rfl (by omega) (by rw [o9]; omega)) rfl ?_
   refine WL.aZ rfl gZ rfl rfl ((aAB (by exact (H.p 0 rfl : (jV v27 (nV T k (T.dp k 0))) _)) hlt)) ?_
   refine WL.as rfl rfl (WL.as rfl rfl (WL.nil (WE.aA (WL.mv rfl rfl ?_))))
   refine WL.call mJ rfl (fC (T := o8 T k i) (bits := bits) H.aS (by exact (H.bN 2 rfl : aH _ (cQ bits T) _).imp fun _ h => (h.iF i).beside)) ?_
   rintro _ y8 ⟨rfl, hO⟩
   replace H := H.out hO
   refine WL.pv (PV.neq rfl rfl rfl) rfl (WL.nil ?_)
   refine WE.cond rfl (fun oD => ?_) (fun oD => ?_)
   ·
    try simp only [bW] at oD
    have hnz : zK T k i = true := decide_eq_true (by exact oD)
    refine WE.aA ?_
    refine WL.bG rfl lY rfl rfl (by exact aK.aF (H.l 1 rfl) (aJ.all _) (by rfl)) (cI jI (by simp only [aR, aU, aB, Tr.aP, bE, aX, aD])) ?_
    refine WL.mv rfl rfl ?_
    refine WL.call aH9 rfl (X4 (B := lF T k i) (d := i) H.aS  (by assumption) (by omega)) ?_
    rintro _ IE ⟨rfl, hO⟩
    replace H := H.out hO
    refine WL.aT H 1 rfl rfl rfl (new := kc (oM (lF T k i) i)) rfl (cI jI (by simp only [aR, aU, aB, Tr.aP, bE, aX, aD])) (by exact bK _) (Laid.at (Laid.all (by simp only [aR, aU, aB, Tr.aP, bE, aX, aD])) (by rfl)) rfl ?_
    intro FI H
    refine WL.nil ?_
    refine WE.draw (.take 0 (.take 1 (.take 2 (.take 3 (.aG 4 (.aG 5 (.aG 6 (.take 7 (.aG 8 .done))))))))) mixed (by kernel_rfl) ?_
    replace H := H.out (Out.drew _)
    refine WP.aC rfl rfl (PV.fieldAddr rfl lJ rfl) ?_
    refine WP.aQ rfl rfl (RV.aY rfl sL rfl) (by exact aK.aF (H.l 2 rfl) (aJ.r (aJ.r (aJ.r (aJ.r (aJ.all _) (by with_reducible rfl)) (by with_reducible rfl)) (by with_reducible rfl)) (by with_reducible rfl)) (by (simp [aN, bA, *]; done))) ?_
    refine WP.mv rfl rfl rfl (WP.mv rfl rfl rfl (WP.aG rfl ?_))
    refine WL.call Q7 rfl (sR (T := o8 T k i) (bits := bits) H.aS (H.o 0 rfl) (by exact (H.aL 0 rfl 1 rfl : aH _ (fJ bh bc bits) _)) (by exact (H.aL 0 rfl 2 rfl : aH _ (cQ bits T) _).imp fun _ h => (h.iF i).beside) (by exact (H.aL 0 rfl 3 rfl : aH _ (aW) _)) bS) ?_
    rintro _ KT ⟨m44, rfl, hO, hB⟩
    replace H := H.eS 0 rfl hO hB
    refine WL.nil ⟨(fa (fun _ _ => (by exact aK.aF (H.l 2 rfl) (aJ.r (aJ.r (aJ.r (aJ.r (aJ.all _) (by with_reducible rfl)) (by with_reducible rfl)) (by with_reducible rfl)) (by with_reducible rfl)) (by (simp [aN, bA, *]; done)))) cV), ?_⟩
    refine WP.aG rfl ?_
    refine WL.bJ (l0 := (kc (List.replicate 32 0))) H rfl CX (by decide) (by rfl) (Fl.cons rfl (by rfl) (by simp only [aR, aU, aB, Tr.aP, bE, aX, aD]) (Laid.all (by simp only [aR, aU, aB, Tr.aP, bE, aX, aD])) Fl.nil) rfl ?_
    intro b45 NR H
    refine WL.nil ⟨(fa (fun _ _ => (by exact aK.aF (H.l 3 rfl) (aJ.r (aJ.r (aJ.r (aJ.r (aJ.all _) (by with_reducible rfl)) (by with_reducible rfl)) (by with_reducible rfl)) (by with_reducible rfl)) (by (simp [aN, bA, *]; done)))) cV), ?_⟩
    refine WP.aG rfl ?_
    refine WL.append (m := 1) H 1 CX (by decide) rfl rfl rfl (cS.cA (n := 1) (H.l 0 rfl) (by rw [aN]; exact gH _ _)) (bK _) (by omega) (by decide) rfl ?_
    intro v46 TK H
    replace H := H.forget 0
    refine WL.nil ⟨(fa (nw 6 1 (by decide +kernel)) cV), ?_⟩
    refine WP.aC rfl rfl (PV.fieldAddr rfl lJ rfl) (WP.aG rfl ?_)
    refine WL.aT H 2 rfl rfl rfl (new := _) (cells_one (iN (H.l 0 rfl))) (by exact aAx) (dV (iN (H.l 0 rfl))) (Laid.at (Laid.right (Laid.right (Laid.right (Laid.right (Laid.all (by simp only [aR, aU, aB, Tr.aP, bE, aX, aD])) (by with_reducible rfl)) (by with_reducible rfl)) (by with_reducible rfl)) (by with_reducible rfl)) (by (simp [aN, bA, *]; done))) rfl ?_
    intro TJ H
    replace H := H.conv (L' := [aO.iA w.heap.size v46 30 32 (fZ bits T k (i + 1)).length ((fZ bits T k (i + 1)).flatMap kc), aO.blk pQ 85 (kc (lF T k (i + 1))), aO.blk b9 35 (fH (pK T k) (T.dp k 0) (T.fin k).key ((T.fin k).vd bits) ((List.replicate 32 0)) v46), aO.blk b6 35 z6, aO.blk b5 24 (kc k)]) (by rw [DE, if_pos hnz, zF, if_pos hnz, List.length_append, List.flatMap_append, List.flatMap_singleton]; rfl)
    refine WL.nil ⟨(fa (nw 8 1 (by decide +kernel)) cV), ?_⟩
    refine WP.done ?_
    exact ⟨(v46, m44), (by repeat (first | with_reducible exact bQ.refl _ _ | refine bQ.dB rfl ?_)), trivial, rfl, H⟩
   ·
    try simp only [bW] at oD
    have hnz : ¬ zK T k i = true := by unfold zK; rw [decide_eq_true_iff]; exact fun h => h oD
    replace H := H.conv (L' := [aO.iA w.heap.size q 30 32 (fZ bits T k (i + 1)).length ((fZ bits T k (i + 1)).flatMap kc), aO.blk pQ 85 (kc (lF T k (i + 1))), aO.blk b9 35 (fH (pK T k) (T.dp k 0) (T.fin k).key ((T.fin k).vd bits) ((List.replicate 32 0)) q), aO.blk b6 35 z6, aO.blk b5 24 (kc k)]) (by rw [DE, if_neg hnz, zF, if_neg hnz])
    refine WE.skip ?_
    exact ⟨(q, m), (by repeat (first | with_reducible exact bQ.refl _ _ | refine bQ.dB rfl ?_)), trivial, rfl, H⟩
  ·
   intro ⟨q1, m1⟩ γ TI hI
   try dsimp only at hI
   replace H := hI
   refine WE.eM ?_
   refine WL.pv (PV.eq (v' := .int .i64 ((i + 1 : Nat) : Int)) (PV.bZ rfl rfl rfl (by omega) (by omega)) (by rfl)) rfl ?_
   refine WL.mv rfl rfl (WL.nil ?_)
   exact ⟨(i + 1, q1, m1), (by repeat (first | with_reducible exact bQ.refl _ _ | refine bQ.dB rfl ?_ | refine bQ.cE rfl ?_ | refine bQ.cB rfl ?_)), ⟨rfl, trivial⟩, rfl, ⟨by dsimp only; omega, H⟩, (by dsimp only; omega)⟩
 ·
  try simp only [bW] at QQ
  have uM : i = T.dp k 0 := by (rw [o9] at QQ; omega)
  refine WE.exit (WE.aA ?_)
  refine WL.bG rfl lY rfl rfl (by exact aK.aF (H.l 1 rfl) (aJ.all _) (by rfl)) (cI jI (by simp only [aR, aU, aB, Tr.aP, bE, aX, aD])) ?_
  refine WL.pv (PV.fieldAddr rfl pM rfl) rfl ?_
  refine WL.aT H 2 rfl rfl rfl (new := _) rfl (cI uW (by simp only [aR, aU, aB, Tr.aP, bE, aX, aD])) (by exact bK _) (Laid.at (Laid.right (Laid.right (Laid.right (Laid.left (Laid.all (by simp only [aR, aU, aB, Tr.aP, bE, aX, aD]))) (by with_reducible rfl)) (by with_reducible rfl)) (by with_reducible rfl)) (by (simp [aN, bA, *]; done))) rfl ?_
  intro YF H
  refine WL.nil (WE.aA ?_)
  refine WL.bG rfl lZ rfl rfl (by exact aK.aF (H.l 2 rfl) (aJ.all _) (by rfl)) (cI jU (by simp only [aR, aU, aB, Tr.aP, bE, aX, aD]; omega)) ?_
  refine WL.aT H 3 rfl rfl rfl (new := fH (pK T k) (T.dp k 0) (T.fin k).key ((T.fin k).vd bits) (lF T k i) q) rfl (cI jU (by simp only [aR, aU, aB, Tr.aP, bE, aX, aD]; omega)) (pU (iN (H.l 0 rfl))) (Laid.at (Laid.all (by simp only [aR, aU, aB, Tr.aP, bE, aX, aD]; omega)) (by rfl)) rfl ?_
  intro w20 H
  refine WL.nil (WE.ret ⟨[_], _, .nil _, ⟨⟨_, rfl, aV lZ (by exact aK.aF (H.l 3 rfl) (aJ.all _) rfl) (cI jU (by simp only [aR, aU, aB, Tr.aP, bE, aX, aD]; omega))⟩, trivial⟩, ?_⟩)
  subst uM
  replace H := H.freeze (i := 0) rfl
  exact ⟨_, q, rfl, H.cM, H.o 0 rfl, (H.fM (H.bN 0 rfl)).imp fun _ h => cS.eH h⟩
theorem DB {bits : Int} {T : Tr} {m : List En} {k : List UInt8} (hT : T.er = grow 0 m) (hp : Pm 0 m) (hfit : T.er.fit 0) (hfk : (T.fin k).key.length = 32) : iG (pK T k) (T.dp k 0) (T.fin k).key ((T.fin k).vd bits) (lF T k (T.dp k 0)) (fZ bits T k (T.dp k 0)) := by
 have yR := Tr.tU (k := k) _ 0 T rfl hfit (by omega)
 have hd : T.dp k 0 ≤ 256 := by omega
 have h2 : (T.fin k).er.kind ≠ 2 := Tr.qA _ 0 T rfl
 refine ⟨?_, hd, hfk, Tr.aP bits _, fun h0 => ?_, bE T k _, ?_, ?_, fun s hs => ?_⟩
 ·
  unfold pK
  revert h2
  cases (T.fin k).er with
  | nil => intro _; exact .inl rfl
  | leaf => intro _; exact .inr rfl
  | inner => intro h; exact absurd rfl h
 ·
  unfold pK at h0
  revert h0 h2
  cases (T.fin k) with
  | nil => intro _ _; exact ⟨rfl, rfl⟩
  | leaf => intro _ h; exact absurd h (by show ¬ (1 : Nat) = 0; decide)
  | inner => intro h; exact absurd rfl h
 ·
  rw [wK hd]; exact O8 hT hp
 ·
  rw [wK hd]; unfold fZ; rw [List.length_map]
 ·
  unfold fZ at hs
  obtain ⟨j, _, rfl⟩ := List.mem_map.1 hs
  exact gH _ _
def mB (kd dp : Nat) (lk lv B : List UInt8) : List UInt8 := ([1, UInt8.ofNat kd, UInt8.ofNat (dp / 2 ^ 8), UInt8.ofNat dp] ++ B) ++ (if kd = 1 then lk ++ lv else [])
def encI (kd dp : Nat) (lk lv B : List UInt8) (sb : List (List UInt8)) (i : Nat) : List UInt8 := mB kd dp lk lv B ++ (sb.take i).flatten
def fA (kd dp : Nat) (lk lv B : List UInt8) (sb : List (List UInt8)) : List UInt8 := mB kd dp lk lv B ++ sb.flatten
theorem EK (kd dp : Nat) (lk lv B : List UInt8) (sb : List (List UInt8)) : encI kd dp lk lv B sb sb.length = fA kd dp lk lv B sb := by unfold encI fA; rw [List.take_length]
theorem z8 {kd dp : Nat} {lk lv B : List UInt8} {sb : List (List UInt8)} {i : Nat} (h : i < sb.length) : encI kd dp lk lv B sb (i + 1) = encI kd dp lk lv B sb i ++ sb[i] := by unfold encI; rw [gD sb i h, List.append_assoc]
theorem LS {kd dp : Nat} {lk lv B : List UInt8} (hk : lk.length = 32) (hv : lv.length = 32) (hB : B.length = 32) : (mB kd dp lk lv B).length = if kd = 1 then 100 else 36 := by
 unfold mB
 split <;> simp [hk, hv, hB]
theorem xL {kd dp : Nat} {lk lv B : List UInt8} {sb : List (List UInt8)} (hp : iG kd dp lk lv B sb) : ∀ i, i ≤ sb.length → (encI kd dp lk lv B sb i).length = (if kd = 1 then 100 else 36) + 32 * i
 | 0, _ => by unfold encI; rw [List.length_append, LS hp.tJ hp.lvl hp.bl]; simp
 | i + 1, h => by rw [z8 (by omega), List.length_append, xL hp i (by omega), hp.sl _ (List.getElem_mem _)]; omega
theorem xK {kd dp : Nat} {lk lv B : List UInt8} {sb : List (List UInt8)} (hp : iG kd dp lk lv B sb) : (fA kd dp lk lv B sb).length = (if kd = 1 then 100 else 36) + 32 * sb.length := by rw [← EK, xL hp _ (Nat.le_refl _)]
theorem aBV {X : Nat → Prop} {w : World} {kd dp : Nat} {lk lv B : List UInt8} {sl : Value} {sb : List (List UInt8)} (hX : cW X w) (bU : aH X (eN sl sb) w) (hp : iG kd dp lk lv B sb) :
  bD Tryz.prog 36 [.agg (fH kd dp lk lv B sl).toArray].toArray w fun v w' => v = .int .i64 ((((if kd = 1 then 100 else 36) + 32 * sb.length) : Nat) : Int) ∧ Out Nil w w' := by
 refine bD.aI (N := 24) Tryz.func36 rfl rfl (by simp) ?_
 have H := St.begin hX
 replace H := H.add (cF bU)
 have vE := hp.kd
 have yR := hp.L8
 have lW := hp.tJ
 have hlv := hp.lvl
 have o5 := hp.bl
 have oW := hp.NC
 have vC : (fH kd dp lk lv B sl).length = 99 := gA hp.tJ hp.lvl hp.bl
 have hs1 : sl.oneCell' = true := cS.fG (H.p 0 rfl : eN sl sb _)
 refine WE.aA ?_
 refine WL.box (l := fH kd dp lk lv B sl) H rfl (by rfl) rfl ?_
 intro b1 w1 H
 refine WL.as rfl rfl (WL.nil (WE.seq (WE.aA ?_)))
 refine WL.bG rfl lZ rfl rfl (by exact aK.aF (H.l 0 rfl) (aJ.all _) (by rfl)) (cI jU (by simp only [aR, aU, aB, Tr.aP, bE, aX, aD]; omega)) ?_
 refine WL.call WI rfl (sP (kd := kd) (dp := dp) (lk := lk) (lv := lv) (B := B) (sl := sl) (sb := sb) H.aS (by exact (H.bN 0 rfl : aH _ (eN sl sb) _)) hp) ?_
 rintro _ w2 ⟨rfl, hO⟩
 replace H := H.out hO
 refine WL.pv (PV.neq rfl rfl rfl) rfl (WL.nil ?_)
 refine WE.bB rfl rfl ?_
 refine WE.skip (WE.aA (WL.as rfl rfl (WL.nil (WE.seq (WE.aA (WL.pv (PV.fieldAddr rfl mI rfl) rfl ?_))))))
 refine WL.aZ rfl oZ rfl rfl (by exact aK.aF (H.l 0 rfl) (aJ.l (aJ.all _)) (by rfl)) ?_
 refine WL.nil (WE.block (WE.seq (WE.block (WE.seq (WE.block (WE.seq (WE.seq ?_)))))))
 refine WE.aA (WL.pv (PV.eql rfl rfl rfl) rfl (WL.as rfl rfl (WL.nil ?_)))
 refine WE.cond rfl (fun xA => ?_) (fun xA => ?_)
 ·
  try simp only [bW] at xA
  have vF : kd = 1 := by omega
  refine WE.exit (WE.eM (WL.mv rfl rfl (WL.pv (PV.bZ rfl rfl rfl (by omega) (by omega)) rfl (WL.as rfl rfl (WL.nil (WE.aA (WL.mv rfl rfl ?_)))))))
  refine WL.pv (PV.fieldAddr rfl lJ rfl) rfl ?_
  refine WL.aZ rfl sL rfl rfl (by exact aK.aF (H.l 0 rfl) (aJ.r (aJ.r (aJ.r (aJ.r (aJ.all _) (by with_reducible rfl)) (by with_reducible rfl)) (by with_reducible rfl)) (by with_reducible rfl)) (by (simp [aN, bA, *]; done))) ?_
  refine WL.pv (PV.dO (by exact (H.p 0 rfl : (eN sl sb) _)) mS rfl) rfl ?_
  refine WL.pv (PV.bZ rfl rfl rfl (by omega) (by omega)) rfl (WL.pv (PV.qJ rfl rfl rfl (by omega) (by omega)) rfl (WL.pv (PV.bZ rfl rfl rfl (by omega) (by omega)) rfl (WL.pv (PV.bZ rfl rfl rfl (by omega) (by omega)) rfl (WL.as rfl rfl (WL.nil (WE.exit (WE.aA ?_)))))))
  refine WL.mv rfl rfl (WL.as rfl rfl (WL.nil (WE.ret ⟨[_], _, .nil _, ⟨rfl, trivial⟩, ?_⟩)))
  refine ⟨?_, H.aM⟩
  show Value.int .i64 _ = Value.int .i64 _
  congr 1
  (rw [if_pos vF]; omega)
 ·
  try simp only [bW] at xA
  have NA : kd = 0 := by omega
  refine WE.skip (WE.aA (WL.pv (PV.eql rfl rfl rfl) rfl (WL.as rfl rfl (WL.nil ?_))))
  refine WE.cO rfl (by simp [NA]) ?_
  refine WE.exit (WE.aA (WL.mv rfl rfl (WL.pv (PV.fieldAddr rfl lJ rfl) rfl ?_)))
  refine WL.aZ rfl sL rfl rfl (by exact aK.aF (H.l 0 rfl) (aJ.r (aJ.r (aJ.r (aJ.r (aJ.all _) (by with_reducible rfl)) (by with_reducible rfl)) (by with_reducible rfl)) (by with_reducible rfl)) (by (simp [aN, bA, *]; done))) ?_
  refine WL.pv (PV.dO (by exact (H.p 0 rfl : (eN sl sb) _)) mS rfl) rfl ?_
  refine WL.pv (PV.bZ rfl rfl rfl (by omega) (by omega)) rfl (WL.pv (PV.qJ rfl rfl rfl (by omega) (by omega)) rfl (WL.pv (PV.bZ rfl rfl rfl (by omega) (by omega)) rfl (WL.pv (PV.bZ rfl rfl rfl (by omega) (by omega)) rfl (WL.as rfl rfl (WL.nil (WE.exit (WE.aA ?_)))))))
  refine WL.mv rfl rfl (WL.as rfl rfl (WL.nil (WE.ret ⟨[_], _, .nil _, ⟨rfl, trivial⟩, ?_⟩)))
  refine ⟨?_, H.aM⟩
  show Value.int .i64 _ = Value.int .i64 _
  congr 1
  (rw [if_neg (by omega)]; omega)
theorem M1 {X : Nat → Prop} {w : World} {s : Value} {vs : List Value} {ls : List (List UInt8)} (hX : cW X w) (bU : aH X (jV s vs) w) (dA : aH X (pR vs ls) w) (hvs : vs.length ≤ 1000000) (aDq : ls.flatten.length ≤ 70368744177664) :
  bD Tryz.prog 37 [s].toArray w fun v w' => Out Nil w w' ∧ w'.ownsRow w.heap.size 5 1 v ls.flatten.length (kc ls.flatten) := by
 refine bD.aI (N := 36) Tryz.func37 rfl rfl (by simp) ?_
 have H := St.begin hX
 replace H := H.add (cF dA)
 replace H := H.add (cF bU)
 have hlen : vs.length = ls.length := (H.p 1 rfl : pR vs ls w).1
 refine WE.aA (WL.as rfl rfl (WL.nil (WE.aA (WL.as rfl rfl (WL.nil (WE.seq (WE.aA ?_)))))))
 refine WL.mv rfl rfl (WL.pv (PV.dO (H.p 0 rfl) rU rfl) rfl (WL.mv rfl rfl (WL.nil (WE.block ?_))))
 refine WE.loop (α := Nat) [3, 5, 11, 12, 13, 14, 15, 16, 17, 18, 19, 20, 21, 22] (fun k => [(11, .int .i64 k), (3, .int .i64 ((ls.take k).flatten.length : Int))]) (fun k wl => k ≤ vs.length ∧ St X w wl [] [] [jV s vs, pR vs ls]) (fun k => vs.length - k) 0 ⟨rfl, rfl, trivial⟩ ⟨Nat.zero_le _, H⟩ ?_
 intro k γ0 w1 hI
 try dsimp only at hI
 obtain ⟨hk, H⟩ := hI
 refine WE.aA (WL.pv (PV.lss rfl rfl rfl) rfl (WL.nil (WE.seq ?_)))
 refine WE.cond rfl (fun kW => ?_) (fun kW => ?_)
 ·
  try simp only [bW] at kW
  have hlt : k < vs.length := by omega
  have hF := gD ls k (by omega)
  have hG := fW ls (k + 1)
  rw [hF, List.length_append] at hG
  refine WE.skip (WE.seq (WE.block (WE.aA (WL.pv (PV.eQ rfl (H.p 0 rfl) rU AW rfl rfl (by omega) (by omega)) rfl (WL.aZ rfl eL rfl rfl (jV.rd (H.p 0 rfl) k hlt) (WL.as rfl rfl (WL.nil ?_)))))))
  refine WE.aA (WL.mv rfl rfl (WL.mv rfl rfl (WL.pv (PV.dO ((H.p 1 rfl : pR vs ls _).2 k hlt (by omega)) eV rfl) rfl (WL.pv (PV.bZ rfl rfl rfl (by omega) (by omega)) rfl (WL.as rfl rfl (WL.nil (WE.aA ?_)))))))
  refine WL.mv rfl rfl (WL.pv (PV.lss rfl rfl rfl) rfl (WL.nil ?_))
  refine WE.bB rfl (by simp; omega) ?_
  refine WE.skip (WE.eM (WL.pv (PV.bZ rfl rfl rfl (by omega) (by omega)) rfl (WL.mv rfl rfl (WL.nil ?_))))
  exact ⟨k + 1, (by repeat (first | with_reducible exact bQ.refl _ _ | refine bQ.dB rfl ?_ | refine bQ.cE rfl ?_ | refine bQ.cB rfl ?_)), ⟨rfl, by rw [hF, List.length_append]; rfl, trivial⟩, rfl, ⟨by omega, H⟩, (by omega)⟩
 ·
  try simp only [bW] at kW
  have hge : k = vs.length := by omega
  refine WE.exit (WE.aA (WL.mv rfl rfl ?_))
  refine WL.call aEv rfl (S8 (n := (ls.take k).flatten.length) H.aS (by have := fW ls k; omega)) ?_
  rintro v24 w2 ⟨hO, gT⟩
  replace H := H.push hO (aO.iA w.heap.size v24 5 1 0 []) (gB gT H.size) (fun b hb => (gT.lt b hb).1)
  refine WL.as rfl rfl (WL.nil (WE.seq (WE.aA (WL.mv rfl rfl (WL.pv (PV.dO (H.p 0 rfl) rU rfl) rfl (WL.mv rfl rfl (WL.nil ?_)))))))
  refine WE.block ?_
  refine WE.loop (α := Nat × Value) [6, 8, 27, 28, 29, 30, 31, 32, 33, 34] (fun p => [(27, .int .i64 p.1), (6, p.2)]) (fun p wl => p.1 ≤ vs.length ∧ St X w wl [] [aO.iA w.heap.size p.2 5 1 (ls.take p.1).flatten.length (kc (ls.take p.1).flatten)] [jV s vs, pR vs ls]) (fun p => vs.length - p.1) (0, v24) ⟨rfl, rfl, trivial⟩ ⟨Nat.zero_le _, H⟩ ?_
  intro ⟨k, v⟩ γ1 w3 hI
  try dsimp only at hI
  obtain ⟨hk, H⟩ := hI
  refine WE.aA (WL.pv (PV.lss rfl rfl rfl) rfl (WL.nil (WE.seq ?_)))
  refine WE.cond rfl (fun GO => ?_) (fun GO => ?_)
  ·
   try simp only [bW] at GO
   have hlt : k < vs.length := by omega
   have hF := gD ls k (by omega)
   have hG := fW ls (k + 1)
   rw [hF, List.length_append] at hG
   refine WE.skip (WE.seq (WE.block (WE.aA (WL.pv (PV.eQ rfl (H.p 0 rfl) rU AW rfl rfl (by omega) (by omega)) rfl (WL.aZ rfl eL rfl rfl (jV.rd (H.p 0 rfl) k hlt) (WL.as rfl rfl (WL.nil ?_)))))))
   refine WE.eM (WL.mv rfl rfl (WL.mv rfl rfl ?_))
   refine WL.append (m := (ls[k]'(by omega)).length) H 0 jZ (by decide) rfl rfl rfl ((H.p 1 rfl : pR vs ls _).2 k hlt (by omega)) (by exact bK _) (by omega) (by decide) rfl ?_
   intro v33 w4 H
   refine WL.as rfl rfl (WL.nil (WE.eM (WL.pv (PV.bZ rfl rfl rfl (by omega) (by omega)) rfl (WL.mv rfl rfl (WL.nil ?_)))))
   replace H : St X w w4 [] [aO.iA w.heap.size v33 5 1 (ls.take (k+1)).flatten.length (kc (ls.take (k+1)).flatten)] [jV s vs, pR vs ls] := by rw [hF, List.length_append, j7]; exact H
   exact ⟨(k + 1, v33), (by repeat (first | with_reducible exact bQ.refl _ _ | refine bQ.dB rfl ?_ | refine bQ.cE rfl ?_ | refine bQ.cB rfl ?_)), ⟨rfl, rfl, trivial⟩, rfl, ⟨by dsimp only; omega, H⟩, (by dsimp only; omega)⟩
  ·
   try simp only [bW] at GO
   have hge : k = vs.length := by omega
   refine WE.exit (WE.aA (WL.mv rfl rfl (WL.as rfl rfl (WL.nil (WE.ret ⟨[_], _, .nil _, ⟨rfl, trivial⟩, ?_⟩)))))
   have hall : ls.take k = ls := List.take_of_length_le (by omega)
   rw [hall] at H
   exact ⟨H.aM, H.l 0 rfl⟩
theorem FC {X : Nat → Prop} {w : World} {kd dp : Nat} {lk lv B : List UInt8} {sl : Value} {sb : List (List UInt8)} (hX : cW X w) (bU : aH X (eN sl sb) w) (hp : iG kd dp lk lv B sb) :
  bD Tryz.prog 12 [.agg (fH kd dp lk lv B sl).toArray].toArray w fun v w' => ∃ s, v = .tuple [s, .int .i64 0].toArray ∧ Out Nil w w' ∧ aH X (bI s (fA kd dp lk lv B sb)) w' := by
 refine bD.aI (N := 57) Tryz.func12 rfl rfl (by simp) ?_
 have H := St.begin hX
 replace H := H.add (cF bU)
 have vE := hp.kd
 have yR := hp.L8
 have lW := hp.tJ
 have hlv := hp.lvl
 have o5 := hp.bl
 have oW := hp.NC
 have vC : (fH kd dp lk lv B sl).length = 99 := gA hp.tJ hp.lvl hp.bl
 have hs1 : sl.oneCell' = true := cS.fG (H.p 0 rfl : eN sl sb _)
 refine WE.aA ?_
 refine WL.box (l := fH kd dp lk lv B sl) H rfl (by rfl) rfl ?_
 intro b1 w1 H
 refine WL.as rfl rfl (WL.as rfl rfl (WL.nil (WE.seq (WE.aA ?_))))
 refine WL.bG rfl lZ rfl rfl (by exact aK.aF (H.l 0 rfl) (aJ.all _) (by rfl)) (cI jU (by simp only [aR, aU, aB, Tr.aP, bE, aX, aD]; omega)) ?_
 refine WL.call WI rfl (sP (kd := kd) (dp := dp) (lk := lk) (lv := lv) (B := B) (sl := sl) (sb := sb) H.aS (by exact (H.bN 0 rfl : aH _ (eN sl sb) _)) hp) ?_
 rintro _ w2 ⟨rfl, hO⟩
 replace H := H.out hO
 refine WL.as rfl rfl (WL.nil (WE.aA (WL.mv rfl rfl (WL.pv (PV.neq rfl rfl rfl) rfl (WL.nil ?_)))))
 refine WE.bB rfl rfl ?_
 refine WE.skip (WE.aA ?_)
 refine WL.bG rfl lZ rfl rfl (by exact aK.aF (H.l 0 rfl) (aJ.all _) (by rfl)) (cI jU (by simp only [aR, aU, aB, Tr.aP, bE, aX, aD]; omega)) ?_
 refine WL.call aH8 rfl (aBV (kd := kd) (dp := dp) (lk := lk) (lv := lv) (B := B) (sl := sl) (sb := sb) H.aS (by exact (H.bN 0 rfl : aH _ (eN sl sb) _)) hp) ?_
 rintro _ w3 ⟨rfl, hO⟩
 replace H := H.out hO
 have TR : (if kd = 1 then 100 else 36) ≤ 100 := by split <;> omega
 refine WL.U5 (n := ((if kd = 1 then 100 else 36) + 32 * sb.length)) H rfl jZ rfl rfl (by omega) (by unfold maxLen; omega) rfl ?_
 intro b15 w5 H
 refine WL.as rfl rfl (WL.nil (WE.aA (WL.mv rfl rfl (WL.pv (PV.fieldAddr rfl mI rfl) rfl ?_))))
 refine WL.aZ rfl oZ rfl rfl (by exact aK.aF (H.l 1 rfl) (aJ.l (aJ.all _)) (by rfl)) ?_
 refine WL.pv (PV.W6 (n := kd) rfl yD pI rfl) rfl (WL.pv (PV.fieldAddr rfl rC rfl) rfl ?_)
 refine WL.aZ rfl oZ rfl rfl (by exact aK.aF (H.l 1 rfl) (aJ.r (aJ.l (aJ.all _)) (by with_reducible rfl)) (by rfl)) ?_
 refine WL.pv (PV.CZ (m := dp) (n := 8) rfl rfl rfl (by decide)) rfl (WL.pv (PV.W6 (n := dp / 2 ^ 8) rfl yD pI rfl) rfl (WL.pv (PV.fieldAddr rfl rC rfl) rfl ?_))
 refine WL.aZ rfl oZ rfl rfl (by exact aK.aF (H.l 1 rfl) (aJ.r (aJ.l (aJ.all _)) (by with_reducible rfl)) (by rfl)) ?_
 refine WL.pv (PV.W6 (n := dp) rfl yD pI rfl) rfl ?_
 refine WL.bJ (l0 := [.int .u8 (0), .int .u8 (0), .int .u8 (0), .int .u8 (0)]) H rfl jZ (by decide) (dG _ _) (Fl.cons rfl (by rfl) (by simp only [aR, aU, aB, Tr.aP, bE, aX, aD]) Laid.head (Fl.cons rfl (by rfl) (by simp only [aR, aU, aB, Tr.aP, bE, aX, aD]) (Laid.tail Laid.head rfl) (Fl.cons rfl (by rfl) (by simp only [aR, aU, aB, Tr.aP, bE, aX, aD]) (Laid.tail (Laid.tail Laid.head rfl) rfl) (Fl.cons rfl (by rfl) (by simp only [aR, aU, aB, Tr.aP, bE, aX, aD]) (Laid.tail (Laid.tail (Laid.tail Laid.head rfl) rfl) rfl) Fl.nil)))) rfl ?_
 intro Z8 w6 H
 refine WL.append (m := 4) H 1 jZ (by decide) rfl rfl rfl (cS.cA (n := 4) (H.l 0 rfl) rfl : bI _ ([1, UInt8.ofNat kd, UInt8.ofNat (dp / 2 ^ 8), UInt8.ofNat dp] : List UInt8) _) (by exact bK _) (by omega) (by decide) rfl ?_
 intro v28 w7 H
 replace H := H.forget 0
 replace H := H.conv (L' := [aO.iA w.heap.size v28 5 1 (([1, UInt8.ofNat kd, UInt8.ofNat (dp / 2 ^ 8), UInt8.ofNat dp] : List UInt8)).length (kc (([1, UInt8.ofNat kd, UInt8.ofNat (dp / 2 ^ 8), UInt8.ofNat dp] : List UInt8))), aO.blk b1 35 (fH kd dp lk lv B sl)]) rfl
 refine WL.as rfl rfl (WL.nil (WE.aA (WL.mv rfl rfl (WL.pv (PV.fieldAddr rfl pM rfl) rfl ?_))))
 refine WL.pv (PV.fP rfl aF3 (by rw [iB]; rfl) rfl) rfl ?_
 refine WL.append (m := B.length) H 0 jZ (by decide) rfl rfl rfl (bI.mX (a := ⟨b1, 66, none⟩) (aK.aF (H.l 1 rfl) (aJ.r (aJ.r (aJ.r (aJ.l (aJ.all (kc B))) rfl) rfl) rfl) (by simp [aN, lW, hlv])) o5 (Nat.le_refl _)) (by exact bK _) (by simp [o5]) (by decide) rfl ?_
 intro v32 w8 H
 replace H := H.conv (L' := [aO.iA w.heap.size v32 5 1 (([1, UInt8.ofNat kd, UInt8.ofNat (dp / 2 ^ 8), UInt8.ofNat dp] : List UInt8) ++ B).length (kc (([1, UInt8.ofNat kd, UInt8.ofNat (dp / 2 ^ 8), UInt8.ofNat dp] : List UInt8) ++ B)), aO.blk b1 35 (fH kd dp lk lv B sl)]) (by rw [List.length_append, j7]; rfl)
 refine WL.as rfl rfl (WL.nil ?_)
 refine WE.cut (α := Value) [5, 33, 34, 35, 36, 37, 38, 39, 40, 41, 42, 43, 44] (fun g_ => [(5, g_)]) (fun g_ wl => St X w wl [] [aO.iA w.heap.size g_ 5 1 (mB kd dp lk lv B).length (kc (mB kd dp lk lv B))] [fun w => aK w b1 35 (fH kd dp lk lv B sl), eN sl sb]) ?_ ?_
 ·
  refine WE.aA (WL.pv (PV.fieldAddr rfl mI rfl) rfl ?_)
  refine WL.aZ rfl oZ rfl rfl (by exact aK.aF (H.l 1 rfl) (aJ.l (aJ.all _)) (by rfl)) ?_
  refine WL.pv (PV.eql rfl rfl rfl) rfl (WL.nil ?_)
  refine WE.cond rfl (fun aBk => ?_) (fun aBk => ?_)
  ·
   try simp only [bW] at aBk
   have vF : kd = 1 := by omega
   refine WE.draw (.take 0 (.take 1 (.take 2 (.take 3 (.take 4 (.take 5 (.take 6 (.aG 7 (.aG 8 (.take 9 .done)))))))))) mixed (by kernel_rfl) ?_
   replace H := H.out (Out.drew _)
   refine WP.mv rfl rfl rfl (WP.aC rfl rfl (PV.fieldAddr rfl oG rfl) (WP.aC rfl rfl (PV.fieldAddr rfl kD rfl) ?_))
   refine WP.aC rfl rfl (PV.fP rfl gQ (by rw [iB]; rfl) rfl) ?_
   refine WP.aC rfl rfl (PV.fieldAddr rfl oG rfl) (WP.aC rfl rfl (PV.fieldAddr rfl GW rfl) ?_)
   refine WP.aC rfl rfl (PV.fP rfl oY (by rw [iB]; rfl) rfl) ?_
   refine WP.aG rfl ?_
   refine WL.bJ (l0 := [.slice none 0 0, .slice none 0 0, .slice none 0 0]) H rfl IP (by decide) (dG _ _) (Fl.cons rfl (cells_one (iN (H.l 0 rfl))) (by simp only [aR, aU, aB, Tr.aP, bE, aX, aD]) Laid.head (Fl.cons rfl (by rfl) (by simp only [aR, aU, aB, Tr.aP, bE, aX, aD]) (Laid.tail Laid.head rfl) (Fl.cons rfl (by rfl) (by simp only [aR, aU, aB, Tr.aP, bE, aX, aD]) (Laid.tail (Laid.tail Laid.head rfl) rfl) Fl.nil))) rfl ?_
   intro b43 w9 H
   replace H := H.freeze (i := 0) rfl
   replace H := H.freeze (i := 0) rfl
   replace H := H.freeze (i := 0) rfl
   replace H := H.add (show aH _ (jV (.slice (some ⟨b43, 0, none⟩) 3 3) [v32, .slice (some ⟨b1, 2, none⟩) 32 32, .slice (some ⟨b1, 34, none⟩) 32 32]) _ from (H.bN 2 rfl).imp fun _ h => jV.cA h rfl)
   replace H := H.add (show aH _ (pR [v32, .slice (some ⟨b1, 2, none⟩) 32 32, .slice (some ⟨b1, 34, none⟩) 32 32] [([1, UInt8.ofNat kd, UInt8.ofNat (dp / 2 ^ 8), UInt8.ofNat dp] : List UInt8) ++ B, lk, lv]) _ from ((H.bN 2 rfl).and (H.bN 1 rfl)).imp fun w h => pR.cons (bI.eH h.1) (pR.cons (bI.mX (a := ⟨b1, 2, none⟩) (aK.aF h.2 (aJ.r (aJ.r (aJ.l (aJ.l (aJ.all (kc lk)))) rfl) rfl) (by simp [aN, lW, hlv])) lW (Nat.le_refl _)) (pR.cons (bI.mX (a := ⟨b1, 34, none⟩) (aK.aF h.2 (aJ.r (aJ.r (aJ.l (aJ.r (aJ.all (kc lv)) rfl)) rfl) rfl) (by simp [aN, lW, hlv])) hlv (Nat.le_refl _)) (pR.nil w))))
   refine WL.nil ⟨cV, ?_⟩
   refine WP.aG rfl ?_
   refine WL.call aEE rfl (M1 (vs := [v32, .slice (some ⟨b1, 2, none⟩) 32 32, .slice (some ⟨b1, 34, none⟩) 32 32]) (ls := [([1, UInt8.ofNat kd, UInt8.ofNat (dp / 2 ^ 8), UInt8.ofNat dp] : List UInt8) ++ B, lk, lv]) H.aS (by exact (H.bN 1 rfl : aH _ (jV _ _) _)) (by exact (H.bN 0 rfl : aH _ (pR _ _) _)) (by simp) (by simp [lW, hlv, o5])) ?_
   rintro v44 vT ⟨hO, gT⟩
   replace H := H.push hO (aO.iA w.heap.size v44 5 1 _ _) (gB gT H.size) (fun b hb => (gT.lt b hb).1)
   have hhd : [([1, UInt8.ofNat kd, UInt8.ofNat (dp / 2 ^ 8), UInt8.ofNat dp] : List UInt8) ++ B, lk, lv].flatten = mB kd dp lk lv B := by unfold mB; rw [if_pos vF]; simp
   rw [hhd] at H
   refine WL.nil ⟨cV, ?_⟩
   refine WP.as rfl rfl rfl (WP.done ?_)
   exact ⟨v44, (by repeat (first | with_reducible exact bQ.refl _ _ | refine bQ.dB rfl ?_)), ⟨rfl, trivial⟩, rfl, (show St X w _ [] [aO.iA w.heap.size v44 5 1 (mB kd dp lk lv B).length (kc (mB kd dp lk lv B))] [fun w => aK w b1 35 (fH kd dp lk lv B sl), eN sl sb] from by exact H.rM [2, 5])⟩
  ·
   try simp only [bW] at aBk
   have NA : ¬ kd = 1 := by omega
   have hhd : ([1, UInt8.ofNat kd, UInt8.ofNat (dp / 2 ^ 8), UInt8.ofNat dp] : List UInt8) ++ B = mB kd dp lk lv B := by unfold mB; rw [if_neg NA, List.append_nil]
   rw [hhd] at H
   replace H := H.freeze (i := 1) rfl
   refine WE.skip ?_
   exact ⟨v32, (by repeat (first | with_reducible exact bQ.refl _ _ | refine bQ.dB rfl ?_)), ⟨rfl, trivial⟩, rfl, (show St X w _ [] [aO.iA w.heap.size v32 5 1 (mB kd dp lk lv B).length (kc (mB kd dp lk lv B))] [fun w => aK w b1 35 (fH kd dp lk lv B sl), eN sl sb] from H.rM [0, 1])⟩
 ·
  intro g_ γ y8 hI
  try dsimp only at hI
  replace H := hI
  refine WE.seq (WE.aA (WL.pv (PV.fieldAddr rfl lJ rfl) rfl ?_))
  refine WL.aZ rfl sL rfl rfl (by exact aK.aF (H.p 0 rfl) (aJ.r (aJ.r (aJ.r (aJ.r (aJ.all _) (by with_reducible rfl)) (by with_reducible rfl)) (by with_reducible rfl)) (by with_reducible rfl)) (by (simp [aN, bA, *]; done))) ?_
  refine WL.pv (PV.dO (by exact (H.p 1 rfl : (eN sl sb) _)) mS rfl) rfl ?_
  refine WL.mv rfl rfl (WL.nil (WE.block ?_))
  refine WE.loop (α := Nat × Value) [5, 7, 48, 49, 50, 51, 52, 53, 54, 55] (fun p => [(48, .int .i64 (p.1 : Int)), (5, p.2)]) (fun p wl => p.1 ≤ sb.length ∧ St X w wl [] [aO.iA w.heap.size p.2 5 1 (encI kd dp lk lv B sb (p.1)).length (kc (encI kd dp lk lv B sb (p.1)))] [fun w => aK w b1 35 (fH kd dp lk lv B sl), eN sl sb]) (fun p => sb.length - p.1) (0, g_) ⟨rfl, rfl, trivial⟩ ⟨Nat.zero_le _, H.conv (L' := [aO.iA w.heap.size g_ 5 1 (encI kd dp lk lv B sb (0)).length (kc (encI kd dp lk lv B sb (0)))]) (by show _ = _; unfold encI; rw [List.take_zero]; simp)⟩ ?_
  intro ⟨i, g⟩ γ0 IE hI
  try dsimp only at hI
  obtain ⟨hi, H⟩ := hI
  refine WE.aA (WL.pv (PV.lss rfl rfl rfl) rfl (WL.nil (WE.seq ?_)))
  refine WE.cond rfl (fun aBi => ?_) (fun aBi => ?_)
  ·
   try simp only [bW] at aBi
   have hlt : i < sb.length := by omega
   have hsi := hp.sl _ (List.getElem_mem hlt)
   have hes := z8 (kd := kd) (dp := dp) (lk := lk) (lv := lv) (B := B) hlt
   have hel := xL hp i (by omega)
   have TR : (if kd = 1 then 100 else 36) ≤ 100 := by split <;> omega
   refine WE.skip (WE.seq (WE.block (WE.aA ?_)))
   refine WL.pv (PV.eQ rfl (by exact (H.p 1 rfl : (eN sl sb) _)) mS dK rfl rfl (by omega) (by omega)) rfl ?_
   refine WL.bG rfl iD rfl rfl ((eN.rd (by exact (H.p 1 rfl : (eN sl sb) _)) hp.sl i hlt)) (cI dK (by simp only [aR, aU, aB, Tr.aP, bE, aX, aD]; omega)) ?_
   refine WL.alloc H rfl nP rfl ?_
   intro b7 FI H
   refine WL.aT H 0 rfl rfl rfl (new := kc sb[i]) rfl (cI dK (by simp only [aR, aU, aB, Tr.aP, bE, aX, aD]; omega)) (by exact bK _) (Laid.at (Laid.all (by simp only [aR, aU, aB, Tr.aP, bE, aX, aD]; omega)) (by rfl)) rfl ?_
   intro KT H
   refine WL.nil (WE.eM (WL.mv rfl rfl ?_))
   refine WL.pv (PV.fP rfl oY (by rw [iB]; rfl) rfl) rfl ?_
   refine WL.append (m := sb[i].length) H 1 jZ (by decide) rfl rfl rfl (bI.cA (H.l 0 rfl) hsi) (by exact bK _) (by omega) (by decide) rfl ?_
   intro v54 NR H
   replace H := H.forget 0
   replace H := H.conv (L' := [aO.iA w.heap.size v54 5 1 (encI kd dp lk lv B sb (i + 1)).length (kc (encI kd dp lk lv B sb (i + 1)))]) (by rw [hes, List.length_append, j7]; rfl)
   refine WL.as rfl rfl (WL.nil (WE.eM ?_))
   refine WL.pv (PV.eq (v' := .int .i64 ((i + 1 : Nat) : Int)) (PV.bZ rfl rfl rfl (by omega) (by omega)) (by rfl)) rfl ?_
   refine WL.mv rfl rfl (WL.nil ?_)
   exact ⟨(i + 1, v54), (by repeat (first | with_reducible exact bQ.refl _ _ | refine bQ.dB rfl ?_ | refine bQ.cE rfl ?_ | refine bQ.cB rfl ?_)), ⟨rfl, rfl, trivial⟩, rfl, ⟨by dsimp only; omega, H⟩, (by dsimp only; omega)⟩
  ·
   try simp only [bW] at aBi
   have uM : i = sb.length := by omega
   refine WE.exit (WE.aA (WL.mv rfl rfl (WL.as rfl rfl (WL.as rfl rfl (WL.nil (WE.ret ⟨[_, _], _, .nil _, ⟨rfl, rfl, trivial⟩, ?_⟩))))))
   subst uM
   rw [EK] at H
   replace H := H.freeze (i := 0) rfl
   exact ⟨g, rfl, H.aM, H.gU ((H.bN 0 rfl).imp fun _ h => bI.eH h)⟩
theorem PV.aF2 {P : Program} {σ : Env} {o : Oper} {t e : TypeId} {x : Operand} {a : Addr} {n m c : Nat} (h : o.op = .sliceToArrayPointer t x) (ht : eF P t = some (n, e)) (hx : ev σ x = .slice (some a) m c) (hm : n ≤ m) : PV P σ o (.pointer (some a)) := fun w => by
 have h1 : ¬ m < n := by omega
 simp [execOp, h, hx, Instr.arrayAt, run_underlying (dZ ht), h1]
theorem cX.pre {w : World} {a : Addr} {l m : List Value} (h : cX w a (l ++ m)) : cX w a l := fun j v hj => h j v (by rw [List.getElem?_append_left (List.getElem?_eq_some_iff.1 hj).1]; exact hj)
theorem cX.aAw {w : World} {a : Addr} {l : List UInt8} (h : cX w a (kc l)) (n : Nat) : cX w a (kc (l.take n)) := by
 have e : kc l = kc (l.take n) ++ kc (l.drop n) := by rw [← j7, List.take_append_drop]
 rw [e] at h
 exact cX.pre h
theorem aGJ {d : Nat} (h : d ≤ 256) : (UInt8.ofNat (d / 2 ^ 8)).toNat = d / 256 := by rw [UInt8.toNat_ofNat']; omega
theorem aGI (d : Nat) : (UInt8.ofNat d).toNat = d % 256 := by rw [UInt8.toNat_ofNat']
theorem aDb {d : Nat} (h : d ≤ 256) : IntKind.i64.wrap ((BitVec.ofInt IntKind.i64.bits ((d / 256 * 256 : Nat) : Int) ||| BitVec.ofInt IntKind.i64.bits ((d % 256 : Nat) : Int)).toNat : Int) = (d : Int) := by
 have : ∀ d : Fin 257, IntKind.i64.wrap ((BitVec.ofInt IntKind.i64.bits ((d.val / 256 * 256 : Nat) : Int) ||| BitVec.ofInt IntKind.i64.bits ((d.val % 256 : Nat) : Int)).toNat : Int) = (d.val : Int) := by decide +kernel
 exact this ⟨d, by omega⟩
theorem BV : ∀ (l : List (List UInt8)), (∀ s ∈ l, s.length = 32) → l.flatten.length = 32 * l.length
 | [], _ => rfl
 | s :: l, h => by
  rw [List.flatten_cons, List.length_append, h s (by simp), BV l fun x hx => h x (List.mem_cons_of_mem _ hx), List.length_cons]; omega
theorem AB {sb : List (List UInt8)} {i : Nat} (h : i < sb.length) : (sb.drop i).flatten = sb[i] ++ (sb.drop (i + 1)).flatten := by rw [List.drop_eq_getElem_cons h]; rfl
theorem wL {X : Nat → Prop} {w : World} {br : Nat} {s : Value} {l : List UInt8} (hX : cW X w) (eR : aK w br 277 ([s, .bool false])) (bU : aH (fun c_ => X c_ ∨ c_ = br) (bI s l) w) (hl : 32 ≤ l.length) (hle : l.length ≤ 1000000) :
  bD Tryz.prog 167 [.pointer (some ⟨br, 0, none⟩)].toArray w fun v w' => ∃ s', v = .agg (kc (l.take 32)).toArray ∧ Out (· = br) w w' ∧ aK w' br 277 [s', .bool false] ∧ aH (fun c => X c ∨ c = br) (bI s' (l.drop 32)) w' := by
 refine bD.aI (N := 28) Tryz.func167 rfl rfl (by simp) ?_
 have H := St.c6 (b := br) (t := 277) (l := [s, .bool false]) hX eR
 replace H := H.add (bY bU)
 have aJn : (l.take 32).length = 32 := by rw [List.length_take]; omega
 obtain ⟨sa, sc, rfl⟩ := bI.some (bU.here) (by omega)
 refine WE.aA ?_
 refine WL.alloc H rfl aGD rfl ?_
 intro b2 w1 H
 refine WL.nil (WE.seq (WE.aA (WL.mv rfl rfl (WL.pv (PV.nilCheck rfl rfl) rfl (WL.pv (PV.fieldAddr rfl pY rfl) rfl ?_)))))
 refine WL.aZ rfl eL rfl rfl (by exact aK.aF (H.o 0 rfl) aJ.hd (by rfl)) ?_
 refine WL.pv (PV.dO (by exact (H.p 0 rfl : (bI _ l) _)) eV rfl) rfl ?_
 refine WL.pv (PV.lss rfl rfl rfl) rfl (WL.nil ?_)
 refine WE.bB rfl (by simp; omega) ?_
 refine WE.skip (WE.aA (WL.mv rfl rfl (WL.pv (PV.nilCheck rfl rfl) rfl (WL.pv (PV.fieldAddr rfl pY rfl) rfl ?_))))
 refine WL.aZ rfl eL rfl rfl (by exact aK.aF (H.o 0 rfl) aJ.hd (by rfl)) ?_
 refine WL.pv (PV.aF2 rfl aF3 rfl hl) rfl ?_
 refine WL.bG rfl B8 rfl rfl ((cX.aAw (bI.whole (H.p 0 rfl)) 32)) (cI uW (by simp only [aR, aU, aB, aD]; omega)) ?_
 refine WL.aT H 0 rfl rfl rfl (new := kc (l.take 32)) rfl (cI uW (by simp only [aR, aU, aB, aD]; omega)) (by exact bK _) (Laid.at (Laid.all (by simp only [aR, aU, aB, aD]; omega)) (by rfl)) rfl ?_
 intro w2 H
 refine WL.nil (WE.aA (WL.mv rfl rfl (WL.mv rfl rfl (WL.pv (PV.nilCheck rfl rfl) rfl (WL.pv (PV.fieldAddr rfl pY rfl) rfl ?_)))))
 refine WL.aZ rfl eL rfl rfl (by exact aK.aF (H.o 0 rfl) aJ.hd (by rfl)) ?_
 refine WL.pv (PV.qC rfl (H.p 0 rfl) eV iB rfl rfl (by omega) (by omega)) rfl (WL.pv (PV.nilCheck rfl rfl) rfl (WL.pv (PV.fieldAddr rfl pY rfl) rfl ?_))
 refine WL.kV H 0 rfl rfl rfl (new := [iS (.slice (some sa) l.length sc) 1 32 l.length]) rfl (by exact AW) (bC _ rfl) (Laid.at Laid.head (by rfl)) rfl ?_
 intro w3 H
 refine WL.nil (WE.aA ?_)
 refine WL.bG rfl B8 rfl rfl (by exact aK.aF (H.l 0 rfl) (aJ.all _) (by rfl)) (cI uW (by simp only [aR, aU, aB, aD]; omega)) ?_
 refine WL.aT H 0 rfl rfl rfl (new := kc (l.take 32)) rfl (cI uW (by simp only [aR, aU, aB, aD]; omega)) (by exact bK _) (Laid.at (Laid.all (by with_reducible rfl)) (by rfl)) rfl ?_
 intro w4 H
 refine WL.nil (WE.ret ⟨[_], _, .nil _, ⟨⟨_, rfl, aV B8 (by exact aK.aF (H.l 0 rfl) (aJ.all _) rfl) (cI uW (by simp only [aR, aU, aB, aD]; omega))⟩, trivial⟩, ?_⟩)
 refine ⟨_, rfl, H.cM, H.o 0 rfl, (H.fM (H.bN 0 rfl)).imp fun _ h => ?_⟩
 have h_ := bI.sub h hl (Nat.le_refl _)
 rw [List.take_of_length_le (by rw [List.length_drop]; omega)] at h_
 exact h_
theorem X3 {X : Nat → Prop} {w : World} {s : Value} {kd dp : Nat} {lk lv B : List UInt8} {sb : List (List UInt8)} (hX : cW X w) (bU : aH X (bI s (fA kd dp lk lv B sb)) w) (hl : 4 ≤ (fA kd dp lk lv B sb).length) (hle : (fA kd dp lk lv B sb).length ≤ 1000000) (vE : kd = 0 ∨ kd = 1) :
  bD Tryz.prog 166 [s].toArray w fun v w' => v = .tuple [.int .i64 (kd : Int), .int .i64 0].toArray ∧ Out Nil w w' := by
 refine bD.aI (N := 17) Tryz.func166 rfl rfl (by simp) ?_
 have H := St.begin hX
 replace H := H.add (cF bU)
 have hkn : (UInt8.ofNat kd).toNat = kd := by rw [UInt8.toNat_ofNat']; omega
 refine WE.aA (WL.as rfl rfl (WL.as rfl rfl (WL.nil (WE.seq (WE.block (WE.aA (WL.mv rfl rfl ?_)))))))
 refine WL.pv (PV.dO (by exact (H.p 0 rfl : (bI s (fA kd dp lk lv B sb)) _)) eV rfl) rfl ?_
 refine WL.pv (PV.lss rfl rfl rfl) rfl (WL.as rfl rfl (WL.nil ?_))
 refine WE.bB rfl (by simp; omega) ?_
 refine WE.aA (WL.mv rfl rfl (WL.pv (PV.eQ rfl (H.p 0 rfl) eV iB rfl rfl (by omega) (by omega)) rfl ?_))
 refine WL.aZ rfl B7 rfl rfl ((show cX _ _ [.int .u8 1] from bI.rd (by exact (H.p 0 rfl : (bI s (fA kd dp lk lv B sb)) _)) 0 (by omega))) ?_
 refine WL.pv (PV.neq rfl rfl rfl) rfl (WL.as rfl rfl (WL.nil ?_))
 refine WE.bB rfl rfl ?_
 refine WE.skip (WE.aA (WL.mv rfl rfl (WL.pv (PV.eQ rfl (H.p 0 rfl) eV iB rfl rfl (by omega) (by omega)) rfl ?_)))
 refine WL.aZ rfl B7 rfl rfl ((show cX _ _ [.int .u8 ((UInt8.ofNat kd).toNat : Int)] from bI.rd (by exact (H.p 0 rfl : (bI s (fA kd dp lk lv B sb)) _)) 1 (by omega))) ?_
 refine WL.pv (PV.eq (v' := .int .i64 (kd : Int)) (PV.mL (a := ((UInt8.ofNat kd).toNat : Int)) rfl pI yD rfl (by omega) (by omega)) (by congr 1; omega)) rfl ?_
 refine WL.as rfl rfl (WL.as rfl rfl (WL.nil (WE.ret ⟨[_, _], _, .nil _, ⟨rfl, rfl, trivial⟩, ?_⟩)))
 exact ⟨rfl, H.aM⟩
theorem TD {X : Nat → Prop} {w : World} {s : Value} {kd dp : Nat} {lk lv B : List UInt8} {sb : List (List UInt8)} (hX : cW X w) (bU : aH X (bI s (fA kd dp lk lv B sb)) w) (hp : iG kd dp lk lv B sb) :
  bD Tryz.prog 126 [s].toArray w fun v w' => ∃ sl, v = .tuple [.agg (fH kd dp lk lv B sl).toArray, .int .i64 0].toArray ∧ Out Nil w w' ∧ aH X (eN sl sb) w' := by
 refine bD.aI (N := 104) Tryz.func126 rfl rfl (by simp) ?_
 have H := St.begin hX
 replace H := H.add (cF bU)
 have vE := hp.kd
 have yR := hp.L8
 have lW := hp.tJ
 have hlv := hp.lvl
 have o5 := hp.bl
 have oW := hp.NC
 have BI : (List.replicate 32 (0 : UInt8)).length = 32 := List.length_replicate
 have hEl := xK hp
 have JG := BV sb hp.sl
 have hKl : (if kd = 1 then lk ++ lv else []).length = if kd = 1 then 64 else 0 := by split <;> simp [lW, hlv]
 have hEd : (fA kd dp lk lv B sb).drop 4 = (B ++ ((if kd = 1 then lk ++ lv else []) ++ sb.flatten)) := by show ((([1, UInt8.ofNat kd, UInt8.ofNat (dp / 2 ^ 8), UInt8.ofNat dp] ++ B) ++ (if kd = 1 then lk ++ lv else [])) ++ sb.flatten).drop 4 = _; rw [List.append_assoc, List.append_assoc]; rfl
 have hRl : (B ++ ((if kd = 1 then lk ++ lv else []) ++ sb.flatten)).length = 32 + ((if kd = 1 then 64 else 0) + 32 * sb.length) := by rw [List.length_append, List.length_append, o5, hKl, JG]
 have hle1 : (if kd = 1 then 100 else 36) ≤ 100 ∧ 36 ≤ (if kd = 1 then 100 else 36) := by split <;> omega
 have hle2 : (if kd = 1 then 64 else 0) ≤ 64 := by split <;> omega
 refine WE.aA ?_
 refine WL.alloc H rfl uV rfl ?_
 intro b2 w1 H
 obtain ⟨z2, hz2⟩ : ∃ z2 : List Value, z2 = [.int .i64 0] ++ ([.int .i64 0] ++ ((kc (List.replicate 32 0) ++ kc (List.replicate 32 0)) ++ (kc (List.replicate 32 0) ++ [.slice none 0 0]))) := ⟨_, rfl⟩
 have aI7 : z2.length = 99 := by rw [hz2]; rfl
 rw [← hz2] at H
 refine WL.as rfl rfl (WL.nil (WE.seq (WE.aA (WL.mv rfl rfl ?_))))
 refine WL.pv (PV.dO (by exact (H.p 0 rfl : (bI s (fA kd dp lk lv B sb)) _)) eV rfl) rfl ?_
 refine WL.pv (PV.lss rfl rfl rfl) rfl (WL.nil ?_)
 refine WE.bB rfl (by simp; omega) ?_
 refine WE.skip (WE.aA (WL.mv rfl rfl ?_))
 refine WL.call aE6 rfl (X3 (kd := kd) (dp := dp) (lk := lk) (lv := lv) (B := B) (sb := sb) H.aS (by exact (H.bN 0 rfl : aH _ (bI s (fA kd dp lk lv B sb)) _)) (by omega) (by omega) vE) ?_
 rintro _ w2 ⟨rfl, hO⟩
 replace H := H.out hO
 refine WL.mv rfl rfl (WL.pv (PV.extract rfl rfl rfl) rfl (WL.pv (PV.extract rfl rfl rfl) rfl (WL.as rfl rfl (WL.as rfl rfl (WL.nil (WE.seq (WE.aA ?_)))))))
 refine WL.mv rfl rfl (WL.pv (PV.neq rfl rfl rfl) rfl (WL.nil ?_))
 refine WE.bB rfl rfl ?_
 refine WE.skip ?_
 refine WE.cut (α := Unit) [3, 22, 23, 24, 25, 26, 27, 28] (fun _ => []) (fun _ wl => St X w wl [] [aO.blk b2 35 z2] [bI s (fA kd dp lk lv B sb)]) ?_ ?_
 ·
  refine WE.aA (WL.mv rfl rfl (WL.pv (PV.neq rfl rfl rfl) rfl (WL.mv rfl rfl ?_)))
  refine WL.split (t := 24) rfl (fun QE => ?_) (fun QE => ?_)
  ·
   refine WL.known (t := 23) (c := true) rfl QE ?_
   try simp only [bW] at QE
   refine WL.mv rfl rfl (WL.pv (PV.neq rfl rfl rfl) rfl (WL.pv (PV.dH rfl rfl rfl) rfl (WL.nil ?_)))
   refine WE.bB rfl (by simp; omega) ?_
   refine WE.skip ?_
   exact ⟨(), (by repeat (first | with_reducible exact bQ.refl _ _ | refine bQ.dB rfl ?_)), trivial, rfl, H⟩
  ·
   refine WL.known (t := 23) (c := false) rfl QE ?_
   try simp only [bW] at QE
   refine WL.off rfl (WL.off rfl (WL.pv (PV.c5 rfl rfl rfl) rfl (WL.nil (WE.iJ rfl (WE.skip ?_)))))
   exact ⟨(), (by repeat (first | with_reducible exact bQ.refl _ _ | refine bQ.dB rfl ?_)), trivial, rfl, H⟩
 ·
  intro _ γ w3 hI
  try dsimp only at hI
  replace H := hI
  refine WE.aA (WL.mv rfl rfl ?_)
  refine WL.pv (PV.eq (v' := iS s 1 4 (fA kd dp lk lv B sb).length) (PV.qC rfl (by exact (H.p 0 rfl : (bI s (fA kd dp lk lv B sb)) _)) eV iB rfl rfl (by omega) (by omega)) rfl) rfl ?_
  replace H := H.add (show aH _ (bI (iS s 1 4 (fA kd dp lk lv B sb).length) (B ++ ((if kd = 1 then lk ++ lv else []) ++ sb.flatten))) _ from ((by exact (H.bN 0 rfl : aH _ (bI s (fA kd dp lk lv B sb)) _)) : aH _ (bI s (fA kd dp lk lv B sb)) _).imp fun _ h => by have h_ := bI.sub h (show 4 ≤ (fA kd dp lk lv B sb).length by omega) (Nat.le_refl _); rw [List.take_of_length_le (by rw [List.length_drop]; exact Nat.le_refl _), hEd] at h_; exact h_)
  have Y2 : (iS s 1 4 (fA kd dp lk lv B sb).length).oneCell' = true := cS.fG (H.p 0 rfl : bI _ (B ++ ((if kd = 1 then lk ++ lv else []) ++ sb.flatten)) _)
  obtain ⟨s4, hs4⟩ : ∃ s4, s4 = iS s 1 4 (fA kd dp lk lv B sb).length := ⟨_, rfl⟩
  rw [← hs4] at H Y2 ⊢
  refine WL.pv (PV.dD rfl aC3 aCk (Fl.cons rfl (cells_one Y2) (by simp only [aR, aU, aB, aD]) Laid.head Fl.nil)) rfl ?_
  refine WL.box (l := [s4, .bool false]) H rfl (by rfl) rfl ?_
  intro G6 w4 H
  refine WL.as rfl rfl (WL.nil (WE.aA (WL.mv rfl rfl (WL.pv (PV.makeFunc rfl) rfl (WL.as rfl rfl (WL.nil ?_))))))
  refine WE.bF (.take 0 (.take 1 (.take 2 (.take 3 (.take 4 (.take 5 (.take 6 (.take 7 (.take 8 (.take 9 (.take 10 (.take 11 (.gN 12 (.take 13 (.aG 14 (.aG 15 .done))) 14 (.aG 12 (.take 13 (.aG 15 .done)))))))))))))))) mixed (by kernel_rfl) ?_
  replace H := H.out (Out.drew _)
  refine WP.mv rfl rfl rfl (WP.mv rfl rfl rfl ?_)
  refine WP.aC rfl rfl (PV.eQ rfl (by exact (H.p 1 rfl : (bI s (fA kd dp lk lv B sb)) _)) eV iB rfl rfl (by omega) (by omega)) ?_
  refine WP.aQ rfl rfl (RV.aY rfl B7 rfl) ((show cX _ _ [.int .u8 ((UInt8.ofNat (dp / 2 ^ 8)).toNat : Int)] from bI.rd (by exact (H.p 1 rfl : (bI s (fA kd dp lk lv B sb)) _)) 2 (by omega))) ?_
  refine WP.aC rfl rfl (PV.eq (v' := .int .i64 ((dp / 256 : Nat) : Int)) (PV.mL (a := ((UInt8.ofNat (dp / 2 ^ 8)).toNat : Int)) rfl pI yD rfl (by omega) (by have := (UInt8.ofNat (dp / 2 ^ 8)).toNat_lt; omega)) (by rw [aGJ yR])) ?_
  refine WP.aC rfl rfl (PV.eq (v' := .int .i64 ((dp / 256 * 256 : Nat) : Int)) (PV.UJ rfl rfl rfl (by omega)) (by rw [show IntKind.i64.wrap _ = _ from wrap64_in (by simp [IntKind.bits]; omega) (by simp [IntKind.bits]; omega)] <;> ((congr 1; done)))) ?_
  refine WP.mv rfl rfl rfl ?_
  refine WP.aC rfl rfl (PV.eQ rfl (by exact (H.p 1 rfl : (bI s (fA kd dp lk lv B sb)) _)) eV iB rfl rfl (by omega) (by omega)) ?_
  refine WP.aQ rfl rfl (RV.aY rfl B7 rfl) ((show cX _ _ [.int .u8 ((UInt8.ofNat dp).toNat : Int)] from bI.rd (by exact (H.p 1 rfl : (bI s (fA kd dp lk lv B sb)) _)) 3 (by omega))) ?_
  refine WP.aC rfl rfl (PV.eq (v' := .int .i64 ((dp % 256 : Nat) : Int)) (PV.mL (a := ((UInt8.ofNat dp).toNat : Int)) rfl pI yD rfl (by omega) (by have := (UInt8.ofNat dp).toNat_lt; omega)) (by rw [aGI])) ?_
  refine WP.aC rfl rfl (PV.eq (v' := .int .i64 (dp : Int)) (PV.orw rfl rfl rfl) (congrArg (Value.int .i64) (aDb yR))) ?_
  refine WP.mv rfl rfl rfl ?_
  refine WP.join (α := Nat × Value) (.aG 15 .done) [8, 47, 48] (fun g_ => [(47, .agg (kc B).toArray), (8, .pointer (some ⟨g_.1, 0, none⟩)), (48, .agg (fH kd dp (List.replicate 32 0) (List.replicate 32 0) B (.slice none 0 0)).toArray)]) (fun g_ wl => St X w wl [] [aO.blk g_.1 35 ([.int .i64 0] ++ ([.int .i64 0] ++ ((kc (List.replicate 32 0) ++ kc (List.replicate 32 0)) ++ (kc (List.replicate 32 0) ++ [.slice none 0 0])))), aO.blk G6 277 [g_.2, .bool false], aO.blk b2 35 z2] [bI g_.2 ((if kd = 1 then lk ++ lv else []) ++ sb.flatten), bI s (fA kd dp lk lv B sb)]) ?_ ?_
  ·
   intro M7
   refine WP.gN rfl rfl ?_ ?_ 
   ·
    refine WL.qQ EF rfl rfl (by exact wL (br := G6) (l := (B ++ ((if kd = 1 then lk ++ lv else []) ++ sb.flatten))) H.aS (H.l 0 rfl) (by exact (H.eX 0 rfl 0 rfl : aH _ (bI s4 (B ++ ((if kd = 1 then lk ++ lv else []) ++ sb.flatten))) _)) (by omega) (by omega)) ?_
    rintro _ w5 ⟨UK, rfl, hO, hB, hR⟩
    have JC : (B ++ ((if kd = 1 then lk ++ lv else []) ++ sb.flatten)).take 32 = B := List.take_left' o5
    have hdk : (B ++ ((if kd = 1 then lk ++ lv else []) ++ sb.flatten)).drop 32 = (if kd = 1 then lk ++ lv else []) ++ sb.flatten := List.drop_left' o5
    rw [JC]
    rw [hdk] at hR
    replace H := H.jT 0 rfl hO hB hR
    refine WL.nil ⟨(fa (fun _ _ => ((show cX _ _ [.int .u8 ((UInt8.ofNat dp).toNat : Int)] from bI.rd (by exact (H.p 2 rfl : (bI s (fA kd dp lk lv B sb)) _)) 3 (by omega)))) (fa (fun _ _ => ((show cX _ _ [.int .u8 ((UInt8.ofNat (dp / 2 ^ 8)).toNat : Int)] from bI.rd (by exact (H.p 2 rfl : (bI s (fA kd dp lk lv B sb)) _)) 2 (by omega)))) cV)), ?_⟩
    refine WP.aC rfl rfl (PV.dD rfl aAK uV (Fl.cons rfl (by rfl) (by simp only [aR, aU, aB, aD]) (Laid.left (Laid.all (by simp only [aR, aU, aB, aD]))) (Fl.cons rfl (by rfl) (by simp only [aR, aU, aB, aD]) (Laid.right (Laid.left (Laid.all (by simp only [aR, aU, aB, aD]))) (by simp only [aR, aU, aB, aD])) (Fl.cons rfl (by rfl) (by simp only [aR, aU, aB, aD]; omega) (Laid.right (Laid.right (Laid.right (Laid.left (Laid.all (by simp only [aR, aU, aB, aD]; omega))) (by with_reducible rfl)) (by with_reducible rfl)) (by simp only [aR, aU, aB, aD])) Fl.nil)))) ?_
    refine WP.aG rfl ?_
    refine WL.alloc H rfl uV rfl ?_
    intro b8 w6 H
    refine WL.nil ⟨(fa (fun _ _ => ((show cX _ _ [.int .u8 ((UInt8.ofNat dp).toNat : Int)] from bI.rd (by exact (H.p 2 rfl : (bI s (fA kd dp lk lv B sb)) _)) 3 (by omega)))) (fa (fun _ _ => ((show cX _ _ [.int .u8 ((UInt8.ofNat (dp / 2 ^ 8)).toNat : Int)] from bI.rd (by exact (H.p 2 rfl : (bI s (fA kd dp lk lv B sb)) _)) 2 (by omega)))) cV)), ?_⟩
    exact M7 _ _ ⟨(b8, UK), (by repeat (first | with_reducible exact bQ.refl _ _ | refine bQ.dB rfl ?_)), ⟨rfl, rfl, rfl, trivial⟩, (by exact H.rM [0, 2])⟩
   ·
    refine WL.alloc H rfl uV rfl ?_
    intro b8 w7 H
    refine WL.nil ⟨(fa (fun _ _ => ((show cX _ _ [.int .u8 ((UInt8.ofNat dp).toNat : Int)] from bI.rd (by exact (H.p 1 rfl : (bI s (fA kd dp lk lv B sb)) _)) 3 (by omega)))) (fa (fun _ _ => ((show cX _ _ [.int .u8 ((UInt8.ofNat (dp / 2 ^ 8)).toNat : Int)] from bI.rd (by exact (H.p 1 rfl : (bI s (fA kd dp lk lv B sb)) _)) 2 (by omega)))) cV)), ?_⟩
    refine WP.aG rfl ?_
    refine WL.qQ EF rfl rfl (by exact wL (br := G6) (l := (B ++ ((if kd = 1 then lk ++ lv else []) ++ sb.flatten))) H.aS (H.l 1 rfl) (by exact (H.eX 1 rfl 0 rfl : aH _ (bI s4 (B ++ ((if kd = 1 then lk ++ lv else []) ++ sb.flatten))) _)) (by omega) (by omega)) ?_
    rintro _ w8 ⟨UK, rfl, hO, hB, hR⟩
    have JC : (B ++ ((if kd = 1 then lk ++ lv else []) ++ sb.flatten)).take 32 = B := List.take_left' o5
    have hdk : (B ++ ((if kd = 1 then lk ++ lv else []) ++ sb.flatten)).drop 32 = (if kd = 1 then lk ++ lv else []) ++ sb.flatten := List.drop_left' o5
    rw [JC]
    rw [hdk] at hR
    replace H := H.jT 1 rfl hO hB hR
    refine WL.nil ⟨(fa (fun _ _ => ((show cX _ _ [.int .u8 ((UInt8.ofNat dp).toNat : Int)] from bI.rd (by exact (H.p 2 rfl : (bI s (fA kd dp lk lv B sb)) _)) 3 (by omega)))) (fa (fun _ _ => ((show cX _ _ [.int .u8 ((UInt8.ofNat (dp / 2 ^ 8)).toNat : Int)] from bI.rd (by exact (H.p 2 rfl : (bI s (fA kd dp lk lv B sb)) _)) 2 (by omega)))) cV)), ?_⟩
    refine WP.aC rfl rfl (PV.dD rfl aAK uV (Fl.cons rfl (by rfl) (by simp only [aR, aU, aB, aD]) (Laid.left (Laid.all (by simp only [aR, aU, aB, aD]))) (Fl.cons rfl (by rfl) (by simp only [aR, aU, aB, aD]) (Laid.right (Laid.left (Laid.all (by simp only [aR, aU, aB, aD]))) (by simp only [aR, aU, aB, aD])) (Fl.cons rfl (by rfl) (by simp only [aR, aU, aB, aD]; omega) (Laid.right (Laid.right (Laid.right (Laid.left (Laid.all (by simp only [aR, aU, aB, aD]; omega))) (by with_reducible rfl)) (by with_reducible rfl)) (by simp only [aR, aU, aB, aD])) Fl.nil)))) ?_
    exact M7 _ _ ⟨(b8, UK), (by repeat (first | with_reducible exact bQ.refl _ _ | refine bQ.dB rfl ?_)), ⟨rfl, rfl, rfl, trivial⟩, (by exact H.rM [0, 2])⟩
  ·
   intro ⟨b8, UK⟩ γ_ w9 hI
   try dsimp only at hI
   replace H := hI
   refine WP.aG rfl ?_
   refine WL.aT H 0 rfl rfl rfl (new := fH kd dp (List.replicate 32 0) (List.replicate 32 0) B (.slice none 0 0)) rfl (cI jU (by simp only [aR, aU, aB, aD]; omega)) (pU rfl) (Laid.at (Laid.all (by simp only [aR, aU, aB, aD]; omega)) (by rfl)) rfl ?_
   intro vT H
   refine WL.nil ⟨(fa (nw 15 8 (by decide +kernel)) (fa (nw 15 3 (by decide +kernel)) cV)), ?_⟩
   refine WP.done ?_
   refine WE.cut (α := Value) [49, 50, 51, 52, 53, 54, 55, 56, 57, 58] (fun g_ => []) (fun g_ wl => St X w wl [] [aO.blk b8 35 (fH kd dp lk lv B (.slice none 0 0)), aO.blk G6 277 [g_, .bool false], aO.blk b2 35 z2] [bI g_ sb.flatten, bI s (fA kd dp lk lv B sb)]) ?_ ?_
   ·
    refine WE.aA (WL.mv rfl rfl (WL.pv (PV.eql rfl rfl rfl) rfl (WL.nil ?_)))
    refine WE.cond rfl (fun mH => ?_) (fun mH => ?_)
    ·
     try simp only [bW] at mH
     have vF : kd = 1 := by omega
     have hKF : (if kd = 1 then lk ++ lv else []) ++ sb.flatten = lk ++ (lv ++ sb.flatten) := by rw [if_pos vF, List.append_assoc]
     rw [hKF] at H
     have aJl : (lk ++ (lv ++ sb.flatten)).length = 64 + 32 * sb.length := by simp [lW, hlv, JG]; omega
     have aJk : (lv ++ sb.flatten).length = 32 + 32 * sb.length := by simp [hlv, JG]
     refine WE.aA (WL.mv rfl rfl ?_)
     refine WL.qQ EF rfl rfl (wL (br := G6) (l := (lk ++ (lv ++ sb.flatten))) H.aS (H.l 1 rfl) (by exact (H.eX 1 rfl 0 rfl : aH _ (bI UK (lk ++ (lv ++ sb.flatten))) _)) (by omega) (by omega)) ?_
     rintro _ y8 ⟨s52, rfl, hO, hB, hR⟩
     have JC : (lk ++ (lv ++ sb.flatten)).take 32 = lk := List.take_left' lW
     have hdk : (lk ++ (lv ++ sb.flatten)).drop 32 = lv ++ sb.flatten := List.drop_left' lW
     rw [JC]
     rw [hdk] at hR
     replace H := H.jT 1 rfl hO hB hR
     refine WL.pv (PV.fieldAddr rfl oG rfl) rfl (WL.pv (PV.fieldAddr rfl kD rfl) rfl ?_)
     refine WL.aT H 0 rfl rfl rfl (new := kc lk) rfl (cI cN (by simp only [aR, aU, aB, aD]; omega)) (by exact bK _) (Laid.at (Laid.right (Laid.right (Laid.left (Laid.left (Laid.all (by simp only [aR, aU, aB, aD]; omega)))) (by with_reducible rfl)) (by with_reducible rfl)) (by rfl)) rfl ?_
     intro IE H
     replace H := H.conv (L' := [aO.blk b8 35 (fH kd dp lk (List.replicate 32 0) B (.slice none 0 0)), aO.blk G6 277 [s52, .bool false], aO.blk b2 35 z2]) rfl
     refine WL.nil (WE.eM (WL.mv rfl rfl ?_))
     refine WL.qQ EF rfl rfl (wL (br := G6) (l := (lv ++ sb.flatten)) H.aS (H.l 1 rfl) (by exact (H.eX 1 rfl 0 rfl : aH _ (bI s52 (lv ++ sb.flatten)) _)) (by omega) (by omega)) ?_
     rintro _ FI ⟨s56, rfl, hO, hB, hR⟩
     have JC : (lv ++ sb.flatten).take 32 = lv := List.take_left' hlv
     have hdk : (lv ++ sb.flatten).drop 32 = sb.flatten := List.drop_left' hlv
     rw [JC]
     rw [hdk] at hR
     replace H := H.jT 1 rfl hO hB hR
     refine WL.pv (PV.fieldAddr rfl oG rfl) rfl (WL.pv (PV.fieldAddr rfl GW rfl) rfl ?_)
     refine WL.aT H 0 rfl rfl rfl (new := kc lv) rfl (cI dK (by simp only [aR, aU, aB, aD]; omega)) (by exact bK _) (Laid.at (Laid.right (Laid.right (Laid.left (Laid.right (Laid.all (by simp only [aR, aU, aB, aD]; omega)) (by with_reducible rfl))) (by with_reducible rfl)) (by with_reducible rfl)) (by (simp [aN, bA, *]; done))) rfl ?_
     intro KT H
     replace H := H.conv (L' := [aO.blk b8 35 (fH kd dp lk lv B (.slice none 0 0)), aO.blk G6 277 [s56, .bool false], aO.blk b2 35 z2]) rfl
     refine WL.nil ?_
     exact ⟨s56, (by repeat (first | with_reducible exact bQ.refl _ _ | refine bQ.dB rfl ?_)), trivial, rfl, (show St X w _ [] [aO.blk b8 35 (fH kd dp lk lv B (.slice none 0 0)), aO.blk G6 277 [s56, .bool false], aO.blk b2 35 z2] [bI s56 sb.flatten, bI s (fA kd dp lk lv B sb)] from (by exact H.rM [0, 3]))⟩
    ·
     try simp only [bW] at mH
     have NA : kd = 0 := by omega
     have hKF : (if kd = 1 then lk ++ lv else []) ++ sb.flatten = sb.flatten := by rw [if_neg (by omega)]; rfl
     rw [hKF] at H
     obtain ⟨hlz, hvz⟩ := hp.lz NA
     have aDz : lk = List.replicate 32 0 := hlz
     have aDk : lv = List.replicate 32 0 := hvz
     replace H := H.conv (L' := [aO.blk b8 35 (fH kd dp lk lv B (.slice none 0 0)), aO.blk G6 277 [UK, .bool false], aO.blk b2 35 z2]) (by rw [aDz, aDk]; rfl)
     refine WE.skip ?_
     exact ⟨UK, (by repeat (first | with_reducible exact bQ.refl _ _ | refine bQ.dB rfl ?_)), trivial, rfl, (show St X w _ [] [aO.blk b8 35 (fH kd dp lk lv B (.slice none 0 0)), aO.blk G6 277 [UK, .bool false], aO.blk b2 35 z2] [bI UK sb.flatten, bI s (fA kd dp lk lv B sb)] from (by exact H.rM [0, 1]))⟩
   ·
    intro g_ γ NR hI
    try dsimp only at hI
    replace H := hI
    replace H := H.lG 30 32
    refine WE.seq (WE.block ?_)
    refine WE.loop (α := Nat × Value × Value) [59, 60, 61, 62, 63, 64, 65, 66, 67, 68, 69, 70, 71, 72, 73, 74, 75, 76, 77, 78, 79, 80, 81, 82, 83, 84] (fun p => []) (fun p wl => p.1 ≤ sb.length ∧ St X w wl [] [aO.iA w.heap.size p.2.1 30 32 (sb.take (p.1)).length ((sb.take (p.1)).flatMap kc), aO.blk b8 35 (fH kd dp lk lv B p.2.1), aO.blk G6 277 [p.2.2, .bool false], aO.blk b2 35 z2] [bI p.2.2 (sb.drop (p.1)).flatten, bI s (fA kd dp lk lv B sb)]) (fun p => sb.length - p.1) (0, .slice none 0 0, g_) trivial ⟨Nat.zero_le _, H⟩ ?_
    intro ⟨i, q, g⟩ γ0 TK hI
    try dsimp only at hI
    obtain ⟨hi, H⟩ := hI
    refine WE.seq (WE.aA (WL.mv rfl rfl (WL.pv (PV.nilCheck rfl rfl) rfl (WL.pv (PV.fieldAddr rfl pY rfl) rfl ?_))))
    refine WL.aZ rfl eL rfl rfl (by exact aK.aF (H.l 2 rfl) aJ.hd (by rfl)) ?_
    refine WL.pv (PV.dO (by exact (H.p 0 rfl : (bI g (sb.drop i).flatten) _)) eV rfl) rfl ?_
    refine WL.pv (PV.gtr rfl rfl rfl) rfl (WL.mv rfl rfl ?_)
    refine WL.split (t := 65) rfl (fun QB => ?_) (fun QB => ?_)
    ·
     refine WL.known (t := 64) (c := true) rfl QB ?_
     try simp only [bW] at QB
     have hlt : i < sb.length := by rcases Nat.lt_or_ge i sb.length with h_ | h_; exact h_; (have NB : (sb.drop i).flatten.length = 0 := by rw [List.drop_eq_nil_of_le h_]; rfl); omega
     have hsi := hp.sl _ (List.getElem_mem hlt)
     have QH : (sb.drop i).flatten.length = 32 * (sb.length - i) := by rw [BV _ (fun x hx => hp.sl x (List.mem_of_mem_drop hx)), List.length_drop]
     have htl : (sb.take i).length = i := by rw [List.length_take]; omega
     refine WL.mv rfl rfl (WL.pv (PV.nilCheck rfl rfl) rfl (WL.pv (PV.fieldAddr rfl JM rfl) rfl ?_))
     refine WL.aZ rfl uD rfl rfl (by exact aK.aF (H.l 2 rfl) (aJ.tl aJ.hd rfl) (by rfl)) ?_
     refine WL.pv (PV.not rfl rfl) rfl (WL.pv (PV.dH rfl rfl rfl) rfl (WL.mv rfl rfl ?_))
     refine WL.known (t := 72) (c := true) rfl (by rfl) ?_
     refine WL.pv (PV.fieldAddr rfl lJ rfl) rfl ?_
     refine WL.aZ rfl sL rfl rfl (by exact aK.aF (H.l 1 rfl) (aJ.r (aJ.r (aJ.r (aJ.r (aJ.all _) (by with_reducible rfl)) (by with_reducible rfl)) (by with_reducible rfl)) (by with_reducible rfl)) (by (simp [aN, bA, *]; done))) ?_
     refine WL.pv (PV.eq (v' := .int .i64 ((sb.take i).length : Int)) (PV.dO (cS.eH (H.l 0 rfl)) mS rfl) rfl) rfl (WL.pv (PV.leq rfl rfl rfl) rfl (WL.pv (PV.dH rfl rfl rfl) rfl (WL.nil ?_)))
     refine WE.cO rfl (by simp; omega) ?_
     refine WE.skip (WE.block ?_)
     refine WE.draw (.take 0 (.take 1 (.take 2 (.aG 3 (.aG 4 (.aG 5 (.take 6 (.aG 7 .done)))))))) mixed (by kernel_rfl) ?_
     replace H := H.out (Out.drew _)
     refine WP.aC rfl rfl (PV.fieldAddr rfl lJ rfl) ?_
     refine WP.aQ rfl rfl (RV.aY rfl sL rfl) (by exact aK.aF (H.l 1 rfl) (aJ.r (aJ.r (aJ.r (aJ.r (aJ.all _) (by with_reducible rfl)) (by with_reducible rfl)) (by with_reducible rfl)) (by with_reducible rfl)) (by (simp [aN, bA, *]; done))) ?_
     refine WP.mv rfl rfl rfl (WP.aG rfl ?_)
     refine WL.qQ EF rfl rfl (wL (br := G6) (l := (sb.drop i).flatten) H.aS (H.l 2 rfl) (by exact (H.eX 2 rfl 0 rfl : aH _ (bI g (sb.drop i).flatten) _)) (by omega) (by omega)) ?_
     rintro _ TJ ⟨s81, rfl, hO, hB, hR⟩
     have JC : (sb.drop i).flatten.take 32 = sb[i] := by rw [AB hlt]; exact List.take_left' hsi
     have hdk : (sb.drop i).flatten.drop 32 = (sb.drop (i + 1)).flatten := by rw [AB hlt]; exact List.drop_left' hsi
     rw [JC]
     rw [hdk] at hR
     replace H := H.jT 2 rfl hO hB hR
     refine WL.nil ⟨(fa (fun _ _ => (by exact aK.aF (H.l 1 rfl) (aJ.r (aJ.r (aJ.r (aJ.r (aJ.all _) (by with_reducible rfl)) (by with_reducible rfl)) (by with_reducible rfl)) (by with_reducible rfl)) (by (simp [aN, bA, *]; done)))) cV), ?_⟩
     refine WP.aG rfl ?_
     refine WL.bJ (l0 := (kc (List.replicate 32 0))) H rfl CX (by decide) (by rfl) (Fl.cons rfl (by rfl) (by simp only [aR, aU, aB, aD]; omega) (Laid.all (by simp only [aR, aU, aB, aD]; omega)) Fl.nil) rfl ?_
     intro b82 TI H
     refine WL.nil ⟨(fa (fun _ _ => (by exact aK.aF (H.l 2 rfl) (aJ.r (aJ.r (aJ.r (aJ.r (aJ.all _) (by with_reducible rfl)) (by with_reducible rfl)) (by with_reducible rfl)) (by with_reducible rfl)) (by (simp [aN, bA, *]; done)))) cV), ?_⟩
     refine WP.aG rfl ?_
     refine WL.append (m := 1) H 1 CX (by decide) rfl rfl rfl (cS.cA (n := 1) (H.l 0 rfl) (by rw [aN, hsi]; simp [aN])) (bK _) (by omega) (by decide) rfl ?_
     intro v83 YF H
     replace H := H.forget 0
     refine WL.nil ⟨(fa (nw 5 1 (by decide +kernel)) cV), ?_⟩
     refine WP.aC rfl rfl (PV.fieldAddr rfl lJ rfl) (WP.aG rfl ?_)
     refine WL.aT H 1 rfl rfl rfl (new := _) (cells_one (iN (H.l 0 rfl))) (by exact aAx) (dV (iN (H.l 0 rfl))) (Laid.at (Laid.right (Laid.right (Laid.right (Laid.right (Laid.all (by simp only [aR, aU, aB, aD])) (by with_reducible rfl)) (by with_reducible rfl)) (by with_reducible rfl)) (by with_reducible rfl)) (by (simp [aN, bA, *]; done))) rfl ?_
     intro w20 H
     replace H := H.conv (L' := [aO.iA w.heap.size v83 30 32 (sb.take (i + 1)).length ((sb.take (i + 1)).flatMap kc), aO.blk b8 35 (fH kd dp lk lv B v83), aO.blk G6 277 [s81, .bool false], aO.blk b2 35 z2]) (by rw [List.take_succ_eq_append_getElem hlt, List.length_append, List.flatMap_append, List.flatMap_singleton]; rfl)
     refine WL.nil ⟨(fa (nw 7 1 (by decide +kernel)) cV), ?_⟩
     refine WP.done ?_
     exact ⟨(i + 1, v83, s81), (by repeat (first | with_reducible exact bQ.refl _ _ | refine bQ.dB rfl ?_ | refine bQ.cE rfl ?_ | refine bQ.cB rfl ?_)), trivial, rfl, ⟨by dsimp only; omega, (show St X w _ [] [aO.iA w.heap.size v83 30 32 (sb.take (i + 1)).length ((sb.take (i + 1)).flatMap kc), aO.blk b8 35 (fH kd dp lk lv B v83), aO.blk G6 277 [s81, .bool false], aO.blk b2 35 z2] [bI s81 (sb.drop (i + 1)).flatten, bI s (fA kd dp lk lv B sb)] from (by exact H.rM [0, 2]))⟩, (by dsimp only; omega)⟩
    ·
     refine WL.known (t := 64) (c := false) rfl QB ?_
     try simp only [bW] at QB
     have uM : i = sb.length := by rcases Nat.lt_or_ge i sb.length with h_ | h_; (have NB : (sb.drop i).flatten.length = 32 * (sb.length - i) := by rw [BV _ (fun x hx => hp.sl x (List.mem_of_mem_drop hx)), List.length_drop]); omega; omega
     subst uM
     rw [List.take_length, List.drop_length] at H
     have hoq := iN (H.l 0 rfl)
     replace H := H.freeze (i := 0) rfl
     replace H := H.add (show aH _ (eN q sb) _ from (H.bN 0 rfl).imp fun _ h => cS.eH h)
     replace H := H.add (show aH _ (bI g []) _ from (H.bN 2 rfl).imp fun _ h => h)
     refine WL.off rfl (WL.off rfl (WL.off rfl (WL.off rfl (WL.off rfl (WL.pv (PV.c5 rfl rfl rfl) rfl (WL.mv rfl rfl (WL.off rfl ?_)))))))
     refine WL.off rfl (WL.off rfl (WL.off rfl (WL.pv (PV.c5 rfl rfl rfl) rfl (WL.nil (WE.iJ rfl (WE.exit (WE.seq ?_)))))))
     refine WE.aA (WL.mv rfl rfl (WL.pv (PV.nilCheck rfl rfl) rfl (WL.pv (PV.fieldAddr rfl JM rfl) rfl ?_)))
     refine WL.aZ rfl uD rfl rfl (by exact aK.aF (H.l 1 rfl) (aJ.tl aJ.hd rfl) (by rfl)) ?_
     refine WL.mv rfl rfl ?_
     refine WL.known (t := 89) (c := false) rfl (by rfl) ?_
     refine WL.mv rfl rfl (WL.pv (PV.nilCheck rfl rfl) rfl (WL.pv (PV.fieldAddr rfl pY rfl) rfl ?_))
     refine WL.aZ rfl eL rfl rfl (by exact aK.aF (H.l 1 rfl) aJ.hd (by rfl)) ?_
     refine WL.pv (PV.dO (by exact (H.p 0 rfl : (bI g []) _)) eV rfl) rfl ?_
     refine WL.pv (PV.gtr rfl rfl rfl) rfl (WL.pv (PV.c5 rfl rfl rfl) rfl (WL.mv rfl rfl ?_))
     refine WL.known (t := 97) (c := false) rfl (by rfl) ?_
     refine WL.bG rfl lZ rfl rfl (by exact aK.aF (H.l 0 rfl) (aJ.all _) (by rfl)) (cI jU (by simp only [aR, aU, aB, aD]; omega)) ?_
     refine WL.call WI rfl (sP (kd := kd) (dp := dp) (lk := lk) (lv := lv) (B := B) (sl := q) (sb := sb) H.aS (by exact (H.bN 1 rfl : aH _ (eN q sb) _)) hp) ?_
     rintro _ w21 ⟨rfl, hO⟩
     replace H := H.out hO
     refine WL.pv (PV.neq rfl rfl rfl) rfl (WL.pv (PV.c5 rfl rfl rfl) rfl (WL.nil ?_))
     refine WE.bB rfl rfl ?_
     refine WE.skip (WE.aA ?_)
     refine WL.bG rfl lZ rfl rfl (by exact aK.aF (H.l 0 rfl) (aJ.all _) (by rfl)) (cI jU (by simp only [aR, aU, aB, aD]; omega)) ?_
     refine WL.aT H 2 rfl rfl rfl (new := fH kd dp lk lv B q) rfl (cI jU (by simp only [aR, aU, aB, aD]; omega)) (pU hoq) (Laid.at (Laid.all (by simp only [aR, aU, aB, aD]; omega)) (by rfl)) rfl ?_
     intro w22 H
     refine WL.as rfl rfl (WL.nil (WE.ret ⟨[_, _], _, .nil _, ⟨⟨_, rfl, aV lZ (by exact aK.aF (H.l 2 rfl) (aJ.all _) rfl) (cI jU (by simp only [aR, aU, aB, aD]; omega))⟩, rfl, trivial⟩, ?_⟩))
     exact ⟨q, rfl, H.aM, H.gU (by exact (H.bN 1 rfl : aH _ (eN q sb) _))⟩
theorem E3 {n : Nat} (h : n < 4294967296) : IntKind.u64.wrap ((BitVec.ofInt IntKind.u64.bits (n : Int) &&& BitVec.ofInt IntKind.u64.bits 4294967295).toNat : Int) = (n : Int) := by
 have e : (BitVec.ofInt IntKind.u64.bits (n : Int) &&& BitVec.ofInt IntKind.u64.bits 4294967295).toNat = n := by
  show (BitVec.ofInt 64 (n : Int) &&& 4294967295#64).toNat = _
  rw [BitVec.ofInt_natCast, BitVec.toNat_and]
  simp only [BitVec.toNat_ofNat]
  rw [Nat.mod_eq_of_lt (show n < 2 ^ 64 by omega), Nat.mod_eq_of_lt (show 4294967295 < 2 ^ 64 by decide), show 4294967295 = 2 ^ 32 - 1 by decide, Nat.and_two_pow_sub_one_of_lt_two_pow h]
 rw [e, nQ]; congr 1; omega
def rep (n : Nat) (e : List UInt8) (c : Nat) : List (List UInt8) := List.replicate c e ++ List.replicate (n - c) (List.replicate 32 0)
theorem kO (c : Nat) {e : List UInt8} (he : e.length = 32) : ((List.replicate c e).flatMap kc).length = c * 32 := by
 rw [List.flatMap_replicate, List.length_flatten, List.map_replicate, List.sum_replicate_nat, aN, he]
theorem IW (n : Nat) {e : List UInt8} (he : e.length = 32) {c : Nat} (hc : c ≤ n) : ((rep n e c).flatMap kc).length = n * 32 := by
 unfold rep
 rw [List.flatMap_append, List.length_append, kO c he, kO (n - c) (by rw [List.length_replicate]), ← Nat.add_mul]
 congr 1; omega
theorem OL (n : Nat) (e : List UInt8) : (rep n e 0).flatMap kc = jA n (kc (List.replicate 32 0)) := by
 have e0 : kc (List.replicate 32 0) = List.replicate 32 (.int .u8 0) := by rfl
 unfold rep
 rw [List.replicate_zero, List.nil_append, Nat.sub_zero, List.flatMap_replicate, e0, List.flatten_replicate_replicate, vP _ _ _ (by decide)]
theorem OM (n : Nat) (e : List UInt8) : rep n e n = List.replicate n e := by unfold rep; rw [Nat.sub_self]; simp
theorem C7 {n c m : Nat} {e : List UInt8} (he : e.length = 32) (h : c + m ≤ n) : Laid ((rep n e c).flatMap kc) (c * 32) ((List.replicate m e).flatMap kc) ((rep n e (c + m)).flatMap kc) := by
 have e1 : rep n e c = List.replicate c e ++ (List.replicate m (List.replicate 32 0) ++ List.replicate (n - (c + m)) (List.replicate 32 0)) := by
  unfold rep
  rw [List.replicate_append_replicate, show m + (n - (c + m)) = n - c by omega]
 have e2 : rep n e (c + m) = List.replicate c e ++ (List.replicate m e ++ List.replicate (n - (c + m)) (List.replicate 32 0)) := by
  unfold rep
  rw [← List.append_assoc, List.replicate_append_replicate]
 rw [e1, e2, List.flatMap_append, List.flatMap_append, List.flatMap_append, List.flatMap_append]
 refine Laid.right (Laid.left (Laid.all ?_)) (by rw [kO c he]; rfl)
 rw [kO m he, kO m (by rw [List.length_replicate])]
theorem CT {e : List UInt8} (he : e.length = 32) (c q : Nat) : ((List.replicate c e).flatMap kc).take (q * 32) = (List.replicate (min q c) e).flatMap kc := by
 rcases Nat.lt_or_ge q c with h | h
 ·
  have e1 : List.replicate c e = List.replicate q e ++ List.replicate (c - q) e := by rw [List.replicate_append_replicate]; congr 1; omega
  rw [Nat.min_eq_left (by omega), e1, List.flatMap_append, List.take_left' (kO q he)]
 ·
  rw [Nat.min_eq_right h, List.take_of_length_le (by rw [kO c he]; omega)]
theorem KV {e : List UInt8} (he : e.length = 32) (n : Nat) : (kc e).take (min 1 n * 32) = (List.replicate (min 1 n) e).flatMap kc := by
 have h := CT he 1 (min 1 n)
 have e1 : (List.replicate 1 e).flatMap kc = kc e := by simp
 rw [e1, show min (min 1 n) 1 = min 1 n by omega] at h; exact h
theorem U0 (l : List (List UInt8)) : eC (l.flatMap kc) := fun v hv => by
 obtain ⟨x, _, hx⟩ := List.mem_flatMap.1 hv
 exact bK x v hx
theorem XT {X : Nat → Prop} {w : World} {n : Nat} (hX : cW X w) (hn : n < 4294967296) :
  bD Tryz.prog 222 [.int .u64 1, .int .u64 (n : Int)].toArray w fun v w' => v = .tuple [.int .u64 0, .int .u64 (n : Int)].toArray ∧ Out Nil w w' := by
 refine bD.aI (N := 51) Tryz.func222 rfl rfl (by simp) ?_
 have H := St.begin hX
 have hdz : n / 2 ^ 32 = 0 := Nat.div_eq_of_lt hn
 refine WE.aA (WL.as rfl rfl (WL.as rfl rfl (WL.nil (WE.aA (WL.mv rfl rfl ?_)))))
 refine WL.pv (PV.eq (v' := .int .u64 1) (PV.G9 rfl rfl rfl) (by rfl)) rfl ?_
 refine WL.as rfl rfl (WL.nil (WE.aA (WL.mv rfl rfl ?_)))
 refine WL.pv (PV.eq (v' := .int .u64 0) (PV.CZ (m := 1) (n := 32) rfl rfl rfl (by decide)) (by rfl)) rfl ?_
 refine WL.as rfl rfl (WL.nil (WE.aA (WL.mv rfl rfl (WL.pv (PV.eq (v' := .int .u64 (n : Int)) (PV.G9 rfl rfl rfl) (congrArg (Value.int .u64) (E3 hn))) rfl (WL.as rfl rfl (WL.nil (WE.aA ?_)))))))
 refine WL.mv rfl rfl ?_
 refine WL.pv (PV.eq (v' := .int .u64 0) (PV.CZ (m := n) (n := 32) rfl rfl rfl (by decide)) (by rw [hdz]; rfl)) rfl ?_
 refine WL.as rfl rfl (WL.nil (WE.aA (WL.mv rfl rfl (WL.mv rfl rfl (WL.pv (PV.LB (m := 1) (n := n) (q := n) rfl rfl rfl (by omega) (by omega)) rfl (WL.as rfl rfl (WL.nil ?_)))))))
 refine WE.aA (WL.mv rfl rfl (WL.mv rfl rfl (WL.pv (PV.LB (m := 0) (n := n) (q := 0) rfl rfl rfl (by omega) (by omega)) rfl (WL.mv rfl rfl ?_))))
 refine WL.pv (PV.eq (v' := .int .u64 0) (PV.CZ (m := n) (n := 32) rfl rfl rfl (by decide)) (by rw [hdz]; rfl)) rfl ?_
 refine WL.pv (PV.eq (v' := .int .u64 0) (PV.HI rfl rfl rfl) (by rfl)) rfl ?_
 refine WL.as rfl rfl (WL.nil (WE.aA (WL.mv rfl rfl ?_)))
 refine WL.pv (PV.eq (v' := .int .u64 0) (PV.G9 rfl rfl rfl) (by rfl)) rfl ?_
 refine WL.as rfl rfl (WL.nil (WE.aA (WL.mv rfl rfl ?_)))
 refine WL.pv (PV.eq (v' := .int .u64 0) (PV.CZ (m := 0) (n := 32) rfl rfl rfl (by decide)) (by rfl)) rfl ?_
 refine WL.as rfl rfl (WL.nil (WE.aA (WL.mv rfl rfl (WL.mv rfl rfl (WL.mv rfl rfl (WL.pv (PV.LB (m := 1) (n := 0) (q := 0) rfl rfl rfl (by omega) (by omega)) rfl ?_))))))
 refine WL.pv (PV.eq (v' := .int .u64 0) (PV.HI rfl rfl rfl) (by rfl)) rfl ?_
 refine WL.as rfl rfl (WL.nil (WE.aA (WL.mv rfl rfl (WL.mv rfl rfl (WL.pv (PV.LB (m := 0) (n := 0) (q := 0) rfl rfl rfl (by omega) (by omega)) rfl (WL.mv rfl rfl ?_))))))
 refine WL.pv (PV.eq (v' := .int .u64 0) (PV.HI rfl rfl rfl) (by rfl)) rfl ?_
 refine WL.mv rfl rfl ?_
 refine WL.pv (PV.eq (v' := .int .u64 0) (PV.CZ (m := 0) (n := 32) rfl rfl rfl (by decide)) (by rfl)) rfl ?_
 refine WL.pv (PV.eq (v' := .int .u64 0) (PV.HI rfl rfl rfl) (by rfl)) rfl ?_
 refine WL.as rfl rfl (WL.nil (WE.aA (WL.mv rfl rfl (WL.mv rfl rfl (WL.pv (PV.LB (m := 1) (n := n) (q := n) rfl rfl rfl (by omega) (by omega)) rfl (WL.as rfl rfl (WL.nil ?_)))))))
 refine WE.ret ⟨[_, _], _, .nil _, ⟨rfl, rfl, trivial⟩, ?_⟩
 exact ⟨rfl, H.aM⟩
theorem aGp {X : Nat → Prop} {w : World} {n : Nat} (hX : cW X w) (hn : n < 4294967296) :
  bD Tryz.prog 218 [.int .u64 1, .int .u64 (n : Int)].toArray w fun v w' => v = .tuple [.int .u64 0, .int .u64 (n : Int)].toArray ∧ Out Nil w w' := by
 refine bD.aI (N := 30) Tryz.func218 rfl rfl (by simp) ?_
 have H := St.begin hX
 refine WE.aA (WL.as rfl rfl (WL.as rfl rfl (WL.nil (WE.seq (WE.iJ rfl (WE.skip (WE.aA ?_)))))))
 refine WL.mv rfl rfl (WL.mv rfl rfl ?_)
 refine WL.call aEJ rfl (XT (n := n) H.aS  (by assumption)) ?_
 rintro _ w1 ⟨rfl, hO⟩
 replace H := H.out hO
 refine WL.mv rfl rfl (WL.pv (PV.extract rfl rfl rfl) rfl (WL.pv (PV.extract rfl rfl rfl) rfl (WL.as rfl rfl (WL.as rfl rfl (WL.nil (WE.aA (WL.mv rfl rfl ?_)))))))
 refine WL.mv rfl rfl (WL.as rfl rfl (WL.as rfl rfl (WL.nil (WE.ret ⟨[_, _], _, .nil _, ⟨rfl, rfl, trivial⟩, ?_⟩))))
 exact ⟨rfl, H.aM⟩
theorem SS {X : Nat → Prop} {w : World} {s : Value} {e : List UInt8} {n : Nat} (hX : cW X w) (bU : aH X (eN s [e]) w) (he : e.length = 32) (hn : n ≤ 256) :
  bD Tryz.prog 211 [s, .int .i64 (n : Int)].toArray w fun v w' => ∃ b, v = .slice (some ⟨b, 0, none⟩) n n ∧ Out Nil w w' ∧ w.heap.size ≤ b ∧ aK w' b 30 ((List.replicate n e).flatMap kc) := by
 refine bD.aI (N := 48) Tryz.func211 rfl rfl (by simp) ?_
 have H := St.begin hX
 replace H := H.add (cF bU)
 refine WE.aA (WL.as rfl rfl (WL.nil (WE.seq (WE.aA (WL.mv rfl rfl (WL.pv (PV.lss rfl rfl rfl) rfl (WL.nil ?_)))))))
 refine WE.bB rfl (by simp) ?_
 refine WE.skip (WE.aA (WL.mv rfl rfl ?_))
 refine WL.pv (PV.dO (by exact (H.p 0 rfl : (eN s [e]) _)) mS rfl) rfl ?_
 refine WL.pv (PV.RN (n := 1) rfl yD DR rfl rfl (by omega)) rfl (WL.mv rfl rfl (WL.pv (PV.RN (n := n) rfl yD DR rfl rfl (by omega)) rfl ?_))
 refine WL.call aEL rfl (aGp (n := n) H.aS  (by omega)) ?_
 rintro _ w1 ⟨rfl, hO⟩
 replace H := H.out hO
 refine WL.mv rfl rfl (WL.pv (PV.extract rfl rfl rfl) rfl (WL.pv (PV.extract rfl rfl rfl) rfl (WL.as rfl rfl (WL.as rfl rfl (WL.nil (WE.seq (WE.aA ?_)))))))
 refine WL.mv rfl rfl (WL.pv (PV.gtr rfl rfl rfl) rfl (WL.mv rfl rfl ?_))
 refine WL.known (t := 23) (c := false) rfl (by rfl) ?_
 refine WL.mv rfl rfl (WL.pv (PV.gtr rfl rfl rfl) rfl (WL.pv (PV.c5 rfl rfl rfl) rfl (WL.nil ?_)))
 refine WE.bB rfl (by simp; omega) ?_
 refine WE.skip (WE.aA (WL.mv rfl rfl (WL.pv (PV.mL rfl DR yD rfl (by omega) (by omega)) rfl ?_)))
 refine WL.makeSlice (n := n) H rfl CX rfl (by omega) (by omega) rfl ?_
 intro b30 w3 H
 replace H := H.conv (L' := [aO.blk b30 30 ((rep n e (0)).flatMap kc)]) (by rw [OL])
 have LU : 0 ≤ n := Nat.zero_le _
 refine WL.as rfl rfl (WL.nil (WE.aA (WL.mv rfl rfl (WL.mv rfl rfl ?_))))
 refine WL.JV (sz := 32) (m := 1) (cs := kc e) (l' := (rep n e (0 + min 1 n)).flatMap kc) H 0 mS dK rfl rfl rfl (show cS _ s 32 1 (kc e) from by have h_ := (by exact (H.p 0 rfl : (eN s [e]) _)); unfold eN at h_; simpa using h_) (pF (bK _) _) (by have h_ := C7 (n := n) (c := 0) (m := min 1 n) he (by omega); rw [KV he]; rwa [Nat.zero_mul] at h_) rfl ?_
 intro w7 H
 refine WL.as rfl rfl (WL.nil (WE.seq (WE.block ?_)))
 refine WE.loop (α := Nat) [8, 34, 35, 36, 37, 38, 39, 40, 41, 42, 43, 44, 45, 46] (fun c => [(8, .int .i64 (c : Int))]) (fun c wl => (c ≤ n ∧ (c = 0 → n = 0)) ∧ St X w wl [] [aO.blk b30 30 ((rep n e (c)).flatMap kc)] [eN s [e]]) (fun c => n - c) (min 1 n) ⟨rfl, trivial⟩ ⟨⟨by omega, by omega⟩, H.conv (by simp)⟩ ?_
 intro c γ0 w8 hI
 try dsimp only at hI
 obtain ⟨⟨LU, hz⟩, H⟩ := hI
 refine WE.seq (WE.aA (WL.mv rfl rfl (WL.mv rfl rfl (WL.pv (PV.zO mS rfl) rfl (WL.pv (PV.lss rfl rfl rfl) rfl (WL.nil ?_))))))
 refine WE.cond rfl (fun GN => ?_) (fun GN => ?_)
 ·
  try simp only [bW] at GN
  have pX : c < n := by omega
  have hc0 : 0 < c := by rcases Nat.eq_zero_or_pos c with h_ | h_; (have := hz h_; omega); exact h_
  have hlz : c + min c (n - c) ≤ n := by omega
  refine WE.skip (WE.block ?_)
  refine WE.draw (.take 0 (.take 1 (.take 2 (.take 3 (.take 4 (.take 5 (.take 6 (.aG 7 (.take 8 (.take 9 .done)))))))))) mixed (by kernel_rfl) ?_
  replace H := H.out (Out.drew _)
  refine WP.mv rfl rfl rfl (WP.mv rfl rfl rfl (WP.mv rfl rfl rfl ?_))
  refine WP.aC rfl rfl (PV.eq (v' := .slice (some ⟨b30, c * 32, none⟩) (n - c) (n - c)) (PV.qC rfl (cS.cA (n := n) (H.l 0 rfl) (IW n he LU)) mS dK rfl rfl (by omega) (by omega)) (by simp only [iS, Int.toNat_natCast]; rw [if_neg (by omega)]; simp [Addr.add]; omega)) ?_
  refine WP.mv rfl rfl rfl (WP.mv rfl rfl rfl ?_)
  refine WP.aC rfl rfl (PV.eq (v' := .slice (some ⟨b30, 0, none⟩) c n) (PV.UB rfl (cS.cA (n := n) (H.l 0 rfl) (IW n he LU)) mS dK rfl rfl (by omega) (by omega)) (by simp only [iS, Int.toNat_natCast]; rw [if_neg (by omega)]; simp [Addr.add])) ?_
  refine WP.aG rfl ?_
  refine WL.JV (sz := 32) (m := c) (cs := (List.replicate c e).flatMap kc) (l' := (rep n e (c + min c (n - c))).flatMap kc) H 0 mS dK rfl rfl rfl (cS.mX (by have h_ := cX.sub (aK.rd (H.l 0 rfl)) (o := 0) (l := (List.replicate c e).flatMap kc) (by unfold rep; rw [List.flatMap_append]; exact aJ.l (aJ.all _)); exact h_) (kO c he) (by omega)) (pF (U0 _) _) (by rw [CT he, Nat.min_eq_left (show min c (n - c) ≤ c by omega)]; exact C7 he hlz) rfl ?_
  intro vT H
  refine WL.nil ⟨cV, ?_⟩
  refine WP.aC rfl rfl (PV.eq (v' := .int .i64 ((c + min c (n - c) : Nat) : Int)) (PV.bZ rfl rfl rfl (by omega) (by omega)) (by congr 1)) ?_
  refine WP.as rfl rfl rfl (WP.done ?_)
  exact ⟨(c + min c (n - c)), (by repeat (first | with_reducible exact bQ.refl _ _ | refine bQ.dB rfl ?_ | refine bQ.cE rfl ?_ | refine bQ.cB rfl ?_)), ⟨rfl, trivial⟩, rfl, ⟨⟨by omega, by omega⟩, H⟩, (by omega)⟩
 ·
  try simp only [bW] at GN
  have hce : c = n := by omega
  refine WE.exit (WE.aA (WL.mv rfl rfl (WL.as rfl rfl (WL.nil (WE.ret ⟨[_], _, .nil _, ⟨rfl, trivial⟩, ?_⟩)))))
  subst hce
  rw [OM] at H
  exact ⟨b30, rfl, H.aM, H.jR _ (List.mem_of_getElem? (i := 0) rfl) _ rfl, H.l 0 rfl⟩
theorem iG.lt {kd dp : Nat} {lk lv B : List UInt8} {sb : List (List UInt8)} (h : iG kd dp lk lv B sb) : ∀ d ∈ bitsOf B 256, d < dp := by
 intro d hd
 have hl := h.last
 have hp := u3 B 256
 by_cases h0 : dp = 0
 ·
  rw [if_pos h0] at hl
  rw [List.getLast?_eq_none_iff.1 hl] at hd
  cases hd
 ·
  rw [if_neg h0] at hl
  obtain ⟨ys, hy⟩ := List.getLast?_eq_some_iff.1 hl
  rw [hy] at hd hp
  rcases List.mem_append.1 hd with hd | hd
  ·
   have := (List.pairwise_append.1 hp).2.2 d hd (dp - 1) (by simp)
   omega
  ·
   have := List.mem_singleton.1 hd
   omega
theorem xE : ∀ (ds : List Nat) (sb out : List (List UInt8)) (d : Nat) (s : List UInt8), ds.length = sb.length → mC out (ds ++ [d]) (sb ++ [s]) = (mC out ds sb).set d s
 | [], [], out, d, s, _ => rfl
 | [], _ :: _, _, _, _, h => by cases h
 | _ :: _, [], _, _, _, h => by cases h
 | x :: ds, y :: sb, out, d, s, h => by
  show mC (out.set x y) (ds ++ [d]) (sb ++ [s]) = (mC (out.set x y) ds sb).set d s
  exact xE ds sb _ d s (by simpa using h)
theorem tP : ∀ (ds : List Nat) (sb out : List (List UInt8)) (x : List UInt8), x ∈ mC out ds sb → x ∈ out ∨ x ∈ sb
 | [], sb, out, x, h => .inl (by cases sb <;> exact h)
 | d :: ds, [], out, x, h => .inl h
 | d :: ds, s :: sb, out, x, h => by
  rcases tP ds sb (out.set d s) x h with h | h
  ·
   rcases List.mem_or_eq_of_mem_set h with h | h
   ·
    exact .inl h
   ·
    exact .inr (by rw [h]; simp)
  ·
   exact .inr (List.mem_cons_of_mem _ h)
def fN (bits : Int) (dp : Nat) (B : List UInt8) (sb : List (List UInt8)) : List (List UInt8) := mC (List.replicate dp (lK bits)) (bitsOf B 256) sb
theorem sK (bits : Int) (dp : Nat) (B : List UInt8) (sb : List (List UInt8)) : (fN bits dp B sb).length = dp := by unfold fN; rw [tQ, List.length_replicate]
theorem xI {bits : Int} {dp : Nat} {B : List UInt8} {sb : List (List UInt8)} (h : ∀ s ∈ sb, s.length = 32) : ∀ s ∈ fN bits dp B sb, s.length = 32 := fun s hs => by
 rcases tP _ _ _ _ hs with hs | hs
 ·
  rw [(List.mem_replicate.1 hs).2]; exact cY _ _
 ·
  exact h s hs
def xH (bits : Int) (dp : Nat) (B : List UInt8) (sb : List (List UInt8)) (i : Nat) : List (List UInt8) := mC (List.replicate dp (lK bits)) ((bitsOf B 256).take i) (sb.take i)
theorem EH (bits : Int) (dp : Nat) (B : List UInt8) (sb : List (List UInt8)) (i : Nat) : (xH bits dp B sb i).length = dp := by unfold xH; rw [tQ, List.length_replicate]
theorem RF {bits : Int} {dp : Nat} {B : List UInt8} {sb : List (List UInt8)} (h : ∀ s ∈ sb, s.length = 32) (i : Nat) : ∀ s ∈ xH bits dp B sb i, (kc s).length = 32 := fun s hs => by
 rw [aN]
 rcases tP _ _ _ _ hs with hs | hs
 ·
  rw [(List.mem_replicate.1 hs).2]; exact cY _ _
 ·
  exact h s (List.mem_of_mem_take hs)
theorem L6 {bits : Int} {dp : Nat} {B : List UInt8} {sb : List (List UInt8)} {i : Nat} (h1 : i < (bitsOf B 256).length) (h2 : i < sb.length) : (xH bits dp B sb i).set (bitsOf B 256)[i] sb[i] = xH bits dp B sb (i + 1) := by
 unfold xH
 rw [List.take_succ_eq_append_getElem h1, List.take_succ_eq_append_getElem h2, xE _ _ _ _ _ (by rw [List.length_take, List.length_take]; omega)]
theorem RG {bits : Int} {dp : Nat} {B : List UInt8} {sb : List (List UInt8)} (h : sb.length = (bitsOf B 256).length) : xH bits dp B sb (bitsOf B 256).length = fN bits dp B sb := by
 unfold xH fN
 rw [List.take_length, ← h, List.take_length]
theorem aAR {v : Value} {l : List Nat} {w : World} (h : jV v (l.map wP) w) (i : Nat) (hi : i < l.length) : cX w (jD v (i * 1)) [.int .i64 (l[i] : Int)] := by
 have h2 := jV.rd h i (by rw [List.length_map]; exact hi)
 rw [List.getElem_map] at h2
 exact h2
def dY (kd : Nat) (lk lv : List UInt8) : List UInt8 := if kd = 1 then 0 :: (lk ++ lv) else [3]
theorem TA {X : Nat → Prop} {w : World} {bh bc : Nat} {bits n0 : Int} {kd dp : Nat} {lk lv B : List UInt8} {sl : Value} {sb : List (List UInt8)} (hX : cW X w) (eR : aK w bc 213 ([.int .i64 n0])) (bU : aH (fun c_ => X c_ ∨ c_ = bc) (fJ bh bc bits) w) (dA : aH (fun c_ => X c_ ∨ c_ = bc) (eN sl sb) w) (fO : aH (fun c_ => X c_ ∨ c_ = bc) (aW) w) (bS : 0 ≤ bits ∧ bits ≤ 256) (hp : iG kd dp lk lv B sb) :
  bD Tryz.prog 207 [.pointer (some ⟨bh, 0, none⟩), .agg (fH kd dp lk lv B sl).toArray].toArray w fun v w' => ∃ (m : Int) (s : Value), v = .tuple [s, .int .i64 0].toArray ∧ Out (· = bc) w w' ∧ aK w' bc 213 [.int .i64 m] ∧ aH (fun c => X c ∨ c = bc) (eN s (fN bits dp B sb)) w' := by
 refine bD.aI (N := 40) Tryz.func207 rfl rfl (by simp) ?_
 have H := St.c6 (b := bc) (t := 213) (l := [.int .i64 n0]) hX eR
 replace H := H.add (bY fO)
 replace H := H.add (bY dA)
 replace H := H.add (bY bU)
 have vE := hp.kd
 have yR := hp.L8
 have lW := hp.tJ
 have hlv := hp.lvl
 have o5 := hp.bl
 have oW := hp.NC
 have LU := hp.fU
 have vC : (fH kd dp lk lv B sl).length = 99 := gA hp.tJ hp.lvl hp.bl
 have hs1 : sl.oneCell' = true := cS.fG (dA.here)
 refine WE.aA ?_
 refine WL.box (l := fH kd dp lk lv B sl) H rfl (by rfl) rfl ?_
 intro b3 w1 H
 refine WL.as rfl rfl (WL.as rfl rfl (WL.nil (WE.seq (WE.aA ?_))))
 refine WL.bG rfl lZ rfl rfl (by exact aK.aF (H.l 0 rfl) (aJ.all _) (by rfl)) (cI jU (by simp only [aR, aU, aB, aD]; omega)) ?_
 refine WL.call WI rfl (sP (kd := kd) (dp := dp) (lk := lk) (lv := lv) (B := B) (sl := sl) (sb := sb) H.aS (by exact (H.bN 1 rfl : aH _ (eN sl sb) _)) hp) ?_
 rintro _ w2 ⟨rfl, hO⟩
 replace H := H.out hO
 refine WL.as rfl rfl (WL.nil (WE.aA (WL.mv rfl rfl (WL.pv (PV.neq rfl rfl rfl) rfl (WL.nil ?_)))))
 refine WE.bB rfl rfl ?_
 refine WE.skip ?_
 refine WE.bF (.take 0 (.take 3 (.take 4 (.aG 1 (.aG 2 (.aG 5 (.take 6 .done))))))) mixed (by kernel_rfl) ?_
 replace H := H.out (Out.drew _)
 refine WP.mv rfl rfl rfl (WP.aC rfl rfl (PV.fieldAddr rfl rC rfl) ?_)
 refine WP.aQ rfl rfl (RV.aY rfl oZ rfl) (by exact aK.aF (H.l 0 rfl) (aJ.r (aJ.l (aJ.all _)) (by with_reducible rfl)) (by rfl)) ?_
 refine WP.aG rfl ?_
 refine WL.call Q7 rfl (uU (bits := bits) H.aS (H.o 0 rfl) (by exact (H.aL 0 rfl 0 rfl : aH _ (fJ bh bc bits) _)) (by exact (H.aL 0 rfl 2 rfl : aH _ (aW) _)) bS) ?_
 rintro _ w3 ⟨aDe, rfl, hO, hB⟩
 replace H := H.eS 0 rfl hO hB
 refine WL.nil ⟨(fa (fun _ _ => (by exact aK.aF (H.l 0 rfl) (aJ.r (aJ.l (aJ.all _)) (by with_reducible rfl)) (by rfl))) cV), ?_⟩
 refine WP.aG rfl ?_
 refine WL.bJ (l0 := (kc (List.replicate 32 0))) H rfl CX (by decide) (by rfl) (Fl.cons rfl (by rfl) (by rfl) (Laid.all (by rfl)) Fl.nil) rfl ?_
 intro b17 w4 H
 replace H := H.freeze (i := 0) rfl
 replace H := H.add (show aH _ (eN (.slice (some ⟨b17, 0, none⟩) 1 1) [lK bits]) _ from (H.bN 0 rfl).imp fun _ h => (cS.cA (n := 1) h (by rw [aN]; exact cY _ _) : cS _ (.slice (some ⟨b17, 0, none⟩) 1 1) 32 1 _))
 refine WL.nil ⟨(fa (fun _ _ => (by exact aK.aF (H.l 0 rfl) (aJ.r (aJ.l (aJ.all _)) (by with_reducible rfl)) (by rfl))) cV), ?_⟩
 refine WP.aG rfl ?_
 refine WL.call aEQ rfl (SS (s := (.slice (some ⟨b17, 0, none⟩) 1 1)) (e := lK bits) (n := dp) H.aS (by exact (H.bN 0 rfl : aH _ (eN (.slice (some ⟨b17, 0, none⟩) 1 1) [lK bits]) _)) (cY _ _) hp.L8) ?_
 rintro _ w5 ⟨W7, rfl, hO, hge, hB⟩
 replace H := H.push hO (aO.blk W7 30 _) hB (fun c hc => by cases hc; exact hge)
 refine WL.nil ⟨(fa (nw 5 4 (by decide +kernel)) cV), ?_⟩
 refine WP.as rfl rfl rfl (WP.done (WE.seq (WE.aA (WL.pv (PV.fieldAddr rfl pM rfl) rfl ?_))))
 refine WL.bG rfl B8 rfl rfl (by exact aK.aF (H.l 1 rfl) (aJ.r (aJ.r (aJ.r (aJ.l (aJ.all _)) (by with_reducible rfl)) (by with_reducible rfl)) (by with_reducible rfl)) (by (simp [aN, bA, *]; done))) (cI uW (by simp only [aR, aU, aB, aD]; omega)) ?_
 refine WL.call aEP rfl (X5 (B := B) H.aS hp.bl) ?_
 rintro v23 w6 ⟨hO, hR⟩
 replace H := (H.out hO).add hR
 refine WL.pv (PV.dO (by exact (H.p 0 rfl : (jV v23 ((bitsOf B 256).map wP)) _)) CY rfl) rfl ?_
 refine WL.mv rfl rfl (WL.nil (WE.block ?_))
 refine WE.loop (α := Nat) [8, 9, 25, 26, 27, 28, 29, 30, 31, 32, 33, 34, 35, 36, 37, 38] (fun i => [(25, .int .i64 (i : Int))]) (fun i wl => i ≤ (bitsOf B 256).length ∧ St X w wl [aO.blk bc 213 [.int .i64 aDe]] [aO.blk W7 30 ((xH bits dp B sb (i)).flatMap kc), aO.blk b3 35 (fH kd dp lk lv B sl)] [jV v23 ((bitsOf B 256).map wP), eN sl sb]) (fun i => (bitsOf B 256).length - i) 0 ⟨rfl, trivial⟩ ⟨Nat.zero_le _, (show St X w _ [aO.blk bc 213 [.int .i64 aDe]] [aO.blk W7 30 ((xH bits dp B sb (0)).flatMap kc), aO.blk b3 35 (fH kd dp lk lv B sl)] [jV v23 ((bitsOf B 256).map wP), eN sl sb] from by exact H.rM [0, 4])⟩ ?_
 intro i γ0 w7 hI
 try dsimp only at hI
 obtain ⟨hi, H⟩ := hI
 refine WE.aA (WL.pv (PV.lss rfl rfl rfl) rfl (WL.nil (WE.seq ?_)))
 refine WE.cond rfl (fun QR => ?_) (fun QR => ?_)
 ·
  try simp only [bW] at QR
  have hlt : i < (bitsOf B 256).length := by (rw [List.length_map] at QR; omega)
  have BL : i < sb.length := by omega
  have hsi := hp.sl _ (List.getElem_mem BL)
  have QH := hp.lt _ (List.getElem_mem hlt)
  have hel := EH bits dp B sb i
  refine WE.skip (WE.seq (WE.block (WE.aA (WL.mv rfl rfl ?_))))
  refine WL.pv (PV.eQ rfl (by exact (H.p 0 rfl : (jV v23 ((bitsOf B 256).map wP)) _)) CY sz3 rfl rfl (by omega) (by rw [List.length_map]; omega)) rfl ?_
  refine WL.aZ rfl oZ rfl rfl ((aAR (by exact (H.p 0 rfl : (jV v23 ((bitsOf B 256).map wP)) _)) i hlt)) ?_
  refine WL.as rfl rfl (WL.as rfl rfl (WL.nil (WE.eM (WL.mv rfl rfl (WL.mv rfl rfl (WL.pv (PV.fieldAddr rfl lJ rfl) rfl ?_))))))
  refine WL.aZ rfl sL rfl rfl (by exact aK.aF (H.l 1 rfl) (aJ.r (aJ.r (aJ.r (aJ.r (aJ.all _) (by with_reducible rfl)) (by with_reducible rfl)) (by with_reducible rfl)) (by with_reducible rfl)) (by (simp [aN, bA, *]; done))) ?_
  refine WL.mv rfl rfl ?_
  refine WL.pv (PV.eQ rfl (by exact (H.p 1 rfl : (eN sl sb) _)) mS dK rfl rfl (by omega) (by omega)) rfl ?_
  refine WL.bG rfl iD rfl rfl ((eN.rd (by exact (H.p 1 rfl : (eN sl sb) _)) hp.sl i BL)) (cI dK (by simp only [aR, aU, aB, aD]; omega)) ?_
  refine WL.pv (PV.eq (v' := .pointer (some ⟨W7, (bitsOf B 256)[i] * 32, none⟩)) (PV.vB rfl mS dK rfl rfl (by omega) (by omega)) (by simp)) rfl ?_
  refine WL.aT H 0 rfl rfl rfl (new := kc sb[i]) rfl (cI dK (by simp only [aR, aU, aB, aD]; omega)) (by exact bK _) (by have h_ := pL (C := kc) (xH bits dp B sb i) (RF hp.sl i) [] (i := (bitsOf B 256)[i]) (x := sb[i]) (by rw [EH]; exact QH) (by rw [aN]; exact hsi) rfl; rw [List.append_nil, List.append_nil] at h_; exact h_) rfl ?_
  intro w8 H
  refine WL.nil (WE.eM ?_)
  refine WL.pv (PV.eq (v' := .int .i64 ((i + 1 : Nat) : Int)) (PV.bZ rfl rfl rfl (by omega) (by omega)) (by rfl)) rfl ?_
  refine WL.mv rfl rfl (WL.nil ?_)
  exact ⟨i + 1, (by repeat (first | with_reducible exact bQ.refl _ _ | refine bQ.dB rfl ?_ | refine bQ.cE rfl ?_ | refine bQ.cB rfl ?_)), ⟨rfl, trivial⟩, rfl, ⟨by omega, H.conv (by rw [← L6 hlt BL]; rfl)⟩, (by omega)⟩
 ·
  try simp only [bW] at QR
  have uM : i = (bitsOf B 256).length := by (rw [List.length_map] at QR; omega)
  refine WE.exit (WE.aA (WL.mv rfl rfl (WL.as rfl rfl (WL.as rfl rfl (WL.nil (WE.ret ⟨[_, _], _, .nil _, ⟨rfl, rfl, trivial⟩, ?_⟩))))))
  subst uM
  rw [RG hp.fU] at H
  replace H := H.freeze (i := 0) rfl
  refine ⟨_, _, rfl, H.cM, H.o 0 rfl, (H.fM (H.bN 0 rfl)).imp fun _ h => ?_⟩
  have h_ := cS.cA (n := dp) h (by rw [cZ _ (fun k hk => by rw [aN]; exact xI hp.sl k hk), sK])
  unfold eN; rw [sK]; exact h_
theorem LZ {X : Nat → Prop} {w : World} {kd dp : Nat} {lk lv B : List UInt8} {sl : Value} (hX : cW X w) (lW : lk.length = 32) (hlv : lv.length = 32) (o5 : B.length = 32) (hs1 : sl.oneCell' = true) :
  bD Tryz.prog 214 [.agg (fH kd dp lk lv B sl).toArray].toArray w fun v w' => Out Nil w w' ∧ aH X (bI v (dY kd lk lv)) w' := by
 refine bD.aI (N := 10) Tryz.func214 rfl rfl (by simp) ?_
 have H := St.begin hX
 have vC : (fH kd dp lk lv B sl).length = 99 := gA lW hlv o5
 refine WE.aA ?_
 refine WL.box (l := fH kd dp lk lv B sl) H rfl (by rfl) rfl ?_
 intro b1 w1 H
 refine WL.as rfl rfl (WL.nil (WE.seq (WE.aA (WL.pv (PV.fieldAddr rfl mI rfl) rfl ?_))))
 refine WL.aZ rfl oZ rfl rfl (by exact aK.aF (H.l 0 rfl) (aJ.l (aJ.all _)) (by rfl)) ?_
 refine WL.pv (PV.eql rfl rfl rfl) rfl (WL.nil ?_)
 refine WE.cond rfl (fun tN => ?_) (fun tN => ?_)
 ·
  try simp only [bW] at tN
  have vF : kd = 1 := by omega
  have he : dY kd lk lv = 0 :: (lk ++ lv) := if_pos vF
  refine WE.aA (WL.pv (PV.fieldAddr rfl oG rfl) rfl ?_)
  refine WL.bG rfl HH rfl rfl (by exact aK.aF (H.l 0 rfl) (aJ.r (aJ.r (aJ.l (aJ.all _)) (by with_reducible rfl)) (by with_reducible rfl)) (by rfl)) (cI AX (by simp only [aR, aU, aB, aD]; omega)) ?_
  refine WL.call ZP rfl (SY (k := lk) (l := lv) H.aS lW hlv) ?_
  rintro v8 w2 ⟨hO, hR⟩
  replace H := (H.out hO).add hR
  refine WL.as rfl rfl (WL.nil (WE.ret ⟨[_], _, .nil _, ⟨rfl, trivial⟩, ?_⟩))
  exact ⟨H.aM, by rw [he]; exact H.gU (H.bN 0 rfl)⟩
 ·
  try simp only [bW] at tN
  have NA : ¬ kd = 1 := by omega
  have he : dY kd lk lv = [3] := if_neg NA
  refine WE.skip (WE.aA ?_)
  refine WL.call aEz rfl (KG H.aS) ?_
  rintro v9 w3 ⟨hO, hR⟩
  replace H := (H.out hO).add hR
  refine WL.as rfl rfl (WL.nil (WE.ret ⟨[_], _, .nil _, ⟨rfl, trivial⟩, ?_⟩))
  exact ⟨H.aM, by rw [he]; exact H.gU (H.bN 0 rfl)⟩
def aAE (C : Nat → Prop) (w : World) (l : Nat) (W : World) (S : World → Prop) : EPost
 | .normal, _, _, W' => aAk C w l W W' ∧ S W'
 | _, _, _, _ => False
theorem WE.aAI {P : Program} {N : Nat} {σ : Env} {ds : List Deferred} {w : World} {g : Operand} {ps : List Tmp} {assign body : Code} {Q : EPost}
  {gf : FuncId} {gfn : Func} {fs cs : List Value} {n : Nat} {V : Nat → List Value → World → Prop} {C : Nat → Prop} (S : Nat → World → Prop)
  (hg : ev σ g = .func (.func gf) fs.toArray cs.toArray) (hb : Body P gf gfn) (hC : ∀ b, C b → b < w.heap.size)
  (PU : ∀ W0, Out Nil w W0 → aGj P gf fs cs n V (fun b => C b ∨ (w.heap.size ≤ b ∧ b < W0.heap.size)) W0) (hV : ∀ i xs W, V i xs W → xs.length = ps.length)
  (start : ∀ W1, Out Nil w W1 → w.heap.size + 2 ≤ W1.heap.size → W1.heap[w.heap.size]? = some (.deferred (some [])) → S 0 W1)
  (calm : ∀ i W W', S i W → Out (· = w.heap.size + 1) W W' → S i W')
  (round : ∀ (i : Nat) (xs : List Value) (W : World), i < n → S i W → V i xs W → w.heap.size + 2 ≤ W.heap.size →
   WE (some (w.heap.size + 1)) P N assign (fun e σ1 ds1 W' => e = .normal ∧ ds1 = [] ∧ Out Nil W W' ∧ ∀ Wb, Out (· = w.heap.size + 1) W' Wb → WE (some (w.heap.size + 1)) P N body (aAE C w (w.heap.size + 1) Wb (S (i + 1))) σ1 [] Wb) (s8 N σ ps xs) [] W)
  (done : ∀ W', S n W' → Q .normal σ ({ target := .collected w.heap.size, args := #[] } :: ds) W') :
  WE none P N (.rangeFunc g ps.toArray assign body) Q σ ds w := fun a ha => by
 refine wpIn_rangeFunc ?_
 intro fn _
 obtain ⟨rec, jP⟩ : ∃ rec : LoopState → Option Code → Loop, rec = fun st pe => { state := st, pending := pe, fn, tmps := a.tmps, params := ps.toArray, assign, body, defers := w.heap.size } := ⟨_, rfl⟩
 obtain ⟨W1, D5⟩ : ∃ W1, (w.alloc (.deferred (some []))).alloc (.loop (rec .ready none)) = W1 := ⟨_, rfl⟩
 have CJ : Out Nil w W1 := by rw [← D5]; exact (Out.alloc _ _).trans (Out.alloc _ _)
 have hsz : W1.heap.size = w.heap.size + 2 := by rw [← D5]; simp
 have hL1 : W1.heap[w.heap.size + 1]? = some (.loop (rec .ready none)) := by
  rw [← D5]; have := World.alloc_heap_new (w.alloc (.deferred (some []))) (.loop (rec .ready none)); rwa [World.size_alloc] at this
 have hK1 : W1.heap[w.heap.size]? = some (.deferred (some [])) := by
  rw [← D5]; exact (Below.heap_alloc _ _ _ (by simp)).trans (World.alloc_heap_new w _)
 refine ⟨w.heap.size + 1, [{ target := .collected w.heap.size, args := #[] }], W1, { target := .fn (.func gf) cs.toArray, args := (fs ++ [Value.func (.yield (w.heap.size + 1)) #[] #[]]).toArray }, W1, gf,
  (fs ++ [Value.func (.yield (w.heap.size + 1)) #[] #[]] ++ cs).toArray, W1, ?_, ?_, ?_, ?_, (fun h => (by cases h)), ?_⟩
 ·
  rw [← D5, jP]; exact run_enterLoop_outer _ _ _ _ _
 ·
  have e : a.eval g = .func (.func gf) fs.toArray cs.toArray := by rw [ha.eval]; exact hg
  simp only [resolve, e]
  simp [Deferred.ofValue]
  rfl
 ·
  intro _ _; trivial
 ·
  have := fK hb (fs ++ [Value.func (.yield (w.heap.size + 1)) #[] #[]] ++ cs).toArray W1
  simp only [invoke, List.append_toArray]
  exact this
 obtain ⟨B, hB⟩ : ∃ B : World → Prop, B = fun W => W.os = w.os ∧ W.tape = w.tape ∧ W.output = w.output ∧ w.heap.size + 2 ≤ W.heap.size ∧ ∀ b, b < w.heap.size → ¬ C b → W.heap[b]? = w.heap[b]? := ⟨_, rfl⟩
 have hBo : ∀ M W W', B W → Out M W W' → (∀ b, b < w.heap.size → ¬ M b) → B W' := fun M W W' h ho hM => by
  rw [hB] at h ⊢
  obtain ⟨h1, h2, h3, h4, h5⟩ := h
  exact ⟨ho.os.trans h1, ho.tape.trans h2, ho.output.trans h3, Nat.le_trans h4 ho.size, fun b hb hc => (ho.block b (by omega) (hM b hb)).trans (h5 b hb hc)⟩
 have yU : B W1 := by rw [hB]; exact ⟨CJ.os, CJ.tape, CJ.output, by omega, fun b hb _ => CJ.block b hb id⟩
 have wZ := PU W1 CJ (.func (.yield (w.heap.size + 1)) #[] #[]) (fun i W => S i W ∧ W.heap[w.heap.size + 1]? = some (.loop (rec .ready none)) ∧ B W)
  (fun _ => False)
  ⟨start W1 CJ (by omega) hK1, hL1, yU⟩
  (by
   rintro i W W' ⟨h1, h2, h3⟩ ho
   have h4 : w.heap.size + 2 ≤ W.heap.size := by rw [hB] at h3; exact h3.2.2.2.1
   exact ⟨calm i W W' h1 (ho.mono fun _ _ h => h.elim), (ho.block _ (by omega) id).trans h2, hBo _ W W' h3 ho (fun _ _ h => h)⟩)
  (fun _ _ h _ => h)
  (by
   rintro i xs W W2 hi ⟨hS0, hl0, hB0⟩ hout GJ
   have h40 : w.heap.size + 2 ≤ W.heap.size := by rw [hB] at hB0; exact hB0.2.2.2.1
   have hS2 := calm i W W2 hS0 (hout.mono fun _ _ h => h.elim)
   have hl : W2.heap[w.heap.size + 1]? = some (.loop (rec .ready none)) := (hout.block _ (by omega) id).trans hl0
   have sW := hBo _ W W2 hB0 hout (fun _ _ h => h)
   have h42 : w.heap.size + 2 ≤ W2.heap.size := by rw [hB] at sW; exact sW.2.2.2.1
   have hv : V i xs W2 := GJ.here
   have hlt := (Array.getElem?_eq_some_iff.1 hl).1
   refine .inr ⟨w.heap.size + 1, fn, (ps.toArray.zip xs.toArray).foldl (fun tmps (p : Tmp × Value) => tmps.setIfInBounds p.1 p.2) a.tmps, assign, body, rfl, ?_, ?_⟩
   ·
    have := run_yield (P := P) (args := xs.toArray) hl (by rw [jP]; simpa using hV i xs W2 hv)
    rw [this, jP]
   ·
    refine roundIn_of_wpIn trivial ?_
    have ez : ((ps.toArray.zip xs.toArray).foldl (fun tmps (p : Tmp × Value) => tmps.setIfInBounds p.1 p.2) a.tmps) = ((ps.zip xs).foldl (fun tmps (p : Tmp × Value) => tmps.setIfInBounds p.1 p.2) a.tmps) := by
     rw [← Array.foldl_toList]; simp
    show Code.wpIn _ _ _ _ _ { tmps := ((ps.toArray.zip xs.toArray).foldl (fun tmps (p : Tmp × Value) => tmps.setIfInBounds p.1 p.2) a.tmps), defers := [] } _
    rw [ez]
    have aHb := round i xs W2 hi hS2 hv h42
    have hh := aHb _ (lT.s8 ps xs σ [] { tmps := a.tmps, defers := [] } ⟨ha.size, ha.env, rfl⟩)
    refine wpIn_mono (F := FW (some (w.heap.size + 1))) hh ?_
    rintro e a1 W3 ⟨hs1, rfl, CI, hO3, D4⟩
    have hl3 : W3.heap[w.heap.size + 1]? = some (.loop (rec .ready none)) := (hO3.block _ (by omega) id).trans hl
    have hlt3 := (Array.getElem?_eq_some_iff.1 hl3).1
    have hB3 := hBo _ W2 W3 sW hO3 (fun _ _ h => h)
    obtain ⟨Wb, sV⟩ : ∃ Wb, W3.putObj (w.heap.size + 1) (.loop { rec .ready none with state := .busy }) = Wb := ⟨_, rfl⟩
    have LM : Out (· = w.heap.size + 1) W3 Wb := by rw [← sV]; exact fI _
    have DX : Wb.heap[w.heap.size + 1]? = some (.loop { rec .ready none with state := .busy }) := by rw [← sV]; exact World.putObj_heap_same hlt3
    have hBb := hBo _ W3 Wb hB3 LM (fun b hb h => by omega)
    refine ⟨_, run_beginRound hl3 (by rw [jP]), ?_⟩
    rw [sV]
    have hbd := D4 Wb LM a1 ⟨hs1, rfl, CI⟩
    refine wpIn_mono (F := FW (some (w.heap.size + 1))) hbd ?_
    rintro e a4 W4 ⟨hs4, hq⟩
    cases e with
    | normal =>
     obtain ⟨hk, hS4⟩ := hq
     have TS : W4.heap[w.heap.size + 1]? = some (.loop { rec .ready none with state := .busy }) := hk.loop.trans DX
     have LP := (Array.getElem?_eq_some_iff.1 TS).1
     have ho5 : Out (· = w.heap.size + 1) W4 (W4.putObj (w.heap.size + 1) (.loop (rec .ready none))) := fI _
     have hB4 : B W4 := by
      rw [hB] at hBb ⊢
      obtain ⟨h1, h2, h3, h4, h5⟩ := hBb
      exact ⟨hk.os.trans h1, hk.tape.trans h2, hk.output.trans h3, hk.size, fun b hb hc => (hk.old b hb hc).trans (h5 b hb hc)⟩
     have hB5 := hBo _ W4 _ hB4 ho5 (fun b hb h => by omega)
     refine ⟨_, W4.putObj (w.heap.size + 1) (.loop (rec .ready none)), ?_, _, rfl, ?_, .inl ⟨rfl, calm _ _ _ hS4 ho5, World.putObj_heap_same LP, hB5⟩⟩
     ·
      have := run_endRound (P := P) none TS
      rw [jP] at this ⊢
      exact this
     ·
      rw [hB] at hB5
      obtain ⟨h1, h2, h3, h4, h5⟩ := hB5
      refine ⟨h1.trans CJ.os.symm, h2.trans CJ.tape.symm, h3.trans CJ.output.symm, by omega, fun b hb => hb.elim, fun b hb hc _ => ?_⟩
      rcases Nat.lt_or_ge b w.heap.size with DW | hge
      ·
       exact (h5 b DW fun h => hc (.inl h)).trans (CJ.block b DW id).symm
      ·
       exact absurd (show C b ∨ (w.heap.size ≤ b ∧ b < W1.heap.size) from .inr ⟨hge, hb⟩) hc
    | ret => exact hq.elim
    | exit id => exact hq.elim
    | goto t => exact hq.elim
    | panic c => exact hq.elim
    | outgrown => exact hq.elim)
  (.inr ⟨_, _, _, rfl⟩)
 refine CallsIn.mono (F := FW none) (n := 0) wZ ?_
 rintro e W2 ⟨v, rfl, _, ⟨hS, hl, _⟩ | h⟩
 ·
  refine ⟨none, _, by have := run_endLoop (P := P) hl (by rw [jP]; simp); rw [jP] at this; exact this, ?_⟩
  have hd := done _ (calm _ _ _ hS (fI (W := W2) (l := w.heap.size + 1) (.loop { rec .ready none with state := .exhausted })))
  refine ⟨ha.size, ?_⟩
  rw [jP] at hd
  have e1 : fT { a with defers := [{ target := .collected w.heap.size, args := #[] }] ++ a.defers } = σ := ha.env
  show Q .normal (fT _) _ _
  rw [e1]
  simp only [ha.defers, List.singleton_append]
  exact hd
 ·
  exact h.elim
def aFY (ds : List (List UInt8)) (j : Nat) (xs : List Value) (_ : World) : Prop := ∃ h : ds.length - 1 - j < ds.length, xs = [.int .i64 ((ds.length - 1 - j : Nat) : Int), .agg (kc ds[ds.length - 1 - j]).toArray]
theorem FG {X : Nat → Prop} {w : World} {s : Value} {ds : List (List UInt8)} (hX : cW X w) (bU : aH X (eN s ds) w) :
  bD Tryz.prog 215 [s].toArray w fun r w' => ∃ b1, r = .func (.func 220) [].toArray [.pointer (some ⟨b1, 0, none⟩)].toArray ∧ Out Nil w w' ∧ aH X (fun w => cX w ⟨b1, 0, none⟩ [s]) w' := by
 refine bD.aI (N := 4) Tryz.func215 rfl rfl (by simp) ?_
 have H := St.begin hX
 replace H := H.add (cF bU)
 refine WE.aA ?_
 refine WL.box (l := [s]) H rfl (cS.cells (H.p 0 rfl)) rfl ?_
 intro b1 w1 H
 refine WL.as rfl rfl (WL.nil (WE.aA (WL.pv (PV.makeFunc rfl) rfl (WL.as rfl rfl (WL.nil (WE.ret ⟨[_], _, .nil _, ⟨rfl, trivial⟩, ?_⟩))))))
 replace H := H.freeze (i := 0) rfl
 exact ⟨_, rfl, H.aM, H.gU ((H.bN 0 rfl).imp fun _ h => h.rd)⟩
theorem MJ {C : Nat → Prop} {w : World} {b1 : Nat} {s : Value} {ds : List (List UInt8)} (hC : ∀ b, C b → b < w.heap.size) (bU : aH C (fun w => cX w ⟨b1, 0, none⟩ [s]) w) (dA : aH C (eN s ds) w) (tM : ∀ d ∈ ds, d.length = 32) (hlen : ds.length ≤ 1000000) : aGj Tryz.prog 220 [] [.pointer (some ⟨b1, 0, none⟩)] (ds.length) (aFY ds) C w := by
 intro f J Jx hJ0 pJ aA2 mG hf
 show bD Tryz.prog 220 ([f, .pointer (some ⟨b1, 0, none⟩)] : List Value).toArray w _
 refine bD.aI (N := 19) Tryz.func220 rfl rfl (by simp) ?_
 have H := St.begin (X := C) hC
 replace H := H.add (cF dA)
 replace H := H.add (cF bU)
 refine WE.aA (WL.aZ rfl sL rfl rfl (H.p 0 rfl) (WL.pv (PV.dO (H.p 1 rfl : eN s ds _) mS rfl) rfl ?_))
 refine WL.pv (PV.eq (v' := .int .i64 (((ds.length - 0 : Nat) : Int) - 1)) (PV.iT rfl rfl rfl (by omega) (by omega)) rfl) rfl ?_
 refine WL.as rfl rfl (WL.nil (WE.block ?_))
 refine WE.loop (α := Nat) [3, 7, 8, 9, 10, 11, 12, 13, 14, 15, 16, 17, 18] (fun j => [(3, .int .i64 (((ds.length - j : Nat) : Int) - 1))]) (fun j wl => j ≤ ds.length ∧ J j wl ∧ St C wl wl [] [] [fun w => cX w ⟨b1, 0, none⟩ [s], eN s ds]) (fun j => ds.length - j) 0 ⟨rfl, trivial⟩ ⟨Nat.zero_le _, hJ0, H⟩ ?_
 intro j γ0 w1 hI
 try dsimp only at hI
 obtain ⟨hj, hJ, H⟩ := hI
 have BJ : ∃ FP, FP = w1 := ⟨_, rfl⟩
 obtain ⟨FP, BJ⟩ := BJ
 rw [← BJ] at hJ H ⊢
 clear BJ
 refine WE.seq (WE.aA (WL.mv rfl rfl (WL.pv (PV.geq rfl rfl rfl) rfl (WL.nil ?_))))
 refine WE.cond rfl (fun mO => ?_) (fun mO => ?_)
 ·
  try simp only [bW] at mO
  have hlt : j < ds.length := by omega
  have hkj := tM _ (List.getElem_mem (show ds.length - 1 - j < ds.length by omega))
  have QG : ((ds.length - j : Nat) : Int) - 1 = ((ds.length - 1 - j : Nat) : Int) := by omega
  rw [QG]
  refine WE.skip (WE.seq (WE.block (WE.aA (WL.mv rfl rfl (WL.mv rfl rfl (WL.aZ rfl sL rfl rfl (H.p 0 rfl) (WL.mv rfl rfl ?_)))))))
  refine WL.pv (PV.eQ rfl (H.p 1 rfl : eN s ds _) mS dK rfl rfl (by omega) (by omega)) rfl ?_
  refine WL.bG rfl iD rfl rfl (eN.rd (H.p 1 rfl) tM (ds.length - 1 - j) (by omega)) (cI dK (by simp only [aR, aU, aB, aD]; omega)) ?_
  refine WL.iK rfl rfl (mG j _ FP _ (by omega) hJ H.aM (aH.pure ⟨by omega, rfl⟩)) ?_
  rintro _ w2 ⟨hk, ⟨rfl, hJ⟩ | ⟨rfl, hJ⟩⟩
  ·
   replace H := St.HG (Ps := [fun w => cX w ⟨b1, 0, none⟩ [s], eN s ds]) hC hk (fun _ h => h.elim) (by intro p hp; simp at hp; rcases hp with rfl | rfl <;> assumption)
   refine WL.pv (PV.not rfl rfl) rfl (WL.nil (WE.iJ rfl (WE.skip (WE.eM (WL.mv rfl rfl ?_)))))
   refine WL.pv (PV.eq (v' := .int .i64 (((ds.length - (j + 1) : Nat) : Int) - 1)) (PV.iT rfl rfl rfl (by omega) (by omega)) (by congr 1; omega)) rfl ?_
   refine WL.as rfl rfl (WL.nil ?_)
   exact ⟨j + 1, (by repeat (first | with_reducible exact bQ.refl _ _ | refine bQ.dB rfl ?_ | refine bQ.cE rfl ?_ | refine bQ.cB rfl ?_)), ⟨rfl, trivial⟩, rfl, ⟨by omega, hJ, H⟩, (by omega)⟩
  ·
   refine WL.pv (PV.not rfl rfl) rfl (WL.nil (WE.kY rfl (WE.ret ?_)))
   refine ⟨[], _, .nil _, trivial, ?_⟩
   exact ⟨rfl, .inr hJ⟩
 ·
  try simp only [bW] at mO
  have hj_ : j = ds.length := by omega
  refine WE.exit ?_
  refine ⟨[], _, .nil _, trivial, ?_⟩
  subst hj_
  exact ⟨rfl, .inl (pJ _ _ _ hJ H.aM)⟩
def eW (bits : Int) (k : List UInt8) (ds : List (List UInt8)) (e : List UInt8) : Nat → List UInt8
 | 0 => e
 | j + 1 => rS bits k (ds.length - 1 - j) (ds.getD (ds.length - 1 - j) []) (eW bits k ds e j)
theorem J3 {bits : Int} {k : List UInt8} {ds : List (List UInt8)} {e : List UInt8} : ∀ j, j ≤ ds.length → upD bits k ds (ds.length - j) (eW bits k ds e j) = upD bits k ds ds.length e
 | 0, _ => rfl
 | j + 1, h => by
  rw [← J3 j (by omega), show ds.length - j = (ds.length - 1 - j) + 1 by omega, show ds.length - (j + 1) = ds.length - 1 - j by omega]
  rfl
theorem R3 {bits : Int} {k : List UInt8} {ds : List (List UInt8)} {e : List UInt8} : eW bits k ds e ds.length = upD bits k ds ds.length e := by
 have h := J3 (bits := bits) (k := k) (e := e) ds.length (Nat.le_refl _)
 rw [Nat.sub_self] at h
 exact h
theorem KY (bits : Int) (k : List UInt8) (d : Nat) (s b : List UInt8) : (rS bits k d s b).length = 32 := by
 unfold rS uL
 split <;> exact cY _ _
theorem nL {bits : Int} {k : List UInt8} {ds : List (List UInt8)} {e : List UInt8} (he : e.length = 32) : ∀ j, (eW bits k ds e j).length = 32
 | 0 => he
 | j + 1 => KY _ _ _ _ _
def aGG (J4 : Nat → List UInt8) (i : Nat) (xs : List Value) (_ : World) : Prop := ∃ s, xs = [s, .agg (kc (J4 i)).toArray]
def M6 (b : Nat) (x y : List UInt8) : List UInt8 := if b = 0 then y else x
def M5 (b : Nat) (x y : List UInt8) : List UInt8 := if b = 0 then x else y
theorem UW {b : Nat} {x y : List UInt8} (hx : x.length = 32) (hy : y.length = 32) : (M6 b x y).length = 32 := by unfold M6; split <;> assumption
theorem UU {b : Nat} {x y : List UInt8} (hx : x.length = 32) (hy : y.length = 32) : (M5 b x y).length = 32 := by unfold M5; split <;> assumption
theorem UT {b : Nat} {x y : List UInt8} (hb : b < 2) (hx : x.length = 32) (hy : y.length = 32) : Laid (kc x ++ kc x) (b * 32) (kc y) (kc (M6 b x y) ++ kc (M5 b x y)) := by
 unfold M6 M5
 rcases Nat.lt_or_ge b 1 with h | h
 ·
  have h0 : b = 0 := by omega
  subst h0
  rw [if_pos rfl, if_pos rfl]
  exact Laid.left (Laid.all (by rw [aN, aN, hx, hy]))
 ·
  have h1 : b = 1 := by omega
  subst h1
  rw [if_neg (by decide), if_neg (by decide)]
  exact Laid.right (Laid.all (by rw [aN, aN, hx, hy])) (by rw [aN, hx])
theorem UF {bits : Int} {k : List UInt8} {d : Nat} {s b : List UInt8} : rS bits k d s b = uL bits (M6 (bH k d) s b) (M5 (bH k d) s b) := by
 unfold rS M6 M5
 split <;> rfl
theorem MW.one {f : Value} (h : MW f) : f.oneCell' = true := by
 rcases h with ⟨g, a, b, rfl⟩ | ⟨l, a, b, rfl⟩ <;> rfl
theorem tG : ∀ (es : List aO) (ns : List Nat), es.map aO.fp = ns.map (fun n => (· = n)) → ns.Nodup → es.Pairwise aO.qW
 | [], _, _, _ => .nil
 | e :: es, [], h, _ => by simp at h
 | e :: es, n :: ns, h, hn => by
  injection h with h1 h2
  have hn' := List.nodup_cons.1 hn
  refine List.pairwise_cons.2 ⟨fun e' he' x hx => ?_, tG es ns h2 hn'.2⟩
  have hx1 : x = n := by have h3 := hx.1; rw [h1] at h3; exact h3
  obtain ⟨n', TR, hn2⟩ : ∃ n', n' ∈ ns ∧ e'.fp = (· = n') := by
   have h4 : e'.fp ∈ es.map aO.fp := List.mem_map_of_mem he'
   rw [h2] at h4
   obtain ⟨n', h5, h6⟩ := List.mem_map.1 h4
   exact ⟨n', h5, h6.symm⟩
  have hx2 : x = n' := by have h3 := hx.2; rw [hn2] at h3; exact h3
  exact hn'.1 (by rw [← hx1, hx2]; exact TR)
theorem St.FZ {C C' : Nat → Prop} {w w1 W : World} {O1 L1 : List aO} {Ps : List (World → Prop)} (H1 : St C w w1 O1 L1 Ps) (ho : Ong C' w1 W) (hC' : ∀ b, C' b → YY C O1 L1 b) (O : List aO) (hO : ∀ e ∈ O, e.ok W) (hd : O.Pairwise aO.qW)
  (hY : ∀ e ∈ O, ∀ b, b < w1.heap.size → e.fp b → YY C O1 L1 b) : St C W W O [] Ps := by
 refine St.start (fun b hb => Nat.lt_of_lt_of_le (H1.y6 b hb) (Nat.le_trans H1.size ho.size)) hO hd fun p hp w'' hw => (H1.iH p hp) w'' fun b hb hn => ?_
 refine (hw b (Nat.lt_of_lt_of_le hb ho.size) fun h => ?_).trans (ho.old b hb fun hc => hn (hC' b hc))
 rcases h with h | ⟨e, he, h⟩ | ⟨_, h, _⟩
 ·
  exact hn (.inl h)
 ·
  exact hn (hY e he b hb h)
 ·
  cases h
def CW (C : Nat → Prop) (bc b6 b7 : Nat) : Nat → Prop := fun b => C b ∨ b = bc ∨ b = b6 ∨ b = b7
structure qT (C : Nat → Prop) (w w1 : World) (bc b6 b7 : Nat) (J : (Nat → Prop) → Nat → World → Prop) (J4 : Nat → List UInt8) (T : Nat → Prop) (i : Nat) (W : World) : Prop where
 j : J T i W
 tb : ∀ b, b = bc ∨ (w.heap.size ≤ b ∧ b < w1.heap.size + 2) → T b
 tl : ∀ b, T b → b = bc ∨ w.heap.size ≤ b
 F7 : Ong (CW C bc b6 b7) w1 W
 sz : w1.heap.size + 2 ≤ W.heap.size
 d : W.heap[w1.heap.size]? = some (.deferred (some []))
 c : ∃ m : Int, aK W bc 213 [.int .i64 m]
 s : ∃ s : Value, s.oneCell' = true ∧ aK W b6 41 [s]
 e : aK W b7 30 (kc (J4 i))
section
variable {C : Nat → Prop} {w w1 W W' Wl : World} {bc b6 b7 : Nat} {J : (Nat → Prop) → Nat → World → Prop} {J4 : Nat → List UInt8} {T T' : Nat → Prop} {i : Nat} {lc l7 l6 : List Value} {Ps : List (World → Prop)}
theorem qT.step (pJ : ∀ T T' i W W', J T i W → Out T W W' → (∀ b, T b → T' b) → (∀ b, T' b → T b ∨ (W.heap.size ≤ b ∧ b < W'.heap.size)) → J T' i W') (h : qT C w w1 bc b6 b7 J J4 T i W)
  (hl : bc < w1.heap.size ∧ b6 < w1.heap.size ∧ b7 < w1.heap.size) (h0 : w.heap.size ≤ w1.heap.size) (ho : Out (· = w1.heap.size + 1) W W') (h1 : ∀ b, T b → T' b) (h2 : ∀ b, T' b → T b ∨ (W.heap.size ≤ b ∧ b < W'.heap.size)) : qT C w w1 bc b6 b7 J J4 T' i W' where
 j := pJ T T' i W W' h.j (ho.mono fun b _ hb => h.tb b (.inr (by have hb' : b = w1.heap.size + 1 := hb; omega))) h1 h2
 tb := fun b hb => h1 b (h.tb b hb)
 tl := fun b hb => by
  rcases h2 b hb with h3 | h3
  ·
   exact h.tl b h3
  ·
   have := h.sz; exact .inr (by omega)
 F7 := ⟨ho.os.trans h.F7.os, ho.tape.trans h.F7.tape, ho.output.trans h.F7.output, Nat.le_trans h.F7.size ho.size, fun b hb hc => (ho.block b (Nat.lt_of_lt_of_le hb h.F7.size) (fun hh => by have hh' : b = w1.heap.size + 1 := hh; omega)).trans (h.F7.old b hb hc)⟩
 sz := Nat.le_trans h.sz ho.size
 d := (ho.block _ (by have := h.sz; omega) (fun hh => by have hh' : w1.heap.size = w1.heap.size + 1 := hh; omega)).trans h.d
 c := by
  obtain ⟨m, hm⟩ := h.c
  exact ⟨m, hm.of_eq (ho.block _ hm.lt (fun hh => by have hh' : bc = w1.heap.size + 1 := hh; omega))⟩
 s := by
  obtain ⟨s, hs, hm⟩ := h.s
  exact ⟨s, hs, hm.of_eq (ho.block _ hm.lt (fun hh => by have hh' : b6 = w1.heap.size + 1 := hh; omega))⟩
 e := h.e.of_eq (ho.block _ h.e.lt (fun hh => by have hh' : b7 = w1.heap.size + 1 := hh; omega))
theorem qT.kept (H1 : St C w w1 [aO.blk bc 213 lc] [aO.blk b7 30 l7, aO.blk b6 41 l6] Ps) (h : qT C w w1 bc b6 b7 J J4 T i W) (hk : Kept T C w W W') : Ong (CW C bc b6 b7) w1 W' := by
 have hl := hk.blk (w1.heap.size + 1) (h.tb _ (.inr (by have := H1.size; omega)))
 refine ⟨hk.os.trans H1.os.symm, hk.tape.trans H1.tape.symm, hk.output.trans H1.output.symm, by omega, fun b hb hc => ?_⟩
 rcases Nat.lt_or_ge b w.heap.size with hlt | hge
 ·
  refine (hk.old b hlt (fun h3 => hc (.inl h3)) (fun ht => ?_)).trans (H1.old b hlt fun e he h3 => ?_).symm
  ·
   rcases h.tl b ht with h4 | h4
   ·
    exact hc (.inr (.inl h4))
   ·
    omega
  ·
   rw [List.mem_singleton.1 he] at h3
   exact hc (.inr (.inl h3))
 ·
  exact (hk.blk b (h.tb b (.inr (by omega)))).2.trans (h.F7.old b hb hc)
theorem sZ (H1 : St C w w1 [aO.blk bc 213 lc] [aO.blk b7 30 l7, aO.blk b6 41 l6] Ps) : bc < w1.heap.size ∧ b6 < w1.heap.size ∧ b7 < w1.heap.size :=
 ⟨(H1.o 0 (e := aO.blk bc 213 lc) rfl).lt, (H1.l 1 (e := aO.blk b6 41 l6) rfl).lt, (H1.l 0 (e := aO.blk b7 30 l7) rfl).lt⟩
theorem lB (H1 : St C w w1 [aO.blk bc 213 lc] [aO.blk b7 30 l7, aO.blk b6 41 l6] Ps) : ∀ b, CW C bc b6 b7 b → YY C [aO.blk bc 213 lc] [aO.blk b7 30 l7, aO.blk b6 41 l6] b := fun b hb => by
 rcases hb with h | h | h | h
 ·
  exact .inl h
 ·
  exact .inr (.inl ⟨_, List.mem_cons_self, h⟩)
 ·
  exact .inr (.inr ⟨aO.blk b6 41 l6, by simp, h⟩)
 ·
  exact .inr (.inr ⟨aO.blk b7 30 l7, by simp, h⟩)
theorem CP (H1 : St C w w1 [aO.blk bc 213 lc] [aO.blk b7 30 l7, aO.blk b6 41 l6] Ps) (ho : Ong (CW C bc b6 b7) w1 W) {m : Int} {e : List UInt8} {s : Value} {x : List Value} {b9 : Nat} (hc : aK W bc 213 [.int .i64 m]) (he : aK W b7 30 (kc e)) (hs : aK W b6 41 [s])
  (hl : w1.heap.size + 1 < W.heap.size ∧ W.heap[w1.heap.size + 1]? = Wl.heap[w1.heap.size + 1]?) (hd : W.heap[w1.heap.size]? = some (.deferred (some []))) (h9 : aK W b9 30 x) (hge : w1.heap.size + 2 ≤ b9) :
  St C W W [aO.blk bc 213 [.int .i64 m], aO.blk b7 30 (kc e), aO.blk b6 41 [s], aO.sn (· = w1.heap.size + 1) Wl, aO.obj w1.heap.size (.deferred (some [])), aO.blk b9 30 x] [] Ps := by
 have hlt := sZ H1
 have aHl := H1.tI _ (List.mem_of_getElem? (i := 0) rfl) bc rfl
 have aHk := H1.jR _ (List.mem_of_getElem? (i := 0) rfl) b7 rfl
 have aHj := H1.jR _ (List.mem_of_getElem? (i := 1) rfl) b6 rfl
 have aHi : b7 ≠ b6 := fun h => eP H1.gY (i := 0) (j := 1) (by decide) rfl rfl b7 ⟨rfl, h⟩
 refine St.FZ H1 ho (lB H1) _ ?_ (tG _ [bc, b7, b6, w1.heap.size + 1, w1.heap.size, b9] rfl (by simp; omega)) ?_
 ·
  intro x hx
  simp only [List.mem_cons, List.not_mem_nil, or_false] at hx
  rcases hx with rfl | rfl | rfl | rfl | rfl | rfl
  ·
   exact hc
  ·
   exact he
  ·
   exact hs
  ·
   intro b hb
   have hb' : b = w1.heap.size + 1 := hb
   rw [hb']; exact hl
  ·
   exact hd
  ·
   exact h9
 ·
  intro x hx b hb hf
  simp only [List.mem_cons, List.not_mem_nil, or_false] at hx
  rcases hx with rfl | rfl | rfl | rfl | rfl | rfl
  ·
   exact lB H1 b (.inr (.inl hf))
  ·
   exact lB H1 b (.inr (.inr (.inr hf)))
  ·
   exact lB H1 b (.inr (.inr (.inl hf)))
  ·
   have D0 : b = w1.heap.size + 1 := hf
   omega
  ·
   have D0 : b = w1.heap.size := hf
   omega
  ·
   have D0 : b = b9 := hf
   omega
theorem T0 {i : Nat} (H1 : St C w w1 [aO.blk bc 213 lc] [aO.blk b7 30 l7, aO.blk b6 41 l6] Ps) {Wb W4 : World} (hb : qT C w w1 bc b6 b7 J J4 T i Wb) (ho : Ong (CW C bc b6 b7) w1 W') (pJ : ∀ T T' i W W', J T i W → Out T W W' → (∀ b, T b → T' b) → (∀ b, T' b → T b ∨ (W.heap.size ≤ b ∧ b < W'.heap.size)) → J T' i W') (hJ : J T (i + 1) W')
  {m : Int} {e : List UInt8} {s : Value} {x : List Value} {b9 : Nat} {L4 : List aO} {P4 : List (World → Prop)} (H : St C W' W4 [aO.blk bc 213 [.int .i64 m], aO.blk b7 30 (kc e), aO.blk b6 41 [s], aO.sn (· = w1.heap.size + 1) Wb, aO.obj w1.heap.size (.deferred (some [])), aO.blk b9 30 x] L4 P4)
  (hs : s.oneCell' = true) (h9 : T b9) (hge : w1.heap.size + 2 ≤ b9) (he : e = J4 (i + 1)) : aAk (CW C bc b6 b7) w1 (w1.heap.size + 1) Wb W4 ∧ ∃ T, qT C w w1 bc b6 b7 J J4 T (i + 1) W4 := by
 have hlt := sZ H1
 have h01 := H1.size
 have hfp : ∀ b, (∃ e_ ∈ [aO.blk bc 213 [.int .i64 m], aO.blk b7 30 (kc e), aO.blk b6 41 [s], aO.sn (· = w1.heap.size + 1) Wb, aO.obj w1.heap.size (.deferred (some [])), aO.blk b9 30 x], e_.fp b) → T b ∧ (b < w1.heap.size → CW C bc b6 b7 b) := by
  rintro b ⟨x', hx, hf⟩
  have g7 := H1.jR _ (List.mem_of_getElem? (i := 0) rfl) b7 rfl
  have g6 := H1.jR _ (List.mem_of_getElem? (i := 1) rfl) b6 rfl
  simp only [List.mem_cons, List.not_mem_nil, or_false] at hx
  rcases hx with rfl | rfl | rfl | rfl | rfl | rfl
  ·
   have D0 : b = bc := hf
   exact ⟨hb.tb b (.inl D0), fun _ => .inr (.inl D0)⟩
  ·
   have D0 : b = b7 := hf
   exact ⟨hb.tb b (.inr (by omega)), fun _ => .inr (.inr (.inr D0))⟩
  ·
   have D0 : b = b6 := hf
   exact ⟨hb.tb b (.inr (by omega)), fun _ => .inr (.inr (.inl D0))⟩
  ·
   have D0 : b = w1.heap.size + 1 := hf
   exact ⟨hb.tb b (.inr (by omega)), fun _ => by omega⟩
  ·
   have D0 : b = w1.heap.size := hf
   exact ⟨hb.tb b (.inr (by omega)), fun _ => by omega⟩
  ·
   have D0 : b = b9 := hf
   exact ⟨D0 ▸ h9, fun _ => by omega⟩
 have TS := H.o 3 (e := aO.sn (· = w1.heap.size + 1) Wb) rfl (w1.heap.size + 1) rfl
 have hold : ∀ b, b < w1.heap.size → ¬ CW C bc b6 b7 b → W4.heap[b]? = w1.heap[b]? := fun b FL hc =>
  (H.old b (Nat.lt_of_lt_of_le FL ho.size) (fun e_ QG hf => hc ((hfp b ⟨e_, QG, hf⟩).2 FL))).trans (ho.old b FL hc)
 refine ⟨⟨(H.os.trans ho.os).trans hb.F7.os.symm, (H.tape.trans ho.tape).trans hb.F7.tape.symm, (H.output.trans ho.output).trans hb.F7.output.symm, by omega, fun b FL hc => (hold b FL hc).trans (hb.F7.old b FL hc).symm, TS.2⟩, T, ?_⟩
 exact ⟨pJ T T (i + 1) W' W4 hJ (H.l5.mono fun b _ h => (hfp b h).1) (fun _ h => h) (fun _ h => .inl h), hb.tb, hb.tl,
  ⟨H.os.trans ho.os, H.tape.trans ho.tape, H.output.trans ho.output, Nat.le_trans ho.size H.size, hold⟩, by omega, H.o 4 (e := aO.obj w1.heap.size (.deferred (some []))) rfl, ⟨m, H.o 0 rfl⟩, ⟨s, hs, H.o 2 rfl⟩, by rw [← he]; exact H.o 1 rfl⟩
end
end Go.Sp.Tryz
