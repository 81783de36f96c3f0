/- Part of the proof of this claim: walks through the program's functions and the plain laws that they need, printed by a program of this session. -/
import Derived.Test.YthkombhebdjamaaGreatDoorP2
import Derived.Test.YthkombhebdjamaaGreatDoorErrs
import Derived.Test.YthkombhebdjamaaGreatDoorMk
import Derived.Test.YthkombhebdjamaaGreatDoorSeq
set_option maxRecDepth 100000
set_option maxHeartbeats 1000000
set_option linter.unusedVariables false
set_option linter.unusedSimpArgs false
namespace Go.Sp.Tryz
open Go.Proofs Go.RowKit Go.Sp Go.Sp.TryzT Go.Proofs.Tryz
variable {X : Nat → Prop} {w : World}
def o9 (T : Tr) (k : List UInt8) (j : Nat) : Tr := (T.iF k 0 j).beside k j
def zK (T : Tr) (k : List UInt8) (j : Nat) : Bool := decide ((o9 T k j).er.kind ≠ 0)
def PJ (T : Tr) (k : List UInt8) (n : Nat) : List Nat := (List.range n).filter (zK T k)
def lJ (T : Tr) (k : List UInt8) : Nat → List UInt8
 | 0 => qS
 | j + 1 => if zK T k j then oP (lJ T k j) j else lJ T k j
def gA (bits : Int) (T : Tr) (k : List UInt8) (n : Nat) : List (List UInt8) := (PJ T k n).map fun j => (o9 T k j).er.kN bits
theorem DP (T : Tr) (k : List UInt8) (n : Nat) : PJ T k (n + 1) = if zK T k n then PJ T k n ++ [n] else PJ T k n := by
 unfold PJ
 rw [List.range_succ, List.filter_append]
 split
 ·
  rename_i h; simp [h]
 ·
  rename_i h; simp [h]
theorem zG (bits : Int) (T : Tr) (k : List UInt8) (n : Nat) : gA bits T k (n + 1) = if zK T k n then gA bits T k n ++ [(o9 T k n).er.kN bits] else gA bits T k n := by
 unfold gA
 rw [DP]
 split <;> simp
theorem O0 (bits : Int) (T : Tr) (k : List UInt8) (n : Nat) : (gA bits T k n).length ≤ n := by
 unfold gA PJ
 rw [List.length_map]
 have := List.length_filter_le (zK T k) (List.range n)
 rw [List.length_range] at this
 exact this
theorem bD (T : Tr) (k : List UInt8) : ∀ n, (lJ T k n).length = 32
 | 0 => rfl
 | n + 1 => by
  show (if zK T k n then oP (lJ T k n) n else lJ T k n).length = 32
  split
  ·
   rw [aV, bD T k n]
  ·
   exact bD T k n
theorem BB (T : Tr) (k : List UInt8) : ∀ n, n ≤ 256 → ∀ i, bH (lJ T k n) i = if i < n ∧ zK T k i = true then 1 else 0
 | 0, _, i => by rw [if_neg (by omega)]; exact tY i
 | n + 1, hn, i => by
  have ih := BB T k n (by omega) i
  show bH (if zK T k n then oP (lJ T k n) n else lJ T k n) i = _
  split
  ·
   rename_i h
   rw [MR (bD T k n) (by omega), ih]
   by_cases hi : i = n
   ·
    subst hi; rw [if_pos rfl, if_pos ⟨by omega, h⟩]
   ·
    rw [if_neg hi]
    by_cases h2 : i < n ∧ zK T k i = true
    ·
     rw [if_pos h2, if_pos ⟨by omega, h2.2⟩]
    ·
     rw [if_neg h2, if_neg (fun h3 => h2 ⟨by omega, h3.2⟩)]
  ·
   rename_i h
   rw [ih]
   by_cases h2 : i < n ∧ zK T k i = true
   ·
    rw [if_pos h2, if_pos ⟨by omega, h2.2⟩]
   ·
    rw [if_neg h2, if_neg (fun h3 => h2 ⟨by
     rcases Nat.lt_or_ge i n with h4 | h4
     ·
      exact h4
     ·
      have h5 : i = n := by omega
      rw [h5] at h3; exact absurd h3.2 h, h3.2⟩)]
theorem wJ {T : Tr} {k : List UInt8} {n : Nat} (hn : n ≤ 256) : bitsOf (lJ T k n) 256 = PJ T k n := by
 unfold bitsOf PJ
 rw [show 256 = n + (256 - n) by omega, List.range_add, List.filter_append, List.filter_map]
 have e1 : (List.range n).filter (fun i => decide (bH (lJ T k n) i = 1)) = (List.range n).filter (zK T k) := List.filter_congr fun i hi => by
  have hi' := List.mem_range.1 hi
  rw [BB T k n hn]
  cases h : zK T k i
  ·
   rw [if_neg (by simp)]; rfl
  ·
   rw [if_pos ⟨hi', rfl⟩]; rfl
 have e2 : (List.range (256 - n)).filter ((fun i => decide (bH (lJ T k n) i = 1)) ∘ fun x => n + x) = [] := by
  rw [List.filter_eq_nil_iff]
  intro i _
  show ¬ decide (bH (lJ T k n) (n + i) = 1) = true
  rw [BB T k n hn, if_neg (by omega)]
  decide
 rw [e1, e2]; simp
theorem VE {T : Tr} {m : List En} {k : List UInt8} (hT : T.er = grow 0 m) (hp : Pm 0 m) {n : Nat} (hn : T.dp k 0 = n + 1) : zK T k n = true := by
 have h1 := AM (k := k) hT hp n (by omega)
 have h2 := grow_step k h1.1 h1.2 (Tr.rF n 0 T (by omega))
 have h3 := SH (k := k) hT hp (i := n) (by omega)
 have h4 := CB (k := k) hT hp
 rw [hn] at h4
 have h5 := mW (CD k 0 m n) (n + 0)
 have hb := eD k n
 have zT : bH k (n + 0) = bH k n := rfl
 have e1 : CD k 0 m (n + 1) = bP (CD k 0 m n) (n + 0) (bH k (n + 0)) := rfl
 rw [e1] at h4
 have h6 : 1 ≤ (bP (CD k 0 m n) (n + 0) (1 - bH k (n + 0))).length := by
  rcases Nat.lt_or_ge (bH k n) 1 with h | h
  ·
   have h0 : bH k (n + 0) = 0 := by omega
   rw [h0] at h4 ⊢
   show 1 ≤ (bP (CD k 0 m n) (n + 0) 1).length
   have := h3.1
   omega
  ·
   have h0 : bH k (n + 0) = 1 := by omega
   rw [h0] at h4 ⊢
   show 1 ≤ (bP (CD k 0 m n) (n + 0) 0).length
   have := h3.1
   omega
 unfold zK
 rw [decide_eq_true_iff]
 intro h7
 have h8 : (o9 T k n).er = grow (n + 0 + 1) (bP (CD k 0 m n) (n + 0) (1 - bH k (n + 0))) := h2.2.2.2
 have h9 : (o9 T k n).er.fU = (bP (CD k 0 m n) (n + 0) (1 - bH k (n + 0))).length := by rw [h8]; exact nG (h1.2.part h2.1 _)
 have h10 : (o9 T k n).er.fU = 0 := by
  revert h7
  cases (o9 T k n).er with
  | nil => intro _; rfl
  | leaf => intro h; cases h
  | inner => intro h; cases h
 omega
theorem PI {T : Tr} {m : List En} {k : List UInt8} (hT : T.er = grow 0 m) (hp : Pm 0 m) : (PJ T k (T.dp k 0)).getLast? = if T.dp k 0 = 0 then none else some (T.dp k 0 - 1) := by
 cases hn : T.dp k 0 with
 | zero => rfl
 | succ n =>
  rw [DP, if_pos (VE hT hp hn), if_neg (by omega)]
  simp
structure iG (kind dp : Nat) (lk lv B : List UInt8) (sb : List (List UInt8)) : Prop where
 kd : kind = 0 ∨ kind = 1
 MJ : dp ≤ 256
 tJ : lk.length = 32
 lvl : lv.length = 32
 lz : kind = 0 → lk = qS ∧ lv = qS
 bl : B.length = 32
 last : (bitsOf B 256).getLast? = if dp = 0 then none else some (dp - 1)
 fU : sb.length = (bitsOf B 256).length
 sl : ∀ s ∈ sb, s.length = 32
def mB (out : List (List UInt8)) : List Nat → List (List UInt8) → List (List UInt8)
 | d :: ds, s :: sb => mB (out.set d s) ds sb
 | _, _ => out
theorem tP : ∀ (ds : List Nat) (sb out : List (List UInt8)), (mB out ds sb).length = out.length
 | [], sb, out => by cases sb <;> rfl
 | d :: ds, [], out => rfl
 | d :: ds, s :: sb, out => by
  show (mB (out.set d s) ds sb).length = _
  rw [tP ds sb, List.length_set]
theorem zZ (f : Nat → List UInt8) (e : List UInt8) (n : Nat) : ∀ (ds : List Nat) (g : Nat → List UInt8), ds.Pairwise (· < ·) → (∀ d ∈ ds, d < n) → mB ((List.range n).map g) ds (ds.map f) = (List.range n).map fun d => if d ∈ ds then f d else g d
 | [], g, _, _ => by simp [mB]
 | d :: ds, g, hp, hn => by
  have h1 := List.pairwise_cons.1 hp
  have e1 : ((List.range n).map g).set d (f d) = (List.range n).map fun x => if x = d then f d else g x := by
   refine List.ext_getElem (by simp) fun i h2 h3 => ?_
   rw [List.getElem_set]
   simp only [List.getElem_map, List.getElem_range]
   by_cases h : d = i
   ·
    rw [if_pos h, if_pos h.symm]
   ·
    rw [if_neg h, if_neg (fun h' => h h'.symm)]
  show mB (((List.range n).map g).set d (f d)) ds (ds.map f) = _
  rw [e1, zZ f e n ds _ h1.2 fun x hx => hn x (List.mem_cons_of_mem _ hx)]
  refine List.map_congr_left fun x _ => ?_
  by_cases hx : x ∈ ds
  ·
   rw [if_pos hx, if_pos (List.mem_cons_of_mem _ hx)]
  ·
   rw [if_neg hx]
   by_cases hxd : x = d
   ·
    subst hxd; rw [if_pos rfl, if_pos (by simp)]
   ·
    rw [if_neg hxd, if_neg (by simp [hxd, hx])]
def rQ (bits : Int) (k : List UInt8) (d : Nat) (s below : List UInt8) : List UInt8 := if bH k d = 0 then uM bits below s else uM bits s below
def upD (bits : Int) (k : List UInt8) (A0 : List (List UInt8)) : Nat → List UInt8 → List UInt8
 | 0, b => b
 | d + 1, b => upD bits k A0 d (rQ bits k d (A0.getD d []) b)
theorem CZ {bits : Int} {T : Tr} {k : List UInt8} {A0 : List (List UInt8)} : ∀ n, n ≤ T.dp k 0 → (∀ d, d < n → A0.getD d [] = (o9 T k d).er.kN bits) → upD bits k A0 n ((T.iF k 0 n).er.kN bits) = T.er.kN bits
 | 0, _, _ => rfl
 | n + 1, hn, hs => by
  have ih := CZ (bits := bits) (T := T) (k := k) (A0 := A0) n (by omega) fun d hd => hs d (by omega)
  show upD bits k A0 n (rQ bits k n (A0.getD n []) ((T.iF k 0 (n + 1)).er.kN bits)) = _
  rw [← ih, hs n (by omega)]
  congr 1
  obtain ⟨a, l, r, e⟩ := Tr.zQ (Tr.rF (k := k) n 0 T (by omega))
  have e1 : T.iF k 0 (n + 1) = (T.iF k 0 n).step k (n + 0) := rfl
  have hb := eD k n
  unfold rQ o9
  rw [e1, e]
  unfold Tr.step Tr.beside Tr.child
  by_cases h : bH k n = 0
  ·
   rw [if_pos h, if_pos (show bH k (n + 0) = 0 from h), if_neg (by omega)]; rfl
  ·
   rw [if_neg h, if_neg (show ¬ bH k (n + 0) = 0 from h), if_pos (by omega)]; rfl
theorem RP {bits : Int} {T : Tr} {k : List UInt8} {n : Nat} : mB (List.replicate n (lN bits)) (PJ T k n) (gA bits T k n) = (List.range n).map fun d => (o9 T k d).er.kN bits := by
 have e0 : List.replicate n (lN bits) = (List.range n).map fun _ => lN bits := by
  refine List.ext_getElem (by simp) fun i h1 h2 => ?_
  simp
 rw [e0]
 unfold gA
 rw [zZ _ (lN bits) n (PJ T k n) _ (List.Pairwise.filter _ List.pairwise_lt_range) fun d hd => List.mem_range.1 (List.mem_filter.1 hd).1]
 refine List.map_congr_left fun d hd => ?_
 split
 ·
  rfl
 ·
  rename_i h
  have h1 : ¬ zK T k d = true := fun h2 => h (List.mem_filter.2 ⟨hd, h2⟩)
  unfold zK at h1
  rw [decide_eq_true_iff, ne_eq, Decidable.not_not] at h1
  revert h1
  cases (o9 T k d).er with
  | nil => intro _; rfl
  | leaf => intro h; cases h
  | inner => intro h; cases h
theorem vF {m : List En} {k : List UInt8} {e : En} (h : getM m k = some e) : e ∈ m ∧ e.k = k := ⟨List.mem_of_find?_eq_some h, by have := List.find?_some h; simpa using this⟩
def gS (m : List En) (k : List UInt8) : Value := match getM m k with | some e => e.s | none => .slice none 0 0
def gV (m : List En) (k : List UInt8) : List UInt8 := match getM m k with | some e => e.v | none => []
theorem G3 {m : List En} {w : World} (h : eY m w) (k : List UInt8) : bI (gS m k) (gV m k) w := by
 unfold gS gV
 cases hg : getM m k with
 | none => exact bI.nil w
 | some e => exact h e (vF hg).1
theorem aBE {m : List En} (h : S6 m) (k : List UInt8) : (gV m k).length ≤ 1000000 := by
 unfold gV
 cases hg : getM m k with
 | none => exact Nat.zero_le _
 | some e => exact h e (vF hg).1
theorem WD (m : List En) (k : List UInt8) : Q9 m k = .tuple [gS m k, .bool (iE m k)].toArray := by
 unfold Q9 gS iE
 cases getM m k <;> rfl
structure Up where
 sk : Value
 k : List UInt8
 sv : Value
 v : List UInt8
 d : Bool
structure o7 where
 n : Int
 sk : Value
 k : List UInt8
 sv : Value
 v : List UInt8
 sb : Value
 b : List Up
instance : Inhabited Up := ⟨⟨.slice none 0 0, [], .slice none 0 0, [], false⟩⟩
instance : Inhabited o7 := ⟨⟨0, .slice none 0 0, [], .slice none 0 0, [], .slice none 0 0, []⟩⟩
def N3 (u : Up) : List Value := [u.sk] ++ ([u.sv] ++ [.bool u.d])
def yO (o : o7) : List Value := [.int .i64 o.n] ++ ([o.sk] ++ ([o.sv] ++ [o.sb]))
theorem UH (u : Up) : (N3 u).length = 3 := rfl
theorem U9 (o : o7) : (yO o).length = 4 := rfl
def jN (v : Value) (l : List Up) (w : World) : Prop := cR w v 3 l.length (l.flatMap N3)
def uE (v : Value) (l : List o7) (w : World) : Prop := cR w v 4 l.length (l.flatMap yO)
def dK (l : List Up) (w : World) : Prop := ∀ u ∈ l, bI u.sk u.k w ∧ bI u.sv u.v w
def OV (o : o7) (w : World) : Prop := bI o.sk o.k w ∧ bI o.sv o.v w ∧ jN o.sb o.b w ∧ dK o.b w
def iY (l : List o7) (w : World) : Prop := ∀ o ∈ l, OV o w
theorem jN.rd {v : Value} {l : List Up} {w : World} (h : jN v l w) (i : Nat) (hi : i < l.length) : cX w (jF v (i * 3)) (N3 l[i]) := by
 have := cR.rd h i hi
 rwa [sH l (fun u _ => UH u) i hi] at this
theorem uE.rd {v : Value} {l : List o7} {w : World} (h : uE v l w) (i : Nat) (hi : i < l.length) : cX w (jF v (i * 4)) (yO l[i]) := by
 have := cR.rd h i hi
 rwa [sH l (fun u _ => U9 u) i hi] at this
def CH (l : List Up) : Prop := l.length ≤ 20 ∧ ∀ u ∈ l, u.k.length ≤ 100 ∧ u.v.length ≤ 70000
def FI (l : List o7) : Prop := l.length ≤ 12 ∧ ∀ o ∈ l, o.k.length ≤ 100 ∧ o.v.length ≤ 70000 ∧ CH o.b
def bV (k v : List UInt8) : Int := if k.length ≠ 32 then 2 else if 65535 < v.length then 3 else 0
theorem c8 {k v : List UInt8} : bV k v = 0 ↔ k.length = 32 ∧ v.length ≤ 65535 := by
 unfold bV
 by_cases h : k.length = 32
 ·
  rw [if_neg (by omega)]
  by_cases h2 : 65535 < v.length
  ·
   rw [if_pos h2]; constructor
   ·
    intro h3; cases h3
   ·
    intro h3; omega
  ·
   rw [if_neg h2]; exact ⟨fun _ => ⟨h, by omega⟩, fun _ => rfl⟩
 ·
  rw [if_pos h]; constructor
  ·
   intro h3; cases h3
  ·
   intro h3; exact absurd h3.1 h
def Up.uv (u : Up) : List UInt8 := if u.d then [] else u.v
def lR (l : List Up) (u : Up) : Int := if bV u.k u.uv ≠ 0 then bV u.k u.uv else if ∃ x ∈ l, x.k = u.k then 9 else 0
def xL (i : Nat) (before : List Up) : List Up → Nat × Int
 | [] => (0, 0)
 | u :: l => if lR before u ≠ 0 then (i, lR before u) else xL (i + 1) (before ++ [u]) l
def jM (l : List Up) : Nat × Int := xL 0 [] l
theorem AF (l : List Up) : ∀ (n i : Nat), i + n = l.length → xL i (l.take i) (l.drop i) = if h : i < l.length then (if lR (l.take i) l[i] ≠ 0 then (i, lR (l.take i) l[i]) else xL (i + 1) (l.take (i + 1)) (l.drop (i + 1))) else (0, 0) := by
 intro n i hi
 by_cases h : i < l.length
 ·
  rw [dif_pos h, List.drop_eq_getElem_cons h, List.take_succ_eq_append_getElem h]; rfl
 ·
  rw [dif_neg h, List.drop_eq_nil_of_le (by omega)]; rfl
def nQ (l : List Up) : Prop := (∀ u ∈ l, bV u.k u.uv = 0) ∧ l.Pairwise fun a b => a.k ≠ b.k
theorem uA {l : List Up} {u : Up} : lR l u = 0 ↔ bV u.k u.uv = 0 ∧ ∀ x ∈ l, x.k ≠ u.k := by
 unfold lR
 by_cases h : bV u.k u.uv = 0
 ·
  rw [if_neg (by simp [h])]
  by_cases h2 : ∃ x ∈ l, x.k = u.k
  ·
   rw [if_pos h2]
   constructor
   ·
    intro h3; cases h3
   ·
    intro h3; obtain ⟨x, hx, hk⟩ := h2; exact absurd hk (h3.2 x hx)
  ·
   rw [if_neg h2]
   exact ⟨fun _ => ⟨h, fun x hx hk => h2 ⟨x, hx, hk⟩⟩, fun _ => rfl⟩
 ·
  rw [if_pos h]
  exact ⟨fun h2 => absurd h2 h, fun h2 => absurd h2.1 h⟩
theorem nQ.snoc {l : List Up} {u : Up} (h : nQ l) (hu : lR l u = 0) : nQ (l ++ [u]) := by
 have h2 := uA.1 hu
 refine ⟨fun x hx => ?_, List.pairwise_append.2 ⟨h.2, List.pairwise_singleton _ _, fun a ha b hb => ?_⟩⟩
 ·
  rcases List.mem_append.1 hx with hx | hx
  ·
   exact h.1 x hx
  ·
   rw [List.mem_singleton.1 hx]; exact h2.1
 ·
  rw [List.mem_singleton.1 hb]; exact h2.2 a ha
theorem AG : ∀ (l b : List Up) (i : Nat), nQ b → (xL i b l).2 = 0 → nQ (b ++ l)
 | [], b, _, hb, _ => by rwa [List.append_nil]
 | u :: l, b, i, hb, h => by
  unfold xL at h
  by_cases hu : lR b u = 0
  ·
   rw [if_neg (by simp [hu])] at h
   have := AG l (b ++ [u]) (i + 1) (hb.snoc hu) h
   rwa [List.append_assoc] at this
  ·
   rw [if_pos hu] at h; exact absurd h hu
theorem tV {l : List Up} (h : (jM l).2 = 0) : nQ l := AG l [] 0 ⟨(fun _ h => by cases h), List.Pairwise.nil⟩ h
def Up.ch (u : Up) : Ch := ⟨u.k, if u.d then .slice none 0 0 else u.sv, u.uv, u.d⟩
def SL (m : List En) (u : Up) : List En := if u.d then eX m u.k else gJ m ⟨u.k, u.sv, u.v⟩
def s5 (m : List En) (l : List Up) : List En := l.foldl SL m
theorem aBY (m : List En) (u : Up) : SL m u = xX m u.ch := by
 unfold SL xX Up.ch Up.uv Ch.en
 cases u.d <;> rfl
theorem aAE (l : List Up) : ∀ m : List En, s5 m l = lE m (l.map Up.ch) := by
 induction l with
 | nil => intro m; rfl
 | cons u l ih => intro m; show s5 (SL m u) l = lE (xX m u.ch) (l.map Up.ch); rw [aBY, ih]
theorem N2 {l : List Up} {m : List En} {i : Nat} (h : i < l.length) : s5 m (l.take (i + 1)) = SL (s5 m (l.take i)) l[i] := by
 unfold s5
 rw [List.take_succ_eq_append_getElem h, List.foldl_append]; rfl
def NB (l : List Ch) : Prop := l.Pairwise fun a b => a.k ≠ b.k
theorem BH : ∀ (l : List Ch) (m : List En) (e : En), NB l → (e ∈ lE m l ↔ (∃ c ∈ l, c.d = false ∧ e = c.en) ∨ (e ∈ m ∧ ∀ c ∈ l, e.k ≠ c.k))
 | [], m, e, _ => by simp [lE]
 | c :: l, m, e, hl => by
  have h1 := List.pairwise_cons.1 hl
  have ih := BH l (xX m c) e h1.2
  show e ∈ lE (xX m c) l ↔ _
  rw [ih, JD]
  constructor
  ·
   rintro (⟨x, hx, h2, h3⟩ | ⟨⟨h2, h3⟩ | ⟨h2, h3⟩, h4⟩)
   ·
    exact .inl ⟨x, List.mem_cons_of_mem _ hx, h2, h3⟩
   ·
    exact .inl ⟨c, by simp, h2, h3⟩
   ·
    refine .inr ⟨h2, fun x hx => ?_⟩
    rcases List.mem_cons.1 hx with rfl | hx
    ·
     exact h3
    ·
     exact h4 x hx
  ·
   rintro (⟨x, hx, h2, h3⟩ | ⟨h2, h3⟩)
   ·
    rcases List.mem_cons.1 hx with rfl | hx
    ·
     refine .inr ⟨.inl ⟨h2, h3⟩, fun y hy => ?_⟩
     rw [h3]
     exact h1.1 y hy
    ·
     exact .inl ⟨x, hx, h2, h3⟩
   ·
    exact .inr ⟨.inr ⟨h2, h3 c (by simp)⟩, fun x hx => h3 x (List.mem_cons_of_mem _ hx)⟩
theorem SM {l l' : List Ch} {m : List En} (hp : l.Perm l') (hd : NB l) (hs : lD m) (hk : KL m) (hx : XL l) : lE m l = lE m l' := by
 have V5 : NB l' := hd.perm hp fun h e => h e.symm
 have hx' : XL l' := fun c hc => hx c (hp.mem_iff.2 hc)
 refine lD.ext (kJ l m hs hk hx).1 (kJ l' m hs hk hx').1 fun e => ?_
 rw [BH l m e hd, BH l' m e V5]
 simp only [hp.mem_iff]
theorem nQ.ch {l : List Up} (h : nQ l) : XL (l.map Up.ch) ∧ NB (l.map Up.ch) ∧ oO (l.map Up.ch) := by
 refine ⟨fun c hc => ?_, (List.pairwise_map (f := Up.ch) (R := fun a b => a.k ≠ b.k)).2 h.2, fun c hc => ?_⟩
 ·
  obtain ⟨u, hu, rfl⟩ := List.mem_map.1 hc
  exact (c8.1 (h.1 u hu)).1
 ·
  obtain ⟨u, hu, rfl⟩ := List.mem_map.1 hc
  have := (c8.1 (h.1 u hu)).2
  show u.uv.length ≤ 1000000
  omega
def oJ (m : List En) (o : o7) : List En :=
 if o.n = 0 then (if bV o.k o.v = 0 then gJ m ⟨o.k, o.sv, o.v⟩ else m)
 else if o.n = 1 then m
 else if o.n = 2 then (if bV o.k [] = 0 then eX m o.k else m)
 else if (jM o.b).2 = 0 then s5 m o.b else m
def runM (l : List o7) : List En := l.foldl oJ []
theorem zA {l : List o7} {i : Nat} (h : i < l.length) : runM (l.take (i + 1)) = oJ (runM (l.take i)) l[i] := by
 unfold runM
 rw [List.take_succ_eq_append_getElem h, List.foldl_append]; rfl
structure dY (n : Nat) (m : List En) : Prop where
 s : lD m
 k : KL m
 l : m.length ≤ n
 v : ∀ e ∈ m, e.v.length ≤ 65535
theorem dY.short {n : Nat} {m : List En} (h : dY n m) : S6 m := fun e he => Nat.le_trans (h.v e he) (by decide)
theorem dY.nil (n : Nat) : dY n [] := ⟨List.Pairwise.nil, (fun _ h => by cases h), Nat.zero_le _, fun _ h => by cases h⟩
theorem dY.more {n n' : Nat} {m : List En} (h : dY n m) (hn : n ≤ n') : dY n' m := ⟨h.s, h.k, Nat.le_trans h.l hn, h.v⟩
theorem dY.put {n : Nat} {m : List En} {e : En} (h : dY n m) (hk : e.k.length = 32) (hv : e.v.length ≤ 65535) : dY (n + 1) (gJ m e) := by
 refine ⟨wE h.s h.k hk, A7 h.k hk, Nat.le_trans (DF m e) (Nat.succ_le_succ h.l), fun x hx => ?_⟩
 rcases nA.1 hx with rfl | hx
 ·
  exact hv
 ·
  exact h.v x hx.1
theorem dY.rm {n : Nat} {m : List En} {k : List UInt8} (h : dY n m) : dY n (eX m k) := by
 refine ⟨h.s.filter _, fun e he => h.k e (iO.1 he).1, Nat.le_trans (u7 m k) h.l, fun x hx => h.v x (iO.1 hx).1⟩
theorem dY.dG : ∀ (l : List Up) {n : Nat} {m : List En}, dY n m → (∀ u ∈ l, bV u.k u.uv = 0) → dY (n + l.length) (s5 m l)
 | [], _, _, h, _ => h
 | u :: l, n, m, h, hg => by
  have h1 := c8.1 (hg u (by simp))
  have h2 : dY (n + 1) (SL m u) := by
   unfold SL
   split
   ·
    exact h.rm.more (by omega)
   ·
    rename_i hd
    refine h.put h1.1 ?_
    have h3 := h1.2
    unfold Up.uv at h3
    rw [if_neg hd] at h3
    exact h3
  have h3 := dY.dG l h2 fun x hx => hg x (List.mem_cons_of_mem _ hx)
  exact h3.more (by rw [List.length_cons]; omega)
theorem dY.do {n : Nat} {m : List En} {o : o7} (h : dY n m) (hf : CH o.b) : dY (n + 20) (oJ m o) := by
 unfold oJ
 split
 ·
  split
  ·
   rename_i h1
   have h2 := c8.1 h1
   exact (h.put (e := ⟨o.k, o.sv, o.v⟩) h2.1 h2.2).more (by omega)
  ·
   exact h.more (by omega)
 ·
  split
  ·
   exact h.more (by omega)
  ·
   split
   ·
    split
    ·
     exact h.rm.more (by omega)
    ·
     exact h.more (by omega)
   ·
    split
    ·
     rename_i h1
     have := hf.1
     exact (dY.dG o.b h (tV h1).1).more (by omega)
    ·
     exact h.more (by omega)
theorem dY.run {l : List o7} (hf : FI l) : ∀ i, i ≤ l.length → dY (20 * i) (runM (l.take i))
 | 0, _ => dY.nil _
 | i + 1, h => by
  rw [zA (by omega)]
  have h1 := (dY.run hf i (by omega)).do (hf.2 l[i] (List.getElem_mem (by omega))).2.2
  exact h1.more (by omega)
theorem VO (l : List UInt8) (i : Nat) (h : i < l.length) : (kc l)[i]? = some (.int .u8 ((l.getD i 0).toNat : Int)) := by
 unfold kc
 rw [List.getElem?_map, List.getElem?_eq_getElem h, jT h]; rfl
theorem O6 : ∀ x : Fin 256, (⟨#[0, 1, 1, 2, 1, 2, 2, 3, 1, 2, 2, 3, 2, 3, 3, 4, 1, 2, 2, 3, 2, 3, 3, 4, 2, 3, 3, 4, 3, 4, 4, 5, 1, 2, 2, 3, 2, 3, 3, 4, 2, 3, 3, 4, 3, 4, 4, 5, 2, 3, 3, 4, 3, 4, 4, 5, 3, 4, 4, 5, 4, 5, 5, 6, 1, 2, 2, 3, 2, 3, 3, 4, 2, 3, 3, 4, 3, 4, 4, 5, 2, 3, 3, 4, 3, 4, 4, 5, 3, 4, 4, 5, 4, 5, 5, 6, 2, 3, 3, 4, 3, 4, 4, 5, 3, 4, 4, 5, 4, 5, 5, 6, 3, 4, 4, 5, 4, 5, 5, 6, 4, 5, 5, 6, 5, 6, 6, 7, 1, 2, 2, 3, 2, 3, 3, 4, 2, 3, 3, 4, 3, 4, 4, 5, 2, 3, 3, 4, 3, 4, 4, 5, 3, 4, 4, 5, 4, 5, 5, 6, 2, 3, 3, 4, 3, 4, 4, 5, 3, 4, 4, 5, 4, 5, 5, 6, 3, 4, 4, 5, 4, 5, 5, 6, 4, 5, 5, 6, 5, 6, 6, 7, 2, 3, 3, 4, 3, 4, 4, 5, 3, 4, 4, 5, 4, 5, 5, 6, 3, 4, 4, 5, 4, 5, 5, 6, 4, 5, 5, 6, 5, 6, 6, 7, 3, 4, 4, 5, 4, 5, 5, 6, 4, 5, 5, 6, 5, 6, 6, 7, 4, 5, 5, 6, 5, 6, 6, 7, 5, 6, 6, 7, 6, 7, 7, 8]⟩ : ByteArray)[x.val]? = some (UInt8.ofNat (pop8 x.val)) := by decide +kernel
theorem O7 (x : UInt8) : (⟨#[0, 1, 1, 2, 1, 2, 2, 3, 1, 2, 2, 3, 2, 3, 3, 4, 1, 2, 2, 3, 2, 3, 3, 4, 2, 3, 3, 4, 3, 4, 4, 5, 1, 2, 2, 3, 2, 3, 3, 4, 2, 3, 3, 4, 3, 4, 4, 5, 2, 3, 3, 4, 3, 4, 4, 5, 3, 4, 4, 5, 4, 5, 5, 6, 1, 2, 2, 3, 2, 3, 3, 4, 2, 3, 3, 4, 3, 4, 4, 5, 2, 3, 3, 4, 3, 4, 4, 5, 3, 4, 4, 5, 4, 5, 5, 6, 2, 3, 3, 4, 3, 4, 4, 5, 3, 4, 4, 5, 4, 5, 5, 6, 3, 4, 4, 5, 4, 5, 5, 6, 4, 5, 5, 6, 5, 6, 6, 7, 1, 2, 2, 3, 2, 3, 3, 4, 2, 3, 3, 4, 3, 4, 4, 5, 2, 3, 3, 4, 3, 4, 4, 5, 3, 4, 4, 5, 4, 5, 5, 6, 2, 3, 3, 4, 3, 4, 4, 5, 3, 4, 4, 5, 4, 5, 5, 6, 3, 4, 4, 5, 4, 5, 5, 6, 4, 5, 5, 6, 5, 6, 6, 7, 2, 3, 3, 4, 3, 4, 4, 5, 3, 4, 4, 5, 4, 5, 5, 6, 3, 4, 4, 5, 4, 5, 5, 6, 4, 5, 5, 6, 5, 6, 6, 7, 3, 4, 4, 5, 4, 5, 5, 6, 4, 5, 5, 6, 5, 6, 6, 7, 4, 5, 5, 6, 5, 6, 6, 7, 5, 6, 6, 7, 6, 7, 7, 8]⟩ : ByteArray)[x.toNat]? = some (UInt8.ofNat (pop8 x.toNat)) := O6 ⟨x.toNat, x.toNat_lt⟩
theorem NS : ∀ r : Fin 8, ∀ x : Fin 256, x.val ^^^ 2 ^ (7 - r.val) = if x.val / 2 ^ (7 - r.val) % 2 = 0 then x.val + 2 ^ (7 - r.val) else x.val - 2 ^ (7 - r.val) := by decide +kernel
theorem O5 : ∀ r : Fin 8, 2 ^ (7 - r.val) < 256 := by decide +kernel
def RD (B : List UInt8) (i : Nat) : UInt8 := if bH B i = 0 then UInt8.ofNat ((B.getD (i / 8) 0).toNat + 2 ^ (7 - i % 8)) else UInt8.ofNat ((B.getD (i / 8) 0).toNat - 2 ^ (7 - i % 8))
theorem NR (B : List UInt8) (i : Nat) : IntKind.u8.wrap ((BitVec.ofInt IntKind.u8.bits ((B.getD (i / 8) 0).toNat : Int) ^^^ BitVec.ofInt IntKind.u8.bits ((2 ^ (7 - i % 8) : Nat) : Int)).toNat : Int) = ((RD B i).toNat : Int) := by
 have hx := (B.getD (i / 8) 0).toNat_lt
 have hp := O5 ⟨i % 8, by omega⟩
 have h1 := NS ⟨i % 8, by omega⟩ ⟨(B.getD (i / 8) 0).toNat, hx⟩
 dsimp only at h1 hp
 have e2 : UInt8.ofNat (2 ^ (7 - i % 8)) = UInt8.ofNat (2 ^ (7 - i % 8)) := rfl
 have h2 : ((2 ^ (7 - i % 8) : Nat) : Int) = ((UInt8.ofNat (2 ^ (7 - i % 8))).toNat : Int) := by rw [UInt8.toNat_ofNat_of_lt' hp]
 rw [h2, aCF, UInt8.toNat_xor, UInt8.toNat_ofNat_of_lt' hp, h1]
 have hb : bH B i = (B.getD (i / 8) 0).toNat / 2 ^ (7 - i % 8) % 2 := rfl
 have hlt := Nat.xor_lt_two_pow (n := 8) hx hp
 rw [h1] at hlt
 unfold RD
 rw [hb]
 split
 ·
  rename_i h; rw [if_pos h] at hlt; rw [UInt8.toNat_ofNat_of_lt' hlt]
 ·
  rename_i h; rw [if_neg h] at hlt; rw [UInt8.toNat_ofNat_of_lt' hlt]
theorem O4 {r : Nat} (h : r < 8) : IntKind.u8.wrap (1 * 2 ^ (min ((7 - r : Nat) : Int).toNat IntKind.u8.bits)) = ((2 ^ (7 - r) : Nat) : Int) := by
 have : ∀ r : Fin 8, IntKind.u8.wrap (1 * 2 ^ (min ((7 - r.val : Nat) : Int).toNat IntKind.u8.bits)) = ((2 ^ (7 - r.val) : Nat) : Int) := by decide +kernel
 exact this ⟨r, h⟩
def nB (l : List Nat) : Int := match l.getLast? with | none => -1 | some d => (d : Int)
theorem GI (l : List Nat) (d : Nat) : nB (l ++ [d]) = (d : Int) := by unfold nB; simp
theorem HJ {R : List UInt8} (hR : R.length = 32) {c : Nat} (hc : c < 256) (h1 : bH R c = 1) (h0 : ∀ j, j < c → bH R j = 0) : bitsOf R 256 = c :: bitsOf (pI R c) 256 := by
 unfold bitsOf
 have e : List.range 256 = List.range c ++ (c :: (List.range (255 - c)).map fun x => c + (x + 1)) := by
  have h2 : 256 = c + (1 + (255 - c)) := by omega
  rw [h2, List.range_add, List.range_add, List.map_append, List.map_map]
  have h3 : c + (1 + (255 - c)) = 256 := by omega
  simp [Function.comp_def, Nat.add_comm]
 rw [e, List.filter_append, List.filter_append]
 have f1 : (List.range c).filter (fun i => decide (bH R i = 1)) = [] := List.filter_eq_nil_iff.2 fun i hi => by
  rw [h0 i (List.mem_range.1 hi)]; decide
 have f2 : (List.range c).filter (fun i => decide (bH (pI R c) i = 1)) = [] := List.filter_eq_nil_iff.2 fun i hi => by
  have hi' := List.mem_range.1 hi
  rw [tZ hR hc, if_neg (by omega), h0 i hi']; decide
 rw [f1, f2, List.filter_cons_of_pos (by simp [h1]), List.filter_cons_of_neg (by rw [tZ hR hc, if_pos rfl]; decide)]
 rw [List.nil_append, List.nil_append]
 congr 1
 refine List.filter_congr fun i hi => ?_
 obtain ⟨x, _, rfl⟩ := List.mem_map.1 hi
 rw [tZ hR hc, if_neg (by omega)]
theorem R1 {R : List UInt8} (hR : R.length = 32) (hne : R ≠ List.replicate 32 0) : fB R (List.replicate 32 0) < 256 ∧ bH R (fB R (List.replicate 32 0)) = 1 ∧ ∀ j, j < fB R (List.replicate 32 0) → bH R j = 0 := by
 have hz : (List.replicate 32 (0 : UInt8)).length = 32 := List.length_replicate
 have h1 := J4 R (List.replicate 32 0)
 obtain ⟨_, aHL, aHJ⟩ := oL R (List.replicate 32 0)
 have h2 : fB R (List.replicate 32 0) ≠ 256 := fun h => hne ((nJ hR hz).1 (by omega))
 have z : ∀ j, bH (List.replicate 32 (0 : UInt8)) j = 0 := tY
 have h3 : fB R (List.replicate 32 0) < 256 := by omega
 refine ⟨h3, ?_, fun j hj => ?_⟩
 ·
  have := aHJ h3
  rw [z] at this
  have := eD R (fB R (List.replicate 32 0))
  omega
 ·
  have := aHL j hj
  rw [z] at this
  exact this
theorem E3 : bitsOf (List.replicate 32 (0 : UInt8)) 256 = [] := List.filter_eq_nil_iff.2 fun i _ => by
 have : bH (List.replicate 32 (0 : UInt8)) i = 0 := tY i
 rw [this]; decide
def wO (n : Nat) : Value := .int .i64 (n : Int)
theorem II {X : Nat → Prop} {w : World} {B : List UInt8} {d : Nat} (hX : cU X w) (hB : B.length = 32) (hd : d < 256) :
  bF prog 75 [.agg (kc B).toArray, .int .i64 (d : Int)].toArray w fun v w' => v = .bool (decide (bH B d = 1)) ∧ Out Nil w w' := by
 refine bF.aI (N := 9) func75 rfl rfl (by simp) ?_
 have H := St.begin hX
 refine WE.aA ?_
 refine WL.box (l := kc B) H rfl rfl rfl ?_
 intro b2 w1 H
 refine WL.as rfl rfl (WL.nil (WE.aA ?_))
 refine WL.bC rfl lZ rfl rfl (aM.aF (H.l 0 rfl) (aJ.all _) rfl) (cH jK (by simp only [aR, aU, aB]; omega)) ?_
 refine WL.mv rfl rfl ?_
 refine WL.call EL rfl (jJ (k := B) (d := d) H.aS  (by assumption) (by assumption)) ?_
 rintro _ w2 ⟨rfl, hO⟩
 replace H := H.out hO
 refine WL.pv (PV.eql rfl rfl rfl) rfl (WL.as rfl rfl (WL.nil (WE.ret ⟨[_], _, .nil _, ⟨rfl, trivial⟩, ?_⟩)))
 refine ⟨?_, H.aL⟩
 show Value.bool _ = Value.bool _
 congr 1
 rw [decide_eq_decide]
 omega
theorem KC {X : Nat → Prop} {w : World} {B : List UInt8} {d : Nat} (hX : cU X w) (hB : B.length = 32) (hd : d < 256) :
  bF prog 76 [.agg (kc B).toArray, .int .i64 (d : Int)].toArray w fun v w' => v = .agg (kc (nI B d)).toArray ∧ Out Nil w w' := by
 refine bF.aI (N := 22) func76 rfl rfl (by simp) ?_
 have H := St.begin hX
 have hx := (B.getD (d / 8) 0).toNat_lt
 have JO := jV B d
 refine WE.aA ?_
 refine WL.box (l := kc B) H rfl rfl rfl ?_
 intro b2 w1 H
 refine WL.alloc H rfl rM rfl ?_
 intro b4 w2 H
 refine WL.nil (WE.seq (WE.aA (WL.mv rfl rfl (WL.pv (PV.geq rfl rfl rfl) rfl (WL.mv rfl rfl (WL.known (t := 7) (c := true) rfl rfl (WL.mv rfl rfl ?_)))))))
 refine WL.pv (PV.lss rfl rfl rfl) rfl (WL.pv (PV.dB rfl rfl rfl) rfl (WL.nil ?_))
 refine WE.cO rfl (by (simp; omega)) ?_
 refine WE.draw (.take 0 (.take 1 (.take 2 (.take 3 (.take 4 (.take 5 (.take 6 (.take 7 (.take 8 (.take 9 (.aG 10 .done))))))))))) mixed (by kernel_rfl) ?_
 replace H := H.out (Out.drew _)
 refine WP.mv rfl rfl rfl ?_
 refine WP.aC rfl rfl (PV.eq (v' := .int .i64 ((d / 8 : Nat) : Int)) (PV.zD rfl rfl rfl (by omega) (by omega) (by omega)) rfl) ?_
 refine WP.aC rfl rfl (PV.cF rfl gM gY rfl rfl (by omega) (by omega)) (WP.aQ rfl rfl (RV.aZ rfl CE rfl) (aM.R9 (H.l 1 rfl) (d / 8) (by omega) (by omega)) (WP.mv rfl rfl rfl ?_))
 refine WP.aC rfl rfl (PV.eq (v' := .int .i64 ((d % 8 : Nat) : Int)) (PV.uJ rfl rfl rfl (by omega) (by omega)) rfl) ?_
 refine WP.aC rfl rfl (PV.eq (v' := .int .i64 ((7 - d % 8 : Nat) : Int)) (PV.iS rfl rfl rfl (by omega) (by omega)) (by (congr 1; omega))) ?_
 refine WP.aC rfl rfl (PV.eq (v' := .int .u8 ((2 ^ (7 - d % 8) : Nat) : Int)) (PV.UW rfl rfl rfl (by omega)) (congrArg (Value.int .u8) (O4 (Nat.mod_lt d (by decide))))) ?_
 refine WP.aC rfl rfl (PV.eq (v' := .int .u8 ((RD B d).toNat : Int)) (PV.aAz rfl rfl rfl) (congrArg (Value.int .u8) (NR B d))) ?_
 refine WP.aC rfl rfl (PV.cF rfl gM gY rfl rfl (by omega) (by omega)) (WP.aG rfl ?_)
 refine WL.aT H 1 rfl rfl rfl (new := _) rfl (by exact gY) (bE _ rfl) (Laid.at (Laid.AH (d / 8) (by omega)) (by omega)) rfl ?_
 intro w3 H
 replace H := H.conv (L' := [aN.blk b4 24 (kc (List.replicate 32 0)), aN.blk b2 24 (kc (nI B d))]) rfl
 refine WL.nil ⟨(fa (nw 10 3) c5), ?_⟩
 refine WP.done (WE.aA ?_)
 refine WL.bC rfl cV rfl rfl (aM.aF (H.l 1 rfl) (aJ.all _) rfl) (cH cM (by simp only [aR, aU, aB]; omega)) ?_
 refine WL.aT H 0 rfl rfl rfl (new := kc (nI B d)) rfl (cH cM (by simp only [aR, aU, aB]; omega)) (bJ _) (Laid.at (Laid.all (by simp only [aR, aU, aB]; omega)) rfl) rfl ?_
 intro w4 H
 refine WL.nil (WE.ret ⟨[_], _, .nil _, ⟨⟨_, rfl, aW cV (aM.aF (H.l 0 rfl) (aJ.all _) rfl) (cH cM (by simp only [aR, aU, aB]; omega))⟩, trivial⟩, ?_⟩)
 exact ⟨rfl, H.aL⟩
theorem YF {X : Nat → Prop} {w : World} {B : List UInt8} {d : Nat} (hX : cU X w) (hB : B.length = 32) (hd : d < 256) :
  bF prog 34 [.agg (kc B).toArray, .int .i64 (d : Int)].toArray w fun v w' => v = .agg (kc (oP B d)).toArray ∧ Out Nil w w' := by
 refine bF.aI (N := 12) func34 rfl rfl (by simp) ?_
 have H := St.begin hX
 have JO := jV B d
 refine WE.aA ?_
 refine WL.box (l := kc B) H rfl rfl rfl ?_
 intro b2 w1 H
 refine WL.alloc H rfl KT rfl ?_
 intro b4 w2 H
 refine WL.nil (WE.seq (WE.aA ?_))
 refine WL.bC rfl lZ rfl rfl (aM.aF (H.l 1 rfl) (aJ.all _) rfl) (cH jK (by simp only [aR, aU, aB]; omega)) ?_
 refine WL.mv rfl rfl ?_
 refine WL.call aBI rfl (II (B := B) (d := d) H.aS  (by assumption) (by assumption)) ?_
 rintro _ w3 ⟨rfl, hO⟩
 replace H := H.out hO
 refine WL.nil ?_
 refine WE.cond rfl (fun yU => ?_) (fun yU => ?_)
 ·
  try simp only [bU] at yU
  have h1 : bH B d = 1 := by exact yU
  have hw : oP B d = B := if_pos h1
  refine WE.aA ?_
  refine WL.bC rfl lZ rfl rfl (aM.aF (H.l 1 rfl) (aJ.all _) rfl) (cH jK (by simp only [aR, aU, aB]; omega)) ?_
  refine WL.aT H 0 rfl rfl rfl (new := kc B) rfl (cH jK (by simp only [aR, aU, aB]; omega)) (bJ _) (Laid.at (Laid.all (by simp only [aR, aU, aB]; omega)) rfl) rfl ?_
  intro w4 H
  refine WL.nil (WE.ret ⟨[_], _, .nil _, ⟨⟨_, rfl, aW lZ (aM.aF (H.l 0 rfl) (aJ.all _) rfl) (cH jK (by simp only [aR, aU, aB]; omega))⟩, trivial⟩, ?_⟩)
  exact ⟨by rw [hw]; rfl, H.aL⟩
 ·
  try simp only [bU] at yU
  have h1 : ¬ bH B d = 1 := by exact yU
  have hw : oP B d = nI B d := if_neg h1
  refine WE.skip (WE.aA ?_)
  refine WL.bC rfl lZ rfl rfl (aM.aF (H.l 1 rfl) (aJ.all _) rfl) (cH jK (by simp only [aR, aU, aB]; omega)) ?_
  refine WL.mv rfl rfl ?_
  refine WL.call aEI rfl (KC (B := B) (d := d) H.aS  (by assumption) (by assumption)) ?_
  rintro _ w5 ⟨rfl, hO⟩
  replace H := H.out hO
  refine WL.aT H 0 rfl rfl rfl (new := kc (nI B d)) rfl (cH jK (by simp only [aR, aU, aB]; omega)) (bJ _) (Laid.at (Laid.all (by simp only [aR, aU, aB]; omega)) rfl) rfl ?_
  intro w6 H
  refine WL.nil (WE.ret ⟨[_], _, .nil _, ⟨⟨_, rfl, aW lZ (aM.aF (H.l 0 rfl) (aJ.all _) rfl) (cH jK (by simp only [aR, aU, aB]; omega))⟩, trivial⟩, ?_⟩)
  exact ⟨by rw [hw]; rfl, H.aL⟩
theorem YH {X : Nat → Prop} {w : World} {B : List UInt8} {d : Nat} (hX : cU X w) (hB : B.length = 32) (hd : d < 256) :
  bF prog 163 [.agg (kc B).toArray, .int .i64 (d : Int)].toArray w fun v w' => v = .agg (kc (pI B d)).toArray ∧ Out Nil w w' := by
 refine bF.aI (N := 13) func163 rfl rfl (by simp) ?_
 have H := St.begin hX
 have JO := jV B d
 refine WE.aA ?_
 refine WL.box (l := kc B) H rfl rfl rfl ?_
 intro b2 w1 H
 refine WL.alloc H rfl KT rfl ?_
 intro b4 w2 H
 refine WL.nil (WE.seq (WE.aA ?_))
 refine WL.bC rfl lZ rfl rfl (aM.aF (H.l 1 rfl) (aJ.all _) rfl) (cH jK (by simp only [aR, aU, aB]; omega)) ?_
 refine WL.mv rfl rfl ?_
 refine WL.call aBI rfl (II (B := B) (d := d) H.aS  (by assumption) (by assumption)) ?_
 rintro _ w3 ⟨rfl, hO⟩
 replace H := H.out hO
 refine WL.pv (PV.not rfl rfl) rfl (WL.nil ?_)
 refine WE.cond rfl (fun mP => ?_) (fun mP => ?_)
 ·
  try simp only [bU] at mP
  have h1 : ¬ bH B d = 1 := by exact mP
  have hw : pI B d = B := if_neg h1
  refine WE.aA ?_
  refine WL.bC rfl lZ rfl rfl (aM.aF (H.l 1 rfl) (aJ.all _) rfl) (cH jK (by simp only [aR, aU, aB]; omega)) ?_
  refine WL.aT H 0 rfl rfl rfl (new := kc B) rfl (cH jK (by simp only [aR, aU, aB]; omega)) (bJ _) (Laid.at (Laid.all (by simp only [aR, aU, aB]; omega)) rfl) rfl ?_
  intro w4 H
  refine WL.nil (WE.ret ⟨[_], _, .nil _, ⟨⟨_, rfl, aW lZ (aM.aF (H.l 0 rfl) (aJ.all _) rfl) (cH jK (by simp only [aR, aU, aB]; omega))⟩, trivial⟩, ?_⟩)
  exact ⟨by rw [hw]; rfl, H.aL⟩
 ·
  try simp only [bU] at mP
  have h1 : bH B d = 1 := by exact mP
  have hw : pI B d = nI B d := if_pos h1
  refine WE.skip (WE.aA ?_)
  refine WL.bC rfl lZ rfl rfl (aM.aF (H.l 1 rfl) (aJ.all _) rfl) (cH jK (by simp only [aR, aU, aB]; omega)) ?_
  refine WL.mv rfl rfl ?_
  refine WL.call aEI rfl (KC (B := B) (d := d) H.aS  (by assumption) (by assumption)) ?_
  rintro _ w5 ⟨rfl, hO⟩
  replace H := H.out hO
  refine WL.aT H 0 rfl rfl rfl (new := kc (nI B d)) rfl (cH jK (by simp only [aR, aU, aB]; omega)) (bJ _) (Laid.at (Laid.all (by simp only [aR, aU, aB]; omega)) rfl) rfl ?_
  intro w6 H
  refine WL.nil (WE.ret ⟨[_], _, .nil _, ⟨⟨_, rfl, aW lZ (aM.aF (H.l 0 rfl) (aJ.all _) rfl) (cH jK (by simp only [aR, aU, aB]; omega))⟩, trivial⟩, ?_⟩)
  exact ⟨by rw [hw]; rfl, H.aL⟩
theorem X2 {X : Nat → Prop} {w : World} {x : UInt8} (hX : cU X w) :
  bF prog 165 [.int .u8 (x.toNat : Int)].toArray w fun v w' => v = .int .i64 (pop8 x.toNat : Int) ∧ Out Nil w w' := by
 refine bF.aI (N := 6) func165 rfl rfl (by simp) ?_
 have H := St.begin hX
 have hle := I8 x.toNat
 refine WE.aA (WL.as rfl rfl (WL.nil (WE.aA (WL.mv rfl rfl (WL.pv (PV.DX (i := x.toNat) rfl (by kernel_rfl) rfl rfl (O7 x)) rfl ?_)))))
 refine WL.pv (PV.eq (v' := .int .i64 ((pop8 x.toNat : Nat) : Int)) (PV.mL rfl oW yD rfl (by omega) (by have := (UInt8.ofNat (pop8 x.toNat)).toNat_lt; omega)) (by congr 1; rw [UInt8.toNat_ofNat_of_lt' (by show _ < 256; omega)])) rfl ?_
 refine WL.as rfl rfl (WL.nil (WE.ret ⟨[_], _, .nil _, ⟨rfl, trivial⟩, ?_⟩))
 exact ⟨rfl, H.aL⟩
theorem aCq {X : Nat → Prop} {w : World} {B : List UInt8} (hX : cU X w) (hB : B.length = 32) :
  bF prog 120 [.agg (kc B).toArray].toArray w fun v w' => v = .int .i64 ((bitsOf B 256).length : Int) ∧ Out Nil w w' := by
 refine bF.aI (N := 16) func120 rfl rfl (by simp) ?_
 have H := St.begin hX
 refine WE.aA ?_
 refine WL.box (l := kc B) H rfl rfl rfl ?_
 intro b1 w1 H
 refine WL.as rfl rfl (WL.nil (WE.aA (WL.as rfl rfl (WL.nil (WE.seq (WE.aA ?_))))))
 refine WL.bC rfl lZ rfl rfl (aM.aF (H.l 0 rfl) (aJ.all _) rfl) (cH jK (by simp only [aR, aU, aB]; omega)) ?_
 refine WL.mv rfl rfl (WL.nil (WE.block ?_))
 refine WE.loop (α := Nat) (rg [(3, 1), (5, 1), (7, 8)]) (fun i => [(3, .int .i64 ((bitsOf B (8 * i)).length : Int)), (7, .int .i64 (i : Int))]) (fun i wl => i ≤ 32 ∧ St X w wl [] [aN.blk b1 85 (kc B)] []) (fun i => 32 - i) 0 ⟨rfl, rfl, trivial⟩ ⟨Nat.zero_le _, H⟩ ?_
 intro i γ0 w2 hI
 try dsimp only at hI
 obtain ⟨hi, H⟩ := hI
 refine WE.aA (WL.pv (PV.lss rfl rfl rfl) rfl (WL.nil (WE.seq ?_)))
 refine WE.cond rfl (fun mP => ?_) (fun mP => ?_)
 ·
  try simp only [bU] at mP
  have hlt : i < 32 := by omega
  have hbb := E4 B i
  have ZS := rC B (8 * i)
  have hp8 := I8 (B.getD i 0).toNat
  refine WE.skip (WE.seq (WE.block (WE.aA (WL.pv (PV.GO (l := kc B) rfl aBX gY CE rfl rfl (by omega) (VO B i (by omega))) rfl (WL.as rfl rfl (WL.nil (WE.eH ?_)))))))
  refine WL.mv rfl rfl (WL.mv rfl rfl ?_)
  refine WL.call aFk rfl (X2 (x := B.getD i 0) H.aS  ) ?_
  rintro _ w3 ⟨rfl, hO⟩
  replace H := H.out hO
  refine WL.pv (PV.eq (v' := .int .i64 (((bitsOf B (8 * i)).length + pop8 (B.getD i 0).toNat : Nat) : Int)) (PV.bY rfl rfl rfl (by omega) (by omega)) rfl) rfl ?_
  refine WL.as rfl rfl (WL.nil (WE.eH (WL.pv (PV.eq (v' := .int .i64 ((i + 1 : Nat) : Int)) (PV.bY rfl rfl rfl (by omega) (by omega)) rfl) rfl (WL.mv rfl rfl (WL.nil ?_)))))
  exact ⟨i + 1, (by repeat (first | with_reducible exact bQ.refl _ _ | refine bQ.dG rfl ?_ | refine bQ.cC rfl ?_ | refine bQ.cB rfl ?_)), ⟨(by rw [hbb]; rfl), rfl, trivial⟩, rfl, ⟨by omega, H⟩, (by omega)⟩
 ·
  try simp only [bU] at mP
  have uN : i = 32 := by omega
  refine WE.exit (WE.aA (WL.mv rfl rfl (WL.as rfl rfl (WL.nil (WE.ret ⟨[_], _, .nil _, ⟨rfl, trivial⟩, ?_⟩)))))
  subst uN
  exact ⟨rfl, H.aL⟩
theorem YG {X : Nat → Prop} {w : World} {B : List UInt8} (hX : cU X w) (hB : B.length = 32) :
  bF prog 212 [.agg (kc B).toArray].toArray w fun v w' => Out Nil w w' ∧ aH X (jW v ((bitsOf B 256).map wO)) w' := by
 refine bF.aI (N := 17) func212 rfl rfl (by simp) ?_
 have H := St.begin hX
 refine WE.aA ?_
 refine WL.box (l := kc B) H rfl rfl rfl ?_
 intro b1 w1 H
 refine WL.as rfl rfl (WL.nil (WE.aA (WL.as rfl rfl ?_)))
 replace H := H.lK 3 1
 refine WL.nil (WE.seq (WE.aA (WL.mv rfl rfl (WL.nil (WE.block ?_)))))
 refine WE.loop (α := Nat × Value) (rg [(3, 13)]) (fun p => [(5, .int .i64 (p.1 : Int)), (3, p.2)]) (fun p wl => p.1 ≤ 256 ∧ St X w wl [] [aN.iA w.heap.size p.2 3 1 (bitsOf B (p.1)).length ((bitsOf B (p.1)).map wO), aN.blk b1 85 (kc B)] []) (fun p => 256 - p.1) (0, .slice none 0 0) ⟨rfl, rfl, trivial⟩ ⟨Nat.zero_le _, H⟩ ?_
 intro ⟨i, q⟩ γ0 w2 hI
 try dsimp only at hI
 obtain ⟨hi, H⟩ := hI
 refine WE.aA (WL.pv (PV.lss rfl rfl rfl) rfl (WL.nil (WE.seq ?_)))
 refine WE.cond rfl (fun QT => ?_) (fun QT => ?_)
 ·
  try simp only [bU] at QT
  have hlt : i < 256 := by omega
  have ZS := rC B i
  refine WE.skip ?_
  refine WE.cut (α := Value) (rg [(3, 2), (7, 8)]) (fun g_ => [(3, g_)]) (fun g_ wl => St X w wl [] [aN.iA w.heap.size g_ 3 1 (bitsOf B (i + 1)).length ((bitsOf B (i + 1)).map wO), aN.blk b1 85 (kc B)] []) ?_ ?_
  ·
   refine WE.block (WE.aA (WL.mv rfl rfl (WL.as rfl rfl (WL.nil (WE.aA ?_)))))
   refine WL.bC rfl lZ rfl rfl (aM.aF (H.l 1 rfl) (aJ.all _) rfl) (cH jK (by simp only [aR, aU, aB]; omega)) ?_
   refine WL.mv rfl rfl ?_
   refine WL.call aBI rfl (II (B := B) (d := i) H.aS  (by assumption) (by assumption)) ?_
   rintro _ w3 ⟨rfl, hO⟩
   replace H := H.out hO
   refine WL.nil ?_
   refine WE.cond rfl (fun kW => ?_) (fun kW => ?_)
   ·
    try simp only [bU] at kW
    have h1 : bH B i = 1 := by exact kW
    refine WE.eH (WL.mv rfl rfl (WL.mv rfl rfl ?_))
    refine WL.bL (l0 := [.int .i64 (0)]) H rfl rR (by decide) (dH _ _) (Fl.cons rfl rfl (by simp only [aR, aU, aB]) Laid.head Fl.nil) rfl ?_
    intro b13 w4 H
    refine WL.append (m := 1) H 1 rR (by decide) rfl rfl rfl (cR.bZ (n := 1) (H.l 0 rfl) rfl) (bE _ rfl) (by omega) (by decide) rfl ?_
    intro v14 w5 H
    replace H := H.forget 0
    replace H := H.conv (L' := [aN.iA w.heap.size v14 3 1 (bitsOf B (i + 1)).length ((bitsOf B (i + 1)).map wO), aN.blk b1 85 (kc B)]) (by rw [uP, if_pos h1, List.length_append, List.map_append]; rfl)
    refine WL.as rfl rfl (WL.nil ?_)
    exact ⟨v14, (by repeat (first | with_reducible exact bQ.refl _ _ | refine bQ.dG rfl ?_)), ⟨rfl, trivial⟩, rfl, H⟩
   ·
    try simp only [bU] at kW
    have h1 : ¬ bH B i = 1 := by exact kW
    replace H := H.conv (L' := [aN.iA w.heap.size q 3 1 (bitsOf B (i + 1)).length ((bitsOf B (i + 1)).map wO), aN.blk b1 85 (kc B)]) (by rw [uP, if_neg h1])
    refine WE.skip ?_
    exact ⟨q, (by repeat (first | with_reducible exact bQ.refl _ _ | refine bQ.dG rfl ?_)), ⟨rfl, trivial⟩, rfl, H⟩
  ·
   intro g_ γ w6 hI
   try dsimp only at hI
   replace H := hI
   refine WE.eH (WL.pv (PV.eq (v' := .int .i64 ((i + 1 : Nat) : Int)) (PV.bY rfl rfl rfl (by omega) (by omega)) rfl) rfl (WL.mv rfl rfl (WL.nil ?_)))
   exact ⟨(i + 1, g_), (by repeat (first | with_reducible exact bQ.refl _ _ | refine bQ.dG rfl ?_ | refine bQ.cC rfl ?_ | refine bQ.cB rfl ?_)), ⟨rfl, rfl, trivial⟩, rfl, ⟨by dsimp only; omega, H⟩, (by dsimp only; omega)⟩
 ·
  try simp only [bU] at QT
  have uN : i = 256 := by omega
  refine WE.exit (WE.aA (WL.mv rfl rfl (WL.as rfl rfl (WL.nil (WE.ret ⟨[_], _, .nil _, ⟨rfl, trivial⟩, ?_⟩)))))
  subst uN
  replace H := H.freeze (i := 0) rfl
  exact ⟨H.aL, H.gQ ((H.bK 0 rfl).imp fun _ h => by have h_ := cR.eM h; unfold jW; rw [List.length_map]; exact h_)⟩
theorem YI {X : Nat → Prop} {w : World} {B : List UInt8} (hX : cU X w) (hB : B.length = 32) :
  bF prog 118 [.agg (kc B).toArray].toArray w fun v w' => v = .int .i64 (nB (bitsOf B 256)) ∧ Out Nil w w' := by
 refine bF.aI (N := 17) func118 rfl rfl (by simp) ?_
 have H := St.begin hX
 have BN : (List.replicate 32 (0 : UInt8)).length = 32 := List.length_replicate
 refine WE.aA ?_
 refine WL.box (l := kc B) H rfl rfl rfl ?_
 intro b1 w1 H
 refine WL.as rfl rfl (WL.nil (WE.aA (WL.as rfl rfl (WL.nil (WE.seq (WE.aA ?_))))))
 refine WL.bC rfl lZ rfl rfl (aM.aF (H.l 0 rfl) (aJ.all _) rfl) (cH jK (by simp only [aR, aU, aB]; omega)) ?_
 refine WL.alloc H rfl KT rfl ?_
 intro b4 w2 H
 refine WL.aT H 0 rfl rfl rfl (new := kc B) rfl (cH jK (by simp only [aR, aU, aB]; omega)) (bJ _) (Laid.at (Laid.all (by simp only [aR, aU, aB]; omega)) rfl) rfl ?_
 intro w3 H
 refine WL.nil (WE.block ?_)
 refine WE.loop (α := List Nat × List UInt8 × Nat) (rg [(3, 2), (6, 10)]) (fun p => [(3, .int .i64 (nB p.1)), (4, .pointer (some ⟨p.2.2, 0, none⟩))]) (fun p wl => (bitsOf B 256 = p.1 ++ bitsOf p.2.1 256 ∧ p.2.1.length = 32) ∧ St X w wl [] [aN.blk p.2.2 85 (kc p.2.1), aN.blk b1 85 (kc B)] []) (fun p => (bitsOf p.2.1 256).length) ([], B, b4) ⟨rfl, rfl, trivial⟩ ⟨⟨rfl, hB⟩, H⟩ ?_
 intro ⟨pre, R, bb⟩ γ0 w4 hI
 try dsimp only at hI
 obtain ⟨⟨rK, hR⟩, H⟩ := hI
 try dsimp only at rK hR
 refine WE.seq (WE.aA ?_)
 refine WL.bC rfl lZ rfl rfl (aM.aF (H.l 0 rfl) (aJ.all _) rfl) (cH jK (by simp only [aR, aU, aB]; omega)) ?_
 refine WL.pv (PV.mM rfl aBX gY KT Fl.nil) rfl (WL.pv (PV.PM rfl aBX oW gY (by kernel_rfl) rfl rfl (by assumption) (by assumption)) rfl (WL.nil ?_))
 refine WE.cond rfl (fun mP => ?_) (fun mP => ?_)
 ·
  try simp only [bU] at mP
  have hne : R ≠ List.replicate 32 0 := by exact mP
  have hcz := R1 hR hne
  have hbf := HJ hR hcz.1 hcz.2.1 hcz.2.2
  have NH := BJ R (fB R (List.replicate 32 0))
  have hlt := hcz.1
  refine WE.skip (WE.seq (WE.block (WE.eH ?_)))
  refine WL.bC rfl lZ rfl rfl (aM.aF (H.l 0 rfl) (aJ.all _) rfl) (cH jK (by simp only [aR, aU, aB]; omega)) ?_
  refine WL.pv (PV.mM rfl gM gY rM Fl.nil) rfl ?_
  refine WL.call RK rfl (yA (a := R) (b := List.replicate 32 0) H.aS  (by assumption) (by assumption)) ?_
  rintro _ w5 ⟨rfl, hO⟩
  replace H := H.out hO
  refine WL.as rfl rfl (WL.nil (WE.seq (WE.aA ?_)))
  refine WL.bC rfl lZ rfl rfl (aM.aF (H.l 0 rfl) (aJ.all _) rfl) (cH jK (by simp only [aR, aU, aB]; omega)) ?_
  refine WL.nil (WE.eH ?_)
  refine WL.alloc H rfl KT rfl ?_
  intro b4 w6 H
  refine WL.aT H 0 rfl rfl rfl (new := kc R) rfl (cH jK (by simp only [aR, aU, aB]; omega)) (bJ _) (Laid.at (Laid.all (by simp only [aR, aU, aB]; omega)) rfl) rfl ?_
  intro w7 H
  refine WL.nil (WE.eH ?_)
  refine WL.bC rfl lZ rfl rfl (aM.aF (H.l 0 rfl) (aJ.all _) rfl) (cH jK (by simp only [aR, aU, aB]; omega)) ?_
  refine WL.mv rfl rfl ?_
  refine WL.call aFl rfl (YH (B := R) (d := fB R (List.replicate 32 0)) H.aS  (by assumption) (by assumption)) ?_
  rintro _ w8 ⟨rfl, hO⟩
  replace H := H.out hO
  refine WL.aT H 0 rfl rfl rfl (new := kc (pI R (fB R (List.replicate 32 0)))) rfl (cH jK (by simp only [aR, aU, aB]; omega)) (bJ _) (Laid.at (Laid.all (by simp only [aR, aU, aB]; omega)) rfl) rfl ?_
  intro w9 H
  refine WL.nil ?_
  replace H := H.forget 1
  exact ⟨(pre ++ [fB R (List.replicate 32 0)], pI R (fB R (List.replicate 32 0)), b4), (by repeat (first | with_reducible exact bQ.refl _ _ | refine bQ.dG rfl ?_ | refine bQ.cC rfl ?_ | refine bQ.cB rfl ?_)), ⟨(by dsimp only; rw [GI]; rfl), rfl, trivial⟩, rfl, ⟨⟨by dsimp only; rw [rK, hbf, List.append_assoc]; rfl, by dsimp only; rw [NH, hR]⟩, H⟩, (by dsimp only; rw [hbf, List.length_cons]; omega)⟩
 ·
  try simp only [bU] at mP
  have hre : R = List.replicate 32 0 := by exact mP
  rw [hre, E3, List.append_nil] at rK
  refine WE.exit (WE.aA (WL.mv rfl rfl (WL.as rfl rfl (WL.nil (WE.ret ⟨[_], _, .nil _, ⟨rfl, trivial⟩, ?_⟩)))))
  refine ⟨?_, H.aL⟩
  rw [rK]; rfl
theorem _root_.Go.Sp.CQ : cG prog 35 = some ([.int .i64 0] ++ ([.int .i64 0] ++ ((kc (List.replicate 32 0) ++ kc (List.replicate 32 0)) ++ (kc (List.replicate 32 0) ++ [.slice none 0 0])))) := by kernel_rfl
def fG (kd dp : Nat) (lk lv B : List UInt8) (sl : Value) : List Value := [.int .i64 (kd : Int)] ++ ([.int .i64 (dp : Int)] ++ ((kc lk ++ kc lv) ++ (kc B ++ [sl])))
theorem gB {kd dp : Nat} {lk lv B : List UInt8} {sl : Value} (hk : lk.length = 32) (hv : lv.length = 32) (hB : B.length = 32) : (fG kd dp lk lv B sl).length = 99 := by simp [fG, aO, hk, hv, hB]
theorem aD (kd dp : Nat) (lk lv B : List UInt8) (sl : Value) : (fG kd dp lk lv B sl).length = 3 + (lk.length + lv.length + B.length) := by simp [fG, aO]; omega
theorem r4 {kd dp : Nat} {lk lv B : List UInt8} {sl : Value} (h : sl.oneCell' = true) : ∀ v ∈ fG kd dp lk lv B sl, v.oneCell' = true := bO (bE _ rfl) (bO (bE _ rfl) (bO (bO (bJ _) (bJ _)) (bO (bJ _) (dW h))))
theorem iG.nB {kd dp : Nat} {lk lv B : List UInt8} {sb : List (List UInt8)} (h : iG kd dp lk lv B sb) : nB (bitsOf B 256) = (dp : Int) - 1 := by
 unfold Go.Sp.Tryz.nB
 rw [h.last]
 by_cases hd : dp = 0
 ·
  rw [if_pos hd, hd]; rfl
 ·
  rw [if_neg hd]; show ((dp - 1 : Nat) : Int) = _; omega
theorem iG.NL {kd dp : Nat} {lk lv B : List UInt8} {sb : List (List UInt8)} (h : iG kd dp lk lv B sb) : sb.length ≤ 256 := by
 rw [h.fU]; exact rC B 256
theorem aDa {X : Nat → Prop} {w : World} {kd dp : Nat} {lk lv B : List UInt8} {sl : Value} {sb : List (List UInt8)} (hX : cU X w) (bT : aH X (eQ sl sb) w) (hp : iG kd dp lk lv B sb) :
  bF prog 114 [.agg (fG kd dp lk lv B sl).toArray, .agg (kc B).toArray].toArray w fun v w' => v = .bool true ∧ Out Nil w w' := by
 refine bF.aI (N := 13) func114 rfl rfl (by simp) ?_
 have H := (St.begin hX).add (cE bT)
 have vD := hp.kd
 have yT := hp.MJ
 have lX := hp.tJ
 have hlv := hp.lvl
 have o5 := hp.bl
 have hli := hp.nB
 have L9 := hp.fU
 have oY := hp.NL
 have vB : (fG kd dp lk lv B sl).length = 99 := gB hp.tJ hp.lvl hp.bl
 have BN : (List.replicate 32 (0 : UInt8)).length = 32 := List.length_replicate
 have hs1 : sl.oneCell' = true := cR.fH (H.p 0 rfl : eQ sl sb _)
 refine WE.aA ?_
 refine WL.box (l := fG kd dp lk lv B sl) H rfl rfl rfl ?_
 intro b2 w1 H
 refine WL.box (l := kc B) H rfl rfl rfl ?_
 intro b3 w2 H
 refine WL.as rfl rfl (WL.nil (WE.aA (WL.pv (PV.fieldAddr rfl mJ rfl) rfl (WL.aY rfl oZ rfl rfl (aM.aF (H.l 1 rfl) (aJ.l (aJ.all _)) rfl) (WL.pv (PV.eql rfl rfl rfl) rfl (WL.mv rfl rfl ?_))))))
 refine WL.split (t := 8) rfl (fun D6 => ?_) (fun D6 => ?_)
 ·
  refine WL.known (t := 7) (c := true) rfl D6 ?_
  try simp only [bU] at D6
  refine WL.off rfl (WL.off rfl (WL.off rfl (WL.pv (PV.dB rfl rfl rfl) rfl (WL.as rfl rfl (WL.nil (WE.ret ⟨[_], _, .nil _, ⟨rfl, trivial⟩, ?_⟩))))))
  refine ⟨?_, H.aL⟩
  rfl
 ·
  refine WL.known (t := 7) (c := false) rfl D6 ?_
  try simp only [bU] at D6
  refine WL.pv (PV.fieldAddr rfl mJ rfl) rfl (WL.aY rfl oZ rfl rfl (aM.aF (H.l 1 rfl) (aJ.l (aJ.all _)) rfl) (WL.pv (PV.eql rfl rfl rfl) rfl (WL.pv (PV.cZ rfl rfl rfl) rfl (WL.as rfl rfl (WL.nil (WE.ret ⟨[_], _, .nil _, ⟨rfl, trivial⟩, ?_⟩))))))
  refine ⟨?_, H.aL⟩
  (show Value.bool _ = Value.bool true; (congr 1; exact decide_eq_true (by omega)))
theorem aC9 {X : Nat → Prop} {w : World} {kd dp : Nat} {lk lv B : List UInt8} {sl : Value} {sb : List (List UInt8)} (hX : cU X w) (bT : aH X (eQ sl sb) w) (hp : iG kd dp lk lv B sb) :
  bF prog 115 [.agg (fG kd dp lk lv B sl).toArray, .agg (kc B).toArray].toArray w fun v w' => v = .bool true ∧ Out Nil w w' := by
 refine bF.aI (N := 13) func115 rfl rfl (by simp) ?_
 have H := (St.begin hX).add (cE bT)
 have vD := hp.kd
 have yT := hp.MJ
 have lX := hp.tJ
 have hlv := hp.lvl
 have o5 := hp.bl
 have hli := hp.nB
 have L9 := hp.fU
 have oY := hp.NL
 have vB : (fG kd dp lk lv B sl).length = 99 := gB hp.tJ hp.lvl hp.bl
 have BN : (List.replicate 32 (0 : UInt8)).length = 32 := List.length_replicate
 have hs1 : sl.oneCell' = true := cR.fH (H.p 0 rfl : eQ sl sb _)
 refine WE.aA ?_
 refine WL.box (l := fG kd dp lk lv B sl) H rfl rfl rfl ?_
 intro b2 w1 H
 refine WL.box (l := kc B) H rfl rfl rfl ?_
 intro b3 w2 H
 refine WL.as rfl rfl (WL.nil (WE.aA (WL.pv (PV.fieldAddr rfl q8 rfl) rfl (WL.aY rfl oZ rfl rfl (aM.aF (H.l 1 rfl) (aJ.r (aJ.l (aJ.all _)) rfl) rfl) (WL.pv (PV.geq rfl rfl rfl) rfl (WL.mv rfl rfl (WL.known (t := 8) (c := true) rfl rfl ?_)))))))
 refine WL.pv (PV.fieldAddr rfl q8 rfl) rfl (WL.aY rfl oZ rfl rfl (aM.aF (H.l 1 rfl) (aJ.r (aJ.l (aJ.all _)) rfl) rfl) (WL.pv (PV.leq rfl rfl rfl) rfl (WL.pv (PV.dB rfl rfl rfl) rfl (WL.as rfl rfl (WL.nil (WE.ret ⟨[_], _, .nil _, ⟨rfl, trivial⟩, ?_⟩))))))
 refine ⟨?_, H.aL⟩
 (show Value.bool _ = Value.bool true; (congr 1; exact decide_eq_true (by omega)))
theorem aC8 {X : Nat → Prop} {w : World} {kd dp : Nat} {lk lv B : List UInt8} {sl : Value} {sb : List (List UInt8)} (hX : cU X w) (bT : aH X (eQ sl sb) w) (hp : iG kd dp lk lv B sb) :
  bF prog 116 [.agg (fG kd dp lk lv B sl).toArray, .agg (kc B).toArray].toArray w fun v w' => v = .bool true ∧ Out Nil w w' := by
 refine bF.aI (N := 14) func116 rfl rfl (by simp) ?_
 have H := (St.begin hX).add (cE bT)
 have vD := hp.kd
 have yT := hp.MJ
 have lX := hp.tJ
 have hlv := hp.lvl
 have o5 := hp.bl
 have hli := hp.nB
 have L9 := hp.fU
 have oY := hp.NL
 have vB : (fG kd dp lk lv B sl).length = 99 := gB hp.tJ hp.lvl hp.bl
 have BN : (List.replicate 32 (0 : UInt8)).length = 32 := List.length_replicate
 have hs1 : sl.oneCell' = true := cR.fH (H.p 0 rfl : eQ sl sb _)
 refine WE.aA ?_
 refine WL.box (l := fG kd dp lk lv B sl) H rfl rfl rfl ?_
 intro b2 w1 H
 refine WL.box (l := kc B) H rfl rfl rfl ?_
 intro b3 w2 H
 refine WL.as rfl rfl (WL.nil (WE.aA (WL.pv (PV.fieldAddr rfl mJ rfl) rfl (WL.aY rfl oZ rfl rfl (aM.aF (H.l 1 rfl) (aJ.l (aJ.all _)) rfl) (WL.pv (PV.eql rfl rfl rfl) rfl (WL.mv rfl rfl ?_))))))
 refine WL.split (t := 8) rfl (fun D6 => ?_) (fun D6 => ?_)
 ·
  refine WL.known (t := 7) (c := true) rfl D6 ?_
  try simp only [bU] at D6
  refine WL.off rfl (WL.off rfl (WL.off rfl (WL.off rfl (WL.pv (PV.dB rfl rfl rfl) rfl (WL.as rfl rfl (WL.nil (WE.ret ?_)))))))
  refine ⟨[_], _, .nil _, ⟨rfl, trivial⟩, ?_⟩
  refine ⟨?_, H.aL⟩
  rfl
 ·
  refine WL.known (t := 7) (c := false) rfl D6 ?_
  try simp only [bU] at D6
  have NJ : kd = 0 := by omega
  obtain ⟨hlz, hvz⟩ := hp.lz NJ
  have aDJ : lk = List.replicate 32 0 := hlz
  have aDw : lv = List.replicate 32 0 := hvz
  refine WL.pv (PV.fieldAddr rfl oH rfl) rfl ?_
  refine WL.bC rfl HR rfl rfl (aM.aF (H.l 1 rfl) (aJ.r (aJ.r (aJ.l (aJ.all _)) rfl) rfl) rfl) (cH AX (by simp only [aR, aU, aB]; omega)) ?_
  refine WL.pv (PV.dD rfl aAX NM Fl.nil) rfl ?_
  refine WL.pv (PV.aFW rfl aFX rfl rfl (CJ.struct (n := 3) aFY (TN.cons (dS.agg cV (cH cM (by simp only [aR, aU, aB]; omega)) (aJ.l (aJ.all _))) (dS.agg cV (by exact cM) (aJ.l (aJ.all _))) (CJ.mono (CJ.bytes gM oW gY (by assumption) (by assumption)) (by decide)) (TN.cons (dS.agg gT (cH dJ (by simp only [aR, aU, aB]; omega)) (aJ.r (aJ.all _) (by simp only [aR, aU, aB]; omega))) (dS.agg gT (by exact dJ) (aJ.r (aJ.all _) (by simp only [aR, aU, aB]))) (CJ.mono (CJ.bytes oN oW gY (by assumption) (by assumption)) (by decide)) TN.nil))) (by decide)) rfl ?_
  refine WL.pv (PV.cZ rfl rfl rfl) rfl (WL.as rfl rfl (WL.nil (WE.ret ⟨[_], _, .nil _, ⟨rfl, trivial⟩, ?_⟩)))
  refine ⟨?_, H.aL⟩
  (show Value.bool _ = Value.bool true; simp_all)
theorem aC7 {X : Nat → Prop} {w : World} {kd dp : Nat} {lk lv B : List UInt8} {sl : Value} {sb : List (List UInt8)} (hX : cU X w) (bT : aH X (eQ sl sb) w) (hp : iG kd dp lk lv B sb) :
  bF prog 117 [.agg (fG kd dp lk lv B sl).toArray, .agg (kc B).toArray].toArray w fun v w' => v = .bool true ∧ Out Nil w w' := by
 refine bF.aI (N := 11) func117 rfl rfl (by simp) ?_
 have H := (St.begin hX).add (cE bT)
 have vD := hp.kd
 have yT := hp.MJ
 have lX := hp.tJ
 have hlv := hp.lvl
 have o5 := hp.bl
 have hli := hp.nB
 have L9 := hp.fU
 have oY := hp.NL
 have vB : (fG kd dp lk lv B sl).length = 99 := gB hp.tJ hp.lvl hp.bl
 have BN : (List.replicate 32 (0 : UInt8)).length = 32 := List.length_replicate
 have hs1 : sl.oneCell' = true := cR.fH (H.p 0 rfl : eQ sl sb _)
 refine WE.aA ?_
 refine WL.box (l := fG kd dp lk lv B sl) H rfl rfl rfl ?_
 intro b2 w1 H
 refine WL.box (l := kc B) H rfl rfl rfl ?_
 intro b3 w2 H
 refine WL.as rfl rfl (WL.nil ?_)
 refine WE.bG (.take 0 (.take 2 (.take 3 (.take 4 (.aG 1 (.take 5 (.take 6 .done))))))) mixed (by kernel_rfl) ?_
 replace H := H.out (Out.drew _)
 refine WP.dF rfl rfl rfl lZ rfl (aM.aF (H.l 0 rfl) (aJ.all _) rfl) (cH jK (by simp only [aR, aU, aB]; omega)) ?_
 refine WP.aC rfl rfl (PV.fieldAddr rfl q8 rfl) (WP.aQ rfl rfl (RV.aZ rfl oZ rfl) (aM.aF (H.l 1 rfl) (aJ.r (aJ.l (aJ.all _)) rfl) rfl) (WP.aC rfl rfl (PV.iS rfl rfl rfl (by omega) (by omega)) (WP.aG rfl ?_)))
 refine WL.call aFN rfl (YI (B := B) H.aS  (by assumption)) ?_
 rintro _ w3 ⟨rfl, hO⟩
 replace H := H.out hO
 refine WL.nil ⟨(fa (rk hO) (fa (nw 1 0) c5)), ?_⟩
 refine WP.aC rfl rfl (PV.eql rfl rfl rfl) (WP.as rfl rfl rfl (WP.done (WE.ret ⟨[_], _, .nil _, ⟨rfl, trivial⟩, ?_⟩)))
 refine ⟨?_, H.aL⟩
 (show Value.bool _ = Value.bool true; (congr 1; exact decide_eq_true (by omega)))
theorem aC6 {X : Nat → Prop} {w : World} {kd dp : Nat} {lk lv B : List UInt8} {sl : Value} {sb : List (List UInt8)} (hX : cU X w) (bT : aH X (eQ sl sb) w) (hp : iG kd dp lk lv B sb) :
  bF prog 119 [.agg (fG kd dp lk lv B sl).toArray, .agg (kc B).toArray].toArray w fun v w' => v = .bool true ∧ Out Nil w w' := by
 refine bF.aI (N := 11) func119 rfl rfl (by simp) ?_
 have H := (St.begin hX).add (cE bT)
 have vD := hp.kd
 have yT := hp.MJ
 have lX := hp.tJ
 have hlv := hp.lvl
 have o5 := hp.bl
 have hli := hp.nB
 have L9 := hp.fU
 have oY := hp.NL
 have vB : (fG kd dp lk lv B sl).length = 99 := gB hp.tJ hp.lvl hp.bl
 have BN : (List.replicate 32 (0 : UInt8)).length = 32 := List.length_replicate
 have hs1 : sl.oneCell' = true := cR.fH (H.p 0 rfl : eQ sl sb _)
 refine WE.aA ?_
 refine WL.box (l := fG kd dp lk lv B sl) H rfl rfl rfl ?_
 intro b2 w1 H
 refine WL.box (l := kc B) H rfl rfl rfl ?_
 intro b3 w2 H
 refine WL.as rfl rfl (WL.nil ?_)
 refine WE.bG (.take 0 (.take 2 (.take 3 (.take 4 (.aG 1 (.take 5 (.take 6 .done))))))) mixed (by kernel_rfl) ?_
 replace H := H.out (Out.drew _)
 refine WP.dF rfl rfl rfl lZ rfl (aM.aF (H.l 0 rfl) (aJ.all _) rfl) (cH jK (by simp only [aR, aU, aB]; omega)) ?_
 refine WP.aC rfl rfl (PV.fieldAddr rfl mI rfl) ?_
 refine WP.aQ rfl rfl (RV.aZ rfl uD rfl) (aM.aF (H.l 1 rfl) (aJ.r (aJ.r (aJ.r (aJ.r (aJ.all _) rfl) rfl) rfl) rfl) (by simp [aO, bA, *])) ?_
 refine WP.aC rfl rfl (PV.dO (by exact (H.p 0 rfl : (eQ sl sb) _)) nW rfl) ?_
 refine WP.aG rfl ?_
 refine WL.call aFK rfl (aCq (B := B) H.aS  (by assumption)) ?_
 rintro _ w3 ⟨rfl, hO⟩
 replace H := H.out hO
 refine WL.nil ⟨(fa (rk hO) (fa (nw 1 0) c5)), ?_⟩
 refine WP.aC rfl rfl (PV.eql rfl rfl rfl) (WP.as rfl rfl rfl (WP.done (WE.ret ⟨[_], _, .nil _, ⟨rfl, trivial⟩, ?_⟩)))
 refine ⟨?_, H.aL⟩
 (show Value.bool _ = Value.bool true; (congr 1; exact decide_eq_true (by omega)))
theorem OK {X : Nat → Prop} {kd dp : Nat} {lk lv B : List UInt8} {sl : Value} {sb : List (List UInt8)} {W : World} (hX : ∀ b, X b → b < W.heap.size) (hs : aH X (eQ sl sb) W) (hp : iG kd dp lk lv B sb) : eV prog (vG 114) [.agg (fG kd dp lk lv B sl).toArray, .agg (kc B).toArray] W fun v W' => v = .bool true ∧ Out Nil W W' :=
 eV.iU (fs := []) (cs := []) aFR (aDa hX hs hp)
theorem OJ {X : Nat → Prop} {kd dp : Nat} {lk lv B : List UInt8} {sl : Value} {sb : List (List UInt8)} {W : World} (hX : ∀ b, X b → b < W.heap.size) (hs : aH X (eQ sl sb) W) (hp : iG kd dp lk lv B sb) : eV prog (vG 115) [.agg (fG kd dp lk lv B sl).toArray, .agg (kc B).toArray] W fun v W' => v = .bool true ∧ Out Nil W W' :=
 eV.iU (fs := []) (cs := []) aFQ (aC9 hX hs hp)
theorem OI {X : Nat → Prop} {kd dp : Nat} {lk lv B : List UInt8} {sl : Value} {sb : List (List UInt8)} {W : World} (hX : ∀ b, X b → b < W.heap.size) (hs : aH X (eQ sl sb) W) (hp : iG kd dp lk lv B sb) : eV prog (vG 116) [.agg (fG kd dp lk lv B sl).toArray, .agg (kc B).toArray] W fun v W' => v = .bool true ∧ Out Nil W W' :=
 eV.iU (fs := []) (cs := []) aFP (aC8 hX hs hp)
theorem OH {X : Nat → Prop} {kd dp : Nat} {lk lv B : List UInt8} {sl : Value} {sb : List (List UInt8)} {W : World} (hX : ∀ b, X b → b < W.heap.size) (hs : aH X (eQ sl sb) W) (hp : iG kd dp lk lv B sb) : eV prog (vG 117) [.agg (fG kd dp lk lv B sl).toArray, .agg (kc B).toArray] W fun v W' => v = .bool true ∧ Out Nil W W' :=
 eV.iU (fs := []) (cs := []) aFO (aC7 hX hs hp)
theorem OG {X : Nat → Prop} {kd dp : Nat} {lk lv B : List UInt8} {sl : Value} {sb : List (List UInt8)} {W : World} (hX : ∀ b, X b → b < W.heap.size) (hs : aH X (eQ sl sb) W) (hp : iG kd dp lk lv B sb) : eV prog (vG 119) [.agg (fG kd dp lk lv B sl).toArray, .agg (kc B).toArray] W fun v W' => v = .bool true ∧ Out Nil W W' :=
 eV.iU (fs := []) (cs := []) aFM (aC6 hX hs hp)
def OE : List Value := [vG 114, .int .i64 7] ++ ([vG 115, .int .i64 5] ++ ([vG 116, .int .i64 5] ++ ([vG 117, .int .i64 5] ++ ([vG 119, .int .i64 5]))))
theorem UY {X : Nat → Prop} {w : World}  (hX : cU X w) :
  bF prog 77 [].toArray w fun v w' => v = .agg OE.toArray ∧ Out Nil w w' := by
 refine bF.aI (N := 7) func77 rfl rfl (by decide +revert) ?_
 have H := St.begin hX
 refine WE.aA ?_
 refine WL.alloc H rfl YL rfl ?_
 intro b0 w1 H
 refine WL.nil (WE.aA ?_)
 refine WL.pv (PV.dD rfl DH qA (Fl.cons rfl (rfl) (by simp only [aR, aU, aB]) Laid.head (Fl.cons rfl (rfl) (by simp only [aR, aU, aB]) (Laid.tail Laid.head rfl) Fl.nil))) rfl ?_
 refine WL.pv (PV.dD rfl DH qA (Fl.cons rfl (rfl) (by simp only [aR, aU, aB]) Laid.head (Fl.cons rfl (rfl) (by simp only [aR, aU, aB]) (Laid.tail Laid.head rfl) Fl.nil))) rfl ?_
 refine WL.pv (PV.dD rfl DH qA (Fl.cons rfl (rfl) (by simp only [aR, aU, aB]) Laid.head (Fl.cons rfl (rfl) (by simp only [aR, aU, aB]) (Laid.tail Laid.head rfl) Fl.nil))) rfl ?_
 refine WL.pv (PV.dD rfl DH qA (Fl.cons rfl (rfl) (by simp only [aR, aU, aB]) Laid.head (Fl.cons rfl (rfl) (by simp only [aR, aU, aB]) (Laid.tail Laid.head rfl) Fl.nil))) rfl ?_
 refine WL.pv (PV.dD rfl DH qA (Fl.cons rfl (rfl) (by simp only [aR, aU, aB]) Laid.head (Fl.cons rfl (rfl) (by simp only [aR, aU, aB]) (Laid.tail Laid.head rfl) Fl.nil))) rfl ?_
 refine WL.pv (PV.mM rfl AO k6 YL (Fl.cons rfl (rfl) (by simp only [aR, aU, aB]) (Laid.left (Laid.all (by simp only [aR, aU, aB]))) (Fl.cons rfl (rfl) (by simp only [aR, aU, aB]) (Laid.right (Laid.left (Laid.all (by simp only [aR, aU, aB]))) (by simp only [aR, aU, aB])) (Fl.cons rfl (rfl) (by simp only [aR, aU, aB]) (Laid.right (Laid.right (Laid.left (Laid.all (by simp only [aR, aU, aB]))) rfl) (by simp only [aR, aU, aB])) (Fl.cons rfl (rfl) (by simp only [aR, aU, aB]) (Laid.right (Laid.right (Laid.right (Laid.left (Laid.all (by simp only [aR, aU, aB]))) rfl) rfl) (by simp only [aR, aU, aB])) (Fl.cons rfl (rfl) (by simp only [aR, aU, aB]) (Laid.right (Laid.right (Laid.right (Laid.right (Laid.all (by simp only [aR, aU, aB])) rfl) rfl) rfl) (by simp only [aR, aU, aB])) Fl.nil)))))) rfl ?_
 refine WL.aT H 0 rfl rfl rfl (new := OE) rfl (by exact YT) (bE _ rfl) (Laid.at (Laid.all rfl) rfl) rfl ?_
 intro w2 H
 refine WL.nil (WE.ret ⟨[_], _, .nil _, ⟨⟨_, rfl, aW aGq (aM.aF (H.l 0 rfl) (aJ.all _) rfl) (by exact YT)⟩, trivial⟩, ?_⟩)
 exact ⟨rfl, H.aL⟩
theorem sP {X : Nat → Prop} {w : World} {kd dp : Nat} {lk lv B : List UInt8} {sl : Value} {sb : List (List UInt8)} (hX : cU X w) (bT : aH X (eQ sl sb) w) (hp : iG kd dp lk lv B sb) :
  bF prog 35 [.agg (fG kd dp lk lv B sl).toArray].toArray w fun v w' => v = .int .i64 0 ∧ Out Nil w w' := by
 refine bF.aI (N := 19) func35 rfl rfl (by simp) ?_
 have H := (St.begin hX).add (cE bT)
 have vD := hp.kd
 have yT := hp.MJ
 have lX := hp.tJ
 have hlv := hp.lvl
 have o5 := hp.bl
 have hli := hp.nB
 have L9 := hp.fU
 have oY := hp.NL
 have vB : (fG kd dp lk lv B sl).length = 99 := gB hp.tJ hp.lvl hp.bl
 have BN : (List.replicate 32 (0 : UInt8)).length = 32 := List.length_replicate
 have hs1 : sl.oneCell' = true := cR.fH (H.p 0 rfl : eQ sl sb _)
 refine WE.aA ?_
 refine WL.box (l := fG kd dp lk lv B sl) H rfl rfl rfl ?_
 intro b1 w1 H
 refine WL.as rfl rfl (WL.nil (WE.seq (WE.aA ?_)))
 refine WL.call aId rfl (UY  H.aS  ) ?_
 rintro _ w2 ⟨rfl, hO⟩
 replace H := H.out hO
 refine WL.mv rfl rfl (WL.nil (WE.block ?_))
 refine WE.jG 6 ?_
 refine dN.step ?_
 refine WE.aA (WL.pv (PV.lss rfl rfl rfl) rfl (WL.nil (WE.seq ?_)))
 refine WE.cO rfl rfl ?_
 refine WE.skip (WE.seq (WE.block (WE.aA ?_)))
 refine WL.pv (by exact PV.qZ (i := 0) rfl AO k6 rfl rfl (by decide) (dS.agg FA (by exact k6) (aJ.l (aJ.all _)))) rfl ?_
 refine WL.alloc H rfl qA rfl ?_
 intro b4 w3 H
 refine WL.aT H 0 rfl rfl rfl (new := _) rfl (by exact k6) (bE _ rfl) (Laid.at (Laid.all (by simp only [aR, aU, aB])) rfl) rfl ?_
 intro w4 H
 refine WL.nil (WE.aA (WL.pv (PV.fieldAddr rfl sI rfl) rfl (WL.aY rfl FB rfl rfl (aM.aF (H.l 0 rfl) aJ.hd rfl) ?_)))
 refine WL.bC rfl mN rfl rfl (aM.aF (H.l 1 rfl) (aJ.all _) rfl) (by (rw [kQ]; refine congrArg some ?_; (simp [aO, bA, *]; done))) ?_
 refine WL.pv (PV.fieldAddr rfl pN rfl) rfl ?_
 refine WL.bC rfl CF rfl rfl (aM.aF (H.l 1 rfl) (aJ.r (aJ.r (aJ.r (aJ.l (aJ.all _)) rfl) rfl) rfl) (by simp [aO, bA, *])) (cH uW (by simp only [aR, aU, aB]; omega)) ?_
 refine WL.iK rfl rfl (OK H.aS (by exact (H.bK 0 rfl : aH _ (eQ sl sb) _)) hp) ?_
 rintro _ w6 ⟨rfl, hO⟩
 replace H := H.out hO
 refine WL.pv (PV.not rfl rfl) rfl (WL.nil ?_)
 refine WE.bB rfl rfl ?_
 refine WE.skip (WE.eH (WL.pv (PV.bY rfl rfl rfl (by omega) (by omega)) rfl (WL.mv rfl rfl (WL.nil ?_))))
 replace H := H.forget 0
 refine dN.step ?_
 refine WE.aA (WL.pv (PV.lss rfl rfl rfl) rfl (WL.nil (WE.seq ?_)))
 refine WE.cO rfl rfl ?_
 refine WE.skip (WE.seq (WE.block (WE.aA ?_)))
 refine WL.pv (by exact PV.qZ (i := 1) rfl AO k6 rfl rfl (by decide) (dS.agg FA (by exact k6) (aJ.r (aJ.l (aJ.all _)) rfl))) rfl ?_
 refine WL.alloc H rfl qA rfl ?_
 intro b4 w8 H
 refine WL.aT H 0 rfl rfl rfl (new := _) rfl (by exact k6) (bE _ rfl) (Laid.at (Laid.all (by simp only [aR, aU, aB])) rfl) rfl ?_
 intro w9 H
 refine WL.nil (WE.aA (WL.pv (PV.fieldAddr rfl sI rfl) rfl (WL.aY rfl FB rfl rfl (aM.aF (H.l 0 rfl) aJ.hd rfl) ?_)))
 refine WL.bC rfl mN rfl rfl (aM.aF (H.l 1 rfl) (aJ.all _) rfl) (by (rw [kQ]; refine congrArg some ?_; (simp [aO, bA, *]; done))) ?_
 refine WL.pv (PV.fieldAddr rfl pN rfl) rfl ?_
 refine WL.bC rfl CF rfl rfl (aM.aF (H.l 1 rfl) (aJ.r (aJ.r (aJ.r (aJ.l (aJ.all _)) rfl) rfl) rfl) (by simp [aO, bA, *])) (cH uW (by simp only [aR, aU, aB]; omega)) ?_
 refine WL.iK rfl rfl (OJ H.aS (by exact (H.bK 0 rfl : aH _ (eQ sl sb) _)) hp) ?_
 rintro _ y8 ⟨rfl, hO⟩
 replace H := H.out hO
 refine WL.pv (PV.not rfl rfl) rfl (WL.nil ?_)
 refine WE.bB rfl rfl ?_
 refine WE.skip (WE.eH (WL.pv (PV.bY rfl rfl rfl (by omega) (by omega)) rfl (WL.mv rfl rfl (WL.nil ?_))))
 replace H := H.forget 0
 refine dN.step ?_
 refine WE.aA (WL.pv (PV.lss rfl rfl rfl) rfl (WL.nil (WE.seq ?_)))
 refine WE.cO rfl rfl ?_
 refine WE.skip (WE.seq (WE.block (WE.aA ?_)))
 refine WL.pv (by exact PV.qZ (i := 2) rfl AO k6 rfl rfl (by decide) (dS.agg FA (by exact k6) (aJ.r (aJ.r (aJ.l (aJ.all _)) rfl) rfl))) rfl ?_
 refine WL.alloc H rfl qA rfl ?_
 intro b4 FP H
 refine WL.aT H 0 rfl rfl rfl (new := _) rfl (by exact k6) (bE _ rfl) (Laid.at (Laid.all (by simp only [aR, aU, aB])) rfl) rfl ?_
 intro K2 H
 refine WL.nil (WE.aA (WL.pv (PV.fieldAddr rfl sI rfl) rfl (WL.aY rfl FB rfl rfl (aM.aF (H.l 0 rfl) aJ.hd rfl) ?_)))
 refine WL.bC rfl mN rfl rfl (aM.aF (H.l 1 rfl) (aJ.all _) rfl) (by (rw [kQ]; refine congrArg some ?_; (simp [aO, bA, *]; done))) ?_
 refine WL.pv (PV.fieldAddr rfl pN rfl) rfl ?_
 refine WL.bC rfl CF rfl rfl (aM.aF (H.l 1 rfl) (aJ.r (aJ.r (aJ.r (aJ.l (aJ.all _)) rfl) rfl) rfl) (by simp [aO, bA, *])) (cH uW (by simp only [aR, aU, aB]; omega)) ?_
 refine WL.iK rfl rfl (OI H.aS (by exact (H.bK 0 rfl : aH _ (eQ sl sb) _)) hp) ?_
 rintro _ TV ⟨rfl, hO⟩
 replace H := H.out hO
 refine WL.pv (PV.not rfl rfl) rfl (WL.nil ?_)
 refine WE.bB rfl rfl ?_
 refine WE.skip (WE.eH (WL.pv (PV.bY rfl rfl rfl (by omega) (by omega)) rfl (WL.mv rfl rfl (WL.nil ?_))))
 replace H := H.forget 0
 refine dN.step ?_
 refine WE.aA (WL.pv (PV.lss rfl rfl rfl) rfl (WL.nil (WE.seq ?_)))
 refine WE.cO rfl rfl ?_
 refine WE.skip (WE.seq (WE.block (WE.aA ?_)))
 refine WL.pv (by exact PV.qZ (i := 3) rfl AO k6 rfl rfl (by decide) (dS.agg FA (by exact k6) (aJ.r (aJ.r (aJ.r (aJ.l (aJ.all _)) rfl) rfl) rfl))) rfl ?_
 refine WL.alloc H rfl qA rfl ?_
 intro b4 TT H
 refine WL.aT H 0 rfl rfl rfl (new := _) rfl (by exact k6) (bE _ rfl) (Laid.at (Laid.all (by simp only [aR, aU, aB])) rfl) rfl ?_
 intro YQ H
 refine WL.nil (WE.aA (WL.pv (PV.fieldAddr rfl sI rfl) rfl (WL.aY rfl FB rfl rfl (aM.aF (H.l 0 rfl) aJ.hd rfl) ?_)))
 refine WL.bC rfl mN rfl rfl (aM.aF (H.l 1 rfl) (aJ.all _) rfl) (by (rw [kQ]; refine congrArg some ?_; (simp [aO, bA, *]; done))) ?_
 refine WL.pv (PV.fieldAddr rfl pN rfl) rfl ?_
 refine WL.bC rfl CF rfl rfl (aM.aF (H.l 1 rfl) (aJ.r (aJ.r (aJ.r (aJ.l (aJ.all _)) rfl) rfl) rfl) (by simp [aO, bA, *])) (cH uW (by simp only [aR, aU, aB]; omega)) ?_
 refine WL.iK rfl rfl (OH H.aS (by exact (H.bK 0 rfl : aH _ (eQ sl sb) _)) hp) ?_
 rintro _ w21 ⟨rfl, hO⟩
 replace H := H.out hO
 refine WL.pv (PV.not rfl rfl) rfl (WL.nil ?_)
 refine WE.bB rfl rfl ?_
 refine WE.skip (WE.eH (WL.pv (PV.bY rfl rfl rfl (by omega) (by omega)) rfl (WL.mv rfl rfl (WL.nil ?_))))
 replace H := H.forget 0
 refine dN.step ?_
 refine WE.aA (WL.pv (PV.lss rfl rfl rfl) rfl (WL.nil (WE.seq ?_)))
 refine WE.cO rfl rfl ?_
 refine WE.skip (WE.seq (WE.block (WE.aA ?_)))
 refine WL.pv (by exact PV.qZ (i := 4) rfl AO k6 rfl rfl (by decide) (dS.agg FA (by exact k6) (aJ.r (aJ.r (aJ.r (aJ.r (aJ.all _) rfl) rfl) rfl) rfl))) rfl ?_
 refine WL.alloc H rfl qA rfl ?_
 intro b4 w23 H
 refine WL.aT H 0 rfl rfl rfl (new := _) rfl (by exact k6) (bE _ rfl) (Laid.at (Laid.all (by simp only [aR, aU, aB])) rfl) rfl ?_
 intro w24 H
 refine WL.nil (WE.aA (WL.pv (PV.fieldAddr rfl sI rfl) rfl (WL.aY rfl FB rfl rfl (aM.aF (H.l 0 rfl) aJ.hd rfl) ?_)))
 refine WL.bC rfl mN rfl rfl (aM.aF (H.l 1 rfl) (aJ.all _) rfl) (by (rw [kQ]; refine congrArg some ?_; (simp [aO, bA, *]; done))) ?_
 refine WL.pv (PV.fieldAddr rfl pN rfl) rfl ?_
 refine WL.bC rfl CF rfl rfl (aM.aF (H.l 1 rfl) (aJ.r (aJ.r (aJ.r (aJ.l (aJ.all _)) rfl) rfl) rfl) (by simp [aO, bA, *])) (cH uW (by simp only [aR, aU, aB]; omega)) ?_
 refine WL.iK rfl rfl (OG H.aS (by exact (H.bK 0 rfl : aH _ (eQ sl sb) _)) hp) ?_
 rintro _ w26 ⟨rfl, hO⟩
 replace H := H.out hO
 refine WL.pv (PV.not rfl rfl) rfl (WL.nil ?_)
 refine WE.bB rfl rfl ?_
 refine WE.skip (WE.eH (WL.pv (PV.bY rfl rfl rfl (by omega) (by omega)) rfl (WL.mv rfl rfl (WL.nil ?_))))
 replace H := H.forget 0
 refine dN.step ?_
 refine WE.aA (WL.pv (PV.lss rfl rfl rfl) rfl (WL.nil (WE.seq ?_)))
 refine WE.bB rfl rfl ?_
 refine WE.exit (WE.aA (WL.as rfl rfl (WL.nil (WE.ret ⟨[_], _, .nil _, ⟨rfl, trivial⟩, ?_⟩))))
 exact ⟨rfl, H.aL⟩
theorem aCk {X : Nat → Prop} {w : World} {bits : Int} {T : Tr} {m : List En} {k : List UInt8} (hX : cU X w) (bT : aH X (cQ bits T) w) (hk : k.length = 32) (hT : T.er = grow 0 m) (hs : lD m) (sU : KL m) :
  bF prog 51 [T.ptr, .agg (kc k).toArray].toArray w fun v w' => ∃ s, v = .tuple [s, .bool (iE m k)].toArray ∧ Out Nil w w' ∧ aH X (bI s (gV m k)) w' := by
 have pm := hs.pm sU
 have hfit := xC pm
 rw [← hT] at hfit
 have hg0 := EI (k := k) hT pm
 cases hg : getM m k with
 | none =>
  refine (YA hX bT hk hfit (by rw [hg0, hg]; rfl)).mono ?_
  rintro v w' ⟨rfl, hO⟩
  refine ⟨.slice none 0 0, by unfold iE; rw [hg]; rfl, hO, fun w'' _ => ?_⟩
  unfold gV; rw [hg]; exact bI.nil w''
 | some e =>
  refine (TL (v0 := e.v) hX bT hk hfit (by rw [hg0, hg]; rfl)).mono ?_
  rintro v w' ⟨s, rfl, hO, gP⟩
  refine ⟨s, by unfold iE; rw [hg]; rfl, hO, ?_⟩
  have h1 := (pR hX gP).imp fun _ h => bI.eM h
  unfold gV; rw [hg]; exact h1
theorem tF {X : Nat → Prop} {w : World} {s : Value} {m : List En} {k : List UInt8} (hX : cU X w) (bT : aH X (fY s m) w) (pT : KL m) (hlen : m.length ≤ 1000000) (hk : k.length = 32) :
  bF prog 40 [s, .agg (kc k).toArray].toArray w fun v w' => v = .tuple [gS m k, .bool (iE m k)].toArray ∧ Out Nil w w' := by
 have := OU hX bT pT hlen hk
 rwa [WD] at this
theorem bI.whole {a : Addr} {n c : Nat} {l : List UInt8} {w : World} (h : bI (.slice (some a) n c) l w) : cX w a (kc l) := by
 obtain ⟨A, c', hv, _, _, _, hr⟩ := h
 injection hv with hv _ _
 exact hr a hv.symm
theorem bI.some {s : Value} {l : List UInt8} {w : World} (h : bI s l w) (hl : 0 < l.length) : ∃ a c, s = .slice (some a) l.length c := by
 obtain ⟨a, c, hv, _⟩ := cR.at_ h 0 hl
 exact ⟨a, c, hv⟩
theorem TB {X : Nat → Prop} {w : World} {s : Value} {lb : List UInt8} (hX : cU X w) (bT : aH X (bI s lb) w) (D5 : lb.length = 32) :
  bF prog 133 [s].toArray w fun v w' => v = .tuple [.agg (kc lb).toArray, .int .i64 0].toArray ∧ Out Nil w w' := by
 refine bF.aI (N := 11) func133 rfl rfl (by simp) ?_
 have H := (St.begin hX).add (cE bT)
 obtain ⟨sa, sc, rfl⟩ := bI.some (H.p 0 rfl : bI s lb _) (by omega)
 have NH : lb.length = 32 := D5
 refine WE.aA ?_
 refine WL.alloc H rfl rM rfl ?_
 intro b2 w1 H
 refine WL.as rfl rfl (WL.nil (WE.seq (WE.aA (WL.mv rfl rfl (WL.pv (PV.zO eW rfl) rfl (WL.pv (PV.neq rfl rfl rfl) rfl (WL.nil ?_)))))))
 refine WE.bB rfl (by simp [D5]) ?_
 refine WE.skip (WE.aA (WL.mv rfl rfl ?_))
 refine WL.pv (PV.uS (n := 32) rfl gM (by rw [D5]; rfl)) rfl ?_
 refine WL.bC rfl cV rfl rfl (bI.whole (H.p 0 rfl)) (cH cM (by simp only [aR, aU, aB]; omega)) ?_
 refine WL.aT H 0 rfl rfl rfl (new := _) rfl (cH cM (by simp only [aR, aU, aB]; omega)) (bJ _) (Laid.at (Laid.all (by simp only [aR, aU, aB]; omega)) rfl) rfl ?_
 intro w2 H
 refine WL.as rfl rfl (WL.nil (WE.ret ⟨[_, _], _, .nil _, ⟨⟨_, rfl, aW cV (aM.aF (H.l 0 rfl) (aJ.all _) rfl) (cH cM (by simp only [aR, aU, aB]; omega))⟩, rfl, trivial⟩, ?_⟩))
 exact ⟨rfl, H.aL⟩
theorem X3 {X : Nat → Prop} {w : World} {s : Value} {lb : List UInt8} (hX : cU X w) (bT : aH X (bI s lb) w) (D5 : lb.length ≠ 32) (hle : lb.length ≤ 9223372036854775807) :
  bF prog 133 [s].toArray w fun v w' => v = .tuple [.agg (kc (List.replicate 32 0)).toArray, .int .i64 2].toArray ∧ Out Nil w w' := by
 refine bF.aI (N := 11) func133 rfl rfl (by simp) ?_
 have H := (St.begin hX).add (cE bT)
 refine WE.aA ?_
 refine WL.alloc H rfl rM rfl ?_
 intro b2 w1 H
 refine WL.as rfl rfl (WL.nil (WE.seq (WE.aA (WL.mv rfl rfl (WL.pv (PV.dO (H.p 0 rfl) eW rfl) rfl (WL.pv (PV.neq rfl rfl rfl) rfl (WL.nil ?_)))))))
 refine WE.cO rfl (by simp; omega) ?_
 refine WE.aA (WL.pv (PV.mM rfl gM gY rM Fl.nil) rfl ?_)
 refine WL.aT H 0 rfl rfl rfl (new := _) rfl (by exact cM) (bJ _) (Laid.at (Laid.all rfl) rfl) rfl ?_
 intro w2 H
 refine WL.as rfl rfl (WL.nil (WE.ret ⟨[_, _], _, .nil _, ⟨⟨_, rfl, aW cV (aM.aF (H.l 0 rfl) (aJ.all _) rfl) (by exact cM)⟩, rfl, trivial⟩, ?_⟩))
 exact ⟨rfl, H.aL⟩
theorem WH {lb : List UInt8} {i m : Nat} (h : i < lb.length) : (lb.take i ++ List.replicate (m + 1) (0 : UInt8)).set i lb[i] = lb.take (i + 1) ++ List.replicate m 0 := by
 have h1 : (lb.take i).length = i := by rw [List.length_take]; omega
 rw [List.set_append_right (h := by omega), h1, Nat.sub_self, List.replicate_succ, List.set_cons_zero, List.take_succ_eq_append_getElem h, List.append_assoc]
 rfl
theorem rY {X : Nat → Prop} {w : World} {s : Value} {lb : List UInt8} (hX : cU X w) (bT : aH X (bI s lb) w) (D5 : lb.length = 32) :
  bF prog 45 [s].toArray w fun v w' => v = .agg (kc lb).toArray ∧ Out Nil w w' := by
 refine bF.aI (N := 16) func45 rfl rfl (by simp) ?_
 have H := (St.begin hX).add (cE bT)
 refine WE.aA ?_
 refine WL.alloc H rfl rM rfl ?_
 intro b2 w1 H
 refine WL.nil (WE.aA ?_)
 refine WL.alloc H rfl rM rfl ?_
 intro b3 w2 H
 refine WL.nil (WE.seq (WE.aA (WL.as rfl rfl (WL.nil (WE.block ?_)))))
 refine WE.loop (α := Nat) (rg [(4, 11)]) (fun i => [(4, .int .i64 (i : Int))]) (fun i wl => i ≤ 32 ∧ St X w wl [] [aN.blk b3 24 (kc (lb.take i ++ List.replicate (32 - i) 0)), aN.blk b2 24 (kc (List.replicate 32 0))] [bI s lb]) (fun i => 32 - i) 0 ⟨rfl, trivial⟩ ⟨Nat.zero_le _, H.conv rfl⟩ ?_
 intro i γ0 w3 hI
 try dsimp only at hI
 obtain ⟨hi, H⟩ := hI
 refine WE.seq (WE.aA (WL.mv rfl rfl (WL.pv (PV.lss rfl rfl rfl) rfl (WL.nil ?_))))
 refine WE.cond rfl (fun QT => ?_) (fun QT => ?_)
 ·
  try simp only [bU] at QT
  have aHM : i < 32 := by omega
  refine WE.skip (WE.seq (WE.block (WE.eH (WL.mv rfl rfl (WL.mv rfl rfl (WL.mv rfl rfl (WL.pv (PV.eO rfl (H.p 0 rfl) eW gY rfl rfl (by omega) (by omega)) rfl ?_)))))))
  refine WL.aY rfl CE rfl rfl (bI.rd (H.p 0 rfl) i (by omega)) (WL.pv (PV.cF rfl gM gY rfl rfl (by omega) (by omega)) rfl ?_)
  refine WL.aT H 0 rfl rfl rfl (new := _) rfl (by exact gY) (bE _ rfl) (Laid.at (Laid.AH (x := lb[i]) i (by rw [List.length_append, List.length_take, List.length_replicate]; omega)) (by simp)) rfl ?_
  intro w4 H
  refine WL.nil (WE.eH (WL.mv rfl rfl (WL.pv (PV.eq (v' := .int .i64 ((i + 1 : Nat) : Int)) (PV.bY rfl rfl rfl (by omega) (by omega)) rfl) rfl (WL.as rfl rfl (WL.nil ?_)))))
  have hfs : (lb.take i ++ List.replicate (32 - i) (0 : UInt8)).set i lb[i] = lb.take (i + 1) ++ List.replicate (32 - (i + 1)) 0 := by rw [show 32 - i = (32 - (i + 1)) + 1 by omega]; exact WH (by omega)
  exact ⟨i + 1, (by repeat (first | with_reducible exact bQ.refl _ _ | refine bQ.dG rfl ?_ | refine bQ.cC rfl ?_ | refine bQ.cB rfl ?_)), ⟨rfl, trivial⟩, rfl, ⟨by omega, H.conv (by rw [← hfs]; rfl)⟩, (by omega)⟩
 ·
  try simp only [bU] at QT
  have uN : i = 32 := by omega
  refine WE.exit (WE.aA ?_)
  subst uN
  replace H := H.conv (L' := [aN.blk b3 24 (kc lb), aN.blk b2 24 (kc (List.replicate 32 0))]) (by rw [List.take_of_length_le (by omega)]; simp)
  refine WL.bC rfl cV rfl rfl (aM.aF (H.l 0 rfl) (aJ.all _) rfl) (cH cM (by simp only [aR, aU, aB]; omega)) ?_
  refine WL.aT H 1 rfl rfl rfl (new := _) rfl (cH cM (by simp only [aR, aU, aB]; omega)) (bJ _) (Laid.at (Laid.all (by simp only [aR, aU, aB]; omega)) rfl) rfl ?_
  intro w5 H
  refine WL.nil (WE.ret ⟨[_], _, .nil _, ⟨⟨_, rfl, aW cV (aM.aF (H.l 1 rfl) (aJ.all _) rfl) (cH cM (by simp only [aR, aU, aB]; omega))⟩, trivial⟩, ?_⟩)
  exact ⟨rfl, H.aL⟩
def dM (op : List UInt8) (ix code : Int) : List Value := [o8 op, .int .i64 ix, .iface 42 (.int .i64 code)]
def eZ (op : List UInt8) (ix code : Int) (v : Value) (w : World) : Prop :=
 (code = 0 ∧ v = .nilIface) ∨ (code ≠ 0 ∧ ∃ bf, v = .iface 219 (.pointer (some ⟨bf, 0, none⟩)) ∧ aM w bf 221 (dM op ix code))
theorem eZ.ifv {op : List UInt8} {ix code : Int} {v : Value} {w : World} (h : eZ op ix code v w) : yF v := by
 rcases h with ⟨_, rfl⟩ | ⟨_, bf, rfl, _⟩
 ·
  exact yF.nil
 ·
  exact yF.of
theorem eZ.isNil {op : List UInt8} {ix code : Int} {v : Value} {w : World} (h : eZ op ix code v w) : iC v = decide (code = 0) := by
 rcases h with ⟨h, rfl⟩ | ⟨h, bf, rfl, _⟩
 ·
  rw [decide_eq_true h]; rfl
 ·
  rw [decide_eq_false h]; rfl
theorem eZ.one {op : List UInt8} {ix code : Int} {v : Value} {w : World} (h : eZ op ix code v w) : v.oneCell' = true := by
 rcases h with ⟨_, rfl⟩ | ⟨_, bf, rfl, _⟩ <;> rfl
def jR (k : List UInt8) : List UInt8 := if k.length = 32 then k else qS
theorem nC (k : List UInt8) : (jR k).length = 32 := by
 unfold jR
 split
 ·
  assumption
 ·
  rfl
theorem gO (k : List UInt8) : bV k [] = if k.length = 32 then 0 else 2 := by
 unfold bV
 by_cases h : k.length = 32
 ·
  rw [if_neg (by omega), if_neg (by simp), if_pos h]
 ·
  rw [if_pos h, if_neg h]
theorem aGA {X : Nat → Prop} {w : World} {s : Value} {lb : List UInt8} (hX : cU X w) (bT : aH X (bI s lb) w) (hl : lb.length ≤ 9223372036854775807) :
  bF prog 133 [s].toArray w fun v w' => v = .tuple [.agg (kc (jR lb)).toArray, .int .i64 (bV lb [])].toArray ∧ Out Nil w w' := by
 by_cases h : lb.length = 32
 ·
  have := TB hX bT h
  rw [gO, if_pos h, show jR lb = lb from if_pos h]; exact this
 ·
  have := X3 hX bT h hl
  rw [gO, if_neg h, show jR lb = qS from if_neg h]; exact this
theorem dM.rd0 {w : World} {bf : Nat} {op : List UInt8} {ix code : Int} (h : aM w bf 221 (dM op ix code)) : cX w ⟨bf, 0, none⟩ [o8 op] := aM.aF h (o := 0) ⟨[], [.int .i64 ix, .iface 42 (.int .i64 code)], rfl, rfl⟩ rfl
theorem dM.rd1 {w : World} {bf : Nat} {op : List UInt8} {ix code : Int} (h : aM w bf 221 (dM op ix code)) : cX w ⟨bf, 1, none⟩ [.int .i64 ix] := aM.aF h (o := 1) ⟨[o8 op], [.iface 42 (.int .i64 code)], rfl, rfl⟩ rfl
theorem dM.rd2 {w : World} {bf : Nat} {op : List UInt8} {ix code : Int} (h : aM w bf 221 (dM op ix code)) : cX w ⟨bf, 2, none⟩ [.iface 42 (.int .i64 code)] := aM.aF h (o := 2) ⟨[o8 op, .int .i64 ix], [], rfl, rfl⟩ rfl
theorem x8 {X : Nat → Prop} {w : World} {op : List UInt8} {ix code : Int} (hX : cU X w) :
  bF prog 80 [o8 op, .int .i64 ix, .iface 42 (.int .i64 code)].toArray w fun v w' => ∃ bf, v = .iface 219 (.pointer (some ⟨bf, 0, none⟩)) ∧ Out Nil w w' ∧ w.heap.size ≤ bf ∧ aM w' bf 221 (dM op ix code) := by
 refine bF.aI (N := 15) func80 rfl rfl (by simp) ?_
 have H := St.begin hX
 refine WE.aA (WL.as rfl rfl (WL.nil (WE.seq (WE.aA (WL.mv rfl rfl ?_)))))
 refine WL.pv (PV.pO rfl (by kernel_rfl) (by exact yF.of)) rfl ?_
 refine WL.nil ?_
 refine WE.bB rfl rfl ?_
 refine WE.skip (WE.aA (WL.mv rfl rfl (WL.mv rfl rfl (WL.mv rfl rfl ?_))))
 refine WL.pv (PV.dD rfl aDh aCA (Fl.cons rfl (rfl) (by simp only [aR, aU, aB]) Laid.head (Fl.cons rfl (rfl) (by simp only [aR, aU, aB]) (Laid.tail Laid.head rfl) (Fl.cons rfl (rfl) (by simp only [aR, aU, aB]) (Laid.tail (Laid.tail Laid.head rfl) rfl) Fl.nil)))) rfl ?_
 refine WL.box (l := dM op ix code) H rfl rfl rfl ?_
 intro b13 w1 H
 refine WL.pv (PV.kV rfl (by kernel_rfl)) rfl (WL.as rfl rfl (WL.nil (WE.ret ⟨[_], _, .nil _, ⟨rfl, trivial⟩, ?_⟩)))
 exact ⟨_, rfl, H.aL, H.jU _ (List.mem_of_getElem? (i := 0) rfl) _ rfl, H.l 0 rfl⟩
theorem G7 {X : Nat → Prop} {w : World} {op : List UInt8} {ix code : Int} (hX : cU X w) :
  bF prog 53 [o8 op, .int .i64 ix, .int .i64 code].toArray w fun v w' => Out Nil w w' ∧ aH X (eZ op ix code v) w' := by
 refine bF.aI (N := 14) func53 rfl rfl (by simp) ?_
 have H := St.begin hX
 refine WE.aA (WL.as rfl rfl (WL.nil (WE.seq (WE.aA (WL.mv rfl rfl (WL.pv (PV.eql rfl rfl rfl) rfl (WL.nil ?_)))))))
 refine WE.cond rfl (fun mP => ?_) (fun mP => ?_)
 ·
  try simp only [bU] at mP
  have hz : code = 0 := by exact mP
  refine WE.aA (WL.as rfl rfl (WL.nil (WE.ret ⟨[_], _, .nil _, ⟨rfl, trivial⟩, ?_⟩)))
  exact ⟨H.aL, fun _ _ => .inl ⟨hz, rfl⟩⟩
 ·
  try simp only [bU] at mP
  have hz : code ≠ 0 := by exact mP
  refine WE.skip (WE.aA (WL.mv rfl rfl (WL.mv rfl rfl (WL.mv rfl rfl (WL.pv (PV.kV rfl (by kernel_rfl)) rfl ?_)))))
  refine WL.call aEG rfl (x8 (op := op) (ix := ix) (code := code) H.aS  ) ?_
  rintro _ w1 ⟨SD, rfl, hO, hge, hB⟩
  replace H := H.push hO (aN.blk SD 221 (dM op ix code)) hB (fun c hc => by cases hc; exact hge)
  refine WL.as rfl rfl (WL.nil (WE.ret ⟨[_], _, .nil _, ⟨rfl, trivial⟩, ?_⟩))
  replace H := H.freeze (i := 0) rfl
  exact ⟨H.aL, (show aH X (fun w => aM w SD 221 (dM op ix code)) _ from H.gQ (H.bK 0 rfl)).imp fun _ h => .inr ⟨hz, SD, rfl, h⟩⟩
theorem SX {X : Nat → Prop} {w : World} {bf : Nat} {op : List UInt8} {ix code : Int} (hX : cU X w) (bT : aH X (fun w => aM w bf 221 (dM op ix code)) w) :
  bF prog 249 [.pointer (some ⟨bf, 0, none⟩)].toArray w fun v w' => v = .iface 42 (.int .i64 code) ∧ Out Nil w w' := by
 refine bF.aI (N := 9) func249 rfl rfl (by simp) ?_
 have H := (St.begin hX).add (cE bT)
 refine WE.aA (WL.as rfl rfl (WL.nil (WE.seq (WE.aA (WL.mv rfl rfl (WL.pv (PV.iX rfl Y1 rfl rfl) rfl (WL.nil ?_)))))))
 refine WE.bB rfl rfl ?_
 refine WE.skip (WE.aA (WL.mv rfl rfl (WL.pv (PV.nilCheck rfl rfl) rfl (WL.pv (PV.fieldAddr rfl JU rfl) rfl (WL.aY rfl aGk rfl rfl ((dM.rd2 (H.p 0 rfl))) (WL.as rfl rfl (WL.nil ?_)))))))
 refine WE.ret ⟨[_], _, .nil _, ⟨rfl, trivial⟩, ?_⟩
 exact ⟨rfl, H.aL⟩
theorem J2 {X : Nat → Prop} {w : World} {s sv : Value} {lb vv : List UInt8} (hX : cU X w) (bT : aH X (bI s lb) w) (dA : aH X (bI sv vv) w) (D5 : lb.length ≤ 9223372036854775807) (hvv : vv.length ≤ 9223372036854775807) :
  bF prog 89 [s, sv].toArray w fun v w' => v = .tuple [.agg (kc (jR lb) ++ [sv]).toArray, .int .i64 (bV lb vv)].toArray ∧ Out Nil w w' := by
 refine bF.aI (N := 24) func89 rfl rfl (by simp) ?_
 have H := ((St.begin hX).add (cE dA)).add (cE bT)
 have vC : sv.oneCell' = true := cR.fH (dA.here)
 have NI := nC lb
 have P9 := gO lb
 refine WE.aA ?_
 refine WL.alloc H rfl kO rfl ?_
 intro b4 w1 H
 refine WL.as rfl rfl (WL.nil (WE.aA (WL.mv rfl rfl ?_)))
 refine WL.call aFA rfl (aGA (lb := lb) H.aS (by exact (H.bK 0 rfl : aH _ (bI s lb) _)) D5) ?_
 rintro _ w2 ⟨rfl, hO⟩
 replace H := H.out hO
 refine WL.mv rfl rfl (WL.pv (PV.extract rfl rfl rfl) rfl (WL.pv (PV.extract rfl rfl rfl) rfl ?_))
 refine WL.alloc H rfl rM rfl ?_
 intro b6 w3 H
 refine WL.aT H 0 rfl rfl rfl (new := kc (jR lb)) rfl (cH cM (by simp only [aR, aU, aB]; omega)) (bJ _) (Laid.at (Laid.all (by simp only [aR, aU, aB]; omega)) rfl) rfl ?_
 intro w4 H
 refine WL.as rfl rfl (WL.nil (WE.seq (WE.aA (WL.mv rfl rfl (WL.pv (PV.eql rfl rfl rfl) rfl (WL.mv rfl rfl ?_))))))
 refine WL.split (t := 15) rfl (fun sF => ?_) (fun sF => ?_)
 ·
  refine WL.known (t := 14) (c := true) rfl sF ?_
  try simp only [bU] at sF
  have hok : bV lb [] = 0 := by exact sF
  have FV : lb.length = 32 := (c8.1 hok).1
  refine WL.mv rfl rfl ?_
  refine WL.pv (PV.dO (by exact (H.p 1 rfl : (bI sv vv) _)) eW rfl) rfl ?_
  refine WL.pv (PV.gtr rfl rfl rfl) rfl (WL.pv (PV.dB rfl rfl rfl) rfl (WL.nil ?_))
  refine WE.cond rfl (fun jL => ?_) (fun jL => ?_)
  ·
   try simp only [bU] at jL
   have hrn : bV lb vv = 3 := by unfold bV; rw [if_neg (by omega), if_pos (by omega)]
   refine WE.eH (WL.as rfl rfl (WL.nil (WE.aA ?_)))
   refine WL.bC rfl cV rfl rfl (aM.aF (H.l 0 rfl) (aJ.all _) rfl) (cH cM (by simp only [aR, aU, aB]; omega)) ?_
   refine WL.mv rfl rfl ?_
   refine WL.pv (PV.dD rfl wI kO (Fl.cons rfl rfl (by simp only [aR, aU, aB]; omega) (Laid.left (Laid.all (by simp only [aR, aU, aB]; omega))) (Fl.cons rfl (cells_one vC) (by simp only [aR, aU, aB]) (Laid.right (Laid.all (by simp only [aR, aU, aB])) (by simp only [aR, aU, aB]; omega)) Fl.nil))) rfl ?_
   refine WL.mv rfl rfl ?_
   refine WL.aT H 1 rfl rfl rfl (new := kc (jR lb) ++ [sv]) rfl (cH fK (by simp only [aR, aU, aB]; omega)) (bO (bJ _) (dW vC)) (Laid.at (Laid.all (by simp only [aR, aU, aB]; omega)) rfl) rfl ?_
   intro w5 H
   refine WL.as rfl rfl (WL.nil (WE.ret ⟨[_, _], _, .nil _, ⟨⟨_, rfl, aW oU (aM.aF (H.l 1 rfl) (aJ.all _) rfl) (cH fK (by simp only [aR, aU, aB]; omega))⟩, rfl, trivial⟩, ?_⟩))
   refine ⟨?_, H.aL⟩
   rw [hrn]; rfl
  ·
   try simp only [bU] at jL
   have hrn : bV lb vv = bV lb [] := by rw [hok]; exact c8.2 ⟨FV, by omega⟩
   refine WE.skip (WE.aA ?_)
   refine WL.bC rfl cV rfl rfl (aM.aF (H.l 0 rfl) (aJ.all _) rfl) (cH cM (by simp only [aR, aU, aB]; omega)) ?_
   refine WL.mv rfl rfl ?_
   refine WL.pv (PV.dD rfl wI kO (Fl.cons rfl rfl (by simp only [aR, aU, aB]; omega) (Laid.left (Laid.all (by simp only [aR, aU, aB]; omega))) (Fl.cons rfl (cells_one vC) (by simp only [aR, aU, aB]) (Laid.right (Laid.all (by simp only [aR, aU, aB])) (by simp only [aR, aU, aB]; omega)) Fl.nil))) rfl ?_
   refine WL.mv rfl rfl ?_
   refine WL.aT H 1 rfl rfl rfl (new := kc (jR lb) ++ [sv]) rfl (cH fK (by simp only [aR, aU, aB]; omega)) (bO (bJ _) (dW vC)) (Laid.at (Laid.all (by simp only [aR, aU, aB]; omega)) rfl) rfl ?_
   intro w6 H
   refine WL.as rfl rfl (WL.nil (WE.ret ⟨[_, _], _, .nil _, ⟨⟨_, rfl, aW oU (aM.aF (H.l 1 rfl) (aJ.all _) rfl) (cH fK (by simp only [aR, aU, aB]; omega))⟩, rfl, trivial⟩, ?_⟩))
   refine ⟨?_, H.aL⟩
   rw [hrn]; rfl
 ·
  refine WL.known (t := 14) (c := false) rfl sF ?_
  try simp only [bU] at sF
  have hok : ¬ bV lb [] = 0 := by exact sF
  have FV : lb.length ≠ 32 := fun h => hok (c8.2 ⟨h, by simp⟩)
  have hrn : bV lb vv = bV lb [] := by rw [P9, if_neg FV]; exact if_pos FV
  refine WL.off rfl (WL.off rfl (WL.off rfl (WL.pv (PV.cZ rfl rfl rfl) rfl (WL.nil (WE.iJ rfl (WE.skip (WE.aA ?_)))))))
  refine WL.bC rfl cV rfl rfl (aM.aF (H.l 0 rfl) (aJ.all _) rfl) (cH cM (by simp only [aR, aU, aB]; omega)) ?_
  refine WL.mv rfl rfl ?_
  refine WL.pv (PV.dD rfl wI kO (Fl.cons rfl rfl (by simp only [aR, aU, aB]; omega) (Laid.left (Laid.all (by simp only [aR, aU, aB]; omega))) (Fl.cons rfl (cells_one vC) (by simp only [aR, aU, aB]) (Laid.right (Laid.all (by simp only [aR, aU, aB])) (by simp only [aR, aU, aB]; omega)) Fl.nil))) rfl ?_
  refine WL.mv rfl rfl ?_
  refine WL.aT H 1 rfl rfl rfl (new := kc (jR lb) ++ [sv]) rfl (cH fK (by simp only [aR, aU, aB]; omega)) (bO (bJ _) (dW vC)) (Laid.at (Laid.all (by simp only [aR, aU, aB]; omega)) rfl) rfl ?_
  intro w7 H
  refine WL.as rfl rfl (WL.nil (WE.ret ⟨[_, _], _, .nil _, ⟨⟨_, rfl, aW oU (aM.aF (H.l 1 rfl) (aJ.all _) rfl) (cH fK (by simp only [aR, aU, aB]; omega))⟩, rfl, trivial⟩, ?_⟩))
  refine ⟨?_, H.aL⟩
  rw [hrn]; rfl
theorem vV {X : Nat → Prop} {w : World} {bt : Nat} {op : List UInt8} {s sv : Value} {lb vv : List UInt8} (hX : cU X w) (bT : aH X (bI s lb) w) (dA : aH X (bI sv vv) w) (D5 : lb.length ≤ 9223372036854775807) (hvv : vv.length ≤ 9223372036854775807) :
  bF prog 49 [.pointer (some ⟨bt, 0, none⟩), o8 op, s, sv].toArray w fun v w' => ∃ ev, v = .tuple [.agg (kc (jR lb) ++ [sv]).toArray, ev].toArray ∧ Out Nil w w' ∧ aH X (eZ op 0 (bV lb vv) ev) w' := by
 refine bF.aI (N := 27) func49 rfl rfl (by simp) ?_
 have H := ((St.begin hX).add (cE dA)).add (cE bT)
 have vC : sv.oneCell' = true := cR.fH (dA.here)
 have NI := nC lb
 refine WE.aA ?_
 refine WL.alloc H rfl kO rfl ?_
 intro b8 w1 H
 refine WL.as rfl rfl (WL.nil (WE.seq (WE.aA (WL.mv rfl rfl (WL.pv (PV.iX rfl GA rfl rfl) rfl (WL.nil ?_))))))
 refine WE.bB rfl rfl ?_
 refine WE.skip (WE.aA (WL.mv rfl rfl (WL.mv rfl rfl ?_)))
 refine WL.call aEE rfl (J2 (lb := lb) (vv := vv) H.aS (by exact H.bK 0 rfl) (by exact H.bK 1 rfl) (by assumption) (by assumption)) ?_
 rintro _ w2 ⟨rfl, hO⟩
 replace H := H.out hO
 refine WL.mv rfl rfl (WL.pv (PV.extract rfl rfl rfl) rfl (WL.pv (PV.extract rfl rfl rfl) rfl ?_))
 refine WL.alloc H rfl kO rfl ?_
 intro sW w3 H
 refine WL.aT H 0 rfl rfl rfl (new := _) rfl (cH fK (by simp only [aR, aU, aB]; omega)) (bO (bJ _) (dW vC)) (Laid.at (Laid.all (by simp only [aR, aU, aB]; omega)) rfl) rfl ?_
 intro w4 H
 refine WL.as rfl rfl (WL.nil ?_)
 refine WE.bG (.take 0 (.take 1 (.take 2 (.aG 3 (.aG 4 (.take 5 .done)))))) mixed (by kernel_rfl) ?_
 replace H := H.out (Out.drew _)
 refine WP.dF rfl rfl rfl oU rfl (aM.aF (H.l 0 rfl) (aJ.all _) rfl) (cH fK (by simp only [aR, aU, aB]; omega)) ?_
 refine WP.mv rfl rfl rfl (WP.mv rfl rfl rfl (WP.aG rfl ?_))
 refine WL.call aBJ rfl (G7 (op := op) (ix := 0) (code := bV lb vv) H.aS  ) ?_
 rintro v26 w5 ⟨hO, hR⟩
 replace H := (H.out hO).add hR
 refine WL.nil ⟨(fa (fun _ _ => (aM.aF (H.l 0 rfl) (aJ.all _) rfl)) c5), ?_⟩
 refine WP.aG rfl ?_
 refine WL.aT H 1 rfl rfl rfl (new := kc (jR lb) ++ [sv]) rfl (cH fK (by simp only [aR, aU, aB]; omega)) (bO (bJ _) (dW vC)) (Laid.at (Laid.all (by simp only [aR, aU, aB]; omega)) rfl) rfl ?_
 intro w6 H
 refine WL.nil ⟨(fa (nw 4 0) c5), ?_⟩
 refine WP.as rfl rfl rfl (WP.done (WE.ret ⟨[_, _], _, .nil _, ⟨⟨_, rfl, aW oU (aM.aF (H.l 1 rfl) (aJ.all _) rfl) (cH fK (by simp only [aR, aU, aB]; omega))⟩, rfl, trivial⟩, ?_⟩))
 exact ⟨_, rfl, H.aL, H.gQ (H.bK 0 rfl)⟩
theorem lC {X : Nat → Prop} {w : World} {bt bh : Nat} {T : Tr} (hX : cU X w) (bT : aH X (fun w => cX w ⟨bt, 0, none⟩ [.pointer (some ⟨bh, 0, none⟩), T.ptr]) w) :
  bF prog 10 [.pointer (some ⟨bt, 0, none⟩)].toArray w fun v w' => v = .pointer (some ⟨bh, 0, none⟩) ∧ Out Nil w w' := by
 refine bF.aI (N := 9) func10 rfl rfl (by simp) ?_
 have H := (St.begin hX).add (cE bT)
 refine WE.aA (WL.as rfl rfl (WL.nil (WE.seq (WE.aA (WL.mv rfl rfl (WL.pv (PV.iX rfl GA rfl rfl) rfl (WL.nil ?_)))))))
 refine WE.bB rfl rfl ?_
 refine WE.skip (WE.aA (WL.mv rfl rfl (WL.pv (PV.nilCheck rfl rfl) rfl (WL.pv (PV.fieldAddr rfl xE rfl) rfl ?_))))
 refine WL.aY rfl u3 rfl rfl (by exact cX.at_ (o := 0) (H.p 0 rfl) rfl rfl) ?_
 refine WL.as rfl rfl (WL.nil (WE.ret ⟨[_], _, .nil _, ⟨rfl, trivial⟩, ?_⟩))
 exact ⟨rfl, H.aL⟩
theorem KK {X : Nat → Prop} {w : World} {bt bh : Nat} {T : Tr} (hX : cU X w) (bT : aH X (fun w => cX w ⟨bt, 0, none⟩ [.pointer (some ⟨bh, 0, none⟩), T.ptr]) w) :
  bF prog 11 [.pointer (some ⟨bt, 0, none⟩)].toArray w fun v w' => v = T.ptr ∧ Out Nil w w' := by
 refine bF.aI (N := 9) func11 rfl rfl (by simp) ?_
 have H := (St.begin hX).add (cE bT)
 refine WE.aA (WL.as rfl rfl (WL.nil (WE.seq (WE.aA (WL.mv rfl rfl (WL.pv (PV.iX rfl GA rfl rfl) rfl (WL.nil ?_)))))))
 refine WE.bB rfl rfl ?_
 refine WE.skip (WE.aA (WL.mv rfl rfl (WL.pv (PV.nilCheck rfl rfl) rfl (WL.pv (PV.fieldAddr rfl oG rfl) rfl ?_))))
 refine WL.aY rfl gX rfl rfl (by exact cX.at_ (o := 1) (H.p 0 rfl) rfl rfl) ?_
 refine WL.as rfl rfl (WL.nil (WE.ret ⟨[_], _, .nil _, ⟨rfl, trivial⟩, ?_⟩))
 exact ⟨rfl, H.aL⟩
theorem CG {X : Nat → Prop} {w : World} {bt bh bc : Nat} {bits c0 : Int} {T : Tr} (hX : cU X w) (eT : aM w bc 213 ([.int .i64 c0])) (bT : aH (fun c_ => X c_ ∨ c_ = bc) (fun w => cX w ⟨bt, 0, none⟩ [.pointer (some ⟨bh, 0, none⟩), T.ptr]) w) (dA : aH (fun c_ => X c_ ∨ c_ = bc) (fF bh bc bits) w) (fN : aH (fun c_ => X c_ ∨ c_ = bc) (cQ bits T) w) (jO : aH (fun c_ => X c_ ∨ c_ = bc) (aX) w) (bR : 0 ≤ bits ∧ bits ≤ 256) :
  bF prog 13 [.pointer (some ⟨bt, 0, none⟩)].toArray w fun v w' => ∃ m : Int, v = .agg (kc (T.er.kN bits)).toArray ∧ Out (· = bc) w w' ∧ aM w' bc 213 [.int .i64 m] := by
 refine bF.aI (N := 15) func13 rfl rfl (by simp) ?_
 have H := ((((St.c7 (b := bc) (t := 213) (l := [.int .i64 c0]) hX eT).add (bX jO)).add (bX fN)).add (bX dA)).add (bX bT)
 refine WE.aA ?_
 refine WL.alloc H rfl mQ rfl ?_
 intro b2 w1 H
 refine WL.nil (WE.seq (WE.aA (WL.mv rfl rfl (WL.pv (PV.iX rfl GA rfl rfl) rfl (WL.nil ?_)))))
 refine WE.bB rfl rfl ?_
 refine WE.skip ?_
 refine WE.bG (.take 0 (.take 1 (.take 2 (.take 3 (.take 4 (.take 5 (.take 6 (.take 7 (.aG 8 (.aG 9 .done)))))))))) mixed (by kernel_rfl) ?_
 replace H := H.out (Out.drew _)
 refine WP.mv rfl rfl rfl (WP.aC rfl rfl (PV.nilCheck rfl rfl) (WP.aC rfl rfl (PV.fieldAddr rfl xE rfl) ?_))
 refine WP.aQ rfl rfl (RV.aZ rfl u3 rfl) (by exact cX.at_ (o := 0) (H.p 0 rfl) rfl rfl) ?_
 refine WP.mv rfl rfl rfl (WP.aC rfl rfl (PV.nilCheck rfl rfl) (WP.aC rfl rfl (PV.fieldAddr rfl oG rfl) ?_))
 refine WP.aQ rfl rfl (RV.aZ rfl gX rfl) (by exact cX.at_ (o := 1) (H.p 0 rfl) rfl rfl) ?_
 refine WP.aG rfl ?_
 refine WL.call RI rfl (sR (T := T) (bits := bits) H.aS (H.o 0 rfl) (by exact H.aK 0 rfl 1 rfl) (by exact H.aK 0 rfl 2 rfl) (by exact H.aK 0 rfl 3 rfl) (by assumption)) ?_
 rintro _ w2 ⟨aJh, rfl, hO, hB⟩
 replace H := H.eU 0 rfl hO hB
 refine WL.nil ⟨(fa (nw 8 7) (fa (nw 8 3) c5)), ?_⟩
 refine WP.aG rfl ?_
 refine WL.aT H 0 rfl rfl rfl (new := kc (T.er.kN bits)) rfl (cH dJ (by simp only [aR, aU, aB])) (bJ _) (Laid.at (Laid.all (by simp only [aR, aU, aB])) rfl) rfl ?_
 intro w3 H
 refine WL.nil ⟨(fa (nw 9 7) (fa (nw 9 3) c5)), ?_⟩
 refine WP.done (WE.ret ⟨[_], _, .nil _, ⟨⟨_, rfl, aW gT (aM.aF (H.l 0 rfl) (aJ.all _) rfl) (cH dJ (by simp only [aR, aU, aB]))⟩, trivial⟩, ?_⟩)
 exact ⟨_, rfl, H.cL, H.o 0 rfl⟩
theorem SZ {X : Nat → Prop} {w : World} {i : Int} (hX : cU X w) (hi : 0 ≤ i ∧ i ≤ 256) :
  bF prog 29 [.int .i64 i].toArray w fun v w' => ∃ bt bh bc, v = .tuple [.pointer (some ⟨bt, 0, none⟩), .int .i64 0].toArray ∧ Out Nil w w' ∧ w.heap.size ≤ bt ∧ w.heap.size ≤ bc ∧ bt ≠ bc ∧ aM w' bt 90 [.pointer (some ⟨bh, 0, none⟩), .pointer none] ∧ aM w' bc 213 [.int .i64 0] ∧ aH (fun c => X c ∨ c = bt ∨ c = bc) (fF bh bc i) w' := by
 refine bF.aI (N := 17) func29 rfl rfl (by simp) ?_
 have H := St.begin hX
 refine WE.aA (WL.as rfl rfl (WL.as rfl rfl (WL.nil (WE.aA (WL.mv rfl rfl ?_)))))
 refine WL.call aIe rfl (aGB (i := i) H.aS  (by assumption)) ?_
 rintro _ w1 ⟨aIA, aIB, rfl, hO, hge, hB, hR⟩
 replace H := H.OZ hO (aN.blk aIB 213 [.int .i64 0]) hB (fun c hc => by cases hc; exact hge) hR
 refine WL.mv rfl rfl (WL.pv (PV.extract rfl rfl rfl) rfl (WL.pv (PV.extract rfl rfl rfl) rfl (WL.as rfl rfl (WL.as rfl rfl (WL.nil (WE.seq (WE.aA ?_)))))))
 refine WL.mv rfl rfl (WL.pv (PV.neq rfl rfl rfl) rfl (WL.nil ?_))
 refine WE.bB rfl rfl ?_
 refine WE.skip (WE.aA (WL.mv rfl rfl ?_))
 refine WL.pv (PV.dD rfl aG6 aGP (Fl.cons rfl (rfl) (by simp only [aR, aU, aB]) Laid.head Fl.nil)) rfl ?_
 refine WL.box (l := [.pointer (some ⟨aIA, 0, none⟩), .pointer none]) H rfl rfl rfl ?_
 intro b16 w2 H
 refine WL.as rfl rfl (WL.as rfl rfl (WL.nil (WE.ret ⟨[_, _], _, .nil _, ⟨rfl, rfl, trivial⟩, ?_⟩)))
 exact ⟨_, _, _, rfl, H.aL, H.jU _ (List.mem_of_getElem? (i := 0) rfl) _ rfl, H.jU _ (List.mem_of_getElem? (i := 1) rfl) _ rfl, (fun e => eS H.gW (i := 0) (j := 1) (by decide) rfl rfl _ ⟨rfl, e⟩), H.l 0 rfl, H.l 1 rfl, H.ZZ 0 rfl⟩
def pK (T : Tr) (k : List UInt8) : Nat := (T.fin k).er.kind.toNat
theorem aDm (T : Tr) (k : List UInt8) : (T.fin k).er.kind = ((pK T k : Nat) : Int) := by
 unfold pK
 cases (T.fin k).er <;> rfl
theorem NA {X : Nat → Prop} {w : World} {bits : Int} {T : Tr} {k : List UInt8} (hX : cU X w) (bT : aH X (cQ bits T) w) :
  bF prog 31 [(T.fin k).ptr].toArray w fun v w' => v = .int .i64 ((pK T k : Nat) : Int) ∧ Out Nil w w' := by
 rw [← aDm]
 exact e9 hX (bT.imp fun _ h => h.iF _)
theorem aAN {v : Value} {T : Tr} {k : List UInt8} {n i : Nat} {w : World} (h : jW v (nX T k n) w) (hi : i < n) : cX w (jF v (i * 1)) [(o9 T k i).ptr] := by
 have h2 := jW.rd h i (by rw [pA]; exact hi)
 rw [OC] at h2
 exact h2
theorem DJ (T : Tr) (k : List UInt8) (i : Nat) : lJ T k (i + 1) = if zK T k i then oP (lJ T k i) i else lJ T k i := rfl
theorem KM {X : Nat → Prop} {w : World} {bh bc : Nat} {bits n0 : Int} {T : Tr} {k : List UInt8} (hX : cU X w) (eT : aM w bc 213 ([.int .i64 n0])) (bT : aH (fun c_ => X c_ ∨ c_ = bc) (fF bh bc bits) w) (dA : aH (fun c_ => X c_ ∨ c_ = bc) (cQ bits T) w) (fN : aH (fun c_ => X c_ ∨ c_ = bc) (aX) w) (bR : 0 ≤ bits ∧ bits ≤ 256) (hk : k.length = 32) (hfit : T.er.fit 0) :
  bF prog 9 [.pointer (some ⟨bh, 0, none⟩), T.ptr, .agg (kc k).toArray].toArray w fun v w' => ∃ (m : Int) (sl : Value), v = .agg (fG (pK T k) (T.dp k 0) (T.fin k).key ((T.fin k).vd bits) (lJ T k (T.dp k 0)) sl).toArray ∧ Out (· = bc) w w' ∧ aM w' bc 213 [.int .i64 m] ∧ aH (fun c => X c ∨ c = bc) (eQ sl (gA bits T k (T.dp k 0))) w' := by
 refine bF.aI (N := 52) func9 rfl rfl (by simp) ?_
 have H := (((St.c7 (b := bc) (t := 213) (l := [.int .i64 n0]) hX eT).add (bX fN)).add (bX dA)).add (bX bT)
 have yT := Tr.tT (k := k) _ 0 T rfl hfit (by omega)
 have hfk := cQ.gF (show cQ bits (T.fin k) w from (dA.here).iF _)
 have hvd := Tr.aP bits (T.fin k)
 refine WE.aA ?_
 refine WL.box (l := kc k) H rfl rfl rfl ?_
 intro b5 w1 H
 refine WL.alloc H rfl CQ rfl ?_
 intro b6 w2 H
 refine WL.nil (WE.aA (WL.mv rfl rfl ?_))
 refine WL.bC rfl cV rfl rfl (aM.aF (H.l 1 rfl) (aJ.all _) rfl) (cH cM (by simp only [aR, aU, aB, Tr.aP, bD, aV, aD]; omega)) ?_
 refine WL.call WW rfl (sQ (T := T) (k := k) (bits := bits) H.aS (by exact (H.bK 1 rfl : aH _ (cQ bits T) _)) hk hfit) ?_
 rintro _ w3 ⟨rfl, hO⟩
 replace H := H.out hO
 refine WL.mv rfl rfl (WL.pv (PV.extract rfl rfl rfl) rfl (WL.pv (PV.extract rfl rfl rfl) rfl (WL.as rfl rfl (WL.as rfl rfl (WL.nil (WE.aA (WL.mv rfl rfl ?_)))))))
 refine WL.call mK rfl (NA (T := T) (k := k) (bits := bits) H.aS (by exact (H.bK 1 rfl : aH _ (cQ bits T) _))) ?_
 rintro _ w4 ⟨rfl, hO⟩
 replace H := H.out hO
 refine WL.mv rfl rfl (WL.mv rfl rfl ?_)
 refine WL.call EM rfl (mE (T := T.fin k) (bits := bits) H.aS (by exact (H.bK 1 rfl : aH _ (cQ bits T) _).imp fun _ h => h.iF _)) ?_
 rintro _ w5 ⟨rfl, hO⟩
 replace H := H.out hO
 refine WL.pv (PV.dD rfl aAW CQ (Fl.cons rfl rfl (by simp only [aR, aU, aB, Tr.aP, bD, aV, aD]) (Laid.left (Laid.all (by simp only [aR, aU, aB, Tr.aP, bD, aV, aD]))) (Fl.cons rfl rfl (by simp only [aR, aU, aB, Tr.aP, bD, aV, aD]) (Laid.right (Laid.left (Laid.all (by simp only [aR, aU, aB, Tr.aP, bD, aV, aD]))) (by simp only [aR, aU, aB, Tr.aP, bD, aV, aD])) (Fl.cons rfl rfl (by simp only [aR, aU, aB, Tr.aP, bD, aV, aD]; omega) (Laid.right (Laid.right (Laid.left (Laid.all (by simp only [aR, aU, aB, Tr.aP, bD, aV, aD]; omega))) rfl) (by simp only [aR, aU, aB, Tr.aP, bD, aV, aD])) Fl.nil)))) rfl ?_
 refine WL.alloc H rfl CQ rfl ?_
 intro b9 w6 H
 refine WL.aT H 0 rfl rfl rfl (new := fG (pK T k) (T.dp k 0) (T.fin k).key ((T.fin k).vd bits) ((List.replicate 32 0)) (.slice none 0 0)) rfl (cH kQ (by simp only [aR, aU, aB, Tr.aP, bD, aV, aD]; omega)) (r4 rfl) (Laid.at (Laid.all (by simp only [aR, aU, aB, Tr.aP, bD, aV, aD]; omega)) rfl) rfl ?_
 intro w7 H
 replace H := H.lK 30 32
 refine WL.nil (WE.aA ?_)
 refine WL.alloc H rfl KT rfl ?_
 intro sW w8 H
 replace H := H.perm (List.Perm.swap _ _ _)
 obtain ⟨z6, hz6⟩ : ∃ z6 : List Value, z6 = [.int .i64 0] ++ ([.int .i64 0] ++ ((kc (List.replicate 32 0) ++ kc (List.replicate 32 0)) ++ (kc (List.replicate 32 0) ++ [.slice none 0 0]))) := ⟨_, rfl⟩
 have aJj : z6.length = 99 := by rw [hz6]; rfl
 rw [← hz6] at H
 refine WL.nil (WE.seq (WE.aA (WL.mv rfl rfl ?_)))
 refine WL.bC rfl cV rfl rfl (aM.aF (H.l 4 rfl) (aJ.all _) rfl) (cH cM (by simp only [aR, aU, aB, Tr.aP, bD, aV, aD]; omega)) ?_
 refine WL.call aIp rfl (HX (T := T) (k := k) (bits := bits) H.aS (by exact (H.bK 1 rfl : aH _ (cQ bits T) _)) hk hfit) ?_
 rintro v27 w9 ⟨hO, hR⟩
 replace H := (H.out hO).add hR
 refine WL.pv (PV.dO (by exact (H.p 0 rfl : (jW v27 (nX T k (T.dp k 0))) _)) OA rfl) rfl ?_
 refine WL.mv rfl rfl (WL.nil (WE.block ?_))
 refine WE.loop (α := Nat × Value × Int) (rg [(11, 2), (29, 20)]) (fun p => [(29, .int .i64 (p.1 : Int))]) (fun p wl => p.1 ≤ T.dp k 0 ∧ St X w wl [aN.blk bc 213 [.int .i64 p.2.2]] [aN.iA w.heap.size p.2.1 30 32 (gA bits T k (p.1)).length ((gA bits T k (p.1)).flatMap kc), aN.blk sW 85 (kc (lJ T k (p.1))), aN.blk b9 35 (fG (pK T k) (T.dp k 0) (T.fin k).key ((T.fin k).vd bits) ((List.replicate 32 0)) p.2.1), aN.blk b6 35 z6, aN.blk b5 24 (kc k)] [jW v27 (nX T k (T.dp k 0)), fF bh bc bits, cQ bits T, aX]) (fun p => T.dp k 0 - p.1) (0, .slice none 0 0, n0) ⟨rfl, trivial⟩ ⟨Nat.zero_le _, H⟩ ?_
 intro ⟨i, q, m⟩ γ0 vR hI
 try dsimp only at hI
 obtain ⟨hi, H⟩ := hI
 refine WE.aA (WL.pv (PV.lss rfl rfl rfl) rfl (WL.nil (WE.seq ?_)))
 refine WE.cond rfl (fun QX => ?_) (fun QX => ?_)
 ·
  try simp only [bU] at QX
  have hlt : i < T.dp k 0 := by (rw [pA] at QX; omega)
  have vB := O0 bits T k i
  have ZS := bD T k i
  refine WE.skip ?_
  refine WE.cut (α := Value × Int) (rg [(11, 2), (31, 17)]) (fun ⟨q1, m1⟩ => []) (fun ⟨q1, m1⟩ wl => St X w wl [aN.blk bc 213 [.int .i64 m1]] [aN.iA w.heap.size q1 30 32 (gA bits T k (i + 1)).length ((gA bits T k (i + 1)).flatMap kc), aN.blk sW 85 (kc (lJ T k (i + 1))), aN.blk b9 35 (fG (pK T k) (T.dp k 0) (T.fin k).key ((T.fin k).vd bits) ((List.replicate 32 0)) q1), aN.blk b6 35 z6, aN.blk b5 24 (kc k)] [jW v27 (nX T k (T.dp k 0)), fF bh bc bits, cQ bits T, aX]) ?_ ?_
  ·
   refine WE.block (WE.aA (WL.mv rfl rfl ?_))
   refine WL.pv (PV.eO rfl (by exact (H.p 0 rfl : (jW v27 (nX T k (T.dp k 0))) _)) OA lG rfl rfl (by omega) (by rw [pA]; omega)) rfl ?_
   refine WL.aY rfl gX rfl rfl ((aAN (by exact (H.p 0 rfl : (jW v27 (nX T k (T.dp k 0))) _)) hlt)) ?_
   refine WL.as rfl rfl (WL.as rfl rfl (WL.nil (WE.aA (WL.mv rfl rfl ?_))))
   refine WL.call mK rfl (e9 (T := o9 T k i) (bits := bits) H.aS (by exact (H.bK 2 rfl : aH _ (cQ bits T) _).imp fun _ h => (h.iF i).beside)) ?_
   rintro _ y8 ⟨rfl, hO⟩
   replace H := H.out hO
   refine WL.pv (PV.neq rfl rfl rfl) rfl (WL.nil ?_)
   refine WE.cond rfl (fun oE => ?_) (fun oE => ?_)
   ·
    try simp only [bU] at oE
    have hnz : zK T k i = true := decide_eq_true (by exact oE)
    refine WE.aA ?_
    refine WL.bC rfl lZ rfl rfl (aM.aF (H.l 1 rfl) (aJ.all _) rfl) (cH jK (by simp only [aR, aU, aB, Tr.aP, bD, aV, aD])) ?_
    refine WL.mv rfl rfl ?_
    refine WL.call aIo rfl (YF (B := lJ T k i) (d := i) H.aS  (by assumption) (by omega)) ?_
    rintro _ IQ ⟨rfl, hO⟩
    replace H := H.out hO
    refine WL.aT H 1 rfl rfl rfl (new := kc (oP (lJ T k i) i)) rfl (cH jK (by simp only [aR, aU, aB, Tr.aP, bD, aV, aD])) (bJ _) (Laid.at (Laid.all (by simp only [aR, aU, aB, Tr.aP, bD, aV, aD])) rfl) rfl ?_
    intro FP H
    refine WL.nil ?_
    refine WE.draw (.take 0 (.take 1 (.take 2 (.take 3 (.aG 4 (.aG 5 (.aG 6 (.take 7 (.aG 8 .done))))))))) mixed (by kernel_rfl) ?_
    replace H := H.out (Out.drew _)
    refine WP.aC rfl rfl (PV.fieldAddr rfl mI rfl) ?_
    refine WP.aQ rfl rfl (RV.aZ rfl uD rfl) (aM.aF (H.l 2 rfl) (aJ.r (aJ.r (aJ.r (aJ.r (aJ.all _) rfl) rfl) rfl) rfl) (by simp [aO, bA, *])) ?_
    refine WP.mv rfl rfl rfl (WP.mv rfl rfl rfl (WP.aG rfl ?_))
    refine WL.call RI rfl (sR (T := o9 T k i) (bits := bits) H.aS (H.o 0 rfl) (by exact (H.aK 0 rfl 1 rfl : aH _ (fF bh bc bits) _)) (by exact (H.aK 0 rfl 2 rfl : aH _ (cQ bits T) _).imp fun _ h => (h.iF i).beside) (by exact (H.aK 0 rfl 3 rfl : aH _ (aX) _)) bR) ?_
    rintro _ K2 ⟨m44, rfl, hO, hB⟩
    replace H := H.eU 0 rfl hO hB
    refine WL.nil ⟨(fa (fun _ _ => (aM.aF (H.l 2 rfl) (aJ.r (aJ.r (aJ.r (aJ.r (aJ.all _) rfl) rfl) rfl) rfl) (by simp [aO, bA, *]))) c5), ?_⟩
    refine WP.aG rfl ?_
    refine WL.bL (l0 := (kc (List.replicate 32 0))) H rfl C3 (by decide) rfl (Fl.cons rfl rfl (by simp only [aR, aU, aB, Tr.aP, bD, aV, aD]) (Laid.all (by simp only [aR, aU, aB, Tr.aP, bD, aV, aD])) Fl.nil) rfl ?_
    intro b45 NY H
    refine WL.nil ⟨(fa (fun _ _ => (aM.aF (H.l 3 rfl) (aJ.r (aJ.r (aJ.r (aJ.r (aJ.all _) rfl) rfl) rfl) rfl) (by simp [aO, bA, *]))) c5), ?_⟩
    refine WP.aG rfl ?_
    refine WL.append (m := 1) H 1 C3 (by decide) rfl rfl rfl (cR.bZ (n := 1) (H.l 0 rfl) (by rw [aO]; exact fR _ _)) (bJ _) (by omega) (by decide) rfl ?_
    intro v46 TV H
    replace H := H.forget 0
    refine WL.nil ⟨(fa (nw 6 1) c5), ?_⟩
    refine WP.aC rfl rfl (PV.fieldAddr rfl mI rfl) (WP.aG rfl ?_)
    refine WL.aT H 2 rfl rfl rfl (new := _) (cells_one (iN (H.l 0 rfl))) (by exact aAJ) (dW (iN (H.l 0 rfl))) (Laid.at (Laid.right (Laid.right (Laid.right (Laid.right (Laid.all (by simp only [aR, aU, aB, Tr.aP, bD, aV, aD])) rfl) rfl) rfl) rfl) (by simp [aO, bA, *])) rfl ?_
    intro TU H
    replace H := H.conv (L' := [aN.iA w.heap.size v46 30 32 (gA bits T k (i + 1)).length ((gA bits T k (i + 1)).flatMap kc), aN.blk sW 85 (kc (lJ T k (i + 1))), aN.blk b9 35 (fG (pK T k) (T.dp k 0) (T.fin k).key ((T.fin k).vd bits) ((List.replicate 32 0)) v46), aN.blk b6 35 z6, aN.blk b5 24 (kc k)]) (by rw [DJ, if_pos hnz, zG, if_pos hnz, List.length_append, List.flatMap_append, List.flatMap_singleton]; rfl)
    refine WL.nil ⟨(fa (nw 8 1) c5), ?_⟩
    refine WP.done ?_
    exact ⟨(v46, m44), (by repeat (first | with_reducible exact bQ.refl _ _ | refine bQ.dG rfl ?_)), trivial, rfl, H⟩
   ·
    try simp only [bU] at oE
    have hnz : ¬ zK T k i = true := by unfold zK; rw [decide_eq_true_iff]; exact fun h => h oE
    replace H := H.conv (L' := [aN.iA w.heap.size q 30 32 (gA bits T k (i + 1)).length ((gA bits T k (i + 1)).flatMap kc), aN.blk sW 85 (kc (lJ T k (i + 1))), aN.blk b9 35 (fG (pK T k) (T.dp k 0) (T.fin k).key ((T.fin k).vd bits) ((List.replicate 32 0)) q), aN.blk b6 35 z6, aN.blk b5 24 (kc k)]) (by rw [DJ, if_neg hnz, zG, if_neg hnz])
    refine WE.skip ?_
    exact ⟨(q, m), (by repeat (first | with_reducible exact bQ.refl _ _ | refine bQ.dG rfl ?_)), trivial, rfl, H⟩
  ·
   intro ⟨q1, m1⟩ γ TT hI
   try dsimp only at hI
   replace H := hI
   refine WE.eH (WL.pv (PV.eq (v' := .int .i64 ((i + 1 : Nat) : Int)) (PV.bY rfl rfl rfl (by omega) (by omega)) rfl) rfl (WL.mv rfl rfl (WL.nil ?_)))
   exact ⟨(i + 1, q1, m1), (by repeat (first | with_reducible exact bQ.refl _ _ | refine bQ.dG rfl ?_ | refine bQ.cC rfl ?_ | refine bQ.cB rfl ?_)), ⟨rfl, trivial⟩, rfl, ⟨by dsimp only; omega, H⟩, (by dsimp only; omega)⟩
 ·
  try simp only [bU] at QX
  have uN : i = T.dp k 0 := by (rw [pA] at QX; omega)
  refine WE.exit (WE.aA ?_)
  refine WL.bC rfl lZ rfl rfl (aM.aF (H.l 1 rfl) (aJ.all _) rfl) (cH jK (by simp only [aR, aU, aB, Tr.aP, bD, aV, aD])) ?_
  refine WL.pv (PV.fieldAddr rfl pN rfl) rfl ?_
  refine WL.aT H 2 rfl rfl rfl (new := _) rfl (cH uW (by simp only [aR, aU, aB, Tr.aP, bD, aV, aD])) (bJ _) (Laid.at (Laid.right (Laid.right (Laid.right (Laid.left (Laid.all (by simp only [aR, aU, aB, Tr.aP, bD, aV, aD]))) rfl) rfl) rfl) (by simp [aO, bA, *])) rfl ?_
  intro YQ H
  refine WL.nil (WE.aA ?_)
  refine WL.bC rfl mN rfl rfl (aM.aF (H.l 2 rfl) (aJ.all _) rfl) (cH kQ (by simp only [aR, aU, aB, Tr.aP, bD, aV, aD]; omega)) ?_
  refine WL.aT H 3 rfl rfl rfl (new := fG (pK T k) (T.dp k 0) (T.fin k).key ((T.fin k).vd bits) (lJ T k i) q) rfl (cH kQ (by simp only [aR, aU, aB, Tr.aP, bD, aV, aD]; omega)) (r4 (iN (H.l 0 rfl))) (Laid.at (Laid.all (by simp only [aR, aU, aB, Tr.aP, bD, aV, aD]; omega)) rfl) rfl ?_
  intro w20 H
  refine WL.nil (WE.ret ⟨[_], _, .nil _, ⟨⟨_, rfl, aW mN (aM.aF (H.l 3 rfl) (aJ.all _) rfl) (cH kQ (by simp only [aR, aU, aB, Tr.aP, bD, aV, aD]; omega))⟩, trivial⟩, ?_⟩)
  subst uN
  replace H := H.freeze (i := 0) rfl
  exact ⟨_, q, rfl, H.cL, H.o 0 rfl, (H.fL (H.bK 0 rfl)).imp fun _ h => cR.eM h⟩
theorem DG {bits : Int} {T : Tr} {m : List En} {k : List UInt8} (hT : T.er = grow 0 m) (hp : Pm 0 m) (hfit : T.er.fit 0) (hfk : (T.fin k).key.length = 32) : iG (pK T k) (T.dp k 0) (T.fin k).key ((T.fin k).vd bits) (lJ T k (T.dp k 0)) (gA bits T k (T.dp k 0)) := by
 have yT := Tr.tT (k := k) _ 0 T rfl hfit (by omega)
 have hd : T.dp k 0 ≤ 256 := by omega
 have h2 : (T.fin k).er.kind ≠ 2 := Tr.p7 _ 0 T rfl
 refine ⟨?_, hd, hfk, Tr.aP bits _, fun h0 => ?_, bD T k _, ?_, ?_, fun s hs => ?_⟩
 ·
  unfold pK
  revert h2
  cases (T.fin k).er with
  | nil => intro _; exact .inl rfl
  | leaf => intro _; exact .inr rfl
  | inner => intro h; exact absurd rfl h
 ·
  unfold pK at h0
  revert h0 h2
  cases (T.fin k) with
  | nil => intro _ _; exact ⟨rfl, rfl⟩
  | leaf => intro _ h; exact absurd h (by show ¬ (1 : Nat) = 0; decide)
  | inner => intro h; exact absurd rfl h
 ·
  rw [wJ hd]; exact PI hT hp
 ·
  rw [wJ hd]; unfold gA; rw [List.length_map]
 ·
  unfold gA at hs
  obtain ⟨j, _, rfl⟩ := List.mem_map.1 hs
  exact fR _ _
def mA (kd dp : Nat) (lk lv B : List UInt8) : List UInt8 := ([1, UInt8.ofNat kd, UInt8.ofNat (dp / 2 ^ 8), UInt8.ofNat dp] ++ B) ++ (if kd = 1 then lk ++ lv else [])
def encI (kd dp : Nat) (lk lv B : List UInt8) (sb : List (List UInt8)) (i : Nat) : List UInt8 := mA kd dp lk lv B ++ (sb.take i).flatten
def e8 (kd dp : Nat) (lk lv B : List UInt8) (sb : List (List UInt8)) : List UInt8 := mA kd dp lk lv B ++ sb.flatten
theorem ET (kd dp : Nat) (lk lv B : List UInt8) (sb : List (List UInt8)) : encI kd dp lk lv B sb sb.length = e8 kd dp lk lv B sb := by unfold encI e8; rw [List.take_length]
theorem z8 {kd dp : Nat} {lk lv B : List UInt8} {sb : List (List UInt8)} {i : Nat} (h : i < sb.length) : encI kd dp lk lv B sb (i + 1) = encI kd dp lk lv B sb i ++ sb[i] := by unfold encI; rw [gD sb i h, List.append_assoc]
theorem L8 {kd dp : Nat} {lk lv B : List UInt8} (hk : lk.length = 32) (hv : lv.length = 32) (hB : B.length = 32) : (mA kd dp lk lv B).length = if kd = 1 then 100 else 36 := by
 unfold mA
 split <;> simp [hk, hv, hB]
theorem xJ {kd dp : Nat} {lk lv B : List UInt8} {sb : List (List UInt8)} (hp : iG kd dp lk lv B sb) : ∀ i, i ≤ sb.length → (encI kd dp lk lv B sb i).length = (if kd = 1 then 100 else 36) + 32 * i
 | 0, _ => by unfold encI; rw [List.length_append, L8 hp.tJ hp.lvl hp.bl]; simp
 | i + 1, h => by rw [z8 (by omega), List.length_append, xJ hp i (by omega), hp.sl _ (List.getElem_mem _)]; omega
theorem ES {kd dp : Nat} {lk lv B : List UInt8} {sb : List (List UInt8)} (hp : iG kd dp lk lv B sb) : (e8 kd dp lk lv B sb).length = (if kd = 1 then 100 else 36) + 32 * sb.length := by rw [← ET, xJ hp _ (Nat.le_refl _)]
theorem aB9 {X : Nat → Prop} {w : World} {kd dp : Nat} {lk lv B : List UInt8} {sl : Value} {sb : List (List UInt8)} (hX : cU X w) (bT : aH X (eQ sl sb) w) (hp : iG kd dp lk lv B sb) :
  bF prog 36 [.agg (fG kd dp lk lv B sl).toArray].toArray w fun v w' => v = .int .i64 ((((if kd = 1 then 100 else 36) + 32 * sb.length) : Nat) : Int) ∧ Out Nil w w' := by
 refine bF.aI (N := 24) func36 rfl rfl (by simp) ?_
 have H := (St.begin hX).add (cE bT)
 have vD := hp.kd
 have yT := hp.MJ
 have lX := hp.tJ
 have hlv := hp.lvl
 have o5 := hp.bl
 have oY := hp.NL
 have vB : (fG kd dp lk lv B sl).length = 99 := gB hp.tJ hp.lvl hp.bl
 have hs1 : sl.oneCell' = true := cR.fH (H.p 0 rfl : eQ sl sb _)
 refine WE.aA ?_
 refine WL.box (l := fG kd dp lk lv B sl) H rfl rfl rfl ?_
 intro b1 w1 H
 refine WL.as rfl rfl (WL.nil (WE.seq (WE.aA ?_)))
 refine WL.bC rfl mN rfl rfl (aM.aF (H.l 0 rfl) (aJ.all _) rfl) (cH kQ (by simp only [aR, aU, aB, Tr.aP, bD, aV, aD]; omega)) ?_
 refine WL.call WV rfl (sP (kd := kd) (dp := dp) (lk := lk) (lv := lv) (B := B) (sl := sl) (sb := sb) H.aS (by exact (H.bK 0 rfl : aH _ (eQ sl sb) _)) hp) ?_
 rintro _ w2 ⟨rfl, hO⟩
 replace H := H.out hO
 refine WL.pv (PV.neq rfl rfl rfl) rfl (WL.nil ?_)
 refine WE.bB rfl rfl ?_
 refine WE.skip (WE.aA (WL.as rfl rfl (WL.nil (WE.seq (WE.aA (WL.pv (PV.fieldAddr rfl mJ rfl) rfl (WL.aY rfl oZ rfl rfl (aM.aF (H.l 0 rfl) (aJ.l (aJ.all _)) rfl) ?_)))))))
 refine WL.nil (WE.block (WE.seq (WE.block (WE.seq (WE.block (WE.seq (WE.seq ?_)))))))
 refine WE.aA (WL.pv (PV.eql rfl rfl rfl) rfl (WL.as rfl rfl (WL.nil ?_)))
 refine WE.cond rfl (fun wY => ?_) (fun wY => ?_)
 ·
  try simp only [bU] at wY
  have vE : kd = 1 := by omega
  refine WE.exit (WE.eH (WL.mv rfl rfl (WL.pv (PV.bY rfl rfl rfl (by omega) (by omega)) rfl (WL.as rfl rfl (WL.nil (WE.aA (WL.mv rfl rfl ?_)))))))
  refine WL.pv (PV.fieldAddr rfl mI rfl) rfl ?_
  refine WL.aY rfl uD rfl rfl (aM.aF (H.l 0 rfl) (aJ.r (aJ.r (aJ.r (aJ.r (aJ.all _) rfl) rfl) rfl) rfl) (by simp [aO, bA, *])) ?_
  refine WL.pv (PV.dO (by exact (H.p 0 rfl : (eQ sl sb) _)) nW rfl) rfl ?_
  refine WL.pv (PV.bY rfl rfl rfl (by omega) (by omega)) rfl (WL.pv (PV.sA rfl rfl rfl (by omega) (by omega)) rfl (WL.pv (PV.bY rfl rfl rfl (by omega) (by omega)) rfl (WL.pv (PV.bY rfl rfl rfl (by omega) (by omega)) rfl (WL.as rfl rfl (WL.nil (WE.exit (WE.aA ?_)))))))
  refine WL.mv rfl rfl (WL.as rfl rfl (WL.nil (WE.ret ⟨[_], _, .nil _, ⟨rfl, trivial⟩, ?_⟩)))
  refine ⟨?_, H.aL⟩
  show Value.int .i64 _ = Value.int .i64 _
  congr 1
  (rw [if_pos vE]; omega)
 ·
  try simp only [bU] at wY
  have NJ : kd = 0 := by omega
  refine WE.skip (WE.aA (WL.pv (PV.eql rfl rfl rfl) rfl (WL.as rfl rfl (WL.nil ?_))))
  refine WE.cO rfl (by simp [NJ]) ?_
  refine WE.exit (WE.aA (WL.mv rfl rfl (WL.pv (PV.fieldAddr rfl mI rfl) rfl ?_)))
  refine WL.aY rfl uD rfl rfl (aM.aF (H.l 0 rfl) (aJ.r (aJ.r (aJ.r (aJ.r (aJ.all _) rfl) rfl) rfl) rfl) (by simp [aO, bA, *])) ?_
  refine WL.pv (PV.dO (by exact (H.p 0 rfl : (eQ sl sb) _)) nW rfl) rfl ?_
  refine WL.pv (PV.bY rfl rfl rfl (by omega) (by omega)) rfl (WL.pv (PV.sA rfl rfl rfl (by omega) (by omega)) rfl (WL.pv (PV.bY rfl rfl rfl (by omega) (by omega)) rfl (WL.pv (PV.bY rfl rfl rfl (by omega) (by omega)) rfl (WL.as rfl rfl (WL.nil (WE.exit (WE.aA ?_)))))))
  refine WL.mv rfl rfl (WL.as rfl rfl (WL.nil (WE.ret ⟨[_], _, .nil _, ⟨rfl, trivial⟩, ?_⟩)))
  refine ⟨?_, H.aL⟩
  show Value.int .i64 _ = Value.int .i64 _
  congr 1
  (rw [if_neg (by omega)]; omega)
theorem NC {X : Nat → Prop} {w : World} {s : Value} {vs : List Value} {ls : List (List UInt8)} (hX : cU X w) (bT : aH X (jW s vs) w) (dA : aH X (pP vs ls) w) (hvs : vs.length ≤ 1000000) (aDB : ls.flatten.length ≤ 70368744177664) :
  bF prog 37 [s].toArray w fun v w' => Out Nil w w' ∧ w'.ownsRow w.heap.size 5 1 v ls.flatten.length (kc ls.flatten) := by
 refine bF.aI (N := 36) func37 rfl rfl (by simp) ?_
 have H := ((St.begin hX).add (cE dA)).add (cE bT)
 have hlen : vs.length = ls.length := (H.p 1 rfl : pP vs ls w).1
 refine WE.aA (WL.as rfl rfl (WL.nil (WE.aA (WL.as rfl rfl (WL.nil (WE.seq (WE.aA ?_)))))))
 refine WL.mv rfl rfl (WL.pv (PV.dO (H.p 0 rfl) rS rfl) rfl (WL.mv rfl rfl (WL.nil (WE.block ?_))))
 refine WE.loop (α := Nat) (rg [(3, 1), (5, 1), (11, 12)]) (fun k => [(11, .int .i64 k), (3, .int .i64 ((ls.take k).flatten.length : Int))]) (fun k wl => k ≤ vs.length ∧ St X w wl [] [] [jW s vs, pP vs ls]) (fun k => vs.length - k) 0 ⟨rfl, rfl, trivial⟩ ⟨Nat.zero_le _, H⟩ ?_
 intro k γ0 w1 hI
 try dsimp only at hI
 obtain ⟨hk, H⟩ := hI
 refine WE.aA (WL.pv (PV.lss rfl rfl rfl) rfl (WL.nil (WE.seq ?_)))
 refine WE.cond rfl (fun k3 => ?_) (fun k3 => ?_)
 ·
  try simp only [bU] at k3
  have hlt : k < vs.length := by omega
  have hF := gD ls k (by omega)
  have hG := fX ls (k + 1)
  rw [hF, List.length_append] at hG
  refine WE.skip (WE.seq (WE.block (WE.aA (WL.pv (PV.eO rfl (H.p 0 rfl) rS AW rfl rfl (by omega) (by omega)) rfl (WL.aY rfl eN rfl rfl (jW.rd (H.p 0 rfl) k hlt) (WL.as rfl rfl (WL.nil ?_)))))))
  refine WE.aA (WL.mv rfl rfl (WL.mv rfl rfl (WL.pv (PV.dO ((H.p 1 rfl : pP vs ls _).2 k hlt (by omega)) eW rfl) rfl (WL.pv (PV.bY rfl rfl rfl (by omega) (by omega)) rfl (WL.as rfl rfl (WL.nil (WE.aA ?_)))))))
  refine WL.mv rfl rfl (WL.pv (PV.lss rfl rfl rfl) rfl (WL.nil ?_))
  refine WE.bB rfl (by simp; omega) ?_
  refine WE.skip (WE.eH (WL.pv (PV.bY rfl rfl rfl (by omega) (by omega)) rfl (WL.mv rfl rfl (WL.nil ?_))))
  exact ⟨k + 1, (by repeat (first | with_reducible exact bQ.refl _ _ | refine bQ.dG rfl ?_ | refine bQ.cC rfl ?_ | refine bQ.cB rfl ?_)), ⟨rfl, by rw [hF, List.length_append]; rfl, trivial⟩, rfl, ⟨by omega, H⟩, (by omega)⟩
 ·
  try simp only [bU] at k3
  have hge : k = vs.length := by omega
  refine WE.exit (WE.aA (WL.mv rfl rfl ?_))
  refine WL.call aEH rfl (TK (n := (ls.take k).flatten.length) H.aS (by have := fX ls k; omega)) ?_
  rintro v24 w2 ⟨hO, gP⟩
  replace H := H.push hO (aN.iA w.heap.size v24 5 1 0 []) (gC gP H.size) (fun b hb => (gP.lt b hb).1)
  refine WL.as rfl rfl (WL.nil (WE.seq (WE.aA (WL.mv rfl rfl (WL.pv (PV.dO (H.p 0 rfl) rS rfl) rfl (WL.mv rfl rfl (WL.nil ?_)))))))
  refine WE.block ?_
  refine WE.loop (α := Nat × Value) (rg [(6, 1), (8, 1), (27, 8)]) (fun p => [(27, .int .i64 p.1), (6, p.2)]) (fun p wl => p.1 ≤ vs.length ∧ St X w wl [] [aN.iA w.heap.size p.2 5 1 (ls.take p.1).flatten.length (kc (ls.take p.1).flatten)] [jW s vs, pP vs ls]) (fun p => vs.length - p.1) (0, v24) ⟨rfl, rfl, trivial⟩ ⟨Nat.zero_le _, H⟩ ?_
  intro ⟨k, v⟩ γ1 w3 hI
  try dsimp only at hI
  obtain ⟨hk, H⟩ := hI
  refine WE.aA (WL.pv (PV.lss rfl rfl rfl) rfl (WL.nil (WE.seq ?_)))
  refine WE.cond rfl (fun GY => ?_) (fun GY => ?_)
  ·
   try simp only [bU] at GY
   have hlt : k < vs.length := by omega
   have hF := gD ls k (by omega)
   have hG := fX ls (k + 1)
   rw [hF, List.length_append] at hG
   refine WE.skip (WE.seq (WE.block (WE.aA (WL.pv (PV.eO rfl (H.p 0 rfl) rS AW rfl rfl (by omega) (by omega)) rfl (WL.aY rfl eN rfl rfl (jW.rd (H.p 0 rfl) k hlt) (WL.as rfl rfl (WL.nil ?_)))))))
   refine WE.eH (WL.mv rfl rfl (WL.mv rfl rfl ?_))
   refine WL.append (m := (ls[k]'(by omega)).length) H 0 j0 (by decide) rfl rfl rfl ((H.p 1 rfl : pP vs ls _).2 k hlt (by omega)) (bJ _) (by omega) (by decide) rfl ?_
   intro v33 w4 H
   refine WL.as rfl rfl (WL.nil (WE.eH (WL.pv (PV.bY rfl rfl rfl (by omega) (by omega)) rfl (WL.mv rfl rfl (WL.nil ?_)))))
   replace H : St X w w4 [] [aN.iA w.heap.size v33 5 1 (ls.take (k+1)).flatten.length (kc (ls.take (k+1)).flatten)] [jW s vs, pP vs ls] := by rw [hF, List.length_append, j8]; exact H
   exact ⟨(k + 1, v33), (by repeat (first | with_reducible exact bQ.refl _ _ | refine bQ.dG rfl ?_ | refine bQ.cC rfl ?_ | refine bQ.cB rfl ?_)), ⟨rfl, rfl, trivial⟩, rfl, ⟨by dsimp only; omega, H⟩, (by dsimp only; omega)⟩
  ·
   try simp only [bU] at GY
   have hge : k = vs.length := by omega
   refine WE.exit (WE.aA (WL.mv rfl rfl (WL.as rfl rfl (WL.nil (WE.ret ⟨[_], _, .nil _, ⟨rfl, trivial⟩, ?_⟩)))))
   have hall : ls.take k = ls := List.take_of_length_le (by omega)
   rw [hall] at H
   exact ⟨H.aL, H.l 0 rfl⟩
theorem FJ {X : Nat → Prop} {w : World} {kd dp : Nat} {lk lv B : List UInt8} {sl : Value} {sb : List (List UInt8)} (hX : cU X w) (bT : aH X (eQ sl sb) w) (hp : iG kd dp lk lv B sb) :
  bF prog 12 [.agg (fG kd dp lk lv B sl).toArray].toArray w fun v w' => ∃ s, v = .tuple [s, .int .i64 0].toArray ∧ Out Nil w w' ∧ aH X (bI s (e8 kd dp lk lv B sb)) w' := by
 refine bF.aI (N := 57) func12 rfl rfl (by simp) ?_
 have H := (St.begin hX).add (cE bT)
 have vD := hp.kd
 have yT := hp.MJ
 have lX := hp.tJ
 have hlv := hp.lvl
 have o5 := hp.bl
 have oY := hp.NL
 have vB : (fG kd dp lk lv B sl).length = 99 := gB hp.tJ hp.lvl hp.bl
 have hs1 : sl.oneCell' = true := cR.fH (H.p 0 rfl : eQ sl sb _)
 refine WE.aA ?_
 refine WL.box (l := fG kd dp lk lv B sl) H rfl rfl rfl ?_
 intro b1 w1 H
 refine WL.as rfl rfl (WL.as rfl rfl (WL.nil (WE.seq (WE.aA ?_))))
 refine WL.bC rfl mN rfl rfl (aM.aF (H.l 0 rfl) (aJ.all _) rfl) (cH kQ (by simp only [aR, aU, aB, Tr.aP, bD, aV, aD]; omega)) ?_
 refine WL.call WV rfl (sP (kd := kd) (dp := dp) (lk := lk) (lv := lv) (B := B) (sl := sl) (sb := sb) H.aS (by exact (H.bK 0 rfl : aH _ (eQ sl sb) _)) hp) ?_
 rintro _ w2 ⟨rfl, hO⟩
 replace H := H.out hO
 refine WL.as rfl rfl (WL.nil (WE.aA (WL.mv rfl rfl (WL.pv (PV.neq rfl rfl rfl) rfl (WL.nil ?_)))))
 refine WE.bB rfl rfl ?_
 refine WE.skip (WE.aA ?_)
 refine WL.bC rfl mN rfl rfl (aM.aF (H.l 0 rfl) (aJ.all _) rfl) (cH kQ (by simp only [aR, aU, aB, Tr.aP, bD, aV, aD]; omega)) ?_
 refine WL.call aIn rfl (aB9 (kd := kd) (dp := dp) (lk := lk) (lv := lv) (B := B) (sl := sl) (sb := sb) H.aS (by exact (H.bK 0 rfl : aH _ (eQ sl sb) _)) hp) ?_
 rintro _ w3 ⟨rfl, hO⟩
 replace H := H.out hO
 have T2 : (if kd = 1 then 100 else 36) ≤ 100 := by split <;> omega
 refine WL.VG (n := ((if kd = 1 then 100 else 36) + 32 * sb.length)) H rfl j0 rfl rfl (by omega) (by unfold maxLen; omega) rfl ?_
 intro b15 w5 H
 refine WL.as rfl rfl (WL.nil (WE.aA (WL.mv rfl rfl (WL.pv (PV.fieldAddr rfl mJ rfl) rfl (WL.aY rfl oZ rfl rfl (aM.aF (H.l 1 rfl) (aJ.l (aJ.all _)) rfl) (WL.pv (PV.XG (n := kd) rfl yD oW rfl) rfl (WL.pv (PV.fieldAddr rfl q8 rfl) rfl ?_)))))))
 refine WL.aY rfl oZ rfl rfl (aM.aF (H.l 1 rfl) (aJ.r (aJ.l (aJ.all _)) rfl) rfl) (WL.pv (PV.C5 (m := dp) (n := 8) rfl rfl rfl (by decide)) rfl (WL.pv (PV.XG (n := dp / 2 ^ 8) rfl yD oW rfl) rfl (WL.pv (PV.fieldAddr rfl q8 rfl) rfl (WL.aY rfl oZ rfl rfl (aM.aF (H.l 1 rfl) (aJ.r (aJ.l (aJ.all _)) rfl) rfl) (WL.pv (PV.XG (n := dp) rfl yD oW rfl) rfl ?_)))))
 refine WL.bL (l0 := [.int .u8 (0), .int .u8 (0), .int .u8 (0), .int .u8 (0)]) H rfl j0 (by decide) (dH _ _) (Fl.cons rfl rfl (by simp only [aR, aU, aB, Tr.aP, bD, aV, aD]) Laid.head (Fl.cons rfl rfl (by simp only [aR, aU, aB, Tr.aP, bD, aV, aD]) (Laid.tail Laid.head rfl) (Fl.cons rfl rfl (by simp only [aR, aU, aB, Tr.aP, bD, aV, aD]) (Laid.tail (Laid.tail Laid.head rfl) rfl) (Fl.cons rfl rfl (by simp only [aR, aU, aB, Tr.aP, bD, aV, aD]) (Laid.tail (Laid.tail (Laid.tail Laid.head rfl) rfl) rfl) Fl.nil)))) rfl ?_
 intro b27 w6 H
 refine WL.append (m := 4) H 1 j0 (by decide) rfl rfl rfl (cR.bZ (n := 4) (H.l 0 rfl) rfl : bI _ ([1, UInt8.ofNat kd, UInt8.ofNat (dp / 2 ^ 8), UInt8.ofNat dp] : List UInt8) _) (bJ _) (by omega) (by decide) rfl ?_
 intro v28 w7 H
 replace H := H.forget 0
 replace H := H.conv (L' := [aN.iA w.heap.size v28 5 1 (([1, UInt8.ofNat kd, UInt8.ofNat (dp / 2 ^ 8), UInt8.ofNat dp] : List UInt8)).length (kc (([1, UInt8.ofNat kd, UInt8.ofNat (dp / 2 ^ 8), UInt8.ofNat dp] : List UInt8))), aN.blk b1 35 (fG kd dp lk lv B sl)]) rfl
 refine WL.as rfl rfl (WL.nil (WE.aA (WL.mv rfl rfl (WL.pv (PV.fieldAddr rfl pN rfl) rfl ?_))))
 refine WL.pv (PV.fO rfl aGh (by rw [gY]; rfl) rfl) rfl ?_
 refine WL.append (m := B.length) H 0 j0 (by decide) rfl rfl rfl (bI.mY (a := ⟨b1, 66, none⟩) (aM.aF (H.l 1 rfl) (aJ.r (aJ.r (aJ.r (aJ.l (aJ.all (kc B))) rfl) rfl) rfl) (by simp [aO, lX, hlv])) o5 (Nat.le_refl _)) (bJ _) (by simp [o5]) (by decide) rfl ?_
 intro v32 w8 H
 replace H := H.conv (L' := [aN.iA w.heap.size v32 5 1 (([1, UInt8.ofNat kd, UInt8.ofNat (dp / 2 ^ 8), UInt8.ofNat dp] : List UInt8) ++ B).length (kc (([1, UInt8.ofNat kd, UInt8.ofNat (dp / 2 ^ 8), UInt8.ofNat dp] : List UInt8) ++ B)), aN.blk b1 35 (fG kd dp lk lv B sl)]) (by rw [List.length_append, j8]; rfl)
 refine WL.as rfl rfl (WL.nil ?_)
 refine WE.cut (α := Value) (rg [(5, 1), (33, 12)]) (fun g_ => [(5, g_)]) (fun g_ wl => St X w wl [] [aN.iA w.heap.size g_ 5 1 (mA kd dp lk lv B).length (kc (mA kd dp lk lv B))] [fun w => aM w b1 35 (fG kd dp lk lv B sl), eQ sl sb]) ?_ ?_
 ·
  refine WE.aA (WL.pv (PV.fieldAddr rfl mJ rfl) rfl (WL.aY rfl oZ rfl rfl (aM.aF (H.l 1 rfl) (aJ.l (aJ.all _)) rfl) (WL.pv (PV.eql rfl rfl rfl) rfl (WL.nil ?_))))
  refine WE.cond rfl (fun aBx => ?_) (fun aBx => ?_)
  ·
   try simp only [bU] at aBx
   have vE : kd = 1 := by omega
   refine WE.draw (.take 0 (.take 1 (.take 2 (.take 3 (.take 4 (.take 5 (.take 6 (.aG 7 (.aG 8 (.take 9 .done)))))))))) mixed (by kernel_rfl) ?_
   replace H := H.out (Out.drew _)
   refine WP.mv rfl rfl rfl (WP.aC rfl rfl (PV.fieldAddr rfl oH rfl) (WP.aC rfl rfl (PV.fieldAddr rfl kE rfl) ?_))
   refine WP.aC rfl rfl (PV.fO rfl gM (by rw [gY]; rfl) rfl) ?_
   refine WP.aC rfl rfl (PV.fieldAddr rfl oH rfl) (WP.aC rfl rfl (PV.fieldAddr rfl G5 rfl) ?_)
   refine WP.aC rfl rfl (PV.fO rfl oN (by rw [gY]; rfl) rfl) ?_
   refine WP.aG rfl ?_
   refine WL.bL (l0 := [.slice none 0 0, .slice none 0 0, .slice none 0 0]) H rfl I2 (by decide) (dH _ _) (Fl.cons rfl (cells_one (iN (H.l 0 rfl))) (by simp only [aR, aU, aB, Tr.aP, bD, aV, aD]) Laid.head (Fl.cons rfl rfl (by simp only [aR, aU, aB, Tr.aP, bD, aV, aD]) (Laid.tail Laid.head rfl) (Fl.cons rfl rfl (by simp only [aR, aU, aB, Tr.aP, bD, aV, aD]) (Laid.tail (Laid.tail Laid.head rfl) rfl) Fl.nil))) rfl ?_
   intro b43 w9 H
   replace H := H.freeze (i := 0) rfl
   replace H := H.freeze (i := 0) rfl
   replace H := H.freeze (i := 0) rfl
   replace H := H.add (show aH _ (jW (.slice (some ⟨b43, 0, none⟩) 3 3) [v32, .slice (some ⟨b1, 2, none⟩) 32 32, .slice (some ⟨b1, 34, none⟩) 32 32]) _ from (H.bK 2 rfl).imp fun _ h => jW.bZ h rfl)
   replace H := H.add (show aH _ (pP [v32, .slice (some ⟨b1, 2, none⟩) 32 32, .slice (some ⟨b1, 34, none⟩) 32 32] [([1, UInt8.ofNat kd, UInt8.ofNat (dp / 2 ^ 8), UInt8.ofNat dp] : List UInt8) ++ B, lk, lv]) _ from ((H.bK 2 rfl).and (H.bK 1 rfl)).imp fun w h => pP.cons (bI.eM h.1) (pP.cons (bI.mY (a := ⟨b1, 2, none⟩) (aM.aF h.2 (aJ.r (aJ.r (aJ.l (aJ.l (aJ.all (kc lk)))) rfl) rfl) (by simp [aO, lX, hlv])) lX (Nat.le_refl _)) (pP.cons (bI.mY (a := ⟨b1, 34, none⟩) (aM.aF h.2 (aJ.r (aJ.r (aJ.l (aJ.r (aJ.all (kc lv)) rfl)) rfl) rfl) (by simp [aO, lX, hlv])) hlv (Nat.le_refl _)) (pP.nil w))))
   refine WL.nil ⟨c5, ?_⟩
   refine WP.aG rfl ?_
   refine WL.call aEQ rfl (NC (vs := [v32, .slice (some ⟨b1, 2, none⟩) 32 32, .slice (some ⟨b1, 34, none⟩) 32 32]) (ls := [([1, UInt8.ofNat kd, UInt8.ofNat (dp / 2 ^ 8), UInt8.ofNat dp] : List UInt8) ++ B, lk, lv]) H.aS (by exact (H.bK 1 rfl : aH _ (jW _ _) _)) (by exact (H.bK 0 rfl : aH _ (pP _ _) _)) (by simp) (by simp [lX, hlv, o5])) ?_
   rintro v44 vR ⟨hO, gP⟩
   replace H := H.push hO (aN.iA w.heap.size v44 5 1 _ _) (gC gP H.size) (fun b hb => (gP.lt b hb).1)
   have hhd : [([1, UInt8.ofNat kd, UInt8.ofNat (dp / 2 ^ 8), UInt8.ofNat dp] : List UInt8) ++ B, lk, lv].flatten = mA kd dp lk lv B := by unfold mA; rw [if_pos vE]; simp
   rw [hhd] at H
   refine WL.nil ⟨c5, ?_⟩
   refine WP.as rfl rfl rfl (WP.done ?_)
   exact ⟨v44, (by repeat (first | with_reducible exact bQ.refl _ _ | refine bQ.dG rfl ?_)), ⟨rfl, trivial⟩, rfl, (show St X w _ [] [aN.iA w.heap.size v44 5 1 (mA kd dp lk lv B).length (kc (mA kd dp lk lv B))] [fun w => aM w b1 35 (fG kd dp lk lv B sl), eQ sl sb] from by exact H.sS [2, 5])⟩
  ·
   try simp only [bU] at aBx
   have NJ : ¬ kd = 1 := by omega
   have hhd : ([1, UInt8.ofNat kd, UInt8.ofNat (dp / 2 ^ 8), UInt8.ofNat dp] : List UInt8) ++ B = mA kd dp lk lv B := by unfold mA; rw [if_neg NJ, List.append_nil]
   rw [hhd] at H
   replace H := H.freeze (i := 1) rfl
   refine WE.skip ?_
   exact ⟨v32, (by repeat (first | with_reducible exact bQ.refl _ _ | refine bQ.dG rfl ?_)), ⟨rfl, trivial⟩, rfl, (show St X w _ [] [aN.iA w.heap.size v32 5 1 (mA kd dp lk lv B).length (kc (mA kd dp lk lv B))] [fun w => aM w b1 35 (fG kd dp lk lv B sl), eQ sl sb] from H.sS [0, 1])⟩
 ·
  intro g_ γ y8 hI
  try dsimp only at hI
  replace H := hI
  refine WE.seq (WE.aA (WL.pv (PV.fieldAddr rfl mI rfl) rfl ?_))
  refine WL.aY rfl uD rfl rfl (aM.aF (H.p 0 rfl) (aJ.r (aJ.r (aJ.r (aJ.r (aJ.all _) rfl) rfl) rfl) rfl) (by simp [aO, bA, *])) ?_
  refine WL.pv (PV.dO (by exact (H.p 1 rfl : (eQ sl sb) _)) nW rfl) rfl ?_
  refine WL.mv rfl rfl (WL.nil (WE.block ?_))
  refine WE.loop (α := Nat × Value) (rg [(5, 1), (7, 1), (48, 8)]) (fun p => [(48, .int .i64 (p.1 : Int)), (5, p.2)]) (fun p wl => p.1 ≤ sb.length ∧ St X w wl [] [aN.iA w.heap.size p.2 5 1 (encI kd dp lk lv B sb (p.1)).length (kc (encI kd dp lk lv B sb (p.1)))] [fun w => aM w b1 35 (fG kd dp lk lv B sl), eQ sl sb]) (fun p => sb.length - p.1) (0, g_) ⟨rfl, rfl, trivial⟩ ⟨Nat.zero_le _, H.conv (L' := [aN.iA w.heap.size g_ 5 1 (encI kd dp lk lv B sb (0)).length (kc (encI kd dp lk lv B sb (0)))]) (by show _ = _; unfold encI; rw [List.take_zero]; simp)⟩ ?_
  intro ⟨i, g⟩ γ0 IQ hI
  try dsimp only at hI
  obtain ⟨hi, H⟩ := hI
  refine WE.aA (WL.pv (PV.lss rfl rfl rfl) rfl (WL.nil (WE.seq ?_)))
  refine WE.cond rfl (fun aBv => ?_) (fun aBv => ?_)
  ·
   try simp only [bU] at aBv
   have hlt : i < sb.length := by omega
   have hsi := hp.sl _ (List.getElem_mem hlt)
   have hes := z8 (kd := kd) (dp := dp) (lk := lk) (lv := lv) (B := B) hlt
   have hel := xJ hp i (by omega)
   have T2 : (if kd = 1 then 100 else 36) ≤ 100 := by split <;> omega
   refine WE.skip (WE.seq (WE.block (WE.aA ?_)))
   refine WL.pv (PV.eO rfl (by exact (H.p 1 rfl : (eQ sl sb) _)) nW dJ rfl rfl (by omega) (by omega)) rfl ?_
   refine WL.bC rfl gT rfl rfl ((eQ.rd (by exact (H.p 1 rfl : (eQ sl sb) _)) hp.sl i hlt)) (cH dJ (by simp only [aR, aU, aB, Tr.aP, bD, aV, aD]; omega)) ?_
   refine WL.alloc H rfl mQ rfl ?_
   intro b7 FP H
   refine WL.aT H 0 rfl rfl rfl (new := kc sb[i]) rfl (cH dJ (by simp only [aR, aU, aB, Tr.aP, bD, aV, aD]; omega)) (bJ _) (Laid.at (Laid.all (by simp only [aR, aU, aB, Tr.aP, bD, aV, aD]; omega)) rfl) rfl ?_
   intro K2 H
   refine WL.nil (WE.eH (WL.mv rfl rfl ?_))
   refine WL.pv (PV.fO rfl oN (by rw [gY]; rfl) rfl) rfl ?_
   refine WL.append (m := sb[i].length) H 1 j0 (by decide) rfl rfl rfl (bI.bZ (H.l 0 rfl) hsi) (bJ _) (by omega) (by decide) rfl ?_
   intro v54 NY H
   replace H := H.forget 0
   replace H := H.conv (L' := [aN.iA w.heap.size v54 5 1 (encI kd dp lk lv B sb (i + 1)).length (kc (encI kd dp lk lv B sb (i + 1)))]) (by rw [hes, List.length_append, j8]; rfl)
   refine WL.as rfl rfl (WL.nil (WE.eH (WL.pv (PV.eq (v' := .int .i64 ((i + 1 : Nat) : Int)) (PV.bY rfl rfl rfl (by omega) (by omega)) rfl) rfl (WL.mv rfl rfl (WL.nil ?_)))))
   exact ⟨(i + 1, v54), (by repeat (first | with_reducible exact bQ.refl _ _ | refine bQ.dG rfl ?_ | refine bQ.cC rfl ?_ | refine bQ.cB rfl ?_)), ⟨rfl, rfl, trivial⟩, rfl, ⟨by dsimp only; omega, H⟩, (by dsimp only; omega)⟩
  ·
   try simp only [bU] at aBv
   have uN : i = sb.length := by omega
   refine WE.exit (WE.aA (WL.mv rfl rfl (WL.as rfl rfl (WL.as rfl rfl (WL.nil (WE.ret ⟨[_, _], _, .nil _, ⟨rfl, rfl, trivial⟩, ?_⟩))))))
   subst uN
   rw [ET] at H
   replace H := H.freeze (i := 0) rfl
   exact ⟨g, rfl, H.aL, H.gQ ((H.bK 0 rfl).imp fun _ h => bI.eM h)⟩
theorem PV.aGg {P : Program} {σ : Env} {o : Oper} {t e : TypeId} {x : Operand} {a : Addr} {n m c : Nat} (h : o.op = .sliceToArrayPointer t x) (ht : eC P t = some (n, e)) (hx : ev σ x = .slice (some a) m c) (hm : n ≤ m) : PV P σ o (.pointer (some a)) := fun w => by
 have h1 : ¬ m < n := by omega
 simp [execOp, h, hx, Instr.arrayAt, run_underlying (dU ht), h1]
theorem cX.pre {w : World} {a : Addr} {l m : List Value} (h : cX w a (l ++ m)) : cX w a l := fun j v hj => h j v (by rw [List.getElem?_append_left (List.getElem?_eq_some_iff.1 hj).1]; exact hj)
theorem cX.aAI {w : World} {a : Addr} {l : List UInt8} (h : cX w a (kc l)) (n : Nat) : cX w a (kc (l.take n)) := by
 have e : kc l = kc (l.take n) ++ kc (l.drop n) := by rw [← j8, List.take_append_drop]
 rw [e] at h
 exact cX.pre h
theorem aGX {d : Nat} (h : d ≤ 256) : (UInt8.ofNat (d / 2 ^ 8)).toNat = d / 256 := by rw [UInt8.toNat_ofNat']; omega
theorem aGW (d : Nat) : (UInt8.ofNat d).toNat = d % 256 := by rw [UInt8.toNat_ofNat']
theorem aDn {d : Nat} (h : d ≤ 256) : IntKind.i64.wrap ((BitVec.ofInt IntKind.i64.bits ((d / 256 * 256 : Nat) : Int) ||| BitVec.ofInt IntKind.i64.bits ((d % 256 : Nat) : Int)).toNat : Int) = (d : Int) := by
 have : ∀ d : Fin 257, IntKind.i64.wrap ((BitVec.ofInt IntKind.i64.bits ((d.val / 256 * 256 : Nat) : Int) ||| BitVec.ofInt IntKind.i64.bits ((d.val % 256 : Nat) : Int)).toNat : Int) = (d.val : Int) := by decide +kernel
 exact this ⟨d, by omega⟩
theorem B0 : ∀ (l : List (List UInt8)), (∀ s ∈ l, s.length = 32) → l.flatten.length = 32 * l.length
 | [], _ => rfl
 | s :: l, h => by
  rw [List.flatten_cons, List.length_append, h s (by simp), B0 l fun x hx => h x (List.mem_cons_of_mem _ hx), List.length_cons]; omega
theorem AB {sb : List (List UInt8)} {i : Nat} (h : i < sb.length) : (sb.drop i).flatten = sb[i] ++ (sb.drop (i + 1)).flatten := by rw [List.drop_eq_getElem_cons h]; rfl
theorem wK {X : Nat → Prop} {w : World} {br : Nat} {s : Value} {l : List UInt8} (hX : cU X w) (eT : aM w br 277 ([s, .bool false])) (bT : aH (fun c_ => X c_ ∨ c_ = br) (bI s l) w) (hl : 32 ≤ l.length) (hle : l.length ≤ 1000000) :
  bF prog 167 [.pointer (some ⟨br, 0, none⟩)].toArray w fun v w' => ∃ s', v = .agg (kc (l.take 32)).toArray ∧ Out (· = br) w w' ∧ aM w' br 277 [s', .bool false] ∧ aH (fun c => X c ∨ c = br) (bI s' (l.drop 32)) w' := by
 refine bF.aI (N := 28) func167 rfl rfl (by simp) ?_
 have H := (St.c7 (b := br) (t := 277) (l := [s, .bool false]) hX eT).add (bX bT)
 have aJB : (l.take 32).length = 32 := by rw [List.length_take]; omega
 obtain ⟨sa, sc, rfl⟩ := bI.some (bT.here) (by omega)
 refine WE.aA ?_
 refine WL.alloc H rfl aGR rfl ?_
 intro b2 w1 H
 refine WL.nil (WE.seq (WE.aA (WL.mv rfl rfl (WL.pv (PV.nilCheck rfl rfl) rfl (WL.pv (PV.fieldAddr rfl pV rfl) rfl (WL.aY rfl eN rfl rfl (aM.aF (H.o 0 rfl) aJ.hd rfl) ?_))))))
 refine WL.pv (PV.dO (by exact (H.p 0 rfl : (bI _ l) _)) eW rfl) rfl ?_
 refine WL.pv (PV.lss rfl rfl rfl) rfl (WL.nil ?_)
 refine WE.bB rfl (by simp; omega) ?_
 refine WE.skip (WE.aA (WL.mv rfl rfl (WL.pv (PV.nilCheck rfl rfl) rfl (WL.pv (PV.fieldAddr rfl pV rfl) rfl (WL.aY rfl eN rfl rfl (aM.aF (H.o 0 rfl) aJ.hd rfl) (WL.pv (PV.aGg rfl aGh rfl hl) rfl ?_))))))
 refine WL.bC rfl CF rfl rfl ((cX.aAI (bI.whole (H.p 0 rfl)) 32)) (cH uW (by simp only [aR, aU, aB, aD]; omega)) ?_
 refine WL.aT H 0 rfl rfl rfl (new := kc (l.take 32)) rfl (cH uW (by simp only [aR, aU, aB, aD]; omega)) (bJ _) (Laid.at (Laid.all (by simp only [aR, aU, aB, aD]; omega)) rfl) rfl ?_
 intro w2 H
 refine WL.nil (WE.aA (WL.mv rfl rfl (WL.mv rfl rfl (WL.pv (PV.nilCheck rfl rfl) rfl (WL.pv (PV.fieldAddr rfl pV rfl) rfl (WL.aY rfl eN rfl rfl (aM.aF (H.o 0 rfl) aJ.hd rfl) (WL.pv (PV.p9 rfl (H.p 0 rfl) eW gY rfl rfl (by omega) (by omega)) rfl ?_)))))))
 refine WL.pv (PV.nilCheck rfl rfl) rfl (WL.pv (PV.fieldAddr rfl pV rfl) rfl ?_)
 refine WL.kZ H 0 rfl rfl rfl (new := [iR (.slice (some sa) l.length sc) 1 32 l.length]) rfl (by exact AW) (bE _ rfl) (Laid.at Laid.head rfl) rfl ?_
 intro w3 H
 refine WL.nil (WE.aA ?_)
 refine WL.bC rfl CF rfl rfl (aM.aF (H.l 0 rfl) (aJ.all _) rfl) (cH uW (by simp only [aR, aU, aB, aD]; omega)) ?_
 refine WL.aT H 0 rfl rfl rfl (new := kc (l.take 32)) rfl (cH uW (by simp only [aR, aU, aB, aD]; omega)) (bJ _) (Laid.at (Laid.all rfl) rfl) rfl ?_
 intro w4 H
 refine WL.nil (WE.ret ⟨[_], _, .nil _, ⟨⟨_, rfl, aW CF (aM.aF (H.l 0 rfl) (aJ.all _) rfl) (cH uW (by simp only [aR, aU, aB, aD]; omega))⟩, trivial⟩, ?_⟩)
 refine ⟨_, rfl, H.cL, H.o 0 rfl, (H.fL (H.bK 0 rfl)).imp fun _ h => ?_⟩
 have h_ := bI.sub h hl (Nat.le_refl _)
 rw [List.take_of_length_le (by rw [List.length_drop]; omega)] at h_
 exact h_
theorem YE {X : Nat → Prop} {w : World} {s : Value} {kd dp : Nat} {lk lv B : List UInt8} {sb : List (List UInt8)} (hX : cU X w) (bT : aH X (bI s (e8 kd dp lk lv B sb)) w) (hl : 4 ≤ (e8 kd dp lk lv B sb).length) (hle : (e8 kd dp lk lv B sb).length ≤ 1000000) (vD : kd = 0 ∨ kd = 1) :
  bF prog 166 [s].toArray w fun v w' => v = .tuple [.int .i64 (kd : Int), .int .i64 0].toArray ∧ Out Nil w w' := by
 refine bF.aI (N := 17) func166 rfl rfl (by simp) ?_
 have H := (St.begin hX).add (cE bT)
 have hkn : (UInt8.ofNat kd).toNat = kd := by rw [UInt8.toNat_ofNat']; omega
 refine WE.aA (WL.as rfl rfl (WL.as rfl rfl (WL.nil (WE.seq (WE.block (WE.aA (WL.mv rfl rfl ?_)))))))
 refine WL.pv (PV.dO (by exact (H.p 0 rfl : (bI s (e8 kd dp lk lv B sb)) _)) eW rfl) rfl ?_
 refine WL.pv (PV.lss rfl rfl rfl) rfl (WL.as rfl rfl (WL.nil ?_))
 refine WE.bB rfl (by simp; omega) ?_
 refine WE.aA (WL.mv rfl rfl (WL.pv (PV.eO rfl (H.p 0 rfl) eW gY rfl rfl (by omega) (by omega)) rfl ?_))
 refine WL.aY rfl CE rfl rfl ((show cX _ _ [.int .u8 1] from bI.rd (by exact (H.p 0 rfl : (bI s (e8 kd dp lk lv B sb)) _)) 0 (by omega))) ?_
 refine WL.pv (PV.neq rfl rfl rfl) rfl (WL.as rfl rfl (WL.nil ?_))
 refine WE.bB rfl rfl ?_
 refine WE.skip (WE.aA (WL.mv rfl rfl (WL.pv (PV.eO rfl (H.p 0 rfl) eW gY rfl rfl (by omega) (by omega)) rfl ?_)))
 refine WL.aY rfl CE rfl rfl ((show cX _ _ [.int .u8 ((UInt8.ofNat kd).toNat : Int)] from bI.rd (by exact (H.p 0 rfl : (bI s (e8 kd dp lk lv B sb)) _)) 1 (by omega))) ?_
 refine WL.pv (PV.eq (v' := .int .i64 (kd : Int)) (PV.mL (a := ((UInt8.ofNat kd).toNat : Int)) rfl oW yD rfl (by omega) (by omega)) (by congr 1; omega)) rfl ?_
 refine WL.as rfl rfl (WL.as rfl rfl (WL.nil (WE.ret ⟨[_, _], _, .nil _, ⟨rfl, rfl, trivial⟩, ?_⟩)))
 exact ⟨rfl, H.aL⟩
theorem TP {X : Nat → Prop} {w : World} {s : Value} {kd dp : Nat} {lk lv B : List UInt8} {sb : List (List UInt8)} (hX : cU X w) (bT : aH X (bI s (e8 kd dp lk lv B sb)) w) (hp : iG kd dp lk lv B sb) :
  bF prog 126 [s].toArray w fun v w' => ∃ sl, v = .tuple [.agg (fG kd dp lk lv B sl).toArray, .int .i64 0].toArray ∧ Out Nil w w' ∧ aH X (eQ sl sb) w' := by
 refine bF.aI (N := 104) func126 rfl rfl (by simp) ?_
 have H := (St.begin hX).add (cE bT)
 have vD := hp.kd
 have yT := hp.MJ
 have lX := hp.tJ
 have hlv := hp.lvl
 have o5 := hp.bl
 have oY := hp.NL
 have BN : (List.replicate 32 (0 : UInt8)).length = 32 := List.length_replicate
 have hEl := ES hp
 have JO := B0 sb hp.sl
 have hKl : (if kd = 1 then lk ++ lv else []).length = if kd = 1 then 64 else 0 := by split <;> simp [lX, hlv]
 have hEd : (e8 kd dp lk lv B sb).drop 4 = (B ++ ((if kd = 1 then lk ++ lv else []) ++ sb.flatten)) := by show ((([1, UInt8.ofNat kd, UInt8.ofNat (dp / 2 ^ 8), UInt8.ofNat dp] ++ B) ++ (if kd = 1 then lk ++ lv else [])) ++ sb.flatten).drop 4 = _; rw [List.append_assoc, List.append_assoc]; rfl
 have hRl : (B ++ ((if kd = 1 then lk ++ lv else []) ++ sb.flatten)).length = 32 + ((if kd = 1 then 64 else 0) + 32 * sb.length) := by rw [List.length_append, List.length_append, o5, hKl, JO]
 have hle1 : (if kd = 1 then 100 else 36) ≤ 100 ∧ 36 ≤ (if kd = 1 then 100 else 36) := by split <;> omega
 have hle2 : (if kd = 1 then 64 else 0) ≤ 64 := by split <;> omega
 refine WE.aA ?_
 refine WL.alloc H rfl CQ rfl ?_
 intro b2 w1 H
 obtain ⟨z2, hz2⟩ : ∃ z2 : List Value, z2 = [.int .i64 0] ++ ([.int .i64 0] ++ ((kc (List.replicate 32 0) ++ kc (List.replicate 32 0)) ++ (kc (List.replicate 32 0) ++ [.slice none 0 0]))) := ⟨_, rfl⟩
 have aJk : z2.length = 99 := by rw [hz2]; rfl
 rw [← hz2] at H
 refine WL.as rfl rfl (WL.nil (WE.seq (WE.aA (WL.mv rfl rfl ?_))))
 refine WL.pv (PV.dO (by exact (H.p 0 rfl : (bI s (e8 kd dp lk lv B sb)) _)) eW rfl) rfl ?_
 refine WL.pv (PV.lss rfl rfl rfl) rfl (WL.nil ?_)
 refine WE.bB rfl (by simp; omega) ?_
 refine WE.skip (WE.aA (WL.mv rfl rfl ?_))
 refine WL.call aFj rfl (YE (kd := kd) (dp := dp) (lk := lk) (lv := lv) (B := B) (sb := sb) H.aS (by exact (H.bK 0 rfl : aH _ (bI s (e8 kd dp lk lv B sb)) _)) (by omega) (by omega) vD) ?_
 rintro _ w2 ⟨rfl, hO⟩
 replace H := H.out hO
 refine WL.mv rfl rfl (WL.pv (PV.extract rfl rfl rfl) rfl (WL.pv (PV.extract rfl rfl rfl) rfl (WL.as rfl rfl (WL.as rfl rfl (WL.nil (WE.seq (WE.aA ?_)))))))
 refine WL.mv rfl rfl (WL.pv (PV.neq rfl rfl rfl) rfl (WL.nil ?_))
 refine WE.bB rfl rfl ?_
 refine WE.skip ?_
 refine WE.cut (α := Unit) (rg [(3, 1), (22, 7)]) (fun _ => []) (fun _ wl => St X w wl [] [aN.blk b2 35 z2] [bI s (e8 kd dp lk lv B sb)]) ?_ ?_
 ·
  refine WE.aA (WL.mv rfl rfl (WL.pv (PV.neq rfl rfl rfl) rfl (WL.mv rfl rfl ?_)))
  refine WL.split (t := 24) rfl (fun QK => ?_) (fun QK => ?_)
  ·
   refine WL.known (t := 23) (c := true) rfl QK ?_
   try simp only [bU] at QK
   refine WL.mv rfl rfl (WL.pv (PV.neq rfl rfl rfl) rfl (WL.pv (PV.dB rfl rfl rfl) rfl (WL.nil ?_)))
   refine WE.bB rfl (by simp; omega) ?_
   refine WE.skip ?_
   exact ⟨(), (by repeat (first | with_reducible exact bQ.refl _ _ | refine bQ.dG rfl ?_)), trivial, rfl, H⟩
  ·
   refine WL.known (t := 23) (c := false) rfl QK ?_
   try simp only [bU] at QK
   refine WL.off rfl (WL.off rfl (WL.pv (PV.cZ rfl rfl rfl) rfl (WL.nil (WE.iJ rfl (WE.skip ?_)))))
   exact ⟨(), (by repeat (first | with_reducible exact bQ.refl _ _ | refine bQ.dG rfl ?_)), trivial, rfl, H⟩
 ·
  intro _ γ w3 hI
  try dsimp only at hI
  replace H := hI
  refine WE.aA (WL.mv rfl rfl ?_)
  refine WL.pv (PV.eq (v' := iR s 1 4 (e8 kd dp lk lv B sb).length) (PV.p9 rfl (by exact (H.p 0 rfl : (bI s (e8 kd dp lk lv B sb)) _)) eW gY rfl rfl (by omega) (by omega)) rfl) rfl ?_
  replace H := H.add (show aH _ (bI (iR s 1 4 (e8 kd dp lk lv B sb).length) (B ++ ((if kd = 1 then lk ++ lv else []) ++ sb.flatten))) _ from ((by exact (H.bK 0 rfl : aH _ (bI s (e8 kd dp lk lv B sb)) _)) : aH _ (bI s (e8 kd dp lk lv B sb)) _).imp fun _ h => by have h_ := bI.sub h (show 4 ≤ (e8 kd dp lk lv B sb).length by omega) (Nat.le_refl _); rw [List.take_of_length_le (by rw [List.length_drop]; exact Nat.le_refl _), hEd] at h_; exact h_)
  have ZF : (iR s 1 4 (e8 kd dp lk lv B sb).length).oneCell' = true := cR.fH (H.p 0 rfl : bI _ (B ++ ((if kd = 1 then lk ++ lv else []) ++ sb.flatten)) _)
  obtain ⟨s4, hs4⟩ : ∃ s4, s4 = iR s 1 4 (e8 kd dp lk lv B sb).length := ⟨_, rfl⟩
  rw [← hs4] at H ZF ⊢
  refine WL.pv (PV.dD rfl aDg aCx (Fl.cons rfl (cells_one ZF) (by simp only [aR, aU, aB, aD]) Laid.head Fl.nil)) rfl ?_
  refine WL.box (l := [s4, .bool false]) H rfl rfl rfl ?_
  intro HL w4 H
  refine WL.as rfl rfl (WL.nil (WE.aA (WL.mv rfl rfl (WL.pv (PV.makeFunc rfl) rfl (WL.as rfl rfl (WL.nil ?_))))))
  refine WE.bG (.take 0 (.take 1 (.take 2 (.take 3 (.take 4 (.take 5 (.take 6 (.take 7 (.take 8 (.take 9 (.take 10 (.take 11 (.iW 12 (.take 13 (.aG 14 (.aG 15 .done))) 14 (.aG 12 (.take 13 (.aG 15 .done)))))))))))))))) mixed (by kernel_rfl) ?_
  replace H := H.out (Out.drew _)
  refine WP.mv rfl rfl rfl (WP.mv rfl rfl rfl ?_)
  refine WP.aC rfl rfl (PV.eO rfl (by exact (H.p 1 rfl : (bI s (e8 kd dp lk lv B sb)) _)) eW gY rfl rfl (by omega) (by omega)) ?_
  refine WP.aQ rfl rfl (RV.aZ rfl CE rfl) ((show cX _ _ [.int .u8 ((UInt8.ofNat (dp / 2 ^ 8)).toNat : Int)] from bI.rd (by exact (H.p 1 rfl : (bI s (e8 kd dp lk lv B sb)) _)) 2 (by omega))) ?_
  refine WP.aC rfl rfl (PV.eq (v' := .int .i64 ((dp / 256 : Nat) : Int)) (PV.mL (a := ((UInt8.ofNat (dp / 2 ^ 8)).toNat : Int)) rfl oW yD rfl (by omega) (by have := (UInt8.ofNat (dp / 2 ^ 8)).toNat_lt; omega)) (by rw [aGX yT])) ?_
  refine WP.aC rfl rfl (PV.eq (v' := .int .i64 ((dp / 256 * 256 : Nat) : Int)) (PV.UW rfl rfl rfl (by omega)) (by rw [show IntKind.i64.wrap _ = _ from wrap64_in (by simp [IntKind.bits]; omega) (by simp [IntKind.bits]; omega)] <;> ((congr 1; done)))) ?_
  refine WP.mv rfl rfl rfl ?_
  refine WP.aC rfl rfl (PV.eO rfl (by exact (H.p 1 rfl : (bI s (e8 kd dp lk lv B sb)) _)) eW gY rfl rfl (by omega) (by omega)) ?_
  refine WP.aQ rfl rfl (RV.aZ rfl CE rfl) ((show cX _ _ [.int .u8 ((UInt8.ofNat dp).toNat : Int)] from bI.rd (by exact (H.p 1 rfl : (bI s (e8 kd dp lk lv B sb)) _)) 3 (by omega))) ?_
  refine WP.aC rfl rfl (PV.eq (v' := .int .i64 ((dp % 256 : Nat) : Int)) (PV.mL (a := ((UInt8.ofNat dp).toNat : Int)) rfl oW yD rfl (by omega) (by have := (UInt8.ofNat dp).toNat_lt; omega)) (by rw [aGW])) ?_
  refine WP.aC rfl rfl (PV.eq (v' := .int .i64 (dp : Int)) (PV.orw rfl rfl rfl) (congrArg (Value.int .i64) (aDn yT))) ?_
  refine WP.mv rfl rfl rfl ?_
  refine WP.join (α := Nat × Value) (.aG 15 .done) [8, 47, 48] (fun g_ => [(47, .agg (kc B).toArray), (8, .pointer (some ⟨g_.1, 0, none⟩)), (48, .agg (fG kd dp (List.replicate 32 0) (List.replicate 32 0) B (.slice none 0 0)).toArray)]) (fun g_ wl => St X w wl [] [aN.blk g_.1 35 ([.int .i64 0] ++ ([.int .i64 0] ++ ((kc (List.replicate 32 0) ++ kc (List.replicate 32 0)) ++ (kc (List.replicate 32 0) ++ [.slice none 0 0])))), aN.blk HL 277 [g_.2, .bool false], aN.blk b2 35 z2] [bI g_.2 ((if kd = 1 then lk ++ lv else []) ++ sb.flatten), bI s (e8 kd dp lk lv B sb)]) ?_ ?_
  ·
   intro jn_
   refine WP.iW rfl rfl ?_ ?_ 
   ·
    refine WL.qM EN rfl rfl (by exact wK (br := HL) (l := (B ++ ((if kd = 1 then lk ++ lv else []) ++ sb.flatten))) H.aS (H.l 0 rfl) (by exact (H.fM 0 rfl 0 rfl : aH _ (bI s4 (B ++ ((if kd = 1 then lk ++ lv else []) ++ sb.flatten))) _)) (by omega) (by omega)) ?_
    rintro _ w5 ⟨UX, rfl, hO, hB, hR⟩
    have JK : (B ++ ((if kd = 1 then lk ++ lv else []) ++ sb.flatten)).take 32 = B := List.take_left' o5
    have hdk : (B ++ ((if kd = 1 then lk ++ lv else []) ++ sb.flatten)).drop 32 = (if kd = 1 then lk ++ lv else []) ++ sb.flatten := List.drop_left' o5
    rw [JK]
    rw [hdk] at hR
    replace H := H.mC 0 rfl hO hB hR
    refine WL.nil ⟨(fa (fun _ _ => ((show cX _ _ [.int .u8 ((UInt8.ofNat dp).toNat : Int)] from bI.rd (by exact (H.p 2 rfl : (bI s (e8 kd dp lk lv B sb)) _)) 3 (by omega)))) (fa (fun _ _ => ((show cX _ _ [.int .u8 ((UInt8.ofNat (dp / 2 ^ 8)).toNat : Int)] from bI.rd (by exact (H.p 2 rfl : (bI s (e8 kd dp lk lv B sb)) _)) 2 (by omega)))) c5)), ?_⟩
    refine WP.aC rfl rfl (PV.dD rfl aAW CQ (Fl.cons rfl rfl (by simp only [aR, aU, aB, aD]) (Laid.left (Laid.all (by simp only [aR, aU, aB, aD]))) (Fl.cons rfl rfl (by simp only [aR, aU, aB, aD]) (Laid.right (Laid.left (Laid.all (by simp only [aR, aU, aB, aD]))) (by simp only [aR, aU, aB, aD])) (Fl.cons rfl rfl (by simp only [aR, aU, aB, aD]; omega) (Laid.right (Laid.right (Laid.right (Laid.left (Laid.all (by simp only [aR, aU, aB, aD]; omega))) rfl) rfl) (by simp only [aR, aU, aB, aD])) Fl.nil)))) ?_
    refine WP.aG rfl ?_
    refine WL.alloc H rfl CQ rfl ?_
    intro b8 w6 H
    refine WL.nil ⟨(fa (fun _ _ => ((show cX _ _ [.int .u8 ((UInt8.ofNat dp).toNat : Int)] from bI.rd (by exact (H.p 2 rfl : (bI s (e8 kd dp lk lv B sb)) _)) 3 (by omega)))) (fa (fun _ _ => ((show cX _ _ [.int .u8 ((UInt8.ofNat (dp / 2 ^ 8)).toNat : Int)] from bI.rd (by exact (H.p 2 rfl : (bI s (e8 kd dp lk lv B sb)) _)) 2 (by omega)))) c5)), ?_⟩
    exact jn_ _ _ ⟨(b8, UX), (by repeat (first | with_reducible exact bQ.refl _ _ | refine bQ.dG rfl ?_)), ⟨rfl, rfl, rfl, trivial⟩, (by exact H.sS [0, 2])⟩
   ·
    refine WL.alloc H rfl CQ rfl ?_
    intro b8 w7 H
    refine WL.nil ⟨(fa (fun _ _ => ((show cX _ _ [.int .u8 ((UInt8.ofNat dp).toNat : Int)] from bI.rd (by exact (H.p 1 rfl : (bI s (e8 kd dp lk lv B sb)) _)) 3 (by omega)))) (fa (fun _ _ => ((show cX _ _ [.int .u8 ((UInt8.ofNat (dp / 2 ^ 8)).toNat : Int)] from bI.rd (by exact (H.p 1 rfl : (bI s (e8 kd dp lk lv B sb)) _)) 2 (by omega)))) c5)), ?_⟩
    refine WP.aG rfl ?_
    refine WL.qM EN rfl rfl (by exact wK (br := HL) (l := (B ++ ((if kd = 1 then lk ++ lv else []) ++ sb.flatten))) H.aS (H.l 1 rfl) (by exact (H.fM 1 rfl 0 rfl : aH _ (bI s4 (B ++ ((if kd = 1 then lk ++ lv else []) ++ sb.flatten))) _)) (by omega) (by omega)) ?_
    rintro _ w8 ⟨UX, rfl, hO, hB, hR⟩
    have JK : (B ++ ((if kd = 1 then lk ++ lv else []) ++ sb.flatten)).take 32 = B := List.take_left' o5
    have hdk : (B ++ ((if kd = 1 then lk ++ lv else []) ++ sb.flatten)).drop 32 = (if kd = 1 then lk ++ lv else []) ++ sb.flatten := List.drop_left' o5
    rw [JK]
    rw [hdk] at hR
    replace H := H.mC 1 rfl hO hB hR
    refine WL.nil ⟨(fa (fun _ _ => ((show cX _ _ [.int .u8 ((UInt8.ofNat dp).toNat : Int)] from bI.rd (by exact (H.p 2 rfl : (bI s (e8 kd dp lk lv B sb)) _)) 3 (by omega)))) (fa (fun _ _ => ((show cX _ _ [.int .u8 ((UInt8.ofNat (dp / 2 ^ 8)).toNat : Int)] from bI.rd (by exact (H.p 2 rfl : (bI s (e8 kd dp lk lv B sb)) _)) 2 (by omega)))) c5)), ?_⟩
    refine WP.aC rfl rfl (PV.dD rfl aAW CQ (Fl.cons rfl rfl (by simp only [aR, aU, aB, aD]) (Laid.left (Laid.all (by simp only [aR, aU, aB, aD]))) (Fl.cons rfl rfl (by simp only [aR, aU, aB, aD]) (Laid.right (Laid.left (Laid.all (by simp only [aR, aU, aB, aD]))) (by simp only [aR, aU, aB, aD])) (Fl.cons rfl rfl (by simp only [aR, aU, aB, aD]; omega) (Laid.right (Laid.right (Laid.right (Laid.left (Laid.all (by simp only [aR, aU, aB, aD]; omega))) rfl) rfl) (by simp only [aR, aU, aB, aD])) Fl.nil)))) ?_
    exact jn_ _ _ ⟨(b8, UX), (by repeat (first | with_reducible exact bQ.refl _ _ | refine bQ.dG rfl ?_)), ⟨rfl, rfl, rfl, trivial⟩, (by exact H.sS [0, 2])⟩
  ·
   intro ⟨b8, UX⟩ γ_ w9 hI
   try dsimp only at hI
   replace H := hI
   refine WP.aG rfl ?_
   refine WL.aT H 0 rfl rfl rfl (new := fG kd dp (List.replicate 32 0) (List.replicate 32 0) B (.slice none 0 0)) rfl (cH kQ (by simp only [aR, aU, aB, aD]; omega)) (r4 rfl) (Laid.at (Laid.all (by simp only [aR, aU, aB, aD]; omega)) rfl) rfl ?_
   intro vR H
   refine WL.nil ⟨(fa (nw 15 8) (fa (nw 15 3) c5)), ?_⟩
   refine WP.done ?_
   refine WE.cut (α := Value) (rg [(49, 10)]) (fun g_ => []) (fun g_ wl => St X w wl [] [aN.blk b8 35 (fG kd dp lk lv B (.slice none 0 0)), aN.blk HL 277 [g_, .bool false], aN.blk b2 35 z2] [bI g_ sb.flatten, bI s (e8 kd dp lk lv B sb)]) ?_ ?_
   ·
    refine WE.aA (WL.mv rfl rfl (WL.pv (PV.eql rfl rfl rfl) rfl (WL.nil ?_)))
    refine WE.cond rfl (fun mH => ?_) (fun mH => ?_)
    ·
     try simp only [bU] at mH
     have vE : kd = 1 := by omega
     have hKF : (if kd = 1 then lk ++ lv else []) ++ sb.flatten = lk ++ (lv ++ sb.flatten) := by rw [if_pos vE, List.append_assoc]
     rw [hKF] at H
     have aJz : (lk ++ (lv ++ sb.flatten)).length = 64 + 32 * sb.length := by simp [lX, hlv, JO]; omega
     have aJy : (lv ++ sb.flatten).length = 32 + 32 * sb.length := by simp [hlv, JO]
     refine WE.aA (WL.mv rfl rfl ?_)
     refine WL.qM EN rfl rfl (wK (br := HL) (l := (lk ++ (lv ++ sb.flatten))) H.aS (H.l 1 rfl) (by exact (H.fM 1 rfl 0 rfl : aH _ (bI UX (lk ++ (lv ++ sb.flatten))) _)) (by omega) (by omega)) ?_
     rintro _ y8 ⟨s52, rfl, hO, hB, hR⟩
     have JK : (lk ++ (lv ++ sb.flatten)).take 32 = lk := List.take_left' lX
     have hdk : (lk ++ (lv ++ sb.flatten)).drop 32 = lv ++ sb.flatten := List.drop_left' lX
     rw [JK]
     rw [hdk] at hR
     replace H := H.mC 1 rfl hO hB hR
     refine WL.pv (PV.fieldAddr rfl oH rfl) rfl (WL.pv (PV.fieldAddr rfl kE rfl) rfl ?_)
     refine WL.aT H 0 rfl rfl rfl (new := kc lk) rfl (cH cM (by simp only [aR, aU, aB, aD]; omega)) (bJ _) (Laid.at (Laid.right (Laid.right (Laid.left (Laid.left (Laid.all (by simp only [aR, aU, aB, aD]; omega)))) rfl) rfl) rfl) rfl ?_
     intro IQ H
     replace H := H.conv (L' := [aN.blk b8 35 (fG kd dp lk (List.replicate 32 0) B (.slice none 0 0)), aN.blk HL 277 [s52, .bool false], aN.blk b2 35 z2]) rfl
     refine WL.nil (WE.eH (WL.mv rfl rfl ?_))
     refine WL.qM EN rfl rfl (wK (br := HL) (l := (lv ++ sb.flatten)) H.aS (H.l 1 rfl) (by exact (H.fM 1 rfl 0 rfl : aH _ (bI s52 (lv ++ sb.flatten)) _)) (by omega) (by omega)) ?_
     rintro _ FP ⟨s56, rfl, hO, hB, hR⟩
     have JK : (lv ++ sb.flatten).take 32 = lv := List.take_left' hlv
     have hdk : (lv ++ sb.flatten).drop 32 = sb.flatten := List.drop_left' hlv
     rw [JK]
     rw [hdk] at hR
     replace H := H.mC 1 rfl hO hB hR
     refine WL.pv (PV.fieldAddr rfl oH rfl) rfl (WL.pv (PV.fieldAddr rfl G5 rfl) rfl ?_)
     refine WL.aT H 0 rfl rfl rfl (new := kc lv) rfl (cH dJ (by simp only [aR, aU, aB, aD]; omega)) (bJ _) (Laid.at (Laid.right (Laid.right (Laid.left (Laid.right (Laid.all (by simp only [aR, aU, aB, aD]; omega)) rfl)) rfl) rfl) (by simp [aO, bA, *])) rfl ?_
     intro K2 H
     replace H := H.conv (L' := [aN.blk b8 35 (fG kd dp lk lv B (.slice none 0 0)), aN.blk HL 277 [s56, .bool false], aN.blk b2 35 z2]) rfl
     refine WL.nil ?_
     exact ⟨s56, (by repeat (first | with_reducible exact bQ.refl _ _ | refine bQ.dG rfl ?_)), trivial, rfl, (show St X w _ [] [aN.blk b8 35 (fG kd dp lk lv B (.slice none 0 0)), aN.blk HL 277 [s56, .bool false], aN.blk b2 35 z2] [bI s56 sb.flatten, bI s (e8 kd dp lk lv B sb)] from (by exact H.sS [0, 3]))⟩
    ·
     try simp only [bU] at mH
     have NJ : kd = 0 := by omega
     have hKF : (if kd = 1 then lk ++ lv else []) ++ sb.flatten = sb.flatten := by rw [if_neg (by omega)]; rfl
     rw [hKF] at H
     obtain ⟨hlz, hvz⟩ := hp.lz NJ
     have aDJ : lk = List.replicate 32 0 := hlz
     have aDw : lv = List.replicate 32 0 := hvz
     replace H := H.conv (L' := [aN.blk b8 35 (fG kd dp lk lv B (.slice none 0 0)), aN.blk HL 277 [UX, .bool false], aN.blk b2 35 z2]) (by rw [aDJ, aDw]; rfl)
     refine WE.skip ?_
     exact ⟨UX, (by repeat (first | with_reducible exact bQ.refl _ _ | refine bQ.dG rfl ?_)), trivial, rfl, (show St X w _ [] [aN.blk b8 35 (fG kd dp lk lv B (.slice none 0 0)), aN.blk HL 277 [UX, .bool false], aN.blk b2 35 z2] [bI UX sb.flatten, bI s (e8 kd dp lk lv B sb)] from (by exact H.sS [0, 1]))⟩
   ·
    intro g_ γ NY hI
    try dsimp only at hI
    replace H := hI
    replace H := H.lK 30 32
    refine WE.seq (WE.block ?_)
    refine WE.loop (α := Nat × Value × Value) (rg [(59, 26)]) (fun p => []) (fun p wl => p.1 ≤ sb.length ∧ St X w wl [] [aN.iA w.heap.size p.2.1 30 32 (sb.take (p.1)).length ((sb.take (p.1)).flatMap kc), aN.blk b8 35 (fG kd dp lk lv B p.2.1), aN.blk HL 277 [p.2.2, .bool false], aN.blk b2 35 z2] [bI p.2.2 (sb.drop (p.1)).flatten, bI s (e8 kd dp lk lv B sb)]) (fun p => sb.length - p.1) (0, .slice none 0 0, g_) trivial ⟨Nat.zero_le _, H⟩ ?_
    intro ⟨i, q, g⟩ γ0 TV hI
    try dsimp only at hI
    obtain ⟨hi, H⟩ := hI
    refine WE.seq (WE.aA (WL.mv rfl rfl (WL.pv (PV.nilCheck rfl rfl) rfl (WL.pv (PV.fieldAddr rfl pV rfl) rfl (WL.aY rfl eN rfl rfl (aM.aF (H.l 2 rfl) aJ.hd rfl) ?_)))))
    refine WL.pv (PV.dO (by exact (H.p 0 rfl : (bI g (sb.drop i).flatten) _)) eW rfl) rfl ?_
    refine WL.pv (PV.gtr rfl rfl rfl) rfl (WL.mv rfl rfl ?_)
    refine WL.split (t := 65) rfl (fun QH => ?_) (fun QH => ?_)
    ·
     refine WL.known (t := 64) (c := true) rfl QH ?_
     try simp only [bU] at QH
     have hlt : i < sb.length := by rcases Nat.lt_or_ge i sb.length with h_ | h_; exact h_; (have NK : (sb.drop i).flatten.length = 0 := by rw [List.drop_eq_nil_of_le h_]; rfl); omega
     have hsi := hp.sl _ (List.getElem_mem hlt)
     have QO : (sb.drop i).flatten.length = 32 * (sb.length - i) := by rw [B0 _ (fun x hx => hp.sl x (List.mem_of_mem_drop hx)), List.length_drop]
     have htl : (sb.take i).length = i := by rw [List.length_take]; omega
     refine WL.mv rfl rfl (WL.pv (PV.nilCheck rfl rfl) rfl (WL.pv (PV.fieldAddr rfl JT rfl) rfl (WL.aY rfl uC rfl rfl (aM.aF (H.l 2 rfl) (aJ.tl aJ.hd rfl) rfl) (WL.pv (PV.not rfl rfl) rfl (WL.pv (PV.dB rfl rfl rfl) rfl (WL.mv rfl rfl (WL.known (t := 72) (c := true) rfl rfl ?_)))))))
     refine WL.pv (PV.fieldAddr rfl mI rfl) rfl ?_
     refine WL.aY rfl uD rfl rfl (aM.aF (H.l 1 rfl) (aJ.r (aJ.r (aJ.r (aJ.r (aJ.all _) rfl) rfl) rfl) rfl) (by simp [aO, bA, *])) ?_
     refine WL.pv (PV.eq (v' := .int .i64 ((sb.take i).length : Int)) (PV.dO (cR.eM (H.l 0 rfl)) nW rfl) rfl) rfl (WL.pv (PV.leq rfl rfl rfl) rfl (WL.pv (PV.dB rfl rfl rfl) rfl (WL.nil ?_)))
     refine WE.cO rfl (by simp; omega) ?_
     refine WE.skip (WE.block ?_)
     refine WE.draw (.take 0 (.take 1 (.take 2 (.aG 3 (.aG 4 (.aG 5 (.take 6 (.aG 7 .done)))))))) mixed (by kernel_rfl) ?_
     replace H := H.out (Out.drew _)
     refine WP.aC rfl rfl (PV.fieldAddr rfl mI rfl) ?_
     refine WP.aQ rfl rfl (RV.aZ rfl uD rfl) (aM.aF (H.l 1 rfl) (aJ.r (aJ.r (aJ.r (aJ.r (aJ.all _) rfl) rfl) rfl) rfl) (by simp [aO, bA, *])) ?_
     refine WP.mv rfl rfl rfl (WP.aG rfl ?_)
     refine WL.qM EN rfl rfl (wK (br := HL) (l := (sb.drop i).flatten) H.aS (H.l 2 rfl) (by exact (H.fM 2 rfl 0 rfl : aH _ (bI g (sb.drop i).flatten) _)) (by omega) (by omega)) ?_
     rintro _ TU ⟨s81, rfl, hO, hB, hR⟩
     have JK : (sb.drop i).flatten.take 32 = sb[i] := by rw [AB hlt]; exact List.take_left' hsi
     have hdk : (sb.drop i).flatten.drop 32 = (sb.drop (i + 1)).flatten := by rw [AB hlt]; exact List.drop_left' hsi
     rw [JK]
     rw [hdk] at hR
     replace H := H.mC 2 rfl hO hB hR
     refine WL.nil ⟨(fa (fun _ _ => (aM.aF (H.l 1 rfl) (aJ.r (aJ.r (aJ.r (aJ.r (aJ.all _) rfl) rfl) rfl) rfl) (by simp [aO, bA, *]))) c5), ?_⟩
     refine WP.aG rfl ?_
     refine WL.bL (l0 := (kc (List.replicate 32 0))) H rfl C3 (by decide) rfl (Fl.cons rfl rfl (by simp only [aR, aU, aB, aD]; omega) (Laid.all (by simp only [aR, aU, aB, aD]; omega)) Fl.nil) rfl ?_
     intro b82 TT H
     refine WL.nil ⟨(fa (fun _ _ => (aM.aF (H.l 2 rfl) (aJ.r (aJ.r (aJ.r (aJ.r (aJ.all _) rfl) rfl) rfl) rfl) (by simp [aO, bA, *]))) c5), ?_⟩
     refine WP.aG rfl ?_
     refine WL.append (m := 1) H 1 C3 (by decide) rfl rfl rfl (cR.bZ (n := 1) (H.l 0 rfl) (by rw [aO, hsi]; simp [aO])) (bJ _) (by omega) (by decide) rfl ?_
     intro v83 YQ H
     replace H := H.forget 0
     refine WL.nil ⟨(fa (nw 5 1) c5), ?_⟩
     refine WP.aC rfl rfl (PV.fieldAddr rfl mI rfl) (WP.aG rfl ?_)
     refine WL.aT H 1 rfl rfl rfl (new := _) (cells_one (iN (H.l 0 rfl))) (by exact aAJ) (dW (iN (H.l 0 rfl))) (Laid.at (Laid.right (Laid.right (Laid.right (Laid.right (Laid.all (by simp only [aR, aU, aB, aD])) rfl) rfl) rfl) rfl) (by simp [aO, bA, *])) rfl ?_
     intro w20 H
     replace H := H.conv (L' := [aN.iA w.heap.size v83 30 32 (sb.take (i + 1)).length ((sb.take (i + 1)).flatMap kc), aN.blk b8 35 (fG kd dp lk lv B v83), aN.blk HL 277 [s81, .bool false], aN.blk b2 35 z2]) (by rw [List.take_succ_eq_append_getElem hlt, List.length_append, List.flatMap_append, List.flatMap_singleton]; rfl)
     refine WL.nil ⟨(fa (nw 7 1) c5), ?_⟩
     refine WP.done ?_
     exact ⟨(i + 1, v83, s81), (by repeat (first | with_reducible exact bQ.refl _ _ | refine bQ.dG rfl ?_ | refine bQ.cC rfl ?_ | refine bQ.cB rfl ?_)), trivial, rfl, ⟨by dsimp only; omega, (show St X w _ [] [aN.iA w.heap.size v83 30 32 (sb.take (i + 1)).length ((sb.take (i + 1)).flatMap kc), aN.blk b8 35 (fG kd dp lk lv B v83), aN.blk HL 277 [s81, .bool false], aN.blk b2 35 z2] [bI s81 (sb.drop (i + 1)).flatten, bI s (e8 kd dp lk lv B sb)] from (by exact H.sS [0, 2]))⟩, (by dsimp only; omega)⟩
    ·
     refine WL.known (t := 64) (c := false) rfl QH ?_
     try simp only [bU] at QH
     have uN : i = sb.length := by rcases Nat.lt_or_ge i sb.length with h_ | h_; (have NK : (sb.drop i).flatten.length = 32 * (sb.length - i) := by rw [B0 _ (fun x hx => hp.sl x (List.mem_of_mem_drop hx)), List.length_drop]); omega; omega
     subst uN
     rw [List.take_length, List.drop_length] at H
     have hoq := iN (H.l 0 rfl)
     replace H := H.freeze (i := 0) rfl
     replace H := H.add (show aH _ (eQ q sb) _ from (H.bK 0 rfl).imp fun _ h => cR.eM h)
     replace H := H.add (show aH _ (bI g []) _ from (H.bK 2 rfl).imp fun _ h => h)
     refine WL.off rfl (WL.off rfl (WL.off rfl (WL.off rfl (WL.off rfl (WL.pv (PV.cZ rfl rfl rfl) rfl (WL.mv rfl rfl (WL.off rfl ?_)))))))
     refine WL.off rfl (WL.off rfl (WL.off rfl (WL.pv (PV.cZ rfl rfl rfl) rfl (WL.nil (WE.iJ rfl (WE.exit (WE.seq ?_)))))))
     refine WE.aA (WL.mv rfl rfl (WL.pv (PV.nilCheck rfl rfl) rfl (WL.pv (PV.fieldAddr rfl JT rfl) rfl (WL.aY rfl uC rfl rfl (aM.aF (H.l 1 rfl) (aJ.tl aJ.hd rfl) rfl) (WL.mv rfl rfl (WL.known (t := 89) (c := false) rfl rfl (WL.mv rfl rfl ?_)))))))
     refine WL.pv (PV.nilCheck rfl rfl) rfl (WL.pv (PV.fieldAddr rfl pV rfl) rfl (WL.aY rfl eN rfl rfl (aM.aF (H.l 1 rfl) aJ.hd rfl) ?_))
     refine WL.pv (PV.dO (by exact (H.p 0 rfl : (bI g []) _)) eW rfl) rfl ?_
     refine WL.pv (PV.gtr rfl rfl rfl) rfl (WL.pv (PV.cZ rfl rfl rfl) rfl (WL.mv rfl rfl (WL.known (t := 97) (c := false) rfl rfl ?_)))
     refine WL.bC rfl mN rfl rfl (aM.aF (H.l 0 rfl) (aJ.all _) rfl) (cH kQ (by simp only [aR, aU, aB, aD]; omega)) ?_
     refine WL.call WV rfl (sP (kd := kd) (dp := dp) (lk := lk) (lv := lv) (B := B) (sl := q) (sb := sb) H.aS (by exact (H.bK 1 rfl : aH _ (eQ q sb) _)) hp) ?_
     rintro _ w21 ⟨rfl, hO⟩
     replace H := H.out hO
     refine WL.pv (PV.neq rfl rfl rfl) rfl (WL.pv (PV.cZ rfl rfl rfl) rfl (WL.nil ?_))
     refine WE.bB rfl rfl ?_
     refine WE.skip (WE.aA ?_)
     refine WL.bC rfl mN rfl rfl (aM.aF (H.l 0 rfl) (aJ.all _) rfl) (cH kQ (by simp only [aR, aU, aB, aD]; omega)) ?_
     refine WL.aT H 2 rfl rfl rfl (new := fG kd dp lk lv B q) rfl (cH kQ (by simp only [aR, aU, aB, aD]; omega)) (r4 hoq) (Laid.at (Laid.all (by simp only [aR, aU, aB, aD]; omega)) rfl) rfl ?_
     intro w22 H
     refine WL.as rfl rfl (WL.nil (WE.ret ⟨[_, _], _, .nil _, ⟨⟨_, rfl, aW mN (aM.aF (H.l 2 rfl) (aJ.all _) rfl) (cH kQ (by simp only [aR, aU, aB, aD]; omega))⟩, rfl, trivial⟩, ?_⟩))
     exact ⟨q, rfl, H.aL, H.gQ (by exact (H.bK 1 rfl : aH _ (eQ q sb) _))⟩
theorem E9 {n : Nat} (h : n < 4294967296) : IntKind.u64.wrap ((BitVec.ofInt IntKind.u64.bits (n : Int) &&& BitVec.ofInt IntKind.u64.bits 4294967295).toNat : Int) = (n : Int) := by
 have e : (BitVec.ofInt IntKind.u64.bits (n : Int) &&& BitVec.ofInt IntKind.u64.bits 4294967295).toNat = n := by
  show (BitVec.ofInt 64 (n : Int) &&& 4294967295#64).toNat = _
  rw [BitVec.ofInt_natCast, BitVec.toNat_and]
  simp only [BitVec.toNat_ofNat]
  rw [Nat.mod_eq_of_lt (show n < 2 ^ 64 by omega), Nat.mod_eq_of_lt (show 4294967295 < 2 ^ 64 by decide), show 4294967295 = 2 ^ 32 - 1 by decide, Nat.and_two_pow_sub_one_of_lt_two_pow h]
 rw [e, nR]; congr 1; omega
def rep (n : Nat) (e : List UInt8) (c : Nat) : List (List UInt8) := List.replicate c e ++ List.replicate (n - c) (List.replicate 32 0)
theorem kS (c : Nat) {e : List UInt8} (he : e.length = 32) : ((List.replicate c e).flatMap kc).length = c * 32 := by
 rw [List.flatMap_replicate, List.length_flatten, List.map_replicate, List.sum_replicate_nat, aO, he]
theorem I6 (n : Nat) {e : List UInt8} (he : e.length = 32) {c : Nat} (hc : c ≤ n) : ((rep n e c).flatMap kc).length = n * 32 := by
 unfold rep
 rw [List.flatMap_append, List.length_append, kS c he, kS (n - c) (by rw [List.length_replicate]), ← Nat.add_mul]
 congr 1; omega
theorem OS (n : Nat) (e : List UInt8) : (rep n e 0).flatMap kc = jC n (kc (List.replicate 32 0)) := by
 have e0 : kc (List.replicate 32 0) = List.replicate 32 (.int .u8 0) := by rfl
 unfold rep
 rw [List.replicate_zero, List.nil_append, Nat.sub_zero, List.flatMap_replicate, e0, List.flatten_replicate_replicate, vN _ _ _ (by decide)]
theorem OT (n : Nat) (e : List UInt8) : rep n e n = List.replicate n e := by unfold rep; rw [Nat.sub_self]; simp
theorem DD {n c m : Nat} {e : List UInt8} (he : e.length = 32) (h : c + m ≤ n) : Laid ((rep n e c).flatMap kc) (c * 32) ((List.replicate m e).flatMap kc) ((rep n e (c + m)).flatMap kc) := by
 have e1 : rep n e c = List.replicate c e ++ (List.replicate m (List.replicate 32 0) ++ List.replicate (n - (c + m)) (List.replicate 32 0)) := by
  unfold rep
  rw [List.replicate_append_replicate, show m + (n - (c + m)) = n - c by omega]
 have e2 : rep n e (c + m) = List.replicate c e ++ (List.replicate m e ++ List.replicate (n - (c + m)) (List.replicate 32 0)) := by
  unfold rep
  rw [← List.append_assoc, List.replicate_append_replicate]
 rw [e1, e2, List.flatMap_append, List.flatMap_append, List.flatMap_append, List.flatMap_append]
 refine Laid.right (Laid.left (Laid.all ?_)) (by rw [kS c he]; rfl)
 rw [kS m he, kS m (by rw [List.length_replicate])]
theorem C0 {e : List UInt8} (he : e.length = 32) (c q : Nat) : ((List.replicate c e).flatMap kc).take (q * 32) = (List.replicate (min q c) e).flatMap kc := by
 rcases Nat.lt_or_ge q c with h | h
 ·
  have e1 : List.replicate c e = List.replicate q e ++ List.replicate (c - q) e := by rw [List.replicate_append_replicate]; congr 1; omega
  rw [Nat.min_eq_left (by omega), e1, List.flatMap_append, List.take_left' (kS q he)]
 ·
  rw [Nat.min_eq_right h, List.take_of_length_le (by rw [kS c he]; omega)]
theorem K5 {e : List UInt8} (he : e.length = 32) (n : Nat) : (kc e).take (min 1 n * 32) = (List.replicate (min 1 n) e).flatMap kc := by
 have h := C0 he 1 (min 1 n)
 have e1 : (List.replicate 1 e).flatMap kc = kc e := by simp
 rw [e1, show min (min 1 n) 1 = min 1 n by omega] at h; exact h
theorem VB (l : List (List UInt8)) : eF (l.flatMap kc) := fun v hv => by
 obtain ⟨x, _, hx⟩ := List.mem_flatMap.1 hv
 exact bJ x v hx
theorem X4 {X : Nat → Prop} {w : World} {n : Nat} (hX : cU X w) (hn : n < 4294967296) :
  bF prog 222 [.int .u64 1, .int .u64 (n : Int)].toArray w fun v w' => v = .tuple [.int .u64 0, .int .u64 (n : Int)].toArray ∧ Out Nil w w' := by
 refine bF.aI (N := 51) func222 rfl rfl (by simp) ?_
 have H := St.begin hX
 have hdz : n / 2 ^ 32 = 0 := Nat.div_eq_of_lt hn
 refine WE.aA (WL.as rfl rfl (WL.as rfl rfl (WL.nil (WE.aA (WL.mv rfl rfl (WL.pv (PV.eq (v' := .int .u64 1) (PV.HP rfl rfl rfl) rfl) rfl (WL.as rfl rfl ?_)))))))
 refine WL.nil (WE.aA (WL.mv rfl rfl (WL.pv (PV.eq (v' := .int .u64 0) (PV.C5 (m := 1) (n := 32) rfl rfl rfl (by decide)) rfl) rfl (WL.as rfl rfl (WL.nil (WE.aA (WL.mv rfl rfl ?_)))))))
 refine WL.pv (PV.eq (v' := .int .u64 (n : Int)) (PV.HP rfl rfl rfl) (congrArg (Value.int .u64) (E9 hn))) rfl (WL.as rfl rfl (WL.nil (WE.aA (WL.mv rfl rfl ?_))))
 refine WL.pv (PV.eq (v' := .int .u64 0) (PV.C5 (m := n) (n := 32) rfl rfl rfl (by decide)) (by rw [hdz]; rfl)) rfl ?_
 refine WL.as rfl rfl (WL.nil (WE.aA (WL.mv rfl rfl (WL.mv rfl rfl (WL.pv (PV.LM (m := 1) (n := n) (q := n) rfl rfl rfl (by omega) (by omega)) rfl (WL.as rfl rfl (WL.nil ?_)))))))
 refine WE.aA (WL.mv rfl rfl (WL.mv rfl rfl (WL.pv (PV.LM (m := 0) (n := n) (q := 0) rfl rfl rfl (by omega) (by omega)) rfl (WL.mv rfl rfl ?_))))
 refine WL.pv (PV.eq (v' := .int .u64 0) (PV.C5 (m := n) (n := 32) rfl rfl rfl (by decide)) (by rw [hdz]; rfl)) rfl ?_
 refine WL.pv (PV.eq (v' := .int .u64 0) (PV.HT rfl rfl rfl) rfl) rfl (WL.as rfl rfl (WL.nil (WE.aA (WL.mv rfl rfl (WL.pv (PV.eq (v' := .int .u64 0) (PV.HP rfl rfl rfl) rfl) rfl (WL.as rfl rfl (WL.nil ?_)))))))
 refine WE.aA (WL.mv rfl rfl (WL.pv (PV.eq (v' := .int .u64 0) (PV.C5 (m := 0) (n := 32) rfl rfl rfl (by decide)) rfl) rfl (WL.as rfl rfl (WL.nil (WE.aA (WL.mv rfl rfl (WL.mv rfl rfl ?_)))))))
 refine WL.mv rfl rfl (WL.pv (PV.LM (m := 1) (n := 0) (q := 0) rfl rfl rfl (by omega) (by omega)) rfl (WL.pv (PV.eq (v' := .int .u64 0) (PV.HT rfl rfl rfl) rfl) rfl (WL.as rfl rfl (WL.nil (WE.aA (WL.mv rfl rfl (WL.mv rfl rfl ?_)))))))
 refine WL.pv (PV.LM (m := 0) (n := 0) (q := 0) rfl rfl rfl (by omega) (by omega)) rfl (WL.mv rfl rfl (WL.pv (PV.eq (v' := .int .u64 0) (PV.HT rfl rfl rfl) rfl) rfl (WL.mv rfl rfl (WL.pv (PV.eq (v' := .int .u64 0) (PV.C5 (m := 0) (n := 32) rfl rfl rfl (by decide)) rfl) rfl (WL.pv (PV.eq (v' := .int .u64 0) (PV.HT rfl rfl rfl) rfl) rfl (WL.as rfl rfl (WL.nil ?_)))))))
 refine WE.aA (WL.mv rfl rfl (WL.mv rfl rfl (WL.pv (PV.LM (m := 1) (n := n) (q := n) rfl rfl rfl (by omega) (by omega)) rfl (WL.as rfl rfl (WL.nil (WE.ret ⟨[_, _], _, .nil _, ⟨rfl, rfl, trivial⟩, ?_⟩))))))
 exact ⟨rfl, H.aL⟩
theorem aGC {X : Nat → Prop} {w : World} {n : Nat} (hX : cU X w) (hn : n < 4294967296) :
  bF prog 218 [.int .u64 1, .int .u64 (n : Int)].toArray w fun v w' => v = .tuple [.int .u64 0, .int .u64 (n : Int)].toArray ∧ Out Nil w w' := by
 refine bF.aI (N := 30) func218 rfl rfl (by simp) ?_
 have H := St.begin hX
 refine WE.aA (WL.as rfl rfl (WL.as rfl rfl (WL.nil (WE.seq (WE.iJ rfl (WE.skip (WE.aA ?_)))))))
 refine WL.mv rfl rfl (WL.mv rfl rfl ?_)
 refine WL.call aEV rfl (X4 (n := n) H.aS  (by assumption)) ?_
 rintro _ w1 ⟨rfl, hO⟩
 replace H := H.out hO
 refine WL.mv rfl rfl (WL.pv (PV.extract rfl rfl rfl) rfl (WL.pv (PV.extract rfl rfl rfl) rfl (WL.as rfl rfl (WL.as rfl rfl (WL.nil (WE.aA (WL.mv rfl rfl ?_)))))))
 refine WL.mv rfl rfl (WL.as rfl rfl (WL.as rfl rfl (WL.nil (WE.ret ⟨[_, _], _, .nil _, ⟨rfl, rfl, trivial⟩, ?_⟩))))
 exact ⟨rfl, H.aL⟩
theorem TA {X : Nat → Prop} {w : World} {s : Value} {e : List UInt8} {n : Nat} (hX : cU X w) (bT : aH X (eQ s [e]) w) (he : e.length = 32) (hn : n ≤ 256) :
  bF prog 211 [s, .int .i64 (n : Int)].toArray w fun v w' => ∃ b, v = .slice (some ⟨b, 0, none⟩) n n ∧ Out Nil w w' ∧ w.heap.size ≤ b ∧ aM w' b 30 ((List.replicate n e).flatMap kc) := by
 refine bF.aI (N := 48) func211 rfl rfl (by simp) ?_
 have H := (St.begin hX).add (cE bT)
 refine WE.aA (WL.as rfl rfl (WL.nil (WE.seq (WE.aA (WL.mv rfl rfl (WL.pv (PV.lss rfl rfl rfl) rfl (WL.nil ?_)))))))
 refine WE.bB rfl (by simp) ?_
 refine WE.skip (WE.aA (WL.mv rfl rfl ?_))
 refine WL.pv (PV.dO (by exact (H.p 0 rfl : (eQ s [e]) _)) nW rfl) rfl ?_
 refine WL.pv (PV.RZ (n := 1) rfl yD DY rfl rfl (by omega)) rfl (WL.mv rfl rfl (WL.pv (PV.RZ (n := n) rfl yD DY rfl rfl (by omega)) rfl ?_))
 refine WL.call aEX rfl (aGC (n := n) H.aS  (by omega)) ?_
 rintro _ w1 ⟨rfl, hO⟩
 replace H := H.out hO
 refine WL.mv rfl rfl (WL.pv (PV.extract rfl rfl rfl) rfl (WL.pv (PV.extract rfl rfl rfl) rfl (WL.as rfl rfl (WL.as rfl rfl (WL.nil (WE.seq (WE.aA ?_)))))))
 refine WL.mv rfl rfl (WL.pv (PV.gtr rfl rfl rfl) rfl (WL.mv rfl rfl (WL.known (t := 23) (c := false) rfl rfl (WL.mv rfl rfl (WL.pv (PV.gtr rfl rfl rfl) rfl (WL.pv (PV.cZ rfl rfl rfl) rfl (WL.nil ?_)))))))
 refine WE.bB rfl (by simp; omega) ?_
 refine WE.skip (WE.aA (WL.mv rfl rfl (WL.pv (PV.mL rfl DY yD rfl (by omega) (by omega)) rfl ?_)))
 refine WL.makeSlice (n := n) H rfl C3 rfl (by omega) (by omega) rfl ?_
 intro b30 w3 H
 replace H := H.conv (L' := [aN.blk b30 30 ((rep n e (0)).flatMap kc)]) (by rw [OS])
 have L9 : 0 ≤ n := Nat.zero_le _
 refine WL.as rfl rfl (WL.nil (WE.aA (WL.mv rfl rfl (WL.mv rfl rfl ?_))))
 refine WL.J3 (sz := 32) (m := 1) (cs := kc e) (l' := (rep n e (0 + min 1 n)).flatMap kc) H 0 nW dJ rfl rfl rfl (show cR _ s 32 1 (kc e) from by have h_ := (by exact (H.p 0 rfl : (eQ s [e]) _)); unfold eQ at h_; simpa using h_) (pH (bJ _) _) (by have h_ := DD (n := n) (c := 0) (m := min 1 n) he (by omega); rw [K5 he]; rwa [Nat.zero_mul] at h_) rfl ?_
 intro w7 H
 refine WL.as rfl rfl (WL.nil (WE.seq (WE.block ?_)))
 refine WE.loop (α := Nat) (rg [(8, 1), (34, 13)]) (fun c => [(8, .int .i64 (c : Int))]) (fun c wl => (c ≤ n ∧ (c = 0 → n = 0)) ∧ St X w wl [] [aN.blk b30 30 ((rep n e (c)).flatMap kc)] [eQ s [e]]) (fun c => n - c) (min 1 n) ⟨rfl, trivial⟩ ⟨⟨by omega, by omega⟩, H.conv (by simp)⟩ ?_
 intro c γ0 w8 hI
 try dsimp only at hI
 obtain ⟨⟨L9, hz⟩, H⟩ := hI
 refine WE.seq (WE.aA (WL.mv rfl rfl (WL.mv rfl rfl (WL.pv (PV.zO nW rfl) rfl (WL.pv (PV.lss rfl rfl rfl) rfl (WL.nil ?_))))))
 refine WE.cond rfl (fun GX => ?_) (fun GX => ?_)
 ·
  try simp only [bU] at GX
  have pU : c < n := by omega
  have hc0 : 0 < c := by rcases Nat.eq_zero_or_pos c with h_ | h_; (have := hz h_; omega); exact h_
  have hlz : c + min c (n - c) ≤ n := by omega
  refine WE.skip (WE.block ?_)
  refine WE.draw (.take 0 (.take 1 (.take 2 (.take 3 (.take 4 (.take 5 (.take 6 (.aG 7 (.take 8 (.take 9 .done)))))))))) mixed (by kernel_rfl) ?_
  replace H := H.out (Out.drew _)
  refine WP.mv rfl rfl rfl (WP.mv rfl rfl rfl (WP.mv rfl rfl rfl ?_))
  refine WP.aC rfl rfl (PV.eq (v' := .slice (some ⟨b30, c * 32, none⟩) (n - c) (n - c)) (PV.p9 rfl (cR.bZ (n := n) (H.l 0 rfl) (I6 n he L9)) nW dJ rfl rfl (by omega) (by omega)) (by simp only [iR, Int.toNat_natCast]; rw [if_neg (by omega)]; simp [Addr.add]; omega)) ?_
  refine WP.mv rfl rfl rfl (WP.mv rfl rfl rfl ?_)
  refine WP.aC rfl rfl (PV.eq (v' := .slice (some ⟨b30, 0, none⟩) c n) (PV.UL rfl (cR.bZ (n := n) (H.l 0 rfl) (I6 n he L9)) nW dJ rfl rfl (by omega) (by omega)) (by simp only [iR, Int.toNat_natCast]; rw [if_neg (by omega)]; simp [Addr.add])) ?_
  refine WP.aG rfl ?_
  refine WL.J3 (sz := 32) (m := c) (cs := (List.replicate c e).flatMap kc) (l' := (rep n e (c + min c (n - c))).flatMap kc) H 0 nW dJ rfl rfl rfl (cR.mY (by have h_ := cX.sub (aM.rd (H.l 0 rfl)) (o := 0) (l := (List.replicate c e).flatMap kc) (by unfold rep; rw [List.flatMap_append]; exact aJ.l (aJ.all _)); exact h_) (kS c he) (by omega)) (pH (VB _) _) (by rw [C0 he, Nat.min_eq_left (show min c (n - c) ≤ c by omega)]; exact DD he hlz) rfl ?_
  intro vR H
  refine WL.nil ⟨c5, ?_⟩
  refine WP.aC rfl rfl (PV.eq (v' := .int .i64 ((c + min c (n - c) : Nat) : Int)) (PV.bY rfl rfl rfl (by omega) (by omega)) (by congr 1)) ?_
  refine WP.as rfl rfl rfl (WP.done ?_)
  exact ⟨(c + min c (n - c)), (by repeat (first | with_reducible exact bQ.refl _ _ | refine bQ.dG rfl ?_ | refine bQ.cC rfl ?_ | refine bQ.cB rfl ?_)), ⟨rfl, trivial⟩, rfl, ⟨⟨by omega, by omega⟩, H⟩, (by omega)⟩
 ·
  try simp only [bU] at GX
  have hce : c = n := by omega
  refine WE.exit (WE.aA (WL.mv rfl rfl (WL.as rfl rfl (WL.nil (WE.ret ⟨[_], _, .nil _, ⟨rfl, trivial⟩, ?_⟩)))))
  subst hce
  rw [OT] at H
  exact ⟨b30, rfl, H.aL, H.jU _ (List.mem_of_getElem? (i := 0) rfl) _ rfl, H.l 0 rfl⟩
theorem iG.lt {kd dp : Nat} {lk lv B : List UInt8} {sb : List (List UInt8)} (h : iG kd dp lk lv B sb) : ∀ d ∈ bitsOf B 256, d < dp := by
 intro d hd
 have hl := h.last
 have hp := u2 B 256
 by_cases h0 : dp = 0
 ·
  rw [if_pos h0] at hl
  rw [List.getLast?_eq_none_iff.1 hl] at hd
  cases hd
 ·
  rw [if_neg h0] at hl
  obtain ⟨ys, hy⟩ := List.getLast?_eq_some_iff.1 hl
  rw [hy] at hd hp
  rcases List.mem_append.1 hd with hd | hd
  ·
   have := (List.pairwise_append.1 hp).2.2 d hd (dp - 1) (by simp)
   omega
  ·
   have := List.mem_singleton.1 hd
   omega
theorem xD : ∀ (ds : List Nat) (sb out : List (List UInt8)) (d : Nat) (s : List UInt8), ds.length = sb.length → mB out (ds ++ [d]) (sb ++ [s]) = (mB out ds sb).set d s
 | [], [], out, d, s, _ => rfl
 | [], _ :: _, _, _, _, h => by cases h
 | _ :: _, [], _, _, _, h => by cases h
 | x :: ds, y :: sb, out, d, s, h => by
  show mB (out.set x y) (ds ++ [d]) (sb ++ [s]) = (mB (out.set x y) ds sb).set d s
  exact xD ds sb _ d s (by simpa using h)
theorem tO : ∀ (ds : List Nat) (sb out : List (List UInt8)) (x : List UInt8), x ∈ mB out ds sb → x ∈ out ∨ x ∈ sb
 | [], sb, out, x, h => .inl (by cases sb <;> exact h)
 | d :: ds, [], out, x, h => .inl h
 | d :: ds, s :: sb, out, x, h => by
  rcases tO ds sb (out.set d s) x h with h | h
  ·
   rcases List.mem_or_eq_of_mem_set h with h | h
   ·
    exact .inl h
   ·
    exact .inr (by rw [h]; simp)
  ·
   exact .inr (List.mem_cons_of_mem _ h)
def fI (bits : Int) (dp : Nat) (B : List UInt8) (sb : List (List UInt8)) : List (List UInt8) := mB (List.replicate dp (lN bits)) (bitsOf B 256) sb
theorem sK (bits : Int) (dp : Nat) (B : List UInt8) (sb : List (List UInt8)) : (fI bits dp B sb).length = dp := by unfold fI; rw [tP, List.length_replicate]
theorem xH {bits : Int} {dp : Nat} {B : List UInt8} {sb : List (List UInt8)} (h : ∀ s ∈ sb, s.length = 32) : ∀ s ∈ fI bits dp B sb, s.length = 32 := fun s hs => by
 rcases tO _ _ _ _ hs with hs | hs
 ·
  rw [(List.mem_replicate.1 hs).2]; exact cY _ _
 ·
  exact h s hs
def xG (bits : Int) (dp : Nat) (B : List UInt8) (sb : List (List UInt8)) (i : Nat) : List (List UInt8) := mB (List.replicate dp (lN bits)) ((bitsOf B 256).take i) (sb.take i)
theorem EP (bits : Int) (dp : Nat) (B : List UInt8) (sb : List (List UInt8)) (i : Nat) : (xG bits dp B sb i).length = dp := by unfold xG; rw [tP, List.length_replicate]
theorem RQ {bits : Int} {dp : Nat} {B : List UInt8} {sb : List (List UInt8)} (h : ∀ s ∈ sb, s.length = 32) (i : Nat) : ∀ s ∈ xG bits dp B sb i, (kc s).length = 32 := fun s hs => by
 rw [aO]
 rcases tO _ _ _ _ hs with hs | hs
 ·
  rw [(List.mem_replicate.1 hs).2]; exact cY _ _
 ·
  exact h s (List.mem_of_mem_take hs)
theorem MH {bits : Int} {dp : Nat} {B : List UInt8} {sb : List (List UInt8)} {i : Nat} (h1 : i < (bitsOf B 256).length) (h2 : i < sb.length) : (xG bits dp B sb i).set (bitsOf B 256)[i] sb[i] = xG bits dp B sb (i + 1) := by
 unfold xG
 rw [List.take_succ_eq_append_getElem h1, List.take_succ_eq_append_getElem h2, xD _ _ _ _ _ (by rw [List.length_take, List.length_take]; omega)]
theorem RR {bits : Int} {dp : Nat} {B : List UInt8} {sb : List (List UInt8)} (h : sb.length = (bitsOf B 256).length) : xG bits dp B sb (bitsOf B 256).length = fI bits dp B sb := by
 unfold xG fI
 rw [List.take_length, ← h, List.take_length]
theorem aA2 {v : Value} {l : List Nat} {w : World} (h : jW v (l.map wO) w) (i : Nat) (hi : i < l.length) : cX w (jF v (i * 1)) [.int .i64 (l[i] : Int)] := by
 have h2 := jW.rd h i (by rw [List.length_map]; exact hi)
 rw [List.getElem_map] at h2
 exact h2
def dX (kd : Nat) (lk lv : List UInt8) : List UInt8 := if kd = 1 then 0 :: (lk ++ lv) else [3]
theorem TM {X : Nat → Prop} {w : World} {bh bc : Nat} {bits n0 : Int} {kd dp : Nat} {lk lv B : List UInt8} {sl : Value} {sb : List (List UInt8)} (hX : cU X w) (eT : aM w bc 213 ([.int .i64 n0])) (bT : aH (fun c_ => X c_ ∨ c_ = bc) (fF bh bc bits) w) (dA : aH (fun c_ => X c_ ∨ c_ = bc) (eQ sl sb) w) (fN : aH (fun c_ => X c_ ∨ c_ = bc) (aX) w) (bR : 0 ≤ bits ∧ bits ≤ 256) (hp : iG kd dp lk lv B sb) :
  bF prog 207 [.pointer (some ⟨bh, 0, none⟩), .agg (fG kd dp lk lv B sl).toArray].toArray w fun v w' => ∃ (m : Int) (s : Value), v = .tuple [s, .int .i64 0].toArray ∧ Out (· = bc) w w' ∧ aM w' bc 213 [.int .i64 m] ∧ aH (fun c => X c ∨ c = bc) (eQ s (fI bits dp B sb)) w' := by
 refine bF.aI (N := 40) func207 rfl rfl (by simp) ?_
 have H := (((St.c7 (b := bc) (t := 213) (l := [.int .i64 n0]) hX eT).add (bX fN)).add (bX dA)).add (bX bT)
 have vD := hp.kd
 have yT := hp.MJ
 have lX := hp.tJ
 have hlv := hp.lvl
 have o5 := hp.bl
 have oY := hp.NL
 have L9 := hp.fU
 have vB : (fG kd dp lk lv B sl).length = 99 := gB hp.tJ hp.lvl hp.bl
 have hs1 : sl.oneCell' = true := cR.fH (dA.here)
 refine WE.aA ?_
 refine WL.box (l := fG kd dp lk lv B sl) H rfl (by rfl) rfl ?_
 intro b3 w1 H
 refine WL.as rfl rfl (WL.as rfl rfl (WL.nil (WE.seq (WE.aA ?_))))
 refine WL.bC rfl mN rfl rfl (by exact aM.aF (H.l 0 rfl) (aJ.all _) (by rfl)) (cH kQ (by simp only [aR, aU, aB, aD]; omega)) ?_
 refine WL.call WV rfl (sP (kd := kd) (dp := dp) (lk := lk) (lv := lv) (B := B) (sl := sl) (sb := sb) H.aS (by exact (H.bK 1 rfl : aH _ (eQ sl sb) _)) hp) ?_
 rintro _ w2 ⟨rfl, hO⟩
 replace H := H.out hO
 refine WL.as rfl rfl (WL.nil (WE.aA (WL.mv rfl rfl (WL.pv (PV.neq rfl rfl rfl) rfl (WL.nil ?_)))))
 refine WE.bB rfl rfl ?_
 refine WE.skip ?_
 refine WE.bG (.take 0 (.take 3 (.take 4 (.aG 1 (.aG 2 (.aG 5 (.take 6 .done))))))) mixed (by kernel_rfl) ?_
 replace H := H.out (Out.drew _)
 refine WP.mv rfl rfl rfl (WP.aC rfl rfl (PV.fieldAddr rfl q8 rfl) ?_)
 refine WP.aQ rfl rfl (RV.aZ rfl oZ rfl) (by exact aM.aF (H.l 0 rfl) (aJ.r (aJ.l (aJ.all _)) (by with_reducible rfl)) (by rfl)) ?_
 refine WP.aG rfl ?_
 refine WL.call RI rfl (uV (bits := bits) H.aS (H.o 0 rfl) (by exact (H.aK 0 rfl 0 rfl : aH _ (fF bh bc bits) _)) (by exact (H.aK 0 rfl 2 rfl : aH _ (aX) _)) bR) ?_
 rintro _ w3 ⟨aDq, rfl, hO, hB⟩
 replace H := H.eU 0 rfl hO hB
 refine WL.nil ⟨(fa (fun _ _ => (by exact aM.aF (H.l 0 rfl) (aJ.r (aJ.l (aJ.all _)) (by with_reducible rfl)) (by rfl))) c5), ?_⟩
 refine WP.aG rfl ?_
 refine WL.bL (l0 := (kc (List.replicate 32 0))) H rfl C3 (by decide) (by rfl) (Fl.cons rfl (by rfl) (by rfl) (Laid.all (by rfl)) Fl.nil) rfl ?_
 intro b17 w4 H
 replace H := H.freeze (i := 0) rfl
 replace H := H.add (show aH _ (eQ (.slice (some ⟨b17, 0, none⟩) 1 1) [lN bits]) _ from (H.bK 0 rfl).imp fun _ h => (cR.bZ (n := 1) h (by rw [aO]; exact cY _ _) : cR _ (.slice (some ⟨b17, 0, none⟩) 1 1) 32 1 _))
 refine WL.nil ⟨(fa (fun _ _ => (by exact aM.aF (H.l 0 rfl) (aJ.r (aJ.l (aJ.all _)) (by with_reducible rfl)) (by rfl))) c5), ?_⟩
 refine WP.aG rfl ?_
 refine WL.call aE2 rfl (TA (s := (.slice (some ⟨b17, 0, none⟩) 1 1)) (e := lN bits) (n := dp) H.aS (by exact (H.bK 0 rfl : aH _ (eQ (.slice (some ⟨b17, 0, none⟩) 1 1) [lN bits]) _)) (cY _ _) hp.MJ) ?_
 rintro _ w5 ⟨XH, rfl, hO, hge, hB⟩
 replace H := H.push hO (aN.blk XH 30 _) hB (fun c hc => by cases hc; exact hge)
 refine WL.nil ⟨(fa (nw 5 4) c5), ?_⟩
 refine WP.as rfl rfl rfl (WP.done (WE.seq (WE.aA (WL.pv (PV.fieldAddr rfl pN rfl) rfl ?_))))
 refine WL.bC rfl CF rfl rfl (by exact aM.aF (H.l 1 rfl) (aJ.r (aJ.r (aJ.r (aJ.l (aJ.all _)) (by with_reducible rfl)) (by with_reducible rfl)) (by with_reducible rfl)) (by simp [aO, bA, *])) (cH uW (by simp only [aR, aU, aB, aD]; omega)) ?_
 refine WL.call aE1 rfl (YG (B := B) H.aS hp.bl) ?_
 rintro v23 w6 ⟨hO, hR⟩
 replace H := (H.out hO).add hR
 refine WL.pv (PV.dO (by exact (H.p 0 rfl : (jW v23 ((bitsOf B 256).map wO)) _)) C4 rfl) rfl ?_
 refine WL.mv rfl rfl (WL.nil (WE.block ?_))
 refine WE.loop (α := Nat) [8, 9, 25, 26, 27, 28, 29, 30, 31, 32, 33, 34, 35, 36, 37, 38] (fun i => [(25, .int .i64 (i : Int))]) (fun i wl => i ≤ (bitsOf B 256).length ∧ St X w wl [aN.blk bc 213 [.int .i64 aDq]] [aN.blk XH 30 ((xG bits dp B sb (i)).flatMap kc), aN.blk b3 35 (fG kd dp lk lv B sl)] [jW v23 ((bitsOf B 256).map wO), eQ sl sb]) (fun i => (bitsOf B 256).length - i) 0 ⟨rfl, trivial⟩ ⟨Nat.zero_le _, (show St X w _ [aN.blk bc 213 [.int .i64 aDq]] [aN.blk XH 30 ((xG bits dp B sb (0)).flatMap kc), aN.blk b3 35 (fG kd dp lk lv B sl)] [jW v23 ((bitsOf B 256).map wO), eQ sl sb] from by exact H.sS [0, 4])⟩ ?_
 intro i γ0 w7 hI
 try dsimp only at hI
 obtain ⟨hi, H⟩ := hI
 refine WE.aA (WL.pv (PV.lss rfl rfl rfl) rfl (WL.nil (WE.seq ?_)))
 refine WE.cond rfl (fun QY => ?_) (fun QY => ?_)
 ·
  try simp only [bU] at QY
  have hlt : i < (bitsOf B 256).length := by (rw [List.length_map] at QY; omega)
  have BP : i < sb.length := by omega
  have hsi := hp.sl _ (List.getElem_mem BP)
  have QO := hp.lt _ (List.getElem_mem hlt)
  have hel := EP bits dp B sb i
  refine WE.skip (WE.seq (WE.block (WE.aA (WL.mv rfl rfl ?_))))
  refine WL.pv (PV.eO rfl (by exact (H.p 0 rfl : (jW v23 ((bitsOf B 256).map wO)) _)) C4 sz3 rfl rfl (by omega) (by rw [List.length_map]; omega)) rfl ?_
  refine WL.aY rfl oZ rfl rfl ((aA2 (by exact (H.p 0 rfl : (jW v23 ((bitsOf B 256).map wO)) _)) i hlt)) ?_
  refine WL.as rfl rfl (WL.as rfl rfl (WL.nil (WE.eH (WL.mv rfl rfl (WL.mv rfl rfl (WL.pv (PV.fieldAddr rfl mI rfl) rfl ?_))))))
  refine WL.aY rfl uD rfl rfl (by exact aM.aF (H.l 1 rfl) (aJ.r (aJ.r (aJ.r (aJ.r (aJ.all _) (by with_reducible rfl)) (by with_reducible rfl)) (by with_reducible rfl)) (by with_reducible rfl)) (by simp [aO, bA, *])) ?_
  refine WL.mv rfl rfl ?_
  refine WL.pv (PV.eO rfl (by exact (H.p 1 rfl : (eQ sl sb) _)) nW dJ rfl rfl (by omega) (by omega)) rfl ?_
  refine WL.bC rfl gT rfl rfl ((eQ.rd (by exact (H.p 1 rfl : (eQ sl sb) _)) hp.sl i BP)) (cH dJ (by simp only [aR, aU, aB, aD]; omega)) ?_
  refine WL.pv (PV.eq (v' := .pointer (some ⟨XH, (bitsOf B 256)[i] * 32, none⟩)) (PV.vA rfl nW dJ rfl rfl (by omega) (by omega)) (by simp)) rfl ?_
  refine WL.aT H 0 rfl rfl rfl (new := kc sb[i]) rfl (cH dJ (by simp only [aR, aU, aB, aD]; omega)) (by exact bJ _) (by have h_ := pM (C := kc) (xG bits dp B sb i) (RQ hp.sl i) [] (i := (bitsOf B 256)[i]) (x := sb[i]) (by rw [EP]; exact QO) (by rw [aO]; exact hsi) rfl; rw [List.append_nil, List.append_nil] at h_; exact h_) rfl ?_
  intro w8 H
  refine WL.nil (WE.eH ?_)
  refine WL.pv (PV.eq (v' := .int .i64 ((i + 1 : Nat) : Int)) (PV.bY rfl rfl rfl (by omega) (by omega)) (by rfl)) rfl ?_
  refine WL.mv rfl rfl (WL.nil ?_)
  exact ⟨i + 1, (by repeat (first | with_reducible exact bQ.refl _ _ | refine bQ.dG rfl ?_ | refine bQ.cC rfl ?_ | refine bQ.cB rfl ?_)), ⟨rfl, trivial⟩, rfl, ⟨by omega, H.conv (by rw [← MH hlt BP]; rfl)⟩, (by omega)⟩
 ·
  try simp only [bU] at QY
  have uN : i = (bitsOf B 256).length := by (rw [List.length_map] at QY; omega)
  refine WE.exit (WE.aA (WL.mv rfl rfl (WL.as rfl rfl (WL.as rfl rfl (WL.nil (WE.ret ⟨[_, _], _, .nil _, ⟨rfl, rfl, trivial⟩, ?_⟩))))))
  subst uN
  rw [RR hp.fU] at H
  replace H := H.freeze (i := 0) rfl
  refine ⟨_, _, rfl, H.cL, H.o 0 rfl, (H.fL (H.bK 0 rfl)).imp fun _ h => ?_⟩
  have h_ := cR.bZ (n := dp) h (by rw [c6 _ (fun k hk => by rw [aO]; exact xH hp.sl k hk), sK])
  unfold eQ; rw [sK]; exact h_
theorem MD {X : Nat → Prop} {w : World} {kd dp : Nat} {lk lv B : List UInt8} {sl : Value} (hX : cU X w) (lX : lk.length = 32) (hlv : lv.length = 32) (o5 : B.length = 32) (hs1 : sl.oneCell' = true) :
  bF prog 214 [.agg (fG kd dp lk lv B sl).toArray].toArray w fun v w' => Out Nil w w' ∧ aH X (bI v (dX kd lk lv)) w' := by
 refine bF.aI (N := 10) func214 rfl rfl (by simp) ?_
 have H := St.begin hX
 have vB : (fG kd dp lk lv B sl).length = 99 := gB lX hlv o5
 refine WE.aA ?_
 refine WL.box (l := fG kd dp lk lv B sl) H rfl rfl rfl ?_
 intro b1 w1 H
 refine WL.as rfl rfl (WL.nil (WE.seq (WE.aA (WL.pv (PV.fieldAddr rfl mJ rfl) rfl (WL.aY rfl oZ rfl rfl (aM.aF (H.l 0 rfl) (aJ.l (aJ.all _)) rfl) (WL.pv (PV.eql rfl rfl rfl) rfl (WL.nil ?_)))))))
 refine WE.cond rfl (fun tM => ?_) (fun tM => ?_)
 ·
  try simp only [bU] at tM
  have vE : kd = 1 := by omega
  have he : dX kd lk lv = 0 :: (lk ++ lv) := if_pos vE
  refine WE.aA (WL.pv (PV.fieldAddr rfl oH rfl) rfl ?_)
  refine WL.bC rfl HR rfl rfl (aM.aF (H.l 0 rfl) (aJ.r (aJ.r (aJ.l (aJ.all _)) rfl) rfl) rfl) (cH AX (by simp only [aR, aU, aB, aD]; omega)) ?_
  refine WL.call Z1 rfl (TE (k := lk) (l := lv) H.aS lX hlv) ?_
  rintro v8 w2 ⟨hO, hR⟩
  replace H := (H.out hO).add hR
  refine WL.as rfl rfl (WL.nil (WE.ret ⟨[_], _, .nil _, ⟨rfl, trivial⟩, ?_⟩))
  exact ⟨H.aL, by rw [he]; exact H.gQ (H.bK 0 rfl)⟩
 ·
  try simp only [bU] at tM
  have NJ : ¬ kd = 1 := by omega
  have he : dX kd lk lv = [3] := if_neg NJ
  refine WE.skip (WE.aA ?_)
  refine WL.call aEL rfl (KP H.aS) ?_
  rintro v9 w3 ⟨hO, hR⟩
  replace H := (H.out hO).add hR
  refine WL.as rfl rfl (WL.nil (WE.ret ⟨[_], _, .nil _, ⟨rfl, trivial⟩, ?_⟩))
  exact ⟨H.aL, by rw [he]; exact H.gQ (H.bK 0 rfl)⟩
def aAQ (C : Nat → Prop) (w : World) (l : Nat) (W : World) (S : World → Prop) : EPost
 | .normal, _, _, W' => aAv C w l W W' ∧ S W'
 | _, _, _, _ => False
theorem WE.aAU {P : Program} {N : Nat} {σ : Env} {ds : List Deferred} {w : World} {g : Operand} {ps : List Tmp} {assign body : Code} {Q : EPost}
  {gf : FuncId} {gfn : Func} {fs cs : List Value} {n : Nat} {V : Nat → List Value → World → Prop} {C : Nat → Prop} (S : Nat → World → Prop)
  (hg : ev σ g = .func (.func gf) fs.toArray cs.toArray) (hb : Body P gf gfn) (hC : ∀ b, C b → b < w.heap.size)
  (P6 : ∀ W0, Out Nil w W0 → aGw P gf fs cs n V (fun b => C b ∨ (w.heap.size ≤ b ∧ b < W0.heap.size)) W0) (hV : ∀ i xs W, V i xs W → xs.length = ps.length)
  (start : ∀ W1, Out Nil w W1 → w.heap.size + 2 ≤ W1.heap.size → W1.heap[w.heap.size]? = some (.deferred (some [])) → S 0 W1)
  (calm : ∀ i W W', S i W → Out (· = w.heap.size + 1) W W' → S i W')
  (round : ∀ (i : Nat) (xs : List Value) (W : World), i < n → S i W → V i xs W → w.heap.size + 2 ≤ W.heap.size →
   WE (some (w.heap.size + 1)) P N assign (fun e σ1 ds1 W' => e = .normal ∧ ds1 = [] ∧ Out Nil W W' ∧ ∀ Wb, Out (· = w.heap.size + 1) W' Wb → WE (some (w.heap.size + 1)) P N body (aAQ C w (w.heap.size + 1) Wb (S (i + 1))) σ1 [] Wb) (s8 N σ ps xs) [] W)
  (done : ∀ W', S n W' → Q .normal σ ({ target := .collected w.heap.size, args := #[] } :: ds) W') :
  WE none P N (.rangeFunc g ps.toArray assign body) Q σ ds w := fun a ha => by
 refine wpIn_rangeFunc ?_
 intro fn _
 obtain ⟨rec, jS⟩ : ∃ rec : LoopState → Option Code → Loop, rec = fun st pe => { state := st, pending := pe, fn, tmps := a.tmps, params := ps.toArray, assign, body, defers := w.heap.size } := ⟨_, rfl⟩
 obtain ⟨W1, EC⟩ : ∃ W1, (w.alloc (.deferred (some []))).alloc (.loop (rec .ready none)) = W1 := ⟨_, rfl⟩
 have CO : Out Nil w W1 := by rw [← EC]; exact (Out.alloc _ _).trans (Out.alloc _ _)
 have hsz : W1.heap.size = w.heap.size + 2 := by rw [← EC]; simp
 have hL1 : W1.heap[w.heap.size + 1]? = some (.loop (rec .ready none)) := by
  rw [← EC]; have := World.alloc_heap_new (w.alloc (.deferred (some []))) (.loop (rec .ready none)); rwa [World.size_alloc] at this
 have hK1 : W1.heap[w.heap.size]? = some (.deferred (some [])) := by
  rw [← EC]; exact (Below.heap_alloc _ _ _ (by simp)).trans (World.alloc_heap_new w _)
 refine ⟨w.heap.size + 1, [{ target := .collected w.heap.size, args := #[] }], W1, { target := .fn (.func gf) cs.toArray, args := (fs ++ [Value.func (.yield (w.heap.size + 1)) #[] #[]]).toArray }, W1, gf,
  (fs ++ [Value.func (.yield (w.heap.size + 1)) #[] #[]] ++ cs).toArray, W1, ?_, ?_, ?_, ?_, (fun h => (by cases h)), ?_⟩
 ·
  rw [← EC, jS]; exact run_enterLoop_outer _ _ _ _ _
 ·
  have e : a.eval g = .func (.func gf) fs.toArray cs.toArray := by rw [ha.eval]; exact hg
  simp only [resolve, e]
  simp [Deferred.ofValue]
  rfl
 ·
  intro _ _; trivial
 ·
  have := fJ hb (fs ++ [Value.func (.yield (w.heap.size + 1)) #[] #[]] ++ cs).toArray W1
  simp only [invoke, List.append_toArray]
  exact this
 obtain ⟨B, hB⟩ : ∃ B : World → Prop, B = fun W => W.os = w.os ∧ W.tape = w.tape ∧ W.output = w.output ∧ w.heap.size + 2 ≤ W.heap.size ∧ ∀ b, b < w.heap.size → ¬ C b → W.heap[b]? = w.heap[b]? := ⟨_, rfl⟩
 have hBo : ∀ M W W', B W → Out M W W' → (∀ b, b < w.heap.size → ¬ M b) → B W' := fun M W W' h ho hM => by
  rw [hB] at h ⊢
  obtain ⟨h1, h2, h3, h4, h5⟩ := h
  exact ⟨ho.os.trans h1, ho.tape.trans h2, ho.output.trans h3, Nat.le_trans h4 ho.size, fun b hb hc => (ho.block b (by omega) (hM b hb)).trans (h5 b hb hc)⟩
 have xB : B W1 := by rw [hB]; exact ⟨CO.os, CO.tape, CO.output, by omega, fun b hb _ => CO.block b hb id⟩
 have wX := P6 W1 CO (.func (.yield (w.heap.size + 1)) #[] #[]) (fun i W => S i W ∧ W.heap[w.heap.size + 1]? = some (.loop (rec .ready none)) ∧ B W)
  (fun _ => False)
  ⟨start W1 CO (by omega) hK1, hL1, xB⟩
  (by
   rintro i W W' ⟨h1, h2, h3⟩ ho
   have h4 : w.heap.size + 2 ≤ W.heap.size := by rw [hB] at h3; exact h3.2.2.2.1
   exact ⟨calm i W W' h1 (ho.mono fun _ _ h => h.elim), (ho.block _ (by omega) id).trans h2, hBo _ W W' h3 ho (fun _ _ h => h)⟩)
  (fun _ _ h _ => h)
  (by
   rintro i xs W W2 hi ⟨hS0, hl0, hB0⟩ hout GQ
   have h40 : w.heap.size + 2 ≤ W.heap.size := by rw [hB] at hB0; exact hB0.2.2.2.1
   have hS2 := calm i W W2 hS0 (hout.mono fun _ _ h => h.elim)
   have hl : W2.heap[w.heap.size + 1]? = some (.loop (rec .ready none)) := (hout.block _ (by omega) id).trans hl0
   have rK := hBo _ W W2 hB0 hout (fun _ _ h => h)
   have h42 : w.heap.size + 2 ≤ W2.heap.size := by rw [hB] at rK; exact rK.2.2.2.1
   have hv : V i xs W2 := GQ.here
   have hlt := (Array.getElem?_eq_some_iff.1 hl).1
   refine .inr ⟨w.heap.size + 1, fn, (ps.toArray.zip xs.toArray).foldl (fun tmps (p : Tmp × Value) => tmps.setIfInBounds p.1 p.2) a.tmps, assign, body, rfl, ?_, ?_⟩
   ·
    have := run_yield (P := P) (args := xs.toArray) hl (by rw [jS]; simpa using hV i xs W2 hv)
    rw [this, jS]
   ·
    refine roundIn_of_wpIn trivial ?_
    have ez : ((ps.toArray.zip xs.toArray).foldl (fun tmps (p : Tmp × Value) => tmps.setIfInBounds p.1 p.2) a.tmps) = ((ps.zip xs).foldl (fun tmps (p : Tmp × Value) => tmps.setIfInBounds p.1 p.2) a.tmps) := by
     rw [← Array.foldl_toList]; simp
    show Code.wpIn _ _ _ _ _ { tmps := ((ps.toArray.zip xs.toArray).foldl (fun tmps (p : Tmp × Value) => tmps.setIfInBounds p.1 p.2) a.tmps), defers := [] } _
    rw [ez]
    have aHq := round i xs W2 hi hS2 hv h42
    have hh := aHq _ (lV.s8 ps xs σ [] { tmps := a.tmps, defers := [] } ⟨ha.size, ha.env, rfl⟩)
    refine wpIn_mono (F := FW (some (w.heap.size + 1))) hh ?_
    rintro e a1 W3 ⟨hs1, rfl, CN, hO3, EB⟩
    have hl3 : W3.heap[w.heap.size + 1]? = some (.loop (rec .ready none)) := (hO3.block _ (by omega) id).trans hl
    have hlt3 := (Array.getElem?_eq_some_iff.1 hl3).1
    have hB3 := hBo _ W2 W3 rK hO3 (fun _ _ h => h)
    obtain ⟨Wb, sV⟩ : ∃ Wb, W3.putObj (w.heap.size + 1) (.loop { rec .ready none with state := .busy }) = Wb := ⟨_, rfl⟩
    have LY : Out (· = w.heap.size + 1) W3 Wb := by rw [← sV]; exact fE _
    have D5 : Wb.heap[w.heap.size + 1]? = some (.loop { rec .ready none with state := .busy }) := by rw [← sV]; exact World.putObj_heap_same hlt3
    have hBb := hBo _ W3 Wb hB3 LY (fun b hb h => by omega)
    refine ⟨_, run_beginRound hl3 (by rw [jS]), ?_⟩
    rw [sV]
    have hbd := EB Wb LY a1 ⟨hs1, rfl, CN⟩
    refine wpIn_mono (F := FW (some (w.heap.size + 1))) hbd ?_
    rintro e a4 W4 ⟨hs4, hq⟩
    cases e with
    | normal =>
     obtain ⟨hk, hS4⟩ := hq
     have T3 : W4.heap[w.heap.size + 1]? = some (.loop { rec .ready none with state := .busy }) := hk.loop.trans D5
     have L2 := (Array.getElem?_eq_some_iff.1 T3).1
     have ho5 : Out (· = w.heap.size + 1) W4 (W4.putObj (w.heap.size + 1) (.loop (rec .ready none))) := fE _
     have hB4 : B W4 := by
      rw [hB] at hBb ⊢
      obtain ⟨h1, h2, h3, h4, h5⟩ := hBb
      exact ⟨hk.os.trans h1, hk.tape.trans h2, hk.output.trans h3, hk.size, fun b hb hc => (hk.old b hb hc).trans (h5 b hb hc)⟩
     have hB5 := hBo _ W4 _ hB4 ho5 (fun b hb h => by omega)
     refine ⟨_, W4.putObj (w.heap.size + 1) (.loop (rec .ready none)), ?_, _, rfl, ?_, .inl ⟨rfl, calm _ _ _ hS4 ho5, World.putObj_heap_same L2, hB5⟩⟩
     ·
      have := run_endRound (P := P) none T3
      rw [jS] at this ⊢
      exact this
     ·
      rw [hB] at hB5
      obtain ⟨h1, h2, h3, h4, h5⟩ := hB5
      refine ⟨h1.trans CO.os.symm, h2.trans CO.tape.symm, h3.trans CO.output.symm, by omega, fun b hb => hb.elim, fun b hb hc _ => ?_⟩
      rcases Nat.lt_or_ge b w.heap.size with D4 | hge
      ·
       exact (h5 b D4 fun h => hc (.inl h)).trans (CO.block b D4 id).symm
      ·
       exact absurd (show C b ∨ (w.heap.size ≤ b ∧ b < W1.heap.size) from .inr ⟨hge, hb⟩) hc
    | ret => exact hq.elim
    | exit id => exact hq.elim
    | goto t => exact hq.elim
    | panic c => exact hq.elim
    | outgrown => exact hq.elim)
  (.inr ⟨_, _, _, rfl⟩)
 refine CallsIn.mono (F := FW none) (n := 0) wX ?_
 rintro e W2 ⟨v, rfl, _, ⟨hS, hl, _⟩ | h⟩
 ·
  refine ⟨none, _, by have := run_endLoop (P := P) hl (by rw [jS]; simp); rw [jS] at this; exact this, ?_⟩
  have hd := done _ (calm _ _ _ hS (fE (W := W2) (l := w.heap.size + 1) (.loop { rec .ready none with state := .exhausted })))
  refine ⟨ha.size, ?_⟩
  rw [jS] at hd
  have e1 : fT { a with defers := [{ target := .collected w.heap.size, args := #[] }] ++ a.defers } = σ := ha.env
  show Q .normal (fT _) _ _
  rw [e1]
  simp only [ha.defers, List.singleton_append]
  exact hd
 ·
  exact h.elim
def aGc (ds : List (List UInt8)) (j : Nat) (xs : List Value) (_ : World) : Prop := ∃ h : ds.length - 1 - j < ds.length, xs = [.int .i64 ((ds.length - 1 - j : Nat) : Int), .agg (kc ds[ds.length - 1 - j]).toArray]
theorem FN {X : Nat → Prop} {w : World} {s : Value} {ds : List (List UInt8)} (hX : cU X w) (bT : aH X (eQ s ds) w) :
  bF prog 215 [s].toArray w fun r w' => ∃ b1, r = .func (.func 220) [].toArray [.pointer (some ⟨b1, 0, none⟩)].toArray ∧ Out Nil w w' ∧ aH X (fun w => cX w ⟨b1, 0, none⟩ [s]) w' := by
 refine bF.aI (N := 4) func215 rfl rfl (by simp) ?_
 have H := (St.begin hX).add (cE bT)
 refine WE.aA ?_
 refine WL.box (l := [s]) H rfl (cR.cells (H.p 0 rfl)) rfl ?_
 intro b1 w1 H
 refine WL.as rfl rfl (WL.nil (WE.aA (WL.pv (PV.makeFunc rfl) rfl (WL.as rfl rfl (WL.nil (WE.ret ⟨[_], _, .nil _, ⟨rfl, trivial⟩, ?_⟩))))))
 replace H := H.freeze (i := 0) rfl
 exact ⟨_, rfl, H.aL, H.gQ ((H.bK 0 rfl).imp fun _ h => h.rd)⟩
theorem MU {C : Nat → Prop} {w : World} {b1 : Nat} {s : Value} {ds : List (List UInt8)} (hC : ∀ b, C b → b < w.heap.size) (bT : aH C (fun w => cX w ⟨b1, 0, none⟩ [s]) w) (dA : aH C (eQ s ds) w) (tL : ∀ d ∈ ds, d.length = 32) (hlen : ds.length ≤ 1000000) : aGw prog 220 [] [.pointer (some ⟨b1, 0, none⟩)] (ds.length) (aGc ds) C w := by
 intro f J Jx hJ0 pL aBd mG hf
 show bF prog 220 ([f, .pointer (some ⟨b1, 0, none⟩)] : List Value).toArray w _
 refine bF.aI (N := 19) func220 rfl rfl (by simp) ?_
 have H := ((St.begin (X := C) hC).add (cE dA)).add (cE bT)
 refine WE.aA (WL.aY rfl uD rfl rfl (H.p 0 rfl) (WL.pv (PV.dO (H.p 1 rfl : eQ s ds _) nW rfl) rfl ?_))
 refine WL.pv (PV.eq (v' := .int .i64 (((ds.length - 0 : Nat) : Int) - 1)) (PV.iS rfl rfl rfl (by omega) (by omega)) rfl) rfl ?_
 refine WL.as rfl rfl (WL.nil (WE.block ?_))
 refine WE.loop (α := Nat) (rg [(3, 1), (7, 12)]) (fun j => [(3, .int .i64 (((ds.length - j : Nat) : Int) - 1))]) (fun j wl => j ≤ ds.length ∧ J j wl ∧ St C wl wl [] [] [fun w => cX w ⟨b1, 0, none⟩ [s], eQ s ds]) (fun j => ds.length - j) 0 ⟨rfl, trivial⟩ ⟨Nat.zero_le _, hJ0, H⟩ ?_
 intro j γ0 w1 hI
 try dsimp only at hI
 obtain ⟨hj, hJ, H⟩ := hI
 have BO : ∃ FY, FY = w1 := ⟨_, rfl⟩
 obtain ⟨FY, BO⟩ := BO
 rw [← BO] at hJ H ⊢
 clear BO
 refine WE.seq (WE.aA (WL.mv rfl rfl (WL.pv (PV.geq rfl rfl rfl) rfl (WL.nil ?_))))
 refine WE.cond rfl (fun mP => ?_) (fun mP => ?_)
 ·
  try simp only [bU] at mP
  have hlt : j < ds.length := by omega
  have hkj := tL _ (List.getElem_mem (show ds.length - 1 - j < ds.length by omega))
  have QN : ((ds.length - j : Nat) : Int) - 1 = ((ds.length - 1 - j : Nat) : Int) := by omega
  rw [QN]
  refine WE.skip (WE.seq (WE.block (WE.aA (WL.mv rfl rfl (WL.mv rfl rfl (WL.aY rfl uD rfl rfl (H.p 0 rfl) (WL.mv rfl rfl ?_)))))))
  refine WL.pv (PV.eO rfl (H.p 1 rfl : eQ s ds _) nW dJ rfl rfl (by omega) (by omega)) rfl ?_
  refine WL.bC rfl gT rfl rfl (eQ.rd (H.p 1 rfl) tL (ds.length - 1 - j) (by omega)) (cH dJ (by simp only [aR, aU, aB, aD]; omega)) ?_
  refine WL.iK rfl rfl (mG j _ FY _ (by omega) hJ H.aL (aH.pure ⟨by omega, rfl⟩)) ?_
  rintro _ w2 ⟨hk, ⟨rfl, hJ⟩ | ⟨rfl, hJ⟩⟩
  ·
   replace H := St.HQ (Ps := [fun w => cX w ⟨b1, 0, none⟩ [s], eQ s ds]) hC hk (fun _ h => h.elim) (by intro p hp; simp at hp; rcases hp with rfl | rfl <;> assumption)
   refine WL.pv (PV.not rfl rfl) rfl (WL.nil (WE.iJ rfl (WE.skip (WE.eH (WL.mv rfl rfl ?_)))))
   refine WL.pv (PV.eq (v' := .int .i64 (((ds.length - (j + 1) : Nat) : Int) - 1)) (PV.iS rfl rfl rfl (by omega) (by omega)) (by congr 1; omega)) rfl ?_
   refine WL.as rfl rfl (WL.nil ?_)
   exact ⟨j + 1, (by repeat (first | with_reducible exact bQ.refl _ _ | refine bQ.dG rfl ?_ | refine bQ.cC rfl ?_ | refine bQ.cB rfl ?_)), ⟨rfl, trivial⟩, rfl, ⟨by omega, hJ, H⟩, (by omega)⟩
  ·
   refine WL.pv (PV.not rfl rfl) rfl (WL.nil (WE.kG rfl (WE.ret ?_)))
   refine ⟨[], _, .nil _, trivial, ?_⟩
   exact ⟨rfl, .inr hJ⟩
 ·
  try simp only [bU] at mP
  have hj_ : j = ds.length := by omega
  refine WE.exit ?_
  refine ⟨[], _, .nil _, trivial, ?_⟩
  subst hj_
  exact ⟨rfl, .inl (pL _ _ _ hJ H.aL)⟩
def eP (bits : Int) (k : List UInt8) (ds : List (List UInt8)) (e : List UInt8) : Nat → List UInt8
 | 0 => e
 | j + 1 => rQ bits k (ds.length - 1 - j) (ds.getD (ds.length - 1 - j) []) (eP bits k ds e j)
theorem KA {bits : Int} {k : List UInt8} {ds : List (List UInt8)} {e : List UInt8} : ∀ j, j ≤ ds.length → upD bits k ds (ds.length - j) (eP bits k ds e j) = upD bits k ds ds.length e
 | 0, _ => rfl
 | j + 1, h => by
  rw [← KA j (by omega), show ds.length - j = (ds.length - 1 - j) + 1 by omega, show ds.length - (j + 1) = ds.length - 1 - j by omega]
  rfl
theorem SE {bits : Int} {k : List UInt8} {ds : List (List UInt8)} {e : List UInt8} : eP bits k ds e ds.length = upD bits k ds ds.length e := by
 have h := KA (bits := bits) (k := k) (e := e) ds.length (Nat.le_refl _)
 rw [Nat.sub_self] at h
 exact h
theorem K9 (bits : Int) (k : List UInt8) (d : Nat) (s b : List UInt8) : (rQ bits k d s b).length = 32 := by
 unfold rQ uM
 split <;> exact cY _ _
theorem nN {bits : Int} {k : List UInt8} {ds : List (List UInt8)} {e : List UInt8} (he : e.length = 32) : ∀ j, (eP bits k ds e j).length = 32
 | 0 => he
 | j + 1 => K9 _ _ _ _ _
def aGU (KB : Nat → List UInt8) (i : Nat) (xs : List Value) (_ : World) : Prop := ∃ s, xs = [s, .agg (kc (KB i)).toArray]
def NG (b : Nat) (x y : List UInt8) : List UInt8 := if b = 0 then y else x
def NF (b : Nat) (x y : List UInt8) : List UInt8 := if b = 0 then x else y
theorem U7 {b : Nat} {x y : List UInt8} (hx : x.length = 32) (hy : y.length = 32) : (NG b x y).length = 32 := by unfold NG; split <;> assumption
theorem U6 {b : Nat} {x y : List UInt8} (hx : x.length = 32) (hy : y.length = 32) : (NF b x y).length = 32 := by unfold NF; split <;> assumption
theorem U5 {b : Nat} {x y : List UInt8} (hb : b < 2) (hx : x.length = 32) (hy : y.length = 32) : Laid (kc x ++ kc x) (b * 32) (kc y) (kc (NG b x y) ++ kc (NF b x y)) := by
 unfold NG NF
 rcases Nat.lt_or_ge b 1 with h | h
 ·
  have h0 : b = 0 := by omega
  subst h0
  rw [if_pos rfl, if_pos rfl]
  exact Laid.left (Laid.all (by rw [aO, aO, hx, hy]))
 ·
  have h1 : b = 1 := by omega
  subst h1
  rw [if_neg (by decide), if_neg (by decide)]
  exact Laid.right (Laid.all (by rw [aO, aO, hx, hy])) (by rw [aO, hx])
theorem UR {bits : Int} {k : List UInt8} {d : Nat} {s b : List UInt8} : rQ bits k d s b = uM bits (NG (bH k d) s b) (NF (bH k d) s b) := by
 unfold rQ NG NF
 split <;> rfl
theorem M8.one {f : Value} (h : M8 f) : f.oneCell' = true := by
 rcases h with ⟨g, a, b, rfl⟩ | ⟨l, a, b, rfl⟩ <;> rfl
theorem tG : ∀ (es : List aN) (ns : List Nat), es.map aN.fp = ns.map (fun n => (· = n)) → ns.Nodup → es.Pairwise aN.qR
 | [], _, _, _ => .nil
 | e :: es, [], h, _ => by simp at h
 | e :: es, n :: ns, h, hn => by
  injection h with h1 h2
  have hn' := List.nodup_cons.1 hn
  refine List.pairwise_cons.2 ⟨fun e' he' x hx => ?_, tG es ns h2 hn'.2⟩
  have hx1 : x = n := by have h3 := hx.1; rw [h1] at h3; exact h3
  obtain ⟨n', T2, hn2⟩ : ∃ n', n' ∈ ns ∧ e'.fp = (· = n') := by
   have h4 : e'.fp ∈ es.map aN.fp := List.mem_map_of_mem he'
   rw [h2] at h4
   obtain ⟨n', h5, h6⟩ := List.mem_map.1 h4
   exact ⟨n', h5, h6.symm⟩
  have hx2 : x = n' := by have h3 := hx.2; rw [hn2] at h3; exact h3
  exact hn'.1 (by rw [← hx1, hx2]; exact T2)
theorem St.F6 {C C' : Nat → Prop} {w w1 W : World} {O1 L1 : List aN} {Ps : List (World → Prop)} (H1 : St C w w1 O1 L1 Ps) (ho : Ong C' w1 W) (hC' : ∀ b, C' b → YY C O1 L1 b) (O : List aN) (hO : ∀ e ∈ O, e.ok W) (hd : O.Pairwise aN.qR)
  (hY : ∀ e ∈ O, ∀ b, b < w1.heap.size → e.fp b → YY C O1 L1 b) : St C W W O [] Ps := by
 refine St.start (fun b hb => Nat.lt_of_lt_of_le (H1.y6 b hb) (Nat.le_trans H1.size ho.size)) hO hd fun p hp w'' hw => (H1.iH p hp) w'' fun b hb hn => ?_
 refine (hw b (Nat.lt_of_lt_of_le hb ho.size) fun h => ?_).trans (ho.old b hb fun hc => hn (hC' b hc))
 rcases h with h | ⟨e, he, h⟩ | ⟨_, h, _⟩
 ·
  exact hn (.inl h)
 ·
  exact hn (hY e he b hb h)
 ·
  cases h
def CW (C : Nat → Prop) (bc b6 b7 : Nat) : Nat → Prop := fun b => C b ∨ b = bc ∨ b = b6 ∨ b = b7
structure qP (C : Nat → Prop) (w w1 : World) (bc b6 b7 : Nat) (J : (Nat → Prop) → Nat → World → Prop) (KB : Nat → List UInt8) (T : Nat → Prop) (i : Nat) (W : World) : Prop where
 j : J T i W
 tb : ∀ b, b = bc ∨ (w.heap.size ≤ b ∧ b < w1.heap.size + 2) → T b
 tl : ∀ b, T b → b = bc ∨ w.heap.size ≤ b
 GF : Ong (CW C bc b6 b7) w1 W
 sz : w1.heap.size + 2 ≤ W.heap.size
 d : W.heap[w1.heap.size]? = some (.deferred (some []))
 c : ∃ m : Int, aM W bc 213 [.int .i64 m]
 s : ∃ s : Value, s.oneCell' = true ∧ aM W b6 41 [s]
 e : aM W b7 30 (kc (KB i))
section
variable {C : Nat → Prop} {w w1 W W' Wl : World} {bc b6 b7 : Nat} {J : (Nat → Prop) → Nat → World → Prop} {KB : Nat → List UInt8} {T T' : Nat → Prop} {i : Nat} {lc l7 l6 : List Value} {Ps : List (World → Prop)}
theorem qP.step (pL : ∀ T T' i W W', J T i W → Out T W W' → (∀ b, T b → T' b) → (∀ b, T' b → T b ∨ (W.heap.size ≤ b ∧ b < W'.heap.size)) → J T' i W') (h : qP C w w1 bc b6 b7 J KB T i W)
  (hl : bc < w1.heap.size ∧ b6 < w1.heap.size ∧ b7 < w1.heap.size) (h0 : w.heap.size ≤ w1.heap.size) (ho : Out (· = w1.heap.size + 1) W W') (h1 : ∀ b, T b → T' b) (h2 : ∀ b, T' b → T b ∨ (W.heap.size ≤ b ∧ b < W'.heap.size)) : qP C w w1 bc b6 b7 J KB T' i W' where
 j := pL T T' i W W' h.j (ho.mono fun b _ hb => h.tb b (.inr (by have hb' : b = w1.heap.size + 1 := hb; omega))) h1 h2
 tb := fun b hb => h1 b (h.tb b hb)
 tl := fun b hb => by
  rcases h2 b hb with h3 | h3
  ·
   exact h.tl b h3
  ·
   have := h.sz; exact .inr (by omega)
 GF := ⟨ho.os.trans h.GF.os, ho.tape.trans h.GF.tape, ho.output.trans h.GF.output, Nat.le_trans h.GF.size ho.size, fun b hb hc => (ho.block b (Nat.lt_of_lt_of_le hb h.GF.size) (fun hh => by have hh' : b = w1.heap.size + 1 := hh; omega)).trans (h.GF.old b hb hc)⟩
 sz := Nat.le_trans h.sz ho.size
 d := (ho.block _ (by have := h.sz; omega) (fun hh => by have hh' : w1.heap.size = w1.heap.size + 1 := hh; omega)).trans h.d
 c := by
  obtain ⟨m, hm⟩ := h.c
  exact ⟨m, hm.of_eq (ho.block _ hm.lt (fun hh => by have hh' : bc = w1.heap.size + 1 := hh; omega))⟩
 s := by
  obtain ⟨s, hs, hm⟩ := h.s
  exact ⟨s, hs, hm.of_eq (ho.block _ hm.lt (fun hh => by have hh' : b6 = w1.heap.size + 1 := hh; omega))⟩
 e := h.e.of_eq (ho.block _ h.e.lt (fun hh => by have hh' : b7 = w1.heap.size + 1 := hh; omega))
theorem qP.kept (H1 : St C w w1 [aN.blk bc 213 lc] [aN.blk b7 30 l7, aN.blk b6 41 l6] Ps) (h : qP C w w1 bc b6 b7 J KB T i W) (hk : Kept T C w W W') : Ong (CW C bc b6 b7) w1 W' := by
 have hl := hk.blk (w1.heap.size + 1) (h.tb _ (.inr (by have := H1.size; omega)))
 refine ⟨hk.os.trans H1.os.symm, hk.tape.trans H1.tape.symm, hk.output.trans H1.output.symm, by omega, fun b hb hc => ?_⟩
 rcases Nat.lt_or_ge b w.heap.size with hlt | hge
 ·
  refine (hk.old b hlt (fun h3 => hc (.inl h3)) (fun ht => ?_)).trans (H1.old b hlt fun e he h3 => ?_).symm
  ·
   rcases h.tl b ht with h4 | h4
   ·
    exact hc (.inr (.inl h4))
   ·
    omega
  ·
   rw [List.mem_singleton.1 he] at h3
   exact hc (.inr (.inl h3))
 ·
  exact (hk.blk b (h.tb b (.inr (by omega)))).2.trans (h.GF.old b hb hc)
theorem sZ (H1 : St C w w1 [aN.blk bc 213 lc] [aN.blk b7 30 l7, aN.blk b6 41 l6] Ps) : bc < w1.heap.size ∧ b6 < w1.heap.size ∧ b7 < w1.heap.size :=
 ⟨(H1.o 0 (e := aN.blk bc 213 lc) rfl).lt, (H1.l 1 (e := aN.blk b6 41 l6) rfl).lt, (H1.l 0 (e := aN.blk b7 30 l7) rfl).lt⟩
theorem lF (H1 : St C w w1 [aN.blk bc 213 lc] [aN.blk b7 30 l7, aN.blk b6 41 l6] Ps) : ∀ b, CW C bc b6 b7 b → YY C [aN.blk bc 213 lc] [aN.blk b7 30 l7, aN.blk b6 41 l6] b := fun b hb => by
 rcases hb with h | h | h | h
 ·
  exact .inl h
 ·
  exact .inr (.inl ⟨_, List.mem_cons_self, h⟩)
 ·
  exact .inr (.inr ⟨aN.blk b6 41 l6, by simp, h⟩)
 ·
  exact .inr (.inr ⟨aN.blk b7 30 l7, by simp, h⟩)
theorem CV (H1 : St C w w1 [aN.blk bc 213 lc] [aN.blk b7 30 l7, aN.blk b6 41 l6] Ps) (ho : Ong (CW C bc b6 b7) w1 W) {m : Int} {e : List UInt8} {s : Value} {x : List Value} {b9 : Nat} (hc : aM W bc 213 [.int .i64 m]) (he : aM W b7 30 (kc e)) (hs : aM W b6 41 [s])
  (hl : w1.heap.size + 1 < W.heap.size ∧ W.heap[w1.heap.size + 1]? = Wl.heap[w1.heap.size + 1]?) (hd : W.heap[w1.heap.size]? = some (.deferred (some []))) (h9 : aM W b9 30 x) (hge : w1.heap.size + 2 ≤ b9) :
  St C W W [aN.blk bc 213 [.int .i64 m], aN.blk b7 30 (kc e), aN.blk b6 41 [s], aN.sn (· = w1.heap.size + 1) Wl, aN.obj w1.heap.size (.deferred (some [])), aN.blk b9 30 x] [] Ps := by
 have hlt := sZ H1
 have aHA := H1.tI _ (List.mem_of_getElem? (i := 0) rfl) bc rfl
 have aHz := H1.jU _ (List.mem_of_getElem? (i := 0) rfl) b7 rfl
 have aHy := H1.jU _ (List.mem_of_getElem? (i := 1) rfl) b6 rfl
 have aHx : b7 ≠ b6 := fun h => eS H1.gW (i := 0) (j := 1) (by decide) rfl rfl b7 ⟨rfl, h⟩
 refine St.F6 H1 ho (lF H1) _ ?_ (tG _ [bc, b7, b6, w1.heap.size + 1, w1.heap.size, b9] rfl (by simp; omega)) ?_
 ·
  intro x hx
  simp only [List.mem_cons, List.not_mem_nil, or_false] at hx
  rcases hx with rfl | rfl | rfl | rfl | rfl | rfl
  ·
   exact hc
  ·
   exact he
  ·
   exact hs
  ·
   intro b hb
   have hb' : b = w1.heap.size + 1 := hb
   rw [hb']; exact hl
  ·
   exact hd
  ·
   exact h9
 ·
  intro x hx b hb hf
  simp only [List.mem_cons, List.not_mem_nil, or_false] at hx
  rcases hx with rfl | rfl | rfl | rfl | rfl | rfl
  ·
   exact lF H1 b (.inr (.inl hf))
  ·
   exact lF H1 b (.inr (.inr (.inr hf)))
  ·
   exact lF H1 b (.inr (.inr (.inl hf)))
  ·
   have D8 : b = w1.heap.size + 1 := hf
   omega
  ·
   have D8 : b = w1.heap.size := hf
   omega
  ·
   have D8 : b = b9 := hf
   omega
theorem UD {i : Nat} (H1 : St C w w1 [aN.blk bc 213 lc] [aN.blk b7 30 l7, aN.blk b6 41 l6] Ps) {Wb W4 : World} (hb : qP C w w1 bc b6 b7 J KB T i Wb) (ho : Ong (CW C bc b6 b7) w1 W') (pL : ∀ T T' i W W', J T i W → Out T W W' → (∀ b, T b → T' b) → (∀ b, T' b → T b ∨ (W.heap.size ≤ b ∧ b < W'.heap.size)) → J T' i W') (hJ : J T (i + 1) W')
  {m : Int} {e : List UInt8} {s : Value} {x : List Value} {b9 : Nat} {L4 : List aN} {P4 : List (World → Prop)} (H : St C W' W4 [aN.blk bc 213 [.int .i64 m], aN.blk b7 30 (kc e), aN.blk b6 41 [s], aN.sn (· = w1.heap.size + 1) Wb, aN.obj w1.heap.size (.deferred (some [])), aN.blk b9 30 x] L4 P4)
  (hs : s.oneCell' = true) (h9 : T b9) (hge : w1.heap.size + 2 ≤ b9) (he : e = KB (i + 1)) : aAv (CW C bc b6 b7) w1 (w1.heap.size + 1) Wb W4 ∧ ∃ T, qP C w w1 bc b6 b7 J KB T (i + 1) W4 := by
 have hlt := sZ H1
 have h01 := H1.size
 have hfp : ∀ b, (∃ e_ ∈ [aN.blk bc 213 [.int .i64 m], aN.blk b7 30 (kc e), aN.blk b6 41 [s], aN.sn (· = w1.heap.size + 1) Wb, aN.obj w1.heap.size (.deferred (some [])), aN.blk b9 30 x], e_.fp b) → T b ∧ (b < w1.heap.size → CW C bc b6 b7 b) := by
  rintro b ⟨x', hx, hf⟩
  have g7 := H1.jU _ (List.mem_of_getElem? (i := 0) rfl) b7 rfl
  have g6 := H1.jU _ (List.mem_of_getElem? (i := 1) rfl) b6 rfl
  simp only [List.mem_cons, List.not_mem_nil, or_false] at hx
  rcases hx with rfl | rfl | rfl | rfl | rfl | rfl
  ·
   have D8 : b = bc := hf
   exact ⟨hb.tb b (.inl D8), fun _ => .inr (.inl D8)⟩
  ·
   have D8 : b = b7 := hf
   exact ⟨hb.tb b (.inr (by omega)), fun _ => .inr (.inr (.inr D8))⟩
  ·
   have D8 : b = b6 := hf
   exact ⟨hb.tb b (.inr (by omega)), fun _ => .inr (.inr (.inl D8))⟩
  ·
   have D8 : b = w1.heap.size + 1 := hf
   exact ⟨hb.tb b (.inr (by omega)), fun _ => by omega⟩
  ·
   have D8 : b = w1.heap.size := hf
   exact ⟨hb.tb b (.inr (by omega)), fun _ => by omega⟩
  ·
   have D8 : b = b9 := hf
   exact ⟨D8 ▸ h9, fun _ => by omega⟩
 have T3 := H.o 3 (e := aN.sn (· = w1.heap.size + 1) Wb) rfl (w1.heap.size + 1) rfl
 have hold : ∀ b, b < w1.heap.size → ¬ CW C bc b6 b7 b → W4.heap[b]? = w1.heap[b]? := fun b FT hc =>
  (H.old b (Nat.lt_of_lt_of_le FT ho.size) (fun e_ QN hf => hc ((hfp b ⟨e_, QN, hf⟩).2 FT))).trans (ho.old b FT hc)
 refine ⟨⟨(H.os.trans ho.os).trans hb.GF.os.symm, (H.tape.trans ho.tape).trans hb.GF.tape.symm, (H.output.trans ho.output).trans hb.GF.output.symm, by omega, fun b FT hc => (hold b FT hc).trans (hb.GF.old b FT hc).symm, T3.2⟩, T, ?_⟩
 exact ⟨pL T T (i + 1) W' W4 hJ (H.l5.mono fun b _ h => (hfp b h).1) (fun _ h => h) (fun _ h => .inl h), hb.tb, hb.tl,
  ⟨H.os.trans ho.os, H.tape.trans ho.tape, H.output.trans ho.output, Nat.le_trans ho.size H.size, hold⟩, by omega, H.o 4 (e := aN.obj w1.heap.size (.deferred (some []))) rfl, ⟨m, H.o 0 rfl⟩, ⟨s, hs, H.o 2 rfl⟩, by rw [← he]; exact H.o 1 rfl⟩
end
section
variable {C : Nat → Prop} {w w1 W W' W0 W1 : World} {bc b6 b7 : Nat} {J : (Nat → Prop) → Nat → World → Prop} {KB : Nat → List UInt8} {T : Nat → Prop} {lc l7 l6 : List Value} {Ps : List (World → Prop)}
theorem IP {p : World → Prop} (H1 : St C w w1 [aN.blk bc 213 lc] [aN.blk b7 30 l7, aN.blk b6 41 l6] Ps) (hO : Out Nil w1 W0) (i : Nat) (hp : Ps[i]? = some p) : aH (fun b => CW C bc b6 b7 b ∨ (w1.heap.size ≤ b ∧ b < W0.heap.size)) p W0 :=
 (H1.bK i hp).out hO (fun _ _ h => h.elim) fun b hb h => by
  rcases h with h | h
  ·
   exact lF H1 b h
  ·
   omega
theorem UE (H1 : St C w w1 [aN.blk bc 213 lc] [aN.blk b7 30 l7, aN.blk b6 41 l6] Ps) (hO : Out Nil w1 W0) : ∀ b, CW C bc b6 b7 b ∨ (w1.heap.size ≤ b ∧ b < W0.heap.size) → b < W0.heap.size := fun b hb => by
 rcases hb with h | h
 ·
  exact Nat.lt_of_lt_of_le (H1.aS b (lF H1 b h)) hO.size
 ·
  exact h.2
theorem K1 {m : Int} {e : List UInt8} {s : Value} (H1 : St C w w1 [aN.blk bc 213 [.int .i64 m]] [aN.blk b7 30 (kc e), aN.blk b6 41 [s]] Ps) (hst : ∀ T W1, Out (· = bc) w W1 → (∀ b, T b → b = bc ∨ (w.heap.size ≤ b ∧ b < W1.heap.size)) → T bc → J T 0 W1)
  (hO : Out Nil w1 W1) (hsz : w1.heap.size + 2 ≤ W1.heap.size) (hd : W1.heap[w1.heap.size]? = some (.deferred (some []))) (hs : s.oneCell' = true) (he : e = KB 0) : ∃ T, qP C w w1 bc b6 b7 J KB T 0 W1 := by
 have hlt := sZ H1
 refine ⟨fun b => b = bc ∨ (w.heap.size ≤ b ∧ b < w1.heap.size + 2), ?_, fun b hb => hb, fun b hb => hb.imp id fun h => h.1, ?_, hsz, hd, ⟨m, (H1.o 0 (e := aN.blk bc 213 [.int .i64 m]) rfl).of_eq (hO.block _ hlt.1 id)⟩, ⟨s, hs, (H1.l 1 (e := aN.blk b6 41 [s]) rfl).of_eq (hO.block _ hlt.2.1 id)⟩, he ▸ (H1.l 0 (e := aN.blk b7 30 (kc e)) rfl).of_eq (hO.block _ hlt.2.2 id)⟩
 ·
  exact hst _ _ (H1.cL.trans (hO.mono fun _ _ h => h.elim)) (fun b hb => hb.imp id fun h => ⟨h.1, by omega⟩) (.inl rfl)
 ·
  exact ⟨hO.os, hO.tape, hO.output, hO.size, fun b hb _ => hO.block b hb id⟩
theorem y7 (H1 : St C w w1 [aN.blk bc 213 lc] [aN.blk b7 30 l7, aN.blk b6 41 l6] Ps) (ho : Ong (CW C bc b6 b7) w1 W) {m : Int} {e : List UInt8} {s : Value} (hc : aM W bc 213 [.int .i64 m]) (he : aM W b7 30 (kc e)) (hs : aM W b6 41 [s])
  (hd : W.heap[w1.heap.size]? = some (.deferred (some []))) :
  St C W W [aN.blk bc 213 [.int .i64 m], aN.blk b7 30 (kc e), aN.blk b6 41 [s], aN.obj w1.heap.size (.deferred (some []))] [] Ps := by
 have hlt := sZ H1
 have aHA := H1.tI _ (List.mem_of_getElem? (i := 0) rfl) bc rfl
 have aHz := H1.jU _ (List.mem_of_getElem? (i := 0) rfl) b7 rfl
 have aHy := H1.jU _ (List.mem_of_getElem? (i := 1) rfl) b6 rfl
 have aHx : b7 ≠ b6 := fun h => eS H1.gW (i := 0) (j := 1) (by decide) rfl rfl b7 ⟨rfl, h⟩
 refine St.F6 H1 ho (lF H1) _ ?_ (tG _ [bc, b7, b6, w1.heap.size] rfl (by simp; omega)) ?_
 ·
  intro x hx
  simp only [List.mem_cons, List.not_mem_nil, or_false] at hx
  rcases hx with rfl | rfl | rfl | rfl
  ·
   exact hc
  ·
   exact he
  ·
   exact hs
  ·
   exact hd
 ·
  intro x hx b hb hf
  simp only [List.mem_cons, List.not_mem_nil, or_false] at hx
  rcases hx with rfl | rfl | rfl | rfl
  ·
   exact lF H1 b (.inr (.inl hf))
  ·
   exact lF H1 b (.inr (.inr (.inr hf)))
  ·
   exact lF H1 b (.inr (.inr (.inl hf)))
  ·
   have D8 : b = w1.heap.size := hf
   omega
theorem UC {i : Nat} {Wb W4 : World} (H1 : St C w w1 [aN.blk bc 213 lc] [aN.blk b7 30 l7, aN.blk b6 41 l6] Ps) (hb : qP C w w1 bc b6 b7 J KB T i Wb) {m : Int} {e : List UInt8} {s : Value} {L4 : List aN} {P4 : List (World → Prop)}
  (H : St C W' W4 [aN.blk bc 213 [.int .i64 m], aN.blk b7 30 (kc e), aN.blk b6 41 [s], aN.set (· = w1.heap.size)] L4 P4) : Out T W' W4 := by
 have hlt := sZ H1
 have g7 := H1.jU _ (List.mem_of_getElem? (i := 0) rfl) b7 rfl
 have g6 := H1.jU _ (List.mem_of_getElem? (i := 1) rfl) b6 rfl
 have h01 := H1.size
 refine H.l5.mono fun b _ h => ?_
 obtain ⟨x, hx, hf⟩ := h
 simp only [List.mem_cons, List.not_mem_nil, or_false] at hx
 rcases hx with rfl | rfl | rfl | rfl
 ·
  exact hb.tb b (.inl hf)
 ·
  have D8 : b = b7 := hf
  exact hb.tb b (.inr (by omega))
 ·
  have D8 : b = b6 := hf
  exact hb.tb b (.inr (by omega))
 ·
  have D8 : b = w1.heap.size := hf
  exact hb.tb b (.inr (by omega))
end
theorem K0 {C : Nat → Prop} {w : World} {bh bc c1 c2 c3 c4 : Nat} {bits n0 : Int} {kd dp : Nat} {lk lv B k : List UInt8} {sl s : Value} {ds : List (List UInt8)} (hC : ∀ b, C b → b < w.heap.size) (eT : aM w bc 213 ([.int .i64 n0])) (bT : aH (fun c_ => C c_ ∨ c_ = bc) (fF bh bc bits) w) (dA : aH (fun c_ => C c_ ∨ c_ = bc) (fun w => cX w ⟨c1, 0, none⟩ (fG kd dp lk lv B sl)) w) (fN : aH (fun c_ => C c_ ∨ c_ = bc) (fun w => cX w ⟨c2, 0, none⟩ [.pointer (some ⟨bh, 0, none⟩)]) w) (jO : aH (fun c_ => C c_ ∨ c_ = bc) (fun w => cX w ⟨c3, 0, none⟩ [s]) w) (nE : aH (fun c_ => C c_ ∨ c_ = bc) (fun w => cX w ⟨c4, 0, none⟩ (kc k)) w) (rJ : aH (fun c_ => C c_ ∨ c_ = bc) (eQ s ds) w) (CM : aH (fun c_ => C c_ ∨ c_ = bc) (aX) w) (bR : 0 ≤ bits ∧ bits ≤ 256) (lX : lk.length = 32) (hlv : lv.length = 32) (o5 : B.length = 32) (hsl : sl.oneCell' = true) (hk : k.length = 32) (tL : ∀ d ∈ ds, d.length = 32) (hlen : ds.length ≤ 256) : aGx prog 213 [] [.pointer (some ⟨c1, 0, none⟩), .pointer (some ⟨c2, 0, none⟩), .pointer (some ⟨c3, 0, none⟩), .pointer (some ⟨c4, 0, none⟩)] (ds.length + 1) (aGU (eP bits k ds (dP (cN (dX kd lk lv)) bits))) bc 213 C w := by
 intro f J hst pL mG hf
 show bF prog 213 ([f, .pointer (some ⟨c1, 0, none⟩), .pointer (some ⟨c2, 0, none⟩), .pointer (some ⟨c3, 0, none⟩), .pointer (some ⟨c4, 0, none⟩)] : List Value).toArray w _
 refine bF.aI (N := 45) func213 rfl rfl (by simp) ?_
 have H := (((((((St.c7 (X := C) (b := bc) (t := 213) (l := [.int .i64 n0]) hC eT).add (bX CM)).add (bX rJ)).add (bX nE)).add (bX jO)).add (bX fN)).add (bX dA)).add (bX bT)
 have vB : (fG kd dp lk lv B sl).length = 99 := gB lX hlv o5
 have hfo := M8.one hf
 refine WE.aA ?_
 refine WL.box (l := [f]) H rfl (cells_one hfo) rfl ?_
 intro b5 w1 H
 refine WL.nil (WE.aA ?_)
 refine WL.bC rfl mN rfl rfl (by exact H.p 1 rfl) (cH kQ (by simp only [aR, aU, aB, aD]; omega)) ?_
 refine WL.call aEZ rfl (MD (kd := kd) (dp := dp) (lk := lk) (lv := lv) (B := B) (sl := sl) H.aS lX hlv o5 hsl) ?_
 rintro v12 w2 ⟨hO, hR⟩
 have aBb := cR.fH (hR.here)
 replace H := (H.out hO).add hR
 refine WL.alloc H rfl aCv rfl ?_
 intro b6 w3 H
 refine WL.aT H 0 rfl rfl rfl (new := [v12]) (cells_one aBb) (by exact AW) (dW aBb) (Laid.at (Laid.all (by simp only [aR, aU, aB, aD])) rfl) rfl ?_
 intro w4 H
 refine WL.nil (WE.aA ?_)
 refine WL.aY rfl u3 rfl rfl (by exact H.p 3 rfl) ?_
 refine WL.aY rfl eN rfl rfl (aM.aF (H.l 0 rfl) (aJ.all _) rfl) ?_
 refine WL.call G6 rfl (rH (la := dX kd lk lv) (bits := bits) H.aS (H.o 0 rfl) (by exact (H.aK 0 rfl 1 rfl : aH _ (fF bh bc bits) _)) (by exact (H.aK 0 rfl 0 rfl : aH _ (bI v12 (dX kd lk lv)) _)) (by exact (H.aK 0 rfl 7 rfl : aH _ (aX) _)) bR (by unfold dX; split <;> simp [lX, hlv])) ?_
 rintro _ w5 ⟨rfl, hO, hB⟩
 replace H := H.eU 0 rfl hO hB
 refine WL.alloc H rfl mQ rfl ?_
 intro b7 w6 H
 refine WL.aT H 0 rfl rfl rfl (new := kc (dP (cN (dX kd lk lv)) bits)) rfl (by exact dJ) (bJ _) (Laid.at (Laid.all (by simp only [aR, aU, aB, aD])) rfl) rfl ?_
 intro w7 H
 refine WL.nil (WE.seq (WE.aA ?_))
 refine WL.aY rfl uD rfl rfl (by exact H.p 4 rfl) ?_
 refine WL.call aEY rfl (FN (s := s) (ds := ds) H.aS (by exact (H.bK 6 rfl : aH _ (eQ s ds) _))) ?_
 rintro _ w8 ⟨aF9, rfl, hO, hR⟩
 replace H := (H.out hO).add hR
 refine WL.nil (WE.block ?_)
 replace H := H.freeze (i := 2) rfl
 have H1 : St C w w8 [aN.blk bc 213 [.int .i64 (IntKind.i64.wrap (n0 + 1))]] [aN.blk b7 30 (kc (dP (cN (dX kd lk lv)) bits)), aN.blk b6 41 [v12]] _ := H
 have L0 := sZ H1
 have aEz := H1.size
 have aEt := lF H1
 have aDT := H1.jU _ (List.mem_of_getElem? (i := 0) rfl) b7 rfl
 have aDU := H1.jU _ (List.mem_of_getElem? (i := 1) rfl) b6 rfl
 refine WE.aAU (C := (CW C bc b6 b7)) (fun i W => ∃ T, qP C w w8 bc b6 b7 J (eP bits k ds (dP (cN (dX kd lk lv)) bits)) T i W) rfl aEW (fun b hb => H1.aS b (aEt b hb)) (fun W0 hO => MU (b1 := aF9) (s := s) (ds := ds) (UE H1 hO) (by exact IP H1 hO 1 rfl) (by exact IP H1 hO 8 rfl) tL (by omega)) (fun i xs W h => by obtain ⟨_, rfl⟩ := h; rfl) (fun W1 hO hsz hd => K1 H1 hst hO hsz hd aBb rfl) (fun i W W2 hS ho => by obtain ⟨T, h⟩ := hS; exact ⟨T, h.step pL L0 aEz ho (fun _ h => h) (fun _ h => .inl h)⟩) ?_ ?_
 ·
  intro i xs_ Wa_ iT aHV Q2 aIT
  obtain ⟨Ta_, hWa⟩ := aHV
  obtain ⟨aBj, rfl⟩ := Q2
  have hkx : ds[ds.length - 1 - i].length = 32 := tL _ (List.getElem_mem aBj)
  have ZS : ((eP bits k ds (dP (cN (dX kd lk lv)) bits)) i).length = 32 := nN (cY _ _) i
  have hb2 := eD k (ds.length - 1 - i)
  have hp0 : (NG (bH k (ds.length - 1 - i)) ds[ds.length - 1 - i] ((eP bits k ds (dP (cN (dX kd lk lv)) bits)) i)).length = 32 := U7 hkx ZS
  have hp1 : (NF (bH k (ds.length - 1 - i)) ds[ds.length - 1 - i] ((eP bits k ds (dP (cN (dX kd lk lv)) bits)) i)).length = 32 := U6 hkx ZS
  have aIW := hWa.sz
  have H := St.F6 H1 hWa.GF aEt [] (fun _ h => by cases h) .nil (fun _ h => by cases h)
  refine WE.aA (WL.as rfl rfl (WL.nil (WE.eH ?_)))
  refine WL.alloc H rfl mQ rfl ?_
  intro b9 w9 H
  refine WL.aT H 0 rfl rfl rfl (new := kc ds[ds.length - 1 - i]) rfl (cH dJ (by simp only [aR, aU, aB, aD]; omega)) (bJ _) (Laid.at (Laid.all (by simp only [aR, aU, aB, aD]; omega)) rfl) rfl ?_
  intro vR H
  refine WL.nil ?_
  have aEp := H.aL
  have aEw : aM vR b9 30 (kc ds[ds.length - 1 - i]) := H.l 0 rfl
  have aDR := H.jU _ (List.mem_of_getElem? (i := 0) rfl) b9 rfl
  have ZM := aEw.lt
  refine ⟨rfl, rfl, aEp, ?_⟩
  intro Wb aBg
  have sV := hWa.step (T' := fun b => Ta_ b ∨ b = b9) pL L0 aEz ((aEp.mono fun _ _ h => h.elim).trans aBg) (fun _ h => .inl h) (fun b h => h.imp id fun e => by subst e; exact ⟨aDR, Nat.lt_of_lt_of_le ZM aBg.size⟩)
  have hB9 : aM Wb b9 30 (kc ds[ds.length - 1 - i]) := aEw.of_eq (aBg.block _ ZM (fun h => by have h_ : b9 = w8.heap.size + 1 := h; omega))
  obtain ⟨mb_, aEv⟩ := sV.c
  obtain ⟨sb_, aJq, aEx⟩ := sV.s
  have aIV := sV.sz
  replace H := CV (Wl := Wb) H1 sV.GF aEv sV.e aEx ⟨by omega, rfl⟩ sV.d hB9 (by omega)
  refine WE.block (WE.seq (WE.aA ?_))
  refine WL.aY rfl aAm rfl rfl (by exact (show aM _ b5 _ [f] from H.p 0 rfl).rd) ?_
  refine WL.aY rfl eN rfl rfl (aM.aF (H.o 2 rfl) (aJ.all _) rfl) ?_
  refine WL.bC rfl gT rfl rfl (aM.aF (H.o 1 rfl) (aJ.all _) rfl) (cH dJ (by simp only [aR, aU, aB, aD]; omega)) ?_
  refine WL.iK rfl rfl (mG _ i _ Wb Wb (by omega) sV.j (Out.refl _ _) (aH.pure ⟨sb_, rfl⟩)) ?_
  rintro _ Wk_ ⟨L5, rfl, aBB⟩
  have WA := sV.kept H1 L5
  replace H := CV (W := Wk_) (Wl := Wb) H1 WA (aEv.of_eq (L5.blk bc (sV.tb _ (.inl rfl))).2) (sV.e.of_eq (L5.blk b7 (sV.tb _ (.inr ⟨aDT, by omega⟩))).2) (aEx.of_eq (L5.blk b6 (sV.tb _ (.inr ⟨aDU, by omega⟩))).2) (L5.blk _ (sV.tb _ (.inr ⟨by omega, by omega⟩))) ((L5.blk _ (sV.tb _ (.inr ⟨by omega, by omega⟩))).2.trans sV.d) (hB9.of_eq (L5.blk b9 (.inr rfl)).2) (by omega)
  refine WL.pv (PV.not rfl rfl) rfl (WL.nil ?_)
  refine WE.bB rfl rfl ?_
  refine WE.skip (WE.aA ?_)
  refine WL.bC rfl gT rfl rfl (aM.aF (H.o 5 rfl) (aJ.all _) rfl) (cH dJ (by simp only [aR, aU, aB, aD]; omega)) ?_
  refine WL.bC rfl gT rfl rfl (aM.aF (H.o 5 rfl) (aJ.all _) rfl) (cH dJ (by simp only [aR, aU, aB, aD]; omega)) ?_
  refine WL.pv (PV.mM rfl xW dJ NP (Fl.cons rfl rfl (by simp only [aR, aU, aB, aD]; omega) (Laid.left (Laid.all (by simp only [aR, aU, aB, aD]; omega))) (Fl.cons rfl rfl (by simp only [aR, aU, aB, aD]; omega) (Laid.right (Laid.all (by simp only [aR, aU, aB, aD]; omega)) (by simp only [aR, aU, aB, aD]; omega)) Fl.nil))) rfl ?_
  refine WL.alloc H rfl NP rfl ?_
  intro sW NY H
  refine WL.aT H 0 rfl rfl rfl (new := kc ds[ds.length - 1 - i] ++ kc ds[ds.length - 1 - i]) rfl (cH aCO (by simp only [aR, aU, aB, aD]; omega)) (by exact bO (bJ _) (bJ _)) (Laid.at (Laid.all (by simp only [aR, aU, aB, aD]; omega)) rfl) rfl ?_
  intro TV H
  refine WL.nil ?_
  refine WE.bG (.take 0 (.take 1 (.take 3 (.aG 2 (.take 4 (.aG 5 .done)))))) mixed (by kernel_rfl) ?_
  replace H := H.out (Out.drew _)
  refine WP.dF rfl rfl rfl cV rfl (by exact H.p 7 rfl) (cH cM (by simp only [aR, aU, aB, aD]; omega)) ?_
  refine WP.mv rfl rfl rfl ?_
  refine WP.dF rfl rfl rfl gT rfl (aM.aF (H.o 1 rfl) (aJ.all _) rfl) (cH dJ (by simp only [aR, aU, aB, aD]; omega)) ?_
  refine WP.aG rfl ?_
  refine WL.call EL rfl (jJ (k := k) (d := ds.length - 1 - i) H.aS  (by assumption) (by omega)) ?_
  rintro _ TU ⟨rfl, hO⟩
  replace H := H.out hO
  refine WL.nil ⟨(fa (rk hO) (fa (nw 2 0) c5)), ?_⟩
  refine WP.aC rfl rfl (PV.eq (v' := .pointer (some ⟨sW, (bH k (ds.length - 1 - i)) * 32, none⟩)) (PV.cF rfl xW dJ rfl rfl (by omega) (by omega)) (by simp)) ?_
  refine WP.aG rfl ?_
  refine WL.aT H 0 rfl rfl rfl (new := _) rfl (cH dJ (by simp only [aR, aU, aB, aD]; omega)) (bJ _) (U5 hb2 hkx ZS) rfl ?_
  intro TT H
  refine WL.nil ⟨(fa (nw 5 3) (fa (nw 5 0) c5)), ?_⟩
  refine WP.done (WE.aA (WL.pv (PV.cF rfl xW dJ rfl rfl (by omega) (by omega)) rfl ?_))
  refine WL.bC rfl gT rfl rfl (aM.aF (H.l 0 rfl) (aJ.l (aJ.all _)) rfl) (cH dJ (by simp only [aR, aU, aB, aD]; omega)) ?_
  refine WL.pv (PV.cF rfl xW dJ rfl rfl (by omega) (by omega)) rfl ?_
  refine WL.bC rfl gT rfl rfl (aM.aF (H.l 0 rfl) (aJ.r (aJ.all _) rfl) (by simp [aO, bA, *])) (cH dJ (by simp only [aR, aU, aB, aD]; omega)) ?_
  refine WL.call Z2 rfl (TC (k := (NG (bH k (ds.length - 1 - i)) ds[ds.length - 1 - i] ((eP bits k ds (dP (cN (dX kd lk lv)) bits)) i))) (l := (NF (bH k (ds.length - 1 - i)) ds[ds.length - 1 - i] ((eP bits k ds (dP (cN (dX kd lk lv)) bits)) i))) H.aS hp0 hp1) ?_
  rintro v37 YQ ⟨hO, hR⟩
  have aBa := cR.fH (hR.here)
  replace H := (H.out hO).add hR
  refine WL.kZ H 2 rfl rfl rfl (new := [v37]) (cells_one aBa) (by exact AW) (dW aBa) (Laid.at (Laid.all (by simp only [aR, aU, aB, aD])) rfl) rfl ?_
  intro w20 H
  refine WL.nil (WE.eH ?_)
  refine WL.aY rfl u3 rfl rfl (by exact H.p 6 rfl) ?_
  refine WL.aY rfl eN rfl rfl (aM.aF (H.o 2 rfl) (aJ.all _) rfl) ?_
  refine WL.call G6 rfl (rH (la := 1 :: ((NG (bH k (ds.length - 1 - i)) ds[ds.length - 1 - i] ((eP bits k ds (dP (cN (dX kd lk lv)) bits)) i)) ++ (NF (bH k (ds.length - 1 - i)) ds[ds.length - 1 - i] ((eP bits k ds (dP (cN (dX kd lk lv)) bits)) i)))) (bits := bits) H.aS (H.o 0 rfl) (by exact (H.aK 0 rfl 4 rfl : aH _ (fF bh bc bits) _)) (by exact (H.aK 0 rfl 0 rfl : aH _ (bI v37 (1 :: ((NG (bH k (ds.length - 1 - i)) ds[ds.length - 1 - i] ((eP bits k ds (dP (cN (dX kd lk lv)) bits)) i)) ++ (NF (bH k (ds.length - 1 - i)) ds[ds.length - 1 - i] ((eP bits k ds (dP (cN (dX kd lk lv)) bits)) i))))) _)) (by exact (H.aK 0 rfl 10 rfl : aH _ (aX) _)) bR (by simp; omega)) ?_
  rintro _ w21 ⟨rfl, hO, hB⟩
  replace H := H.eU 0 rfl hO hB
  refine WL.kZ H 1 rfl rfl rfl (new := kc (dP (cN (1 :: ((NG (bH k (ds.length - 1 - i)) ds[ds.length - 1 - i] ((eP bits k ds (dP (cN (dX kd lk lv)) bits)) i)) ++ (NF (bH k (ds.length - 1 - i)) ds[ds.length - 1 - i] ((eP bits k ds (dP (cN (dX kd lk lv)) bits)) i))))) bits)) rfl (by exact dJ) (bJ _) (Laid.at (Laid.all (by simp only [aR, aU, aB, aD]; omega)) rfl) rfl ?_
  intro w22 H
  refine WL.nil ?_
  exact UD H1 sV WA pL aBB H aBa (.inr rfl) (by omega) (by show uM bits (NG (bH k (ds.length - 1 - i)) ds[ds.length - 1 - i] ((eP bits k ds (dP (cN (dX kd lk lv)) bits)) i)) (NF (bH k (ds.length - 1 - i)) ds[ds.length - 1 - i] ((eP bits k ds (dP (cN (dX kd lk lv)) bits)) i)) = rQ bits k (ds.length - 1 - i) (ds.getD (ds.length - 1 - i) []) ((eP bits k ds (dP (cN (dX kd lk lv)) bits)) i); rw [UR, jT aBj])
 ·
  intro w23 hS_
  obtain ⟨Tz_, q6⟩ := hS_
  obtain ⟨mz_, aEu⟩ := q6.c
  obtain ⟨sz_, aJm, ZY⟩ := q6.s
  have aIU := q6.sz
  have aJF : ((eP bits k ds (dP (cN (dX kd lk lv)) bits)) ds.length).length = 32 := nN (cY _ _) _
  replace H := y7 H1 q6.GF aEu q6.e ZY q6.d
  refine WE.eH ?_
  refine WL.aY rfl aAm rfl rfl (by exact (show aM _ b5 _ [f] from H.p 0 rfl).rd) ?_
  refine WL.aY rfl eN rfl rfl (aM.aF (H.o 2 rfl) (aJ.all _) rfl) ?_
  refine WL.bC rfl gT rfl rfl (aM.aF (H.o 1 rfl) (aJ.all _) rfl) (cH dJ (by simp only [aR, aU, aB, aD]; omega)) ?_
  refine WL.iK rfl rfl (mG _ ds.length _ _ _ (by omega) q6.j (Out.refl _ _) (aH.pure ⟨sz_, rfl⟩)) ?_
  rintro _ Wk_ ⟨L5, rfl, aBB⟩
  have WA := q6.kept H1 L5
  replace H := y7 (W := Wk_) H1 WA (aEu.of_eq (L5.blk bc (q6.tb _ (.inl rfl))).2) (q6.e.of_eq (L5.blk b7 (q6.tb _ (.inr ⟨aDT, by omega⟩))).2) (ZY.of_eq (L5.blk b6 (q6.tb _ (.inr ⟨aDU, by omega⟩))).2) ((L5.blk _ (q6.tb _ (.inr ⟨by omega, by omega⟩))).2.trans q6.d)
  refine WL.nil ?_
  (obtain ⟨w28, wW, H⟩ := H.UI 3 rfl)
  refine ⟨[], _, (wW _ (.nil _)), trivial, ?_⟩
  exact ⟨rfl, ⟨_, H.o 0 rfl⟩, Tz_, pL Tz_ Tz_ _ _ _ aBB (UC H1 q6 H) (fun _ h => h) (fun _ h => .inl h)⟩
end Go.Sp.Tryz
