/- Part of the proof of this claim: walks through the program's functions and the plain laws that they need, printed by a program of this session. -/
import Derived.Test.YthkombhebdjamaaGreatDoorDraw
namespace Go.Sp
open Go.RowKit
def dA (w : World) (a : Addr) (l : List Value) : Prop := ∀ j v, l[j]? = some v → w.cell? (a.add j) = some v
def aN (w : World) (b : Nat) (t : TypeId) (l : List Value) : Prop := w.heap[b]? = some (.cells l.toArray t (0, 0))
theorem mJ (b o j : Nat) : (⟨b, o, none⟩ : Addr).add j = ⟨b, o + j, none⟩ := by unfold Addr.add; split <;> simp_all
theorem add_add (a : Addr) (i j : Nat) : (a.add i).add j = a.add (i + j) := by
 unfold Addr.add
 by_cases hi : i = 0 <;> by_cases hj : j = 0 <;> simp [hi, hj, Nat.add_assoc]
theorem OU (a : Addr) (n : Nat) : (a.add n).block = a.block := by unfold Addr.add; split <;> rfl
section
variable {w w' : World} {b o : Nat} {t : TypeId} {l l' : List Value}
theorem aN.cell (h : aN w b t l) (i : Nat) : w.cell? ⟨b, i, none⟩ = l[i]? := by
 unfold aN at h
 simp [World.cell?, h]
theorem aN.frozen (h : aN w b t l) (a : Addr) (ha : a.block = b) : w.frozen? a = false := by
 unfold aN at h
 subst ha
 simp [World.frozen?, h]
theorem aN.lt (h : aN w b t l) : b < w.heap.size := by
 rcases Nat.lt_or_ge b w.heap.size with hlt | hge
 ·
  exact hlt
 ·
  unfold aN at h; rw [Array.getElem?_eq_none hge] at h; cases h
theorem aN.of_eq (h : aN w b t l) (he : w'.heap[b]? = w.heap[b]?) : aN w' b t l := he.trans h
theorem aN.rd (h : aN w b t l) : dA w ⟨b, 0, none⟩ l := fun j v hv => by rw [mJ, Nat.zero_add, h.cell]; exact hv
theorem dA.yR {a : Addr} (h : dA w a l) (hl : 0 < l.length) : a.block < w.heap.size := by
 have h0 := h 0 l[0] (List.getElem?_eq_getElem hl)
 have : (a.add 0) = a := by unfold Addr.add; simp
 rw [this] at h0
 exact block_lt_of_cell h0
theorem dA.of_eq {a : Addr} (h : dA w a l) (he : w'.heap[a.block]? = w.heap[a.block]?) : dA w' a l := fun j v hv => by
 rw [World.cell?_of_block (w := w) (by rw [OU]; exact he)]
 exact h j v hv
theorem dA.seg {a : Addr} (h : dA w a l) (i n : Nat) : dA w (a.add i) ((l.drop i).take n) := fun j v hv => by
 rw [add_add]
 apply h
 rw [List.getElem?_take] at hv
 split at hv
 ·
  rwa [List.getElem?_drop] at hv
 ·
  cases hv
end
structure Out (M : Nat → Prop) (w w' : World) : Prop where
 os : w'.os = w.os
 tape : w'.tape = w.tape
 output : w'.output = w.output
 size : w.heap.size ≤ w'.heap.size
 block : ∀ b, b < w.heap.size → ¬ M b → w'.heap[b]? = w.heap[b]?
def Nil : Nat → Prop := fun _ => False
theorem Out.refl (M : Nat → Prop) (w : World) : Out M w w := ⟨rfl, rfl, rfl, Nat.le_refl _, fun _ _ _ => rfl⟩
theorem Out.trans {M : Nat → Prop} {a b c : World} (h : Out M a b) (k : Out M b c) : Out M a c :=
 ⟨k.os.trans h.os, k.tape.trans h.tape, k.output.trans h.output, Nat.le_trans h.size k.size,
  fun i hi hm => (k.block i (Nat.lt_of_lt_of_le hi h.size) hm).trans (h.block i hi hm)⟩
theorem Out.mono {M M' : Nat → Prop} {a b : World} (h : Out M a b) (hM : ∀ x, x < a.heap.size → M x → M' x) : Out M' a b :=
 ⟨h.os, h.tape, h.output, h.size, fun i hi hm => h.block i hi fun hx => hm (hM i hi hx)⟩
theorem Out.drew (w : World) : Out Nil w w.drew := ⟨rfl, rfl, rfl, Nat.le_refl _, fun _ _ _ => rfl⟩
theorem Out.alloc (w : World) (o : Obj) : Out Nil w (w.alloc o) := ⟨rfl, rfl, rfl, by simp, fun b hb _ => Below.heap_alloc w o b hb⟩
theorem Out.set (w : World) (a : Addr) (v : Value) : Out (· = a.block) w (w.setCell a v) :=
 ⟨rfl, rfl, rfl, by simp [World.setCell], fun b _ hm => Below.heap_setCell w a v b hm⟩
theorem Out.grown {w w' : World} {row : Option Nat} (h : w.grownBy w' row) : Out (fun b => row = some b) w w' :=
 ⟨h.os, h.tape, h.output, h.size, fun b hb hm => h.block b hb fun e => hm e.symm⟩
theorem Out.below {w w' : World} (h : Out Nil w w') : Below w.heap.size w w' := ⟨h.os, h.tape, h.output, h.size, fun k hk => h.block k hk id⟩
def aJ (X : Nat → Prop) (p : World → Prop) (w : World) : Prop := ∀ w', (∀ b, b < w.heap.size → ¬ X b → w'.heap[b]? = w.heap[b]?) → p w'
theorem aJ.here {X : Nat → Prop} {p : World → Prop} {w : World} (h : aJ X p w) : p w := h w fun _ _ _ => rfl
theorem aJ.out {X X' M : Nat → Prop} {p : World → Prop} {w w' : World} (h : aJ X p w) (ho : Out M w w') (hM : ∀ b, b < w.heap.size → M b → X b) (hX : ∀ b, b < w.heap.size → X' b → X b) : aJ X' p w' :=
 fun w'' hw => h w'' fun b hb hx => (hw b (Nat.lt_of_lt_of_le hb ho.size) fun h' => hx (hX b hb h')).trans (ho.block b hb fun hm => hx (hM b hb hm))
theorem aJ.imp {X : Nat → Prop} {p q : World → Prop} {w : World} (h : aJ X p w) (hi : ∀ w, p w → q w) : aJ X q w := fun w' hw => hi w' (h w' hw)
theorem aJ.and {X : Nat → Prop} {p q : World → Prop} {w : World} (h : aJ X p w) (h' : aJ X q w) : aJ X (fun w => p w ∧ q w) w := fun w' hw => ⟨h w' hw, h' w' hw⟩
theorem aJ.pure {X : Nat → Prop} {p : Prop} {w : World} (h : p) : aJ X (fun _ => p) w := fun _ _ => h
theorem aJ.mono {X X' : Nat → Prop} {p : World → Prop} {w : World} (h : aJ X p w) (hX : ∀ b, b < w.heap.size → X' b → X b) : aJ X' p w := fun w' hw => h w' fun b hb hx => hw b hb fun hx' => hx (hX b hb hx')
structure aP where
 fp : Nat → Prop
 ok : World → Prop
 loc : ∀ w w', (∀ b, fp b → w'.heap[b]? = w.heap[b]?) → ok w → ok w'
 lt : ∀ w, ok w → ∀ b, fp b → b < w.heap.size
def aP.blk (b : Nat) (t : TypeId) (l : List Value) : aP where
 fp := (· = b)
 ok := fun w => aN w b t l
 loc := fun _ _ h hb => hb.of_eq (h b rfl)
 lt := fun _ h _ hx => by subst hx; exact h.lt
def aP.obj (b : Nat) (o : Obj) : aP where
 fp := (· = b)
 ok := fun w => w.heap[b]? = some o
 loc := fun _ _ h hb => (h b rfl).trans hb
 lt := fun w h x hx => by
  subst hx
  rcases Nat.lt_or_ge x w.heap.size with hlt | hge
  ·
   exact hlt
  ·
   rw [Array.getElem?_eq_none hge] at h; cases h
theorem nW {w w' : World} {base : Nat} {e : TypeId} {size : Nat} {v : Value} {n : Nat} {xs : List Value} (h : w.ownsRow base e size v n xs)
  (he : ∀ b, v.ownBlock = some b → w'.heap[b]? = w.heap[b]?) : w'.ownsRow base e size v n xs := by
 obtain ⟨h1, h2⟩ := h
 refine ⟨h1, ?_⟩
 rcases h2 with h2 | ⟨g, cap, cur, rfl, hb, hh, hx⟩
 ·
  exact .inl h2
 ·
  exact .inr ⟨g, cap, cur, rfl, hb, (he g rfl).trans hh, hx⟩
def aP.hU (base : Nat) (v : Value) (e : TypeId) (sz n : Nat) (xs : List Value) : aP where
 fp := fun b => v.ownBlock = some b
 ok := fun w => w.ownsRow base e sz v n xs
 loc := fun _ _ h hb => nW hb h
 lt := fun _ h b hb => (h.lt b hb).2
def aP.rK (a b : aP) : Prop := ∀ x, ¬ (a.fp x ∧ b.fp x)
def YY (X : Nat → Prop) (O L : List aP) : Nat → Prop := fun b => X b ∨ (∃ e ∈ O, e.fp b) ∨ ∃ e ∈ L, e.fp b
structure St (X : Nat → Prop) (w0 w : World) (O L : List aP) (Ps : List (World → Prop)) : Prop where
 os : w.os = w0.os
 tape : w.tape = w0.tape
 output : w.output = w0.output
 size : w0.heap.size ≤ w.heap.size
 old : ∀ b, b < w0.heap.size → (∀ e ∈ O, ¬ e.fp b) → w.heap[b]? = w0.heap[b]?
 zP : ∀ e ∈ O, e.ok w
 sR : ∀ e ∈ L, e.ok w
 uI : ∀ e ∈ O, ∀ b, e.fp b → b < w0.heap.size
 kF : ∀ e ∈ L, ∀ b, e.fp b → w0.heap.size ≤ b
 pF : O.Pairwise aP.rK
 iM : L.Pairwise aP.rK
 AA : ∀ b, X b → b < w0.heap.size
 iZ : ∀ p ∈ Ps, aJ (YY X O L) p w
section
variable {X : Nat → Prop} {w0 w w' : World} {O L : List aP} {Ps : List (World → Prop)}
theorem St.start (hX : ∀ b, X b → b < w.heap.size) (hO : ∀ e ∈ O, e.ok w) (hd : O.Pairwise aP.rK) (hP : ∀ p ∈ Ps, aJ (YY X O []) p w) : St X w w O [] Ps where
 os := rfl
 tape := rfl
 output := rfl
 size := Nat.le_refl _
 old := fun _ _ _ => rfl
 zP := hO
 sR := fun _ h => (by cases h)
 uI := fun e he b hb => e.lt w (hO e he) b hb
 kF := fun _ h => (by cases h)
 pF := hd
 iM := .nil
 AA := hX
 iZ := hP
theorem St.aR (H : St X w0 w O L Ps) : ∀ b, YY X O L b → b < w.heap.size := fun b hb => by
 rcases hb with h | ⟨e, he, h⟩ | ⟨e, he, h⟩
 ·
  exact Nat.lt_of_lt_of_le (H.AA b h) H.size
 ·
  exact e.lt w (H.zP e he) b h
 ·
  exact e.lt w (H.sR e he) b h
theorem St.V4 (H : St X w0 w O L Ps) (e : aP) (he : e ∈ L) (b : Nat) (hb : e.fp b) : b < w.heap.size := e.lt w (H.sR e he) b hb
theorem St.out (H : St X w0 w O L Ps) (h : Out Nil w w') : St X w0 w' O L Ps where
 os := h.os.trans H.os
 tape := h.tape.trans H.tape
 output := h.output.trans H.output
 size := Nat.le_trans H.size h.size
 old := fun b hb hn => (h.block b (Nat.lt_of_lt_of_le hb H.size) id).trans (H.old b hb hn)
 zP := fun e he => e.loc w w' (fun b hb => h.block b (e.lt w (H.zP e he) b hb) id) (H.zP e he)
 sR := fun e he => e.loc w w' (fun b hb => h.block b (e.lt w (H.sR e he) b hb) id) (H.sR e he)
 uI := H.uI
 kF := H.kF
 pF := H.pF
 iM := H.iM
 AA := H.AA
 iZ := fun p hp => (H.iZ p hp).out h (fun _ _ hm => hm.elim) (fun _ _ hx => hx)
theorem St.push (H : St X w0 w O L Ps) (h : Out Nil w w') (e : aP) (he : e.ok w') (hn : ∀ b, e.fp b → w.heap.size ≤ b) : St X w0 w' O (e :: L) Ps :=
 let H' := H.out h
 { H' with
  sR := fun x hx => by
   cases List.mem_cons.1 hx with
   | inl hx => subst hx; exact he
   | inr hx => exact H'.sR x hx
  kF := fun x hx => by
   cases List.mem_cons.1 hx with
   | inl hx => subst hx; exact fun b hb => Nat.le_trans H.size (hn b hb)
   | inr hx => exact H'.kF x hx
  iM := List.pairwise_cons.2 ⟨fun x hx b hb => by
   have h1 := hn b hb.1
   have h2 := H.V4 x hx b hb.2
   omega, H'.iM⟩
  iZ := fun p hp => (H.iZ p hp).out h (fun _ _ hm => hm.elim) (fun b hb hx => by
   rcases hx with hx | hx | ⟨x, hx, hb'⟩
   ·
    exact .inl hx
   ·
    exact .inr (.inl hx)
   ·
    cases List.mem_cons.1 hx with
    | inl hx => subst hx; have := hn b hb'; omega
    | inr hx => exact .inr (.inr ⟨x, hx, hb'⟩)) }
theorem eO {α : Type} {l : List α} {i : Nat} {a x : α} (h : x ∈ l.set i a) : x = a ∨ ∃ j, j ≠ i ∧ l[j]? = some x := by
 obtain ⟨j, hj⟩ := List.getElem?_of_mem h
 rw [List.getElem?_set] at hj
 split at hj
 ·
  split at hj
  ·
   injection hj with hj; exact .inl hj.symm
  ·
   cases hj
 ·
  rename_i hne
  exact .inr ⟨j, Ne.symm hne, hj⟩
theorem e8 {l : List aP} (h : l.Pairwise aP.rK) {i j : Nat} {a b : aP} (hij : i ≠ j) (ha : l[i]? = some a) (hb : l[j]? = some b) (x : Nat) : ¬ (a.fp x ∧ b.fp x) := by
 rw [List.pairwise_iff_getElem] at h
 obtain ⟨hi, rfl⟩ := List.getElem?_eq_some_iff.1 ha
 obtain ⟨hj, rfl⟩ := List.getElem?_eq_some_iff.1 hb
 rcases Nat.lt_or_gt_of_ne hij with hlt | hlt
 ·
  exact h i j hi hj hlt x
 ·
  exact fun hx => h j i hj hi hlt x hx.symm
theorem sQ {l : List aP} (h : l.Pairwise aP.rK) {i : Nat} {a e : aP} (ha : l[i]? = some a) (he : ∀ x, e.fp x → a.fp x ∨ ∀ y ∈ l, ¬ y.fp x) : (l.set i e).Pairwise aP.rK := by
 rw [List.pairwise_iff_getElem]
 intro j k hj hk hjk x hx
 rw [List.length_set] at hj hk
 rw [List.getElem_set, List.getElem_set] at hx
 have hb : ∀ m (hm : m < l.length), m ≠ i → ¬ (e.fp x ∧ l[m].fp x) := fun m hm hne hh => by
  rcases he x hh.1 with h1 | h1
  ·
   exact e8 h hne.symm ha (List.getElem?_eq_getElem hm) x ⟨h1, hh.2⟩
  ·
   exact h1 _ (List.getElem_mem hm) hh.2
 by_cases h1 : i = j
 ·
  by_cases h2 : i = k
  ·
   omega
  ·
   rw [if_pos h1, if_neg h2] at hx
   exact hb k hk (Ne.symm h2) hx
 ·
  by_cases h2 : i = k
  ·
   rw [if_neg h1, if_pos h2] at hx
   exact hb j hj (Ne.symm h1) hx.symm
  ·
   rw [if_neg h1, if_neg h2] at hx
   exact (List.pairwise_iff_getElem.1 h) j k hj hk hjk x hx
theorem St.oX (H : St X w0 w O L Ps) {i : Nat} {e : aP} (hi : L[i]? = some e) (h : Out e.fp w w') (e' : aP) (he : e'.ok w') (hf : ∀ b, e'.fp b → e.fp b ∨ w.heap.size ≤ b) : St X w0 w' O (L.set i e') Ps where
 os := h.os.trans H.os
 tape := h.tape.trans H.tape
 output := h.output.trans H.output
 size := Nat.le_trans H.size h.size
 old := fun b hb hn => (h.block b (Nat.lt_of_lt_of_le hb H.size) fun hm => by have := H.kF e (List.mem_of_getElem? hi) b hm; omega).trans (H.old b hb hn)
 zP := fun x hx => x.loc w w' (fun b hb => h.block b (x.lt w (H.zP x hx) b hb) fun hm => by
  have h1 := H.kF e (List.mem_of_getElem? hi) b hm
  have h2 := H.uI x hx b hb
  omega) (H.zP x hx)
 sR := fun x hx => by
  rcases eO hx with rfl | ⟨j, hne, hj⟩
  ·
   exact he
  ·
   have hx' := H.sR x (List.mem_of_getElem? hj)
   exact x.loc w w' (fun b hb => h.block b (x.lt w hx' b hb) fun hm => e8 H.iM hne.symm hi hj b ⟨hm, hb⟩) hx'
 uI := H.uI
 kF := fun x hx b hb => by
  rcases eO hx with rfl | ⟨j, hne, hj⟩
  ·
   rcases hf b hb with h1 | h1
   ·
    exact H.kF e (List.mem_of_getElem? hi) b h1
   ·
    exact Nat.le_trans H.size h1
  ·
   exact H.kF x (List.mem_of_getElem? hj) b hb
 pF := H.pF
 iM := sQ H.iM hi fun b hb => by
  rcases hf b hb with h1 | h1
  ·
   exact .inl h1
  ·
   exact .inr fun y hy hy' => by have := H.V4 y hy b hy'; omega
 AA := H.AA
 iZ := fun p hp => (H.iZ p hp).out h (fun b _ hm => .inr (.inr ⟨e, List.mem_of_getElem? hi, hm⟩)) (fun b hb hx => by
  rcases hx with hx | hx | ⟨x, hx, hb'⟩
  ·
   exact .inl hx
  ·
   exact .inr (.inl hx)
  ·
   rcases eO hx with rfl | ⟨j, hne, hj⟩
   ·
    rcases hf b hb' with h1 | h1
    ·
     exact .inr (.inr ⟨e, List.mem_of_getElem? hi, h1⟩)
    ·
     omega
   ·
    exact .inr (.inr ⟨x, List.mem_of_getElem? hj, hb'⟩))
theorem St.vP (H : St X w0 w O L Ps) {i : Nat} {e : aP} (hi : O[i]? = some e) (h : Out e.fp w w') (e' : aP) (he : e'.ok w') (hf : ∀ b, e'.fp b ↔ e.fp b) : St X w0 w' (O.set i e') L Ps where
 os := h.os.trans H.os
 tape := h.tape.trans H.tape
 output := h.output.trans H.output
 size := Nat.le_trans H.size h.size
 old := fun b hb hn => by
  have hne : ¬ e.fp b := fun hm => hn e' (List.mem_of_getElem? (i := i) (by rw [List.getElem?_set_self (List.getElem?_eq_some_iff.1 hi).1])) ((hf b).2 hm)
  refine (h.block b (Nat.lt_of_lt_of_le hb H.size) hne).trans (H.old b hb fun x hx hb' => ?_)
  obtain ⟨j, hj⟩ := List.getElem?_of_mem hx
  by_cases hij : i = j
  ·
   subst hij; rw [hi] at hj; injection hj with hj; subst hj; exact hne hb'
  ·
   exact hn x (List.mem_of_getElem? (i := j) (by rw [List.getElem?_set_ne hij]; exact hj)) hb'
 zP := fun x hx => by
  rcases eO hx with rfl | ⟨j, hne, hj⟩
  ·
   exact he
  ·
   have hx' := H.zP x (List.mem_of_getElem? hj)
   exact x.loc w w' (fun b hb => h.block b (x.lt w hx' b hb) fun hm => e8 H.pF hne.symm hi hj b ⟨hm, hb⟩) hx'
 sR := fun x hx => x.loc w w' (fun b hb => h.block b (x.lt w (H.sR x hx) b hb) fun hm => by
  have h1 := H.kF x hx b hb
  have h2 := H.uI e (List.mem_of_getElem? hi) b hm
  omega) (H.sR x hx)
 uI := fun x hx b hb => by
  rcases eO hx with rfl | ⟨j, hne, hj⟩
  ·
   exact H.uI e (List.mem_of_getElem? hi) b ((hf b).1 hb)
  ·
   exact H.uI x (List.mem_of_getElem? hj) b hb
 kF := H.kF
 pF := sQ H.pF hi fun b hb => .inl ((hf b).1 hb)
 iM := H.iM
 AA := H.AA
 iZ := fun p hp => (H.iZ p hp).out h (fun b _ hm => .inr (.inl ⟨e, List.mem_of_getElem? hi, hm⟩)) (fun b hb hx => by
  rcases hx with hx | ⟨x, hx, hb'⟩ | hx
  ·
   exact .inl hx
  ·
   rcases eO hx with rfl | ⟨j, hne, hj⟩
   ·
    exact .inr (.inl ⟨e, List.mem_of_getElem? hi, (hf b).1 hb'⟩)
   ·
    exact .inr (.inl ⟨x, List.mem_of_getElem? hj, hb'⟩)
  ·
   exact .inr (.inr hx))
theorem St.freeze (H : St X w0 w O L Ps) {i : Nat} {e : aP} (hi : L[i]? = some e) : St X w0 w O (L.eraseIdx i) (e.ok :: Ps) where
 os := H.os
 tape := H.tape
 output := H.output
 size := H.size
 old := H.old
 zP := H.zP
 sR := fun x hx => H.sR x (List.mem_of_mem_eraseIdx hx)
 uI := H.uI
 kF := fun x hx => H.kF x (List.mem_of_mem_eraseIdx hx)
 pF := H.pF
 iM := H.iM.sublist (List.eraseIdx_sublist _ _)
 AA := H.AA
 iZ := fun p hp => by
  have aIG : ∀ b, YY X O (L.eraseIdx i) b → YY X O L b := fun b hb => by
   rcases hb with hb | hb | ⟨x, hx, hb⟩
   ·
    exact .inl hb
   ·
    exact .inr (.inl hb)
   ·
    exact .inr (.inr ⟨x, List.mem_of_mem_eraseIdx hx, hb⟩)
  cases List.mem_cons.1 hp with
  | inr hp => exact (H.iZ p hp).mono fun b _ hb => aIG b hb
  | inl hp =>
   subst hp
   intro w' hw
   have he := H.sR e (List.mem_of_getElem? hi)
   refine e.loc w w' (fun b hb => hw b (e.lt w he b hb) ?_) he
   rintro (hx | ⟨x, hx, hb'⟩ | ⟨x, hx, hb'⟩)
   ·
    have h1 := H.AA b hx
    have h2 := H.kF e (List.mem_of_getElem? hi) b hb
    omega
   ·
    have h1 := H.uI x hx b hb'
    have h2 := H.kF e (List.mem_of_getElem? hi) b hb
    omega
   ·
    obtain ⟨j, hj⟩ := List.getElem?_of_mem hx
    rw [List.getElem?_eraseIdx] at hj
    split at hj
    ·
     exact e8 H.iM (by omega) hi hj b ⟨hb, hb'⟩
    ·
     exact e8 H.iM (by omega) hi hj b ⟨hb, hb'⟩
theorem St.add (H : St X w0 w O L Ps) {p : World → Prop} (h : aJ (YY X O L) p w) : St X w0 w O L (p :: Ps) :=
 { H with
  iZ := fun q hq => by
   cases List.mem_cons.1 hq with
   | inl e => subst e; exact h
   | inr e => exact H.iZ q e }
theorem St.p (H : St X w0 w O L Ps) (i : Nat) {p : World → Prop} (hp : Ps[i]? = some p) : p w := (H.iZ p (List.mem_of_getElem? hp)).here
theorem St.bK (H : St X w0 w O L Ps) (i : Nat) {p : World → Prop} (hp : Ps[i]? = some p) : aJ (YY X O L) p w := H.iZ p (List.mem_of_getElem? hp)
theorem St.l (H : St X w0 w O L Ps) (i : Nat) {e : aP} (hi : L[i]? = some e) : e.ok w := H.sR e (List.mem_of_getElem? hi)
theorem St.o (H : St X w0 w O L Ps) (i : Nat) {e : aP} (hi : O[i]? = some e) : e.ok w := H.zP e (List.mem_of_getElem? hi)
theorem St.drop (H : St X w0 w O L Ps) {J1 : List (World → Prop)} (h : ∀ p ∈ J1, p ∈ Ps) : St X w0 w O L J1 := { H with iZ := fun p hp => H.iZ p (h p hp) }
theorem St.mS (H : St X w0 w O L Ps) : Out (fun b => ∃ e ∈ O, e.fp b) w0 w :=
 ⟨H.os, H.tape, H.output, H.size, fun b hb hm => H.old b hb fun e he h => hm ⟨e, he, h⟩⟩
theorem St.aL (H : St X w0 w [] L Ps) : Out Nil w0 w := H.mS.mono fun _ _ ⟨_, h, _⟩ => by cases h
theorem St.gF (_ : St X w0 w O L Ps) {p : World → Prop} (h : aJ (YY X O L) p w) : aJ X p w := h.mono fun _ _ hx => .inl hx
end
theorem rk {w w' : World} {a : Addr} {l : List Value} {P : Prop} (h : Out Nil w w') : P → dA w a l → dA w' a l := fun _ k => by
 cases l with
 | nil => intro j v hv; simp at hv
 | cons x l => exact k.of_eq (h.block _ (k.yR (Nat.succ_pos _)) id)
end Go.Sp
