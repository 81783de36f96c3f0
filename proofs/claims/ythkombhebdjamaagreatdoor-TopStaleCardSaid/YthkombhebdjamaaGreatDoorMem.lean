/- Part of the proof of this claim: walks through the program's functions and the plain laws that they need, printed by a program of this session. -/
import Derived.Test.YthkombhebdjamaaGreatDoorDraw
namespace Go.Sp
open Go.RowKit
def cX (w : World) (a : Addr) (l : List Value) : Prop := ∀ j v, l[j]? = some v → w.cell? (a.add j) = some v
def aM (w : World) (b : Nat) (t : TypeId) (l : List Value) : Prop := w.heap[b]? = some (.cells l.toArray t (0, 0))
theorem lS (b o j : Nat) : (⟨b, o, none⟩ : Addr).add j = ⟨b, o + j, none⟩ := by unfold Addr.add; split <;> simp_all
theorem add_add (a : Addr) (i j : Nat) : (a.add i).add j = a.add (i + j) := by
 unfold Addr.add
 by_cases hi : i = 0 <;> by_cases hj : j = 0 <;> simp [hi, hj, Nat.add_assoc]
theorem MZ (a : Addr) (n : Nat) : (a.add n).block = a.block := by unfold Addr.add; split <;> rfl
section
variable {w w' : World} {b o : Nat} {t : TypeId} {l l' : List Value}
theorem aM.cell (h : aM w b t l) (i : Nat) : w.cell? ⟨b, i, none⟩ = l[i]? := by
 unfold aM at h
 simp [World.cell?, h]
theorem aM.frozen (h : aM w b t l) (a : Addr) (ha : a.block = b) : w.frozen? a = false := by
 unfold aM at h
 subst ha
 simp [World.frozen?, h]
theorem aM.lt (h : aM w b t l) : b < w.heap.size := by
 rcases Nat.lt_or_ge b w.heap.size with hlt | hge
 ·
  exact hlt
 ·
  unfold aM at h; rw [Array.getElem?_eq_none hge] at h; cases h
theorem aM.of_eq (h : aM w b t l) (he : w'.heap[b]? = w.heap[b]?) : aM w' b t l := he.trans h
theorem aM.rd (h : aM w b t l) : cX w ⟨b, 0, none⟩ l := fun j v hv => by rw [lS, Nat.zero_add, h.cell]; exact hv
theorem cX.xR {a : Addr} (h : cX w a l) (hl : 0 < l.length) : a.block < w.heap.size := by
 have h0 := h 0 l[0] (List.getElem?_eq_getElem hl)
 have : (a.add 0) = a := by unfold Addr.add; simp
 rw [this] at h0
 exact block_lt_of_cell h0
theorem cX.of_eq {a : Addr} (h : cX w a l) (he : w'.heap[a.block]? = w.heap[a.block]?) : cX w' a l := fun j v hv => by
 rw [World.cell?_of_block (w := w) (by rw [MZ]; exact he)]
 exact h j v hv
theorem cX.seg {a : Addr} (h : cX w a l) (i n : Nat) : cX w (a.add i) ((l.drop i).take n) := fun j v hv => by
 rw [add_add]
 apply h
 rw [List.getElem?_take] at hv
 split at hv
 ·
  rwa [List.getElem?_drop] at hv
 ·
  cases hv
end
structure Out (M : Nat → Prop) (w w' : World) : Prop where
 os : w'.os = w.os
 tape : w'.tape = w.tape
 output : w'.output = w.output
 size : w.heap.size ≤ w'.heap.size
 block : ∀ b, b < w.heap.size → ¬ M b → w'.heap[b]? = w.heap[b]?
def Nil : Nat → Prop := fun _ => False
theorem Out.refl (M : Nat → Prop) (w : World) : Out M w w := ⟨rfl, rfl, rfl, Nat.le_refl _, fun _ _ _ => rfl⟩
theorem Out.trans {M : Nat → Prop} {a b c : World} (h : Out M a b) (k : Out M b c) : Out M a c :=
 ⟨k.os.trans h.os, k.tape.trans h.tape, k.output.trans h.output, Nat.le_trans h.size k.size,
  fun i hi hm => (k.block i (Nat.lt_of_lt_of_le hi h.size) hm).trans (h.block i hi hm)⟩
theorem Out.mono {M M' : Nat → Prop} {a b : World} (h : Out M a b) (hM : ∀ x, x < a.heap.size → M x → M' x) : Out M' a b :=
 ⟨h.os, h.tape, h.output, h.size, fun i hi hm => h.block i hi fun hx => hm (hM i hi hx)⟩
theorem Out.drew (w : World) : Out Nil w w.drew := ⟨rfl, rfl, rfl, Nat.le_refl _, fun _ _ _ => rfl⟩
theorem Out.alloc (w : World) (o : Obj) : Out Nil w (w.alloc o) := ⟨rfl, rfl, rfl, by simp, fun b hb _ => Below.heap_alloc w o b hb⟩
theorem Out.set (w : World) (a : Addr) (v : Value) : Out (· = a.block) w (w.setCell a v) :=
 ⟨rfl, rfl, rfl, by simp [World.setCell], fun b _ hm => Below.heap_setCell w a v b hm⟩
theorem Out.grown {w w' : World} {row : Option Nat} (h : w.grownBy w' row) : Out (fun b => row = some b) w w' :=
 ⟨h.os, h.tape, h.output, h.size, fun b hb hm => h.block b hb fun e => hm e.symm⟩
theorem Out.below {w w' : World} (h : Out Nil w w') : Below w.heap.size w w' := ⟨h.os, h.tape, h.output, h.size, fun k hk => h.block k hk id⟩
def aH (X : Nat → Prop) (p : World → Prop) (w : World) : Prop := ∀ w', (∀ b, b < w.heap.size → ¬ X b → w'.heap[b]? = w.heap[b]?) → p w'
theorem aH.here {X : Nat → Prop} {p : World → Prop} {w : World} (h : aH X p w) : p w := h w fun _ _ _ => rfl
theorem aH.out {X X' M : Nat → Prop} {p : World → Prop} {w w' : World} (h : aH X p w) (ho : Out M w w') (hM : ∀ b, b < w.heap.size → M b → X b) (hX : ∀ b, b < w.heap.size → X' b → X b) : aH X' p w' :=
 fun w'' hw => h w'' fun b hb hx => (hw b (Nat.lt_of_lt_of_le hb ho.size) fun h' => hx (hX b hb h')).trans (ho.block b hb fun hm => hx (hM b hb hm))
theorem aH.imp {X : Nat → Prop} {p q : World → Prop} {w : World} (h : aH X p w) (hi : ∀ w, p w → q w) : aH X q w := fun w' hw => hi w' (h w' hw)
theorem aH.and {X : Nat → Prop} {p q : World → Prop} {w : World} (h : aH X p w) (h' : aH X q w) : aH X (fun w => p w ∧ q w) w := fun w' hw => ⟨h w' hw, h' w' hw⟩
theorem aH.pure {X : Nat → Prop} {p : Prop} {w : World} (h : p) : aH X (fun _ => p) w := fun _ _ => h
theorem aH.mono {X X' : Nat → Prop} {p : World → Prop} {w : World} (h : aH X p w) (hX : ∀ b, b < w.heap.size → X' b → X b) : aH X' p w := fun w' hw => h w' fun b hb hx => hw b hb fun hx' => hx (hX b hb hx')
structure aN where
 fp : Nat → Prop
 ok : World → Prop
 loc : ∀ w w', (∀ b, fp b → w'.heap[b]? = w.heap[b]?) → ok w → ok w'
 lt : ∀ w, ok w → ∀ b, fp b → b < w.heap.size
def aN.blk (b : Nat) (t : TypeId) (l : List Value) : aN where
 fp := (· = b)
 ok := fun w => aM w b t l
 loc := fun _ _ h hb => hb.of_eq (h b rfl)
 lt := fun _ h _ hx => by subst hx; exact h.lt
def aN.obj (b : Nat) (o : Obj) : aN where
 fp := (· = b)
 ok := fun w => w.heap[b]? = some o
 loc := fun _ _ h hb => (h b rfl).trans hb
 lt := fun w h x hx => by
  subst hx
  rcases Nat.lt_or_ge x w.heap.size with hlt | hge
  ·
   exact hlt
  ·
   rw [Array.getElem?_eq_none hge] at h; cases h
theorem mX {w w' : World} {base : Nat} {e : TypeId} {size : Nat} {v : Value} {n : Nat} {xs : List Value} (h : w.ownsRow base e size v n xs)
  (he : ∀ b, v.ownBlock = some b → w'.heap[b]? = w.heap[b]?) : w'.ownsRow base e size v n xs := by
 obtain ⟨h1, h2⟩ := h
 refine ⟨h1, ?_⟩
 rcases h2 with h2 | ⟨g, cap, cur, rfl, hb, hh, hx⟩
 ·
  exact .inl h2
 ·
  exact .inr ⟨g, cap, cur, rfl, hb, (he g rfl).trans hh, hx⟩
def aN.iA (base : Nat) (v : Value) (e : TypeId) (sz n : Nat) (xs : List Value) : aN where
 fp := fun b => v.ownBlock = some b
 ok := fun w => w.ownsRow base e sz v n xs
 loc := fun _ _ h hb => mX hb h
 lt := fun _ h b hb => (h.lt b hb).2
def aN.qR (a b : aN) : Prop := ∀ x, ¬ (a.fp x ∧ b.fp x)
def YY (X : Nat → Prop) (O L : List aN) : Nat → Prop := fun b => X b ∨ (∃ e ∈ O, e.fp b) ∨ ∃ e ∈ L, e.fp b
structure St (X : Nat → Prop) (w0 w : World) (O L : List aN) (Ps : List (World → Prop)) : Prop where
 os : w.os = w0.os
 tape : w.tape = w0.tape
 output : w.output = w0.output
 size : w0.heap.size ≤ w.heap.size
 old : ∀ b, b < w0.heap.size → (∀ e ∈ O, ¬ e.fp b) → w.heap[b]? = w0.heap[b]?
 yP : ∀ e ∈ O, e.ok w
 r7 : ∀ e ∈ L, e.ok w
 tI : ∀ e ∈ O, ∀ b, e.fp b → b < w0.heap.size
 jU : ∀ e ∈ L, ∀ b, e.fp b → w0.heap.size ≤ b
 oK : O.Pairwise aN.qR
 gW : L.Pairwise aN.qR
 y6 : ∀ b, X b → b < w0.heap.size
 iH : ∀ p ∈ Ps, aH (YY X O L) p w
section
variable {X : Nat → Prop} {w0 w w' : World} {O L : List aN} {Ps : List (World → Prop)}
theorem St.start (hX : ∀ b, X b → b < w.heap.size) (hO : ∀ e ∈ O, e.ok w) (hd : O.Pairwise aN.qR) (hP : ∀ p ∈ Ps, aH (YY X O []) p w) : St X w w O [] Ps where
 os := rfl
 tape := rfl
 output := rfl
 size := Nat.le_refl _
 old := fun _ _ _ => rfl
 yP := hO
 r7 := fun _ h => (by cases h)
 tI := fun e he b hb => e.lt w (hO e he) b hb
 jU := fun _ h => (by cases h)
 oK := hd
 gW := .nil
 y6 := hX
 iH := hP
theorem St.aS (H : St X w0 w O L Ps) : ∀ b, YY X O L b → b < w.heap.size := fun b hb => by
 rcases hb with h | ⟨e, he, h⟩ | ⟨e, he, h⟩
 ·
  exact Nat.lt_of_lt_of_le (H.y6 b h) H.size
 ·
  exact e.lt w (H.yP e he) b h
 ·
  exact e.lt w (H.r7 e he) b h
theorem St.TX (H : St X w0 w O L Ps) (e : aN) (he : e ∈ L) (b : Nat) (hb : e.fp b) : b < w.heap.size := e.lt w (H.r7 e he) b hb
theorem St.out (H : St X w0 w O L Ps) (h : Out Nil w w') : St X w0 w' O L Ps where
 os := h.os.trans H.os
 tape := h.tape.trans H.tape
 output := h.output.trans H.output
 size := Nat.le_trans H.size h.size
 old := fun b hb hn => (h.block b (Nat.lt_of_lt_of_le hb H.size) id).trans (H.old b hb hn)
 yP := fun e he => e.loc w w' (fun b hb => h.block b (e.lt w (H.yP e he) b hb) id) (H.yP e he)
 r7 := fun e he => e.loc w w' (fun b hb => h.block b (e.lt w (H.r7 e he) b hb) id) (H.r7 e he)
 tI := H.tI
 jU := H.jU
 oK := H.oK
 gW := H.gW
 y6 := H.y6
 iH := fun p hp => (H.iH p hp).out h (fun _ _ hm => hm.elim) (fun _ _ hx => hx)
theorem St.push (H : St X w0 w O L Ps) (h : Out Nil w w') (e : aN) (he : e.ok w') (hn : ∀ b, e.fp b → w.heap.size ≤ b) : St X w0 w' O (e :: L) Ps :=
 let H' := H.out h
 { H' with
  r7 := fun x hx => by
   cases List.mem_cons.1 hx with
   | inl hx => subst hx; exact he
   | inr hx => exact H'.r7 x hx
  jU := fun x hx => by
   cases List.mem_cons.1 hx with
   | inl hx => subst hx; exact fun b hb => Nat.le_trans H.size (hn b hb)
   | inr hx => exact H'.jU x hx
  gW := List.pairwise_cons.2 ⟨fun x hx b hb => by
   have h1 := hn b hb.1
   have h2 := H.TX x hx b hb.2
   omega, H'.gW⟩
  iH := fun p hp => (H.iH p hp).out h (fun _ _ hm => hm.elim) (fun b hb hx => by
   rcases hx with hx | hx | ⟨x, hx, hb'⟩
   ·
    exact .inl hx
   ·
    exact .inr (.inl hx)
   ·
    cases List.mem_cons.1 hx with
    | inl hx => subst hx; have := hn b hb'; omega
    | inr hx => exact .inr (.inr ⟨x, hx, hb'⟩)) }
theorem eA {α : Type} {l : List α} {i : Nat} {a x : α} (h : x ∈ l.set i a) : x = a ∨ ∃ j, j ≠ i ∧ l[j]? = some x := by
 obtain ⟨j, hj⟩ := List.getElem?_of_mem h
 rw [List.getElem?_set] at hj
 split at hj
 ·
  split at hj
  ·
   injection hj with hj; exact .inl hj.symm
  ·
   cases hj
 ·
  rename_i hne
  exact .inr ⟨j, Ne.symm hne, hj⟩
theorem eS {l : List aN} (h : l.Pairwise aN.qR) {i j : Nat} {a b : aN} (hij : i ≠ j) (ha : l[i]? = some a) (hb : l[j]? = some b) (x : Nat) : ¬ (a.fp x ∧ b.fp x) := by
 rw [List.pairwise_iff_getElem] at h
 obtain ⟨hi, rfl⟩ := List.getElem?_eq_some_iff.1 ha
 obtain ⟨hj, rfl⟩ := List.getElem?_eq_some_iff.1 hb
 rcases Nat.lt_or_gt_of_ne hij with hlt | hlt
 ·
  exact h i j hi hj hlt x
 ·
  exact fun hx => h j i hj hi hlt x hx.symm
theorem r5 {l : List aN} (h : l.Pairwise aN.qR) {i : Nat} {a e : aN} (ha : l[i]? = some a) (he : ∀ x, e.fp x → a.fp x ∨ ∀ y ∈ l, ¬ y.fp x) : (l.set i e).Pairwise aN.qR := by
 rw [List.pairwise_iff_getElem]
 intro j k hj hk hjk x hx
 rw [List.length_set] at hj hk
 rw [List.getElem_set, List.getElem_set] at hx
 have hb : ∀ m (hm : m < l.length), m ≠ i → ¬ (e.fp x ∧ l[m].fp x) := fun m hm hne hh => by
  rcases he x hh.1 with h1 | h1
  ·
   exact eS h hne.symm ha (List.getElem?_eq_getElem hm) x ⟨h1, hh.2⟩
  ·
   exact h1 _ (List.getElem_mem hm) hh.2
 by_cases h1 : i = j
 ·
  by_cases h2 : i = k
  ·
   omega
  ·
   rw [if_pos h1, if_neg h2] at hx
   exact hb k hk (Ne.symm h2) hx
 ·
  by_cases h2 : i = k
  ·
   rw [if_neg h1, if_pos h2] at hx
   exact hb j hj (Ne.symm h1) hx.symm
  ·
   rw [if_neg h1, if_neg h2] at hx
   exact (List.pairwise_iff_getElem.1 h) j k hj hk hjk x hx
theorem St.nY (H : St X w0 w O L Ps) {i : Nat} {e : aN} (hi : L[i]? = some e) (h : Out e.fp w w') (e' : aN) (he : e'.ok w') (hf : ∀ b, e'.fp b → e.fp b ∨ w.heap.size ≤ b) : St X w0 w' O (L.set i e') Ps where
 os := h.os.trans H.os
 tape := h.tape.trans H.tape
 output := h.output.trans H.output
 size := Nat.le_trans H.size h.size
 old := fun b hb hn => (h.block b (Nat.lt_of_lt_of_le hb H.size) fun hm => by have := H.jU e (List.mem_of_getElem? hi) b hm; omega).trans (H.old b hb hn)
 yP := fun x hx => x.loc w w' (fun b hb => h.block b (x.lt w (H.yP x hx) b hb) fun hm => by
  have h1 := H.jU e (List.mem_of_getElem? hi) b hm
  have h2 := H.tI x hx b hb
  omega) (H.yP x hx)
 r7 := fun x hx => by
  rcases eA hx with rfl | ⟨j, hne, hj⟩
  ·
   exact he
  ·
   have hx' := H.r7 x (List.mem_of_getElem? hj)
   exact x.loc w w' (fun b hb => h.block b (x.lt w hx' b hb) fun hm => eS H.gW hne.symm hi hj b ⟨hm, hb⟩) hx'
 tI := H.tI
 jU := fun x hx b hb => by
  rcases eA hx with rfl | ⟨j, hne, hj⟩
  ·
   rcases hf b hb with h1 | h1
   ·
    exact H.jU e (List.mem_of_getElem? hi) b h1
   ·
    exact Nat.le_trans H.size h1
  ·
   exact H.jU x (List.mem_of_getElem? hj) b hb
 oK := H.oK
 gW := r5 H.gW hi fun b hb => by
  rcases hf b hb with h1 | h1
  ·
   exact .inl h1
  ·
   exact .inr fun y hy hy' => by have := H.TX y hy b hy'; omega
 y6 := H.y6
 iH := fun p hp => (H.iH p hp).out h (fun b _ hm => .inr (.inr ⟨e, List.mem_of_getElem? hi, hm⟩)) (fun b hb hx => by
  rcases hx with hx | hx | ⟨x, hx, hb'⟩
  ·
   exact .inl hx
  ·
   exact .inr (.inl hx)
  ·
   rcases eA hx with rfl | ⟨j, hne, hj⟩
   ·
    rcases hf b hb' with h1 | h1
    ·
     exact .inr (.inr ⟨e, List.mem_of_getElem? hi, h1⟩)
    ·
     omega
   ·
    exact .inr (.inr ⟨x, List.mem_of_getElem? hj, hb'⟩))
theorem St.uX (H : St X w0 w O L Ps) {i : Nat} {e : aN} (hi : O[i]? = some e) (h : Out e.fp w w') (e' : aN) (he : e'.ok w') (hf : ∀ b, e'.fp b ↔ e.fp b) : St X w0 w' (O.set i e') L Ps where
 os := h.os.trans H.os
 tape := h.tape.trans H.tape
 output := h.output.trans H.output
 size := Nat.le_trans H.size h.size
 old := fun b hb hn => by
  have hne : ¬ e.fp b := fun hm => hn e' (List.mem_of_getElem? (i := i) (by rw [List.getElem?_set_self (List.getElem?_eq_some_iff.1 hi).1])) ((hf b).2 hm)
  refine (h.block b (Nat.lt_of_lt_of_le hb H.size) hne).trans (H.old b hb fun x hx hb' => ?_)
  obtain ⟨j, hj⟩ := List.getElem?_of_mem hx
  by_cases hij : i = j
  ·
   subst hij; rw [hi] at hj; injection hj with hj; subst hj; exact hne hb'
  ·
   exact hn x (List.mem_of_getElem? (i := j) (by rw [List.getElem?_set_ne hij]; exact hj)) hb'
 yP := fun x hx => by
  rcases eA hx with rfl | ⟨j, hne, hj⟩
  ·
   exact he
  ·
   have hx' := H.yP x (List.mem_of_getElem? hj)
   exact x.loc w w' (fun b hb => h.block b (x.lt w hx' b hb) fun hm => eS H.oK hne.symm hi hj b ⟨hm, hb⟩) hx'
 r7 := fun x hx => x.loc w w' (fun b hb => h.block b (x.lt w (H.r7 x hx) b hb) fun hm => by
  have h1 := H.jU x hx b hb
  have h2 := H.tI e (List.mem_of_getElem? hi) b hm
  omega) (H.r7 x hx)
 tI := fun x hx b hb => by
  rcases eA hx with rfl | ⟨j, hne, hj⟩
  ·
   exact H.tI e (List.mem_of_getElem? hi) b ((hf b).1 hb)
  ·
   exact H.tI x (List.mem_of_getElem? hj) b hb
 jU := H.jU
 oK := r5 H.oK hi fun b hb => .inl ((hf b).1 hb)
 gW := H.gW
 y6 := H.y6
 iH := fun p hp => (H.iH p hp).out h (fun b _ hm => .inr (.inl ⟨e, List.mem_of_getElem? hi, hm⟩)) (fun b hb hx => by
  rcases hx with hx | ⟨x, hx, hb'⟩ | hx
  ·
   exact .inl hx
  ·
   rcases eA hx with rfl | ⟨j, hne, hj⟩
   ·
    exact .inr (.inl ⟨e, List.mem_of_getElem? hi, (hf b).1 hb'⟩)
   ·
    exact .inr (.inl ⟨x, List.mem_of_getElem? hj, hb'⟩)
  ·
   exact .inr (.inr hx))
theorem St.freeze (H : St X w0 w O L Ps) {i : Nat} {e : aN} (hi : L[i]? = some e) : St X w0 w O (L.eraseIdx i) (e.ok :: Ps) where
 os := H.os
 tape := H.tape
 output := H.output
 size := H.size
 old := H.old
 yP := H.yP
 r7 := fun x hx => H.r7 x (List.mem_of_mem_eraseIdx hx)
 tI := H.tI
 jU := fun x hx => H.jU x (List.mem_of_mem_eraseIdx hx)
 oK := H.oK
 gW := H.gW.sublist (List.eraseIdx_sublist _ _)
 y6 := H.y6
 iH := fun p hp => by
  have aHj : ∀ b, YY X O (L.eraseIdx i) b → YY X O L b := fun b hb => by
   rcases hb with hb | hb | ⟨x, hx, hb⟩
   ·
    exact .inl hb
   ·
    exact .inr (.inl hb)
   ·
    exact .inr (.inr ⟨x, List.mem_of_mem_eraseIdx hx, hb⟩)
  cases List.mem_cons.1 hp with
  | inr hp => exact (H.iH p hp).mono fun b _ hb => aHj b hb
  | inl hp =>
   subst hp
   intro w' hw
   have he := H.r7 e (List.mem_of_getElem? hi)
   refine e.loc w w' (fun b hb => hw b (e.lt w he b hb) ?_) he
   rintro (hx | ⟨x, hx, hb'⟩ | ⟨x, hx, hb'⟩)
   ·
    have h1 := H.y6 b hx
    have h2 := H.jU e (List.mem_of_getElem? hi) b hb
    omega
   ·
    have h1 := H.tI x hx b hb'
    have h2 := H.jU e (List.mem_of_getElem? hi) b hb
    omega
   ·
    obtain ⟨j, hj⟩ := List.getElem?_of_mem hx
    rw [List.getElem?_eraseIdx] at hj
    split at hj
    ·
     exact eS H.gW (by omega) hi hj b ⟨hb, hb'⟩
    ·
     exact eS H.gW (by omega) hi hj b ⟨hb, hb'⟩
theorem St.add (H : St X w0 w O L Ps) {p : World → Prop} (h : aH (YY X O L) p w) : St X w0 w O L (p :: Ps) :=
 { H with
  iH := fun q hq => by
   cases List.mem_cons.1 hq with
   | inl e => subst e; exact h
   | inr e => exact H.iH q e }
theorem St.p (H : St X w0 w O L Ps) (i : Nat) {p : World → Prop} (hp : Ps[i]? = some p) : p w := (H.iH p (List.mem_of_getElem? hp)).here
theorem St.bK (H : St X w0 w O L Ps) (i : Nat) {p : World → Prop} (hp : Ps[i]? = some p) : aH (YY X O L) p w := H.iH p (List.mem_of_getElem? hp)
theorem St.l (H : St X w0 w O L Ps) (i : Nat) {e : aN} (hi : L[i]? = some e) : e.ok w := H.r7 e (List.mem_of_getElem? hi)
theorem St.o (H : St X w0 w O L Ps) (i : Nat) {e : aN} (hi : O[i]? = some e) : e.ok w := H.yP e (List.mem_of_getElem? hi)
theorem St.drop (H : St X w0 w O L Ps) {IA : List (World → Prop)} (h : ∀ p ∈ IA, p ∈ Ps) : St X w0 w O L IA := { H with iH := fun p hp => H.iH p (h p hp) }
theorem St.l5 (H : St X w0 w O L Ps) : Out (fun b => ∃ e ∈ O, e.fp b) w0 w :=
 ⟨H.os, H.tape, H.output, H.size, fun b hb hm => H.old b hb fun e he h => hm ⟨e, he, h⟩⟩
theorem St.aL (H : St X w0 w [] L Ps) : Out Nil w0 w := H.l5.mono fun _ _ ⟨_, h, _⟩ => by cases h
theorem St.gQ (_ : St X w0 w O L Ps) {p : World → Prop} (h : aH (YY X O L) p w) : aH X p w := h.mono fun _ _ hx => .inl hx
end
theorem rk {w w' : World} {a : Addr} {l : List Value} {P : Prop} (h : Out Nil w w') : P → cX w a l → cX w' a l := fun _ k => by
 cases l with
 | nil => intro j v hv; simp at hv
 | cons x l => exact k.of_eq (h.block _ (k.xR (Nat.succ_pos _)) id)
end Go.Sp
