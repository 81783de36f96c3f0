/- Walks of functions, printed by a program of this session (gen.py) from notes on each function. -/
import Derived.Test.YtcclagdjpoimaaaGreatDoorGA
import Derived.Test.YtcclagdjpoimaaaGreatDoorGE
import Derived.Test.YtcclagdjpoimaaaGreatDoorStr
import Derived.Test.YtcclagdjpoimaaaGreatDoorOe
set_option maxRecDepth 100000
set_option maxHeartbeats 1000000
set_option linter.unusedVariables false
set_option linter.unusedSimpArgs false
namespace Go.Sp.Tryz
open Go.Proofs Go.RowKit Go.Sp

section
variable {α : Type} {C : α → List Value} {sz : Nat}
theorem flG_len : ∀ (l : List α), (∀ x ∈ l, (C x).length = sz) → (l.flatMap C).length = l.length * sz
  | [], _ => by simp
  | x :: l, h => by
    rw [List.flatMap_cons, List.length_append, h x (by simp), flG_len l (fun y hy => h y (List.mem_cons_of_mem _ hy)), List.length_cons, Nat.succ_mul]; omega
theorem flG_split (l : List α) (h : ∀ x ∈ l, (C x).length = sz) (i : Nat) (hi : i < l.length) : l.flatMap C = (l.take i).flatMap C ++ (C l[i] ++ (l.drop (i + 1)).flatMap C) ∧ ((l.take i).flatMap C).length = i * sz := by
  refine ⟨?_, ?_⟩
  · have e : l = l.take i ++ l[i] :: l.drop (i + 1) := by rw [← List.drop_eq_getElem_cons hi, List.take_append_drop]
    conv => lhs; rw [e]
    rw [List.flatMap_append, List.flatMap_cons]
  · rw [flG_len _ (fun x hx => h x (List.mem_of_mem_take hx)), List.length_take]; congr 1; omega
theorem flG_seg (l : List α) (h : ∀ x ∈ l, (C x).length = sz) (i : Nat) (hi : i < l.length) : ((l.flatMap C).drop (i * sz)).take sz = C l[i] := by
  obtain ⟨e, e2⟩ := flG_split l h i hi
  rw [e, List.drop_left' e2, List.take_left' (h _ (List.getElem_mem hi))]
theorem flG_Seg (l : List α) (h : ∀ x ∈ l, (C x).length = sz) (rest : List Value) (lo : Nat) (hlo : lo ≤ l.length) : Seg (l.flatMap C ++ rest) (lo * sz) ((l.drop lo).flatMap C) := by
  refine ⟨(l.take lo).flatMap C, rest, ?_, ?_⟩
  · rw [← List.append_assoc, ← List.flatMap_append, List.take_append_drop]
  · rw [flG_len _ (fun x hx => h x (List.mem_of_mem_take hx)), List.length_take]; congr 1; omega
theorem flG_laid (l : List α) (h : ∀ x ∈ l, (C x).length = sz) (rest : List Value) {i oo : Nat} (hi : i < l.length) {x : α} (hx : (C x).length = sz) (ho : oo = i * sz) : Laid (l.flatMap C ++ rest) oo (C x) ((l.set i x).flatMap C ++ rest) := by
  subst ho
  refine Laid.left ?_
  obtain ⟨e, e2⟩ := flG_split l h i hi
  have e3 : (l.set i x).flatMap C = (l.take i).flatMap C ++ (C x ++ (l.drop (i + 1)).flatMap C) := by
    rw [List.set_eq_take_append_cons_drop, if_pos hi, List.flatMap_append, List.flatMap_cons]
  rw [e, e3]
  exact Laid.right (o := 0) (Laid.left (Laid.all (by rw [h _ (List.getElem_mem hi), hx]))) (by rw [e2]; omega)
theorem flG_take (l : List α) (h : ∀ x ∈ l, (C x).length = sz) (t : Nat) (ht : t ≤ l.length) (rest : List Value) : (l.flatMap C ++ rest).take (t * sz) = (l.take t).flatMap C := by
  have h1 : ((l.take t).flatMap C).length = t * sz := by rw [flG_len _ (fun x hx => h x (List.mem_of_mem_take hx)), List.length_take]; congr 1; omega
  have h2 : l.flatMap C = (l.take t).flatMap C ++ (l.drop t).flatMap C := by rw [← List.flatMap_append, List.take_append_drop]
  rw [h2, List.append_assoc, List.take_left' h1]
theorem flG_cut (l : List α) (h : ∀ x ∈ l, (C x).length = sz) (lo n : Nat) (hlo : lo + n ≤ l.length) : ((l.flatMap C).drop (lo * sz)).take (n * sz) = ((l.drop lo).take n).flatMap C := by
  have h2 : l.flatMap C = (l.take lo).flatMap C ++ (l.drop lo).flatMap C := by rw [← List.flatMap_append, List.take_append_drop]
  have h1 : ((l.take lo).flatMap C).length = lo * sz := by rw [flG_len _ (fun x hx => h x (List.mem_of_mem_take hx)), List.length_take]; congr 1; omega
  rw [h2, List.drop_left' h1]
  have := flG_take (C := C) (l.drop lo) (fun x hx => h x (List.mem_of_mem_drop hx)) n (by rw [List.length_drop]; omega) []
  rwa [List.append_nil] at this
end
structure Ch where
  k : List UInt8
  s : Value
  v : List UInt8
  d : Bool
def chC (c : Ch) : List Value := kc c.k ++ ([c.s] ++ [.bool c.d])
def XL (l : List Ch) : Prop := ∀ c ∈ l, c.k.length = 32
def SlX (v : Value) (l : List Ch) (w : World) : Prop := SlC w v 34 l.length (l.flatMap chC)
def CVals (l : List Ch) (w : World) : Prop := ∀ c ∈ l, SlB c.s c.v w
def LtX (l : List Ch) : Prop := l.Pairwise fun a b => num a.k < num b.k
def CShort (l : List Ch) : Prop := ∀ c ∈ l, c.v.length ≤ 1000000
theorem chC_len {c : Ch} (h : c.k.length = 32) : (chC c).length = 34 := by simp [chC, kc_length, h]
theorem XL.len {l : List Ch} (h : XL l) : ∀ c ∈ l, (chC c).length = 34 := fun c hc => chC_len (h c hc)
theorem XL.take {l : List Ch} (h : XL l) (i : Nat) : XL (l.take i) := fun c hc => h c (List.mem_of_mem_take hc)
theorem XL.drop {l : List Ch} (h : XL l) (i : Nat) : XL (l.drop i) := fun c hc => h c (List.mem_of_mem_drop hc)
theorem XL.sub {l m : List Ch} (h : XL l) (hs : ∀ c ∈ m, c ∈ l) : XL m := fun c hc => h c (hs c hc)
theorem CVals.sub {l m : List Ch} {w : World} (h : CVals l w) (hs : ∀ c ∈ m, c ∈ l) : CVals m w := fun c hc => h c (hs c hc)
theorem one_chC {c : Ch} (h : c.s.oneCell' = true) : oneAll (chC c) := one_append (kc_one _) (one_append (one_sing h) (one_lit _ rfl))
theorem SlX.rd {v : Value} {l : List Ch} {w : World} (h : SlX v l w) (hk : XL l) (i : Nat) (hi : i < l.length) : RdA w (sAddr v (i * 34)) (chC l[i]) := by
  have := SlC.rd h i hi
  rwa [flG_seg l hk.len i hi] at this
theorem SlX.sub {v : Value} {l : List Ch} {w : World} (h : SlX v l w) (hk : XL l) {lo hi : Nat} (h1 : lo ≤ hi) (h2 : hi ≤ l.length) : SlX (subSl v 34 lo hi) ((l.drop lo).take (hi - lo)) w := by
  have := SlC.sub h h1 h2
  rw [flG_cut l hk.len lo (hi - lo) (by omega)] at this
  unfold SlX
  rwa [show ((l.drop lo).take (hi - lo)).length = hi - lo by simp; omega]
theorem SlX.sub3 {v : Value} {l : List Ch} {w : World} (h : SlX v l w) (hk : XL l) {lo hi : Nat} (h1 : lo ≤ hi) (h2 : hi ≤ l.length) : SlX (subSl3 v 34 lo hi) ((l.drop lo).take (hi - lo)) w := by
  have := SlC.sub3 h h1 h2
  rw [flG_cut l hk.len lo (hi - lo) (by omega)] at this
  unfold SlX
  rwa [show ((l.drop lo).take (hi - lo)).length = hi - lo by simp; omega]
def Ch.en (c : Ch) : En := ⟨c.k, c.s, c.v⟩
def apC (m : List En) (c : Ch) : List En := if c.d then rmM m c.k else putM m c.en
def apM (m : List En) (l : List Ch) : List En := l.foldl apC m
theorem apC_srt {m : List En} {c : Ch} (h : Srt m) (hk : KL m) (hc : c.k.length = 32) : Srt (apC m c) ∧ KL (apC m c) := by
  unfold apC
  split
  · exact ⟨h.filter _, fun e he => hk e (mem_rmM.1 he).1⟩
  · exact ⟨putM_srt h hk hc, putM_kl hk hc⟩
theorem mem_apC {m : List En} {c : Ch} {e : En} : e ∈ apC m c ↔ (c.d = false ∧ e = c.en) ∨ (e ∈ m ∧ e.k ≠ c.k) := by
  unfold apC
  split
  · rename_i h
    rw [mem_rmM, h]; simp
  · rename_i h
    have h2 : c.d = false := by simpa using h
    rw [mem_putM, h2]; simp [Ch.en]
theorem apM_ok : ∀ (l : List Ch) (m : List En), Srt m → KL m → XL l → Srt (apM m l) ∧ KL (apM m l)
  | [], _, h, hk, _ => ⟨h, hk⟩
  | c :: l, m, h, hk, hx => by
    have h1 := apC_srt h hk (hx c (by simp))
    exact apM_ok l (apC m c) h1.1 h1.2 fun d hd => hx d (List.mem_cons_of_mem _ hd)
theorem mem_apM : ∀ (l : List Ch) (m : List En) (e : En), LtX l → (e ∈ apM m l ↔ (∃ c ∈ l, c.d = false ∧ e = c.en) ∨ (e ∈ m ∧ ∀ c ∈ l, e.k ≠ c.k))
  | [], m, e, _ => by simp [apM]
  | c :: l, m, e, hl => by
    have h1 := List.pairwise_cons.1 hl
    have ih := mem_apM l (apC m c) e h1.2
    show e ∈ apM (apC m c) l ↔ _
    rw [ih, mem_apC]
    constructor
    · rintro (⟨x, hx, h2, h3⟩ | ⟨⟨h2, h3⟩ | ⟨h2, h3⟩, h4⟩)
      · exact .inl ⟨x, List.mem_cons_of_mem _ hx, h2, h3⟩
      · exact .inl ⟨c, by simp, h2, h3⟩
      · refine .inr ⟨h2, fun x hx => ?_⟩
        rcases List.mem_cons.1 hx with rfl | hx
        · exact h3
        · exact h4 x hx
    · rintro (⟨x, hx, h2, h3⟩ | ⟨h2, h3⟩)
      · rcases List.mem_cons.1 hx with rfl | hx
        · refine .inr ⟨.inl ⟨h2, h3⟩, fun y hy => ?_⟩
          have := h1.1 y hy
          rw [h3]
          intro hh
          have : num x.k = num y.k := congrArg num hh
          omega
        · exact .inl ⟨x, hx, h2, h3⟩
      · exact .inr ⟨.inr ⟨h2, h3 c (by simp)⟩, fun y hy => h3 y (List.mem_cons_of_mem _ hy)⟩
theorem LtX.sub {l m : List Ch} (h : LtX l) (hs : m.Sublist l) : LtX m := List.Pairwise.sublist hs h
def partX (l : List Ch) (d b : Nat) : List Ch := l.filter fun c => bitN c.k d == b
theorem partX_sub (l : List Ch) (d b : Nat) : (partX l d b).Sublist l := List.filter_sublist
theorem partX_mem {l : List Ch} {d b : Nat} {c : Ch} : c ∈ partX l d b ↔ c ∈ l ∧ bitN c.k d = b := by simp [partX]
theorem apM_part {m : List En} {l : List Ch} {d b : Nat} (hs : Srt m) (hk : KL m) (hx : XL l) (hl : LtX l) : partM (apM m l) d b = apM (partM m d b) (partX l d b) := by
  have h1 := apM_ok l m hs hk hx
  have h2 := apM_ok (partX l d b) (partM m d b) hs.part (fun e he => hk e (partM_mem.1 he).1) (hx.sub fun c hc => (partX_mem.1 hc).1)
  refine Srt.ext h1.1.part h2.1 fun e => ?_
  rw [partM_mem, mem_apM _ _ _ hl, mem_apM _ _ _ (hl.sub (partX_sub l d b))]
  constructor
  · rintro ⟨⟨c, hc, h3, rfl⟩ | ⟨h3, h4⟩, h5⟩
    · exact .inl ⟨c, partX_mem.2 ⟨hc, h5⟩, h3, rfl⟩
    · exact .inr ⟨partM_mem.2 ⟨h3, h5⟩, fun c hc => h4 c (partX_mem.1 hc).1⟩
  · rintro (⟨c, hc, h3, rfl⟩ | ⟨h3, h4⟩)
    · exact ⟨.inl ⟨c, (partX_mem.1 hc).1, h3, rfl⟩, (partX_mem.1 hc).2⟩
    · have h5 := partM_mem.1 h3
      refine ⟨.inr ⟨h5.1, fun c hc hh => ?_⟩, h5.2⟩
      exact h4 c (partX_mem.2 ⟨hc, by rw [← hh]; exact h5.2⟩) hh
def NearX (d : Nat) (m : List En) (l : List Ch) : Prop := ∃ p, (∀ e ∈ m, pre d e.k = p) ∧ ∀ c ∈ l, pre d c.k = p
theorem NearX.part {d b : Nat} {m : List En} {l : List Ch} (h : NearX d m l) (hd : d < 256) (hk : KL m) (hx : XL l) : NearX (d + 1) (partM m d b) (partX l d b) := by
  obtain ⟨p, h1, h2⟩ := h
  refine ⟨2 * p + b, fun e he => ?_, fun c hc => ?_⟩
  · have := partM_mem.1 he
    rw [pre_succ _ (hk e this.1) d hd, h1 e this.1, this.2]
  · have := partX_mem.1 hc
    rw [pre_succ _ (hx c this.1) d hd, h2 c this.1, this.2]
theorem NearX.zero {m : List En} {l : List Ch} (hk : KL m) (hx : XL l) : NearX 0 m l := ⟨0, fun e he => pre_zero _ (hk e he), fun c hc => pre_zero _ (hx c hc)⟩
theorem apM_pm {d : Nat} {m : List En} {l : List Ch} (hd : d ≤ 256) (hs : Srt m) (hk : KL m) (hx : XL l) (hl : LtX l) (hn : NearX d m l) : Pm d (apM m l) where
  le := hd
  kl := (apM_ok l m hs hk hx).2
  dis := (apM_ok l m hs hk hx).1.dis
  com := by
    obtain ⟨p, h1, h2⟩ := hn
    have h : ∀ e ∈ apM m l, pre d e.k = p := fun e he => by
      rcases (mem_apM _ _ _ hl).1 he with ⟨c, hc, _, rfl⟩ | ⟨he, _⟩
      · exact h2 c hc
      · exact h1 e he
    exact fun a ha b hb => (h a ha).trans (h b hb).symm
theorem NearX.one {m : List En} {l : List Ch} (h : NearX 256 m l) (hx : XL l) (hl : LtX l) : l.length ≤ 1 := by
  obtain ⟨p, _, h2⟩ := h
  match l, hx, hl, h2 with
  | [], _, _, _ => simp
  | [a], _, _, _ => simp
  | a :: b :: l, _, hl, h2 =>
    exfalso
    have h3 := (List.pairwise_cons.1 hl).1 b (by simp)
    have h4 := h2 a (by simp)
    have h5 := h2 b (by simp)
    rw [pre_full] at h4 h5
    omega
def liveX (l : List Ch) : List Ch := l.filter fun c => !c.d
theorem liveX_sub (l : List Ch) : (liveX l).Sublist l := List.filter_sublist
theorem liveX_mem {l : List Ch} {c : Ch} : c ∈ liveX l ↔ c ∈ l ∧ c.d = false := by simp [liveX]
theorem apM_live {l : List Ch} (hx : XL l) (hl : LtX l) : apM [] (liveX l) = apM [] l := by
  have h0 : Srt ([] : List En) := List.Pairwise.nil
  have h1 : KL ([] : List En) := fun _ h => by cases h
  refine Srt.ext (apM_ok _ _ h0 h1 (hx.sub fun c hc => (liveX_mem.1 hc).1)).1 (apM_ok _ _ h0 h1 hx).1 fun e => ?_
  rw [mem_apM _ _ _ (hl.sub (liveX_sub l)), mem_apM _ _ _ hl]
  constructor
  · rintro (⟨c, hc, h2, h3⟩ | ⟨h, _⟩)
    · exact .inl ⟨c, (liveX_mem.1 hc).1, h2, h3⟩
    · cases h
  · rintro (⟨c, hc, h2, h3⟩ | ⟨h, _⟩)
    · exact .inl ⟨c, liveX_mem.2 ⟨hc, h2⟩, h2, h3⟩
    · cases h
theorem apM_found {l : List Ch} {e : En} (hx : XL l) (hl : LtX l) (he : e.k.length = 32) (h : ∃ c ∈ l, c.k = e.k) : apM [e] l = apM [] l := by
  have h0 : Srt ([] : List En) := List.Pairwise.nil
  have h1 : KL ([] : List En) := fun _ h => by cases h
  have h2 : Srt [e] := List.pairwise_cons.2 ⟨(fun _ h => by cases h), .nil⟩
  have h3 : KL [e] := fun x hx => by rw [List.mem_singleton.1 hx]; exact he
  refine Srt.ext (apM_ok _ _ h2 h3 hx).1 (apM_ok _ _ h0 h1 hx).1 fun x => ?_
  rw [mem_apM _ _ _ hl, mem_apM _ _ _ hl]
  obtain ⟨c, hc, hk⟩ := h
  constructor
  · rintro (h | ⟨h4, h5⟩)
    · exact .inl h
    · rw [List.mem_singleton.1 h4] at h5
      exact absurd hk.symm (h5 c hc)
  · rintro (h | ⟨h4, _⟩)
    · exact .inl h
    · cases h4
theorem apM_put {l l' : List Ch} {e : En} (hx : XL l) (hl : LtX l) (hl' : LtX l') (he : e.k.length = 32) (hn : ∀ c ∈ l, c.k ≠ e.k) (hm : ∀ c, c ∈ l' ↔ c = ⟨e.k, e.s, e.v, false⟩ ∨ c ∈ l) : apM [] l' = apM [e] l := by
  have h0 : Srt ([] : List En) := List.Pairwise.nil
  have h1 : KL ([] : List En) := fun _ h => by cases h
  have h2 : Srt [e] := List.pairwise_cons.2 ⟨(fun _ h => by cases h), .nil⟩
  have h3 : KL [e] := fun x hx => by rw [List.mem_singleton.1 hx]; exact he
  have hx' : XL l' := fun c hc => by
    rcases (hm c).1 hc with rfl | h
    · exact he
    · exact hx c h
  refine Srt.ext (apM_ok _ _ h0 h1 hx').1 (apM_ok _ _ h2 h3 hx).1 fun x => ?_
  rw [mem_apM _ _ _ hl', mem_apM _ _ _ hl]
  constructor
  · rintro (⟨c, hc, h4, h5⟩ | ⟨h, _⟩)
    · rcases (hm c).1 hc with rfl | hc
      · exact .inr ⟨by rw [h5]; exact List.mem_singleton.2 rfl, fun c hc hh => hn c hc (by rw [← hh, h5]; rfl)⟩
      · exact .inl ⟨c, hc, h4, h5⟩
    · cases h
  · rintro (⟨c, hc, h4, h5⟩ | ⟨h4, h5⟩)
    · exact .inl ⟨c, (hm c).2 (.inr hc), h4, h5⟩
    · exact .inl ⟨_, (hm _).2 (.inl rfl), rfl, List.mem_singleton.1 h4⟩
theorem apM_len (l : List Ch) : ∀ m : List En, (apM m l).length ≤ m.length + l.length := by
  induction l with
  | nil => intro m; simp [apM]
  | cons c l ih =>
    intro m
    have h := ih (apC m c)
    have h1 : (apC m c).length ≤ m.length + 1 := by
      unfold apC
      split
      · have := List.length_filter_le (fun x => decide (x.k ≠ c.k)) m; show (rmM m c.k).length ≤ _; unfold rmM; omega
      · exact putM_len m c.en
    show (apM (apC m c) l).length ≤ _
    rw [List.length_cons]; omega
theorem partX_split {l : List Ch} {d : Nat} {m : List En} (hx : XL l) (hl : LtX l) (hn : NearX d m l) (hd : d < 256) {r : Nat} (hr : r ≤ l.length) (hlo : ∀ i (h : i < l.length), i + 1 = r → bitN l[i].k d ≠ 1) (hhi : ∀ h : r < l.length, bitN l[r].k d = 1) : l.take r = partX l d 0 ∧ l.drop r = partX l d 1 := by
  obtain ⟨p, _, hp⟩ := hn
  have hmono : ∀ i j (hij : i < j) (hj : j < l.length), bitN (l[i]'(by omega)).k d = 1 → bitN l[j].k d = 1 := fun i j hij hj h1 => by
    have hi : i < l.length := by omega
    have hb := bitN_lt l[j].k d
    have hn' := List.pairwise_iff_getElem.1 hl i j hi hj hij
    rcases (show bitN l[j].k d = 0 ∨ bitN l[j].k d = 1 by omega) with h0 | h0
    · have := lt_of_bit (hx _ (List.getElem_mem hj)) (hx _ (List.getElem_mem hi)) hd ((hp _ (List.getElem_mem hj)).trans (hp _ (List.getElem_mem hi)).symm) h0 h1
      omega
    · exact h0
  have h0 : ∀ c ∈ l.take r, bitN c.k d = 0 := fun c hc => by
    obtain ⟨i, hi, rfl⟩ := List.getElem_of_mem hc
    rw [List.length_take] at hi
    rw [List.getElem_take]
    have hb := bitN_lt (l[i]'(by omega)).k d
    rcases (show bitN (l[i]'(by omega)).k d = 0 ∨ bitN (l[i]'(by omega)).k d = 1 by omega) with h | h
    · exact h
    · exfalso
      have h2 := hlo (r - 1) (by omega) (by omega)
      apply h2
      rcases Nat.lt_or_ge i (r - 1) with h3 | h3
      · exact hmono i (r - 1) h3 (by omega) h
      · have : i = r - 1 := by omega
        subst this; exact h
  have h1 : ∀ c ∈ l.drop r, bitN c.k d = 1 := fun c hc => by
    obtain ⟨i, hi, rfl⟩ := List.getElem_of_mem hc
    rw [List.length_drop] at hi
    rw [List.getElem_drop]
    rcases Nat.eq_zero_or_pos i with h | h
    · subst h; exact hhi (by omega)
    · exact hmono r (r + i) (by omega) (by omega) (hhi (by omega))
  have e : l = l.take r ++ l.drop r := (List.take_append_drop r l).symm
  constructor
  · unfold partX
    conv => rhs; rw [e]
    rw [List.filter_append, List.filter_eq_self.2 (fun c hc => by rw [h0 c hc]; rfl), List.filter_eq_nil_iff.2 (fun c hc => by rw [h1 c hc]; simp), List.append_nil]
  · unfold partX
    conv => rhs; rw [e]
    rw [List.filter_append, List.filter_eq_nil_iff.2 (fun c hc => by rw [h0 c hc]; simp), List.filter_eq_self.2 (fun c hc => by rw [h1 c hc]; rfl), List.nil_append]

end Go.Sp.Tryz

set_option maxRecDepth 100000
set_option maxHeartbeats 1000000
set_option linter.unusedVariables false
set_option linter.unusedSimpArgs false
namespace Go.Sp.Tryz
open Go.Proofs Go.RowKit Go.Sp

theorem fillG {α : Type} {l : List α} {z : α} {i m : Nat} (h : i < l.length) : (l.take i ++ List.replicate (m + 1) z).set i l[i] = l.take (i + 1) ++ List.replicate m z := by
  have h1 : (l.take i).length = i := by rw [List.length_take]; omega
  rw [List.set_append_right (h := by omega), h1, Nat.sub_self, List.replicate_succ, List.set_cons_zero, List.take_succ_eq_append_getElem h, List.append_assoc]
  rfl
def KS (l : List Ch) (i : Nat) : List (List UInt8) := (l.map Ch.k).take i ++ List.replicate (l.length - i) (List.replicate 32 0)
theorem KS_k32 {l : List Ch} (h : XL l) (i : Nat) : ∀ k ∈ KS l i, (kc k).length = 32 := fun k hk => by
  rcases List.mem_append.1 hk with hk | hk
  · obtain ⟨c, hc, rfl⟩ := List.mem_map.1 (List.mem_of_mem_take hk)
    rw [kc_length]; exact h c hc
  · rw [(List.mem_replicate.1 hk).2]; simp [kc_length]
theorem KS_len (l : List Ch) {i : Nat} (hi : i ≤ l.length) : (KS l i).length = l.length := by simp [KS]; omega
theorem KS_set {l : List Ch} {i : Nat} (hi : i < l.length) : (KS l i).set i l[i].k = KS l (i + 1) := by
  have h := fillG (l := l.map Ch.k) (z := List.replicate 32 (0 : UInt8)) (i := i) (m := l.length - (i + 1)) (by rw [List.length_map]; exact hi)
  rw [List.getElem_map] at h
  unfold KS
  rw [show l.length - i = l.length - (i + 1) + 1 by omega]
  exact h
theorem KS_end (l : List Ch) : KS l l.length = l.map Ch.k := by
  unfold KS
  rw [List.take_of_length_le (by simp), Nat.sub_self]; simp
theorem zrow_const (n m : Nat) (z : Value) (hm : 0 < m) : zrow n (List.replicate m z) = List.replicate (n * m) z := by
  unfold zrow
  simp only [List.length_replicate]
  refine List.ext_getElem (by simp) fun i h1 h2 => ?_
  rw [List.getElem_replicate, List.getElem_map, getElem!_pos (List.replicate m z) _ (by rw [List.length_replicate]; exact Nat.mod_lt _ hm), List.getElem_replicate]
theorem KS_zero (l : List Ch) : (KS l 0).flatMap kc = zrow l.length (kc (List.replicate 32 0)) := by
  have e : kc (List.replicate 32 0) = List.replicate 32 (.int .u8 0) := by rfl
  have h1 : (KS l 0).flatMap kc = List.replicate (l.length * 32) (.int .u8 0) := by
    unfold KS
    rw [List.take_zero, List.nil_append, Nat.sub_zero, List.flatMap_replicate, e, List.flatten_replicate_replicate]
  rw [h1, e, zrow_const _ _ _ (by decide)]
theorem K32_keys {l : List Ch} (h : XL l) : K32 (l.map Ch.k) := fun k hk => by
  obtain ⟨c, hc, rfl⟩ := List.mem_map.1 hk
  exact h c hc

theorem check1_c {X : Nat → Prop} {w : World} {k : List UInt8} {s : Value} {d : Bool} (hX : ∀ b, X b → b < w.heap.size) (hk : k.length = 32) :
    Ret Tryz.prog 69 [.agg (kc k ++ ([s] ++ [Value.bool d])).toArray].toArray w fun v w' => v = .agg (kc k).toArray ∧ Out Nil w w' := by
  refine Ret.of_body (N := 5) Tryz.func69 rfl rfl (by simp) ?_
  have H := St.begin hX
  refine WE.seq_reg ?_
  refine WL.box (l := kc k ++ ([s] ++ [Value.bool d])) H rfl (rfl) rfl ?_
  intro b1 w1 H
  refine WL.alloc H rfl TryzT.ze31 rfl ?_
  intro b2 w2 H
  refine WL.nil ?_
  refine WE.seq_reg ?_
  refine WL.pv (PV.fieldAddr rfl TryzT.fd69_0 rfl) rfl ?_
  refine WL.loadR rfl TryzT.ag31 rfl rfl (by exact Blk.segAt (H.l 1 rfl) (Seg.l (Seg.all _)) (by rfl)) (by (rw [TryzT.sz31]; refine congrArg some ?_; (simp only [kc_length, kw_length, List.length_replicate, List.length_append, List.length_cons, List.length_nil]; omega))) ?_
  refine WL.storeL H 0 rfl rfl rfl (new := _) rfl (by (rw [TryzT.sz31]; refine congrArg some ?_; (simp only [kc_length, kw_length, List.length_replicate, List.length_append, List.length_cons, List.length_nil]; omega))) (by exact kc_one _) (Laid.at (Laid.all (by (simp only [kc_length, kw_length, List.length_replicate, List.length_append, List.length_cons, List.length_nil]; omega))) (by rfl)) rfl ?_
  intro w3 H
  refine WL.nil ?_
  refine WE.ret ?_
  refine ⟨[_], _, .nil _, ⟨⟨_, rfl, run_loadVar_aggR TryzT.ag31 (by exact Blk.segAt (H.l 0 rfl) (Seg.all _) rfl) (by (rw [TryzT.sz31]; refine congrArg some ?_; (simp only [kc_length, kw_length, List.length_replicate, List.length_append, List.length_cons, List.length_nil]; omega)))⟩, trivial⟩, ?_⟩
  exact ⟨rfl, H.toOut0⟩

theorem apply2_c {X : Nat → Prop} {w : World} {k : List UInt8} {s : Value} {d : Bool} (hX : ∀ b, X b → b < w.heap.size) (hk : k.length = 32) :
    Ret Tryz.prog 75 [.agg (kc k ++ ([s] ++ [Value.bool d])).toArray].toArray w fun v w' => v = .agg (kc k).toArray ∧ Out Nil w w' := by
  refine Ret.of_body (N := 5) Tryz.func75 rfl rfl (by simp) ?_
  have H := St.begin hX
  refine WE.seq_reg ?_
  refine WL.box (l := kc k ++ ([s] ++ [Value.bool d])) H rfl (rfl) rfl ?_
  intro b1 w1 H
  refine WL.alloc H rfl TryzT.ze31 rfl ?_
  intro b2 w2 H
  refine WL.nil ?_
  refine WE.seq_reg ?_
  refine WL.pv (PV.fieldAddr rfl TryzT.fd69_0 rfl) rfl ?_
  refine WL.loadR rfl TryzT.ag31 rfl rfl (by exact Blk.segAt (H.l 1 rfl) (Seg.l (Seg.all _)) (by rfl)) (by (rw [TryzT.sz31]; refine congrArg some ?_; (simp only [kc_length, kw_length, List.length_replicate, List.length_append, List.length_cons, List.length_nil]; omega))) ?_
  refine WL.storeL H 0 rfl rfl rfl (new := _) rfl (by (rw [TryzT.sz31]; refine congrArg some ?_; (simp only [kc_length, kw_length, List.length_replicate, List.length_append, List.length_cons, List.length_nil]; omega))) (by exact kc_one _) (Laid.at (Laid.all (by (simp only [kc_length, kw_length, List.length_replicate, List.length_append, List.length_cons, List.length_nil]; omega))) (by rfl)) rfl ?_
  intro w3 H
  refine WL.nil ?_
  refine WE.ret ?_
  refine ⟨[_], _, .nil _, ⟨⟨_, rfl, run_loadVar_aggR TryzT.ag31 (by exact Blk.segAt (H.l 0 rfl) (Seg.all _) rfl) (by (rw [TryzT.sz31]; refine congrArg some ?_; (simp only [kc_length, kw_length, List.length_replicate, List.length_append, List.length_cons, List.length_nil]; omega)))⟩, trivial⟩, ?_⟩
  exact ⟨rfl, H.toOut0⟩

theorem apply1_c {X : Nat → Prop} {w : World} {k : List UInt8} {s : Value} {d : Bool} (hX : ∀ b, X b → b < w.heap.size) (hk : k.length = 32) :
    Ret Tryz.prog 73 [.agg (kc k ++ ([s] ++ [Value.bool d])).toArray].toArray w fun v w' => v = .bool d ∧ Out Nil w w' := by
  refine Ret.of_body (N := 5) Tryz.func73 rfl rfl (by simp) ?_
  have H := St.begin hX
  refine WE.seq_reg ?_
  refine WL.box (l := kc k ++ ([s] ++ [Value.bool d])) H rfl (rfl) rfl ?_
  intro b1 w1 H
  refine WL.as rfl rfl ?_
  refine WL.nil ?_
  refine WE.seq_reg ?_
  refine WL.pv (PV.fieldAddr rfl TryzT.fd69_2 rfl) rfl ?_
  refine WL.load1 rfl TryzT.ag4 rfl rfl (by exact Blk.segAt (H.l 0 rfl) (Seg.r (Seg.r (Seg.all _) (by with_reducible rfl)) (by with_reducible rfl)) (by (simp [kc_length, kw_length, *]; done))) ?_
  refine WL.as rfl rfl ?_
  refine WL.nil ?_
  refine WE.ret ?_
  refine ⟨[_], _, .nil _, ⟨rfl, trivial⟩, ?_⟩
  exact ⟨rfl, H.toOut0⟩

theorem keys_c {X : Nat → Prop} {w : World} {s f : Value} {l : List Ch} (hX : ∀ b, X b → b < w.heap.size) (hf0 : Rob X (SlX s l) w) (hx : XL l) (hlen : l.length ≤ 1000000) (hone : ∀ c ∈ l, c.s.oneCell' = true) (hf : ∀ (c : Ch) (W : World), c.k.length = 32 → CallV Tryz.prog f [.agg (chC c).toArray] W fun v W' => v = .agg (kc c.k).toArray ∧ Out Nil W W') :
    Ret Tryz.prog 68 [s, f].toArray w fun v w' => Out Nil w w' ∧ Rob X (SlK v (l.map Ch.k)) w' := by
  refine Ret.of_body (N := 26) Tryz.func68 rfl rfl (by simp) ?_
  have H := St.begin hX
  replace H := H.add (rob0 hf0)
  refine WE.seq_reg ?_
  refine WL.as rfl rfl ?_
  refine WL.nil ?_
  refine WE.seq_reg ?_
  refine WL.mv rfl rfl ?_
  refine WL.pv (PV.lenS (by exact (H.p 0 rfl : SlX s l _)) TryzT.sl47 rfl) rfl ?_
  refine WL.makeSlice (n := l.length) H rfl TryzT.st70 rfl (by omega) (by omega) rfl ?_
  intro b10 w2 H
  replace H := H.conv (L' := [Ent.blk b10 31 ((KS l 0).flatMap kc)]) (by rw [KS_zero])
  refine WL.as rfl rfl ?_
  refine WL.nil ?_
  refine WE.seq ?_
  refine WE.seq_reg ?_
  refine WL.mv rfl rfl ?_
  refine WL.pv (PV.lenS (by exact (H.p 0 rfl : SlX s l _)) TryzT.sl47 rfl) rfl ?_
  refine WL.mv rfl rfl ?_
  refine WL.nil ?_
  refine WE.block ?_
  refine WE.loop (α := Nat) [6, 7, 13, 14, 15, 16, 17, 18, 19, 20, 21, 22, 23, 24] (fun i => [(13, .int .i64 (i : Int))]) (fun i wl => i ≤ l.length ∧ St X w wl [] [Ent.blk b10 31 ((KS l i).flatMap kc)] [SlX s l]) (fun i => l.length - i) 0 ⟨rfl, trivial⟩ ⟨Nat.zero_le _, H⟩ ?_
  intro i γ0 w4 hI
  try dsimp only at hI
  obtain ⟨hi, H⟩ := hI
  refine WE.seq_reg ?_
  refine WL.pv (PV.lss rfl rfl rfl) rfl ?_
  refine WL.nil ?_
  refine WE.seq ?_
  refine WE.cond rfl (fun hc14 => ?_) (fun hc14 => ?_)
  · skip
    try simp only [decide_eq_true_eq, decide_eq_false_iff_not, ne_eq, Decidable.not_not, Bool.not_eq_true', Bool.not_eq_false', Bool.and_eq_true, Bool.or_eq_true, Bool.not_not, Bool.and_eq_false_iff, Bool.or_eq_false_iff, Int.not_lt, Int.not_le] at hc14
    have hlt : i < l.length := by omega
    have hki := hx _ (List.getElem_mem hlt)
    have hc34 := chC_len hki
    have hks := KS_set hlt
    refine WE.skip ?_
    refine WE.seq ?_
    refine WE.block ?_
    refine WE.seq_reg ?_
    refine WL.mv rfl rfl ?_
    refine WL.pv (PV.idxS rfl (by exact (H.p 0 rfl : SlX s l _)) TryzT.sl47 TryzT.sz69 rfl rfl (by omega) (by omega)) rfl ?_
    refine WL.loadR rfl TryzT.ag69 rfl rfl (SlX.rd (by exact (H.p 0 rfl : SlX s l _)) hx i hlt) (by (rw [TryzT.sz69]; refine congrArg some ?_; (simp [kc_length, kw_length, *]; done))) ?_
    refine WL.alloc H rfl TryzT.ze69 rfl ?_
    intro b7 w5 H
    refine WL.as rfl rfl ?_
    refine WL.storeL H 0 rfl rfl rfl (new := chC l[i]) rfl (by (rw [TryzT.sz69]; refine congrArg some ?_; (simp [kc_length, kw_length, *]; done))) (one_chC (hone _ (List.getElem_mem hlt))) (Laid.at (Laid.all (by (simp only [kc_length, kw_length, List.length_replicate, List.length_append, List.length_cons, List.length_nil]; omega))) (by rfl)) rfl ?_
    intro w6 H
    refine WL.nil ?_
    refine WE.reg ?_
    refine WL.mv rfl rfl ?_
    refine WL.mv rfl rfl ?_
    refine WL.mv rfl rfl ?_
    refine WL.loadR rfl TryzT.ag69 rfl rfl (by exact Blk.segAt (H.l 0 rfl) (Seg.all _) (by rfl)) (by (rw [TryzT.sz69]; refine congrArg some ?_; (simp [kc_length, kw_length, *]; done))) ?_
    refine WL.callV rfl rfl (hf l[i] _ hki) ?_
    rintro _ w8 ⟨rfl, hO⟩
    replace H := H.out hO
    refine WL.pv (PV.eq (v' := .pointer (some ⟨b10, i * 32, none⟩)) (PV.indexSl rfl TryzT.sl70 TryzT.sz31 rfl rfl (by omega) (by omega)) (by simp)) rfl ?_
    refine WL.storeL H 1 rfl rfl rfl (new := kc l[i].k) rfl (by (rw [TryzT.sz31]; refine congrArg some ?_; (simp only [kc_length, kw_length, List.length_replicate, List.length_append, List.length_cons, List.length_nil]; omega))) (by exact kc_one _) (by have h_ := flG_laid (C := kc) (KS l i) (KS_k32 hx i) [] (i := i) (x := l[i].k) (by rw [KS_len _ (by omega)]; exact hlt) (by rw [kc_length]; exact hki) rfl; rw [List.append_nil, List.append_nil] at h_; exact h_) rfl ?_
    intro w10 H
    refine WL.nil ?_
    refine WE.reg ?_
    refine WL.pv (PV.eq (v' := .int .i64 ((i + 1 : Nat) : Int)) (PV.add64 rfl rfl rfl (by omega) (by omega)) (by rfl)) rfl ?_
    refine WL.mv rfl rfl ?_
    refine WL.nil ?_
    replace H := H.forget 0
    exact ⟨i + 1, (by repeat (first | with_reducible exact Off.refl _ _ | refine Off.upd rfl ?_ | refine Off.setAll rfl ?_ | refine Off.forget' rfl ?_)), ⟨rfl, trivial⟩, rfl, ⟨by omega, H.conv (by rw [← hks]; rfl)⟩, (by omega)⟩
  · skip
    try simp only [decide_eq_true_eq, decide_eq_false_iff_not, ne_eq, Decidable.not_not, Bool.not_eq_true', Bool.not_eq_false', Bool.and_eq_true, Bool.or_eq_true, Bool.not_not, Bool.and_eq_false_iff, Bool.or_eq_false_iff, Int.not_lt, Int.not_le] at hc14
    have hie : i = l.length := by omega
    refine WE.exit ?_
    refine WE.seq_reg ?_
    refine WL.mv rfl rfl ?_
    refine WL.as rfl rfl ?_
    refine WL.nil ?_
    refine WE.ret ?_
    refine ⟨[_], _, .nil _, ⟨rfl, trivial⟩, ?_⟩
    subst hie
    rw [KS_end] at H
    replace H := H.freeze (i := 0) rfl
    exact ⟨H.toOut0, H.give ((H.rob 0 rfl).imp fun _ h => by have h_ := SlC.of_blk (n := l.length) h (by rw [flG_len _ (KS_k32 hx l.length |> fun q => by rw [KS_end] at q; exact q), List.length_map]); unfold SlK; rw [List.length_map]; exact h_)⟩

def fnV (g : FuncId) : Value := .func (.func g) ([] : List Value).toArray ([] : List Value).toArray
theorem check1_call (c : Ch) (W : World) (h : c.k.length = 32) : CallV Tryz.prog (fnV 69) [.agg (chC c).toArray] W fun v W' => v = .agg (kc c.k).toArray ∧ Out Nil W W' :=
  CallV.of_ret (fs := []) (cs := []) TryzT.fb69 (check1_c (X := Nil) (fun _ h => h.elim) h)
theorem apply2_call (c : Ch) (W : World) (h : c.k.length = 32) : CallV Tryz.prog (fnV 75) [.agg (chC c).toArray] W fun v W' => v = .agg (kc c.k).toArray ∧ Out Nil W W' :=
  CallV.of_ret (fs := []) (cs := []) TryzT.fb75 (apply2_c (X := Nil) (fun _ h => h.elim) h)
theorem apply1_call (c : Ch) (W : World) (h : c.k.length = 32) : CallV Tryz.prog (fnV 73) [.agg (chC c).toArray] W fun v W' => v = .bool c.d ∧ Out Nil W W' :=
  CallV.of_ret (fs := []) (cs := []) TryzT.fb73 (apply1_c (X := Nil) (fun _ h => h.elim) h)

end Go.Sp.Tryz

set_option maxRecDepth 100000
set_option maxHeartbeats 1000000
set_option linter.unusedVariables false
set_option linter.unusedSimpArgs false
namespace Go.Sp.Tryz
open Go.Proofs Go.RowKit Go.Sp

open Go.ChangeShapes Go.WideShapes Go.ChangeAt
end Go.Sp.Tryz

set_option maxRecDepth 100000
set_option maxHeartbeats 1000000
set_option linter.unusedVariables false
set_option linter.unusedSimpArgs false
namespace Go.Sp.Tryz
open Go.Proofs Go.RowKit Go.Sp
def chkK : List (List UInt8) → Int
  | a :: b :: r => if cmpI a b = 0 then 9 else if 0 < cmpI a b then 8 else chkK (b :: r)
  | _ => 0
theorem chkK_step {l : List (List UInt8)} {i : Nat} (h : i + 1 < l.length) : chkK (l.drop i) = if cmpI l[i] l[i + 1] = 0 then 9 else if 0 < cmpI l[i] l[i + 1] then 8 else chkK (l.drop (i + 1)) := by
  rw [List.drop_eq_getElem_cons (by omega : i < l.length), List.drop_eq_getElem_cons h]
  rfl
theorem chkK_end {l : List (List UInt8)} {i : Nat} (h : l.length ≤ i + 1) : chkK (l.drop i) = 0 := by
  rcases Nat.lt_or_ge i l.length with hl | hl
  · rw [List.drop_eq_getElem_cons hl, List.drop_eq_nil_of_le (by omega)]; rfl
  · rw [List.drop_eq_nil_of_le hl]; rfl

theorem Check_c {X : Nat → Prop} {w : World} {s : Value} {ks : List (List UInt8)} (hX : ∀ b, X b → b < w.heap.size) (hf0 : Rob X (SlK s ks) w) (hkl : K32 ks) (hlen : ks.length ≤ 1000000) :
    Ret Tryz.prog 67 [s].toArray w fun v w' => v = .int .i64 (chkK ks) ∧ Out Nil w w' := by
  refine Ret.of_body (N := 27) Tryz.func67 rfl rfl (by simp) ?_
  have H := St.begin hX
  replace H := H.add (rob0 hf0)
  refine WE.seq_reg ?_
  refine WL.as rfl rfl ?_
  refine WL.nil ?_
  refine WE.seq ?_
  refine WE.seq_reg ?_
  refine WL.as rfl rfl ?_
  refine WL.nil ?_
  refine WE.block ?_
  refine WE.loop (α := Nat) [2, 3, 4, 5, 6, 7, 8, 9, 10, 11, 12, 13, 14, 15, 16, 17, 18, 19, 20, 21, 22, 23, 24, 25, 26] (fun i => [(3, .int .i64 ((i + 1 : Nat) : Int))]) (fun i wl => i ≤ ks.length ∧ chkK (ks.drop i) = chkK ks ∧ St X w wl [] [] [SlK s ks]) (fun i => ks.length - i) 0 ⟨rfl, trivial⟩ ⟨Nat.zero_le _, rfl, H⟩ ?_
  intro i γ0 w1 hI
  try dsimp only at hI
  obtain ⟨hi, hch, H⟩ := hI
  refine WE.seq ?_
  refine WE.seq_reg ?_
  refine WL.mv rfl rfl ?_
  refine WL.mv rfl rfl ?_
  refine WL.pv (PV.lenS (H.p 0 rfl : SlK s ks _) TryzT.sl70 rfl) rfl ?_
  refine WL.pv (PV.lss rfl rfl rfl) rfl ?_
  refine WL.nil ?_
  refine WE.cond rfl (fun hc8 => ?_) (fun hc8 => ?_)
  · skip
    try simp only [decide_eq_true_eq, decide_eq_false_iff_not, ne_eq, Decidable.not_not, Bool.not_eq_true', Bool.not_eq_false', Bool.and_eq_true, Bool.or_eq_true, Bool.not_not, Bool.and_eq_false_iff, Bool.or_eq_false_iff, Int.not_lt, Int.not_le] at hc8
    have hlt : i + 1 < ks.length := by omega
    have hk1 := hkl _ (List.getElem_mem (show i < ks.length by omega))
    have hk2 := hkl _ (List.getElem_mem hlt)
    have hst := chkK_step hlt
    refine WE.skip ?_
    refine WE.seq ?_
    refine WE.block ?_
    refine WE.seq_draw (.take 0 (.take 1 (.take 2 (.take 3 (.take 4 (.take 5 (.take 6 (.take 7 (.take 8 (.pick1 9 (.take 10 .done))))))))))) TryzT.mixed (by kernel_rfl) ?_
    replace H := H.out (Out.drew _)
    refine WP.mv rfl rfl rfl ?_
    refine WP.mv rfl rfl rfl ?_
    refine WP.take_pure rfl rfl (PV.eq (v' := .int .i64 ((i : Nat) : Int)) (PV.sub64 rfl rfl rfl (by omega) (by omega)) (by congr 1; omega)) ?_
    refine WP.take_pure rfl rfl (PV.idxS rfl (H.p 0 rfl : SlK s ks _) TryzT.sl70 TryzT.sz31 rfl rfl (by omega) (by omega)) ?_
    refine WP.readA rfl rfl rfl TryzT.ag31 rfl (SlK.rd (H.p 0 rfl : SlK s ks _) hkl i (by omega)) (by (rw [TryzT.sz31]; refine congrArg some ?_; (simp only [kc_length, kw_length, List.length_replicate, List.length_append, List.length_cons, List.length_nil]; omega))) ?_
    refine WP.mv rfl rfl rfl ?_
    refine WP.mv rfl rfl rfl ?_
    refine WP.take_pure rfl rfl (PV.idxS rfl (H.p 0 rfl : SlK s ks _) TryzT.sl70 TryzT.sz31 rfl rfl (by omega) (by omega)) ?_
    refine WP.readA rfl rfl rfl TryzT.ag31 rfl (SlK.rd (H.p 0 rfl : SlK s ks _) hkl (i + 1) (by omega)) (by (rw [TryzT.sz31]; refine congrArg some ?_; (simp only [kc_length, kw_length, List.length_replicate, List.length_append, List.length_cons, List.length_nil]; omega))) ?_
    refine WP.pick1 rfl ?_
    refine WL.call TryzT.fb77 rfl (bitsCompare_c (k := ks[i]) (l := ks[i + 1]) H.yylt  hk1 hk2) ?_
    rintro _ w2 ⟨rfl, hO⟩
    replace H := H.out hO
    refine WL.nil ⟨(List.forall_mem_cons.2 ⟨(by exact (fun h => absurd (show waits _ 9 8 = false from h) (by decide +kernel))), (List.forall_mem_cons.2 ⟨(by exact (fun h => absurd (show waits _ 9 4 = false from h) (by decide +kernel))), (fun _ h => by cases h)⟩)⟩), ?_⟩
    refine WP.as rfl rfl rfl ?_
    refine WP.done ?_
    refine WE.block ?_
    refine WE.seq_reg ?_
    refine WL.mv rfl rfl ?_
    refine WL.pv (PV.eql rfl rfl rfl) rfl ?_
    refine WL.as rfl rfl ?_
    refine WL.nil ?_
    refine WE.cond rfl (fun hc21 => ?_) (fun hc21 => ?_)
    · skip
      try simp only [decide_eq_true_eq, decide_eq_false_iff_not, ne_eq, Decidable.not_not, Bool.not_eq_true', Bool.not_eq_false', Bool.and_eq_true, Bool.or_eq_true, Bool.not_not, Bool.and_eq_false_iff, Bool.or_eq_false_iff, Int.not_lt, Int.not_le] at hc21
      have hz0 : cmpI ks[i] ks[i + 1] = 0 := by exact hc21
      refine WE.seq_reg ?_
      refine WL.as rfl rfl ?_
      refine WL.nil ?_
      refine WE.ret ?_
      refine ⟨[_], _, .nil _, ⟨rfl, trivial⟩, ?_⟩
      refine ⟨?_, H.toOut0⟩
      rw [← hch, hst, if_pos hz0]; rfl
    · skip
      try simp only [decide_eq_true_eq, decide_eq_false_iff_not, ne_eq, Decidable.not_not, Bool.not_eq_true', Bool.not_eq_false', Bool.and_eq_true, Bool.or_eq_true, Bool.not_not, Bool.and_eq_false_iff, Bool.or_eq_false_iff, Int.not_lt, Int.not_le] at hc21
      have hn0 : ¬ cmpI ks[i] ks[i + 1] = 0 := by exact hc21
      refine WE.seq_reg ?_
      refine WL.mv rfl rfl ?_
      refine WL.pv (PV.gtr rfl rfl rfl) rfl ?_
      refine WL.as rfl rfl ?_
      refine WL.nil ?_
      refine WE.cond rfl (fun hc24 => ?_) (fun hc24 => ?_)
      · skip
        try simp only [decide_eq_true_eq, decide_eq_false_iff_not, ne_eq, Decidable.not_not, Bool.not_eq_true', Bool.not_eq_false', Bool.and_eq_true, Bool.or_eq_true, Bool.not_not, Bool.and_eq_false_iff, Bool.or_eq_false_iff, Int.not_lt, Int.not_le] at hc24
        have hp1 : 0 < cmpI ks[i] ks[i + 1] := by exact hc24
        refine WE.seq_reg ?_
        refine WL.as rfl rfl ?_
        refine WL.nil ?_
        refine WE.ret ?_
        refine ⟨[_], _, .nil _, ⟨rfl, trivial⟩, ?_⟩
        refine ⟨?_, H.toOut0⟩
        (rw [← hch, hst, if_neg hn0, if_pos hp1]; rfl)
      · skip
        try simp only [decide_eq_true_eq, decide_eq_false_iff_not, ne_eq, Decidable.not_not, Bool.not_eq_true', Bool.not_eq_false', Bool.and_eq_true, Bool.or_eq_true, Bool.not_not, Bool.and_eq_false_iff, Bool.or_eq_false_iff, Int.not_lt, Int.not_le] at hc24
        have hn1 : ¬ 0 < cmpI ks[i] ks[i + 1] := by (have := hc24; omega)
        refine WE.skip ?_
        refine WE.reg ?_
        refine WL.mv rfl rfl ?_
        refine WL.pv (PV.eq (v' := .int .i64 ((i + 1 + 1 : Nat) : Int)) (PV.add64 rfl rfl rfl (by omega) (by omega)) (by congr 1)) rfl ?_
        refine WL.as rfl rfl ?_
        refine WL.nil ?_
        exact ⟨i + 1, (by repeat (first | with_reducible exact Off.refl _ _ | refine Off.upd rfl ?_ | refine Off.setAll rfl ?_ | refine Off.forget' rfl ?_)), ⟨rfl, trivial⟩, rfl, ⟨by omega, by rw [← hch, hst, if_neg hn0, if_neg hn1], H⟩, (by omega)⟩
  · skip
    try simp only [decide_eq_true_eq, decide_eq_false_iff_not, ne_eq, Decidable.not_not, Bool.not_eq_true', Bool.not_eq_false', Bool.and_eq_true, Bool.or_eq_true, Bool.not_not, Bool.and_eq_false_iff, Bool.or_eq_false_iff, Int.not_lt, Int.not_le] at hc8
    have hen := chkK_end (l := ks) (i := i) (by omega)
    refine WE.exit ?_
    refine WE.seq_reg ?_
    refine WL.as rfl rfl ?_
    refine WL.nil ?_
    refine WE.ret ?_
    refine ⟨[_], _, .nil _, ⟨rfl, trivial⟩, ?_⟩
    refine ⟨?_, H.toOut0⟩
    rw [← hch, hen]; rfl

theorem refCheck_c {X : Nat → Prop} {w : World} {s : Value} {ks : List (List UInt8)} (hX : ∀ b, X b → b < w.heap.size) (hf0 : Rob X (SlK s ks) w) (hkl : K32 ks) (hlen : ks.length ≤ 1000000) :
    Ret Tryz.prog 33 [s].toArray w fun v w' => v = .int .i64 (chkK ks) ∧ Out Nil w w' := by
  refine Ret.of_body (N := 25) Tryz.func33 rfl rfl (by simp) ?_
  have H := St.begin hX
  replace H := H.add (rob0 hf0)
  refine WE.seq_reg ?_
  refine WL.as rfl rfl ?_
  refine WL.nil ?_
  refine WE.seq ?_
  refine WE.seq_reg ?_
  refine WL.as rfl rfl ?_
  refine WL.nil ?_
  refine WE.block ?_
  refine WE.loop (α := Nat) [2, 3, 4, 5, 6, 7, 8, 9, 10, 11, 12, 13, 14, 15, 16, 17, 18, 19, 20, 21, 22, 23, 24] (fun i => [(3, .int .i64 ((i + 1 : Nat) : Int))]) (fun i wl => i ≤ ks.length ∧ chkK (ks.drop i) = chkK ks ∧ St X w wl [] [] [SlK s ks]) (fun i => ks.length - i) 0 ⟨rfl, trivial⟩ ⟨Nat.zero_le _, rfl, H⟩ ?_
  intro i γ0 w1 hI
  try dsimp only at hI
  obtain ⟨hi, hch, H⟩ := hI
  refine WE.seq ?_
  refine WE.seq_reg ?_
  refine WL.mv rfl rfl ?_
  refine WL.mv rfl rfl ?_
  refine WL.pv (PV.lenS (H.p 0 rfl : SlK s ks _) TryzT.sl70 rfl) rfl ?_
  refine WL.pv (PV.lss rfl rfl rfl) rfl ?_
  refine WL.nil ?_
  refine WE.cond rfl (fun hc8 => ?_) (fun hc8 => ?_)
  · skip
    try simp only [decide_eq_true_eq, decide_eq_false_iff_not, ne_eq, Decidable.not_not, Bool.not_eq_true', Bool.not_eq_false', Bool.and_eq_true, Bool.or_eq_true, Bool.not_not, Bool.and_eq_false_iff, Bool.or_eq_false_iff, Int.not_lt, Int.not_le] at hc8
    have hlt : i + 1 < ks.length := by omega
    have hk1 := hkl _ (List.getElem_mem (show i < ks.length by omega))
    have hk2 := hkl _ (List.getElem_mem hlt)
    have hst := chkK_step hlt
    refine WE.skip ?_
    refine WE.seq ?_
    refine WE.block ?_
    refine WE.seq_draw (.take 0 (.take 1 (.take 2 (.take 3 (.take 4 (.take 5 (.take 6 (.take 7 (.take 8 (.pick1 9 (.take 10 .done))))))))))) TryzT.mixed (by kernel_rfl) ?_
    replace H := H.out (Out.drew _)
    refine WP.mv rfl rfl rfl ?_
    refine WP.mv rfl rfl rfl ?_
    refine WP.take_pure rfl rfl (PV.eq (v' := .int .i64 ((i : Nat) : Int)) (PV.sub64 rfl rfl rfl (by omega) (by omega)) (by congr 1; omega)) ?_
    refine WP.take_pure rfl rfl (PV.idxS rfl (H.p 0 rfl : SlK s ks _) TryzT.sl70 TryzT.sz31 rfl rfl (by omega) (by omega)) ?_
    refine WP.readA rfl rfl rfl TryzT.ag31 rfl (SlK.rd (H.p 0 rfl : SlK s ks _) hkl i (by omega)) (by (rw [TryzT.sz31]; refine congrArg some ?_; (simp only [kc_length, kw_length, List.length_replicate, List.length_append, List.length_cons, List.length_nil]; omega))) ?_
    refine WP.mv rfl rfl rfl ?_
    refine WP.mv rfl rfl rfl ?_
    refine WP.take_pure rfl rfl (PV.idxS rfl (H.p 0 rfl : SlK s ks _) TryzT.sl70 TryzT.sz31 rfl rfl (by omega) (by omega)) ?_
    refine WP.readA rfl rfl rfl TryzT.ag31 rfl (SlK.rd (H.p 0 rfl : SlK s ks _) hkl (i + 1) (by omega)) (by (rw [TryzT.sz31]; refine congrArg some ?_; (simp only [kc_length, kw_length, List.length_replicate, List.length_append, List.length_cons, List.length_nil]; omega))) ?_
    refine WP.pick1 rfl ?_
    refine WL.call TryzT.fb60 rfl (refCompare_c (k := ks[i]) (l := ks[i + 1]) H.yylt  hk1 hk2) ?_
    rintro _ w2 ⟨rfl, hO⟩
    replace H := H.out hO
    refine WL.nil ⟨(List.forall_mem_cons.2 ⟨(by exact (fun h => absurd (show waits _ 9 8 = false from h) (by decide +kernel))), (List.forall_mem_cons.2 ⟨(by exact (fun h => absurd (show waits _ 9 4 = false from h) (by decide +kernel))), (fun _ h => by cases h)⟩)⟩), ?_⟩
    refine WP.as rfl rfl rfl ?_
    refine WP.done ?_
    refine WE.seq ?_
    refine WE.seq_reg ?_
    refine WL.mv rfl rfl ?_
    refine WL.pv (PV.eql rfl rfl rfl) rfl ?_
    refine WL.nil ?_
    refine WE.cond rfl (fun hc22 => ?_) (fun hc22 => ?_)
    · skip
      try simp only [decide_eq_true_eq, decide_eq_false_iff_not, ne_eq, Decidable.not_not, Bool.not_eq_true', Bool.not_eq_false', Bool.and_eq_true, Bool.or_eq_true, Bool.not_not, Bool.and_eq_false_iff, Bool.or_eq_false_iff, Int.not_lt, Int.not_le] at hc22
      have hz0 : cmpI ks[i] ks[i + 1] = 0 := by exact hc22
      refine WE.seq_reg ?_
      refine WL.as rfl rfl ?_
      refine WL.nil ?_
      refine WE.ret ?_
      refine ⟨[_], _, .nil _, ⟨rfl, trivial⟩, ?_⟩
      refine ⟨?_, H.toOut0⟩
      rw [← hch, hst, if_pos hz0]; rfl
    · skip
      try simp only [decide_eq_true_eq, decide_eq_false_iff_not, ne_eq, Decidable.not_not, Bool.not_eq_true', Bool.not_eq_false', Bool.and_eq_true, Bool.or_eq_true, Bool.not_not, Bool.and_eq_false_iff, Bool.or_eq_false_iff, Int.not_lt, Int.not_le] at hc22
      have hn0 : ¬ cmpI ks[i] ks[i + 1] = 0 := by exact hc22
      refine WE.skip ?_
      refine WE.seq_reg ?_
      refine WL.mv rfl rfl ?_
      refine WL.pv (PV.gtr rfl rfl rfl) rfl ?_
      refine WL.nil ?_
      refine WE.cond rfl (fun hc24 => ?_) (fun hc24 => ?_)
      · skip
        try simp only [decide_eq_true_eq, decide_eq_false_iff_not, ne_eq, Decidable.not_not, Bool.not_eq_true', Bool.not_eq_false', Bool.and_eq_true, Bool.or_eq_true, Bool.not_not, Bool.and_eq_false_iff, Bool.or_eq_false_iff, Int.not_lt, Int.not_le] at hc24
        have hp1 : 0 < cmpI ks[i] ks[i + 1] := by exact hc24
        refine WE.seq_reg ?_
        refine WL.as rfl rfl ?_
        refine WL.nil ?_
        refine WE.ret ?_
        refine ⟨[_], _, .nil _, ⟨rfl, trivial⟩, ?_⟩
        refine ⟨?_, H.toOut0⟩
        (rw [← hch, hst, if_neg hn0, if_pos hp1]; rfl)
      · skip
        try simp only [decide_eq_true_eq, decide_eq_false_iff_not, ne_eq, Decidable.not_not, Bool.not_eq_true', Bool.not_eq_false', Bool.and_eq_true, Bool.or_eq_true, Bool.not_not, Bool.and_eq_false_iff, Bool.or_eq_false_iff, Int.not_lt, Int.not_le] at hc24
        have hn1 : ¬ 0 < cmpI ks[i] ks[i + 1] := by (have := hc24; omega)
        refine WE.skip ?_
        refine WE.reg ?_
        refine WL.mv rfl rfl ?_
        refine WL.pv (PV.eq (v' := .int .i64 ((i + 1 + 1 : Nat) : Int)) (PV.add64 rfl rfl rfl (by omega) (by omega)) (by congr 1)) rfl ?_
        refine WL.as rfl rfl ?_
        refine WL.nil ?_
        exact ⟨i + 1, (by repeat (first | with_reducible exact Off.refl _ _ | refine Off.upd rfl ?_ | refine Off.setAll rfl ?_ | refine Off.forget' rfl ?_)), ⟨rfl, trivial⟩, rfl, ⟨by omega, by rw [← hch, hst, if_neg hn0, if_neg hn1], H⟩, (by omega)⟩
  · skip
    try simp only [decide_eq_true_eq, decide_eq_false_iff_not, ne_eq, Decidable.not_not, Bool.not_eq_true', Bool.not_eq_false', Bool.and_eq_true, Bool.or_eq_true, Bool.not_not, Bool.and_eq_false_iff, Bool.or_eq_false_iff, Int.not_lt, Int.not_le] at hc8
    have hen := chkK_end (l := ks) (i := i) (by omega)
    refine WE.exit ?_
    refine WE.seq_reg ?_
    refine WL.as rfl rfl ?_
    refine WL.nil ?_
    refine WE.ret ?_
    refine ⟨[_], _, .nil _, ⟨rfl, trivial⟩, ?_⟩
    refine ⟨?_, H.toOut0⟩
    rw [← hch, hen]; rfl

theorem SlX.one {s : Value} {l : List Ch} {w : World} (h : CVals l w) : ∀ c ∈ l, c.s.oneCell' = true := fun c hc => SlC.one1 (h c hc)
theorem one_flX {l : List Ch} (h : ∀ c ∈ l, c.s.oneCell' = true) : oneAll (l.flatMap chC) := fun v hv => by
  obtain ⟨c, hc, hv⟩ := List.mem_flatMap.1 hv
  exact one_chC (h c hc) v hv
theorem drop_more {α : Type} {l m : List α} {i j : Nat} (h : l.drop i = m.drop i) (hj : i ≤ j) : l.drop j = m.drop j := by
  have := congrArg (List.drop (j - i)) h
  rwa [List.drop_drop, List.drop_drop, show i + (j - i) = j by omega] at this
theorem take_set_snoc {α : Type} {l : List α} {i : Nat} {x : α} (h : i < l.length) : (l.set i x).take (i + 1) = l.take i ++ [x] := by
  rw [List.take_succ_eq_append_getElem (by rw [List.length_set]; exact h), List.getElem_set_self, List.take_set, List.set_eq_of_length_le (by rw [List.length_take]; omega)]
theorem liveX_snoc {l : List Ch} {i : Nat} (h : i < l.length) : liveX (l.take (i + 1)) = if l[i].d then liveX (l.take i) else liveX (l.take i) ++ [l[i]] := by
  unfold liveX
  rw [List.take_succ_eq_append_getElem h, List.filter_append]
  split
  · rename_i h1; simp [h1]
  · rename_i h1; simp [h1]
theorem liveX_all {l : List Ch} (h : ∀ c ∈ l, c.d = false) : liveX l = l := List.filter_eq_self.2 fun c hc => by rw [h c hc]; rfl
theorem XL.set {l : List Ch} (h : XL l) (i : Nat) {x : Ch} (hx : x.k.length = 32) : XL (l.set i x) := fun e he => by
  rcases List.mem_or_eq_of_mem_set he with h1 | h1
  · exact h e h1
  · rw [h1]; exact hx
theorem SlX.at0 {w : World} {g n cap : Nat} {t : TypeId} {rs : List Ch} {rest : List Value} (h : Blk w g t (rs.flatMap chC ++ rest)) (hk : XL rs) (hn : rs.length = n) (hc : n ≤ cap) : SlC w (.slice (some ⟨g, 0, none⟩) n cap) 34 n (rs.flatMap chC) := by
  have h1 := flG_Seg rs hk.len rest 0 (Nat.zero_le _)
  rw [List.drop_zero] at h1
  exact SlC.of_rd (h.segAt h1 (by simp)) (by rw [flG_len _ hk.len, hn]) hc
theorem chAt {w : World} {g j q : Nat} {t : TypeId} {rs ks : List Ch} {rest : List Value} (h : Blk w g t (rs.flatMap chC ++ rest)) (hk : XL rs) (hrl : rs.length = ks.length) (hd : rs.drop q = ks.drop q) (hq : q ≤ j) (hl : j < ks.length) (n c : Nat) : RdA w (sAddr (.slice (some ⟨g, 0, none⟩) n c) (j * 34)) (chC ks[j]) := by
  have h1 : rs[j]'(by omega) = ks[j] := by
    have e2 : (rs.drop q)[j - q]'(by rw [List.length_drop]; omega) = (ks.drop q)[j - q]'(by rw [List.length_drop]; omega) := by simp only [hd]
    rw [List.getElem_drop, List.getElem_drop] at e2
    simpa [show q + (j - q) = j by omega] using e2
  have h2 := SlX.rd (show SlX _ rs w from SlX.at0 (cap := rs.length) h hk rfl (Nat.le_refl _)) hk j (by omega)
  rw [h1] at h2
  exact h2
theorem subSl_eqX {g n cap lo hi : Nat} (h : lo < cap) : subSl (.slice (some ⟨g, 0, none⟩) n cap) 34 lo hi = .slice (some ⟨g, lo * 34, none⟩) (hi - lo) (cap - lo) := by
  show Value.slice (if cap = lo then _ else _) _ _ = _
  rw [if_neg (by omega)]
  simp [add_mk]

theorem check_c {X : Nat → Prop} {w : World} {s : Value} {l : List Ch} (hX : ∀ b, X b → b < w.heap.size) (hf0 : Rob X (SlX s l) w) (hx : XL l) (hlen : l.length ≤ 1000000) (hone : ∀ c ∈ l, c.s.oneCell' = true) :
    Ret Tryz.prog 39 [s].toArray w fun v w' => v = .int .i64 (chkK (l.map Ch.k)) ∧ Out Nil w w' := by
  refine Ret.of_body (N := 6) Tryz.func39 rfl rfl (by simp) ?_
  have H := St.begin hX
  replace H := H.add (rob0 hf0)
  refine WE.seq_reg ?_
  refine WL.as rfl rfl ?_
  refine WL.nil ?_
  refine WE.seq_reg ?_
  refine WL.mv rfl rfl ?_
  refine WL.call TryzT.fb68 rfl (keys_c (s := s) (l := l) (f := fnV 69) H.yylt (H.rob 0 rfl) hx hlen hone check1_call) ?_
  rintro v4 w1 ⟨hO, hR⟩
  replace H := (H.out hO).add hR
  refine WL.call TryzT.fb67 rfl (Check_c (ks := l.map Ch.k) H.yylt (H.rob 0 rfl) (K32_keys hx) (by rw [List.length_map]; exact hlen)) ?_
  rintro _ w2 ⟨rfl, hO⟩
  replace H := H.out hO
  refine WL.as rfl rfl ?_
  refine WL.nil ?_
  refine WE.ret ?_
  refine ⟨[_], _, .nil _, ⟨rfl, trivial⟩, ?_⟩
  exact ⟨rfl, H.toOut0⟩

theorem CloneX_c {X : Nat → Prop} {w : World} {s : Value} {l : List Ch} (hX : ∀ b, X b → b < w.heap.size) (hf0 : Rob X (SlX s l) w) (hx : XL l) (hlen : l.length ≤ 1000000) (hone : ∀ c ∈ l, c.s.oneCell' = true) :
    Ret Tryz.prog 72 [s].toArray w fun v w' => Out Nil w w' ∧ w'.ownsRow w.heap.size 69 34 v (l).length ((l).flatMap chC) := by
  refine Ret.of_body (N := 8) Tryz.func72 rfl rfl (by simp) ?_
  have H := St.begin hX
  replace H := H.add (rob0 hf0)
  refine WE.seq_reg ?_
  refine WL.as rfl rfl ?_
  refine WL.nil ?_
  refine WE.seq ?_
  refine WE.seq_reg ?_
  refine WL.mv rfl rfl ?_
  refine WL.pv (PV.eqlSn rfl (H.p 0 rfl : SlX s l _) TryzT.sl47 rfl rfl) rfl ?_
  refine WL.nil ?_
  refine WE.cond rfl (fun hc4 => ?_) (fun hc4 => ?_)
  · skip
    try simp only [decide_eq_true_eq, decide_eq_false_iff_not, ne_eq, Decidable.not_not, Bool.not_eq_true', Bool.not_eq_false', Bool.and_eq_true, Bool.or_eq_true, Bool.not_not, Bool.and_eq_false_iff, Bool.or_eq_false_iff, Int.not_lt, Int.not_le] at hc4
    have h0 : l = [] := List.eq_nil_of_length_eq_zero (SlC.nilLen (H.p 0 rfl : SlX s l _) hc4)
    subst h0
    refine WE.seq_reg ?_
    refine WL.as rfl rfl ?_
    refine WL.nil ?_
    refine WE.ret ?_
    refine ⟨[_], _, .nil _, ⟨rfl, trivial⟩, ?_⟩
    exact ⟨H.toOut0, World.ownsRow_nil _ _ _ _⟩
  · skip
    try simp only [decide_eq_true_eq, decide_eq_false_iff_not, ne_eq, Decidable.not_not, Bool.not_eq_true', Bool.not_eq_false', Bool.and_eq_true, Bool.or_eq_true, Bool.not_not, Bool.and_eq_false_iff, Bool.or_eq_false_iff, Int.not_lt, Int.not_le] at hc4
    refine WE.skip ?_
    refine WE.seq_reg ?_
    refine WL.buildSliceF (l0 := []) H rfl TryzT.st47 (by decide) (by rfl) Fl.nil rfl ?_
    intro b5 w1 H
    replace H := H.toOsl (n := 0) (sz := 34) (i := 0) rfl rfl (by decide)
    refine WL.mv rfl rfl ?_
    refine WL.append H 0 TryzT.st47 (by decide) rfl rfl rfl (H.p 0 rfl : SlX s l _) (one_flX hone) (by omega) (by decide) rfl ?_
    intro v7 w2 H
    refine WL.as rfl rfl ?_
    refine WL.nil ?_
    refine WE.ret ?_
    refine ⟨[_], _, .nil _, ⟨rfl, trivial⟩, ?_⟩
    exact ⟨H.toOut0, by have h_ := H.l 0 rfl; rw [Nat.zero_add] at h_; exact h_⟩

theorem IndexX_c {X : Nat → Prop} {w : World} {s f : Value} {l : List Ch} (hX : ∀ b, X b → b < w.heap.size) (hf0 : Rob X (SlX s l) w) (hx : XL l) (hlen : l.length ≤ 1000000) (hf : ∀ (c : Ch) (W : World), c.k.length = 32 → CallV Tryz.prog f [.agg (chC c).toArray] W fun v W' => v = .bool c.d ∧ Out Nil W W') :
    Ret Tryz.prog 105 [s, f].toArray w fun v w' => ∃ z : Int, v = .int .i64 z ∧ Out Nil w w' ∧ ((z = -1 ∧ ∀ c ∈ l, c.d = false) ∨ ∃ i, ∃ h : i < l.length, z = ((i : Nat) : Int) ∧ l[i].d = true ∧ ∀ c ∈ l.take i, c.d = false) := by
  refine Ret.of_body (N := 19) Tryz.func105 rfl rfl (by simp) ?_
  have H := St.begin hX
  replace H := H.add (rob0 hf0)
  refine WE.seq_reg ?_
  refine WL.as rfl rfl ?_
  refine WL.nil ?_
  refine WE.seq ?_
  refine WE.seq_reg ?_
  refine WL.mv rfl rfl ?_
  refine WL.pv (PV.lenS (by exact (H.p 0 rfl : SlX s l _)) TryzT.sl47 rfl) rfl ?_
  refine WL.mv rfl rfl ?_
  refine WL.nil ?_
  refine WE.block ?_
  refine WE.loop (α := Nat) [4, 5, 8, 9, 10, 11, 12, 13, 14, 15, 16, 17, 18] (fun i => [(8, .int .i64 (i : Int))]) (fun i wl => i ≤ l.length ∧ (∀ c ∈ l.take i, c.d = false) ∧ St X w wl [] [] [SlX s l]) (fun i => l.length - i) 0 ⟨rfl, trivial⟩ ⟨Nat.zero_le _, (fun c hc => by simp at hc), H⟩ ?_
  intro i γ0 w1 hI
  try dsimp only at hI
  obtain ⟨hi, hall, H⟩ := hI
  refine WE.seq_reg ?_
  refine WL.pv (PV.lss rfl rfl rfl) rfl ?_
  refine WL.nil ?_
  refine WE.seq ?_
  refine WE.cond rfl (fun hc9 => ?_) (fun hc9 => ?_)
  · skip
    try simp only [decide_eq_true_eq, decide_eq_false_iff_not, ne_eq, Decidable.not_not, Bool.not_eq_true', Bool.not_eq_false', Bool.and_eq_true, Bool.or_eq_true, Bool.not_not, Bool.and_eq_false_iff, Bool.or_eq_false_iff, Int.not_lt, Int.not_le] at hc9
    have hlt : i < l.length := by omega
    have hki := hx _ (List.getElem_mem hlt)
    have hc34 := chC_len hki
    refine WE.skip ?_
    refine WE.seq ?_
    refine WE.block ?_
    refine WE.seq_reg ?_
    refine WL.mv rfl rfl ?_
    refine WL.as rfl rfl ?_
    refine WL.nil ?_
    refine WE.seq_reg ?_
    refine WL.mv rfl rfl ?_
    refine WL.mv rfl rfl ?_
    refine WL.mv rfl rfl ?_
    refine WL.pv (PV.idxS rfl (by exact (H.p 0 rfl : SlX s l _)) TryzT.sl47 TryzT.sz69 rfl rfl (by omega) (by omega)) rfl ?_
    refine WL.loadR rfl TryzT.ag69 rfl rfl (SlX.rd (by exact (H.p 0 rfl : SlX s l _)) hx i hlt) (by (rw [TryzT.sz69]; refine congrArg some ?_; (simp [kc_length, kw_length, *]; done))) ?_
    refine WL.callV rfl rfl (hf l[i] _ hki) ?_
    rintro _ w3 ⟨rfl, hO⟩
    replace H := H.out hO
    refine WL.nil ?_
    refine WE.cond rfl (fun hc16 => ?_) (fun hc16 => ?_)
    · skip
      try simp only [decide_eq_true_eq, decide_eq_false_iff_not, ne_eq, Decidable.not_not, Bool.not_eq_true', Bool.not_eq_false', Bool.and_eq_true, Bool.or_eq_true, Bool.not_not, Bool.and_eq_false_iff, Bool.or_eq_false_iff, Int.not_lt, Int.not_le] at hc16
      have hd : l[i].d = true := by exact hc16
      refine WE.seq_reg ?_
      refine WL.mv rfl rfl ?_
      refine WL.as rfl rfl ?_
      refine WL.nil ?_
      refine WE.ret ?_
      refine ⟨[_], _, .nil _, ⟨rfl, trivial⟩, ?_⟩
      exact ⟨_, rfl, H.toOut0, .inr ⟨i, hlt, rfl, hd, hall⟩⟩
    · skip
      try simp only [decide_eq_true_eq, decide_eq_false_iff_not, ne_eq, Decidable.not_not, Bool.not_eq_true', Bool.not_eq_false', Bool.and_eq_true, Bool.or_eq_true, Bool.not_not, Bool.and_eq_false_iff, Bool.or_eq_false_iff, Int.not_lt, Int.not_le] at hc16
      have hd : l[i].d = false := by exact hc16
      refine WE.skip ?_
      refine WE.reg ?_
      refine WL.pv (PV.eq (v' := .int .i64 ((i + 1 : Nat) : Int)) (PV.add64 rfl rfl rfl (by omega) (by omega)) (by rfl)) rfl ?_
      refine WL.mv rfl rfl ?_
      refine WL.nil ?_
      exact ⟨i + 1, (by repeat (first | with_reducible exact Off.refl _ _ | refine Off.upd rfl ?_ | refine Off.setAll rfl ?_ | refine Off.forget' rfl ?_)), ⟨rfl, trivial⟩, rfl, ⟨by omega, (fun c hc => by rw [List.take_succ_eq_append_getElem hlt] at hc; rcases List.mem_append.1 hc with h_ | h_; exact hall c h_; rw [List.mem_singleton.1 h_]; exact hd), H⟩, (by omega)⟩
  · skip
    try simp only [decide_eq_true_eq, decide_eq_false_iff_not, ne_eq, Decidable.not_not, Bool.not_eq_true', Bool.not_eq_false', Bool.and_eq_true, Bool.or_eq_true, Bool.not_not, Bool.and_eq_false_iff, Bool.or_eq_false_iff, Int.not_lt, Int.not_le] at hc9
    have hie : i = l.length := by omega
    refine WE.exit ?_
    refine WE.seq_reg ?_
    refine WL.as rfl rfl ?_
    refine WL.nil ?_
    refine WE.ret ?_
    refine ⟨[_], _, .nil _, ⟨rfl, trivial⟩, ?_⟩
    exact ⟨_, rfl, H.toOut0, .inl ⟨rfl, fun c hc => by subst hie; rw [List.take_length] at hall; exact hall c hc⟩⟩

theorem Delete_c {X : Nat → Prop} {w : World} {g cap : Nat} {f : Value} {l : List Ch} {rest : List Value} (hX : ∀ b, X b → b < w.heap.size) (ho0 : Blk w g 69 (l.flatMap chC ++ rest)) (hx : XL l) (hlen : l.length ≤ 1000000) (hone : ∀ c ∈ l, c.s.oneCell' = true) (hcap : l.length ≤ cap) (hf : ∀ (c : Ch) (W : World), c.k.length = 32 → CallV Tryz.prog f [.agg (chC c).toArray] W fun v W' => v = .bool c.d ∧ Out Nil W W') :
    Ret Tryz.prog 71 [.slice (some ⟨g, 0, none⟩) l.length cap, f].toArray w fun v w' => v = .slice (some ⟨g, 0, none⟩) (liveX l).length cap ∧ Out (· = g) w w' ∧ ∃ rest', Blk w' g 69 ((liveX l).flatMap chC ++ rest') ∧ rest'.length + (liveX l).length * 34 = rest.length + l.length * 34 := by
  refine Ret.of_body (N := 42) Tryz.func71 rfl rfl (by simp) ?_
  have H := St.begin1 (b := g) (t := 69) (l := l.flatMap chC ++ rest) hX ho0
  have hkr := hx
  have hrl : l.length = l.length := rfl
  refine WE.seq_reg ?_
  refine WL.as rfl rfl ?_
  refine WL.nil ?_
  refine WE.seq_reg ?_
  refine WL.mv rfl rfl ?_
  refine WL.mv rfl rfl ?_
  refine WL.call TryzT.fb105 rfl (IndexX_c (X := Nil) (s := .slice (some ⟨g, 0, none⟩) l.length cap) (l := l) (f := f) (fun _ h => h.elim) ((H.robO 0 rfl).imp fun _ h => SlX.at0 h hx rfl hcap) hx hlen hf) ?_
  rintro _ w1 ⟨z, rfl, hO, hz⟩
  replace H := H.out hO
  refine WL.as rfl rfl ?_
  refine WL.nil ?_
  refine WE.seq ?_
  refine WE.seq_reg ?_
  refine WL.mv rfl rfl ?_
  refine WL.pv (PV.eql rfl rfl rfl) rfl ?_
  refine WL.nil ?_
  refine WE.cond rfl (fun hc12 => ?_) (fun hc12 => ?_)
  · skip
    try simp only [decide_eq_true_eq, decide_eq_false_iff_not, ne_eq, Decidable.not_not, Bool.not_eq_true', Bool.not_eq_false', Bool.and_eq_true, Bool.or_eq_true, Bool.not_not, Bool.and_eq_false_iff, Bool.or_eq_false_iff, Int.not_lt, Int.not_le] at hc12
    have hz1 : z = -1 := by exact hc12
    have hlv : liveX l = l := by rcases hz with ⟨_, h_⟩ | ⟨i_, h_, h2_, _⟩; exact liveX_all h_; omega
    refine WE.seq_reg ?_
    refine WL.mv rfl rfl ?_
    refine WL.as rfl rfl ?_
    refine WL.nil ?_
    refine WE.ret ?_
    refine ⟨[_], _, .nil _, ⟨rfl, trivial⟩, ?_⟩
    rw [hlv]
    exact ⟨rfl, H.toOut.mono fun b _ ⟨_, he, hb⟩ => (by cases List.mem_singleton.1 he; exact hb), rest, H.o 0 rfl, rfl⟩
  · skip
    try simp only [decide_eq_true_eq, decide_eq_false_iff_not, ne_eq, Decidable.not_not, Bool.not_eq_true', Bool.not_eq_false', Bool.and_eq_true, Bool.or_eq_true, Bool.not_not, Bool.and_eq_false_iff, Bool.or_eq_false_iff, Int.not_lt, Int.not_le] at hc12
    obtain ⟨i0, hi0, rfl, hd0, hall⟩ : ∃ i, ∃ h : i < l.length, z = ((i : Nat) : Int) ∧ l[i].d = true ∧ ∀ c ∈ l.take i, c.d = false := by rcases hz with ⟨h_, _⟩ | h_; exact absurd h_ (by exact hc12); exact h_
    have hst0 : l.take i0 = liveX (l.take (i0 + 1)) := by rw [liveX_snoc hi0, if_pos hd0, liveX_all hall]
    refine WE.skip ?_
    refine WE.seq ?_
    refine WE.seq_reg ?_
    refine WL.mv rfl rfl ?_
    refine WL.pv (PV.eq (v' := .int .i64 ((i0 + 1 : Nat) : Int)) (PV.add64 rfl rfl rfl (by omega) (by omega)) (by rfl)) rfl ?_
    refine WL.as rfl rfl ?_
    refine WL.nil ?_
    refine WE.block ?_
    refine WE.loop (α := Nat × Nat × List Ch) [5, 6, 7, 16, 17, 18, 19, 20, 21, 22, 23, 24, 25, 26, 27, 28, 29, 30, 31, 32, 33, 34, 35] (fun q => [(5, .int .i64 (q.1 : Int)), (6, .int .i64 (q.2.1 : Int))]) (fun q wl => (q.1 + 1 ≤ q.2.1 ∧ q.2.1 ≤ l.length) ∧ (XL q.2.2 ∧ q.2.2.length = l.length) ∧ (q.2.2.take q.1 = liveX (l.take q.2.1) ∧ q.2.2.drop q.2.1 = l.drop q.2.1) ∧ St X w wl [Ent.blk g 69 ((q.2.2).flatMap chC ++ rest)] [] []) (fun q => l.length - q.2.1) (i0, i0 + 1, l) ⟨rfl, rfl, trivial⟩ ⟨⟨Nat.le_refl _, by dsimp only; omega⟩, ⟨hx, rfl⟩, ⟨hst0, rfl⟩, H⟩ ?_
    intro ⟨t, j, rs⟩ γ0 w2 hI
    try dsimp only at hI
    obtain ⟨⟨hti, hj⟩, ⟨hkr, hrl⟩, ⟨htk, hdr⟩, H⟩ := hI
    try dsimp only at hti hj hkr hrl htk hdr
    have hq1 : (((t, j, rs) : Nat × Nat × List Ch).snd.fst) = j := rfl
    have hq0 : (((t, j, rs) : Nat × Nat × List Ch).fst) = t := rfl
    refine WE.seq ?_
    refine WE.seq_reg ?_
    refine WL.mv rfl rfl ?_
    refine WL.mv rfl rfl ?_
    refine WL.pv (PV.lenS (SlX.at0 (cap := cap) (H.o 0 rfl) hkr hrl hcap) TryzT.sl47 rfl) rfl ?_
    refine WL.pv (PV.lss rfl rfl rfl) rfl ?_
    refine WL.nil ?_
    refine WE.cond rfl (fun hc19 => ?_) (fun hc19 => ?_)
    · skip
      try simp only [decide_eq_true_eq, decide_eq_false_iff_not, ne_eq, Decidable.not_not, Bool.not_eq_true', Bool.not_eq_false', Bool.and_eq_true, Bool.or_eq_true, Bool.not_not, Bool.and_eq_false_iff, Bool.or_eq_false_iff, Int.not_lt, Int.not_le] at hc19
      have hlt : j < l.length := by omega
      have hkj := hx _ (List.getElem_mem hlt)
      have hc34 := chC_len hkj
      have hsn := liveX_snoc hlt
      refine WE.skip ?_
      refine WE.seq ?_
      refine WE.block ?_
      refine WE.seq_reg ?_
      refine WL.mv rfl rfl ?_
      refine WL.mv rfl rfl ?_
      refine WL.pv (PV.idxS rfl (SlX.at0 (cap := cap) (H.o 0 rfl) hkr hrl hcap) TryzT.sl47 TryzT.sz69 rfl rfl (by omega) (by omega)) rfl ?_
      refine WL.loadR rfl TryzT.ag69 rfl rfl ((chAt (j := j) (q := j) (ks := l) (H.o 0 rfl) hkr hrl hdr (by omega) hlt _ _)) (by (rw [TryzT.sz69]; refine congrArg some ?_; (simp [kc_length, kw_length, *]; done))) ?_
      refine WL.alloc H rfl TryzT.ze69 rfl ?_
      intro b7 w3 H
      refine WL.storeL H 0 rfl rfl rfl (new := chC l[j]) rfl (by (rw [TryzT.sz69]; refine congrArg some ?_; (simp [kc_length, kw_length, *]; done))) (one_chC (hone _ (List.getElem_mem hlt))) (Laid.at (Laid.all (by (simp only [kc_length, kw_length, List.length_replicate, List.length_append, List.length_cons, List.length_nil]; omega))) (by rfl)) rfl ?_
      intro w4 H
      refine WL.nil ?_
      refine WE.seq_reg ?_
      refine WL.mv rfl rfl ?_
      refine WL.loadR rfl TryzT.ag69 rfl rfl (by exact Blk.segAt (H.l 0 rfl) (Seg.all _) (by rfl)) (by (rw [TryzT.sz69]; refine congrArg some ?_; (simp [kc_length, kw_length, *]; done))) ?_
      refine WL.callV rfl rfl (hf l[j] _ hkj) ?_
      rintro _ w6 ⟨rfl, hO⟩
      replace H := H.out hO
      refine WL.pv (PV.not rfl rfl) rfl ?_
      refine WL.nil ?_
      refine WE.cond rfl (fun hc29 => ?_) (fun hc29 => ?_)
      · skip
        try simp only [decide_eq_true_eq, decide_eq_false_iff_not, ne_eq, Decidable.not_not, Bool.not_eq_true', Bool.not_eq_false', Bool.and_eq_true, Bool.or_eq_true, Bool.not_not, Bool.and_eq_false_iff, Bool.or_eq_false_iff, Int.not_lt, Int.not_le] at hc29
        have hdj : l[j].d = false := by exact hc29
        rw [if_neg (by rw [hdj]; decide)] at hsn
        let t2 := t + 1
        let rs2 := rs.set t l[j]
        have ht2 : t2 ≤ t + 1 := Nat.le_refl _
        have hkr2 : XL rs2 := hkr.set _ hkj
        have hrl2 : rs2.length = l.length := by show (rs.set _ _).length = _; rw [List.length_set]; exact hrl
        have htk2 : rs2.take t2 = liveX (l.take (j + 1)) := by show (rs.set t l[j]).take (t + 1) = _; rw [hsn, ← htk, take_set_snoc (by omega)]
        have hdr2 : rs2.drop (j + 1) = l.drop (j + 1) := by show (rs.set t l[j]).drop _ = _; rw [List.drop_set_of_lt (by omega)]; exact drop_more hdr (by omega)
        refine WE.seq_reg ?_
        refine WL.mv rfl rfl ?_
        refine WL.mv rfl rfl ?_
        refine WL.loadR rfl TryzT.ag69 rfl rfl (by exact Blk.segAt (H.l 0 rfl) (Seg.all _) (by rfl)) (by (rw [TryzT.sz69]; refine congrArg some ?_; (simp [kc_length, kw_length, *]; done))) ?_
        refine WL.pv (PV.eq (v' := .pointer (some ⟨g, t * 34, none⟩)) (PV.idxS rfl (SlX.at0 (cap := cap) (H.o 0 rfl) hkr hrl hcap) TryzT.sl47 TryzT.sz69 rfl rfl (by omega) (by omega)) (by show Value.pointer (some ((⟨g, 0, none⟩ : Addr).add (Int.toNat (t : Int) * 34))) = _; rw [add_mk, Int.toNat_natCast, Nat.zero_add])) rfl ?_
        refine WL.storeO H 0 rfl rfl rfl (new := chC l[j]) rfl (by (rw [TryzT.sz69]; refine congrArg some ?_; (simp [kc_length, kw_length, *]; done))) (one_chC (hone _ (List.getElem_mem hlt))) (flG_laid (C := chC) rs hkr.len rest (i := t) (by omega) hc34 rfl) rfl ?_
        intro w8 H
        refine WL.nil ?_
        refine WE.reg ?_
        refine WL.mv rfl rfl ?_
        refine WL.pv (PV.eq (v' := .int .i64 ((t + 1 : Nat) : Int)) (PV.add64 rfl rfl rfl (by omega) (by omega)) (by rfl)) rfl ?_
        refine WL.as rfl rfl ?_
        refine WL.nil ?_
        refine WE.reg ?_
        refine WL.mv rfl rfl ?_
        refine WL.pv (PV.eq (v' := .int .i64 ((j + 1 : Nat) : Int)) (PV.add64 rfl rfl rfl (by omega) (by omega)) (by rfl)) rfl ?_
        refine WL.as rfl rfl ?_
        refine WL.nil ?_
        replace H := H.forget 0
        exact ⟨(t2, j + 1, rs2), (by repeat (first | with_reducible exact Off.refl _ _ | refine Off.upd rfl ?_ | refine Off.setAll rfl ?_ | refine Off.forget' rfl ?_)), ⟨rfl, rfl, trivial⟩, rfl, ⟨⟨by dsimp only; omega, by dsimp only; omega⟩, ⟨hkr2, hrl2⟩, ⟨htk2, hdr2⟩, H⟩, (by dsimp only; omega)⟩
      · skip
        try simp only [decide_eq_true_eq, decide_eq_false_iff_not, ne_eq, Decidable.not_not, Bool.not_eq_true', Bool.not_eq_false', Bool.and_eq_true, Bool.or_eq_true, Bool.not_not, Bool.and_eq_false_iff, Bool.or_eq_false_iff, Int.not_lt, Int.not_le] at hc29
        have hdj : l[j].d = true := by exact hc29
        rw [if_pos hdj] at hsn
        let t2 := t
        let rs2 := rs
        have ht2 : t2 ≤ t + 1 := Nat.le_succ _
        have hkr2 : XL rs2 := hkr
        have hrl2 : rs2.length = l.length := hrl
        have htk2 : rs2.take t2 = liveX (l.take (j + 1)) := by rw [hsn]; exact htk
        have hdr2 : rs2.drop (j + 1) = l.drop (j + 1) := drop_more hdr (by omega)
        refine WE.skip ?_
        refine WE.reg ?_
        refine WL.mv rfl rfl ?_
        refine WL.pv (PV.eq (v' := .int .i64 ((j + 1 : Nat) : Int)) (PV.add64 rfl rfl rfl (by omega) (by omega)) (by rfl)) rfl ?_
        refine WL.as rfl rfl ?_
        refine WL.nil ?_
        replace H := H.forget 0
        exact ⟨(t2, j + 1, rs2), (by repeat (first | with_reducible exact Off.refl _ _ | refine Off.upd rfl ?_ | refine Off.setAll rfl ?_ | refine Off.forget' rfl ?_)), ⟨rfl, rfl, trivial⟩, rfl, ⟨⟨by dsimp only; omega, by dsimp only; omega⟩, ⟨hkr2, hrl2⟩, ⟨htk2, hdr2⟩, H⟩, (by dsimp only; omega)⟩
    · skip
      try simp only [decide_eq_true_eq, decide_eq_false_iff_not, ne_eq, Decidable.not_not, Bool.not_eq_true', Bool.not_eq_false', Bool.and_eq_true, Bool.or_eq_true, Bool.not_not, Bool.and_eq_false_iff, Bool.or_eq_false_iff, Int.not_lt, Int.not_le] at hc19
      have hje : j = l.length := by omega
      refine WE.exit ?_
      refine WE.seq_reg ?_
      refine WL.mv rfl rfl ?_
      refine WL.mv rfl rfl ?_
      refine WL.pv (PV.eq (v' := .slice (some ⟨g, t * 34, none⟩) (l.length - t) (cap - t)) (PV.subL rfl (SlX.at0 (cap := cap) (H.o 0 rfl) hkr hrl hcap) TryzT.sl47 TryzT.sz69 rfl rfl (by omega) (by omega)) (subSl_eqX (by omega))) rfl ?_
      have hSl := (SlX.at0 (cap := cap) (H.o 0 rfl) hkr hrl hcap)
      refine WL.clearO (sz := 34) (zl := _) H 0 TryzT.sl47 TryzT.ze69 (one_lit _ rfl) rfl rfl rfl (by omega) (by rw [List.length_append, flG_len _ hkr.len, hrl]; omega) rfl ?_
      intro w11 new hnl H
      refine WL.nil ?_
      refine WE.seq_reg ?_
      refine WL.mv rfl rfl ?_
      refine WL.mv rfl rfl ?_
      refine WL.pv (PV.eq (v' := .slice (some ⟨g, 0, none⟩) t cap) (PV.subH rfl hSl TryzT.sl47 TryzT.sz69 rfl rfl (by omega) (by omega)) (by have h_ := subSl_eqX (g := g) (n := l.length) (cap := cap) (lo := 0) (hi := t) (by omega); rw [Nat.zero_mul] at h_; exact h_)) rfl ?_
      refine WL.as rfl rfl ?_
      refine WL.nil ?_
      refine WE.ret ?_
      refine ⟨[_], _, .nil _, ⟨rfl, trivial⟩, ?_⟩
      have hck : rs.take t = liveX l := by have h_ := htk; rw [hje, List.take_length] at h_; exact h_
      have hcl : (liveX l).length = t := by rw [← hck, List.length_take]; omega
      have hB2_ := show Blk _ g _ _ from H.o 0 rfl
      rw [flG_take rs hkr.len t (by omega), hck, List.append_assoc] at hB2_
      rw [hcl]
      refine ⟨rfl, H.toOut.mono fun b _ ⟨_, he, hb⟩ => (by cases List.mem_singleton.1 he; exact hb), _, hB2_, ?_⟩
      rw [List.length_append, hnl, List.length_drop, List.length_append, flG_len _ hkr.len, hrl]; omega

theorem DeleteNil_c {X : Nat → Prop} {w : World} {f : Value} (hX : ∀ b, X b → b < w.heap.size) (hf : ∀ (c : Ch) (W : World), c.k.length = 32 → CallV Tryz.prog f [.agg (chC c).toArray] W fun v W' => v = .bool c.d ∧ Out Nil W W') :
    Ret Tryz.prog 71 [.slice none 0 0, f].toArray w fun v w' => v = .slice none 0 0 ∧ Out Nil w w' := by
  refine Ret.of_body (N := 42) Tryz.func71 rfl rfl (by simp) ?_
  have H := St.begin hX
  refine WE.seq_reg ?_
  refine WL.as rfl rfl ?_
  refine WL.nil ?_
  refine WE.seq_reg ?_
  refine WL.mv rfl rfl ?_
  refine WL.mv rfl rfl ?_
  refine WL.call TryzT.fb105 rfl (IndexX_c (X := Nil) (s := .slice none 0 0) (l := []) (f := f) (fun _ h => h.elim) (fun _ _ => SlC.nil _ 34) (fun _ h => by cases h) (Nat.zero_le _) hf) ?_
  rintro _ w1 ⟨z, rfl, hO, hz⟩
  replace H := H.out hO
  obtain rfl : z = -1 := by rcases hz with ⟨h_, _⟩ | ⟨i_, h_, _⟩; exact h_; exact absurd h_ (Nat.not_lt_zero _)
  refine WL.as rfl rfl ?_
  refine WL.nil ?_
  refine WE.seq ?_
  refine WE.seq_reg ?_
  refine WL.mv rfl rfl ?_
  refine WL.pv (PV.eql rfl rfl rfl) rfl ?_
  refine WL.nil ?_
  refine WE.cond_t' rfl rfl ?_
  refine WE.seq_reg ?_
  refine WL.mv rfl rfl ?_
  refine WL.as rfl rfl ?_
  refine WL.nil ?_
  refine WE.ret ?_
  refine ⟨[_], _, .nil _, ⟨rfl, trivial⟩, ?_⟩
  exact ⟨rfl, H.toOut0⟩

theorem DeleteOwn_c {w : World} {base : Nat} {v f : Value} {l : List Ch} (hown : w.ownsRow base 69 34 v l.length (l.flatMap chC)) (hx : XL l) (hlen : l.length ≤ 1000000) (hone : ∀ c ∈ l, c.s.oneCell' = true) (hf : ∀ (c : Ch) (W : World), c.k.length = 32 → CallV Tryz.prog f [.agg (chC c).toArray] W fun v W' => v = .bool c.d ∧ Out Nil W W') :
    Ret Tryz.prog 71 [v, f].toArray w fun v' w' => Out (fun b => v.ownBlock = some b) w w' ∧ w'.ownsRow base 69 34 v' (liveX l).length ((liveX l).flatMap chC) ∧ v'.ownBlock = v.ownBlock := by
  obtain ⟨h1, ⟨rfl, h2⟩ | ⟨g, cap, cur, rfl, hg, hcur, hcap, hmax, hsz, htake⟩⟩ := hown
  · have h3 : l = [] := List.eq_nil_of_length_eq_zero h2
    subst h3
    refine (DeleteNil_c (X := Nil) (w := w) (fun _ h => h.elim) hf).mono ?_
    rintro v' w' ⟨rfl, hO⟩
    exact ⟨hO.mono fun _ _ h => h.elim, World.ownsRow_nil _ _ _ _, rfl⟩
  · have hB : Blk w g 69 (l.flatMap chC ++ cur.toList.drop (l.length * 34)) := by
      unfold Blk
      rw [← htake, List.take_append_drop]
      exact hcur
    refine (Delete_c (X := Nil) (w := w) (fun _ h => h.elim) hB hx hlen hone hcap hf).mono ?_
    rintro v' w' ⟨rfl, hO, rest', hB', hl⟩
    have hcl : (liveX l).length ≤ l.length := List.length_filter_le ..
    have hck : XL (liveX l) := hx.sub fun c hc => (liveX_mem.1 hc).1
    refine ⟨hO.mono fun b _ h => by rw [h]; rfl, ⟨flG_len _ hck.len, .inr ⟨g, cap, ((liveX l).flatMap chC ++ rest').toArray, rfl, hg, hB', by omega, hmax, ?_, ?_⟩⟩, rfl⟩
    · simp only [List.size_toArray, List.length_append]
      rw [flG_len _ hck.len]
      have h4 : (cur.toList.drop (l.length * 34)).length = cap * 34 - l.length * 34 := by rw [List.length_drop, Array.length_toList, hsz]
      have h5 : l.length * 34 ≤ cap * 34 := Nat.mul_le_mul_right _ hcap
      omega
    · rw [List.toList_toArray, List.take_left' (flG_len _ hck.len)]

end Go.Sp.Tryz

