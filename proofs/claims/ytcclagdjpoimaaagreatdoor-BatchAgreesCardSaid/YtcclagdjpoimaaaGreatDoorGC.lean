/- Walks of functions, printed by a program of this session (gen.py) from notes on each function. -/
import Derived.Test.YtcclagdjpoimaaaGreatDoorG8
set_option maxRecDepth 100000
set_option maxHeartbeats 1000000
set_option linter.unusedVariables false
set_option linter.unusedSimpArgs false
namespace Go.Sp.Tryz
open Go.Proofs Go.RowKit Go.Sp

theorem Srt.part {m : List En} {d b : Nat} (h : Srt m) : Srt (partM m d b) := h.filter _
theorem joinS_grow {d : Nat} {m : List En} (h : Pm d m) (hd : d < 256) : joinS (grow (d + 1) (partM m d 0)) (grow (d + 1) (partM m d 1)) = grow d m := by
  match m, h with
  | [], _ => simp [partM, grow_nil, joinS]
  | [e], _ =>
    have hb := bitN_lt e.k d
    rw [grow_one]
    by_cases h0 : bitN e.k d = 0
    · have e0 : partM [e] d 0 = [e] := by simp [partM, h0]
      have e1 : partM [e] d 1 = [] := by simp [partM, h0]
      rw [e0, e1, grow_one, grow_nil]; rfl
    · have e0 : partM [e] d 0 = [] := by simp [partM, h0]
      have e1 : partM [e] d 1 = [e] := by simp [partM]; omega
      rw [e0, e1, grow_one, grow_nil]; rfl
  | a :: b :: m, h =>
    rw [grow_many d _ hd (by simp)]
    exact joinS_inner (by rw [(h.part hd 0).cnt, (h.part hd 1).cnt, part_len]; simp)
theorem rmM_part (m : List En) (k : List UInt8) (d b : Nat) : partM (rmM m k) d b = rmM (partM m d b) k := by
  unfold partM rmM
  rw [List.filter_filter, List.filter_filter]
  apply List.filter_congr
  intro e _
  rw [Bool.and_comm]
theorem rmM_other {m : List En} {k : List UInt8} {d b : Nat} (hb : bitN k d ≠ b) : rmM (partM m d b) k = partM m d b := by
  unfold rmM
  rw [List.filter_eq_self]
  intro e he
  have := (partM_mem.1 he).2
  simp
  rintro rfl
  exact hb this
theorem ins_lt {e x : En} {l : List En} (h : num e.k < num x.k) : ins e (x :: l) = e :: x :: l := if_pos h
theorem ins_ge {e x : En} {l : List En} (h : ¬ num e.k < num x.k) : ins e (x :: l) = x :: ins e l := if_neg h
theorem ins_filter {e : En} {p : En → Bool} : ∀ {l : List En}, Srt l → (ins e l).filter p = if p e then ins e (l.filter p) else l.filter p := by
  intro l
  induction l with
  | nil => intro _; cases hp : p e <;> simp [ins, hp]
  | cons x l ih =>
    intro hs
    have h1 := List.pairwise_cons.1 hs
    by_cases hl : num e.k < num x.k
    · rw [ins_lt hl]
      cases hp : p e
      · simp [List.filter_cons, hp]
      · rw [List.filter_cons_of_pos hp, if_pos rfl]
        have hall : ∀ y ∈ (x :: l).filter p, num e.k < num y.k := fun y hy => by
          rcases List.mem_cons.1 (List.mem_filter.1 hy).1 with rfl | hy
          · exact hl
          · exact Nat.lt_trans hl (h1.1 y hy)
        generalize (x :: l).filter p = q at *
        cases q with
        | nil => rfl
        | cons y q => exact (ins_lt (hall y (by simp))).symm
    · rw [ins_ge hl, List.filter_cons, ih h1.2]
      cases hx : p x
      · rw [List.filter_cons, hx]; rfl
      · rw [List.filter_cons, hx]
        cases hp : p e
        · rfl
        · show x :: ins e _ = ins e (x :: _)
          rw [ins_ge hl]
theorem putM_part {m : List En} {e : En} {d : Nat} (hs : Srt m) : partM (putM m e) d (bitN e.k d) = putM (partM m d (bitN e.k d)) e := by
  unfold putM
  have := ins_filter (e := e) (p := fun x => bitN x.k d == bitN e.k d) (hs.filter (p := fun x => decide (x.k ≠ e.k)))
  unfold partM
  show List.filter _ (ins e (rmM m e.k)) = _
  rw [show rmM m e.k = m.filter fun x => decide (x.k ≠ e.k) from rfl, this]
  rw [if_pos (by simp)]
  congr 1
  exact rmM_part m e.k d (bitN e.k d)
theorem putM_other {m : List En} {e : En} {d b : Nat} (hs : Srt m) (hb : bitN e.k d ≠ b) : partM (putM m e) d b = partM m d b := by
  have := ins_filter (e := e) (p := fun x => bitN x.k d == b) (hs.filter (p := fun x => decide (x.k ≠ e.k)))
  unfold partM putM
  rw [show rmM m e.k = m.filter fun x => decide (x.k ≠ e.k) from rfl, this]
  rw [if_neg (by simpa using hb)]
  have h2 : partM (rmM m e.k) d b = partM m d b := by rw [rmM_part, rmM_other hb]
  exact h2
def Near (d : Nat) (m : List En) (k : List UInt8) : Prop := ∀ e ∈ m, d ≤ comN e.k k
theorem Near.part {d : Nat} {m : List En} {k : List UInt8} (h : Near d m k) (hd : d < 256) : Near (d + 1) (partM m d (bitN k d)) k := fun e he =>
  (comN_succ hd).2 ⟨h e (partM_mem.1 he).1, (partM_mem.1 he).2⟩
theorem Near.zero (m : List En) (k : List UInt8) : Near 0 m k := fun _ _ => Nat.zero_le _
theorem put_pm {d : Nat} {m : List En} {e : En} (h : Pm d m) (hs : Srt m) (he : e.k.length = 32) (hn : Near d m e.k) : Pm d (putM m e) where
  le := h.le
  kl := putM_kl h.kl he
  dis := (putM_srt hs h.kl he).dis
  com := by
    have hp : ∀ x ∈ putM m e, pre d x.k = pre d e.k := fun x hx => by
      rcases mem_putM.1 hx with rfl | ⟨hx, _⟩
      · rfl
      · exact (pre_com (h.kl x hx) he d h.le).2 (hn x hx)
    intro a ha b hb
    rw [hp a ha, hp b hb]
def jnS (k : List UInt8) (d : Nat) (n b : Sh) : Sh := if bitN k d = 0 then joinS n b else joinS b n
theorem jnS_cnt (k : List UInt8) (d : Nat) (n b : Sh) : (jnS k d n b).cnt = n.cnt + b.cnt := by unfold jnS; split <;> rw [joinS_cnt]; omega
def pairS (k : List UInt8) (a b : Sh) : Nat → Nat → Sh
  | 0, c => jnS k c a b
  | f + 1, d => jnS k d (pairS k a b f (d + 1)) .nil
theorem pair_grow {a b : En} (ha : a.k.length = 32) (hb : b.k.length = 32) (hne : num a.k ≠ num b.k) : ∀ (f d : Nat), d + f = comN a.k b.k → ∀ m : List En, (m = [a, b] ∨ m = [b, a]) → pairS a.k (.leaf a.k a.v) (.leaf b.k b.v) f d = grow d m := by
  have hc : comN a.k b.k < 256 := by
    rcases Nat.lt_or_ge (comN a.k b.k) 256 with h | h
    · exact h
    · exact absurd (congrArg num ((comN_full ha hb).1 h)) hne
  have hpm : ∀ d, d ≤ comN a.k b.k → ∀ m : List En, (m = [a, b] ∨ m = [b, a]) → Pm d m := fun d hd m hm => by
    have hpre := (pre_com ha hb d (by omega)).2 hd
    refine ⟨by omega, ?_, ?_, ?_⟩
    · rcases hm with rfl | rfl <;> (intro e he; simp at he; rcases he with rfl | rfl <;> assumption)
    · rcases hm with rfl | rfl <;> simp <;> first | exact hne | exact hne.symm
    · intro x hx y hy
      have h1 : ∀ z ∈ m, pre d z.k = pre d a.k := by rcases hm with rfl | rfl <;> (intro z hz; simp at hz; rcases hz with rfl | rfl <;> simp [hpre])
      rw [h1 x hx, h1 y hy]
  intro f
  induction f with
  | zero =>
    intro d hd m hm
    have hd' : d < 256 := by omega
    have hbit : bitN a.k d ≠ bitN b.k d := by rw [show d = comN a.k b.k by omega]; exact (comN_is a.k b.k).ne hc
    have h1 := bitN_lt a.k d
    have h2 := bitN_lt b.k d
    rw [grow_many d m hd' (by rcases hm with rfl | rfl <;> simp)]
    show jnS a.k d _ _ = _
    unfold jnS
    by_cases h0 : bitN a.k d = 0
    · have hb1 : bitN b.k d = 1 := by omega
      have e0 : partM m d 0 = [a] := by rcases hm with rfl | rfl <;> simp [partM, h0, hb1]
      have e1 : partM m d 1 = [b] := by rcases hm with rfl | rfl <;> simp [partM, h0, hb1]
      rw [if_pos h0, e0, e1, grow_one, grow_one]; rfl
    · have ha1 : bitN a.k d = 1 := by omega
      have hb0 : bitN b.k d = 0 := by omega
      have e0 : partM m d 0 = [b] := by rcases hm with rfl | rfl <;> simp [partM, ha1, hb0]
      have e1 : partM m d 1 = [a] := by rcases hm with rfl | rfl <;> simp [partM, ha1, hb0]
      rw [if_neg h0, e0, e1, grow_one, grow_one]; rfl
  | succ f ih =>
    intro d hd m hm
    have hd' : d < 256 := by omega
    have hbit : bitN a.k d = bitN b.k d := (comN_is a.k b.k).eq d (by omega)
    have h1 := bitN_lt a.k d
    show jnS a.k d _ _ = _
    have hp : partM m d (bitN a.k d) = m := by rcases hm with rfl | rfl <;> simp [partM, hbit]
    have hq : partM m d (1 - bitN a.k d) = [] := by
      have : bitN b.k d ≠ 1 - bitN b.k d := by rw [← hbit]; omega
      rcases hm with rfl | rfl <;> simp [partM, hbit, this]
    have hl : 2 ≤ m.length := by rcases hm with rfl | rfl <;> simp
    rw [ih (d + 1) (by omega) m hm]
    rw [← joinS_grow (hpm d (by omega) m hm) hd']
    unfold jnS
    by_cases h0 : bitN a.k d = 0
    · rw [if_pos h0]
      rw [h0] at hp hq
      rw [hp, show partM m d 1 = [] from hq, grow_nil]
    · have ha1 : bitN a.k d = 1 := by omega
      rw [if_neg h0]
      rw [ha1] at hp hq
      rw [hp, show partM m d 0 = [] from hq, grow_nil]
def putS (k v : List UInt8) : Nat → Sh → Sh
  | _, .nil => .leaf k v
  | d, .leaf q u => if q = k then .leaf k v else pairS q (.leaf q u) (.leaf k v) (comN q k - d) d
  | d, .inner l r => if bitN k d = 0 then joinS (putS k v (d + 1) l) r else joinS l (putS k v (d + 1) r)
theorem putS_grow (e : En) (he : e.k.length = 32) : ∀ (n d : Nat) (m : List En), 256 - d = n → Pm d m → Srt m → Near d m e.k → putS e.k e.v d (grow d m) = grow d (putM m e) := by
  intro n
  induction n with
  | zero =>
    intro d m hn hp hs hnr
    match m, hp, hs, hnr with
    | [], _, _, _ => rw [grow_nil]; exact (grow_one d e).symm
    | [x], hp, hs, hnr =>
      rw [grow_one]
      have hx := hp.kl x (by simp)
      have hcm := hnr x (by simp)
      have hd := hp.le
      have hxe : x.k = e.k := (comN_full hx he).1 (by omega)
      show (if x.k = e.k then _ else _) = _
      rw [if_pos hxe]
      have : putM [x] e = [e] := by simp [putM, rmM, hxe, ins]
      rw [this, grow_one]
    | a :: b :: m, hp, _, _ => have := hp.lt (by simp); omega
  | succ n ih =>
    intro d m hn hp hs hnr
    match m, hp, hs, hnr with
    | [], _, _, _ => rw [grow_nil]; exact (grow_one d e).symm
    | [x], hp, hs, hnr =>
      rw [grow_one]
      have hx := hp.kl x (by simp)
      have hcm := hnr x (by simp)
      show (if x.k = e.k then _ else _) = _
      by_cases hxe : x.k = e.k
      · rw [if_pos hxe]
        have : putM [x] e = [e] := by simp [putM, rmM, hxe, ins]
        rw [this, grow_one]
      · rw [if_neg hxe]
        refine pair_grow hx he (fun h => hxe (num_inj _ _ (by rw [hx, he]) h)) _ d (by omega) _ ?_
        have : rmM [x] e.k = [x] := by simp [rmM, hxe]
        unfold putM
        rw [this]
        unfold ins
        split
        · exact .inr rfl
        · exact .inl rfl
    | a :: b :: m, hp, hs, hnr =>
      have hd := hp.lt (by simp)
      have hb := bitN_lt e.k d
      have hpm2 := put_pm hp hs he hnr
      rw [← joinS_grow hpm2 hd, grow_many d _ hd (by simp)]
      show (if bitN e.k d = 0 then _ else _) = _
      by_cases h0 : bitN e.k d = 0
      · rw [if_pos h0]
        have hpt := putM_part (d := d) (e := e) hs
        have hot := putM_other (d := d) (b := 1) (e := e) hs (by omega)
        have hnp := hnr.part hd
        rw [h0] at hpt hnp
        rw [hpt, hot, ih (d + 1) _ (by omega) (hp.part hd 0) hs.part hnp]
      · have h1 : bitN e.k d = 1 := by omega
        rw [if_neg h0]
        have hpt := putM_part (d := d) (e := e) hs
        have hot := putM_other (d := d) (b := 0) (e := e) hs (by omega)
        have hnp := hnr.part hd
        rw [h1] at hpt hnp
        rw [hpt, hot, ih (d + 1) _ (by omega) (hp.part hd 1) hs.part hnp]
theorem putS_map {d : Nat} {m : List En} (e : En) (he : e.k.length = 32) (hp : Pm d m) (hs : Srt m) (hn : Near d m e.k) : putS e.k e.v d (grow d m) = grow d (putM m e) := putS_grow e he _ d m rfl hp hs hn
def remS (k : List UInt8) : Nat → Sh → Sh
  | _, .nil => .nil
  | _, .leaf q u => if q = k then .nil else .leaf q u
  | d, .inner l r => if bitN k d = 0 then joinS (remS k (d + 1) l) r else joinS l (remS k (d + 1) r)
theorem rm_pm {d : Nat} {m : List En} {k : List UInt8} (h : Pm d m) : Pm d (rmM m k) where
  le := h.le
  kl := rmM_kl h.kl
  dis := h.dis.filter _
  com := fun a ha b hb => h.com a (mem_rmM.1 ha).1 b (mem_rmM.1 hb).1
end Go.Sp.Tryz

set_option maxRecDepth 100000
set_option maxHeartbeats 1000000
set_option linter.unusedVariables false
set_option linter.unusedSimpArgs false
namespace Go.Sp.Tryz
open Go.Proofs Go.RowKit Go.Sp

def upS (k : List UInt8) : Nat → List Sh → Sh → Sh
  | _, [], e => e
  | d, b :: bs, e => jnS k d (upS k (d + 1) bs e) b
theorem upS_drop (k : List UInt8) (d : Nat) (bs : List Sh) (e : Sh) (i : Nat) (h : i < bs.length) : upS k (d + i) (bs.drop i) e = jnS k (d + i) (upS k (d + (i + 1)) (bs.drop (i + 1)) e) bs[i] := by
  rw [List.drop_eq_getElem_cons h]
  rfl
theorem upS_cnt (k : List UInt8) (e : Sh) : ∀ (bs : List Sh) (d : Nat), (upS k d bs e).cnt = e.cnt + (bs.map Sh.cnt).sum
  | [], _ => by simp [upS]
  | b :: bs, d => by show (jnS k d _ _).cnt = _; rw [jnS_cnt, upS_cnt k e bs]; simp; omega
def besL (T : Tr) (k : List UInt8) (d n : Nat) : List Tr := (List.range n).map fun j => (T.atN k d j).beside k (j + d)
theorem besL_len (T : Tr) (k : List UInt8) (d n : Nat) : (besL T k d n).length = n := by simp [besL]
theorem besL_snoc (T : Tr) (k : List UInt8) (d n : Nat) : besL T k d (n + 1) = besL T k d n ++ [(T.atN k d n).beside k (n + d)] := by simp [besL, List.range_succ]
theorem besL_cons (T : Tr) (k : List UInt8) (d n : Nat) : besL T k d (n + 1) = T.beside k d :: besL (T.step k d) k (d + 1) n := by
  unfold besL
  rw [List.range_succ_eq_map, List.map_cons, List.map_map]
  congr 1
  · show T.beside k (0 + d) = _; rw [Nat.zero_add]
  · apply List.map_congr_left
    intro j _
    show (T.atN k d (j + 1)).beside k (j + 1 + d) = (Tr.atN k (d + 1) (T.step k d) j).beside k (j + (d + 1))
    rw [Tr.atN_shift, show j + 1 + d = j + (d + 1) by omega]
theorem putS_inner (k v : List UInt8) {d : Nat} {T : Tr} (h : T.er.kind = 2) : putS k v d T.er = jnS k d (putS k v (d + 1) (T.step k d).er) (T.beside k d).er := by
  obtain ⟨a, l, r, rfl⟩ := Tr.kind2 h
  have hb := bitN_lt k d
  show (if bitN k d = 0 then joinS (putS k v (d + 1) l.er) r.er else joinS l.er (putS k v (d + 1) r.er)) = _
  unfold jnS Tr.step Tr.beside Tr.child
  by_cases h0 : bitN k d = 0
  · simp only [h0]; rfl
  · have h1 : bitN k d = 1 := by omega
    simp only [h1]; rfl
theorem putS_up (k v : List UInt8) : ∀ (n d : Nat) (T : Tr), T.dp k d = n → putS k v d T.er = upS k d ((besL T k d n).map Tr.er) (putS k v (n + d) (T.atN k d n).er) := by
  intro n
  induction n with
  | zero => intro d T h; rw [Nat.zero_add]; rfl
  | succ n ih =>
    intro d T h
    have h2 : T.er.kind = 2 := by
      cases T <;> first | rfl | (simp [Tr.dp] at h)
    rw [Tr.dp_step h2] at h
    rw [putS_inner k v h2, besL_cons, ih (d + 1) (T.step k d) (by omega), Tr.atN_shift, show n + (d + 1) = n + 1 + d by omega]
    rfl
theorem pairS_cnt (k q v u : List UInt8) (k' : List UInt8) : ∀ (f d : Nat), (pairS k' (.leaf k v) (.leaf q u) f d).cnt = 2
  | 0, d => by show (jnS _ _ _ _).cnt = 2; rw [jnS_cnt]; rfl
  | f + 1, d => by show (jnS _ _ _ _).cnt = 2; rw [jnS_cnt, pairS_cnt k q v u k' f (d + 1)]; rfl
theorem bes_cnt (k : List UInt8) : ∀ (n d : Nat) (T : Tr), T.dp k d = n → ((besL T k d n).map fun b => b.er.cnt).sum + (T.atN k d n).er.cnt = T.er.cnt := by
  intro n
  induction n with
  | zero => intro d T _; simp [besL, Tr.atN]
  | succ n ih =>
    intro d T h
    have h2 : T.er.kind = 2 := by
      cases T <;> first | rfl | (simp [Tr.dp] at h)
    rw [Tr.dp_step h2] at h
    rw [besL_cons, List.map_cons, List.sum_cons, Tr.atN_shift, Nat.add_assoc, ih (d + 1) _ (by omega)]
    obtain ⟨a, l, r, rfl⟩ := Tr.kind2 h2
    have hb := bitN_lt k d
    unfold Tr.step Tr.beside Tr.child
    by_cases h0 : bitN k d = 0
    · simp only [h0]; show r.er.cnt + l.er.cnt = l.er.cnt + r.er.cnt; omega
    · have h1 : bitN k d = 1 := by omega
      simp only [h1]; rfl
theorem sum_drop (l : List Nat) : ∀ n, (l.drop n).sum ≤ l.sum
  | 0 => Nat.le_refl _
  | n + 1 => by
    cases l with
    | nil => simp
    | cons x l => rw [List.drop_succ_cons, List.sum_cons]; exact Nat.le_trans (sum_drop l n) (Nat.le_add_left _ _)
theorem upS_bound {E g : Sh} {bs : List Tr} {k : List UInt8} {d i : Nat} (hc : E.cnt + ((bs.map Tr.er).map Sh.cnt).sum ≤ 1000000000) (hg : g = upS k (d + (bs.length - i)) ((bs.map Tr.er).drop (bs.length - i)) E) (h : bs.length - 1 - i < bs.length) (hi : i < bs.length) :
    g.cnt + (bs[bs.length - 1 - i]).er.cnt ≤ 1000000000 := by
  rw [hg, upS_cnt, List.map_drop]
  have e : ((bs.map Tr.er).map Sh.cnt).drop (bs.length - 1 - i) = (bs[bs.length - 1 - i]).er.cnt :: ((bs.map Tr.er).map Sh.cnt).drop (bs.length - i) := by
    rw [List.drop_eq_getElem_cons (by simpa using h), List.getElem_map, List.getElem_map, show bs.length - 1 - i + 1 = bs.length - i by omega]
  have := sum_drop ((bs.map Tr.er).map Sh.cnt) (bs.length - 1 - i)
  rw [e, List.sum_cons] at this
  omega

end Go.Sp.Tryz

