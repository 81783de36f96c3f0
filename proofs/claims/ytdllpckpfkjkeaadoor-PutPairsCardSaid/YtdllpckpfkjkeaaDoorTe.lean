/- Walks of functions, printed by a program of this session (gen.py) from notes on each function. -/
import Derived.Test.YtdllpckpfkjkeaaDoorTc
set_option maxRecDepth 100000
set_option maxHeartbeats 1000000
set_option linter.unusedVariables false
set_option linter.unusedSimpArgs false
namespace Go.Sp.Tryd
open Go.Proofs Go.RowKit Go.Sp

/-! the way back up -/
def upS (k : List UInt8) : Nat → List Sh → Sh → Sh
  | _, [], e => e
  | d, b :: bs, e => jnS k d (upS k (d + 1) bs e) b
theorem upS_drop (k : List UInt8) (d : Nat) (bs : List Sh) (e : Sh) (i : Nat) (h : i < bs.length) : upS k (d + i) (bs.drop i) e = jnS k (d + i) (upS k (d + (i + 1)) (bs.drop (i + 1)) e) bs[i] := by
  rw [List.drop_eq_getElem_cons h]
  rfl
theorem upS_cnt (k : List UInt8) (e : Sh) : ∀ (bs : List Sh) (d : Nat), (upS k d bs e).cnt = e.cnt + (bs.map Sh.cnt).sum
  | [], _ => by simp [upS]
  | b :: bs, d => by show (jnS k d _ _).cnt = _; rw [jnS_cnt, upS_cnt k e bs]; simp; omega
def besL (T : Tr) (k : List UInt8) (d n : Nat) : List Tr := (List.range n).map fun j => (T.atN k d j).beside k (j + d)
theorem besL_len (T : Tr) (k : List UInt8) (d n : Nat) : (besL T k d n).length = n := by simp [besL]
theorem besL_snoc (T : Tr) (k : List UInt8) (d n : Nat) : besL T k d (n + 1) = besL T k d n ++ [(T.atN k d n).beside k (n + d)] := by simp [besL, List.range_succ]
theorem besL_cons (T : Tr) (k : List UInt8) (d n : Nat) : besL T k d (n + 1) = T.beside k d :: besL (T.step k d) k (d + 1) n := by
  unfold besL
  rw [List.range_succ_eq_map, List.map_cons, List.map_map]
  congr 1
  · show T.beside k (0 + d) = _; rw [Nat.zero_add]
  · apply List.map_congr_left
    intro j _
    show (T.atN k d (j + 1)).beside k (j + 1 + d) = (Tr.atN k (d + 1) (T.step k d) j).beside k (j + (d + 1))
    rw [Tr.atN_shift, show j + 1 + d = j + (d + 1) by omega]
theorem putS_inner (k v : List UInt8) {d : Nat} {T : Tr} (h : T.er.kind = 2) : putS k v d T.er = jnS k d (putS k v (d + 1) (T.step k d).er) (T.beside k d).er := by
  obtain ⟨a, l, r, rfl⟩ := Tr.kind2 h
  have hb := bitN_lt k d
  show (if bitN k d = 0 then joinS (putS k v (d + 1) l.er) r.er else joinS l.er (putS k v (d + 1) r.er)) = _
  unfold jnS Tr.step Tr.beside Tr.child
  by_cases h0 : bitN k d = 0
  · simp only [h0]; rfl
  · have h1 : bitN k d = 1 := by omega
    simp only [h1]; rfl
theorem putS_up (k v : List UInt8) : ∀ (n d : Nat) (T : Tr), T.dp k d = n → putS k v d T.er = upS k d ((besL T k d n).map Tr.er) (putS k v (n + d) (T.atN k d n).er) := by
  intro n
  induction n with
  | zero => intro d T h; rw [Nat.zero_add]; rfl
  | succ n ih =>
    intro d T h
    have h2 : T.er.kind = 2 := by
      cases T <;> first | rfl | (simp [Tr.dp] at h)
    rw [Tr.dp_step h2] at h
    rw [putS_inner k v h2, besL_cons, ih (d + 1) (T.step k d) (by omega), Tr.atN_shift, show n + (d + 1) = n + 1 + d by omega]
    rfl
theorem pairS_cnt (k q v u : List UInt8) (k' : List UInt8) : ∀ (f d : Nat), (pairS k' (.leaf k v) (.leaf q u) f d).cnt = 2
  | 0, d => by show (jnS _ _ _ _).cnt = 2; rw [jnS_cnt]; rfl
  | f + 1, d => by show (jnS _ _ _ _).cnt = 2; rw [jnS_cnt, pairS_cnt k q v u k' f (d + 1)]; rfl
theorem bes_cnt (k : List UInt8) : ∀ (n d : Nat) (T : Tr), T.dp k d = n → ((besL T k d n).map fun b => b.er.cnt).sum + (T.atN k d n).er.cnt = T.er.cnt := by
  intro n
  induction n with
  | zero => intro d T _; simp [besL, Tr.atN]
  | succ n ih =>
    intro d T h
    have h2 : T.er.kind = 2 := by
      cases T <;> first | rfl | (simp [Tr.dp] at h)
    rw [Tr.dp_step h2] at h
    rw [besL_cons, List.map_cons, List.sum_cons, Tr.atN_shift, Nat.add_assoc, ih (d + 1) _ (by omega)]
    obtain ⟨a, l, r, rfl⟩ := Tr.kind2 h2
    have hb := bitN_lt k d
    unfold Tr.step Tr.beside Tr.child
    by_cases h0 : bitN k d = 0
    · simp only [h0]; show r.er.cnt + l.er.cnt = l.er.cnt + r.er.cnt; omega
    · have h1 : bitN k d = 1 := by omega
      simp only [h1]; rfl
theorem sum_drop (l : List Nat) : ∀ n, (l.drop n).sum ≤ l.sum
  | 0 => Nat.le_refl _
  | n + 1 => by
    cases l with
    | nil => simp
    | cons x l => rw [List.drop_succ_cons, List.sum_cons]; exact Nat.le_trans (sum_drop l n) (Nat.le_add_left _ _)
theorem upS_bound {E g : Sh} {bs : List Tr} {k : List UInt8} {d i : Nat} (hc : E.cnt + ((bs.map Tr.er).map Sh.cnt).sum ≤ 1000000000) (hg : g = upS k (d + (bs.length - i)) ((bs.map Tr.er).drop (bs.length - i)) E) (h : bs.length - 1 - i < bs.length) (hi : i < bs.length) :
    g.cnt + (bs[bs.length - 1 - i]).er.cnt ≤ 1000000000 := by
  rw [hg, upS_cnt, List.map_drop]
  have e : ((bs.map Tr.er).map Sh.cnt).drop (bs.length - 1 - i) = (bs[bs.length - 1 - i]).er.cnt :: ((bs.map Tr.er).map Sh.cnt).drop (bs.length - i) := by
    rw [List.drop_eq_getElem_cons (by simpa using h), List.getElem_map, List.getElem_map, show bs.length - 1 - i + 1 = bs.length - i by omega]
  have := sum_drop ((bs.map Tr.er).map Sh.cnt) (bs.length - 1 - i)
  rw [e, List.sum_cons] at this
  omega

end Go.Sp.Tryd
