/- Walks of functions, printed by a program of this session (gen.py) from notes on each function. -/
import Derived.Test.YtcclagdjpoimaaaGreatDoorYp
set_option maxRecDepth 100000
set_option maxHeartbeats 1000000
set_option linter.unusedVariables false
set_option linter.unusedSimpArgs false
namespace Go.Sp.Tryz
open Go.Proofs Go.RowKit Go.Sp

theorem getM_noneI {m : List En} {k : List UInt8} : getM m k = none ↔ ∀ e ∈ m, e.k ≠ k := by
  unfold getM
  rw [List.find?_eq_none]
  constructor
  · intro h e he hk; exact h e he (by simpa using hk)
  · intro h e he hk; exact h e he (by simpa using hk)
theorem getM_in {m : List En} {k : List UInt8} {e : En} (h : getM m k = some e) : e ∈ m ∧ e.k = k := ⟨List.mem_of_find?_eq_some h, by have := List.find?_some h; simpa using this⟩
theorem LtX.uniq : ∀ {l : List Ch}, LtX l → ∀ {c d : Ch}, c ∈ l → d ∈ l → c.k = d.k → c = d
  | [], _, _, _, h, _, _ => by cases h
  | x :: l, hl, c, d, hc, hd, hk => by
    have h1 := List.pairwise_cons.1 hl
    have hn := congrArg num hk
    rcases List.mem_cons.1 hc with hc' | hc'
    · rcases List.mem_cons.1 hd with hd' | hd'
      · rw [hc', hd']
      · have := h1.1 d hd'; rw [hc'] at hn; omega
    · rcases List.mem_cons.1 hd with hd' | hd'
      · have := h1.1 c hc'; rw [hd'] at hn; omega
      · exact LtX.uniq h1.2 hc' hd' hk
def gS (m : List En) (k : List UInt8) : Value := match getM m k with | some e => e.s | none => .slice none 0 0
def gV (m : List En) (k : List UInt8) : List UInt8 := match getM m k with | some e => e.v | none => []
theorem gV_SlB {m : List En} {w : World} (h : Vals m w) (k : List UInt8) : SlB (gS m k) (gV m k) w := by
  unfold gS gV
  cases hg : getM m k with
  | none => exact SlB.nil w
  | some e => exact h e (getM_in hg).1
theorem gV_len {m : List En} (h : ShortV m) (k : List UInt8) : (gV m k).length ≤ 1000000 := by
  unfold gV
  cases hg : getM m k with
  | none => exact Nat.zero_le _
  | some e => exact h e (getM_in hg).1
theorem getR_eq (m : List En) (k : List UInt8) : getR m k = .tuple [gS m k, .bool (hasM m k)].toArray := by
  unfold getR gS hasM
  cases getM m k <;> rfl
def delK (k : List UInt8) : Ch := ⟨k, .slice none 0 0, [], true⟩
def unC (m : List En) (c : Ch) : List Ch :=
  if hasM m c.k = true then (if c.d = true ∨ gV m c.k ≠ c.v then [⟨c.k, gS m c.k, gV m c.k, false⟩] else []) else if c.d = true then [] else [delK c.k]
def unX (m : List En) (l : List Ch) : List Ch := l.flatMap (unC m)
theorem unC_key {m : List En} {c d : Ch} (h : d ∈ unC m c) : d.k = c.k := by
  unfold unC at h
  split at h
  · split at h
    · rw [List.mem_singleton.1 h]
    · cases h
  · split at h
    · cases h
    · rw [List.mem_singleton.1 h]; rfl
theorem unC_len (m : List En) (c : Ch) : (unC m c).length ≤ 1 := by
  unfold unC
  split <;> split <;> simp
theorem unX_snoc {m : List En} {l : List Ch} {i : Nat} (h : i < l.length) : unX m (l.take (i + 1)) = unX m (l.take i) ++ unC m l[i] := by
  unfold unX
  rw [List.take_succ_eq_append_getElem h, List.flatMap_append, List.flatMap_singleton]
theorem unX_len (m : List En) : ∀ l : List Ch, (unX m l).length ≤ l.length
  | [] => Nat.le_refl _
  | c :: l => by
    have h1 := unC_len m c
    have h2 := unX_len m l
    show (unC m c ++ unX m l).length ≤ l.length + 1
    rw [List.length_append]; omega
theorem lt_flat {α : Type} (f : α → List Ch) (g : α → List UInt8) (hk : ∀ a, ∀ c ∈ f a, c.k = g a) (hn : ∀ a, (f a).length ≤ 1) : ∀ l : List α, (l.Pairwise fun a b => num (g a) < num (g b)) → LtX (l.flatMap f)
  | [], _ => List.Pairwise.nil
  | x :: l, h => by
    have h1 := List.pairwise_cons.1 h
    have ih := lt_flat f g hk hn l h1.2
    rw [List.flatMap_cons]
    refine List.pairwise_append.2 ⟨?_, ih, fun a ha b hb => ?_⟩
    · have hl := hn x
      rcases hu : f x with _ | ⟨y, _ | ⟨z, r⟩⟩
      · exact List.Pairwise.nil
      · exact List.pairwise_singleton _ _
      · rw [hu] at hl; simp at hl
    · obtain ⟨d, hd, hb'⟩ := List.mem_flatMap.1 hb
      rw [hk x a ha, hk d b hb']
      exact h1.1 d hd
theorem unX_lt (m : List En) {l : List Ch} (h : LtX l) : LtX (unX m l) := lt_flat (unC m) Ch.k (fun _ _ hc => unC_key hc) (unC_len m) l h
theorem mem_unX {m : List En} {l : List Ch} (hs : Srt m) (hl : LtX l) (c : Ch) : c ∈ unX m l ↔ InD (apM m l) m c := by
  unfold unX
  rw [List.mem_flatMap]
  constructor
  · rintro ⟨x, hx, hc⟩
    unfold unC hasM gV gS at hc
    cases hg : getM m x.k with
    | some e =>
      rw [hg] at hc
      obtain ⟨hem, hek⟩ := getM_in hg
      dsimp only at hc
      rw [if_pos (show (some _).isSome = true from rfl)] at hc
      split at hc
      · rename_i hor
        rw [List.mem_singleton.1 hc]
        refine .inr ⟨e, hem, by unfold chE; rw [hek], fun e' he' hk hv => ?_⟩
        rcases (mem_apM _ _ _ hl).1 he' with ⟨y, hy, hd, rfl⟩ | ⟨_, hno⟩
        · have hyx : y = x := hl.uniq hy hx (hk.trans hek)
          subst hyx
          rcases hor with h | h
          · rw [hd] at h; cases h
          · exact h hv.symm
        · exact hno x hx (hk.trans hek)
      · cases hc
    | none =>
      rw [hg] at hc
      dsimp only at hc
      rw [if_neg (by simp)] at hc
      split at hc
      · cases hc
      · rename_i hd
        rw [List.mem_singleton.1 hc]
        exact .inl ⟨x.en, (mem_apM _ _ _ hl).2 (.inl ⟨x, hx, by simpa using hd, rfl⟩), rfl, getM_noneI.1 hg⟩
  · rintro (⟨e, he, rfl, hno⟩ | ⟨f, hf, rfl, hq⟩)
    · rcases (mem_apM _ _ _ hl).1 he with ⟨x, hx, hd, rfl⟩ | ⟨hem, _⟩
      · refine ⟨x, hx, ?_⟩
        have hg : getM m x.k = none := getM_noneI.2 hno
        unfold unC hasM
        rw [hg, if_neg (by simp), if_neg (by rw [hd]; decide)]
        exact List.mem_singleton.2 rfl
      · exact absurd rfl (hno e hem)
    · by_cases hx : ∃ x ∈ l, x.k = f.k
      · obtain ⟨x, hx, hk⟩ := hx
        refine ⟨x, hx, ?_⟩
        have hg : getM m x.k = some f := by rw [hk]; exact getM_self hs.dis hf
        unfold unC hasM gV gS
        rw [hg]
        dsimp only
        rw [if_pos (show (some _).isSome = true from rfl), if_pos ?_]
        · exact List.mem_singleton.2 (by unfold chE; rw [hk])
        · by_cases hd : x.d = true
          · exact .inl hd
          · refine .inr fun hv => ?_
            exact hq x.en ((mem_apM _ _ _ hl).2 (.inl ⟨x, hx, by simpa using hd, rfl⟩)) hk hv.symm
      · exact absurd rfl (hq f ((mem_apM _ _ _ hl).2 (.inr ⟨hf, fun c hc hk => hx ⟨c, hc, hk.symm⟩⟩)) rfl)
theorem unX_kx {m : List En} {l : List Ch} (hs : Srt m) (hk : KL m) (hl : LtX l) (hx : XL l) : (unX m l).map kx = (diffX (apM m l) m).map kx := by
  have ha := apM_ok l m hs hk hx
  have hm : ∀ c, c ∈ unX m l ↔ c ∈ diffX (apM m l) m := fun c => (mem_unX hs hl c).trans (mem_diffX ha.1 hs ha.2 hk c).symm
  exact kx_ext (unX_lt m hl) (diffX_ok ha.1 hs ha.2 hk).1 fun p => by simp only [List.mem_map, hm]
def rdC (a b : List En) (k : List UInt8) : List Ch :=
  if hasM b k = true then (if hasM a k = true ∧ gV a k = gV b k then [] else [⟨k, gS b k, gV b k, false⟩]) else [delK k]
def rdX (a b : List En) (ks : List (List UInt8)) : List Ch := ks.flatMap (rdC a b)
theorem rdC_key {a b : List En} {k : List UInt8} {d : Ch} (h : d ∈ rdC a b k) : d.k = k := by
  unfold rdC at h
  split at h
  · split at h
    · cases h
    · rw [List.mem_singleton.1 h]
  · rw [List.mem_singleton.1 h]; rfl
theorem rdC_len (a b : List En) (k : List UInt8) : (rdC a b k).length ≤ 1 := by
  unfold rdC
  split
  · split <;> simp
  · simp
theorem rdX_snoc {a b : List En} {ks : List (List UInt8)} {i : Nat} (h : i < ks.length) : rdX a b (ks.take (i + 1)) = rdX a b (ks.take i) ++ rdC a b ks[i] := by
  unfold rdX
  rw [List.take_succ_eq_append_getElem h, List.flatMap_append, List.flatMap_singleton]
theorem rdX_len (a b : List En) : ∀ ks : List (List UInt8), (rdX a b ks).length ≤ ks.length
  | [] => Nat.le_refl _
  | c :: l => by
    have h1 := rdC_len a b c
    have h2 := rdX_len a b l
    show (rdC a b c ++ rdX a b l).length ≤ l.length + 1
    rw [List.length_append]; omega
theorem mem_rdX {a b : List En} {ks : List (List UInt8)} (ha : Srt a) (hb : Srt b) (hks : ∀ k, k ∈ ks ↔ k ∈ a.map En.k ++ b.map En.k) (c : Ch) : c ∈ rdX a b ks ↔ InD a b c := by
  unfold rdX
  rw [List.mem_flatMap]
  constructor
  · rintro ⟨k, hk, hc⟩
    have hk2 := (hks k).1 hk
    unfold rdC hasM gV gS at hc
    cases hgb : getM b k with
    | none =>
      rw [hgb, if_neg (by simp)] at hc
      rw [List.mem_singleton.1 hc]
      have hno := getM_noneI.1 hgb
      rcases List.mem_append.1 hk2 with h | h
      · obtain ⟨e, he, rfl⟩ := List.mem_map.1 h
        exact .inl ⟨e, he, rfl, hno⟩
      · obtain ⟨f, hf, hfk⟩ := List.mem_map.1 h
        exact absurd hfk (hno f hf)
    | some y =>
      rw [hgb] at hc
      dsimp only at hc
      obtain ⟨hym, hyk⟩ := getM_in hgb
      rw [if_pos (show (some _).isSome = true from rfl)] at hc
      cases hga : getM a k with
      | none =>
        rw [hga, if_neg (by simp)] at hc
        rw [List.mem_singleton.1 hc]
        exact .inr ⟨y, hym, by unfold chE; rw [hyk], fun e he hek _ => getM_noneI.1 hga e he (hek.trans hyk)⟩
      | some x =>
        rw [hga] at hc
        dsimp only at hc
        obtain ⟨hxm, hxk⟩ := getM_in hga
        split at hc
        · cases hc
        · rename_i hne
          rw [List.mem_singleton.1 hc]
          refine .inr ⟨y, hym, by unfold chE; rw [hyk], fun e he hek hv => ?_⟩
          have := ha.uniq he hxm (hek.trans (hyk.trans hxk.symm))
          subst this
          exact hne ⟨rfl, hv⟩
  · rintro (⟨e, he, rfl, hno⟩ | ⟨f, hf, rfl, hq⟩)
    · refine ⟨e.k, (hks _).2 (List.mem_append.2 (.inl (List.mem_map_of_mem he))), ?_⟩
      have hg : getM b e.k = none := getM_noneI.2 hno
      unfold rdC hasM
      rw [hg, if_neg (by simp)]
      exact List.mem_singleton.2 rfl
    · refine ⟨f.k, (hks _).2 (List.mem_append.2 (.inr (List.mem_map_of_mem hf))), ?_⟩
      have hg : getM b f.k = some f := getM_self hb.dis hf
      unfold rdC hasM gV gS
      rw [hg]
      dsimp only
      rw [if_pos (show (some _).isSome = true from rfl), if_neg ?_]
      · exact List.mem_singleton.2 rfl
      · rintro ⟨h1, h2⟩
        cases hga : getM a f.k with
        | none => rw [hga] at h1; cases h1
        | some x =>
          rw [hga] at h2
          obtain ⟨hxm, hxk⟩ := getM_in hga
          exact hq x hxm hxk h2
theorem rdX_kx {a b : List En} {ks : List (List UInt8)} (ha : Srt a) (hb : Srt b) (hka : KL a) (hkb : KL b) (hl : ks.Pairwise fun x y => num x < num y) (hks : ∀ k, k ∈ ks ↔ k ∈ a.map En.k ++ b.map En.k) : (rdX a b ks).map kx = (diffX a b).map kx := by
  have hm : ∀ c, c ∈ rdX a b ks ↔ c ∈ diffX a b := fun c => (mem_rdX ha hb hks c).trans (mem_diffX ha hb hka hkb c).symm
  exact kx_ext (lt_flat (rdC a b) id (fun _ _ hc => rdC_key hc) (rdC_len a b) ks hl) (diffX_ok ha hb hka hkb).1 fun p => by simp only [List.mem_map, hm]
theorem ins_kv3 {e f : En} (h : kv e = kv f) : ∀ l : List En, (ins e l).map kv = (ins f l).map kv
  | [] => by show [kv e] = [kv f]; rw [h]
  | x :: l => by
    have hk : e.k = f.k := congrArg Prod.fst h
    unfold ins
    rw [hk]
    split
    · rw [List.map_cons, List.map_cons, h]; rfl
    · rw [List.map_cons, List.map_cons, ins_kv3 h l]
theorem apC_kx {m m' : List En} {c d : Ch} (h : kx c = kx d) (hm : m.map kv = m'.map kv) : (apC m c).map kv = (apC m' d).map kv := by
  have hk : c.k = d.k := congrArg Prod.fst h
  have hv : c.v = d.v := congrArg (fun p => p.2.1) h
  have hd : c.d = d.d := congrArg (fun p => p.2.2) h
  unfold apC
  rw [hd]
  split
  · rw [hk]; exact rmM_kv hm
  · refine (putM_kv2 hm).trans ?_
    have e : c.en.k = d.en.k := hk
    unfold putM
    rw [e]
    exact ins_kv3 (by show (c.k, c.v) = (d.k, d.v); rw [hk, hv]) _
theorem apM_kx : ∀ (l l' : List Ch) (m m' : List En), l.map kx = l'.map kx → m.map kv = m'.map kv → (apM m l).map kv = (apM m' l').map kv
  | [], [], _, _, _, h => h
  | [], _ :: _, _, _, h, _ => by simp at h
  | _ :: _, [], _, _, h, _ => by simp at h
  | c :: l, d :: l', m, m', h, hm => by
    rw [List.map_cons, List.map_cons] at h
    injection h with h1 h2
    exact apM_kx l l' (apC m c) (apC m' d) h2 (apC_kx h1 hm)
theorem kx_mem {a b : List Ch} (h : a.map kx = b.map kx) {c : Ch} (hc : c ∈ a) : ∃ d ∈ b, d.k = c.k ∧ d.v = c.v ∧ d.d = c.d := by
  have h1 : kx c ∈ b.map kx := by rw [← h]; exact List.mem_map_of_mem hc
  obtain ⟨d, hd, hk⟩ := List.mem_map.1 h1
  exact ⟨d, hd, congrArg Prod.fst hk, congrArg (fun p => p.2.1) hk, congrArg (fun p => p.2.2) hk⟩
theorem XL.of_kx {a b : List Ch} (h : a.map kx = b.map kx) (hb : XL b) : XL a := fun c hc => by
  obtain ⟨d, hd, hk, _⟩ := kx_mem h hc
  rw [← hk]; exact hb d hd
theorem CShort.of_kx {a b : List Ch} (h : a.map kx = b.map kx) (hb : CShort b) : CShort a := fun c hc => by
  obtain ⟨d, hd, _, hv, _⟩ := kx_mem h hc
  rw [← hv]; exact hb d hd
theorem LtX.of_kx {a b : List Ch} (h : a.map kx = b.map kx) (hb : LtX b) : LtX a := by
  have e : ∀ l : List Ch, LtX l ↔ (l.map kx).Pairwise fun p q => num p.1 < num q.1 := fun l => (List.pairwise_map (f := kx) (R := fun p q => num p.1 < num q.1)).symm
  rw [e, h, ← e]; exact hb
structure UN (m : List En) (l us : List Ch) : Prop where
  xl : XL us
  lt : LtX us
  sh : CShort us
  kx_ : us.map kx = (diffX (apM m l) m).map kx
  leads : (apM (apM m l) us).map kv = m.map kv
  len : us.length ≤ l.length
theorem UN.of {m : List En} {l us : List Ch} (hs : Srt m) (hk : KL m) (hl : LtX l) (hx : XL l) (hv : ShortV m) (h : us.map kx = (unX m l).map kx) : UN m l us := by
  have ha := apM_ok l m hs hk hx
  have h2 := h.trans (unX_kx hs hk hl hx)
  have ok := diffX_ok ha.1 hs ha.2 hk
  refine ⟨XL.of_kx h2 ok.2.1, LtX.of_kx h2 ok.1, CShort.of_kx h2 (diffX_short ha.1 hs ha.2 hk hv), h2, ?_, ?_⟩
  · rw [apM_kx us _ _ _ h2 rfl]; exact diffX_leads ha.1 hs ha.2 hk
  · have h3 := congrArg List.length h
    rw [List.length_map, List.length_map] at h3
    rw [h3]; exact unX_len m l

end Go.Sp.Tryz

set_option maxRecDepth 100000
set_option maxHeartbeats 1000000
set_option linter.unusedVariables false
set_option linter.unusedSimpArgs false
namespace Go.Sp.Tryz
open Go.Proofs Go.RowKit Go.Sp

theorem CVals.snoc {l : List Ch} {c : Ch} {w : World} (h : CVals l w) (hc : SlB c.s c.v w) : CVals (l ++ [c]) w := fun x hx => by
  rcases List.mem_append.1 hx with h1 | h1
  · exact h x h1
  · rw [List.mem_singleton.1 h1]; exact hc
theorem unC_yes {m : List En} {c : Ch} (h : hasM m c.k = true) (h2 : c.d = true ∨ gV m c.k ≠ c.v) : unC m c = [⟨c.k, gS m c.k, gV m c.k, false⟩] := by
  unfold unC; rw [if_pos h, if_pos h2]
theorem unC_del {m : List En} {c : Ch} (h : hasM m c.k = false) (h2 : c.d = false) : unC m c = [delK c.k] := by
  unfold unC; rw [if_neg (by rw [h]; decide), if_neg (by rw [h2]; decide)]
theorem unC_nil1 {m : List En} {c : Ch} (h : hasM m c.k = true) (h2 : c.d = false) (h3 : gV m c.k = c.v) : unC m c = [] := by
  unfold unC; rw [if_pos h, if_neg]
  rintro (h4 | h4)
  · rw [h2] at h4; cases h4
  · exact h4 h3
theorem unC_nil2 {m : List En} {c : Ch} (h : hasM m c.k = false) (h2 : c.d = true) : unC m c = [] := by
  unfold unC; rw [if_neg (by rw [h]; decide), if_pos h2]
theorem kx_snoc {a b u : List Ch} {c d : Ch} (h : a.map kx = b.map kx) (h2 : u = [d]) (h3 : kx c = kx d) : (a ++ [c]).map kx = (b ++ u).map kx := by
  rw [h2, List.map_append, List.map_append, h, List.map_singleton, List.map_singleton, h3]
theorem kx_same {a b u : List Ch} (h : a.map kx = b.map kx) (h2 : u = []) : a.map kx = (b ++ u).map kx := by
  rw [h2, List.append_nil, h]
theorem kx_at {a b : List Ch} (h : a.map kx = b.map kx) (i : Nat) (h1 : i < a.length) (h2 : i < b.length) : a[i].k = b[i].k ∧ a[i].v = b[i].v ∧ a[i].d = b[i].d := by
  have e : (a.map kx)[i]'(by rw [List.length_map]; exact h1) = (b.map kx)[i]'(by rw [List.length_map]; exact h2) := List.getElem_of_eq h _
  rw [List.getElem_map, List.getElem_map] at e
  exact ⟨congrArg Prod.fst e, congrArg (fun p => p.2.1) e, congrArg (fun p => p.2.2) e⟩
theorem GetX_c {X : Nat → Prop} {w : World} {bits : Int} {T : Tr} {m : List En} {k : List UInt8} (hX : ∀ b, X b → b < w.heap.size) (hf0 : Rob X (TrA bits T) w) (hk : k.length = 32) (hT : T.er = grow 0 m) (hs : Srt m) (hkm : KL m) :
    Ret Tryz.prog 35 [T.ptr, .agg (kc k).toArray].toArray w fun v w' => ∃ s, v = .tuple [s, .bool (hasM m k)].toArray ∧ Out Nil w w' ∧ Rob X (SlB s (gV m k)) w' := by
  have pm := hs.pm hkm
  have hfit := grow_fit pm
  rw [← hT] at hfit
  have hg0 := getV_map (k := k) hT pm
  cases hg : getM m k with
  | none =>
    refine (GetNo_c hX hf0 hk hfit (by rw [hg0, hg]; rfl)).mono ?_
    rintro v w' ⟨rfl, hO⟩
    refine ⟨.slice none 0 0, by unfold hasM; rw [hg]; rfl, hO, fun w'' _ => ?_⟩
    unfold gV; rw [hg]; exact SlB.nil w''
  | some e =>
    refine (GetYes_c (v0 := e.v) hX hf0 hk hfit (by rw [hg0, hg]; rfl)).mono ?_
    rintro v w' ⟨s, rfl, hO, hOwn⟩
    refine ⟨s, by unfold hasM; rw [hg]; rfl, hO, ?_⟩
    have h1 := (rob_own hX hOwn).imp fun _ h => SlB.of_own h
    unfold gV; rw [hg]; exact h1
theorem refGetX_c {X : Nat → Prop} {w : World} {s : Value} {m : List En} {k : List UInt8} (hX : ∀ b, X b → b < w.heap.size) (hf0 : Rob X (SlE s m) w) (hkl : KL m) (hlen : m.length ≤ 1000000) (hk : k.length = 32) :
    Ret Tryz.prog 47 [s, .agg (kc k).toArray].toArray w fun v w' => v = .tuple [gS m k, .bool (hasM m k)].toArray ∧ Out Nil w w' := by
  have := refGet_c hX hf0 hkl hlen hk
  rwa [getR_eq] at this

theorem UndoBad_c {X : Nat → Prop} {w : World} {a0 s : Value} {l : List Ch} (hX : ∀ b, X b → b < w.heap.size) (hf0 : Rob X (SlX s l) w) (hf1 : Rob X (CVals l) w) (hx : XL l) (hck : chkK (l.map Ch.k) ≠ 0) (hlen : l.length ≤ 1000000) :
    Ret Tryz.prog 20 [a0, s].toArray w fun v w' => v = .tuple [.slice none 0 0, .int .i64 (chkK (l.map Ch.k))].toArray ∧ Out Nil w w' := by
  refine Ret.of_body (N := 66) Tryz.func20 rfl rfl (by simp) ?_
  have H := St.begin hX
  replace H := H.add (rob0 hf1)
  replace H := H.add (rob0 hf0)
  refine WE.seq_reg ?_
  refine WL.as rfl rfl ?_
  refine WL.as rfl rfl ?_
  refine WL.nil ?_
  refine WE.seq ?_
  refine WE.seq_reg ?_
  refine WL.mv rfl rfl ?_
  refine WL.call TryzT.fb39 rfl (check_c (s := s) (l := l) H.yylt (by exact (H.rob 0 rfl : Rob _ (SlX s l) _)) hx (by omega) (SlX.one (s := s) (by exact (H.p 1 rfl : (CVals l) _)))) ?_
  rintro _ w1 ⟨rfl, hO⟩
  replace H := H.out hO
  refine WL.as rfl rfl ?_
  refine WL.nil ?_
  refine WE.seq_reg ?_
  refine WL.mv rfl rfl ?_
  refine WL.pv (PV.neq rfl rfl rfl) rfl ?_
  refine WL.nil ?_
  refine WE.cond_t' rfl (by simp [hck]) ?_
  refine WE.seq_reg ?_
  refine WL.mv rfl rfl ?_
  refine WL.as rfl rfl ?_
  refine WL.as rfl rfl ?_
  refine WL.nil ?_
  refine WE.ret ?_
  refine ⟨[_, _], _, .nil _, ⟨rfl, rfl, trivial⟩, ?_⟩
  exact ⟨rfl, H.toOut0⟩

theorem Undo_c {X : Nat → Prop} {w : World} {bits : Int} {T : Tr} {s : Value} {m : List En} {l : List Ch} (hX : ∀ b, X b → b < w.heap.size) (hf0 : Rob X (TrA bits T) w) (hf1 : Rob X (SlX s l) w) (hf2 : Rob X (CVals l) w) (hT : T.er = grow 0 m) (hs : Srt m) (hkm : KL m) (hvm : ShortV m) (hx : XL l) (hck : chkK (l.map Ch.k) = 0) (hlen : l.length ≤ 900000) :
    Ret Tryz.prog 20 [T.ptr, s].toArray w fun v w' => ∃ (sv : Value) (us : List Ch), v = .tuple [sv, .int .i64 0].toArray ∧ Out Nil w w' ∧ w'.ownsRow w.heap.size 69 34 sv us.length (us.flatMap chC) ∧ Rob X (CVals us) w' ∧ UN m l us := by
  refine Ret.of_body (N := 66) Tryz.func20 rfl rfl (by simp) ?_
  have H := St.begin hX
  replace H := H.add (rob0 hf2)
  replace H := H.add (rob0 hf1)
  replace H := H.add (rob0 hf0)
  have hltx := LtX.of_chk hck
  have hone := SlX.one (s := s) (hf2.here)
  refine WE.seq_reg ?_
  refine WL.as rfl rfl ?_
  refine WL.as rfl rfl ?_
  refine WL.nil ?_
  refine WE.seq ?_
  refine WE.seq_reg ?_
  refine WL.mv rfl rfl ?_
  refine WL.call TryzT.fb39 rfl (check_c (s := s) (l := l) H.yylt (by exact (H.rob 1 rfl : Rob _ (SlX s l) _)) hx (by omega) (SlX.one (s := s) (by exact (H.p 2 rfl : (CVals l) _)))) ?_
  rintro _ w1 ⟨rfl, hO⟩
  replace H := H.out hO
  refine WL.as rfl rfl ?_
  refine WL.nil ?_
  refine WE.seq_reg ?_
  refine WL.mv rfl rfl ?_
  refine WL.pv (PV.neq rfl rfl rfl) rfl ?_
  refine WL.nil ?_
  refine WE.cond_f' rfl (by simp [hck]) ?_
  refine WE.skip ?_
  refine WE.seq_reg ?_
  refine WL.as rfl rfl ?_
  refine WL.nil ?_
  refine WE.seq ?_
  refine WE.seq_reg ?_
  refine WL.mv rfl rfl ?_
  refine WL.pv (PV.lenS (by exact (H.p 1 rfl : (SlX s l) _)) TryzT.sl47 rfl) rfl ?_
  refine WL.mv rfl rfl ?_
  refine WL.nil ?_
  refine WE.block ?_
  replace H := H.nilOsl 69 34
  replace H := H.add (show Rob _ (CVals []) _ from fun _ _ _ h => by cases h)
  refine WE.loop (α := Nat × Value × List Ch) [7, 9, 10, 11, 19, 20, 21, 22, 23, 24, 25, 26, 27, 28, 29, 30, 31, 32, 33, 34, 35, 36, 37, 38, 39, 40, 41, 42, 43, 44, 45, 46, 47, 48, 49, 50, 51, 52, 53, 54, 55, 56, 57, 58, 59, 60, 61, 62, 63, 64] (fun p => [(19, .int .i64 (p.1 : Int)), (7, p.2.1)]) (fun p wl => (p.1 ≤ l.length ∧ p.2.2.map kx = (unX m (l.take p.1)).map kx) ∧ St X w wl [] [Ent.osl w.heap.size p.2.1 69 34 ((p.2.2).length) ((p.2.2).flatMap chC)] [CVals (p.2.2), TrA bits T, SlX s l, CVals l]) (fun p => l.length - p.1) (0, .slice none 0 0, []) ⟨rfl, rfl, trivial⟩ ⟨⟨Nat.zero_le _, rfl⟩, H⟩ ?_
  intro ⟨i, v_, outs⟩ γ0 w2 hI
  try dsimp only at hI
  obtain ⟨⟨hi, hkx⟩, H⟩ := hI
  try dsimp only at hi hkx
  refine WE.seq_reg ?_
  refine WL.pv (PV.lss rfl rfl rfl) rfl ?_
  refine WL.nil ?_
  refine WE.seq ?_
  refine WE.cond rfl (fun hc20 => ?_) (fun hc20 => ?_)
  · skip
    try simp only [decide_eq_true_eq, decide_eq_false_iff_not, ne_eq, Decidable.not_not, Bool.not_eq_true', Bool.not_eq_false', Bool.and_eq_true, Bool.or_eq_true, Bool.not_not, Bool.and_eq_false_iff, Bool.or_eq_false_iff, Int.not_lt, Int.not_le] at hc20
    have hlt : i < l.length := by omega
    have hki := hx _ (List.getElem_mem hlt)
    have hc34 := chC_len hki
    have hsn := unX_snoc (m := m) hlt
    have hol := congrArg List.length hkx
    rw [List.length_map, List.length_map] at hol
    have hul := unX_len m (l.take i)
    have htl : (l.take i).length ≤ l.length := by rw [List.length_take]; omega
    refine WE.skip ?_
    refine WE.cut (α := Value × List Ch) [7, 9, 10, 11, 21, 22, 23, 24, 25, 26, 27, 28, 29, 30, 31, 32, 33, 34, 35, 36, 37, 38, 39, 40, 41, 42, 43, 44, 45, 46, 47, 48, 49, 50, 51, 52, 53, 54, 55, 56, 57, 58, 59, 60, 61, 62, 63] (fun g1_ => [(7, g1_.1)]) (fun g1_ wl => g1_.2.map kx = (unX m (l.take (i + 1))).map kx ∧ St X w wl [] [Ent.osl w.heap.size g1_.1 69 34 ((g1_.2).length) ((g1_.2).flatMap chC)] [CVals (g1_.2), TrA bits T, SlX s l, CVals l]) ?_ ?_
    · skip
      refine WE.block ?_
      refine WE.seq_reg ?_
      refine WL.pv (PV.idxS rfl (by exact (H.p 2 rfl : (SlX s l) _)) TryzT.sl47 TryzT.sz69 rfl rfl (by omega) (by omega)) rfl ?_
      refine WL.loadR rfl TryzT.ag69 rfl rfl (SlX.rd (by exact (H.p 2 rfl : (SlX s l) _)) hx i hlt) (by (rw [TryzT.sz69]; refine congrArg some ?_; (simp [kc_length, kw_length, *]; done))) ?_
      refine WL.alloc H rfl TryzT.ze69 rfl ?_
      intro b9 w3 H
      refine WL.storeL H 0 rfl rfl rfl (new := chC l[i]) rfl (by (rw [TryzT.sz69]; refine congrArg some ?_; (simp [kc_length, kw_length, *]; done))) (one_chC (hone _ (List.getElem_mem hlt))) (Laid.at (Laid.all (by (simp only [kc_length, kw_length, List.length_replicate, List.length_append, List.length_cons, List.length_nil]; omega))) (by rfl)) rfl ?_
      intro w4 H
      refine WL.nil ?_
      refine WE.seq_reg ?_
      refine WL.mv rfl rfl ?_
      refine WL.pv (PV.fieldAddr rfl TryzT.fd69_0 rfl) rfl ?_
      refine WL.loadR rfl TryzT.ag31 rfl rfl (by exact Blk.segAt (H.l 0 rfl) (Seg.l (Seg.all _)) (by rfl)) (by (rw [TryzT.sz31]; refine congrArg some ?_; (simp only [kc_length, kw_length, List.length_replicate, List.length_append, List.length_cons, List.length_nil]; omega))) ?_
      refine WL.call TryzT.fb35 rfl (GetX_c (T := T) (m := m) (k := l[i].k) (bits := bits) H.yylt (by exact (H.rob 1 rfl : Rob _ (TrA bits T) _)) hki hT hs hkm) ?_
      rintro _ w5 ⟨gv, rfl, hO, hG⟩
      replace H := (H.out hO).add (show Rob _ (SlB gv (gV m l[i].k)) _ from hG)
      have hgo : gv.oneCell' = true := SlC.one1 hG.here
      refine WL.mv rfl rfl ?_
      refine WL.pv (PV.extract rfl rfl rfl) rfl ?_
      refine WL.pv (PV.extract rfl rfl rfl) rfl ?_
      refine WL.as rfl rfl ?_
      refine WL.as rfl rfl ?_
      refine WL.nil ?_
      refine WE.block ?_
      refine WE.seq_reg ?_
      refine WL.mv rfl rfl ?_
      refine WL.mv rfl rfl ?_
      refine WL.split (t := 32) rfl (fun hg32 => ?_) (fun hg32 => ?_)
      · skip
        refine WL.known (t := 31) (c := true) rfl hg32 ?_
        try simp only [decide_eq_true_eq, decide_eq_false_iff_not, ne_eq, Decidable.not_not, Bool.not_eq_true', Bool.not_eq_false', Bool.and_eq_true, Bool.or_eq_true, Bool.not_not, Bool.and_eq_false_iff, Bool.or_eq_false_iff, Int.not_lt, Int.not_le] at hg32
        refine WL.pv (PV.fieldAddr rfl TryzT.fd69_2 rfl) rfl ?_
        refine WL.load1 rfl TryzT.ag4 rfl rfl (by exact Blk.segAt (H.l 0 rfl) (Seg.r (Seg.r (Seg.all _) (by with_reducible rfl)) (by with_reducible rfl)) (by (simp [kc_length, kw_length, *]; done))) ?_
        refine WL.mv rfl rfl ?_
        refine WL.split (t := 35) rfl (fun hg35 => ?_) (fun hg35 => ?_)
        · skip
          refine WL.known (t := 34) (c := true) rfl hg35 ?_
          try simp only [decide_eq_true_eq, decide_eq_false_iff_not, ne_eq, Decidable.not_not, Bool.not_eq_true', Bool.not_eq_false', Bool.and_eq_true, Bool.or_eq_true, Bool.not_not, Bool.and_eq_false_iff, Bool.or_eq_false_iff, Int.not_lt, Int.not_le] at hg35
          have hun := unC_yes (m := m) (c := l[i]) (by exact hg32) (by exact .inl hg35)
          refine WL.off rfl ?_
          refine WL.off rfl ?_
          refine WL.off rfl ?_
          refine WL.off rfl ?_
          refine WL.off rfl ?_
          refine WL.pv (PV.pick_t rfl rfl rfl) rfl ?_
          refine WL.pv (PV.pick_t rfl rfl rfl) rfl ?_
          refine WL.as rfl rfl ?_
          refine WL.nil ?_
          refine WE.cond_t rfl ?_
          refine WE.reg ?_
          refine WL.mv rfl rfl ?_
          refine WL.pv (PV.fieldAddr rfl TryzT.fd69_0 rfl) rfl ?_
          refine WL.loadR rfl TryzT.ag31 rfl rfl (by exact Blk.segAt (H.l 0 rfl) (Seg.l (Seg.all _)) (by rfl)) (by (rw [TryzT.sz31]; refine congrArg some ?_; (simp only [kc_length, kw_length, List.length_replicate, List.length_append, List.length_cons, List.length_nil]; omega))) ?_
          refine WL.mv rfl rfl ?_
          refine WL.pv (PV.buildS rfl TryzT.pl69 TryzT.ze69 (Fl.cons rfl (by rfl) (by (simp only [kc_length, kw_length, List.length_replicate, List.length_append, List.length_cons, List.length_nil]; omega)) (Laid.left (Laid.all (by (simp only [kc_length, kw_length, List.length_replicate, List.length_append, List.length_cons, List.length_nil]; omega)))) (Fl.cons rfl (cells_one hgo) (by (simp only [kc_length, kw_length, List.length_replicate, List.length_append, List.length_cons, List.length_nil]; done)) (Laid.right (Laid.left (Laid.all (by (simp only [kc_length, kw_length, List.length_replicate, List.length_append, List.length_cons, List.length_nil]; done)))) (by (simp only [kc_length, kw_length, List.length_replicate, List.length_append, List.length_cons, List.length_nil]; omega))) Fl.nil))) rfl ?_
          refine WL.buildSliceF (l0 := ((kc (List.replicate 32 0) ++ ([.slice none 0 0] ++ ([.bool false]))))) H rfl TryzT.st47 (by decide) (by rfl) (Fl.cons rfl (by rfl) (by (simp only [kc_length, kw_length, List.length_replicate, List.length_append, List.length_cons, List.length_nil]; omega)) (Laid.all (by (simp only [kc_length, kw_length, List.length_replicate, List.length_append, List.length_cons, List.length_nil]; omega))) Fl.nil) rfl ?_
          intro b48 w6 H
          refine WL.append (m := 1) H 2 TryzT.st47 (by decide) rfl rfl rfl (SlC.of_blk (n := 1) (H.l 0 rfl) (chC_len (c := ⟨l[i].k, gv, gV m l[i].k, false⟩) hki)) (one_chC (c := ⟨l[i].k, gv, gV m l[i].k, false⟩) hgo) (by omega) (by decide) rfl ?_
          intro v49 w7 H
          have hSl : (outs ++ [(⟨l[i].k, gv, gV m l[i].k, false⟩ : Ch)]).length = outs.length + 1 := by rw [List.length_append]; rfl
          have hSf : (outs ++ [(⟨l[i].k, gv, gV m l[i].k, false⟩ : Ch)]).flatMap chC = outs.flatMap chC ++ chC (⟨l[i].k, gv, gV m l[i].k, false⟩) := by rw [List.flatMap_append, List.flatMap_singleton]
          replace H := H.forget 0
          replace H := H.forget 0
          replace H := H.conv (L' := [Ent.osl w.heap.size v49 69 34 ((outs ++ [(⟨l[i].k, gv, gV m l[i].k, false⟩ : Ch)]).length) ((outs ++ [(⟨l[i].k, gv, gV m l[i].k, false⟩ : Ch)]).flatMap chC)]) (by rw [hSl, hSf]; rfl)
          replace H := H.add (show Rob _ (CVals (outs ++ [(⟨l[i].k, gv, gV m l[i].k, false⟩ : Ch)])) _ from (Rob.and (show Rob _ (CVals outs) _ from (by exact (H.rob 1 rfl : Rob _ (CVals outs) _))) (show Rob _ (SlB gv (gV m l[i].k)) _ from (by exact (H.rob 0 rfl : Rob _ (SlB gv (gV m l[i].k)) _)))).imp fun _ h => h.1.snoc h.2)
          refine WL.as rfl rfl ?_
          refine WL.nil ?_
          exact ⟨(v49, outs ++ [(⟨l[i].k, gv, gV m l[i].k, false⟩ : Ch)]), (by repeat (first | with_reducible exact Off.refl _ _ | refine Off.upd rfl ?_)), ⟨rfl, trivial⟩, rfl, ⟨by dsimp only; rw [hsn]; exact kx_snoc hkx hun rfl, (show St X w _ [] _ [CVals (outs ++ [(⟨l[i].k, gv, gV m l[i].k, false⟩ : Ch)]), TrA bits T, SlX s l, CVals l] from by exact H.sel [0, 3, 4, 5])⟩⟩
        · skip
          refine WL.known (t := 34) (c := false) rfl hg35 ?_
          try simp only [decide_eq_true_eq, decide_eq_false_iff_not, ne_eq, Decidable.not_not, Bool.not_eq_true', Bool.not_eq_false', Bool.and_eq_true, Bool.or_eq_true, Bool.not_not, Bool.and_eq_false_iff, Bool.or_eq_false_iff, Int.not_lt, Int.not_le] at hg35
          refine WL.mv rfl rfl ?_
          refine WL.pv (PV.fieldAddr rfl TryzT.fd69_1 rfl) rfl ?_
          refine WL.load1 rfl TryzT.ag32 rfl rfl (by exact Blk.segAt (H.l 0 rfl) (Seg.r (Seg.l (Seg.all _)) (by with_reducible rfl)) (by (simp [kc_length, kw_length, *]; done))) ?_
          refine WL.call TryzT.fb45 rfl (BEqual_c (la := gV m l[i].k) (lb := l[i].v) H.yylt (by exact (H.rob 0 rfl : Rob _ (SlB gv (gV m l[i].k)) _)) (by exact (H.rob 4 rfl : Rob _ (CVals l) _).imp fun _ h => h _ (List.getElem_mem hlt))) ?_
          rintro _ w8 ⟨rfl, hO⟩
          replace H := H.out hO
          refine WL.pv (PV.not rfl rfl) rfl ?_
          refine WL.pv (PV.pick_f rfl rfl rfl) rfl ?_
          refine WL.pv (PV.pick_t rfl rfl rfl) rfl ?_
          refine WL.as rfl rfl ?_
          refine WL.nil ?_
          refine WE.cond rfl (fun hc30 => ?_) (fun hc30 => ?_)
          · skip
            try simp only [decide_eq_true_eq, decide_eq_false_iff_not, ne_eq, Decidable.not_not, Bool.not_eq_true', Bool.not_eq_false', Bool.and_eq_true, Bool.or_eq_true, Bool.not_not, Bool.and_eq_false_iff, Bool.or_eq_false_iff, Int.not_lt, Int.not_le] at hc30
            have hun := unC_yes (m := m) (c := l[i]) (by exact hg32) (by exact .inr (by simpa using hc30))
            refine WE.reg ?_
            refine WL.mv rfl rfl ?_
            refine WL.pv (PV.fieldAddr rfl TryzT.fd69_0 rfl) rfl ?_
            refine WL.loadR rfl TryzT.ag31 rfl rfl (by exact Blk.segAt (H.l 0 rfl) (Seg.l (Seg.all _)) (by rfl)) (by (rw [TryzT.sz31]; refine congrArg some ?_; (simp only [kc_length, kw_length, List.length_replicate, List.length_append, List.length_cons, List.length_nil]; omega))) ?_
            refine WL.mv rfl rfl ?_
            refine WL.pv (PV.buildS rfl TryzT.pl69 TryzT.ze69 (Fl.cons rfl (by rfl) (by (simp only [kc_length, kw_length, List.length_replicate, List.length_append, List.length_cons, List.length_nil]; omega)) (Laid.left (Laid.all (by (simp only [kc_length, kw_length, List.length_replicate, List.length_append, List.length_cons, List.length_nil]; omega)))) (Fl.cons rfl (cells_one hgo) (by (simp only [kc_length, kw_length, List.length_replicate, List.length_append, List.length_cons, List.length_nil]; done)) (Laid.right (Laid.left (Laid.all (by (simp only [kc_length, kw_length, List.length_replicate, List.length_append, List.length_cons, List.length_nil]; done)))) (by (simp only [kc_length, kw_length, List.length_replicate, List.length_append, List.length_cons, List.length_nil]; omega))) Fl.nil))) rfl ?_
            refine WL.buildSliceF (l0 := ((kc (List.replicate 32 0) ++ ([.slice none 0 0] ++ ([.bool false]))))) H rfl TryzT.st47 (by decide) (by rfl) (Fl.cons rfl (by rfl) (by (simp only [kc_length, kw_length, List.length_replicate, List.length_append, List.length_cons, List.length_nil]; omega)) (Laid.all (by (simp only [kc_length, kw_length, List.length_replicate, List.length_append, List.length_cons, List.length_nil]; omega))) Fl.nil) rfl ?_
            intro b48 w9 H
            refine WL.append (m := 1) H 2 TryzT.st47 (by decide) rfl rfl rfl (SlC.of_blk (n := 1) (H.l 0 rfl) (chC_len (c := ⟨l[i].k, gv, gV m l[i].k, false⟩) hki)) (one_chC (c := ⟨l[i].k, gv, gV m l[i].k, false⟩) hgo) (by omega) (by decide) rfl ?_
            intro v49 w10 H
            have hSl : (outs ++ [(⟨l[i].k, gv, gV m l[i].k, false⟩ : Ch)]).length = outs.length + 1 := by rw [List.length_append]; rfl
            have hSf : (outs ++ [(⟨l[i].k, gv, gV m l[i].k, false⟩ : Ch)]).flatMap chC = outs.flatMap chC ++ chC (⟨l[i].k, gv, gV m l[i].k, false⟩) := by rw [List.flatMap_append, List.flatMap_singleton]
            replace H := H.forget 0
            replace H := H.forget 0
            replace H := H.conv (L' := [Ent.osl w.heap.size v49 69 34 ((outs ++ [(⟨l[i].k, gv, gV m l[i].k, false⟩ : Ch)]).length) ((outs ++ [(⟨l[i].k, gv, gV m l[i].k, false⟩ : Ch)]).flatMap chC)]) (by rw [hSl, hSf]; rfl)
            replace H := H.add (show Rob _ (CVals (outs ++ [(⟨l[i].k, gv, gV m l[i].k, false⟩ : Ch)])) _ from (Rob.and (show Rob _ (CVals outs) _ from (by exact (H.rob 1 rfl : Rob _ (CVals outs) _))) (show Rob _ (SlB gv (gV m l[i].k)) _ from (by exact (H.rob 0 rfl : Rob _ (SlB gv (gV m l[i].k)) _)))).imp fun _ h => h.1.snoc h.2)
            refine WL.as rfl rfl ?_
            refine WL.nil ?_
            exact ⟨(v49, outs ++ [(⟨l[i].k, gv, gV m l[i].k, false⟩ : Ch)]), (by repeat (first | with_reducible exact Off.refl _ _ | refine Off.upd rfl ?_)), ⟨rfl, trivial⟩, rfl, ⟨by dsimp only; rw [hsn]; exact kx_snoc hkx hun rfl, (show St X w _ [] _ [CVals (outs ++ [(⟨l[i].k, gv, gV m l[i].k, false⟩ : Ch)]), TrA bits T, SlX s l, CVals l] from by exact H.sel [0, 3, 4, 5])⟩⟩
          · skip
            try simp only [decide_eq_true_eq, decide_eq_false_iff_not, ne_eq, Decidable.not_not, Bool.not_eq_true', Bool.not_eq_false', Bool.and_eq_true, Bool.or_eq_true, Bool.not_not, Bool.and_eq_false_iff, Bool.or_eq_false_iff, Int.not_lt, Int.not_le] at hc30
            refine WE.seq_reg ?_
            refine WL.mv rfl rfl ?_
            refine WL.pv (PV.not rfl rfl) rfl ?_
            refine WL.mv rfl rfl ?_
            refine WL.split (t := 53) rfl (fun hg53 => ?_) (fun hg53 => ?_)
            · skip
              refine WL.known (t := 52) (c := true) rfl hg53 ?_
              try simp only [decide_eq_true_eq, decide_eq_false_iff_not, ne_eq, Decidable.not_not, Bool.not_eq_true', Bool.not_eq_false', Bool.and_eq_true, Bool.or_eq_true, Bool.not_not, Bool.and_eq_false_iff, Bool.or_eq_false_iff, Int.not_lt, Int.not_le] at hg53
              refine WL.pv (PV.fieldAddr rfl TryzT.fd69_2 rfl) rfl ?_
              refine WL.load1 rfl TryzT.ag4 rfl rfl (by exact Blk.segAt (H.l 0 rfl) (Seg.r (Seg.r (Seg.all _) (by with_reducible rfl)) (by with_reducible rfl)) (by (simp [kc_length, kw_length, *]; done))) ?_
              refine WL.pv (PV.not rfl rfl) rfl ?_
              refine WL.pv (PV.pick_t rfl rfl rfl) rfl ?_
              refine WL.as rfl rfl ?_
              refine WL.nil ?_
              refine WE.cond rfl (fun hc50 => ?_) (fun hc50 => ?_)
              · skip
                try simp only [decide_eq_true_eq, decide_eq_false_iff_not, ne_eq, Decidable.not_not, Bool.not_eq_true', Bool.not_eq_false', Bool.and_eq_true, Bool.or_eq_true, Bool.not_not, Bool.and_eq_false_iff, Bool.or_eq_false_iff, Int.not_lt, Int.not_le] at hc50
                have hun : unC m l[i] = [delK l[i].k] := by exact unC_del (by exact hg53) (by exact hc50)
                refine WE.reg ?_
                refine WL.mv rfl rfl ?_
                refine WL.pv (PV.fieldAddr rfl TryzT.fd69_0 rfl) rfl ?_
                refine WL.loadR rfl TryzT.ag31 rfl rfl (by exact Blk.segAt (H.l 0 rfl) (Seg.l (Seg.all _)) (by rfl)) (by (rw [TryzT.sz31]; refine congrArg some ?_; (simp only [kc_length, kw_length, List.length_replicate, List.length_append, List.length_cons, List.length_nil]; omega))) ?_
                refine WL.pv (PV.buildS rfl TryzT.pl69 TryzT.ze69 (Fl.cons rfl (by rfl) (by (simp only [kc_length, kw_length, List.length_replicate, List.length_append, List.length_cons, List.length_nil]; omega)) (Laid.left (Laid.all (by (simp only [kc_length, kw_length, List.length_replicate, List.length_append, List.length_cons, List.length_nil]; omega)))) (Fl.cons rfl (by rfl) (by (simp only [kc_length, kw_length, List.length_replicate, List.length_append, List.length_cons, List.length_nil]; done)) (Laid.right (Laid.right (Laid.all (by (simp only [kc_length, kw_length, List.length_replicate, List.length_append, List.length_cons, List.length_nil]; done))) (by with_reducible rfl)) (by (simp only [kc_length, kw_length, List.length_replicate, List.length_append, List.length_cons, List.length_nil]; omega))) Fl.nil))) rfl ?_
                refine WL.buildSliceF (l0 := ((kc (List.replicate 32 0) ++ ([.slice none 0 0] ++ ([.bool false]))))) H rfl TryzT.st47 (by decide) (by rfl) (Fl.cons rfl (by rfl) (by (simp only [kc_length, kw_length, List.length_replicate, List.length_append, List.length_cons, List.length_nil]; omega)) (Laid.all (by (simp only [kc_length, kw_length, List.length_replicate, List.length_append, List.length_cons, List.length_nil]; omega))) Fl.nil) rfl ?_
                intro b62 w11 H
                refine WL.append (m := 1) H 2 TryzT.st47 (by decide) rfl rfl rfl (SlC.of_blk (n := 1) (H.l 0 rfl) (chC_len (c := delK l[i].k) hki)) (one_chC (c := delK l[i].k) rfl) (by omega) (by decide) rfl ?_
                intro v63 w12 H
                have hSl : (outs ++ [(delK l[i].k : Ch)]).length = outs.length + 1 := by rw [List.length_append]; rfl
                have hSf : (outs ++ [(delK l[i].k : Ch)]).flatMap chC = outs.flatMap chC ++ chC (delK l[i].k) := by rw [List.flatMap_append, List.flatMap_singleton]
                replace H := H.forget 0
                replace H := H.forget 0
                replace H := H.conv (L' := [Ent.osl w.heap.size v63 69 34 ((outs ++ [(delK l[i].k : Ch)]).length) ((outs ++ [(delK l[i].k : Ch)]).flatMap chC)]) (by rw [hSl, hSf]; rfl)
                replace H := H.add (show Rob _ (CVals (outs ++ [(delK l[i].k : Ch)])) _ from (show Rob _ (CVals outs) _ from (by exact (H.rob 1 rfl : Rob _ (CVals outs) _))).imp fun w_ h => h.snoc (SlB.nil w_))
                refine WL.as rfl rfl ?_
                refine WL.nil ?_
                exact ⟨(v63, outs ++ [(delK l[i].k : Ch)]), (by repeat (first | with_reducible exact Off.refl _ _ | refine Off.upd rfl ?_)), ⟨rfl, trivial⟩, rfl, ⟨by dsimp only; rw [hsn]; exact kx_snoc hkx hun rfl, (show St X w _ [] _ [CVals (outs ++ [(delK l[i].k : Ch)]), TrA bits T, SlX s l, CVals l] from by exact H.sel [0, 3, 4, 5])⟩⟩
              · skip
                try simp only [decide_eq_true_eq, decide_eq_false_iff_not, ne_eq, Decidable.not_not, Bool.not_eq_true', Bool.not_eq_false', Bool.and_eq_true, Bool.or_eq_true, Bool.not_not, Bool.and_eq_false_iff, Bool.or_eq_false_iff, Int.not_lt, Int.not_le] at hc50
                have hun : unC m l[i] = [] := by (exfalso; simp_all; done)
                refine WE.skip ?_
                exact ⟨(v_, outs), (by repeat (first | with_reducible exact Off.refl _ _ | refine Off.upd rfl ?_)), ⟨rfl, trivial⟩, rfl, ⟨by dsimp only; rw [hsn]; exact kx_same hkx hun, (by replace H := H.forget 0; exact (show St X w _ [] _ [CVals (outs), TrA bits T, SlX s l, CVals l] from by exact H.sel [1, 2, 3, 4]))⟩⟩
            · skip
              refine WL.known (t := 52) (c := false) rfl hg53 ?_
              try simp only [decide_eq_true_eq, decide_eq_false_iff_not, ne_eq, Decidable.not_not, Bool.not_eq_true', Bool.not_eq_false', Bool.and_eq_true, Bool.or_eq_true, Bool.not_not, Bool.and_eq_false_iff, Bool.or_eq_false_iff, Int.not_lt, Int.not_le] at hg53
              have hun : unC m l[i] = [] := by exact unC_nil1 (by exact hg32) (by exact hg35) (by simpa using hc30)
              refine WL.off rfl ?_
              refine WL.off rfl ?_
              refine WL.off rfl ?_
              refine WL.pv (PV.pick_f rfl rfl rfl) rfl ?_
              refine WL.as rfl rfl ?_
              refine WL.nil ?_
              refine WE.cond_f rfl ?_
              refine WE.skip ?_
              exact ⟨(v_, outs), (by repeat (first | with_reducible exact Off.refl _ _ | refine Off.upd rfl ?_)), ⟨rfl, trivial⟩, rfl, ⟨by dsimp only; rw [hsn]; exact kx_same hkx hun, (by replace H := H.forget 0; exact (show St X w _ [] _ [CVals (outs), TrA bits T, SlX s l, CVals l] from by exact H.sel [1, 2, 3, 4]))⟩⟩
      · skip
        refine WL.known (t := 31) (c := false) rfl hg32 ?_
        try simp only [decide_eq_true_eq, decide_eq_false_iff_not, ne_eq, Decidable.not_not, Bool.not_eq_true', Bool.not_eq_false', Bool.and_eq_true, Bool.or_eq_true, Bool.not_not, Bool.and_eq_false_iff, Bool.or_eq_false_iff, Int.not_lt, Int.not_le] at hg32
        refine WL.off rfl ?_
        refine WL.off rfl ?_
        refine WL.off rfl ?_
        refine WL.off rfl ?_
        refine WL.off rfl ?_
        refine WL.off rfl ?_
        refine WL.off rfl ?_
        refine WL.off rfl ?_
        refine WL.off rfl ?_
        refine WL.pv (PV.pick_f rfl rfl rfl) rfl ?_
        refine WL.as rfl rfl ?_
        refine WL.nil ?_
        refine WE.cond_f rfl ?_
        refine WE.seq_reg ?_
        refine WL.mv rfl rfl ?_
        refine WL.pv (PV.not rfl rfl) rfl ?_
        refine WL.mv rfl rfl ?_
        refine WL.split (t := 53) rfl (fun hg53 => ?_) (fun hg53 => ?_)
        · skip
          refine WL.known (t := 52) (c := true) rfl hg53 ?_
          try simp only [decide_eq_true_eq, decide_eq_false_iff_not, ne_eq, Decidable.not_not, Bool.not_eq_true', Bool.not_eq_false', Bool.and_eq_true, Bool.or_eq_true, Bool.not_not, Bool.and_eq_false_iff, Bool.or_eq_false_iff, Int.not_lt, Int.not_le] at hg53
          refine WL.pv (PV.fieldAddr rfl TryzT.fd69_2 rfl) rfl ?_
          refine WL.load1 rfl TryzT.ag4 rfl rfl (by exact Blk.segAt (H.l 0 rfl) (Seg.r (Seg.r (Seg.all _) (by with_reducible rfl)) (by with_reducible rfl)) (by (simp [kc_length, kw_length, *]; done))) ?_
          refine WL.pv (PV.not rfl rfl) rfl ?_
          refine WL.pv (PV.pick_t rfl rfl rfl) rfl ?_
          refine WL.as rfl rfl ?_
          refine WL.nil ?_
          refine WE.cond rfl (fun hc50 => ?_) (fun hc50 => ?_)
          · skip
            try simp only [decide_eq_true_eq, decide_eq_false_iff_not, ne_eq, Decidable.not_not, Bool.not_eq_true', Bool.not_eq_false', Bool.and_eq_true, Bool.or_eq_true, Bool.not_not, Bool.and_eq_false_iff, Bool.or_eq_false_iff, Int.not_lt, Int.not_le] at hc50
            have hun : unC m l[i] = [delK l[i].k] := by exact unC_del (by exact hg53) (by exact hc50)
            refine WE.reg ?_
            refine WL.mv rfl rfl ?_
            refine WL.pv (PV.fieldAddr rfl TryzT.fd69_0 rfl) rfl ?_
            refine WL.loadR rfl TryzT.ag31 rfl rfl (by exact Blk.segAt (H.l 0 rfl) (Seg.l (Seg.all _)) (by rfl)) (by (rw [TryzT.sz31]; refine congrArg some ?_; (simp only [kc_length, kw_length, List.length_replicate, List.length_append, List.length_cons, List.length_nil]; omega))) ?_
            refine WL.pv (PV.buildS rfl TryzT.pl69 TryzT.ze69 (Fl.cons rfl (by rfl) (by (simp only [kc_length, kw_length, List.length_replicate, List.length_append, List.length_cons, List.length_nil]; omega)) (Laid.left (Laid.all (by (simp only [kc_length, kw_length, List.length_replicate, List.length_append, List.length_cons, List.length_nil]; omega)))) (Fl.cons rfl (by rfl) (by (simp only [kc_length, kw_length, List.length_replicate, List.length_append, List.length_cons, List.length_nil]; done)) (Laid.right (Laid.right (Laid.all (by (simp only [kc_length, kw_length, List.length_replicate, List.length_append, List.length_cons, List.length_nil]; done))) (by with_reducible rfl)) (by (simp only [kc_length, kw_length, List.length_replicate, List.length_append, List.length_cons, List.length_nil]; omega))) Fl.nil))) rfl ?_
            refine WL.buildSliceF (l0 := ((kc (List.replicate 32 0) ++ ([.slice none 0 0] ++ ([.bool false]))))) H rfl TryzT.st47 (by decide) (by rfl) (Fl.cons rfl (by rfl) (by (simp only [kc_length, kw_length, List.length_replicate, List.length_append, List.length_cons, List.length_nil]; omega)) (Laid.all (by (simp only [kc_length, kw_length, List.length_replicate, List.length_append, List.length_cons, List.length_nil]; omega))) Fl.nil) rfl ?_
            intro b62 w13 H
            refine WL.append (m := 1) H 2 TryzT.st47 (by decide) rfl rfl rfl (SlC.of_blk (n := 1) (H.l 0 rfl) (chC_len (c := delK l[i].k) hki)) (one_chC (c := delK l[i].k) rfl) (by omega) (by decide) rfl ?_
            intro v63 w14 H
            have hSl : (outs ++ [(delK l[i].k : Ch)]).length = outs.length + 1 := by rw [List.length_append]; rfl
            have hSf : (outs ++ [(delK l[i].k : Ch)]).flatMap chC = outs.flatMap chC ++ chC (delK l[i].k) := by rw [List.flatMap_append, List.flatMap_singleton]
            replace H := H.forget 0
            replace H := H.forget 0
            replace H := H.conv (L' := [Ent.osl w.heap.size v63 69 34 ((outs ++ [(delK l[i].k : Ch)]).length) ((outs ++ [(delK l[i].k : Ch)]).flatMap chC)]) (by rw [hSl, hSf]; rfl)
            replace H := H.add (show Rob _ (CVals (outs ++ [(delK l[i].k : Ch)])) _ from (show Rob _ (CVals outs) _ from (by exact (H.rob 1 rfl : Rob _ (CVals outs) _))).imp fun w_ h => h.snoc (SlB.nil w_))
            refine WL.as rfl rfl ?_
            refine WL.nil ?_
            exact ⟨(v63, outs ++ [(delK l[i].k : Ch)]), (by repeat (first | with_reducible exact Off.refl _ _ | refine Off.upd rfl ?_)), ⟨rfl, trivial⟩, rfl, ⟨by dsimp only; rw [hsn]; exact kx_snoc hkx hun rfl, (show St X w _ [] _ [CVals (outs ++ [(delK l[i].k : Ch)]), TrA bits T, SlX s l, CVals l] from by exact H.sel [0, 3, 4, 5])⟩⟩
          · skip
            try simp only [decide_eq_true_eq, decide_eq_false_iff_not, ne_eq, Decidable.not_not, Bool.not_eq_true', Bool.not_eq_false', Bool.and_eq_true, Bool.or_eq_true, Bool.not_not, Bool.and_eq_false_iff, Bool.or_eq_false_iff, Int.not_lt, Int.not_le] at hc50
            have hun : unC m l[i] = [] := by exact unC_nil2 (by exact hg32) (by exact hc50)
            refine WE.skip ?_
            exact ⟨(v_, outs), (by repeat (first | with_reducible exact Off.refl _ _ | refine Off.upd rfl ?_)), ⟨rfl, trivial⟩, rfl, ⟨by dsimp only; rw [hsn]; exact kx_same hkx hun, (by replace H := H.forget 0; exact (show St X w _ [] _ [CVals (outs), TrA bits T, SlX s l, CVals l] from by exact H.sel [1, 2, 3, 4]))⟩⟩
        · skip
          refine WL.known (t := 52) (c := false) rfl hg53 ?_
          try simp only [decide_eq_true_eq, decide_eq_false_iff_not, ne_eq, Decidable.not_not, Bool.not_eq_true', Bool.not_eq_false', Bool.and_eq_true, Bool.or_eq_true, Bool.not_not, Bool.and_eq_false_iff, Bool.or_eq_false_iff, Int.not_lt, Int.not_le] at hg53
          have hun : unC m l[i] = [] := by (exfalso; simp_all; done)
          refine WL.off rfl ?_
          refine WL.off rfl ?_
          refine WL.off rfl ?_
          refine WL.pv (PV.pick_f rfl rfl rfl) rfl ?_
          refine WL.as rfl rfl ?_
          refine WL.nil ?_
          refine WE.cond_f rfl ?_
          refine WE.skip ?_
          exact ⟨(v_, outs), (by repeat (first | with_reducible exact Off.refl _ _ | refine Off.upd rfl ?_)), ⟨rfl, trivial⟩, rfl, ⟨by dsimp only; rw [hsn]; exact kx_same hkx hun, (by replace H := H.forget 0; exact (show St X w _ [] _ [CVals (outs), TrA bits T, SlX s l, CVals l] from by exact H.sel [1, 2, 3, 4]))⟩⟩
    · skip
      intro ⟨g1v, g1o⟩ γ w15 hI
      try dsimp only at hI
      obtain ⟨hkx2, H⟩ := hI
      try dsimp only at hkx2
      refine WE.reg ?_
      refine WL.pv (PV.eq (v' := .int .i64 ((i + 1 : Nat) : Int)) (PV.add64 rfl rfl rfl (by omega) (by omega)) (by rfl)) rfl ?_
      refine WL.mv rfl rfl ?_
      refine WL.nil ?_
      exact ⟨(i + 1, g1v, g1o), (by repeat (first | with_reducible exact Off.refl _ _ | refine Off.upd rfl ?_ | refine Off.setAll rfl ?_ | refine Off.forget' rfl ?_)), ⟨rfl, rfl, trivial⟩, rfl, ⟨⟨by dsimp only; omega, hkx2⟩, H⟩, (by dsimp only; omega)⟩
  · skip
    try simp only [decide_eq_true_eq, decide_eq_false_iff_not, ne_eq, Decidable.not_not, Bool.not_eq_true', Bool.not_eq_false', Bool.and_eq_true, Bool.or_eq_true, Bool.not_not, Bool.and_eq_false_iff, Bool.or_eq_false_iff, Int.not_lt, Int.not_le] at hc20
    have hie : l.take i = l := List.take_of_length_le (by omega)
    refine WE.exit ?_
    refine WE.seq_reg ?_
    refine WL.mv rfl rfl ?_
    refine WL.as rfl rfl ?_
    refine WL.as rfl rfl ?_
    refine WL.nil ?_
    refine WE.ret ?_
    refine ⟨[_, _], _, .nil _, ⟨rfl, rfl, trivial⟩, ?_⟩
    rw [hie] at hkx
    exact ⟨v_, outs, rfl, H.toOut0, H.l 0 rfl, H.give (by exact (H.rob 0 rfl : Rob _ (CVals outs) _)), UN.of hs hkm hltx hx hvm hkx⟩

end Go.Sp.Tryz

set_option maxRecDepth 100000
set_option maxHeartbeats 1000000
set_option linter.unusedVariables false
set_option linter.unusedSimpArgs false
namespace Go.Sp.Tryz
open Go.Proofs Go.RowKit Go.Sp
def midK (x : List UInt8) (s : List (List UInt8) × Bool) (y : List UInt8) : List (List UInt8) × Bool :=
  if 0 < cmpI y x ∧ (s.2 || decide (cmpI y x = 0)) = false then (s.1 ++ [x], true) else (s.1, s.2 || decide (cmpI y x = 0))
def stK (x : List UInt8) (s : List (List UInt8) × Bool) (y : List UInt8) : List (List UInt8) × Bool := ((midK x s y).1 ++ [y], (midK x s y).2)
def finK (x : List UInt8) (s : List (List UInt8) × Bool) : List (List UInt8) := if s.2 then s.1 else s.1 ++ [x]
def SK (o : List (List UInt8)) (x : List UInt8) (j : Nat) : List (List UInt8) × Bool := (o.take j).foldl (stK x) ([], false)
theorem SK_snoc {o : List (List UInt8)} {x : List UInt8} {j : Nat} (h : j < o.length) : SK o x (j + 1) = stK x (SK o x j) o[j] := by
  unfold SK
  rw [List.take_succ_eq_append_getElem h, List.foldl_append]; rfl
def insR (x : List UInt8) : List (List UInt8) → List (List UInt8)
  | [] => [x]
  | y :: r => if cmpI y x = 0 then y :: r else if 0 < cmpI y x then x :: y :: r else y :: insR x r
def sortR (ks : List (List UInt8)) : List (List UInt8) := ks.foldl (fun o x => insR x o) []
theorem stK_done (x : List UInt8) : ∀ (out acc : List (List UInt8)), out.foldl (stK x) (acc, true) = (acc ++ out, true)
  | [], acc => by simp
  | y :: r, acc => by
    have e : stK x (acc, true) y = (acc ++ [y], true) := by simp [stK, midK]
    rw [List.foldl_cons, e, stK_done x r, List.append_assoc]; rfl
theorem stK_ins (x : List UInt8) : ∀ (out acc : List (List UInt8)), finK x (out.foldl (stK x) (acc, false)) = acc ++ insR x out
  | [], acc => by simp [finK, insR]
  | y :: r, acc => by
    rw [List.foldl_cons]
    by_cases h0 : cmpI y x = 0
    · have e : stK x (acc, false) y = (acc ++ [y], true) := by simp [stK, midK, h0]
      rw [e, stK_done]
      simp [finK, insR, h0]
    · by_cases h1 : 0 < cmpI y x
      · have e : stK x (acc, false) y = (acc ++ [x] ++ [y], true) := by simp [stK, midK, h0, h1]
        rw [e, stK_done]
        simp [finK, insR, h0, h1]
      · have e : stK x (acc, false) y = (acc ++ [y], false) := by simp [stK, midK, h0, h1]
        rw [e, stK_ins x r]
        simp [insR, h0, h1]
theorem SK_fin (o : List (List UInt8)) (x : List UInt8) : finK x (SK o x o.length) = insR x o := by
  unfold SK
  rw [List.take_length, stK_ins]; rfl
theorem SK_len (o : List (List UInt8)) (x : List UInt8) : ∀ j, (SK o x j).1.length ≤ 2 * j := by
  intro j
  have h : ∀ (l : List (List UInt8)) (s : List (List UInt8) × Bool), (l.foldl (stK x) s).1.length ≤ s.1.length + 2 * l.length := by
    intro l
    induction l with
    | nil => intro s; simp
    | cons y l ih =>
      intro s
      rw [List.foldl_cons]
      have h1 := ih (stK x s y)
      have h2 : (stK x s y).1.length ≤ s.1.length + 2 := by
        unfold stK midK
        split <;> simp
      rw [List.length_cons]; omega
  have := h (o.take j) ([], false)
  rw [List.length_take] at this
  unfold SK
  simp at this ⊢
  omega
theorem insR_len (x : List UInt8) : ∀ o : List (List UInt8), (insR x o).length ≤ o.length + 1
  | [] => by simp [insR]
  | y :: r => by
    have := insR_len x r
    unfold insR
    split
    · simp
    · split
      · simp
      · rw [List.length_cons, List.length_cons]; omega
theorem sortR_snoc {ks : List (List UInt8)} {i : Nat} (h : i < ks.length) : sortR (ks.take (i + 1)) = insR ks[i] (sortR (ks.take i)) := by
  unfold sortR
  rw [List.take_succ_eq_append_getElem h, List.foldl_append]; rfl
theorem sortR_len (ks : List (List UInt8)) : ∀ i, i ≤ ks.length → (sortR (ks.take i)).length ≤ i
  | 0, _ => by simp [sortR]
  | i + 1, h => by
    rw [sortR_snoc (by omega)]
    have h1 := insR_len ks[i] (sortR (ks.take i))
    have h2 := sortR_len ks i (by omega)
    omega
theorem insR_mem (x : List UInt8) : ∀ (o : List (List UInt8)), K32 o → x.length = 32 → ∀ z, z ∈ insR x o ↔ z = x ∨ z ∈ o
  | [], _, _, z => by simp [insR]
  | y :: r, hk, hx, z => by
    have ih := insR_mem x r (fun k h => hk k (List.mem_cons_of_mem _ h)) hx z
    unfold insR
    split
    · rename_i h0
      have e : y = x := num_inj _ _ (by rw [hx, hk y (by simp)]) (cmpI_zero.1 h0)
      rw [e]; simp
    · split
      · simp
      · rw [List.mem_cons, ih, List.mem_cons]
        constructor
        · rintro (h | h | h)
          · exact .inr (.inl h)
          · exact .inl h
          · exact .inr (.inr h)
        · rintro (h | h | h)
          · exact .inr (.inl h)
          · exact .inl h
          · exact .inr (.inr h)
theorem insR_lt (x : List UInt8) : ∀ (o : List (List UInt8)), K32 o → x.length = 32 → LtK o → LtK (insR x o)
  | [], _, _, _ => by simp [insR]
  | y :: r, hk, hx, h => by
    have h1 := List.pairwise_cons.1 h
    have hkr : K32 r := fun k h => hk k (List.mem_cons_of_mem _ h)
    unfold insR
    split
    · exact h
    · rename_i h0
      split
      · rename_i h2
        have h3 := cmpI_pos.1 h2
        refine List.pairwise_cons.2 ⟨fun z hz => ?_, h⟩
        rcases List.mem_cons.1 hz with rfl | hz
        · exact h3
        · have := h1.1 z hz; omega
      · rename_i h2
        have h3 : num y < num x := by
          have e1 : ¬ num x < num y := fun hh => h2 (cmpI_pos.2 hh)
          have e2 : ¬ num y = num x := fun hh => h0 (cmpI_zero.2 hh)
          omega
        refine List.pairwise_cons.2 ⟨fun z hz => ?_, insR_lt x r hkr hx h1.2⟩
        rcases (insR_mem x r hkr hx z).1 hz with rfl | hz
        · exact h3
        · exact h1.1 z hz
theorem sortR_ok (ks : List (List UInt8)) (hk : K32 ks) : ∀ i, i ≤ ks.length → LtK (sortR (ks.take i)) ∧ K32 (sortR (ks.take i)) ∧ ∀ z, z ∈ sortR (ks.take i) ↔ z ∈ ks.take i
  | 0, _ => ⟨.nil, (fun _ h => by cases h), fun z => by simp [sortR]⟩
  | i + 1, h => by
    obtain ⟨h1, h2, h3⟩ := sortR_ok ks hk i (by omega)
    have hx := hk _ (List.getElem_mem (show i < ks.length by omega))
    have hm := insR_mem ks[i] _ h2 hx
    rw [sortR_snoc (by omega)]
    refine ⟨insR_lt _ _ h2 hx h1, fun z hz => ?_, fun z => ?_⟩
    · rcases (hm z).1 hz with rfl | hz
      · exact hx
      · exact h2 z hz
    · rw [hm, h3, List.take_succ_eq_append_getElem (by omega), List.mem_append, List.mem_singleton, or_comm]
theorem sortR_full (ks : List (List UInt8)) (hk : K32 ks) : LtK (sortR ks) ∧ K32 (sortR ks) ∧ ∀ z, z ∈ sortR ks ↔ z ∈ ks := by
  have := sortR_ok ks hk ks.length (Nat.le_refl _)
  rwa [List.take_length] at this
theorem refSort_c {X : Nat → Prop} {w : World} {s : Value} {ks : List (List UInt8)} (hX : ∀ b, X b → b < w.heap.size) (hf0 : Rob X (SlK s ks) w) (hkl : K32 ks) (hlen : ks.length ≤ 1000000) :
    Ret Tryz.prog 46 [s].toArray w fun v w' => Out Nil w w' ∧ w'.ownsRow w.heap.size 31 32 v (sortR ks).length ((sortR ks).flatMap kc) := by
  refine Ret.of_body (N := 63) Tryz.func46 rfl rfl (by simp) ?_
  have H := St.begin hX
  replace H := H.add (rob0 hf0)
  refine WE.seq_reg ?_
  refine WL.as rfl rfl ?_
  refine WL.nil ?_
  refine WE.seq_reg ?_
  refine WL.as rfl rfl ?_
  refine WL.nil ?_
  refine WE.seq ?_
  refine WE.seq_reg ?_
  refine WL.as rfl rfl ?_
  refine WL.nil ?_
  refine WE.block ?_
  replace H := H.nilOsl 31 32
  refine WE.loop (α := Nat × Value) [3, 4, 5, 6, 7, 8, 9, 10, 11, 12, 13, 14, 15, 16, 17, 18, 19, 20, 21, 22, 23, 24, 25, 26, 27, 28, 29, 30, 31, 32, 33, 34, 35, 36, 37, 38, 39, 40, 41, 42, 43, 44, 45, 46, 47, 48, 49, 50, 51, 52, 53, 54, 55, 56, 57, 58, 59, 60, 61] (fun p => [(4, .int .i64 p.1), (3, p.2)]) (fun p wl => p.1 ≤ ks.length ∧ St X w wl [] [Ent.osl w.heap.size p.2 31 32 ((sortR (ks.take p.1)).length) ((sortR (ks.take p.1)).flatMap kc)] [SlK s ks]) (fun p => ks.length - p.1) (0, .slice none 0 0) ⟨rfl, rfl, trivial⟩ ⟨Nat.zero_le _, H⟩ ?_
  intro ⟨i, ov⟩ γ0 w1 hI
  try dsimp only at hI
  obtain ⟨hi, H⟩ := hI
  refine WE.seq ?_
  refine WE.seq_reg ?_
  refine WL.mv rfl rfl ?_
  refine WL.mv rfl rfl ?_
  refine WL.pv (PV.lenS (H.p 0 rfl : SlK s ks _) TryzT.sl70 rfl) rfl ?_
  refine WL.pv (PV.lss rfl rfl rfl) rfl ?_
  refine WL.nil ?_
  refine WE.cond rfl (fun hc12 => ?_) (fun hc12 => ?_)
  · skip
    try simp only [decide_eq_true_eq, decide_eq_false_iff_not, ne_eq, Decidable.not_not, Bool.not_eq_true', Bool.not_eq_false', Bool.and_eq_true, Bool.or_eq_true, Bool.not_not, Bool.and_eq_false_iff, Bool.or_eq_false_iff, Int.not_lt, Int.not_le] at hc12
    have hil : i < ks.length := by omega
    have hki := hkl _ (List.getElem_mem hil)
    have hok := sortR_ok ks hkl i hi
    have hol := sortR_len ks i hi
    have hsn := sortR_snoc hil
    refine WE.skip ?_
    refine WE.seq ?_
    refine WE.block ?_
    refine WE.seq_reg ?_
    refine WL.as rfl rfl ?_
    refine WL.nil ?_
    refine WE.seq_reg ?_
    refine WL.as rfl rfl ?_
    refine WL.nil ?_
    refine WE.seq ?_
    refine WE.seq_reg ?_
    refine WL.as rfl rfl ?_
    refine WL.nil ?_
    refine WE.block ?_
    replace H := H.nilOsl 31 32
    refine WE.loop (α := Nat × Value) [5, 6, 7, 8, 15, 16, 17, 18, 19, 20, 21, 22, 23, 24, 25, 26, 27, 28, 29, 30, 31, 32, 33, 34, 35, 36, 37, 38, 39, 40, 41, 42, 43, 44, 45, 46, 47, 48, 49, 50, 51] (fun q => [(7, .int .i64 q.1), (5, q.2), (6, .bool (SK (sortR (ks.take i)) ks[i] q.1).2)]) (fun q wl => q.1 ≤ (sortR (ks.take i)).length ∧ St X w wl [] [Ent.osl w.heap.size q.2 31 32 (((SK (sortR (ks.take i)) ks[i] q.1).1).length) (((SK (sortR (ks.take i)) ks[i] q.1).1).flatMap kc), Ent.osl w.heap.size ov 31 32 (((sortR (ks.take i))).length) (((sortR (ks.take i))).flatMap kc)] [SlK s ks]) (fun q => (sortR (ks.take i)).length - q.1) (0, .slice none 0 0) ⟨rfl, rfl, rfl, trivial⟩ ⟨Nat.zero_le _, H⟩ ?_
    intro ⟨j, nv⟩ γ1 w2 hI
    try dsimp only at hI
    obtain ⟨hj, H⟩ := hI
    refine WE.seq ?_
    refine WE.seq_reg ?_
    refine WL.mv rfl rfl ?_
    refine WL.mv rfl rfl ?_
    refine WL.pv (PV.lenS (show SlK ov (sortR (ks.take i)) _ from SlC.of_own (by exact H.l 1 rfl)) TryzT.sl70 rfl) rfl ?_
    refine WL.pv (PV.lss rfl rfl rfl) rfl ?_
    refine WL.nil ?_
    refine WE.cond rfl (fun hc18 => ?_) (fun hc18 => ?_)
    · skip
      try simp only [decide_eq_true_eq, decide_eq_false_iff_not, ne_eq, Decidable.not_not, Bool.not_eq_true', Bool.not_eq_false', Bool.and_eq_true, Bool.or_eq_true, Bool.not_not, Bool.and_eq_false_iff, Bool.or_eq_false_iff, Int.not_lt, Int.not_le] at hc18
      have hlt : j < (sortR (ks.take i)).length := by omega
      have hkj := hok.2.1 _ (List.getElem_mem hlt)
      have hsl := SK_len (sortR (ks.take i)) ks[i] j
      have hsk := SK_snoc (x := ks[i]) hlt
      refine WE.skip ?_
      refine WE.seq ?_
      refine WE.block ?_
      refine WE.seq_draw (.take 0 (.take 1 (.take 2 (.take 3 (.take 4 (.take 5 (.take 6 (.take 7 (.pick1 8 (.take 9 .done)))))))))) TryzT.mixed (by kernel_rfl) ?_
      replace H := H.out (Out.drew _)
      refine WP.mv rfl rfl rfl ?_
      refine WP.mv rfl rfl rfl ?_
      refine WP.take_pure rfl rfl (PV.idxS rfl (show SlK ov (sortR (ks.take i)) _ from SlC.of_own (by exact H.l 1 rfl)) TryzT.sl70 TryzT.sz31 rfl rfl (by omega) (by omega)) ?_
      refine WP.readA rfl rfl rfl TryzT.ag31 rfl (SlK.rd (show SlK ov (sortR (ks.take i)) _ from SlC.of_own (by exact H.l 1 rfl)) hok.2.1 j hlt) (by (rw [TryzT.sz31]; refine congrArg some ?_; (simp only [kc_length, kw_length, List.length_replicate, List.length_append, List.length_cons, List.length_nil]; omega))) ?_
      refine WP.mv rfl rfl rfl ?_
      refine WP.mv rfl rfl rfl ?_
      refine WP.take_pure rfl rfl (PV.idxS rfl (H.p 0 rfl : SlK s ks _) TryzT.sl70 TryzT.sz31 rfl rfl (by omega) (by omega)) ?_
      refine WP.readA rfl rfl rfl TryzT.ag31 rfl (SlK.rd (H.p 0 rfl : SlK s ks _) hkl i hil) (by (rw [TryzT.sz31]; refine congrArg some ?_; (simp only [kc_length, kw_length, List.length_replicate, List.length_append, List.length_cons, List.length_nil]; omega))) ?_
      refine WP.pick1 rfl ?_
      refine WL.call TryzT.fb60 rfl (refCompare_c (k := (sortR (ks.take i))[j]) (l := ks[i]) H.yylt  hkj hki) ?_
      rintro _ w3 ⟨rfl, hO⟩
      replace H := H.out hO
      refine WL.nil ⟨(List.forall_mem_cons.2 ⟨(by exact (fun h => absurd (show waits _ 8 7 = false from h) (by decide +kernel))), (List.forall_mem_cons.2 ⟨(by exact (fun h => absurd (show waits _ 8 3 = false from h) (by decide +kernel))), (fun _ h => by cases h)⟩)⟩), ?_⟩
      refine WP.as rfl rfl rfl ?_
      refine WP.done ?_
      refine WE.cut (α := Unit) [6, 30, 31] (fun _ => [(6, .bool ((SK (sortR (ks.take i)) ks[i] j).2 || decide (cmpI (sortR (ks.take i))[j] ks[i] = 0)))]) (fun _ wl => St X w wl [] [Ent.osl w.heap.size nv 31 32 (((SK (sortR (ks.take i)) ks[i] j).1).length) (((SK (sortR (ks.take i)) ks[i] j).1).flatMap kc), Ent.osl w.heap.size ov 31 32 (((sortR (ks.take i))).length) (((sortR (ks.take i))).flatMap kc)] [SlK s ks]) ?_ ?_
      · skip
        refine WE.seq_reg ?_
        refine WL.mv rfl rfl ?_
        refine WL.pv (PV.eql rfl rfl rfl) rfl ?_
        refine WL.nil ?_
        refine WE.cond rfl (fun hc31 => ?_) (fun hc31 => ?_)
        · skip
          try simp only [decide_eq_true_eq, decide_eq_false_iff_not, ne_eq, Decidable.not_not, Bool.not_eq_true', Bool.not_eq_false', Bool.and_eq_true, Bool.or_eq_true, Bool.not_not, Bool.and_eq_false_iff, Bool.or_eq_false_iff, Int.not_lt, Int.not_le] at hc31
          have hz : cmpI (sortR (ks.take i))[j] ks[i] = 0 := by exact hc31
          refine WE.reg ?_
          refine WL.as rfl rfl ?_
          refine WL.nil ?_
          exact ⟨(), (by repeat (first | with_reducible exact Off.refl _ _ | refine Off.upd rfl ?_)), ⟨(by (show Value.bool true = _; congr 1; simp [hz])), trivial⟩, rfl, H⟩
        · skip
          try simp only [decide_eq_true_eq, decide_eq_false_iff_not, ne_eq, Decidable.not_not, Bool.not_eq_true', Bool.not_eq_false', Bool.and_eq_true, Bool.or_eq_true, Bool.not_not, Bool.and_eq_false_iff, Bool.or_eq_false_iff, Int.not_lt, Int.not_le] at hc31
          have hz : ¬ cmpI (sortR (ks.take i))[j] ks[i] = 0 := by exact hc31
          refine WE.skip ?_
          exact ⟨(), (by repeat (first | with_reducible exact Off.refl _ _ | refine Off.upd rfl ?_)), ⟨(by (show Value.bool (SK (sortR (ks.take i)) ks[i] j).2 = _; congr 1; simp [hz])), trivial⟩, rfl, H⟩
      · skip
        intro _ γ w4 hI
        try dsimp only at hI
        replace H := hI
        refine WE.cut (α := Value × Bool) [5, 6, 32, 33, 34, 35, 36, 37, 38, 39, 40, 41, 42, 43, 44] (fun g1_ => [(5, g1_.1), (6, .bool g1_.2)]) (fun g1_ wl => g1_.2 = (midK ks[i] (SK (sortR (ks.take i)) ks[i] j) (sortR (ks.take i))[j]).2 ∧ St X w wl [] [Ent.osl w.heap.size g1_.1 31 32 (((midK ks[i] (SK (sortR (ks.take i)) ks[i] j) (sortR (ks.take i))[j]).1).length) (((midK ks[i] (SK (sortR (ks.take i)) ks[i] j) (sortR (ks.take i))[j]).1).flatMap kc), Ent.osl w.heap.size ov 31 32 (((sortR (ks.take i))).length) (((sortR (ks.take i))).flatMap kc)] [SlK s ks]) ?_ ?_
        · skip
          refine WE.seq_reg ?_
          refine WL.mv rfl rfl ?_
          refine WL.pv (PV.gtr rfl rfl rfl) rfl ?_
          refine WL.mv rfl rfl ?_
          refine WL.split (t := 34) rfl (fun hg34 => ?_) (fun hg34 => ?_)
          · skip
            refine WL.known (t := 33) (c := true) rfl hg34 ?_
            try simp only [decide_eq_true_eq, decide_eq_false_iff_not, ne_eq, Decidable.not_not, Bool.not_eq_true', Bool.not_eq_false', Bool.and_eq_true, Bool.or_eq_true, Bool.not_not, Bool.and_eq_false_iff, Bool.or_eq_false_iff, Int.not_lt, Int.not_le] at hg34
            refine WL.mv rfl rfl ?_
            refine WL.pv (PV.not rfl rfl) rfl ?_
            refine WL.pv (PV.pick_t rfl rfl rfl) rfl ?_
            refine WL.nil ?_
            refine WE.cond rfl (fun hc37 => ?_) (fun hc37 => ?_)
            · skip
              try simp only [decide_eq_true_eq, decide_eq_false_iff_not, ne_eq, Decidable.not_not, Bool.not_eq_true', Bool.not_eq_false', Bool.and_eq_true, Bool.or_eq_true, Bool.not_not, Bool.and_eq_false_iff, Bool.or_eq_false_iff, Int.not_lt, Int.not_le] at hc37
              have hmd : (midK ks[i] (SK (sortR (ks.take i)) ks[i] j) (sortR (ks.take i))[j]) = ((SK (sortR (ks.take i)) ks[i] j).1 ++ [ks[i]], true) := by unfold midK; exact if_pos ⟨by exact hg34, by simpa using hc37⟩
              have hS : (midK ks[i] (SK (sortR (ks.take i)) ks[i] j) (sortR (ks.take i))[j]).1 = (SK (sortR (ks.take i)) ks[i] j).1 ++ [ks[i]] := by rw [hmd]
              refine WE.seq_reg ?_
              refine WL.mv rfl rfl ?_
              refine WL.mv rfl rfl ?_
              refine WL.mv rfl rfl ?_
              refine WL.pv (PV.idxS rfl (H.p 0 rfl : SlK s ks _) TryzT.sl70 TryzT.sz31 rfl rfl (by omega) (by omega)) rfl ?_
              refine WL.loadR rfl TryzT.ag31 rfl rfl (SlK.rd (H.p 0 rfl : SlK s ks _) hkl i hil) (by (rw [TryzT.sz31]; refine congrArg some ?_; (simp only [kc_length, kw_length, List.length_replicate, List.length_append, List.length_cons, List.length_nil]; omega))) ?_
              refine WL.buildSliceF (l0 := (kc (List.replicate 32 0))) H rfl TryzT.st70 (by decide) (by rfl) (Fl.cons rfl (by rfl) (by (simp only [kc_length, kw_length, List.length_replicate, List.length_append, List.length_cons, List.length_nil]; omega)) (Laid.all (by (simp only [kc_length, kw_length, List.length_replicate, List.length_append, List.length_cons, List.length_nil]; omega))) Fl.nil) rfl ?_
              intro b43 w5 H
              refine WL.append (m := 1) H 1 TryzT.st70 (by decide) rfl rfl rfl (SlC.of_blk (n := 1) (H.l 0 rfl) (by rw [kc_length]; exact hki)) (kc_one _) (by omega) (by decide) rfl ?_
              intro v44 w6 H
              have hSl := congrArg List.length hS
              rw [List.length_append, List.length_singleton] at hSl
              have hSf := congrArg (List.flatMap kc) hS
              rw [List.flatMap_append, List.flatMap_singleton] at hSf
              replace H := H.forget 0
              replace H := H.conv (L' := [Ent.osl w.heap.size v44 31 32 (((midK ks[i] (SK (sortR (ks.take i)) ks[i] j) (sortR (ks.take i))[j]).1).length) (((midK ks[i] (SK (sortR (ks.take i)) ks[i] j) (sortR (ks.take i))[j]).1).flatMap kc), Ent.osl w.heap.size ov 31 32 (((sortR (ks.take i))).length) (((sortR (ks.take i))).flatMap kc)]) (by rw [hSl, hSf]; rfl)
              refine WL.as rfl rfl ?_
              refine WL.nil ?_
              refine WE.reg ?_
              refine WL.as rfl rfl ?_
              refine WL.nil ?_
              exact ⟨(v44, true), (by repeat (first | with_reducible exact Off.refl _ _ | refine Off.upd rfl ?_)), ⟨rfl, rfl, trivial⟩, rfl, ⟨by rw [hmd], H⟩⟩
            · skip
              try simp only [decide_eq_true_eq, decide_eq_false_iff_not, ne_eq, Decidable.not_not, Bool.not_eq_true', Bool.not_eq_false', Bool.and_eq_true, Bool.or_eq_true, Bool.not_not, Bool.and_eq_false_iff, Bool.or_eq_false_iff, Int.not_lt, Int.not_le] at hc37
              have hmd : (midK ks[i] (SK (sortR (ks.take i)) ks[i] j) (sortR (ks.take i))[j]) = ((SK (sortR (ks.take i)) ks[i] j).1, (SK (sortR (ks.take i)) ks[i] j).2 || decide (cmpI (sortR (ks.take i))[j] ks[i] = 0)) := by unfold midK; exact if_neg (by rintro ⟨_, h2_⟩; simp at h2_; rcases hc37 with h_ | h_; exact absurd (h2_.1.symm.trans h_) (by simp); exact h2_.2 h_)
              refine WE.skip ?_
              exact ⟨(nv, (SK (sortR (ks.take i)) ks[i] j).2 || decide (cmpI (sortR (ks.take i))[j] ks[i] = 0)), (by repeat (first | with_reducible exact Off.refl _ _ | refine Off.upd rfl ?_)), ⟨rfl, rfl, trivial⟩, rfl, ⟨by rw [hmd], H.conv (by rw [hmd])⟩⟩
          · skip
            refine WL.known (t := 33) (c := false) rfl hg34 ?_
            try simp only [decide_eq_true_eq, decide_eq_false_iff_not, ne_eq, Decidable.not_not, Bool.not_eq_true', Bool.not_eq_false', Bool.and_eq_true, Bool.or_eq_true, Bool.not_not, Bool.and_eq_false_iff, Bool.or_eq_false_iff, Int.not_lt, Int.not_le] at hg34
            have hmd : (midK ks[i] (SK (sortR (ks.take i)) ks[i] j) (sortR (ks.take i))[j]) = ((SK (sortR (ks.take i)) ks[i] j).1, (SK (sortR (ks.take i)) ks[i] j).2 || decide (cmpI (sortR (ks.take i))[j] ks[i] = 0)) := by unfold midK; exact if_neg (by rintro ⟨h1_, _⟩; omega)
            refine WL.off rfl ?_
            refine WL.off rfl ?_
            refine WL.pv (PV.pick_f rfl rfl rfl) rfl ?_
            refine WL.nil ?_
            refine WE.cond_f rfl ?_
            refine WE.skip ?_
            exact ⟨(nv, (SK (sortR (ks.take i)) ks[i] j).2 || decide (cmpI (sortR (ks.take i))[j] ks[i] = 0)), (by repeat (first | with_reducible exact Off.refl _ _ | refine Off.upd rfl ?_)), ⟨rfl, rfl, trivial⟩, rfl, ⟨by rw [hmd], H.conv (by rw [hmd])⟩⟩
        · skip
          intro ⟨g1v, g1b⟩ γ w7 hI
          try dsimp only at hI
          obtain ⟨hg12, H⟩ := hI
          have hPS : (SK (sortR (ks.take i)) ks[i] (j + 1)).2 = (midK ks[i] (SK (sortR (ks.take i)) ks[i] j) (sortR (ks.take i))[j]).2 := by rw [hsk]; rfl
          try dsimp only at hg12
          rw [← hPS] at hg12
          subst hg12
          refine WE.reg ?_
          refine WL.mv rfl rfl ?_
          refine WL.mv rfl rfl ?_
          refine WL.mv rfl rfl ?_
          refine WL.pv (PV.idxS rfl (show SlK ov (sortR (ks.take i)) _ from SlC.of_own (by exact H.l 1 rfl)) TryzT.sl70 TryzT.sz31 rfl rfl (by omega) (by omega)) rfl ?_
          refine WL.loadR rfl TryzT.ag31 rfl rfl (SlK.rd (show SlK ov (sortR (ks.take i)) _ from SlC.of_own (by exact H.l 1 rfl)) hok.2.1 j hlt) (by (rw [TryzT.sz31]; refine congrArg some ?_; (simp only [kc_length, kw_length, List.length_replicate, List.length_append, List.length_cons, List.length_nil]; omega))) ?_
          refine WL.buildSliceF (l0 := (kc (List.replicate 32 0))) H rfl TryzT.st70 (by decide) (by rfl) (Fl.cons rfl (by rfl) (by (simp only [kc_length, kw_length, List.length_replicate, List.length_append, List.length_cons, List.length_nil]; omega)) (Laid.all (by (simp only [kc_length, kw_length, List.length_replicate, List.length_append, List.length_cons, List.length_nil]; omega))) Fl.nil) rfl ?_
          intro b50 w8 H
          have hS : (SK (sortR (ks.take i)) ks[i] (j + 1)).1 = (midK ks[i] (SK (sortR (ks.take i)) ks[i] j) (sortR (ks.take i))[j]).1 ++ [(sortR (ks.take i))[j]] := by rw [hsk]; rfl
          have hml : (midK ks[i] (SK (sortR (ks.take i)) ks[i] j) (sortR (ks.take i))[j]).1.length ≤ 2 * j + 1 := by unfold midK; split <;> (dsimp only; try rw [List.length_append, List.length_singleton]) <;> omega
          refine WL.append (m := 1) H 1 TryzT.st70 (by decide) rfl rfl rfl (SlC.of_blk (n := 1) (H.l 0 rfl) (by rw [kc_length]; exact hkj)) (kc_one _) (by omega) (by decide) rfl ?_
          intro v51 w9 H
          have hSl := congrArg List.length hS
          rw [List.length_append, List.length_singleton] at hSl
          have hSf := congrArg (List.flatMap kc) hS
          rw [List.flatMap_append, List.flatMap_singleton] at hSf
          replace H := H.forget 0
          replace H := H.conv (L' := [Ent.osl w.heap.size v51 31 32 (((SK (sortR (ks.take i)) ks[i] (j + 1)).1).length) (((SK (sortR (ks.take i)) ks[i] (j + 1)).1).flatMap kc), Ent.osl w.heap.size ov 31 32 (((sortR (ks.take i))).length) (((sortR (ks.take i))).flatMap kc)]) (by rw [hSl, hSf]; rfl)
          refine WL.as rfl rfl ?_
          refine WL.nil ?_
          refine WE.reg ?_
          refine WL.mv rfl rfl ?_
          refine WL.pv (PV.add64 rfl rfl rfl (by omega) (by omega)) rfl ?_
          refine WL.as rfl rfl ?_
          refine WL.nil ?_
          exact ⟨(j + 1, v51), (by repeat (first | with_reducible exact Off.refl _ _ | refine Off.upd rfl ?_ | refine Off.setAll rfl ?_ | refine Off.forget' rfl ?_)), ⟨rfl, rfl, rfl, trivial⟩, rfl, ⟨by dsimp only; omega, H⟩, (by dsimp only; omega)⟩
    · skip
      try simp only [decide_eq_true_eq, decide_eq_false_iff_not, ne_eq, Decidable.not_not, Bool.not_eq_true', Bool.not_eq_false', Bool.and_eq_true, Bool.or_eq_true, Bool.not_not, Bool.and_eq_false_iff, Bool.or_eq_false_iff, Int.not_lt, Int.not_le] at hc18
      have hje : j = (sortR (ks.take i)).length := by omega
      have hfin := SK_fin (sortR (ks.take i)) ks[i]
      rw [← hje] at hfin
      have hsl := SK_len (sortR (ks.take i)) ks[i] j
      refine WE.exit ?_
      refine WE.cut (α := Value) [5, 52, 53, 54, 55, 56, 57, 58, 59, 60] (fun g1_ => [(5, g1_)]) (fun g1_ wl => St X w wl [] [Ent.osl w.heap.size g1_ 31 32 ((insR ks[i] (sortR (ks.take i))).length) ((insR ks[i] (sortR (ks.take i))).flatMap kc), Ent.osl w.heap.size ov 31 32 (((sortR (ks.take i))).length) (((sortR (ks.take i))).flatMap kc)] [SlK s ks]) ?_ ?_
      · skip
        refine WE.seq_reg ?_
        refine WL.mv rfl rfl ?_
        refine WL.pv (PV.not rfl rfl) rfl ?_
        refine WL.nil ?_
        refine WE.cond rfl (fun hc53 => ?_) (fun hc53 => ?_)
        · skip
          try simp only [decide_eq_true_eq, decide_eq_false_iff_not, ne_eq, Decidable.not_not, Bool.not_eq_true', Bool.not_eq_false', Bool.and_eq_true, Bool.or_eq_true, Bool.not_not, Bool.and_eq_false_iff, Bool.or_eq_false_iff, Int.not_lt, Int.not_le] at hc53
          have hS : insR ks[i] (sortR (ks.take i)) = (SK (sortR (ks.take i)) ks[i] j).1 ++ [ks[i]] := by rw [← hfin]; unfold finK; exact if_neg (by simpa using hc53)
          refine WE.reg ?_
          refine WL.mv rfl rfl ?_
          refine WL.mv rfl rfl ?_
          refine WL.mv rfl rfl ?_
          refine WL.pv (PV.idxS rfl (H.p 0 rfl : SlK s ks _) TryzT.sl70 TryzT.sz31 rfl rfl (by omega) (by omega)) rfl ?_
          refine WL.loadR rfl TryzT.ag31 rfl rfl (SlK.rd (H.p 0 rfl : SlK s ks _) hkl i hil) (by (rw [TryzT.sz31]; refine congrArg some ?_; (simp only [kc_length, kw_length, List.length_replicate, List.length_append, List.length_cons, List.length_nil]; omega))) ?_
          refine WL.buildSliceF (l0 := (kc (List.replicate 32 0))) H rfl TryzT.st70 (by decide) (by rfl) (Fl.cons rfl (by rfl) (by (simp only [kc_length, kw_length, List.length_replicate, List.length_append, List.length_cons, List.length_nil]; omega)) (Laid.all (by (simp only [kc_length, kw_length, List.length_replicate, List.length_append, List.length_cons, List.length_nil]; omega))) Fl.nil) rfl ?_
          intro b59 w10 H
          refine WL.append (m := 1) H 1 TryzT.st70 (by decide) rfl rfl rfl (SlC.of_blk (n := 1) (H.l 0 rfl) (by rw [kc_length]; exact hki)) (kc_one _) (by omega) (by decide) rfl ?_
          intro v60 w11 H
          have hSl := congrArg List.length hS
          rw [List.length_append, List.length_singleton] at hSl
          have hSf := congrArg (List.flatMap kc) hS
          rw [List.flatMap_append, List.flatMap_singleton] at hSf
          replace H := H.forget 0
          replace H := H.conv (L' := [Ent.osl w.heap.size v60 31 32 (((insR ks[i] (sortR (ks.take i)))).length) (((insR ks[i] (sortR (ks.take i)))).flatMap kc), Ent.osl w.heap.size ov 31 32 (((sortR (ks.take i))).length) (((sortR (ks.take i))).flatMap kc)]) (by rw [hSl, hSf]; rfl)
          refine WL.as rfl rfl ?_
          refine WL.nil ?_
          exact ⟨v60, (by repeat (first | with_reducible exact Off.refl _ _ | refine Off.upd rfl ?_)), ⟨rfl, trivial⟩, rfl, H⟩
        · skip
          try simp only [decide_eq_true_eq, decide_eq_false_iff_not, ne_eq, Decidable.not_not, Bool.not_eq_true', Bool.not_eq_false', Bool.and_eq_true, Bool.or_eq_true, Bool.not_not, Bool.and_eq_false_iff, Bool.or_eq_false_iff, Int.not_lt, Int.not_le] at hc53
          have hS2 : insR ks[i] (sortR (ks.take i)) = (SK (sortR (ks.take i)) ks[i] j).1 := by rw [← hfin]; unfold finK; exact if_pos (by exact hc53)
          refine WE.skip ?_
          exact ⟨nv, (by repeat (first | with_reducible exact Off.refl _ _ | refine Off.upd rfl ?_)), ⟨rfl, trivial⟩, rfl, H.conv (by rw [hS2])⟩
      · skip
        intro g1_ γ w12 hI
        try dsimp only at hI
        replace H := hI
        refine WE.reg ?_
        refine WL.mv rfl rfl ?_
        refine WL.as rfl rfl ?_
        refine WL.nil ?_
        refine WE.reg ?_
        refine WL.mv rfl rfl ?_
        refine WL.pv (PV.add64 rfl rfl rfl (by omega) (by omega)) rfl ?_
        refine WL.as rfl rfl ?_
        refine WL.nil ?_
        replace H := H.forget 1
        exact ⟨(i + 1, g1_), (by repeat (first | with_reducible exact Off.refl _ _ | refine Off.upd rfl ?_ | refine Off.setAll rfl ?_ | refine Off.forget' rfl ?_)), ⟨rfl, rfl, trivial⟩, rfl, ⟨by dsimp only; omega, by dsimp only; rw [hsn]; exact H⟩, (by dsimp only; omega)⟩
  · skip
    try simp only [decide_eq_true_eq, decide_eq_false_iff_not, ne_eq, Decidable.not_not, Bool.not_eq_true', Bool.not_eq_false', Bool.and_eq_true, Bool.or_eq_true, Bool.not_not, Bool.and_eq_false_iff, Bool.or_eq_false_iff, Int.not_lt, Int.not_le] at hc12
    have hie : ks.take i = ks := List.take_of_length_le (by omega)
    refine WE.exit ?_
    refine WE.seq_reg ?_
    refine WL.mv rfl rfl ?_
    refine WL.as rfl rfl ?_
    refine WL.nil ?_
    refine WE.ret ?_
    refine ⟨[_], _, .nil _, ⟨rfl, trivial⟩, ?_⟩
    rw [hie] at H
    exact ⟨H.toOut0, H.l 0 rfl⟩

theorem r12Same_c {X : Nat → Prop} {w : World} {a b : Value} {cs ds : List Ch} (hX : ∀ b, X b → b < w.heap.size) (hf0 : Rob X (SlX a cs) w) (hf1 : Rob X (CVals cs) w) (hf2 : Rob X (SlX b ds) w) (hf3 : Rob X (CVals ds) w) (hxa : XL cs) (hxb : XL ds) (hlen : cs.length ≤ 1000000) (hva : CShort cs) (hkx : cs.map kx = ds.map kx) :
    Ret Tryz.prog 21 [a, b].toArray w fun v w' => v = .bool true ∧ Out Nil w w' := by
  refine Ret.of_body (N := 55) Tryz.func21 rfl rfl (by simp) ?_
  have H := St.begin hX
  replace H := H.add (rob0 hf3)
  replace H := H.add (rob0 hf2)
  replace H := H.add (rob0 hf1)
  replace H := H.add (rob0 hf0)
  have hlen2 : ds.length = cs.length := by have h_ := congrArg List.length hkx; rw [List.length_map, List.length_map] at h_; exact h_.symm
  refine WE.seq_reg ?_
  refine WL.as rfl rfl ?_
  refine WL.nil ?_
  refine WE.seq ?_
  refine WE.seq_reg ?_
  refine WL.mv rfl rfl ?_
  refine WL.pv (PV.lenS (by exact (H.p 0 rfl : (SlX a cs) _)) TryzT.sl29 rfl) rfl ?_
  refine WL.mv rfl rfl ?_
  refine WL.pv (PV.lenS (by exact (H.p 2 rfl : (SlX b ds) _)) TryzT.sl29 rfl) rfl ?_
  refine WL.pv (PV.neq rfl rfl rfl) rfl ?_
  refine WL.nil ?_
  refine WE.cond_f' rfl (by simp [hlen2]) ?_
  refine WE.skip ?_
  refine WE.seq ?_
  refine WE.seq_reg ?_
  refine WL.as rfl rfl ?_
  refine WL.nil ?_
  refine WE.block ?_
  refine WE.loop (α := Nat) [4, 5, 11, 12, 13, 14, 15, 16, 17, 18, 19, 20, 21, 22, 23, 24, 25, 26, 27, 28, 29, 30, 31, 32, 33, 34, 35, 36, 37, 38, 39, 40, 41, 42, 43, 44, 45, 46, 47, 48, 49, 50, 51, 52, 53, 54] (fun i => [(5, .int .i64 i)]) (fun i wl => i ≤ cs.length ∧ St X w wl [] [] [SlX a cs, CVals cs, SlX b ds, CVals ds]) (fun i => cs.length - i) 0 ⟨rfl, trivial⟩ ⟨Nat.zero_le _, H⟩ ?_
  intro i γ0 w1 hI
  try dsimp only at hI
  obtain ⟨hi, H⟩ := hI
  refine WE.seq ?_
  refine WE.seq_reg ?_
  refine WL.mv rfl rfl ?_
  refine WL.mv rfl rfl ?_
  refine WL.pv (PV.lenS (by exact (H.p 0 rfl : (SlX a cs) _)) TryzT.sl29 rfl) rfl ?_
  refine WL.pv (PV.lss rfl rfl rfl) rfl ?_
  refine WL.nil ?_
  refine WE.cond rfl (fun hc14 => ?_) (fun hc14 => ?_)
  · skip
    try simp only [decide_eq_true_eq, decide_eq_false_iff_not, ne_eq, Decidable.not_not, Bool.not_eq_true', Bool.not_eq_false', Bool.and_eq_true, Bool.or_eq_true, Bool.not_not, Bool.and_eq_false_iff, Bool.or_eq_false_iff, Int.not_lt, Int.not_le] at hc14
    have hlt : i < cs.length := by omega
    have hlt2 : i < ds.length := by omega
    have hii := kx_at hkx i hlt hlt2
    have hvi := hva _ (List.getElem_mem hlt)
    have hkk1 := hxa _ (List.getElem_mem hlt)
    have hkk2 := hxb _ (List.getElem_mem hlt2)
    refine WE.skip ?_
    refine WE.seq ?_
    refine WE.block ?_
    refine WE.seq_draw (.take 0 (.take 1 (.take 2 (.take 3 (.take 4 (.take 5 (.take 6 (.take 7 (.take 8 (.take 9 (.take 10 (.take 11 (.take 12 (.take 13 (.take 14 (.take 15 (.take 16 (.take 17 (.take 18 (.take 19 (.take 20 (.take 21 (.take 22 (.take 23 (.take 24 (.take 25 (.take 26 (.take 27 (.take 28 (.take 29 (.take 30 (.take 31 (.take 32 (.take 33 (.take 34 (.pick1 35 (.take 36 (.take 37 .done)))))))))))))))))))))))))))))))))))))) TryzT.mixed (by kernel_rfl) ?_
    replace H := H.out (Out.drew _)
    refine WP.mv rfl rfl rfl ?_
    refine WP.mv rfl rfl rfl ?_
    refine WP.take_pure rfl rfl (PV.idxS rfl (by exact (H.p 0 rfl : (SlX a cs) _)) TryzT.sl29 TryzT.sz36 rfl rfl (by omega) (by omega)) ?_
    refine WP.take_pure rfl rfl (PV.fieldAddrA rfl TryzT.fd36_0 rfl) ?_
    refine WP.readA rfl rfl rfl TryzT.ag31 rfl ((rd_key (SlX.rd (by exact (H.p 0 rfl : (SlX a cs) _)) hxa i hlt))) (by (rw [TryzT.sz31]; refine congrArg some ?_; (simp only [kc_length, kw_length, List.length_replicate, List.length_append, List.length_cons, List.length_nil]; omega))) ?_
    refine WP.mv rfl rfl rfl ?_
    refine WP.mv rfl rfl rfl ?_
    refine WP.take_pure rfl rfl (PV.idxS rfl (by exact (H.p 2 rfl : (SlX b ds) _)) TryzT.sl29 TryzT.sz36 rfl rfl (by omega) (by omega)) ?_
    refine WP.take_pure rfl rfl (PV.fieldAddrA rfl TryzT.fd36_0 rfl) ?_
    refine WP.readA rfl rfl rfl TryzT.ag31 rfl ((rd_key (SlX.rd (by exact (H.p 2 rfl : (SlX b ds) _)) hxb i hlt2))) (by (rw [TryzT.sz31]; refine congrArg some ?_; (simp only [kc_length, kw_length, List.length_replicate, List.length_append, List.length_cons, List.length_nil]; omega))) ?_
    refine WP.take_pure rfl rfl (PV.neqB rfl TryzT.ar31 TryzT.in5 TryzT.sz5 (by kernel_rfl) rfl rfl (by assumption) (by assumption)) ?_
    refine WP.mv rfl rfl rfl ?_
    refine WP.known (t := 28) (c := false) rfl (by (simp [hii.1]; done)) ?_
    refine WP.mv rfl rfl rfl ?_
    refine WP.mv rfl rfl rfl ?_
    refine WP.take_pure rfl rfl (PV.idxS rfl (by exact (H.p 0 rfl : (SlX a cs) _)) TryzT.sl29 TryzT.sz36 rfl rfl (by omega) (by omega)) ?_
    refine WP.take_pure rfl rfl (PV.fieldAddrA rfl TryzT.fd36_2 rfl) ?_
    refine WP.take_read rfl rfl (RV.loadOne rfl TryzT.ag4 rfl) ((rd_del (SlX.rd (by exact (H.p 0 rfl : (SlX a cs) _)) hxa i hlt) (hxa _ (List.getElem_mem hlt)))) ?_
    refine WP.mv rfl rfl rfl ?_
    refine WP.mv rfl rfl rfl ?_
    refine WP.take_pure rfl rfl (PV.idxS rfl (by exact (H.p 2 rfl : (SlX b ds) _)) TryzT.sl29 TryzT.sz36 rfl rfl (by omega) (by omega)) ?_
    refine WP.take_pure rfl rfl (PV.fieldAddrA rfl TryzT.fd36_2 rfl) ?_
    refine WP.take_read rfl rfl (RV.loadOne rfl TryzT.ag4 rfl) ((rd_del (SlX.rd (by exact (H.p 2 rfl : (SlX b ds) _)) hxb i hlt2) (hxb _ (List.getElem_mem hlt2)))) ?_
    refine WP.take_pure rfl rfl (PV.neqb rfl TryzT.bo4 rfl rfl) ?_
    refine WP.take_pure rfl rfl (PV.pick_f rfl rfl rfl) ?_
    refine WP.mv rfl rfl rfl ?_
    refine WP.known (t := 41) (c := false) rfl (by (simp [hii.2.2]; done)) ?_
    refine WP.mv rfl rfl rfl ?_
    refine WP.mv rfl rfl rfl ?_
    refine WP.take_pure rfl rfl (PV.idxS rfl (by exact (H.p 0 rfl : (SlX a cs) _)) TryzT.sl29 TryzT.sz36 rfl rfl (by omega) (by omega)) ?_
    refine WP.take_pure rfl rfl (PV.fieldAddrA rfl TryzT.fd36_1 rfl) ?_
    refine WP.take_read rfl rfl (RV.loadOne rfl TryzT.ag32 rfl) ((rd_val (SlX.rd (by exact (H.p 0 rfl : (SlX a cs) _)) hxa i hlt) (hxa _ (List.getElem_mem hlt)))) ?_
    refine WP.mv rfl rfl rfl ?_
    refine WP.mv rfl rfl rfl ?_
    refine WP.take_pure rfl rfl (PV.idxS rfl (by exact (H.p 2 rfl : (SlX b ds) _)) TryzT.sl29 TryzT.sz36 rfl rfl (by omega) (by omega)) ?_
    refine WP.take_pure rfl rfl (PV.fieldAddrA rfl TryzT.fd36_1 rfl) ?_
    refine WP.take_read rfl rfl (RV.loadOne rfl TryzT.ag32 rfl) ((rd_val (SlX.rd (by exact (H.p 2 rfl : (SlX b ds) _)) hxb i hlt2) (hxb _ (List.getElem_mem hlt2)))) ?_
    refine WP.pick1 rfl ?_
    refine WL.call TryzT.fb36 rfl (Same_c (la := cs[i].v) (lb := ds[i].v) H.yylt ((H.rob 1 rfl).imp fun _ h => h _ (List.getElem_mem hlt)) ((H.rob 3 rfl).imp fun _ h => h _ (List.getElem_mem hlt2)) (by omega)) ?_
    rintro _ w2 ⟨rfl, hO⟩
    replace H := H.out hO
    refine WL.nil ⟨(List.forall_mem_cons.2 ⟨(by exact (fun h => absurd (show waits _ 35 34 = false from h) (by decide +kernel))), (List.forall_mem_cons.2 ⟨(by exact (fun h => absurd (show waits _ 35 29 = false from h) (by decide +kernel))), (List.forall_mem_cons.2 ⟨(by exact (fun h => absurd (show waits _ 35 21 = false from h) (by decide +kernel))), (List.forall_mem_cons.2 ⟨(by exact (fun h => absurd (show waits _ 35 16 = false from h) (by decide +kernel))), (List.forall_mem_cons.2 ⟨(by exact (fun h => absurd (show waits _ 35 9 = false from h) (by decide +kernel))), (List.forall_mem_cons.2 ⟨(by exact (fun h => absurd (show waits _ 35 4 = false from h) (by decide +kernel))), (fun _ h => by cases h)⟩)⟩)⟩)⟩)⟩)⟩), ?_⟩
    refine WP.take_pure rfl rfl (PV.not rfl rfl) ?_
    refine WP.take_pure rfl rfl (PV.pick_f rfl rfl rfl) ?_
    refine WP.done ?_
    refine WE.cond_f' rfl (by simp [hii.2.1]) ?_
    refine WE.skip ?_
    refine WE.reg ?_
    refine WL.mv rfl rfl ?_
    refine WL.pv (PV.eq (v' := .int .i64 ((i + 1 : Nat) : Int)) (PV.add64 rfl rfl rfl (by omega) (by omega)) (by rfl)) rfl ?_
    refine WL.as rfl rfl ?_
    refine WL.nil ?_
    exact ⟨i + 1, (by repeat (first | with_reducible exact Off.refl _ _ | refine Off.upd rfl ?_ | refine Off.setAll rfl ?_ | refine Off.forget' rfl ?_)), ⟨rfl, trivial⟩, rfl, ⟨by omega, H⟩, (by omega)⟩
  · skip
    try simp only [decide_eq_true_eq, decide_eq_false_iff_not, ne_eq, Decidable.not_not, Bool.not_eq_true', Bool.not_eq_false', Bool.and_eq_true, Bool.or_eq_true, Bool.not_not, Bool.and_eq_false_iff, Bool.or_eq_false_iff, Int.not_lt, Int.not_le] at hc14
    refine WE.exit ?_
    refine WE.seq_reg ?_
    refine WL.as rfl rfl ?_
    refine WL.nil ?_
    refine WE.ret ?_
    refine ⟨[_], _, .nil _, ⟨rfl, trivial⟩, ?_⟩
    refine ⟨?_, H.toOut0⟩
    rfl

theorem CVals_rdX {a b : List En} {ks : List (List UInt8)} {w : World} (h : Vals b w) : CVals (rdX a b ks) w := fun c hc => by
  obtain ⟨k, _, hc⟩ := List.mem_flatMap.1 hc
  unfold rdC at hc
  split at hc
  · split at hc
    · cases hc
    · rw [List.mem_singleton.1 hc]; exact gV_SlB h k
  · rw [List.mem_singleton.1 hc]; exact SlB.nil w
theorem rdC_del {a b : List En} {k : List UInt8} (h : hasM b k = false) : rdC a b k = [delK k] := by
  unfold rdC; rw [if_neg (by rw [h]; decide)]
theorem rdC_put {a b : List En} {k : List UInt8} (h : hasM b k = true) (h2 : ¬ (hasM a k = true ∧ gV a k = gV b k)) : rdC a b k = [⟨k, gS b k, gV b k, false⟩] := by
  unfold rdC; rw [if_pos h, if_neg h2]
theorem rdC_nil {a b : List En} {k : List UInt8} (h : hasM b k = true) (h2 : hasM a k = true) (h3 : gV a k = gV b k) : rdC a b k = [] := by
  unfold rdC; rw [if_pos h, if_pos ⟨h2, h3⟩]
theorem rdX_xl {a b : List En} {ks : List (List UInt8)} (h : K32 ks) : XL (rdX a b ks) := fun c hc => by
  obtain ⟨k, hk, hc⟩ := List.mem_flatMap.1 hc
  rw [rdC_key hc]; exact h k hk
theorem gS_one {m : List En} (h : OneS m) (k : List UInt8) : (gS m k).oneCell' = true := by
  unfold gS
  cases hg : getM m k with
  | none => rfl
  | some e => exact h e (getM_in hg).1

theorem r12Diff_c {X : Nat → Prop} {w : World} {s1 s2 : Value} {a b : List En} (hX : ∀ b, X b → b < w.heap.size) (hf0 : Rob X (SlE s1 a) w) (hf1 : Rob X (SlE s2 b) w) (hf2 : Rob X (Vals a) w) (hf3 : Rob X (Vals b) w) (hsa : Srt a) (hsb : Srt b) (hka : KL a) (hkb : KL b) (hva : ShortV a) (hsz : a.length + b.length ≤ 900000) :
    Ret Tryz.prog 23 [s1, s2].toArray w fun v w' => ∃ ds : List Ch, Out Nil w w' ∧ Rob X (SlX v ds) w' ∧ Rob X (CVals ds) w' ∧ XL ds ∧ ds.map kx = (diffX a b).map kx := by
  refine Ret.of_body (N := 96) Tryz.func23 rfl rfl (by simp) ?_
  have H := St.begin hX
  replace H := H.add (rob0 hf3)
  replace H := H.add (rob0 hf2)
  replace H := H.add (rob0 hf1)
  replace H := H.add (rob0 hf0)
  have honb := OneS.of (hf3.here)
  refine WE.seq_reg ?_
  refine WL.as rfl rfl ?_
  refine WL.nil ?_
  refine WE.seq_reg ?_
  refine WL.as rfl rfl ?_
  refine WL.nil ?_
  refine WE.seq ?_
  refine WE.seq_reg ?_
  refine WL.as rfl rfl ?_
  refine WL.nil ?_
  refine WE.block ?_
  replace H := H.nilOsl 31 32
  refine WE.loop (α := Nat × Value) [5, 6, 14, 15, 16, 17, 18, 19, 20, 21, 22, 23, 24, 25, 26, 27] (fun p => [(6, .int .i64 (p.1 : Int)), (5, p.2)]) (fun p wl => p.1 ≤ a.length ∧ St X w wl [] [Ent.osl w.heap.size p.2 31 32 (((a.take p.1).map En.k)).length ((((a.take p.1).map En.k)).flatMap kc)] [SlE s1 a, SlE s2 b, Vals a, Vals b]) (fun p => a.length - p.1) (0, .slice none 0 0) ⟨rfl, rfl, trivial⟩ ⟨Nat.zero_le _, H⟩ ?_
  intro ⟨i, v_⟩ γ0 w1 hI
  try dsimp only at hI
  obtain ⟨hi, H⟩ := hI
  try dsimp only at hi
  refine WE.seq ?_
  refine WE.seq_reg ?_
  refine WL.mv rfl rfl ?_
  refine WL.mv rfl rfl ?_
  refine WL.pv (PV.lenS (by exact (H.p 0 rfl : (SlE s1 a) _)) TryzT.sl22 rfl) rfl ?_
  refine WL.pv (PV.lss rfl rfl rfl) rfl ?_
  refine WL.nil ?_
  refine WE.cond rfl (fun hc17 => ?_) (fun hc17 => ?_)
  · skip
    try simp only [decide_eq_true_eq, decide_eq_false_iff_not, ne_eq, Decidable.not_not, Bool.not_eq_true', Bool.not_eq_false', Bool.and_eq_true, Bool.or_eq_true, Bool.not_not, Bool.and_eq_false_iff, Bool.or_eq_false_iff, Int.not_lt, Int.not_le] at hc17
    have hlt : i < a.length := by omega
    have hki := hka _ (List.getElem_mem hlt)
    have hS : ((a.take (i + 1)).map En.k) = ((a.take i).map En.k) ++ [a[i].k] := by rw [List.take_succ_eq_append_getElem hlt, List.map_append]; rfl
    have htl : ((a.take i).map En.k).length = i := by rw [List.length_map, List.length_take]; omega
    refine WE.skip ?_
    refine WE.seq ?_
    refine WE.block ?_
    refine WE.reg ?_
    refine WL.mv rfl rfl ?_
    refine WL.mv rfl rfl ?_
    refine WL.mv rfl rfl ?_
    refine WL.pv (PV.idxS rfl (by exact (H.p 0 rfl : (SlE s1 a) _)) TryzT.sl22 TryzT.sz34 rfl rfl (by omega) (by omega)) rfl ?_
    refine WL.pv (PV.fieldAddrA rfl TryzT.fd34_0 rfl) rfl ?_
    refine WL.loadR rfl TryzT.ag31 rfl rfl ((SlE.rdk (by exact (H.p 0 rfl : (SlE s1 a) _)) hka i hlt)) (by (rw [TryzT.sz31]; refine congrArg some ?_; (simp only [kc_length, kw_length, List.length_replicate, List.length_append, List.length_cons, List.length_nil]; omega))) ?_
    refine WL.buildSliceF (l0 := (kc (List.replicate 32 0))) H rfl TryzT.st70 (by decide) (by rfl) (Fl.cons rfl (by rfl) (by (simp only [kc_length, kw_length, List.length_replicate, List.length_append, List.length_cons, List.length_nil]; omega)) (Laid.all (by (simp only [kc_length, kw_length, List.length_replicate, List.length_append, List.length_cons, List.length_nil]; omega))) Fl.nil) rfl ?_
    intro b26 w2 H
    refine WL.append (m := 1) H 1 TryzT.st70 (by decide) rfl rfl rfl (SlC.of_blk (n := 1) (H.l 0 rfl) (by rw [kc_length]; exact hki)) (kc_one _) (by omega) (by decide) rfl ?_
    intro v27 w3 H
    have hSl : ((a.take (i + 1)).map En.k).length = ((a.take i).map En.k).length + 1 := by rw [hS, List.length_append (bs := [_])]; rfl
    have hSf : ((a.take (i + 1)).map En.k).flatMap kc = ((a.take i).map En.k).flatMap kc ++ kc a[i].k := by rw [hS, List.flatMap_append (ys := [_]), List.flatMap_singleton]
    replace H := H.forget 0
    replace H := H.conv (L' := [Ent.osl w.heap.size v27 31 32 (((a.take (i + 1)).map En.k)).length ((((a.take (i + 1)).map En.k)).flatMap kc)]) (by rw [hSl, hSf]; rfl)
    refine WL.as rfl rfl ?_
    refine WL.nil ?_
    refine WE.reg ?_
    refine WL.mv rfl rfl ?_
    refine WL.pv (PV.eq (v' := .int .i64 ((i + 1 : Nat) : Int)) (PV.add64 rfl rfl rfl (by omega) (by omega)) (by rfl)) rfl ?_
    refine WL.as rfl rfl ?_
    refine WL.nil ?_
    exact ⟨(i + 1, v27), (by repeat (first | with_reducible exact Off.refl _ _ | refine Off.upd rfl ?_ | refine Off.setAll rfl ?_ | refine Off.forget' rfl ?_)), ⟨rfl, rfl, trivial⟩, rfl, ⟨by dsimp only; omega, H⟩, (by dsimp only; omega)⟩
  · skip
    try simp only [decide_eq_true_eq, decide_eq_false_iff_not, ne_eq, Decidable.not_not, Bool.not_eq_true', Bool.not_eq_false', Bool.and_eq_true, Bool.or_eq_true, Bool.not_not, Bool.and_eq_false_iff, Bool.or_eq_false_iff, Int.not_lt, Int.not_le] at hc17
    have hie : a.take i = a := List.take_of_length_le (by omega)
    rw [hie] at H
    refine WE.exit ?_
    refine WE.seq ?_
    refine WE.seq_reg ?_
    refine WL.as rfl rfl ?_
    refine WL.nil ?_
    refine WE.block ?_
    refine WE.loop (α := Nat × Value) [5, 7, 28, 29, 30, 31, 32, 33, 34, 35, 36, 37, 38, 39, 40, 41] (fun p => [(7, .int .i64 (p.1 : Int)), (5, p.2)]) (fun p wl => p.1 ≤ b.length ∧ St X w wl [] [Ent.osl w.heap.size p.2 31 32 ((a.map En.k ++ (b.take p.1).map En.k)).length (((a.map En.k ++ (b.take p.1).map En.k)).flatMap kc)] [SlE s1 a, SlE s2 b, Vals a, Vals b]) (fun p => b.length - p.1) (0, v_) ⟨rfl, rfl, trivial⟩ ⟨Nat.zero_le _, H.conv (by simp)⟩ ?_
    intro ⟨i, kv_⟩ γ1 w4 hI
    try dsimp only at hI
    obtain ⟨hi, H⟩ := hI
    try dsimp only at hi
    refine WE.seq ?_
    refine WE.seq_reg ?_
    refine WL.mv rfl rfl ?_
    refine WL.mv rfl rfl ?_
    refine WL.pv (PV.lenS (by exact (H.p 1 rfl : (SlE s2 b) _)) TryzT.sl22 rfl) rfl ?_
    refine WL.pv (PV.lss rfl rfl rfl) rfl ?_
    refine WL.nil ?_
    refine WE.cond rfl (fun hc31 => ?_) (fun hc31 => ?_)
    · skip
      try simp only [decide_eq_true_eq, decide_eq_false_iff_not, ne_eq, Decidable.not_not, Bool.not_eq_true', Bool.not_eq_false', Bool.and_eq_true, Bool.or_eq_true, Bool.not_not, Bool.and_eq_false_iff, Bool.or_eq_false_iff, Int.not_lt, Int.not_le] at hc31
      have hlt : i < b.length := by omega
      have hki := hkb _ (List.getElem_mem hlt)
      have hS : (a.map En.k ++ (b.take (i + 1)).map En.k) = (a.map En.k ++ (b.take i).map En.k) ++ [b[i].k] := by rw [List.take_succ_eq_append_getElem hlt, List.map_append, List.append_assoc]; rfl
      have htl : (a.map En.k ++ (b.take i).map En.k).length = a.length + i := by rw [List.length_append, List.length_map, List.length_map, List.length_take]; omega
      refine WE.skip ?_
      refine WE.seq ?_
      refine WE.block ?_
      refine WE.reg ?_
      refine WL.mv rfl rfl ?_
      refine WL.mv rfl rfl ?_
      refine WL.mv rfl rfl ?_
      refine WL.pv (PV.idxS rfl (by exact (H.p 1 rfl : (SlE s2 b) _)) TryzT.sl22 TryzT.sz34 rfl rfl (by omega) (by omega)) rfl ?_
      refine WL.pv (PV.fieldAddrA rfl TryzT.fd34_0 rfl) rfl ?_
      refine WL.loadR rfl TryzT.ag31 rfl rfl ((SlE.rdk (by exact (H.p 1 rfl : (SlE s2 b) _)) hkb i hlt)) (by (rw [TryzT.sz31]; refine congrArg some ?_; (simp only [kc_length, kw_length, List.length_replicate, List.length_append, List.length_cons, List.length_nil]; omega))) ?_
      refine WL.buildSliceF (l0 := (kc (List.replicate 32 0))) H rfl TryzT.st70 (by decide) (by rfl) (Fl.cons rfl (by rfl) (by (simp only [kc_length, kw_length, List.length_replicate, List.length_append, List.length_cons, List.length_nil]; omega)) (Laid.all (by (simp only [kc_length, kw_length, List.length_replicate, List.length_append, List.length_cons, List.length_nil]; omega))) Fl.nil) rfl ?_
      intro b40 w5 H
      refine WL.append (m := 1) H 1 TryzT.st70 (by decide) rfl rfl rfl (SlC.of_blk (n := 1) (H.l 0 rfl) (by rw [kc_length]; exact hki)) (kc_one _) (by omega) (by decide) rfl ?_
      intro v41 w6 H
      have hSl : (a.map En.k ++ (b.take (i + 1)).map En.k).length = (a.map En.k ++ (b.take i).map En.k).length + 1 := by rw [hS, List.length_append (bs := [_])]; rfl
      have hSf : (a.map En.k ++ (b.take (i + 1)).map En.k).flatMap kc = (a.map En.k ++ (b.take i).map En.k).flatMap kc ++ kc b[i].k := by rw [hS, List.flatMap_append (ys := [_]), List.flatMap_singleton]
      replace H := H.forget 0
      replace H := H.conv (L' := [Ent.osl w.heap.size v41 31 32 ((a.map En.k ++ (b.take (i + 1)).map En.k)).length (((a.map En.k ++ (b.take (i + 1)).map En.k)).flatMap kc)]) (by rw [hSl, hSf]; rfl)
      refine WL.as rfl rfl ?_
      refine WL.nil ?_
      refine WE.reg ?_
      refine WL.mv rfl rfl ?_
      refine WL.pv (PV.eq (v' := .int .i64 ((i + 1 : Nat) : Int)) (PV.add64 rfl rfl rfl (by omega) (by omega)) (by rfl)) rfl ?_
      refine WL.as rfl rfl ?_
      refine WL.nil ?_
      exact ⟨(i + 1, v41), (by repeat (first | with_reducible exact Off.refl _ _ | refine Off.upd rfl ?_ | refine Off.setAll rfl ?_ | refine Off.forget' rfl ?_)), ⟨rfl, rfl, trivial⟩, rfl, ⟨by dsimp only; omega, H⟩, (by dsimp only; omega)⟩
    · skip
      try simp only [decide_eq_true_eq, decide_eq_false_iff_not, ne_eq, Decidable.not_not, Bool.not_eq_true', Bool.not_eq_false', Bool.and_eq_true, Bool.or_eq_true, Bool.not_not, Bool.and_eq_false_iff, Bool.or_eq_false_iff, Int.not_lt, Int.not_le] at hc31
      have hie : b.take i = b := List.take_of_length_le (by omega)
      rw [hie] at H
      refine WE.exit ?_
      refine WE.seq_reg ?_
      refine WL.as rfl rfl ?_
      refine WL.nil ?_
      refine WE.seq_reg ?_
      refine WL.mv rfl rfl ?_
      have hKA : K32 (a.map En.k ++ b.map En.k) := fun k hk => by rcases List.mem_append.1 hk with h_ | h_; (obtain ⟨e, he, rfl⟩ := List.mem_map.1 h_; exact hka e he); (obtain ⟨e, he, rfl⟩ := List.mem_map.1 h_; exact hkb e he)
      have hKl : (a.map En.k ++ b.map En.k).length = a.length + b.length := by rw [List.length_append, List.length_map, List.length_map]
      replace H := H.freeze (i := 0) rfl
      replace H := H.add (show Rob _ (SlK kv_ (a.map En.k ++ b.map En.k)) _ from (H.rob 0 rfl).imp fun _ h => SlC.of_own h)
      refine WL.call TryzT.fb46 rfl (refSort_c (ks := (a.map En.k ++ b.map En.k)) H.yylt (by exact (H.rob 0 rfl : Rob _ (SlK kv_ (a.map En.k ++ b.map En.k)) _)) hKA (by omega)) ?_
      rintro v43 w7 ⟨hO, hOwn⟩
      have hsf := sortR_full (a.map En.k ++ b.map En.k) hKA
      have hsl := sortR_len (a.map En.k ++ b.map En.k) (a.map En.k ++ b.map En.k).length (Nat.le_refl _)
      rw [List.take_length] at hsl
      have hR_ : Rob _ (SlK v43 (sortR (a.map En.k ++ b.map En.k))) _ := (rob_own H.yylt hOwn).imp fun _ h => SlC.of_own h
      replace H := (H.out hO).add hR_
      obtain ⟨ks, hks⟩ : ∃ ks, ks = sortR (a.map En.k ++ b.map En.k) := ⟨_, rfl⟩
      rw [← hks] at H hsf hsl
      have hkk := hsf.2.1
      replace H := (show St X _ _ [] [] [SlK v43 ks, SlE s1 a, SlE s2 b, Vals a, Vals b] from by exact H.sel [0, 3, 4, 5, 6])
      refine WL.as rfl rfl ?_
      refine WL.nil ?_
      refine WE.seq ?_
      refine WE.seq_reg ?_
      refine WL.as rfl rfl ?_
      refine WL.nil ?_
      refine WE.block ?_
      replace H := H.nilOsl 36 34
      refine WE.loop (α := Nat × Value) [8, 9, 10, 11, 12, 13, 44, 45, 46, 47, 48, 49, 50, 51, 52, 53, 54, 55, 56, 57, 58, 59, 60, 61, 62, 63, 64, 65, 66, 67, 68, 69, 70, 71, 72, 73, 74, 75, 76, 77, 78, 79, 80, 81, 82, 83, 84, 85, 86, 87, 88, 89, 90, 91, 92, 93, 94] (fun p => [(9, .int .i64 (p.1 : Int)), (8, p.2)]) (fun p wl => p.1 ≤ ks.length ∧ St X w wl [] [Ent.osl w.heap.size p.2 36 34 ((rdX a b (ks.take p.1)).length) ((rdX a b (ks.take p.1)).flatMap chC)] [SlK v43 ks, SlE s1 a, SlE s2 b, Vals a, Vals b]) (fun p => ks.length - p.1) (0, .slice none 0 0) ⟨rfl, rfl, trivial⟩ ⟨Nat.zero_le _, H⟩ ?_
      intro ⟨i, v_⟩ γ2 w8 hI
      try dsimp only at hI
      obtain ⟨hi, H⟩ := hI
      try dsimp only at hi
      refine WE.seq ?_
      refine WE.seq_reg ?_
      refine WL.mv rfl rfl ?_
      refine WL.mv rfl rfl ?_
      refine WL.pv (PV.lenS (by exact (H.p 0 rfl : (SlK v43 ks) _)) TryzT.sl70 rfl) rfl ?_
      refine WL.pv (PV.lss rfl rfl rfl) rfl ?_
      refine WL.nil ?_
      refine WE.cond rfl (fun hc47 => ?_) (fun hc47 => ?_)
      · skip
        try simp only [decide_eq_true_eq, decide_eq_false_iff_not, ne_eq, Decidable.not_not, Bool.not_eq_true', Bool.not_eq_false', Bool.and_eq_true, Bool.or_eq_true, Bool.not_not, Bool.and_eq_false_iff, Bool.or_eq_false_iff, Int.not_lt, Int.not_le] at hc47
        have hlt : i < ks.length := by omega
        have hki := hkk _ (List.getElem_mem hlt)
        have hsn := rdX_snoc (a := a) (b := b) hlt
        have hol := rdX_len a b (ks.take i)
        have htl : (ks.take i).length ≤ ks.length := by rw [List.length_take]; omega
        refine WE.skip ?_
        refine WE.cut (α := Value) [8, 10, 11, 12, 13, 50, 51, 52, 53, 54, 55, 56, 57, 58, 59, 60, 61, 62, 63, 64, 65, 66, 67, 68, 69, 70, 71, 72, 73, 74, 75, 76, 77, 78, 79, 80, 81, 82, 83, 84, 85, 86, 87, 88, 89, 90, 91, 92, 93, 94] (fun g1_ => [(8, g1_)]) (fun g1_ wl => St X w wl [] [Ent.osl w.heap.size g1_ 36 34 ((rdX a b (ks.take (i + 1))).length) ((rdX a b (ks.take (i + 1))).flatMap chC)] [SlK v43 ks, SlE s1 a, SlE s2 b, Vals a, Vals b]) ?_ ?_
        · skip
          refine WE.block ?_
          refine WE.seq_reg ?_
          refine WL.mv rfl rfl ?_
          refine WL.mv rfl rfl ?_
          refine WL.mv rfl rfl ?_
          refine WL.pv (PV.idxS rfl (by exact (H.p 0 rfl : (SlK v43 ks) _)) TryzT.sl70 TryzT.sz31 rfl rfl (by omega) (by omega)) rfl ?_
          refine WL.loadR rfl TryzT.ag31 rfl rfl ((SlK.rd (by exact (H.p 0 rfl : (SlK v43 ks) _)) hkk i hlt)) (by (rw [TryzT.sz31]; refine congrArg some ?_; (simp only [kc_length, kw_length, List.length_replicate, List.length_append, List.length_cons, List.length_nil]; omega))) ?_
          refine WL.call TryzT.fb47 rfl (refGetX_c (m := a) (k := ks[i]) H.yylt (by exact (H.rob 1 rfl : Rob _ (SlE s1 a) _)) hka (by omega) hki) ?_
          rintro _ w9 ⟨rfl, hO⟩
          replace H := H.out hO
          refine WL.mv rfl rfl ?_
          refine WL.pv (PV.extract rfl rfl rfl) rfl ?_
          refine WL.pv (PV.extract rfl rfl rfl) rfl ?_
          refine WL.as rfl rfl ?_
          refine WL.as rfl rfl ?_
          refine WL.nil ?_
          refine WE.seq_reg ?_
          refine WL.mv rfl rfl ?_
          refine WL.mv rfl rfl ?_
          refine WL.mv rfl rfl ?_
          refine WL.pv (PV.idxS rfl (by exact (H.p 0 rfl : (SlK v43 ks) _)) TryzT.sl70 TryzT.sz31 rfl rfl (by omega) (by omega)) rfl ?_
          refine WL.loadR rfl TryzT.ag31 rfl rfl ((SlK.rd (by exact (H.p 0 rfl : (SlK v43 ks) _)) hkk i hlt)) (by (rw [TryzT.sz31]; refine congrArg some ?_; (simp only [kc_length, kw_length, List.length_replicate, List.length_append, List.length_cons, List.length_nil]; omega))) ?_
          refine WL.call TryzT.fb47 rfl (refGetX_c (m := b) (k := ks[i]) H.yylt (by exact (H.rob 2 rfl : Rob _ (SlE s2 b) _)) hkb (by omega) hki) ?_
          rintro _ w10 ⟨rfl, hO⟩
          replace H := H.out hO
          refine WL.mv rfl rfl ?_
          refine WL.pv (PV.extract rfl rfl rfl) rfl ?_
          refine WL.pv (PV.extract rfl rfl rfl) rfl ?_
          refine WL.as rfl rfl ?_
          refine WL.as rfl rfl ?_
          refine WL.nil ?_
          refine WE.seq_reg ?_
          refine WL.mv rfl rfl ?_
          refine WL.pv (PV.not rfl rfl) rfl ?_
          refine WL.nil ?_
          refine WE.cond rfl (fun hc69 => ?_) (fun hc69 => ?_)
          · skip
            try simp only [decide_eq_true_eq, decide_eq_false_iff_not, ne_eq, Decidable.not_not, Bool.not_eq_true', Bool.not_eq_false', Bool.and_eq_true, Bool.or_eq_true, Bool.not_not, Bool.and_eq_false_iff, Bool.or_eq_false_iff, Int.not_lt, Int.not_le] at hc69
            have hb0 : hasM b ks[i] = false := (by exact hc69)
            have hS : rdX a b (ks.take (i + 1)) = rdX a b (ks.take i) ++ [delK ks[i]] := by rw [hsn, rdC_del hb0]
            refine WE.reg ?_
            refine WL.mv rfl rfl ?_
            refine WL.mv rfl rfl ?_
            refine WL.mv rfl rfl ?_
            refine WL.pv (PV.idxS rfl (by exact (H.p 0 rfl : (SlK v43 ks) _)) TryzT.sl70 TryzT.sz31 rfl rfl (by omega) (by omega)) rfl ?_
            refine WL.loadR rfl TryzT.ag31 rfl rfl ((SlK.rd (by exact (H.p 0 rfl : (SlK v43 ks) _)) hkk i hlt)) (by (rw [TryzT.sz31]; refine congrArg some ?_; (simp only [kc_length, kw_length, List.length_replicate, List.length_append, List.length_cons, List.length_nil]; omega))) ?_
            refine WL.pv (PV.buildS rfl TryzT.pl36 TryzT.ze36 (Fl.cons rfl (by rfl) (by (simp only [kc_length, kw_length, List.length_replicate, List.length_append, List.length_cons, List.length_nil]; omega)) (Laid.left (Laid.all (by (simp only [kc_length, kw_length, List.length_replicate, List.length_append, List.length_cons, List.length_nil]; omega)))) (Fl.cons rfl (by rfl) (by (simp only [kc_length, kw_length, List.length_replicate, List.length_append, List.length_cons, List.length_nil]; done)) (Laid.right (Laid.right (Laid.all (by (simp only [kc_length, kw_length, List.length_replicate, List.length_append, List.length_cons, List.length_nil]; done))) (by with_reducible rfl)) (by (simp only [kc_length, kw_length, List.length_replicate, List.length_append, List.length_cons, List.length_nil]; omega))) Fl.nil))) rfl ?_
            refine WL.buildSliceF (l0 := ((kc (List.replicate 32 0) ++ ([.slice none 0 0] ++ ([.bool false]))))) H rfl TryzT.st29 (by decide) (by rfl) (Fl.cons rfl (by rfl) (by (simp only [kc_length, kw_length, List.length_replicate, List.length_append, List.length_cons, List.length_nil]; omega)) (Laid.all (by (simp only [kc_length, kw_length, List.length_replicate, List.length_append, List.length_cons, List.length_nil]; omega))) Fl.nil) rfl ?_
            intro b76 w11 H
            refine WL.append (m := 1) H 1 TryzT.st29 (by decide) rfl rfl rfl (SlC.of_blk (n := 1) (H.l 0 rfl) (chC_len (c := delK ks[i]) hki)) (one_chC (c := delK ks[i]) rfl) (by omega) (by decide) rfl ?_
            intro v77 w12 H
            have hSl := congrArg List.length hS
            rw [List.length_append, List.length_singleton] at hSl
            have hSf := congrArg (List.flatMap chC) hS
            rw [List.flatMap_append, List.flatMap_singleton] at hSf
            replace H := H.forget 0
            replace H := H.conv (L' := [Ent.osl w.heap.size v77 36 34 ((rdX a b (ks.take (i + 1))).length) ((rdX a b (ks.take (i + 1))).flatMap chC)]) (by rw [hSl, hSf]; rfl)
            refine WL.as rfl rfl ?_
            refine WL.nil ?_
            exact ⟨v77, (by repeat (first | with_reducible exact Off.refl _ _ | refine Off.upd rfl ?_)), ⟨rfl, trivial⟩, rfl, H⟩
          · skip
            try simp only [decide_eq_true_eq, decide_eq_false_iff_not, ne_eq, Decidable.not_not, Bool.not_eq_true', Bool.not_eq_false', Bool.and_eq_true, Bool.or_eq_true, Bool.not_not, Bool.and_eq_false_iff, Bool.or_eq_false_iff, Int.not_lt, Int.not_le] at hc69
            have hb1 : hasM b ks[i] = true := (by exact hc69)
            refine WE.seq_reg ?_
            refine WL.mv rfl rfl ?_
            refine WL.pv (PV.not rfl rfl) rfl ?_
            refine WL.mv rfl rfl ?_
            refine WL.split (t := 80) rfl (fun hg80 => ?_) (fun hg80 => ?_)
            · skip
              refine WL.known (t := 79) (c := true) rfl hg80 ?_
              try simp only [decide_eq_true_eq, decide_eq_false_iff_not, ne_eq, Decidable.not_not, Bool.not_eq_true', Bool.not_eq_false', Bool.and_eq_true, Bool.or_eq_true, Bool.not_not, Bool.and_eq_false_iff, Bool.or_eq_false_iff, Int.not_lt, Int.not_le] at hg80
              have hS : rdX a b (ks.take (i + 1)) = rdX a b (ks.take i) ++ [(⟨ks[i], gS b ks[i], gV b ks[i], false⟩ : Ch)] := by rw [hsn, rdC_put hb1 (by rintro ⟨h1_, h2_⟩; rw [h1_] at hg80; simp at hg80)]
              refine WL.off rfl ?_
              refine WL.off rfl ?_
              refine WL.off rfl ?_
              refine WL.off rfl ?_
              refine WL.pv (PV.pick_t rfl rfl rfl) rfl ?_
              refine WL.nil ?_
              refine WE.cond_t rfl ?_
              refine WE.reg ?_
              refine WL.mv rfl rfl ?_
              refine WL.mv rfl rfl ?_
              refine WL.mv rfl rfl ?_
              refine WL.pv (PV.idxS rfl (by exact (H.p 0 rfl : (SlK v43 ks) _)) TryzT.sl70 TryzT.sz31 rfl rfl (by omega) (by omega)) rfl ?_
              refine WL.loadR rfl TryzT.ag31 rfl rfl ((SlK.rd (by exact (H.p 0 rfl : (SlK v43 ks) _)) hkk i hlt)) (by (rw [TryzT.sz31]; refine congrArg some ?_; (simp only [kc_length, kw_length, List.length_replicate, List.length_append, List.length_cons, List.length_nil]; omega))) ?_
              refine WL.mv rfl rfl ?_
              refine WL.pv (PV.buildS rfl TryzT.pl36 TryzT.ze36 (Fl.cons rfl (by rfl) (by (simp only [kc_length, kw_length, List.length_replicate, List.length_append, List.length_cons, List.length_nil]; omega)) (Laid.left (Laid.all (by (simp only [kc_length, kw_length, List.length_replicate, List.length_append, List.length_cons, List.length_nil]; omega)))) (Fl.cons rfl (cells_one (gS_one honb _)) (by (simp only [kc_length, kw_length, List.length_replicate, List.length_append, List.length_cons, List.length_nil]; done)) (Laid.right (Laid.left (Laid.all (by (simp only [kc_length, kw_length, List.length_replicate, List.length_append, List.length_cons, List.length_nil]; done)))) (by (simp only [kc_length, kw_length, List.length_replicate, List.length_append, List.length_cons, List.length_nil]; omega))) Fl.nil))) rfl ?_
              refine WL.buildSliceF (l0 := ((kc (List.replicate 32 0) ++ ([.slice none 0 0] ++ ([.bool false]))))) H rfl TryzT.st29 (by decide) (by rfl) (Fl.cons rfl (by rfl) (by (simp only [kc_length, kw_length, List.length_replicate, List.length_append, List.length_cons, List.length_nil]; omega)) (Laid.all (by (simp only [kc_length, kw_length, List.length_replicate, List.length_append, List.length_cons, List.length_nil]; omega))) Fl.nil) rfl ?_
              intro b93 w13 H
              refine WL.append (m := 1) H 1 TryzT.st29 (by decide) rfl rfl rfl (SlC.of_blk (n := 1) (H.l 0 rfl) (chC_len (c := ⟨ks[i], gS b ks[i], gV b ks[i], false⟩) hki)) (one_chC (c := ⟨ks[i], gS b ks[i], gV b ks[i], false⟩) (gS_one honb _)) (by omega) (by decide) rfl ?_
              intro v94 w14 H
              have hSl := congrArg List.length hS
              rw [List.length_append, List.length_singleton] at hSl
              have hSf := congrArg (List.flatMap chC) hS
              rw [List.flatMap_append, List.flatMap_singleton] at hSf
              replace H := H.forget 0
              replace H := H.conv (L' := [Ent.osl w.heap.size v94 36 34 ((rdX a b (ks.take (i + 1))).length) ((rdX a b (ks.take (i + 1))).flatMap chC)]) (by rw [hSl, hSf]; rfl)
              refine WL.as rfl rfl ?_
              refine WL.nil ?_
              exact ⟨v94, (by repeat (first | with_reducible exact Off.refl _ _ | refine Off.upd rfl ?_)), ⟨rfl, trivial⟩, rfl, H⟩
            · skip
              refine WL.known (t := 79) (c := false) rfl hg80 ?_
              try simp only [decide_eq_true_eq, decide_eq_false_iff_not, ne_eq, Decidable.not_not, Bool.not_eq_true', Bool.not_eq_false', Bool.and_eq_true, Bool.or_eq_true, Bool.not_not, Bool.and_eq_false_iff, Bool.or_eq_false_iff, Int.not_lt, Int.not_le] at hg80
              refine WL.mv rfl rfl ?_
              refine WL.mv rfl rfl ?_
              refine WL.call TryzT.fb36 rfl (Same_c (la := gV a ks[i]) (lb := gV b ks[i]) H.yylt ((show Rob _ (Vals a) _ from (by exact (H.rob 3 rfl : Rob _ (Vals a) _))).imp fun _ h => gV_SlB h _) ((show Rob _ (Vals b) _ from (by exact (H.rob 4 rfl : Rob _ (Vals b) _))).imp fun _ h => gV_SlB h _) (by have := gV_len hva ks[i]; omega)) ?_
              rintro _ w15 ⟨rfl, hO⟩
              replace H := H.out hO
              refine WL.pv (PV.not rfl rfl) rfl ?_
              refine WL.pv (PV.pick_f rfl rfl rfl) rfl ?_
              refine WL.nil ?_
              refine WE.cond rfl (fun hc85 => ?_) (fun hc85 => ?_)
              · skip
                try simp only [decide_eq_true_eq, decide_eq_false_iff_not, ne_eq, Decidable.not_not, Bool.not_eq_true', Bool.not_eq_false', Bool.and_eq_true, Bool.or_eq_true, Bool.not_not, Bool.and_eq_false_iff, Bool.or_eq_false_iff, Int.not_lt, Int.not_le] at hc85
                have hS : rdX a b (ks.take (i + 1)) = rdX a b (ks.take i) ++ [(⟨ks[i], gS b ks[i], gV b ks[i], false⟩ : Ch)] := by rw [hsn, rdC_put hb1 (by rintro ⟨h1_, h2_⟩; exact absurd h2_ (by exact hc85))]
                refine WE.reg ?_
                refine WL.mv rfl rfl ?_
                refine WL.mv rfl rfl ?_
                refine WL.mv rfl rfl ?_
                refine WL.pv (PV.idxS rfl (by exact (H.p 0 rfl : (SlK v43 ks) _)) TryzT.sl70 TryzT.sz31 rfl rfl (by omega) (by omega)) rfl ?_
                refine WL.loadR rfl TryzT.ag31 rfl rfl ((SlK.rd (by exact (H.p 0 rfl : (SlK v43 ks) _)) hkk i hlt)) (by (rw [TryzT.sz31]; refine congrArg some ?_; (simp only [kc_length, kw_length, List.length_replicate, List.length_append, List.length_cons, List.length_nil]; omega))) ?_
                refine WL.mv rfl rfl ?_
                refine WL.pv (PV.buildS rfl TryzT.pl36 TryzT.ze36 (Fl.cons rfl (by rfl) (by (simp only [kc_length, kw_length, List.length_replicate, List.length_append, List.length_cons, List.length_nil]; omega)) (Laid.left (Laid.all (by (simp only [kc_length, kw_length, List.length_replicate, List.length_append, List.length_cons, List.length_nil]; omega)))) (Fl.cons rfl (cells_one (gS_one honb _)) (by (simp only [kc_length, kw_length, List.length_replicate, List.length_append, List.length_cons, List.length_nil]; done)) (Laid.right (Laid.left (Laid.all (by (simp only [kc_length, kw_length, List.length_replicate, List.length_append, List.length_cons, List.length_nil]; done)))) (by (simp only [kc_length, kw_length, List.length_replicate, List.length_append, List.length_cons, List.length_nil]; omega))) Fl.nil))) rfl ?_
                refine WL.buildSliceF (l0 := ((kc (List.replicate 32 0) ++ ([.slice none 0 0] ++ ([.bool false]))))) H rfl TryzT.st29 (by decide) (by rfl) (Fl.cons rfl (by rfl) (by (simp only [kc_length, kw_length, List.length_replicate, List.length_append, List.length_cons, List.length_nil]; omega)) (Laid.all (by (simp only [kc_length, kw_length, List.length_replicate, List.length_append, List.length_cons, List.length_nil]; omega))) Fl.nil) rfl ?_
                intro b93 w16 H
                refine WL.append (m := 1) H 1 TryzT.st29 (by decide) rfl rfl rfl (SlC.of_blk (n := 1) (H.l 0 rfl) (chC_len (c := ⟨ks[i], gS b ks[i], gV b ks[i], false⟩) hki)) (one_chC (c := ⟨ks[i], gS b ks[i], gV b ks[i], false⟩) (gS_one honb _)) (by omega) (by decide) rfl ?_
                intro v94 w17 H
                have hSl := congrArg List.length hS
                rw [List.length_append, List.length_singleton] at hSl
                have hSf := congrArg (List.flatMap chC) hS
                rw [List.flatMap_append, List.flatMap_singleton] at hSf
                replace H := H.forget 0
                replace H := H.conv (L' := [Ent.osl w.heap.size v94 36 34 ((rdX a b (ks.take (i + 1))).length) ((rdX a b (ks.take (i + 1))).flatMap chC)]) (by rw [hSl, hSf]; rfl)
                refine WL.as rfl rfl ?_
                refine WL.nil ?_
                exact ⟨v94, (by repeat (first | with_reducible exact Off.refl _ _ | refine Off.upd rfl ?_)), ⟨rfl, trivial⟩, rfl, H⟩
              · skip
                try simp only [decide_eq_true_eq, decide_eq_false_iff_not, ne_eq, Decidable.not_not, Bool.not_eq_true', Bool.not_eq_false', Bool.and_eq_true, Bool.or_eq_true, Bool.not_not, Bool.and_eq_false_iff, Bool.or_eq_false_iff, Int.not_lt, Int.not_le] at hc85
                have hS2 : rdX a b (ks.take (i + 1)) = rdX a b (ks.take i) := by rw [hsn, rdC_nil hb1 (by exact hg80) (by exact hc85), List.append_nil]
                refine WE.skip ?_
                exact ⟨v_, (by repeat (first | with_reducible exact Off.refl _ _ | refine Off.upd rfl ?_)), ⟨rfl, trivial⟩, rfl, H.conv (by rw [hS2])⟩
        · skip
          intro g1_ γ w18 hI
          try dsimp only at hI
          replace H := hI
          refine WE.reg ?_
          refine WL.mv rfl rfl ?_
          refine WL.pv (PV.eq (v' := .int .i64 ((i + 1 : Nat) : Int)) (PV.add64 rfl rfl rfl (by omega) (by omega)) (by rfl)) rfl ?_
          refine WL.as rfl rfl ?_
          refine WL.nil ?_
          exact ⟨(i + 1, g1_), (by repeat (first | with_reducible exact Off.refl _ _ | refine Off.upd rfl ?_ | refine Off.setAll rfl ?_ | refine Off.forget' rfl ?_)), ⟨rfl, rfl, trivial⟩, rfl, ⟨by dsimp only; omega, H⟩, (by dsimp only; omega)⟩
      · skip
        try simp only [decide_eq_true_eq, decide_eq_false_iff_not, ne_eq, Decidable.not_not, Bool.not_eq_true', Bool.not_eq_false', Bool.and_eq_true, Bool.or_eq_true, Bool.not_not, Bool.and_eq_false_iff, Bool.or_eq_false_iff, Int.not_lt, Int.not_le] at hc47
        have hie : ks.take i = ks := List.take_of_length_le (by omega)
        refine WE.exit ?_
        refine WE.seq_reg ?_
        refine WL.mv rfl rfl ?_
        refine WL.as rfl rfl ?_
        refine WL.nil ?_
        refine WE.ret ?_
        refine ⟨[_], _, .nil _, ⟨rfl, trivial⟩, ?_⟩
        rw [hie] at H
        exact ⟨rdX a b ks, H.toOut0, (rob_own hX (H.l 0 rfl)).imp fun _ h => SlC.of_own h, H.give ((show Rob _ (Vals b) _ from (by exact (H.rob 4 rfl : Rob _ (Vals b) _))).imp fun _ h => CVals_rdX h), rdX_xl hkk, rdX_kx hsa hsb hka hkb hsf.1 hsf.2.2⟩

end Go.Sp.Tryz

set_option maxRecDepth 100000
set_option maxHeartbeats 1000000
set_option linter.unusedVariables false
set_option linter.unusedSimpArgs false
namespace Go.Sp.Tryz
open Go.Proofs Go.RowKit Go.Sp
end Go.Sp.Tryz

