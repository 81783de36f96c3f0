/- Walks of functions, printed by a program of this session (gen.py) from notes on each function. -/
import Derived.Test.YtcclagdjpoimaaaGreatDoorYp
set_option maxRecDepth 100000
set_option maxHeartbeats 1000000
set_option linter.unusedVariables false
set_option linter.unusedSimpArgs false
namespace Go.Sp.Tryz
open Go.Proofs Go.RowKit Go.Sp

theorem getM_noneI {m : List En} {k : List UInt8} : getM m k = none ↔ ∀ e ∈ m, e.k ≠ k := by
  unfold getM
  rw [List.find?_eq_none]
  constructor
  · intro h e he hk; exact h e he (by simpa using hk)
  · intro h e he hk; exact h e he (by simpa using hk)
theorem getM_in {m : List En} {k : List UInt8} {e : En} (h : getM m k = some e) : e ∈ m ∧ e.k = k := ⟨List.mem_of_find?_eq_some h, by have := List.find?_some h; simpa using this⟩
theorem LtX.uniq : ∀ {l : List Ch}, LtX l → ∀ {c d : Ch}, c ∈ l → d ∈ l → c.k = d.k → c = d
  | [], _, _, _, h, _, _ => by cases h
  | x :: l, hl, c, d, hc, hd, hk => by
    have h1 := List.pairwise_cons.1 hl
    have hn := congrArg num hk
    rcases List.mem_cons.1 hc with hc' | hc'
    · rcases List.mem_cons.1 hd with hd' | hd'
      · rw [hc', hd']
      · have := h1.1 d hd'; rw [hc'] at hn; omega
    · rcases List.mem_cons.1 hd with hd' | hd'
      · have := h1.1 c hc'; rw [hd'] at hn; omega
      · exact LtX.uniq h1.2 hc' hd' hk
def gS (m : List En) (k : List UInt8) : Value := match getM m k with | some e => e.s | none => .slice none 0 0
def gV (m : List En) (k : List UInt8) : List UInt8 := match getM m k with | some e => e.v | none => []
def delK (k : List UInt8) : Ch := ⟨k, .slice none 0 0, [], true⟩
def unC (m : List En) (c : Ch) : List Ch :=
  if hasM m c.k = true then (if c.d = true ∨ gV m c.k ≠ c.v then [⟨c.k, gS m c.k, gV m c.k, false⟩] else []) else if c.d = true then [] else [delK c.k]
def unX (m : List En) (l : List Ch) : List Ch := l.flatMap (unC m)
theorem unC_key {m : List En} {c d : Ch} (h : d ∈ unC m c) : d.k = c.k := by
  unfold unC at h
  split at h
  · split at h
    · rw [List.mem_singleton.1 h]
    · cases h
  · split at h
    · cases h
    · rw [List.mem_singleton.1 h]; rfl
theorem unC_len (m : List En) (c : Ch) : (unC m c).length ≤ 1 := by
  unfold unC
  split <;> split <;> simp
theorem unX_len (m : List En) : ∀ l : List Ch, (unX m l).length ≤ l.length
  | [] => Nat.le_refl _
  | c :: l => by
    have h1 := unC_len m c
    have h2 := unX_len m l
    show (unC m c ++ unX m l).length ≤ l.length + 1
    rw [List.length_append]; omega
theorem lt_flat {α : Type} (f : α → List Ch) (g : α → List UInt8) (hk : ∀ a, ∀ c ∈ f a, c.k = g a) (hn : ∀ a, (f a).length ≤ 1) : ∀ l : List α, (l.Pairwise fun a b => num (g a) < num (g b)) → LtX (l.flatMap f)
  | [], _ => List.Pairwise.nil
  | x :: l, h => by
    have h1 := List.pairwise_cons.1 h
    have ih := lt_flat f g hk hn l h1.2
    rw [List.flatMap_cons]
    refine List.pairwise_append.2 ⟨?_, ih, fun a ha b hb => ?_⟩
    · have hl := hn x
      rcases hu : f x with _ | ⟨y, _ | ⟨z, r⟩⟩
      · exact List.Pairwise.nil
      · exact List.pairwise_singleton _ _
      · rw [hu] at hl; simp at hl
    · obtain ⟨d, hd, hb'⟩ := List.mem_flatMap.1 hb
      rw [hk x a ha, hk d b hb']
      exact h1.1 d hd
theorem unX_lt (m : List En) {l : List Ch} (h : LtX l) : LtX (unX m l) := lt_flat (unC m) Ch.k (fun _ _ hc => unC_key hc) (unC_len m) l h
theorem mem_unX {m : List En} {l : List Ch} (hs : Srt m) (hl : LtX l) (c : Ch) : c ∈ unX m l ↔ InD (apM m l) m c := by
  unfold unX
  rw [List.mem_flatMap]
  constructor
  · rintro ⟨x, hx, hc⟩
    unfold unC hasM gV gS at hc
    cases hg : getM m x.k with
    | some e =>
      rw [hg] at hc
      obtain ⟨hem, hek⟩ := getM_in hg
      dsimp only at hc
      rw [if_pos (show (some _).isSome = true from rfl)] at hc
      split at hc
      · rename_i hor
        rw [List.mem_singleton.1 hc]
        refine .inr ⟨e, hem, by unfold chE; rw [hek], fun e' he' hk hv => ?_⟩
        rcases (mem_apM _ _ _ hl).1 he' with ⟨y, hy, hd, rfl⟩ | ⟨_, hno⟩
        · have hyx : y = x := hl.uniq hy hx (hk.trans hek)
          subst hyx
          rcases hor with h | h
          · rw [hd] at h; cases h
          · exact h hv.symm
        · exact hno x hx (hk.trans hek)
      · cases hc
    | none =>
      rw [hg] at hc
      dsimp only at hc
      rw [if_neg (by simp)] at hc
      split at hc
      · cases hc
      · rename_i hd
        rw [List.mem_singleton.1 hc]
        exact .inl ⟨x.en, (mem_apM _ _ _ hl).2 (.inl ⟨x, hx, by simpa using hd, rfl⟩), rfl, getM_noneI.1 hg⟩
  · rintro (⟨e, he, rfl, hno⟩ | ⟨f, hf, rfl, hq⟩)
    · rcases (mem_apM _ _ _ hl).1 he with ⟨x, hx, hd, rfl⟩ | ⟨hem, _⟩
      · refine ⟨x, hx, ?_⟩
        have hg : getM m x.k = none := getM_noneI.2 hno
        unfold unC hasM
        rw [hg, if_neg (by simp), if_neg (by rw [hd]; decide)]
        exact List.mem_singleton.2 rfl
      · exact absurd rfl (hno e hem)
    · by_cases hx : ∃ x ∈ l, x.k = f.k
      · obtain ⟨x, hx, hk⟩ := hx
        refine ⟨x, hx, ?_⟩
        have hg : getM m x.k = some f := by rw [hk]; exact getM_self hs.dis hf
        unfold unC hasM gV gS
        rw [hg]
        dsimp only
        rw [if_pos (show (some _).isSome = true from rfl), if_pos ?_]
        · exact List.mem_singleton.2 (by unfold chE; rw [hk])
        · by_cases hd : x.d = true
          · exact .inl hd
          · refine .inr fun hv => ?_
            exact hq x.en ((mem_apM _ _ _ hl).2 (.inl ⟨x, hx, by simpa using hd, rfl⟩)) hk hv.symm
      · exact absurd rfl (hq f ((mem_apM _ _ _ hl).2 (.inr ⟨hf, fun c hc hk => hx ⟨c, hc, hk.symm⟩⟩)) rfl)
theorem unX_kx {m : List En} {l : List Ch} (hs : Srt m) (hk : KL m) (hl : LtX l) (hx : XL l) : (unX m l).map kx = (diffX (apM m l) m).map kx := by
  have ha := apM_ok l m hs hk hx
  have hm : ∀ c, c ∈ unX m l ↔ c ∈ diffX (apM m l) m := fun c => (mem_unX hs hl c).trans (mem_diffX ha.1 hs ha.2 hk c).symm
  exact kx_ext (unX_lt m hl) (diffX_ok ha.1 hs ha.2 hk).1 fun p => by simp only [List.mem_map, hm]
def rdC (a b : List En) (k : List UInt8) : List Ch :=
  if hasM b k = true then (if hasM a k = true ∧ gV a k = gV b k then [] else [⟨k, gS b k, gV b k, false⟩]) else [delK k]
def rdX (a b : List En) (ks : List (List UInt8)) : List Ch := ks.flatMap (rdC a b)
theorem ins_kv3 {e f : En} (h : kv e = kv f) : ∀ l : List En, (ins e l).map kv = (ins f l).map kv
  | [] => by show [kv e] = [kv f]; rw [h]
  | x :: l => by
    have hk : e.k = f.k := congrArg Prod.fst h
    unfold ins
    rw [hk]
    split
    · rw [List.map_cons, List.map_cons, h]; rfl
    · rw [List.map_cons, List.map_cons, ins_kv3 h l]
theorem apC_kx {m m' : List En} {c d : Ch} (h : kx c = kx d) (hm : m.map kv = m'.map kv) : (apC m c).map kv = (apC m' d).map kv := by
  have hk : c.k = d.k := congrArg Prod.fst h
  have hv : c.v = d.v := congrArg (fun p => p.2.1) h
  have hd : c.d = d.d := congrArg (fun p => p.2.2) h
  unfold apC
  rw [hd]
  split
  · rw [hk]; exact rmM_kv hm
  · refine (putM_kv2 hm).trans ?_
    have e : c.en.k = d.en.k := hk
    unfold putM
    rw [e]
    exact ins_kv3 (by show (c.k, c.v) = (d.k, d.v); rw [hk, hv]) _
theorem apM_kx : ∀ (l l' : List Ch) (m m' : List En), l.map kx = l'.map kx → m.map kv = m'.map kv → (apM m l).map kv = (apM m' l').map kv
  | [], [], _, _, _, h => h
  | [], _ :: _, _, _, h, _ => by simp at h
  | _ :: _, [], _, _, h, _ => by simp at h
  | c :: l, d :: l', m, m', h, hm => by
    rw [List.map_cons, List.map_cons] at h
    injection h with h1 h2
    exact apM_kx l l' (apC m c) (apC m' d) h2 (apC_kx h1 hm)
theorem kx_mem {a b : List Ch} (h : a.map kx = b.map kx) {c : Ch} (hc : c ∈ a) : ∃ d ∈ b, d.k = c.k ∧ d.v = c.v ∧ d.d = c.d := by
  have h1 : kx c ∈ b.map kx := by rw [← h]; exact List.mem_map_of_mem hc
  obtain ⟨d, hd, hk⟩ := List.mem_map.1 h1
  exact ⟨d, hd, congrArg Prod.fst hk, congrArg (fun p => p.2.1) hk, congrArg (fun p => p.2.2) hk⟩
theorem XL.of_kx {a b : List Ch} (h : a.map kx = b.map kx) (hb : XL b) : XL a := fun c hc => by
  obtain ⟨d, hd, hk, _⟩ := kx_mem h hc
  rw [← hk]; exact hb d hd
theorem CShort.of_kx {a b : List Ch} (h : a.map kx = b.map kx) (hb : CShort b) : CShort a := fun c hc => by
  obtain ⟨d, hd, _, hv, _⟩ := kx_mem h hc
  rw [← hv]; exact hb d hd
theorem LtX.of_kx {a b : List Ch} (h : a.map kx = b.map kx) (hb : LtX b) : LtX a := by
  have e : ∀ l : List Ch, LtX l ↔ (l.map kx).Pairwise fun p q => num p.1 < num q.1 := fun l => (List.pairwise_map (f := kx) (R := fun p q => num p.1 < num q.1)).symm
  rw [e, h, ← e]; exact hb
structure UN (m : List En) (l us : List Ch) : Prop where
  xl : XL us
  lt : LtX us
  sh : CShort us
  kx_ : us.map kx = (diffX (apM m l) m).map kx
  leads : (apM (apM m l) us).map kv = m.map kv
  len : us.length ≤ l.length
theorem UN.of {m : List En} {l us : List Ch} (hs : Srt m) (hk : KL m) (hl : LtX l) (hx : XL l) (hv : ShortV m) (h : us.map kx = (unX m l).map kx) : UN m l us := by
  have ha := apM_ok l m hs hk hx
  have h2 := h.trans (unX_kx hs hk hl hx)
  have ok := diffX_ok ha.1 hs ha.2 hk
  refine ⟨XL.of_kx h2 ok.2.1, LtX.of_kx h2 ok.1, CShort.of_kx h2 (diffX_short ha.1 hs ha.2 hk hv), h2, ?_, ?_⟩
  · rw [apM_kx us _ _ _ h2 rfl]; exact diffX_leads ha.1 hs ha.2 hk
  · have h3 := congrArg List.length h
    rw [List.length_map, List.length_map] at h3
    rw [h3]; exact unX_len m l

end Go.Sp.Tryz

set_option maxRecDepth 100000
set_option maxHeartbeats 1000000
set_option linter.unusedVariables false
set_option linter.unusedSimpArgs false
namespace Go.Sp.Tryz
open Go.Proofs Go.RowKit Go.Sp

end Go.Sp.Tryz

set_option maxRecDepth 100000
set_option maxHeartbeats 1000000
set_option linter.unusedVariables false
set_option linter.unusedSimpArgs false
namespace Go.Sp.Tryz
open Go.Proofs Go.RowKit Go.Sp
def midK (x : List UInt8) (s : List (List UInt8) × Bool) (y : List UInt8) : List (List UInt8) × Bool :=
  if 0 < cmpI y x ∧ (s.2 || decide (cmpI y x = 0)) = false then (s.1 ++ [x], true) else (s.1, s.2 || decide (cmpI y x = 0))
def stK (x : List UInt8) (s : List (List UInt8) × Bool) (y : List UInt8) : List (List UInt8) × Bool := ((midK x s y).1 ++ [y], (midK x s y).2)
def finK (x : List UInt8) (s : List (List UInt8) × Bool) : List (List UInt8) := if s.2 then s.1 else s.1 ++ [x]
def SK (o : List (List UInt8)) (x : List UInt8) (j : Nat) : List (List UInt8) × Bool := (o.take j).foldl (stK x) ([], false)
def insR (x : List UInt8) : List (List UInt8) → List (List UInt8)
  | [] => [x]
  | y :: r => if cmpI y x = 0 then y :: r else if 0 < cmpI y x then x :: y :: r else y :: insR x r
def sortR (ks : List (List UInt8)) : List (List UInt8) := ks.foldl (fun o x => insR x o) []
end Go.Sp.Tryz

set_option maxRecDepth 100000
set_option maxHeartbeats 1000000
set_option linter.unusedVariables false
set_option linter.unusedSimpArgs false
namespace Go.Sp.Tryz
open Go.Proofs Go.RowKit Go.Sp
theorem BatchAgreesBad_c {X : Nat → Prop} {w : World} {i : Int} {s s2 : Value} {l : List En} {cs : List Ch} (hX : ∀ b, X b → b < w.heap.size) (hf0 : Rob X (SlE s l) w) (hf1 : Rob X (Vals l) w) (hf2 : Rob X (SlX s2 cs) w) (hf3 : Rob X (CVals cs) w) (hf4 : Rob X (Rounds) w) (hi : ¬ (0 ≤ i ∧ i ≤ 256)) (hkl : KL l) (hlen : l.length ≤ 9223372036854775807) (hvl : ∀ e ∈ l, e.v.length ≤ 9223372036854775807) (hx : XL cs) (hlc : cs.length ≤ 9223372036854775807) (hvc : ∀ c ∈ cs, c.v.length ≤ 9223372036854775807) :
    Ret Tryz.prog 7 [.int .i64 i, s, s2].toArray w fun v w' => v = .bool true ∧ Out Nil w w' := by
  refine Ret.of_body (N := 93) Tryz.func7 rfl rfl (by simp) ?_
  have H := St.begin hX
  replace H := H.add (rob0 hf4)
  replace H := H.add (rob0 hf3)
  replace H := H.add (rob0 hf2)
  replace H := H.add (rob0 hf1)
  replace H := H.add (rob0 hf0)
  refine WE.seq_reg ?_
  refine WL.as rfl rfl ?_
  refine WL.nil ?_
  refine WE.seq_reg ?_
  refine WL.mv rfl rfl ?_
  refine WL.mv rfl rfl ?_
  refine WL.call TryzT.fb8 rfl (Tree_c (i := i) (l := l) H.yylt (by exact H.rob 0 rfl) (by exact H.rob 1 rfl) (by exact H.rob 4 rfl) (by assumption) (by assumption) (by assumption)) ?_
  rintro _ w1 ⟨bv19, sv19, Tv19, mv19, rfl, hTv19, hbv19, hO, hS_, hR⟩
  replace H := ((H.out hO).add hR).add hS_
  have hbf : bv19 = false := by cases hb_ : bv19; rfl; exact absurd (hbv19 hb_).2.1 hi
  subst hbf
  refine WL.mv rfl rfl ?_
  refine WL.pv (PV.extract rfl rfl rfl) rfl ?_
  refine WL.pv (PV.extract rfl rfl rfl) rfl ?_
  refine WL.pv (PV.extract rfl rfl rfl) rfl ?_
  refine WL.as rfl rfl ?_
  refine WL.as rfl rfl ?_
  refine WL.as rfl rfl ?_
  refine WL.nil ?_
  refine WE.seq_reg ?_
  refine WL.mv rfl rfl ?_
  refine WL.call TryzT.fb9 rfl (HashBad_c (i := i) H.yylt  (by assumption)) ?_
  rintro _ w2 ⟨rfl, hO⟩
  replace H := H.out hO
  refine WL.as rfl rfl ?_
  refine WL.nil ?_
  refine WE.seq ?_
  refine WE.seq_reg ?_
  refine WL.mv rfl rfl ?_
  refine WL.pv (PV.not rfl rfl) rfl ?_
  refine WL.mv rfl rfl ?_
  refine WL.known (t := 27) (c := true) rfl (by rfl) ?_
  refine WL.off rfl ?_
  refine WL.off rfl ?_
  refine WL.off rfl ?_
  refine WL.pv (PV.pick_t rfl rfl rfl) rfl ?_
  refine WL.mv rfl rfl ?_
  refine WL.off rfl ?_
  refine WL.off rfl ?_
  refine WL.off rfl ?_
  refine WL.pv (PV.pick_t rfl rfl rfl) rfl ?_
  refine WL.nil ?_
  refine WE.cond_t rfl ?_
  refine WE.seq_reg ?_
  refine WL.call TryzT.fb10 rfl (alive12_c H.yylt (by exact (H.rob 6 rfl : Rob _ (Rounds) _))) ?_
  rintro _ w3 ⟨rfl, hO⟩
  replace H := H.out hO
  refine WL.as rfl rfl ?_
  refine WL.nil ?_
  refine WE.ret ?_
  refine ⟨[_], _, .nil _, ⟨rfl, trivial⟩, ?_⟩
  refine ⟨?_, H.toOut0⟩
  rfl

theorem BatchAgreesOrd_c {X : Nat → Prop} {w : World} {i : Int} {s s2 : Value} {l : List En} {cs : List Ch} (hX : ∀ b, X b → b < w.heap.size) (hf0 : Rob X (SlE s l) w) (hf1 : Rob X (Vals l) w) (hf2 : Rob X (SlX s2 cs) w) (hf3 : Rob X (CVals cs) w) (hf4 : Rob X (Rounds) w) (hi : 0 ≤ i ∧ i ≤ 256) (hkl : KL l) (hlen : l.length ≤ 9223372036854775807) (hvl : ∀ e ∈ l, e.v.length ≤ 9223372036854775807) (hx : XL cs) (hlc : cs.length ≤ 9223372036854775807) (hvc : ∀ c ∈ cs, c.v.length ≤ 9223372036854775807) (hck : chkK (cs.map Ch.k) ≠ 0) :
    Ret Tryz.prog 7 [.int .i64 i, s, s2].toArray w fun v w' => v = .bool true ∧ Out Nil w w' := by
  refine Ret.of_body (N := 93) Tryz.func7 rfl rfl (by simp) ?_
  have H := St.begin hX
  replace H := H.add (rob0 hf4)
  replace H := H.add (rob0 hf3)
  replace H := H.add (rob0 hf2)
  replace H := H.add (rob0 hf1)
  replace H := H.add (rob0 hf0)
  refine WE.seq_reg ?_
  refine WL.as rfl rfl ?_
  refine WL.nil ?_
  refine WE.seq_reg ?_
  refine WL.mv rfl rfl ?_
  refine WL.mv rfl rfl ?_
  refine WL.call TryzT.fb8 rfl (Tree_c (i := i) (l := l) H.yylt (by exact H.rob 0 rfl) (by exact H.rob 1 rfl) (by exact H.rob 4 rfl) (by assumption) (by assumption) (by assumption)) ?_
  rintro _ w1 ⟨bv19, sv19, Tv19, mv19, rfl, hTv19, hbv19, hO, hS_, hR⟩
  replace H := ((H.out hO).add hR).add hS_
  refine WL.mv rfl rfl ?_
  refine WL.pv (PV.extract rfl rfl rfl) rfl ?_
  refine WL.pv (PV.extract rfl rfl rfl) rfl ?_
  refine WL.pv (PV.extract rfl rfl rfl) rfl ?_
  refine WL.as rfl rfl ?_
  refine WL.as rfl rfl ?_
  refine WL.as rfl rfl ?_
  refine WL.nil ?_
  refine WE.seq_reg ?_
  refine WL.mv rfl rfl ?_
  refine WL.call TryzT.fb9 rfl (Hash_c (i := i) H.yylt  (by assumption)) ?_
  rintro _ w2 ⟨bhv24, bcv24, rfl, hO, hge, hB, hR⟩
  replace H := H.pushR hO (Ent.blk bcv24 108 [.int .i64 0]) hB (fun c hc => by cases hc; exact hge) hR
  refine WL.as rfl rfl ?_
  refine WL.nil ?_
  refine WE.seq ?_
  refine WE.seq_reg ?_
  refine WL.mv rfl rfl ?_
  refine WL.pv (PV.not rfl rfl) rfl ?_
  refine WL.mv rfl rfl ?_
  refine WL.split (t := 27) rfl (fun hg27 => ?_) (fun hg27 => ?_)
  · skip
    refine WL.known (t := 26) (c := true) rfl hg27 ?_
    try simp only [decide_eq_true_eq, decide_eq_false_iff_not, ne_eq, Decidable.not_not, Bool.not_eq_true', Bool.not_eq_false', Bool.and_eq_true, Bool.or_eq_true, Bool.not_not, Bool.and_eq_false_iff, Bool.or_eq_false_iff, Int.not_lt, Int.not_le] at hg27
    refine WL.off rfl ?_
    refine WL.off rfl ?_
    refine WL.off rfl ?_
    refine WL.pv (PV.pick_t rfl rfl rfl) rfl ?_
    refine WL.mv rfl rfl ?_
    refine WL.off rfl ?_
    refine WL.off rfl ?_
    refine WL.off rfl ?_
    refine WL.pv (PV.pick_t rfl rfl rfl) rfl ?_
    refine WL.nil ?_
    refine WE.cond_t rfl ?_
    refine WE.seq_reg ?_
    refine WL.call TryzT.fb10 rfl (alive12_c H.yylt (by exact (H.rob 7 rfl : Rob _ (Rounds) _))) ?_
    rintro _ w3 ⟨rfl, hO⟩
    replace H := H.out hO
    refine WL.as rfl rfl ?_
    refine WL.nil ?_
    refine WE.ret ?_
    refine ⟨[_], _, .nil _, ⟨rfl, trivial⟩, ?_⟩
    refine ⟨?_, H.toOut0⟩
    rfl
  · skip
    refine WL.known (t := 26) (c := false) rfl hg27 ?_
    try simp only [decide_eq_true_eq, decide_eq_false_iff_not, ne_eq, Decidable.not_not, Bool.not_eq_true', Bool.not_eq_false', Bool.and_eq_true, Bool.or_eq_true, Bool.not_not, Bool.and_eq_false_iff, Bool.or_eq_false_iff, Int.not_lt, Int.not_le] at hg27
    obtain ⟨rfl, -, hfew⟩ := hbv19 (by exact hg27)
    have hok := ofM_ok l hkl
    have hpm := ofM_pm l hkl
    have hml : (ofM l).length ≤ 12 := Nat.le_trans hok.2.2.1 hfew.1
    have hvs := ofM_short hkl hfew.2
    have hsv : ShortV (ofM l) := fun e he => Nat.le_trans (hvs e he) (by decide)
    replace H := H.add (by exact (H.rob 4 rfl : Rob _ (Vals l) _).imp fun _ h => h.sub hok.2.2.2)
    have hone : OneS (ofM l) := OneS.of (H.p 0 rfl)
    have hfit : Tv19.er.fit 0 := hTv19 ▸ grow_fit hpm
    refine WL.mv rfl rfl ?_
    refine WL.call TryzT.fb15 rfl (r12Few_c (s := s2) (l := cs) H.yylt (by exact (H.rob 6 rfl : Rob _ (SlX s2 cs) _)) (by exact (H.rob 7 rfl : Rob _ (CVals cs) _)) hx hlc hvc) ?_
    rintro _ w4 ⟨bfew, rfl, hFewc, hO⟩
    replace H := H.out hO
    refine WL.pv (PV.not rfl rfl) rfl ?_
    refine WL.pv (PV.pick_f rfl rfl rfl) rfl ?_
    refine WL.mv rfl rfl ?_
    refine WL.split (t := 32) rfl (fun hg32 => ?_) (fun hg32 => ?_)
    · skip
      refine WL.known (t := 31) (c := true) rfl hg32 ?_
      try simp only [decide_eq_true_eq, decide_eq_false_iff_not, ne_eq, Decidable.not_not, Bool.not_eq_true', Bool.not_eq_false', Bool.and_eq_true, Bool.or_eq_true, Bool.not_not, Bool.and_eq_false_iff, Bool.or_eq_false_iff, Int.not_lt, Int.not_le] at hg32
      refine WL.off rfl ?_
      refine WL.off rfl ?_
      refine WL.off rfl ?_
      refine WL.pv (PV.pick_t rfl rfl rfl) rfl ?_
      refine WL.nil ?_
      refine WE.cond_t rfl ?_
      refine WE.seq_reg ?_
      refine WL.call TryzT.fb10 rfl (alive12_c H.yylt (by exact (H.rob 8 rfl : Rob _ (Rounds) _))) ?_
      rintro _ w5 ⟨rfl, hO⟩
      replace H := H.out hO
      refine WL.as rfl rfl ?_
      refine WL.nil ?_
      refine WE.ret ?_
      refine ⟨[_], _, .nil _, ⟨rfl, trivial⟩, ?_⟩
      refine ⟨?_, H.toOut0⟩
      rfl
    · skip
      refine WL.known (t := 31) (c := false) rfl hg32 ?_
      try simp only [decide_eq_true_eq, decide_eq_false_iff_not, ne_eq, Decidable.not_not, Bool.not_eq_true', Bool.not_eq_false', Bool.and_eq_true, Bool.or_eq_true, Bool.not_not, Bool.and_eq_false_iff, Bool.or_eq_false_iff, Int.not_lt, Int.not_le] at hg32
      have hfc := hFewc (by exact hg32)
      have hcl := hfc.1
      have hcs : CShort cs := fun c hc => Nat.le_trans (hfc.2 c hc) (by decide)
      refine WL.mv rfl rfl ?_
      refine WL.call TryzT.fb12 rfl (r12Check_c (s := s2) (l := cs) H.yylt (by exact (H.rob 6 rfl : Rob _ (SlX s2 cs) _)) hx (by omega)) ?_
      rintro _ w6 ⟨rfl, hO⟩
      replace H := H.out hO
      refine WL.pv (PV.neq rfl rfl rfl) rfl ?_
      refine WL.pv (PV.pick_f rfl rfl rfl) rfl ?_
      refine WL.nil ?_
      refine WE.cond_t' rfl (by simp [hck]) ?_
      refine WE.seq_reg ?_
      refine WL.call TryzT.fb10 rfl (alive12_c H.yylt (by exact (H.rob 8 rfl : Rob _ (Rounds) _))) ?_
      rintro _ w7 ⟨rfl, hO⟩
      replace H := H.out hO
      refine WL.as rfl rfl ?_
      refine WL.nil ?_
      refine WE.ret ?_
      refine ⟨[_], _, .nil _, ⟨rfl, trivial⟩, ?_⟩
      refine ⟨?_, H.toOut0⟩
      rfl

theorem BatchAgrees_c {X : Nat → Prop} {w : World} {i : Int} {s s2 : Value} {l : List En} {cs : List Ch} (hX : ∀ b, X b → b < w.heap.size) (hf0 : Rob X (SlE s l) w) (hf1 : Rob X (Vals l) w) (hf2 : Rob X (SlX s2 cs) w) (hf3 : Rob X (CVals cs) w) (hf4 : Rob X (Rounds) w) (hi : 0 ≤ i ∧ i ≤ 256) (hkl : KL l) (hlen : l.length ≤ 9223372036854775807) (hvl : ∀ e ∈ l, e.v.length ≤ 9223372036854775807) (hx : XL cs) (hlc : cs.length ≤ 9223372036854775807) (hvc : ∀ c ∈ cs, c.v.length ≤ 9223372036854775807) (hck : chkK (cs.map Ch.k) = 0) :
    Ret Tryz.prog 7 [.int .i64 i, s, s2].toArray w fun v w' => v = .bool true ∧ Out Nil w w' := by
  refine Ret.of_body (N := 93) Tryz.func7 rfl rfl (by simp) ?_
  have H := St.begin hX
  replace H := H.add (rob0 hf4)
  replace H := H.add (rob0 hf3)
  replace H := H.add (rob0 hf2)
  replace H := H.add (rob0 hf1)
  replace H := H.add (rob0 hf0)
  have hone2 := SlX.one (s := s2) (hf3.here)
  refine WE.seq_reg ?_
  refine WL.as rfl rfl ?_
  refine WL.nil ?_
  refine WE.seq_reg ?_
  refine WL.mv rfl rfl ?_
  refine WL.mv rfl rfl ?_
  refine WL.call TryzT.fb8 rfl (Tree_c (i := i) (l := l) H.yylt (by exact H.rob 0 rfl) (by exact H.rob 1 rfl) (by exact H.rob 4 rfl) (by assumption) (by assumption) (by assumption)) ?_
  rintro _ w1 ⟨bv19, sv19, Tv19, mv19, rfl, hTv19, hbv19, hO, hS_, hR⟩
  replace H := ((H.out hO).add hR).add hS_
  refine WL.mv rfl rfl ?_
  refine WL.pv (PV.extract rfl rfl rfl) rfl ?_
  refine WL.pv (PV.extract rfl rfl rfl) rfl ?_
  refine WL.pv (PV.extract rfl rfl rfl) rfl ?_
  refine WL.as rfl rfl ?_
  refine WL.as rfl rfl ?_
  refine WL.as rfl rfl ?_
  refine WL.nil ?_
  refine WE.seq_reg ?_
  refine WL.mv rfl rfl ?_
  refine WL.call TryzT.fb9 rfl (Hash_c (i := i) H.yylt  (by assumption)) ?_
  rintro _ w2 ⟨bhv24, bcv24, rfl, hO, hge, hB, hR⟩
  replace H := H.pushR hO (Ent.blk bcv24 108 [.int .i64 0]) hB (fun c hc => by cases hc; exact hge) hR
  refine WL.as rfl rfl ?_
  refine WL.nil ?_
  refine WE.seq ?_
  refine WE.seq_reg ?_
  refine WL.mv rfl rfl ?_
  refine WL.pv (PV.not rfl rfl) rfl ?_
  refine WL.mv rfl rfl ?_
  refine WL.split (t := 27) rfl (fun hg27 => ?_) (fun hg27 => ?_)
  · skip
    refine WL.known (t := 26) (c := true) rfl hg27 ?_
    try simp only [decide_eq_true_eq, decide_eq_false_iff_not, ne_eq, Decidable.not_not, Bool.not_eq_true', Bool.not_eq_false', Bool.and_eq_true, Bool.or_eq_true, Bool.not_not, Bool.and_eq_false_iff, Bool.or_eq_false_iff, Int.not_lt, Int.not_le] at hg27
    refine WL.off rfl ?_
    refine WL.off rfl ?_
    refine WL.off rfl ?_
    refine WL.pv (PV.pick_t rfl rfl rfl) rfl ?_
    refine WL.mv rfl rfl ?_
    refine WL.off rfl ?_
    refine WL.off rfl ?_
    refine WL.off rfl ?_
    refine WL.pv (PV.pick_t rfl rfl rfl) rfl ?_
    refine WL.nil ?_
    refine WE.cond_t rfl ?_
    refine WE.seq_reg ?_
    refine WL.call TryzT.fb10 rfl (alive12_c  H.yylt (by exact H.rob 7 rfl) ) ?_
    rintro _ w3 ⟨rfl, hO⟩
    replace H := H.out hO
    refine WL.as rfl rfl ?_
    refine WL.nil ?_
    refine WE.ret ?_
    refine ⟨[_], _, .nil _, ⟨rfl, trivial⟩, ?_⟩
    refine ⟨?_, H.toOut0⟩
    rfl
  · skip
    refine WL.known (t := 26) (c := false) rfl hg27 ?_
    try simp only [decide_eq_true_eq, decide_eq_false_iff_not, ne_eq, Decidable.not_not, Bool.not_eq_true', Bool.not_eq_false', Bool.and_eq_true, Bool.or_eq_true, Bool.not_not, Bool.and_eq_false_iff, Bool.or_eq_false_iff, Int.not_lt, Int.not_le] at hg27
    obtain ⟨rfl, -, hfew⟩ := hbv19 (by exact hg27)
    have hok := ofM_ok l hkl
    have hpm := ofM_pm l hkl
    have hml : (ofM l).length ≤ 12 := Nat.le_trans hok.2.2.1 hfew.1
    have hvs := ofM_short hkl hfew.2
    have hsv : ShortV (ofM l) := fun e he => Nat.le_trans (hvs e he) (by decide)
    replace H := H.add (by exact (H.rob 4 rfl : Rob _ (Vals l) _).imp fun _ h => h.sub hok.2.2.2)
    have hone : OneS (ofM l) := OneS.of (H.p 0 rfl)
    have hfit : Tv19.er.fit 0 := hTv19 ▸ grow_fit hpm
    refine WL.mv rfl rfl ?_
    refine WL.call TryzT.fb15 rfl (r12Few_c (s := s2) (l := cs) H.yylt (by exact (H.rob 6 rfl : Rob _ (SlX s2 cs) _)) (by exact (H.rob 7 rfl : Rob _ (CVals cs) _)) hx hlc hvc) ?_
    rintro _ w4 ⟨bfew, rfl, hFewc, hO⟩
    replace H := H.out hO
    refine WL.pv (PV.not rfl rfl) rfl ?_
    refine WL.pv (PV.pick_f rfl rfl rfl) rfl ?_
    refine WL.mv rfl rfl ?_
    refine WL.split (t := 32) rfl (fun hg32 => ?_) (fun hg32 => ?_)
    · skip
      refine WL.known (t := 31) (c := true) rfl hg32 ?_
      try simp only [decide_eq_true_eq, decide_eq_false_iff_not, ne_eq, Decidable.not_not, Bool.not_eq_true', Bool.not_eq_false', Bool.and_eq_true, Bool.or_eq_true, Bool.not_not, Bool.and_eq_false_iff, Bool.or_eq_false_iff, Int.not_lt, Int.not_le] at hg32
      refine WL.off rfl ?_
      refine WL.off rfl ?_
      refine WL.off rfl ?_
      refine WL.pv (PV.pick_t rfl rfl rfl) rfl ?_
      refine WL.nil ?_
      refine WE.cond_t rfl ?_
      refine WE.seq_reg ?_
      refine WL.call TryzT.fb10 rfl (alive12_c  H.yylt (by exact H.rob 8 rfl) ) ?_
      rintro _ w5 ⟨rfl, hO⟩
      replace H := H.out hO
      refine WL.as rfl rfl ?_
      refine WL.nil ?_
      refine WE.ret ?_
      refine ⟨[_], _, .nil _, ⟨rfl, trivial⟩, ?_⟩
      refine ⟨?_, H.toOut0⟩
      rfl
    · skip
      refine WL.known (t := 31) (c := false) rfl hg32 ?_
      try simp only [decide_eq_true_eq, decide_eq_false_iff_not, ne_eq, Decidable.not_not, Bool.not_eq_true', Bool.not_eq_false', Bool.and_eq_true, Bool.or_eq_true, Bool.not_not, Bool.and_eq_false_iff, Bool.or_eq_false_iff, Int.not_lt, Int.not_le] at hg32
      have hfc := hFewc (by exact hg32)
      have hcl := hfc.1
      have hcs : CShort cs := fun c hc => Nat.le_trans (hfc.2 c hc) (by decide)
      have hltx := LtX.of_chk hck
      have hal := apM_len cs (ofM l)
      refine WL.mv rfl rfl ?_
      refine WL.call TryzT.fb12 rfl (r12Check_c (s := s2) (l := cs) H.yylt (by exact (H.rob 6 rfl : Rob _ (SlX s2 cs) _)) hx (by omega)) ?_
      rintro _ w6 ⟨rfl, hO⟩
      replace H := H.out hO
      refine WL.pv (PV.neq rfl rfl rfl) rfl ?_
      refine WL.pv (PV.pick_f rfl rfl rfl) rfl ?_
      refine WL.nil ?_
      refine WE.cond_f' rfl (by simp [hck]) ?_
      refine WE.skip ?_
      refine WE.seq_reg ?_
      refine WL.mv rfl rfl ?_
      refine WL.mv rfl rfl ?_
      refine WL.mv rfl rfl ?_
      refine WL.call TryzT.fb17 rfl (changes_c (s := s2) (l := cs) H.yylt (by exact (H.rob 6 rfl : Rob _ (SlX s2 cs) _)) (by exact (H.rob 7 rfl : Rob _ (CVals cs) _)) hx (by omega)) ?_
      rintro v42 w7 ⟨hO, hR⟩
      replace H := (H.out hO).add (show Rob _ (SlX v42 cs) _ from hR)
      refine WL.call TryzT.fb16 rfl (ApplyOk_c (T := Tv19) (m := ofM l) (l := cs) (s := v42) (bits := i) H.yylt (H.l 0 rfl) (by exact H.robL 0 rfl 2 rfl) (by exact (H.robL 0 rfl 4 rfl : Rob _ (TrA i Tv19) _)) (by exact (H.robL 0 rfl 0 rfl : Rob _ (SlX v42 cs) _)) (by exact (H.robL 0 rfl 8 rfl : Rob _ (CVals cs) _)) (by exact H.robL 0 rfl 9 rfl) hi hTv19 hok.1 hok.2.1 hx hcs hck (by omega)) ?_
      rintro _ w8 ⟨Tv43, mv43, rfl, hTv43, hO, hB, hR⟩
      replace H := H.calledR 0 rfl hO hB hR
      refine WL.mv rfl rfl ?_
      refine WL.pv (PV.extract rfl rfl rfl) rfl ?_
      refine WL.pv (PV.extract rfl rfl rfl) rfl ?_
      refine WL.as rfl rfl ?_
      refine WL.as rfl rfl ?_
      refine WL.nil ?_
      refine WE.seq_reg ?_
      refine WL.mv rfl rfl ?_
      refine WL.as rfl rfl ?_
      refine WL.nil ?_
      refine WE.seq ?_
      refine WE.seq_reg ?_
      refine WL.mv rfl rfl ?_
      refine WL.pv (PV.lenS (by exact (H.p 8 rfl : SlX s2 cs _)) TryzT.sl29 rfl) rfl ?_
      refine WL.mv rfl rfl ?_
      refine WL.nil ?_
      refine WE.block ?_
      replace H := H.add (show Rob _ (Rounds) _ from (by exact (H.rob 10 rfl : Rob _ (Rounds) _)))
      replace H := H.add (show Rob _ (HAt bhv24 bcv24 i) _ from (by exact (H.rob 4 rfl : Rob _ (HAt bhv24 bcv24 i) _)))
      replace H := H.add (show Rob _ (CVals cs) _ from (by exact (H.rob 11 rfl : Rob _ (CVals cs) _)))
      replace H := H.add (show Rob _ (SlX s2 cs) _ from (by exact (H.rob 11 rfl : Rob _ (SlX s2 cs) _)))
      replace H := H.add (show Rob _ (TrA i Tv43) _ from (by exact (H.rob 4 rfl : Rob _ (TrA i Tv43) _)))
      replace H := H.add (show Rob _ (TrA i Tv19) _ from (by exact (H.rob 10 rfl : Rob _ (TrA i Tv19) _)))
      replace H := H.sel [0, 1, 2, 3, 4, 5]
      refine WE.loop (α := Nat × Tr × Int) [13, 15, 49, 50, 51, 52, 53, 54, 55, 56, 57, 58, 59, 60, 61, 62, 63, 64, 65, 66, 67, 68, 69, 70, 71] (fun p => [(49, .int .i64 (p.1 : Int)), (13, p.2.1.ptr)]) (fun p wl => (p.1 ≤ cs.length ∧ p.2.1.er = grow 0 (apM (ofM l) (cs.take p.1))) ∧ St X w wl [] [Ent.blk bcv24 108 [.int .i64 p.2.2]] [TrA i p.2.1, TrA i Tv43, SlX s2 cs, CVals cs, HAt bhv24 bcv24 i, Rounds]) (fun p => cs.length - p.1) (0, Tv19, mv43) ⟨rfl, rfl, trivial⟩ ⟨⟨Nat.zero_le _, hTv19⟩, H⟩ ?_
      intro ⟨j, Tf, cf⟩ γ0 w9 hI
      try dsimp only at hI
      obtain ⟨⟨hj, hTf⟩, H⟩ := hI
      try dsimp only at hj hTf
      refine WE.seq_reg ?_
      refine WL.pv (PV.lss rfl rfl rfl) rfl ?_
      refine WL.nil ?_
      refine WE.seq ?_
      refine WE.cond rfl (fun hc50 => ?_) (fun hc50 => ?_)
      · skip
        try simp only [decide_eq_true_eq, decide_eq_false_iff_not, ne_eq, Decidable.not_not, Bool.not_eq_true', Bool.not_eq_false', Bool.and_eq_true, Bool.or_eq_true, Bool.not_not, Bool.and_eq_false_iff, Bool.or_eq_false_iff, Int.not_lt, Int.not_le] at hc50
        have hlt : j < cs.length := by omega
        have hkj := hx _ (List.getElem_mem hlt)
        have hc34 := chC_len hkj
        have hao := apM_ok (cs.take j) (ofM l) hok.1 hok.2.1 (hx.take j)
        have haj := apM_len (cs.take j) (ofM l)
        have htl : (cs.take j).length ≤ cs.length := by rw [List.length_take]; omega
        have hsn := apM_snoc (m := ofM l) hlt
        refine WE.skip ?_
        refine WE.cut (α := Tr × Int) [13, 15, 51, 52, 53, 54, 55, 56, 57, 58, 59, 60, 61, 62, 63, 64, 65, 66, 67, 68, 69, 70] (fun g1_ => [(13, g1_.1.ptr)]) (fun g1_ wl => g1_.1.er = grow 0 (apM (ofM l) (cs.take (j + 1))) ∧ St X w wl [] [Ent.blk bcv24 108 [.int .i64 g1_.2]] [TrA i g1_.1, TrA i Tv43, SlX s2 cs, CVals cs, HAt bhv24 bcv24 i, Rounds]) ?_ ?_
        · skip
          refine WE.block ?_
          refine WE.seq_reg ?_
          refine WL.pv (PV.idxS rfl (by exact (H.p 2 rfl : SlX s2 cs _)) TryzT.sl29 TryzT.sz36 rfl rfl (by omega) (by omega)) rfl ?_
          refine WL.loadR rfl TryzT.ag36 rfl rfl (SlX.rd (by exact (H.p 2 rfl : SlX s2 cs _)) hx j hlt) (by (rw [TryzT.sz36]; refine congrArg some ?_; (simp [kc_length, kw_length, *]; done))) ?_
          refine WL.alloc H rfl TryzT.ze36 rfl ?_
          intro b15 w10 H
          refine WL.storeL H 0 rfl rfl rfl (new := chC cs[j]) rfl (by (rw [TryzT.sz36]; refine congrArg some ?_; (simp [kc_length, kw_length, *]; done))) (one_chC (hone2 _ (List.getElem_mem hlt))) (Laid.at (Laid.all (by (simp only [kc_length, kw_length, List.length_replicate, List.length_append, List.length_cons, List.length_nil, cutI_length, shaOf_length, dig_length, valD_length, rootM_length]; omega))) (by rfl)) rfl ?_
          intro w11 H
          refine WL.nil ?_
          refine WE.seq_reg ?_
          refine WL.pv (PV.fieldAddr rfl TryzT.fd36_2 rfl) rfl ?_
          refine WL.load1 rfl TryzT.ag4 rfl rfl (by exact Blk.segAt (H.l 0 rfl) (Seg.r (Seg.r (Seg.all _) (by with_reducible rfl)) (by with_reducible rfl)) (by (simp [kc_length, kw_length, *]; done))) ?_
          refine WL.nil ?_
          refine WE.cond rfl (fun hc54 => ?_) (fun hc54 => ?_)
          · skip
            try simp only [decide_eq_true_eq, decide_eq_false_iff_not, ne_eq, Decidable.not_not, Bool.not_eq_true', Bool.not_eq_false', Bool.and_eq_true, Bool.or_eq_true, Bool.not_not, Bool.and_eq_false_iff, Bool.or_eq_false_iff, Int.not_lt, Int.not_le] at hc54
            have hd : cs[j].d = true := by exact hc54
            have hac : apC (apM (ofM l) (cs.take j)) cs[j] = rmM (apM (ofM l) (cs.take j)) cs[j].k := by unfold apC; rw [if_pos hd]
            refine WE.reg ?_
            refine WL.mv rfl rfl ?_
            refine WL.mv rfl rfl ?_
            refine WL.pv (PV.fieldAddr rfl TryzT.fd36_0 rfl) rfl ?_
            refine WL.loadR rfl TryzT.ag31 rfl rfl (by exact Blk.segAt (H.l 0 rfl) (Seg.l (Seg.all _)) (by rfl)) (by (rw [TryzT.sz31]; refine congrArg some ?_; (simp only [kc_length, kw_length, List.length_replicate, List.length_append, List.length_cons, List.length_nil, cutI_length, shaOf_length, dig_length, valD_length, rootM_length]; omega))) ?_
            refine WL.call TryzT.fb25 rfl (Remove2_c (T := Tf) (M := (apM (ofM l) (cs.take j))) (k := cs[j].k) (bits := i) H.yylt (H.l 1 rfl) (by exact H.robL 1 rfl 4 rfl) (by exact (H.robL 1 rfl 0 rfl : Rob _ (TrA i Tf) _)) (by exact H.robL 1 rfl 5 rfl) hi hkj hTf (hao.1.pm hao.2) (by omega)) ?_
            rintro _ w12 ⟨Tv60, cv60, fv60, rfl, hTv60, hfv60, hnv60, hO, hB, hR⟩
            replace H := H.calledR 1 rfl hO hB hR
            refine WL.mv rfl rfl ?_
            refine WL.pv (PV.extract rfl rfl rfl) rfl ?_
            refine WL.pv (PV.extract rfl rfl rfl) rfl ?_
            refine WL.as rfl rfl ?_
            refine WL.nil ?_
            replace H := H.forget 0
            exact ⟨(Tv60, cv60), (by repeat (first | with_reducible exact Off.refl _ _ | refine Off.upd rfl ?_)), ⟨rfl, trivial⟩, rfl, ⟨by dsimp only; rw [hTv60, hsn, hac], by exact H.sel [0, 2, 3, 4, 5, 6]⟩⟩
          · skip
            try simp only [decide_eq_true_eq, decide_eq_false_iff_not, ne_eq, Decidable.not_not, Bool.not_eq_true', Bool.not_eq_false', Bool.and_eq_true, Bool.or_eq_true, Bool.not_not, Bool.and_eq_false_iff, Bool.or_eq_false_iff, Int.not_lt, Int.not_le] at hc54
            have hd : cs[j].d = false := by exact hc54
            have hac : apC (apM (ofM l) (cs.take j)) cs[j] = putM (apM (ofM l) (cs.take j)) cs[j].en := by unfold apC; rw [if_neg (by rw [hd]; decide)]
            refine WE.reg ?_
            refine WL.mv rfl rfl ?_
            refine WL.mv rfl rfl ?_
            refine WL.pv (PV.fieldAddr rfl TryzT.fd36_0 rfl) rfl ?_
            refine WL.loadR rfl TryzT.ag31 rfl rfl (by exact Blk.segAt (H.l 0 rfl) (Seg.l (Seg.all _)) (by rfl)) (by (rw [TryzT.sz31]; refine congrArg some ?_; (simp only [kc_length, kw_length, List.length_replicate, List.length_append, List.length_cons, List.length_nil, cutI_length, shaOf_length, dig_length, valD_length, rootM_length]; omega))) ?_
            refine WL.pv (PV.fieldAddr rfl TryzT.fd36_1 rfl) rfl ?_
            refine WL.load1 rfl TryzT.ag32 rfl rfl (by exact Blk.segAt (H.l 0 rfl) (Seg.r (Seg.l (Seg.all _)) (by with_reducible rfl)) (by (simp [kc_length, kw_length, *]; done))) ?_
            refine WL.pv (PV.buildS rfl TryzT.pl34 TryzT.ze34 (Fl.cons rfl (by rfl) (by (simp only [kc_length, kw_length, List.length_replicate, List.length_append, List.length_cons, List.length_nil, cutI_length, shaOf_length, dig_length, valD_length, rootM_length]; omega)) (Laid.left (Laid.all (by (simp only [kc_length, kw_length, List.length_replicate, List.length_append, List.length_cons, List.length_nil, cutI_length, shaOf_length, dig_length, valD_length, rootM_length]; omega)))) (Fl.cons rfl (cells_one (hone2 _ (List.getElem_mem hlt))) (by (simp only [kc_length, kw_length, List.length_replicate, List.length_append, List.length_cons, List.length_nil, cutI_length, shaOf_length, dig_length, valD_length, rootM_length]; done)) (Laid.right (Laid.all (by (simp only [kc_length, kw_length, List.length_replicate, List.length_append, List.length_cons, List.length_nil, cutI_length, shaOf_length, dig_length, valD_length, rootM_length]; done))) (by (simp only [kc_length, kw_length, List.length_replicate, List.length_append, List.length_cons, List.length_nil, cutI_length, shaOf_length, dig_length, valD_length, rootM_length]; omega))) Fl.nil))) rfl ?_
            refine WL.call TryzT.fb26 rfl (Put2_c (T := Tf) (M := (apM (ofM l) (cs.take j))) (k := cs[j].k) (lv := cs[j].v) (s := cs[j].s) (bits := i) H.yylt (H.l 1 rfl) (by exact H.robL 1 rfl 4 rfl) (by exact (H.robL 1 rfl 0 rfl : Rob _ (TrA i Tf) _)) (by exact H.robL 1 rfl 5 rfl) hi hkj (hcs _ (List.getElem_mem hlt)) (by exact ((H.robL 1 rfl 3 rfl : Rob _ (CVals cs) _).imp fun _ h => h _ (List.getElem_mem hlt)).wk1) hTf hao.2 hao.1 (by omega)) ?_
            rintro _ w13 ⟨Tv70, mv70, rfl, hTv70, hO, hB, hR⟩
            replace H := H.calledR 1 rfl hO hB hR
            refine WL.as rfl rfl ?_
            refine WL.nil ?_
            replace H := H.forget 0
            exact ⟨(Tv70, mv70), (by repeat (first | with_reducible exact Off.refl _ _ | refine Off.upd rfl ?_)), ⟨rfl, trivial⟩, rfl, ⟨by dsimp only; rw [hTv70, hsn, hac]; rfl, H.sel [0, 2, 3, 4, 5, 6]⟩⟩
        · skip
          intro ⟨Tg, cg⟩ γ w14 hI
          try dsimp only at hI
          obtain ⟨hTg, H⟩ := hI
          try dsimp only at hTg
          refine WE.reg ?_
          refine WL.pv (PV.eq (v' := .int .i64 ((j + 1 : Nat) : Int)) (PV.add64 rfl rfl rfl (by omega) (by omega)) (by rfl)) rfl ?_
          refine WL.mv rfl rfl ?_
          refine WL.nil ?_
          exact ⟨(j + 1, Tg, cg), (by repeat (first | with_reducible exact Off.refl _ _ | refine Off.upd rfl ?_ | refine Off.setAll rfl ?_ | refine Off.forget' rfl ?_)), ⟨rfl, rfl, trivial⟩, rfl, ⟨⟨by dsimp only; omega, hTg⟩, H⟩, (by dsimp only; omega)⟩
      · skip
        try simp only [decide_eq_true_eq, decide_eq_false_iff_not, ne_eq, Decidable.not_not, Bool.not_eq_true', Bool.not_eq_false', Bool.and_eq_true, Bool.or_eq_true, Bool.not_not, Bool.and_eq_false_iff, Bool.or_eq_false_iff, Int.not_lt, Int.not_le] at hc50
        have hje : cs.take j = cs := List.take_of_length_le (by omega)
        have hTy := hTf
        rw [hje] at hTy
        refine WE.exit ?_
        refine WE.seq_reg ?_
        refine WL.call TryzT.fb10 rfl (alive12_c H.yylt (by exact (H.rob 5 rfl : Rob _ (Rounds) _))) ?_
        rintro _ w15 ⟨rfl, hO⟩
        replace H := H.out hO
        refine WL.mv rfl rfl ?_
        refine WL.known (t := 73) (c := true) rfl (by rfl) ?_
        refine WL.mv rfl rfl ?_
        refine WL.pv (PV.eql rfl rfl rfl) rfl ?_
        refine WL.pv (PV.pick_t rfl rfl rfl) rfl ?_
        refine WL.mv rfl rfl ?_
        refine WL.known (t := 77) (c := true) rfl (by rfl) ?_
        refine WL.mv rfl rfl ?_
        refine WL.mv rfl rfl ?_
        refine WL.call TryzT.fb14 rfl (Digest_c (T := Tv43) (bits := i) H.yylt (H.l 0 rfl) (by exact H.robL 0 rfl 4 rfl) (by exact (H.robL 0 rfl 1 rfl : Rob _ (TrA i Tv43) _)) (by exact H.robL 0 rfl 5 rfl) hi) ?_
        rintro _ w16 ⟨mv80, rfl, hO, hB⟩
        replace H := H.called 0 rfl hO hB
        refine WL.mv rfl rfl ?_
        refine WL.mv rfl rfl ?_
        refine WL.call TryzT.fb14 rfl (Digest_c (T := Tf) (bits := i) H.yylt (H.l 0 rfl) (by exact H.robL 0 rfl 4 rfl) (by exact (H.robL 0 rfl 0 rfl : Rob _ (TrA i Tf) _)) (by exact H.robL 0 rfl 5 rfl) hi) ?_
        rintro _ w17 ⟨mv83, rfl, hO, hB⟩
        replace H := H.called 0 rfl hO hB
        refine WL.pv (PV.eqlB rfl TryzT.ar42 TryzT.in5 TryzT.sz5 (by kernel_rfl) rfl rfl (by exact dig_length _ _) (by exact dig_length _ _)) rfl ?_
        refine WL.pv (PV.pick_t rfl rfl rfl) rfl ?_
        refine WL.mv rfl rfl ?_
        refine WL.known (t := 86) (c := true) rfl (by (simp [hTv43, hTy, hje]; done)) ?_
        refine WL.mv rfl rfl ?_
        refine WL.call TryzT.fb27 rfl (Len_c (T := Tv43) (bits := i) H.yylt (by exact (H.rob 1 rfl : Rob _ (TrA i Tv43) _))) ?_
        rintro _ w18 ⟨rfl, hO⟩
        replace H := H.out hO
        refine WL.mv rfl rfl ?_
        refine WL.call TryzT.fb27 rfl (Len_c (T := Tf) (bits := i) H.yylt (by exact (H.rob 0 rfl : Rob _ (TrA i Tf) _))) ?_
        rintro _ w19 ⟨rfl, hO⟩
        replace H := H.out hO
        refine WL.pv (PV.eql rfl rfl rfl) rfl ?_
        refine WL.pv (PV.pick_t rfl rfl rfl) rfl ?_
        refine WL.as rfl rfl ?_
        refine WL.nil ?_
        refine WE.ret ?_
        refine ⟨[_], _, .nil _, ⟨rfl, trivial⟩, ?_⟩
        refine ⟨?_, H.toOut0⟩
        (show Value.bool _ = Value.bool true; simp_all)

end Go.Sp.Tryz

