/- Walks of functions, printed by a program of this session (gen.py) from notes on each function. -/
import Derived.Test.YthdcihakjomagaaDoorG8
set_option maxRecDepth 100000
set_option maxHeartbeats 1000000
set_option linter.unusedVariables false
set_option linter.unusedSimpArgs false
namespace Go.Sp.Tryd
open Go.Proofs Go.RowKit Go.Sp
theorem Tree_c {X : Nat → Prop} {w : World} {i : Int} {s : Value} {l : List En} (hX : ∀ b, X b → b < w.heap.size) (hf0 : Rob X (SlE s l) w) (hf1 : Rob X (Vals l) w) (hf2 : Rob X (Rounds) w) (hkl : KL l) (hlen : l.length ≤ 9223372036854775807) (hvl : ∀ e ∈ l, e.v.length ≤ 9223372036854775807) :
    Ret Tryd.prog 10 [.int .i64 i, s].toArray w fun v w' => ∃ (b : Bool) (s' : Value) (T : Tr) (m' : List En), v = .tuple [s', T.ptr, .bool b].toArray ∧ T.er = grow 0 m' ∧ (b = true → m' = ofM l ∧ (0 ≤ i ∧ i ≤ 256) ∧ l.length ≤ 12 ∧ ∀ e ∈ l, e.v.length ≤ 200) ∧ Out Nil w w' ∧ Rob X (SlE s' m') w' ∧ Rob X (TrA i T) w' := by
  refine Ret.of_body (N := 27) Tryd.func10 rfl rfl (by simp) ?_
  have H := St.begin hX
  replace H := H.add (rob0 hf2)
  replace H := H.add (rob0 hf1)
  replace H := H.add (rob0 hf0)
  refine WE.seq_reg ?_
  refine WL.as rfl rfl ?_
  refine WL.as rfl rfl ?_
  refine WL.as rfl rfl ?_
  refine WL.nil ?_
  refine WE.seq ?_
  refine WE.seq_reg ?_
  refine WL.mv rfl rfl ?_
  refine WL.call TrydT.fb30 rfl (Right_c (i := i) H.yylt  ) ?_
  rintro _ w1 ⟨rfl, hO⟩
  replace H := H.out hO
  refine WL.pv (PV.not rfl rfl) rfl ?_
  refine WL.mv rfl rfl ?_
  refine WL.split (t := 12) rfl (fun hg12 => ?_) (fun hg12 => ?_)
  · skip
    refine WL.known (t := 11) (c := true) rfl hg12 ?_
    try simp only [decide_eq_true_eq, decide_eq_false_iff_not, ne_eq, Decidable.not_not, Bool.not_eq_true', Bool.not_eq_false', Bool.and_eq_true, Bool.or_eq_true, Bool.not_not, Bool.and_eq_false_iff, Bool.or_eq_false_iff, Int.not_lt, Int.not_le] at hg12
    refine WL.off rfl ?_
    refine WL.off rfl ?_
    refine WL.off rfl ?_
    refine WL.pv (PV.pick_t rfl rfl rfl) rfl ?_
    refine WL.nil ?_
    refine WE.cond_t rfl ?_
    refine WE.seq_reg ?_
    refine WL.as rfl rfl ?_
    refine WL.as rfl rfl ?_
    refine WL.as rfl rfl ?_
    refine WL.nil ?_
    refine WE.ret ?_
    refine ⟨[_, _, _], _, .nil _, ⟨rfl, rfl, rfl, trivial⟩, ?_⟩
    exact ⟨false, .slice none 0 0, .nil, [], rfl, (grow_nil 0).symm, (fun h => by cases h), H.toOut0, fun _ _ => SlC.nil _ 33, fun _ _ => trivial⟩
  · skip
    refine WL.known (t := 11) (c := false) rfl hg12 ?_
    try simp only [decide_eq_true_eq, decide_eq_false_iff_not, ne_eq, Decidable.not_not, Bool.not_eq_true', Bool.not_eq_false', Bool.and_eq_true, Bool.or_eq_true, Bool.not_not, Bool.and_eq_false_iff, Bool.or_eq_false_iff, Int.not_lt, Int.not_le] at hg12
    have hi : 0 ≤ i ∧ i ≤ 256 := by exact hg12
    refine WL.mv rfl rfl ?_
    refine WL.call TrydT.fb31 rfl (FewB_c (m := l) H.yylt (by exact H.rob 0 rfl) (by exact H.rob 1 rfl) (by assumption) (by assumption) (by assumption)) ?_
    rintro _ w2 ⟨bv14, rfl, hFv14, hO⟩
    replace H := H.out hO
    refine WL.pv (PV.not rfl rfl) rfl ?_
    refine WL.pv (PV.pick_f rfl rfl rfl) rfl ?_
    refine WL.nil ?_
    refine WE.cond rfl (fun hc16 => ?_) (fun hc16 => ?_)
    · skip
      try simp only [decide_eq_true_eq, decide_eq_false_iff_not, ne_eq, Decidable.not_not, Bool.not_eq_true', Bool.not_eq_false', Bool.and_eq_true, Bool.or_eq_true, Bool.not_not, Bool.and_eq_false_iff, Bool.or_eq_false_iff, Int.not_lt, Int.not_le] at hc16
      refine WE.seq_reg ?_
      refine WL.as rfl rfl ?_
      refine WL.as rfl rfl ?_
      refine WL.as rfl rfl ?_
      refine WL.nil ?_
      refine WE.ret ?_
      refine ⟨[_, _, _], _, .nil _, ⟨rfl, rfl, rfl, trivial⟩, ?_⟩
      exact ⟨false, .slice none 0 0, .nil, [], rfl, (grow_nil 0).symm, (fun h => by cases h), H.toOut0, fun _ _ => SlC.nil _ 33, fun _ _ => trivial⟩
    · skip
      try simp only [decide_eq_true_eq, decide_eq_false_iff_not, ne_eq, Decidable.not_not, Bool.not_eq_true', Bool.not_eq_false', Bool.and_eq_true, Bool.or_eq_true, Bool.not_not, Bool.and_eq_false_iff, Bool.or_eq_false_iff, Int.not_lt, Int.not_le] at hc16
      have hfew := hFv14 (by exact hc16)
      refine WE.skip ?_
      refine WE.seq_reg ?_
      refine WL.mv rfl rfl ?_
      refine WL.call TrydT.fb20 rfl (Hash_c (i := i) H.yylt  (by assumption)) ?_
      rintro _ w3 ⟨bhv18, bcv18, rfl, hO, hge, hB, hR⟩
      replace H := H.pushR hO (Ent.blk bcv18 118 [.int .i64 0]) hB (fun c hc => by cases hc; exact hge) hR
      refine WL.as rfl rfl ?_
      refine WL.nil ?_
      refine WE.seq ?_
      refine WE.seq_reg ?_
      refine WL.mv rfl rfl ?_
      refine WL.pv (PV.eqlPn rfl TrydT.pt51 rfl rfl) rfl ?_
      refine WL.nil ?_
      refine WE.cond_f' rfl rfl ?_
      refine WE.skip ?_
      refine WE.seq_reg ?_
      refine WL.mv rfl rfl ?_
      refine WL.call TrydT.fb32 rfl (Of_c (l := l) H.yylt (by exact H.rob 1 rfl) (by exact H.rob 2 rfl) hkl (by omega)) ?_
      rintro v22 w4 ⟨hO, hR⟩
      replace H := (H.out hO).add hR
      have hok := ofM_ok l hkl
      have hpm := ofM_pm l hkl
      have hml : (ofM l).length ≤ 12 := Nat.le_trans hok.2.2.1 hfew.1
      have hvs := ofM_short hkl hfew.2
      have hsv : ShortV (ofM l) := fun e he => Nat.le_trans (hvs e he) (by decide)
      replace H := H.add (by exact (H.rob 3 rfl : Rob _ (Vals l) _).imp fun _ h => h.sub hok.2.2.2)
      refine WL.as rfl rfl ?_
      refine WL.nil ?_
      refine WE.seq_reg ?_
      refine WL.mv rfl rfl ?_
      refine WL.mv rfl rfl ?_
      refine WL.mv rfl rfl ?_
      refine WL.call TrydT.fb33 rfl (GrowT_c (m := ofM l) (d := 0) (bits := i) H.yylt (H.l 0 rfl) (by exact H.robL 0 rfl 2 rfl) (by exact H.robL 0 rfl 1 rfl) (by exact H.robL 0 rfl 0 rfl) (by exact H.robL 0 rfl 5 rfl) hpm (by omega) hsv hi) ?_
      rintro _ w5 ⟨Tv26, mv26, rfl, hTv26, hO, hB, hR⟩
      replace H := H.calledR 0 rfl hO hB hR
      refine WL.as rfl rfl ?_
      refine WL.as rfl rfl ?_
      refine WL.as rfl rfl ?_
      refine WL.nil ?_
      refine WE.ret ?_
      refine ⟨[_, _, _], _, .nil _, ⟨rfl, rfl, rfl, trivial⟩, ?_⟩
      exact ⟨true, _, Tv26, _, rfl, hTv26, fun _ => ⟨rfl, hi, hfew⟩, H.toOut0, H.give (H.rob 2 rfl), H.give (H.rob 0 rfl)⟩

end Go.Sp.Tryd

set_option maxRecDepth 100000
set_option maxHeartbeats 1000000
set_option linter.unusedVariables false
set_option linter.unusedSimpArgs false
namespace Go.Sp.Tryd
open Go.Proofs Go.RowKit Go.Sp

theorem grow08 (s1 s2 : Value) : grow 0 [En.mk (List.replicate 32 0) s1 [1], En.mk ((List.replicate 32 0).set 0 128) s2 [2]] = .inner (.leaf (List.replicate 32 0) [1]) (.leaf ((List.replicate 32 0).set 0 128) [2]) := by kernel_rfl
theorem pm08 (s1 s2 : Value) : Pm 0 [En.mk (List.replicate 32 0) s1 [1], En.mk ((List.replicate 32 0).set 0 128) s2 [2]] :=
  Pm.zero (fun e he => by simp at he; rcases he with rfl | rfl <;> rfl) (by simp [List.pairwise_cons]; decide)
theorem pm08a (s1 : Value) : Pm 0 [En.mk (List.replicate 32 0) s1 [1]] :=
  Pm.zero (fun e he => by simp at he; subst he; rfl) (by simp)
def T08 (a a1 a2 : Nat) (s1 s2 : Value) : Tr := .inner a (.leaf a1 (List.replicate 32 0) [1] s1) (.leaf a2 ((List.replicate 32 0).set 0 128) [2] s2)
theorem fit08 (a a1 a2 : Nat) (s1 s2 : Value) : (T08 a a1 a2 s1 s2).er.fit 0 := ⟨by decide, trivial, trivial⟩
theorem dp08 (a a1 a2 : Nat) (s1 s2 : Value) : (T08 a a1 a2 s1 s2).dp (List.replicate 32 0) 0 = 1 := by kernel_rfl
theorem dp08b (a a1 a2 : Nat) (s1 s2 : Value) : (T08 a a1 a2 s1 s2).dp ((List.replicate 32 0).set 0 128) 0 = 1 := by kernel_rfl
theorem fin08 (a a1 a2 : Nat) (s1 s2 : Value) : (T08 a a1 a2 s1 s2).fin (List.replicate 32 0) = .leaf a1 (List.replicate 32 0) [1] s1 := by kernel_rfl
theorem fin08b (a a1 a2 : Nat) (s1 s2 : Value) : (T08 a a1 a2 s1 s2).fin ((List.replicate 32 0).set 0 128) = .leaf a2 ((List.replicate 32 0).set 0 128) [2] s2 := by kernel_rfl
theorem get08 (a a1 a2 : Nat) (s1 s2 : Value) : (T08 a a1 a2 s1 s2).getV ((List.replicate 32 0).set 0 128) = some [2] := by unfold Tr.getV; rw [fin08b]; rfl
theorem get08n (a a1 a2 : Nat) (s1 s2 : Value) : (T08 a a1 a2 s1 s2).getV ((List.replicate 32 0).set 0 129) = none := by
  have h : (T08 a a1 a2 s1 s2).fin ((List.replicate 32 0).set 0 129) = .leaf a2 ((List.replicate 32 0).set 0 128) [2] s2 := by kernel_rfl
  unfold Tr.getV; rw [h]
  exact if_neg (by decide)
theorem und08 (a a1 a2 : Nat) (s1 s2 : Value) : (T08 a a1 a2 s1 s2).und ((List.replicate 32 0).set 0 128) 256 = .leaf a2 ((List.replicate 32 0).set 0 128) [2] s2 := by
  unfold Tr.und
  rw [dp08b, if_neg (by decide), fin08b, if_neg]
  rintro ⟨_, h⟩
  have := (comN_full (a := ((List.replicate 32 0).set 0 128)) (b := ((List.replicate 32 0).set 0 128)) (by decide) (by decide)).2 rfl
  exact absurd (show comN ((List.replicate 32 0).set 0 128) ((List.replicate 32 0).set 0 128) < 256 from h) (by omega)
theorem T08_of {T : Tr} {s1 s2 : Value} (h : T.er = grow 0 [En.mk (List.replicate 32 0) s1 [1], En.mk ((List.replicate 32 0).set 0 128) s2 [2]]) : ∃ a a1 a2 t1 t2, T = T08 a a1 a2 t1 t2 := by
  rw [grow08] at h
  obtain ⟨a, l, r, rfl, h1, h2⟩ := Tr.inner_of h
  obtain ⟨a1, t1, rfl⟩ := Tr.leaf_of h1
  obtain ⟨a2, t2, rfl⟩ := Tr.leaf_of h2
  exact ⟨a, a1, a2, t1, t2, rfl⟩

end Go.Sp.Tryd

set_option maxRecDepth 100000
set_option maxHeartbeats 1000000
set_option linter.unusedVariables false
set_option linter.unusedSimpArgs false
namespace Go.Sp.Tryd
open Go.Proofs Go.RowKit Go.Sp

theorem refGetNo_c {X : Nat → Prop} {w : World} {s : Value} {m : List En} {k : List UInt8} (hX : ∀ b, X b → b < w.heap.size) (hf0 : Rob X (SlE s m) w) (hkl : KL m) (hlen : m.length ≤ 1000000) (hk : k.length = 32) (hg : getM m k = none) :
    Ret Tryd.prog 24 [s, .agg (kc k).toArray].toArray w fun v w' => v = .tuple [.slice none 0 0, .bool false].toArray ∧ Out Nil w w' := by
  have := refGet_c hX hf0 hkl hlen hk
  unfold getR at this
  rw [hg] at this
  exact this
theorem refGetYes_c {X : Nat → Prop} {w : World} {s : Value} {m : List En} {k : List UInt8} {e : En} (hX : ∀ b, X b → b < w.heap.size) (hf0 : Rob X (SlE s m) w) (hkl : KL m) (hlen : m.length ≤ 1000000) (hk : k.length = 32) (hg : getM m k = some e) :
    Ret Tryd.prog 24 [s, .agg (kc k).toArray].toArray w fun v w' => v = .tuple [e.s, .bool true].toArray ∧ Out Nil w w' := by
  have := refGet_c hX hf0 hkl hlen hk
  unfold getR at this
  rw [hg] at this
  exact this
theorem getM_mem {m : List En} {k : List UInt8} {e : En} (h : getM m k = some e) : e ∈ m ∧ e.k = k := ⟨List.mem_of_find?_eq_some h, by have := List.find?_some h; simpa using this⟩
theorem fin_er {T : Tr} {m : List En} {k : List UInt8} (hT : T.er = grow 0 m) (hp : Pm 0 m) : (T.fin k).er = grow (T.dp k 0) (atM k 0 m (T.dp k 0)) ∧ Pm (T.dp k 0) (atM k 0 m (T.dp k 0)) := at_er (k := k) hT hp _ (Nat.le_refl _)
theorem SlE.of1 {w : World} {b : Nat} {t : TypeId} {e : En} (h : Blk w b t (enC e)) (hk : e.k.length = 32) : SlE (.slice (some ⟨b, 0, none⟩) 1 1) [e] w := SlC.of_blk (n := 1) (e := t) (by rw [List.flatMap_cons, List.flatMap_nil, List.append_nil]; exact h) (by simp [enC_length hk])
theorem beside_er {T : Tr} {m : List En} {k : List UInt8} (hT : T.er = grow 0 m) (hp : Pm 0 m) {i : Nat} (hi : i < T.dp k 0) :
    ((T.atN k 0 i).beside k i).er = grow (i + 1) (partM (atM k 0 m i) i (1 - bitN k i)) ∧ Pm (i + 1) (partM (atM k 0 m i) i (1 - bitN k i)) := by
  have h := at_er (k := k) hT hp i (by omega)
  have h2 := grow_step k h.1 h.2 (Tr.atN_in i 0 T hi)
  exact ⟨h2.2.2.2, h.2.part h2.1 _⟩

end Go.Sp.Tryd

