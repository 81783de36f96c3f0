/- Walks of functions, printed by a program of this session (gen.py) from notes on each function. -/
import Derived.Test.YthdcihakjomagaaDoorGD
set_option maxRecDepth 100000
set_option maxHeartbeats 1000000
set_option linter.unusedVariables false
set_option linter.unusedSimpArgs false
namespace Go.Sp.Tryd
open Go.Proofs Go.RowKit Go.Sp

def kv (e : En) : List UInt8 × List UInt8 := (e.k, e.v)
theorem part_kv {m m' : List En} {d b : Nat} (h : m.map kv = m'.map kv) : (partM m d b).map kv = (partM m' d b).map kv := by
  have e : ∀ l : List En, (partM l d b).map kv = (l.map kv).filter fun p => bitN p.1 d == b := fun l => by
    unfold partM
    rw [List.filter_map]; rfl
  rw [e, e, h]
theorem growS_kv : ∀ (n d : Nat) (m m' : List En), m.map kv = m'.map kv → growS n d m = growS n d m' := by
  intro n
  induction n with
  | zero =>
    intro d m m' h
    match m, m', h with
    | [], [], _ => rfl
    | [a], [b], h => simp [kv] at h; show Sh.leaf _ _ = Sh.leaf _ _; rw [h.1, h.2]
    | [_], _ :: _ :: _, h => simp at h
    | _ :: _ :: _, [_], h => simp at h
    | a :: x :: m, b :: y :: m', h => simp [kv] at h; show Sh.leaf _ _ = Sh.leaf _ _; rw [h.1.1, h.1.2]
  | succ n ih =>
    intro d m m' h
    match m, m', h with
    | [], [], _ => rfl
    | [a], [b], h => simp [kv] at h; show Sh.leaf _ _ = Sh.leaf _ _; rw [h.1, h.2]
    | [_], _ :: _ :: _, h => simp at h
    | _ :: _ :: _, [_], h => simp at h
    | a :: x :: m, b :: y :: m', h =>
      show Sh.inner _ _ = Sh.inner _ _
      rw [ih _ _ _ (part_kv h), ih _ _ _ (part_kv h)]
theorem grow_kv {d : Nat} {m m' : List En} (h : m.map kv = m'.map kv) : grow d m = grow d m' := growS_kv _ d m m' h
theorem ins_kv {e e' : En} (he : kv e = kv e') : ∀ l : List En, (ins e l).map kv = (ins e' l).map kv
  | [] => by simp [ins, he]
  | x :: l => by
    have hk : e.k = e'.k := congrArg Prod.fst he
    unfold ins
    rw [hk]
    split
    · simp [he]
    · simp [ins_kv he l]
theorem putM_kv {m : List En} {e e' : En} (he : kv e = kv e') : (putM m e).map kv = (putM m e').map kv := by
  have hk : e.k = e'.k := congrArg Prod.fst he
  unfold putM
  rw [hk]
  exact ins_kv he _
theorem put_s (m : List En) (k v : List UInt8) (s s' : Value) (d : Nat) : grow d (putM m ⟨k, s, v⟩) = grow d (putM m ⟨k, s', v⟩) := grow_kv (putM_kv rfl)
theorem Vals.put {m : List En} {e : En} {w : World} (h : Vals m w) (he : SlB e.s e.v w) : Vals (putM m e) w := fun x hx => by
  rcases mem_putM.1 hx with rfl | hx
  · exact he
  · exact h x hx.1
theorem ShortV.put {m : List En} {e : En} (h : ShortV m) (he : e.v.length ≤ 1000000) : ShortV (putM m e) := fun x hx => by
  rcases mem_putM.1 hx with rfl | hx
  · exact he
  · exact h x hx.1
theorem grow09 (s1 s2 : Value) : grow 0 (putM (putM [] (En.mk (List.replicate 32 0) s1 [1])) (En.mk ((List.replicate 32 0).set 0 64) s2 [2])) = .inner (.inner (.leaf (List.replicate 32 0) [1]) (.leaf ((List.replicate 32 0).set 0 64) [2])) .nil := by kernel_rfl
def T09 (a b a1 a2 : Nat) (s1 s2 : Value) : Tr := .inner a (.inner b (.leaf a1 (List.replicate 32 0) [1] s1) (.leaf a2 ((List.replicate 32 0).set 0 64) [2] s2)) .nil
theorem T09_of {T : Tr} {s1 s2 : Value} (h : T.er = grow 0 (putM (putM [] (En.mk (List.replicate 32 0) s1 [1])) (En.mk ((List.replicate 32 0).set 0 64) s2 [2]))) : ∃ a b a1 a2 t1 t2, T = T09 a b a1 a2 t1 t2 := by
  rw [grow09] at h
  obtain ⟨a, l, r, rfl, h1, h2⟩ := Tr.inner_of h
  obtain ⟨b, l2, r2, rfl, h3, h4⟩ := Tr.inner_of h1
  obtain ⟨a1, t1, rfl⟩ := Tr.leaf_of h3
  obtain ⟨a2, t2, rfl⟩ := Tr.leaf_of h4
  obtain rfl := Tr.nil_er h2
  exact ⟨a, b, a1, a2, t1, t2, rfl⟩
theorem fit09 (a b a1 a2 : Nat) (s1 s2 : Value) : (T09 a b a1 a2 s1 s2).er.fit 0 := ⟨by decide, ⟨by decide, trivial, trivial⟩, trivial⟩
theorem get09 (a b a1 a2 : Nat) (s1 s2 : Value) : (T09 a b a1 a2 s1 s2).getV ((List.replicate 32 0).set 0 64) = some [2] := by
  have h : (T09 a b a1 a2 s1 s2).fin ((List.replicate 32 0).set 0 64) = .leaf a2 ((List.replicate 32 0).set 0 64) [2] s2 := by kernel_rfl
  unfold Tr.getV; rw [h]; rfl

end Go.Sp.Tryd

set_option maxRecDepth 100000
set_option maxHeartbeats 1000000
set_option linter.unusedVariables false
set_option linter.unusedSimpArgs false
namespace Go.Sp.Tryd
open Go.Proofs Go.RowKit Go.Sp

theorem Srt.ext : ∀ {a b : List En}, Srt a → Srt b → (∀ e, e ∈ a ↔ e ∈ b) → a = b
  | [], [], _, _, _ => rfl
  | [], y :: b, _, _, h => by have := (h y).2 (by simp); cases this
  | x :: a, [], _, _, h => by have := (h x).1 (by simp); cases this
  | x :: a, y :: b, ha, hb, h => by
    have ha1 := List.pairwise_cons.1 ha
    have hb1 := List.pairwise_cons.1 hb
    have hxy : x = y := by
      rcases List.mem_cons.1 ((h x).1 (by simp)) with h1 | h1
      · exact h1
      · rcases List.mem_cons.1 ((h y).2 (by simp)) with h2 | h2
        · exact h2.symm
        · have := hb1.1 x h1; have := ha1.1 y h2; omega
    subst hxy
    congr 1
    refine Srt.ext ha1.2 hb1.2 fun e => ⟨fun he => ?_, fun he => ?_⟩
    · rcases List.mem_cons.1 ((h e).1 (List.mem_cons_of_mem _ he)) with h1 | h1
      · subst h1; have := ha1.1 e he; omega
      · exact h1
    · rcases List.mem_cons.1 ((h e).2 (List.mem_cons_of_mem _ he)) with h1 | h1
      · subst h1; have := hb1.1 e he; omega
      · exact h1
theorem putM_comm {m : List En} {a b : En} (hs : Srt m) (hk : KL m) (ha : a.k.length = 32) (hb : b.k.length = 32) (hne : a.k ≠ b.k) : putM (putM m a) b = putM (putM m b) a := by
  refine Srt.ext (putM_srt (putM_srt hs hk ha) (putM_kl hk ha) hb) (putM_srt (putM_srt hs hk hb) (putM_kl hk hb) ha) fun e => ?_
  rw [mem_putM, mem_putM, mem_putM, mem_putM]
  constructor
  · rintro (rfl | ⟨rfl | ⟨h1, h2⟩, h3⟩)
    · exact .inr ⟨.inl rfl, fun h => hne h.symm⟩
    · exact .inl rfl
    · exact .inr ⟨.inr ⟨h1, h3⟩, h2⟩
  · rintro (rfl | ⟨rfl | ⟨h1, h2⟩, h3⟩)
    · exact .inr ⟨.inl rfl, hne⟩
    · exact .inl rfl
    · exact .inr ⟨.inr ⟨h1, h3⟩, h2⟩
theorem putM_idem {m : List En} {a : En} (hs : Srt m) (hk : KL m) (ha : a.k.length = 32) : putM (putM m a) a = putM m a := by
  refine Srt.ext (putM_srt (putM_srt hs hk ha) (putM_kl hk ha) ha) (putM_srt hs hk ha) fun e => ?_
  rw [mem_putM, mem_putM]
  constructor
  · rintro (rfl | ⟨h, _⟩)
    · exact .inl rfl
    · exact h
  · rintro (rfl | ⟨h1, h2⟩)
    · exact .inl rfl
    · exact .inr ⟨.inr ⟨h1, h2⟩, h2⟩
theorem Srt.at {m : List En} {k : List UInt8} {d : Nat} (h : Srt m) : ∀ i, Srt (atM k d m i)
  | 0 => h
  | i + 1 => (Srt.at h i).filter _
theorem atM_put {m : List En} {e : En} {d : Nat} (hs : Srt m) : ∀ i, atM e.k d (putM m e) i = putM (atM e.k d m i) e
  | 0 => rfl
  | i + 1 => by
    show partM (atM e.k d (putM m e) i) _ _ = putM (partM _ _ _) e
    rw [atM_put hs i]
    exact putM_part (hs.at i)
theorem dp_put {T T' : Tr} {m : List En} {e : En} (hT : T.er = grow 0 m) (hp : Pm 0 m) (hs : Srt m) (he : e.k.length = 32) (hT' : T'.er = grow 0 (putM m e)) (hp' : Pm 0 (putM m e)) : T.dp e.k 0 ≤ T'.dp e.k 0 := by
  rcases Nat.lt_or_ge (T'.dp e.k 0) (T.dp e.k 0) with h | h
  · exfalso
    have h1 := at_end (k := e.k) hT' hp'
    have h2 := (at_len hT hp h).1
    rw [atM_put hs] at h1
    have h3 := putM_ge (atM e.k 0 m (T'.dp e.k 0)) e (at_er hT hp _ (Nat.le_of_lt h)).2.dis
    omega
  · exact h
theorem sib_put {T T' : Tr} {m : List En} {e : En} (hT : T.er = grow 0 m) (hp : Pm 0 m) (hs : Srt m) (he : e.k.length = 32) (hT' : T'.er = grow 0 (putM m e)) (hp' : Pm 0 (putM m e)) {i : Nat} (hi : i < T.dp e.k 0) :
    ((T'.atN e.k 0 i).beside e.k i).er = ((T.atN e.k 0 i).beside e.k i).er := by
  have h1 := (beside_er hT hp hi).1
  have h2 := (beside_er hT' hp' (Nat.lt_of_lt_of_le hi (dp_put hT hp hs he hT' hp'))).1
  have hb := bitN_lt e.k i
  rw [h1, h2, atM_put hs i, putM_other (hs.at i) (by omega)]

end Go.Sp.Tryd

set_option maxRecDepth 100000
set_option maxHeartbeats 1000000
set_option linter.unusedVariables false
set_option linter.unusedSimpArgs false
namespace Go.Sp.Tryd
open Go.Proofs Go.RowKit Go.Sp
theorem rmdefT_d {X : Nat → Prop} {w : World} {b9 b5 b8 : Nat} {N R : Value} (hX : ∀ b, X b → b < w.heap.size) (ho0 : Blk w b8 23 ([R])) (hf0 : Rob (fun c_ => X c_ ∨ c_ = b8) (fun w => RdA w ⟨b9, 0, none⟩ [.bool true]) w) (hf1 : Rob (fun c_ => X c_ ∨ c_ = b8) (fun w => RdA w ⟨b5, 0, none⟩ [N]) w) :
    RetD Tryd.prog 82 [.pointer (some ⟨b9, 0, none⟩), .pointer (some ⟨b5, 0, none⟩), .pointer (some ⟨b8, 0, none⟩)].toArray w fun w' => Out (· = b8) w w' ∧ Blk w' b8 23 [R] := by
  refine RetD.of_body (N := 6) Tryd.func82 rfl rfl (by simp) ?_
  have H := St.begin1 (b := b8) (t := 23) (l := [R]) hX ho0
  replace H := H.add (rob1 hf1)
  replace H := H.add (rob1 hf0)
  refine WE.seq_reg ?_
  refine WL.load1 rfl TrydT.ag4 rfl rfl (H.p 0 rfl) ?_
  refine WL.pv (PV.not rfl rfl) rfl ?_
  refine WL.nil ?_
  refine WE.cond_f' rfl rfl ?_
  refine WE.skip ?_
  refine ⟨rfl, ⟨[], trivial⟩, ?_⟩
  exact ⟨H.toOut1, H.o 0 rfl⟩

theorem rmdefF_d {X : Nat → Prop} {w : World} {b9 b5 b8 : Nat} {N R : Value} (hX : ∀ b, X b → b < w.heap.size) (ho0 : Blk w b8 23 ([R])) (hf0 : Rob (fun c_ => X c_ ∨ c_ = b8) (fun w => RdA w ⟨b9, 0, none⟩ [.bool false]) w) (hf1 : Rob (fun c_ => X c_ ∨ c_ = b8) (fun w => RdA w ⟨b5, 0, none⟩ [N]) w) (hN : N.oneCell' = true) :
    RetD Tryd.prog 82 [.pointer (some ⟨b9, 0, none⟩), .pointer (some ⟨b5, 0, none⟩), .pointer (some ⟨b8, 0, none⟩)].toArray w fun w' => Out (· = b8) w w' ∧ Blk w' b8 23 [N] := by
  refine RetD.of_body (N := 6) Tryd.func82 rfl rfl (by simp) ?_
  have H := St.begin1 (b := b8) (t := 23) (l := [R]) hX ho0
  replace H := H.add (rob1 hf1)
  replace H := H.add (rob1 hf0)
  refine WE.seq_reg ?_
  refine WL.load1 rfl TrydT.ag4 rfl rfl (H.p 0 rfl) ?_
  refine WL.pv (PV.not rfl rfl) rfl ?_
  refine WL.nil ?_
  refine WE.cond_t' rfl rfl ?_
  refine WE.reg ?_
  refine WL.load1 rfl TrydT.ag23 rfl rfl (H.p 1 rfl) ?_
  refine WL.storeO H 0 rfl rfl rfl (new := [N]) (cells_one hN) (by exact TrydT.sz23) (one_sing hN) (Laid.at (Laid.all (by (simp only [kc_length, kw_length, List.length_replicate, List.length_append, List.length_cons, List.length_nil, cutI_length, shaOf_length, dig_length, valD_length, rootM_length]; done))) (by rfl)) rfl ?_
  intro w1 H
  refine WL.nil ?_
  refine ⟨rfl, ⟨[], trivial⟩, ?_⟩
  exact ⟨H.toOut1, H.o 0 rfl⟩


def hasM (m : List En) (k : List UInt8) : Bool := (getM m k).isSome
theorem hasM_part {m : List En} {k : List UInt8} {d : Nat} : hasM (partM m d (bitN k d)) k = hasM m k := by unfold hasM; rw [getM_part]
theorem rmM_not {m : List En} {k : List UInt8} (h : hasM m k = false) : rmM m k = m := by
  unfold rmM
  rw [List.filter_eq_self]
  intro e he
  simp
  intro hk
  unfold hasM getM at h
  have : (m.find? fun e => e.k == k) = none := by simpa using h
  rw [List.find?_eq_none] at this
  exact this e he (by simpa using hk)

theorem RmNil_c {X : Nat → Prop} {w : World} {bh bc : Nat} {bits c0 : Int} {M : List En} {k : List UInt8} {d : Nat}  (hX : ∀ b, X b → b < w.heap.size) (ho0 : Blk w bc 118 ([.int .i64 c0])) (hf0 : Rob (fun c_ => X c_ ∨ c_ = bc) (HAt bh bc bits) w) (hf1 : Rob (fun c_ => X c_ ∨ c_ = bc) (Rounds) w) (hbits : 0 ≤ bits ∧ bits ≤ 256) (hk : k.length = 32) (hT : Tr.nil.er = grow d M) (hpm : Pm d M) :
    Ret Tryd.prog 66 [.pointer (some ⟨bh, 0, none⟩), Tr.nil.ptr, .agg (kc k).toArray, .int .i64 (d : Int)].toArray w fun v w' => ∃ (T : Tr) (c : Int) (f : Bool), v = .tuple [T.ptr, .bool f].toArray ∧ T.er = grow d (rmM M k) ∧ f = hasM M k ∧ (f = false → T = Tr.nil ∧ c = c0) ∧ Out (· = bc) w w' ∧ Blk w' bc 118 [.int .i64 c] ∧ Rob (fun c => X c ∨ c = bc) (TrA bits T) w' := by
  refine Ret.of_bodyF (N := 57) Tryd.func66 rfl rfl (by simp) ?_
  have H := St.begin1 (b := bc) (t := 118) (l := [.int .i64 c0]) hX ho0
  replace H := H.add (rob1 hf1)
  replace H := H.add (rob1 hf0)
  obtain rfl : M = [] := (by have h_ := hpm.cnt; rw [← hT] at h_; exact List.eq_nil_of_length_eq_zero h_.symm)
  refine WE.seq_reg ?_
  refine WL.box (l := [Tr.nil.ptr]) H rfl (rfl) rfl ?_
  intro b5 w1 H
  refine WL.box (l := kc k) H rfl (by rfl) rfl ?_
  intro b6 w2 H
  refine WL.alloc H rfl TrydT.ze23 rfl ?_
  intro b8 w3 H
  refine WL.alloc H rfl TrydT.ze4 rfl ?_
  intro b9 w4 H
  refine WL.nil ?_
  refine WE.seq_reg ?_
  refine WL.pv (PV.makeFunc rfl) rfl ?_
  refine WL.defer rfl rfl rfl rfl rfl ?_
  refine WL.nil ?_
  refine WE.seq ?_
  refine WE.seq_reg ?_
  refine WL.load1 rfl TrydT.ag23 rfl rfl (by exact Blk.segAt (H.l 3 rfl) (Seg.all _) (by rfl)) ?_
  refine WL.call TrydT.fb39 rfl (NKind_c (T := .nil) (bits := bits) H.yylt (by exact fun _ _ => trivial) ) ?_
  rintro _ w5 ⟨rfl, hO⟩
  replace H := H.out hO
  refine WL.nil ?_
  refine WE.block ?_
  refine WE.seq_reg ?_
  refine WL.pv (PV.eql rfl rfl rfl) rfl ?_
  refine WL.as rfl rfl ?_
  refine WL.nil ?_
  refine WE.cond_f' rfl rfl ?_
  refine WE.seq_reg ?_
  refine WL.pv (PV.eql rfl rfl rfl) rfl ?_
  refine WL.as rfl rfl ?_
  refine WL.nil ?_
  refine WE.cond_f' rfl rfl ?_
  refine WE.skip ?_
  refine WE.seq_draw (.take 0 (.take 1 (.pick1 2 (.pick1 3 .done)))) TrydT.mixed (by kernel_rfl) ?_
  replace H := H.out (Out.drew _)
  refine WP.take_read rfl rfl (RV.loadOne rfl TrydT.ag23 rfl) (by exact Blk.segAt (H.l 1 rfl) (Seg.all _) (by rfl)) ?_
  refine WP.take_read rfl rfl (RV.loadOne rfl TrydT.ag4 rfl) (by exact Blk.segAt (H.l 0 rfl) (Seg.all _) (by rfl)) ?_
  refine WP.pick1 rfl ?_
  refine WL.storeL H 1 rfl rfl rfl (new := _) rfl (by exact TrydT.sz23) (by exact one_lit _ rfl) (Laid.at (Laid.all (by (simp only [kc_length, kw_length, List.length_replicate, List.length_append, List.length_cons, List.length_nil, cutI_length, shaOf_length, dig_length, valD_length, rootM_length]; done))) (by rfl)) rfl ?_
  intro w6 H
  refine WL.nil ⟨(List.forall_mem_cons.2 ⟨(fun _ _ => (by exact Blk.segAt (H.l 0 rfl) (Seg.all _) (by rfl))), (List.forall_mem_cons.2 ⟨(by exact (fun h => absurd (show waits _ 2 0 = false from h) (by decide +kernel))), (fun _ h => by cases h)⟩)⟩), ?_⟩
  refine WP.pick1 rfl ?_
  refine WL.storeL H 0 rfl rfl rfl (new := _) rfl (by exact TrydT.sz4) (by exact one_lit _ rfl) (Laid.at (Laid.all (by (simp only [kc_length, kw_length, List.length_replicate, List.length_append, List.length_cons, List.length_nil, cutI_length, shaOf_length, dig_length, valD_length, rootM_length]; done))) (by rfl)) rfl ?_
  intro w7 H
  refine WL.nil ⟨(List.forall_mem_cons.2 ⟨(by exact (fun h => absurd (show waits _ 3 1 = false from h) (by decide +kernel))), (List.forall_mem_cons.2 ⟨(by exact (fun h => absurd (show waits _ 3 0 = false from h) (by decide +kernel))), (fun _ h => by cases h)⟩)⟩), ?_⟩
  refine WP.done ?_
  refine WE.ret ?_
  refine Or.inr ⟨_, _, _, _, rfl, TrydT.fb82, (by exact rmdefF_d (X := Nil) (nilX _) (H.l 1 rfl) (((H.robLL 1 0 rfl rfl (by decide)).imp fun _ h => Blk.rd h).wk2) (((H.robLL 1 3 rfl rfl (by decide)).imp fun _ h => Blk.rd h).wk2) rfl), ?_⟩
  rintro w8 ⟨hO, hB⟩
  replace H := H.called 1 rfl hO hB
  refine ⟨[_, _], ⟨⟨_, rfl, run_loadVar_one TrydT.ag23 (by exact Blk.segAt (H.l 1 rfl) (Seg.all _) rfl)⟩, ⟨_, rfl, run_loadVar_one TrydT.ag4 (by exact Blk.segAt (H.l 0 rfl) (Seg.all _) rfl)⟩, trivial⟩, ?_⟩
  refine ⟨.nil, c0, false, rfl, ?_, ?_, ?_, H.toOut1, H.o 0 rfl, ?_⟩
  · exact (grow_nil d).symm
  · rfl
  · exact fun _ => ⟨rfl, rfl⟩
  · exact fun _ _ => trivial

theorem RmLeafEq_c {X : Nat → Prop} {w : World} {bh bc : Nat} {bits c0 : Int} {M : List En} {k : List UInt8} {d : Nat} {a : Nat} {q u : List UInt8} {s : Value} (hX : ∀ b, X b → b < w.heap.size) (ho0 : Blk w bc 118 ([.int .i64 c0])) (hf0 : Rob (fun c_ => X c_ ∨ c_ = bc) (HAt bh bc bits) w) (hf1 : Rob (fun c_ => X c_ ∨ c_ = bc) (TrA bits (Tr.leaf a q u s)) w) (hf2 : Rob (fun c_ => X c_ ∨ c_ = bc) (Rounds) w) (hbits : 0 ≤ bits ∧ bits ≤ 256) (hk : k.length = 32) (hT : (Tr.leaf a q u s).er = grow d M) (hpm : Pm d M) (hqk : q = k) :
    Ret Tryd.prog 66 [.pointer (some ⟨bh, 0, none⟩), (Tr.leaf a q u s).ptr, .agg (kc k).toArray, .int .i64 (d : Int)].toArray w fun v w' => ∃ (T : Tr) (c : Int) (f : Bool), v = .tuple [T.ptr, .bool f].toArray ∧ T.er = grow d (rmM M k) ∧ f = hasM M k ∧ (f = false → T = (Tr.leaf a q u s) ∧ c = c0) ∧ Out (· = bc) w w' ∧ Blk w' bc 118 [.int .i64 c] ∧ Rob (fun c => X c ∨ c = bc) (TrA bits T) w' := by
  refine Ret.of_bodyF (N := 57) Tryd.func66 rfl rfl (by simp) ?_
  have H := St.begin1 (b := bc) (t := 118) (l := [.int .i64 c0]) hX ho0
  replace H := H.add (rob1 hf2)
  replace H := H.add (rob1 hf1)
  replace H := H.add (rob1 hf0)
  obtain ⟨e, rfl⟩ : ∃ e, M = [e] := by have h_ := hpm.cnt; rw [← hT] at h_; exact List.length_eq_one_iff.1 h_.symm
  rw [grow_one] at hT
  have hqe : q = e.k := by injection hT
  have hvu := valD_length bits u
  have hq : q.length = 32 := by rw [hqe]; exact hpm.kl e (by simp)
  refine WE.seq_reg ?_
  refine WL.box (l := [(Tr.leaf a q u s).ptr]) H rfl (rfl) rfl ?_
  intro b5 w1 H
  refine WL.box (l := kc k) H rfl (by rfl) rfl ?_
  intro b6 w2 H
  refine WL.alloc H rfl TrydT.ze23 rfl ?_
  intro b8 w3 H
  refine WL.alloc H rfl TrydT.ze4 rfl ?_
  intro b9 w4 H
  refine WL.nil ?_
  refine WE.seq_reg ?_
  refine WL.pv (PV.makeFunc rfl) rfl ?_
  refine WL.defer rfl rfl rfl rfl rfl ?_
  refine WL.nil ?_
  refine WE.seq ?_
  refine WE.seq_reg ?_
  refine WL.load1 rfl TrydT.ag23 rfl rfl (by exact Blk.segAt (H.l 3 rfl) (Seg.all _) (by rfl)) ?_
  refine WL.call TrydT.fb39 rfl (NKind_c (T := (Tr.leaf a q u s)) (bits := bits) H.yylt (by exact H.rob 1 rfl) ) ?_
  rintro _ w5 ⟨rfl, hO⟩
  replace H := H.out hO
  refine WL.nil ?_
  refine WE.block ?_
  refine WE.seq_reg ?_
  refine WL.pv (PV.eql rfl rfl rfl) rfl ?_
  refine WL.as rfl rfl ?_
  refine WL.nil ?_
  refine WE.cond_t' rfl rfl ?_
  refine WE.seq_draw (.take 0 (.take 3 (.pick1 1 (.take 2 (.take 4 (.pick1 5 (.pick1 6 .done))))))) TrydT.mixed (by kernel_rfl) ?_
  replace H := H.out (Out.drew _)
  refine WP.take_read rfl rfl (RV.loadOne rfl TrydT.ag23 rfl) (by exact Blk.segAt (H.l 3 rfl) (Seg.all _) (by rfl)) ?_
  refine WP.readA rfl rfl rfl TrydT.ag31 rfl (by exact Blk.segAt (H.l 2 rfl) (Seg.all _) (by rfl)) (by (rw [TrydT.sz31]; refine congrArg some ?_; (simp only [kc_length, kw_length, List.length_replicate, List.length_append, List.length_cons, List.length_nil, cutI_length, shaOf_length, dig_length, valD_length, rootM_length]; omega))) ?_
  refine WP.pick1 rfl ?_
  refine WL.call TrydT.fb45 rfl (show Ret _ _ _ _ (fun v w' => v = .agg (kc q ++ kc (valD bits u)).toArray ∧ Out Nil _ w') from Leaf2_c (T := (Tr.leaf a q u s)) (bits := bits) H.yylt (H.rob 1 rfl)) ?_
  rintro _ w6 ⟨rfl, hO⟩
  replace H := H.out hO
  refine WL.nil ⟨(List.forall_mem_cons.2 ⟨(fun _ _ => (by exact Blk.segAt (H.l 2 rfl) (Seg.all _) (by rfl))), (List.forall_mem_cons.2 ⟨(by exact (fun h => absurd (show waits _ 1 0 = false from h) (by decide +kernel))), (fun _ h => by cases h)⟩)⟩), ?_⟩
  refine WP.take_pure rfl rfl (PV.fieldV rfl TrydT.fd81_0 rfl (PartAt.agg TrydT.ag31 (by (rw [TrydT.sz31]; refine congrArg some ?_; (simp only [kc_length, kw_length, List.length_replicate, List.length_append, List.length_cons, List.length_nil, cutI_length, shaOf_length, dig_length, valD_length, rootM_length]; omega))) (Seg.l (Seg.all _)))) ?_
  refine WP.take_pure rfl rfl (PV.eq (v' := .bool true) (PV.eqlB rfl TrydT.ar31 TrydT.in5 TrydT.sz5 (by kernel_rfl) rfl rfl hq hk) (by simp [hqk])) ?_
  refine WP.pick1 rfl ?_
  refine WL.storeL H 1 rfl rfl rfl (new := _) rfl (by exact TrydT.sz23) (by exact one_lit _ rfl) (Laid.at (Laid.all (by (simp only [kc_length, kw_length, List.length_replicate, List.length_append, List.length_cons, List.length_nil, cutI_length, shaOf_length, dig_length, valD_length, rootM_length]; done))) (by rfl)) rfl ?_
  intro w7 H
  refine WL.nil ⟨(List.forall_mem_cons.2 ⟨(fun _ _ => (by exact Blk.segAt (H.l 2 rfl) (Seg.all _) (by rfl))), (List.forall_mem_cons.2 ⟨(by exact (fun h => absurd (show waits _ 5 0 = false from h) (by decide +kernel))), (fun _ h => by cases h)⟩)⟩), ?_⟩
  refine WP.pick1 rfl ?_
  refine WL.storeL H 0 rfl rfl rfl (new := _) rfl (by exact TrydT.sz4) (by exact one_lit _ rfl) (Laid.at (Laid.all (by (simp only [kc_length, kw_length, List.length_replicate, List.length_append, List.length_cons, List.length_nil, cutI_length, shaOf_length, dig_length, valD_length, rootM_length]; done))) (by rfl)) rfl ?_
  intro w8 H
  refine WL.nil ⟨(List.forall_mem_cons.2 ⟨(by exact (fun h => absurd (show waits _ 6 3 = false from h) (by decide +kernel))), (List.forall_mem_cons.2 ⟨(by exact (fun h => absurd (show waits _ 6 0 = false from h) (by decide +kernel))), (fun _ h => by cases h)⟩)⟩), ?_⟩
  refine WP.done ?_
  refine WE.ret ?_
  refine Or.inr ⟨_, _, _, _, rfl, TrydT.fb82, (by exact rmdefT_d (X := Nil) (nilX _) (H.l 1 rfl) (((H.robLL 1 0 rfl rfl (by decide)).imp fun _ h => Blk.rd h).wk2) (((H.robLL 1 3 rfl rfl (by decide)).imp fun _ h => Blk.rd h).wk2)), ?_⟩
  rintro w9 ⟨hO, hB⟩
  replace H := H.called 1 rfl hO hB
  refine ⟨[_, _], ⟨⟨_, rfl, run_loadVar_one TrydT.ag23 (by exact Blk.segAt (H.l 1 rfl) (Seg.all _) rfl)⟩, ⟨_, rfl, run_loadVar_one TrydT.ag4 (by exact Blk.segAt (H.l 0 rfl) (Seg.all _) rfl)⟩, trivial⟩, ?_⟩
  refine ⟨.nil, c0, true, rfl, ?_, ?_, ?_, H.toOut1, H.o 0 rfl, ?_⟩
  · rw [show rmM [e] k = [] by simp [rmM, ← hqe, hqk], grow_nil]; rfl
  · simp [hasM, getM, ← hqe, hqk]
  · exact fun h => by cases h
  · exact fun _ _ => trivial

theorem RmLeafNe_c {X : Nat → Prop} {w : World} {bh bc : Nat} {bits c0 : Int} {M : List En} {k : List UInt8} {d : Nat} {a : Nat} {q u : List UInt8} {s : Value} (hX : ∀ b, X b → b < w.heap.size) (ho0 : Blk w bc 118 ([.int .i64 c0])) (hf0 : Rob (fun c_ => X c_ ∨ c_ = bc) (HAt bh bc bits) w) (hf1 : Rob (fun c_ => X c_ ∨ c_ = bc) (TrA bits (Tr.leaf a q u s)) w) (hf2 : Rob (fun c_ => X c_ ∨ c_ = bc) (Rounds) w) (hbits : 0 ≤ bits ∧ bits ≤ 256) (hk : k.length = 32) (hT : (Tr.leaf a q u s).er = grow d M) (hpm : Pm d M) (hqk : q ≠ k) :
    Ret Tryd.prog 66 [.pointer (some ⟨bh, 0, none⟩), (Tr.leaf a q u s).ptr, .agg (kc k).toArray, .int .i64 (d : Int)].toArray w fun v w' => ∃ (T : Tr) (c : Int) (f : Bool), v = .tuple [T.ptr, .bool f].toArray ∧ T.er = grow d (rmM M k) ∧ f = hasM M k ∧ (f = false → T = (Tr.leaf a q u s) ∧ c = c0) ∧ Out (· = bc) w w' ∧ Blk w' bc 118 [.int .i64 c] ∧ Rob (fun c => X c ∨ c = bc) (TrA bits T) w' := by
  refine Ret.of_bodyF (N := 57) Tryd.func66 rfl rfl (by simp) ?_
  have H := St.begin1 (b := bc) (t := 118) (l := [.int .i64 c0]) hX ho0
  replace H := H.add (rob1 hf2)
  replace H := H.add (rob1 hf1)
  replace H := H.add (rob1 hf0)
  obtain ⟨e, rfl⟩ : ∃ e, M = [e] := by have h_ := hpm.cnt; rw [← hT] at h_; exact List.length_eq_one_iff.1 h_.symm
  rw [grow_one] at hT
  have hqe : q = e.k := by injection hT
  have hvu := valD_length bits u
  have hq : q.length = 32 := by rw [hqe]; exact hpm.kl e (by simp)
  refine WE.seq_reg ?_
  refine WL.box (l := [(Tr.leaf a q u s).ptr]) H rfl (rfl) rfl ?_
  intro b5 w1 H
  refine WL.box (l := kc k) H rfl (by rfl) rfl ?_
  intro b6 w2 H
  refine WL.alloc H rfl TrydT.ze23 rfl ?_
  intro b8 w3 H
  refine WL.alloc H rfl TrydT.ze4 rfl ?_
  intro b9 w4 H
  refine WL.nil ?_
  refine WE.seq_reg ?_
  refine WL.pv (PV.makeFunc rfl) rfl ?_
  refine WL.defer rfl rfl rfl rfl rfl ?_
  refine WL.nil ?_
  refine WE.seq ?_
  refine WE.seq_reg ?_
  refine WL.load1 rfl TrydT.ag23 rfl rfl (by exact Blk.segAt (H.l 3 rfl) (Seg.all _) (by rfl)) ?_
  refine WL.call TrydT.fb39 rfl (NKind_c (T := (Tr.leaf a q u s)) (bits := bits) H.yylt (by exact H.rob 1 rfl) ) ?_
  rintro _ w5 ⟨rfl, hO⟩
  replace H := H.out hO
  refine WL.nil ?_
  refine WE.block ?_
  refine WE.seq_reg ?_
  refine WL.pv (PV.eql rfl rfl rfl) rfl ?_
  refine WL.as rfl rfl ?_
  refine WL.nil ?_
  refine WE.cond_t' rfl rfl ?_
  refine WE.seq_draw (.take 0 (.take 3 (.pick1 1 (.take 2 (.take 4 (.pick1 5 (.pick1 6 .done))))))) TrydT.mixed (by kernel_rfl) ?_
  replace H := H.out (Out.drew _)
  refine WP.take_read rfl rfl (RV.loadOne rfl TrydT.ag23 rfl) (by exact Blk.segAt (H.l 3 rfl) (Seg.all _) (by rfl)) ?_
  refine WP.readA rfl rfl rfl TrydT.ag31 rfl (by exact Blk.segAt (H.l 2 rfl) (Seg.all _) (by rfl)) (by (rw [TrydT.sz31]; refine congrArg some ?_; (simp only [kc_length, kw_length, List.length_replicate, List.length_append, List.length_cons, List.length_nil, cutI_length, shaOf_length, dig_length, valD_length, rootM_length]; omega))) ?_
  refine WP.pick1 rfl ?_
  refine WL.call TrydT.fb45 rfl (show Ret _ _ _ _ (fun v w' => v = .agg (kc q ++ kc (valD bits u)).toArray ∧ Out Nil _ w') from Leaf2_c (T := (Tr.leaf a q u s)) (bits := bits) H.yylt (H.rob 1 rfl)) ?_
  rintro _ w6 ⟨rfl, hO⟩
  replace H := H.out hO
  refine WL.nil ⟨(List.forall_mem_cons.2 ⟨(fun _ _ => (by exact Blk.segAt (H.l 2 rfl) (Seg.all _) (by rfl))), (List.forall_mem_cons.2 ⟨(by exact (fun h => absurd (show waits _ 1 0 = false from h) (by decide +kernel))), (fun _ h => by cases h)⟩)⟩), ?_⟩
  refine WP.take_pure rfl rfl (PV.fieldV rfl TrydT.fd81_0 rfl (PartAt.agg TrydT.ag31 (by (rw [TrydT.sz31]; refine congrArg some ?_; (simp only [kc_length, kw_length, List.length_replicate, List.length_append, List.length_cons, List.length_nil, cutI_length, shaOf_length, dig_length, valD_length, rootM_length]; omega))) (Seg.l (Seg.all _)))) ?_
  refine WP.take_pure rfl rfl (PV.eq (v' := .bool false) (PV.eqlB rfl TrydT.ar31 TrydT.in5 TrydT.sz5 (by kernel_rfl) rfl rfl hq hk) (by simp [hqk])) ?_
  refine WP.pick1 rfl ?_
  refine WL.storeL H 1 rfl rfl rfl (new := _) rfl (by exact TrydT.sz23) (by exact one_lit _ rfl) (Laid.at (Laid.all (by (simp only [kc_length, kw_length, List.length_replicate, List.length_append, List.length_cons, List.length_nil, cutI_length, shaOf_length, dig_length, valD_length, rootM_length]; done))) (by rfl)) rfl ?_
  intro w7 H
  refine WL.nil ⟨(List.forall_mem_cons.2 ⟨(fun _ _ => (by exact Blk.segAt (H.l 2 rfl) (Seg.all _) (by rfl))), (List.forall_mem_cons.2 ⟨(by exact (fun h => absurd (show waits _ 5 0 = false from h) (by decide +kernel))), (fun _ h => by cases h)⟩)⟩), ?_⟩
  refine WP.pick1 rfl ?_
  refine WL.storeL H 0 rfl rfl rfl (new := _) rfl (by exact TrydT.sz4) (by exact one_lit _ rfl) (Laid.at (Laid.all (by (simp only [kc_length, kw_length, List.length_replicate, List.length_append, List.length_cons, List.length_nil, cutI_length, shaOf_length, dig_length, valD_length, rootM_length]; done))) (by rfl)) rfl ?_
  intro w8 H
  refine WL.nil ⟨(List.forall_mem_cons.2 ⟨(by exact (fun h => absurd (show waits _ 6 3 = false from h) (by decide +kernel))), (List.forall_mem_cons.2 ⟨(by exact (fun h => absurd (show waits _ 6 0 = false from h) (by decide +kernel))), (fun _ h => by cases h)⟩)⟩), ?_⟩
  refine WP.done ?_
  refine WE.ret ?_
  refine Or.inr ⟨_, _, _, _, rfl, TrydT.fb82, (by exact rmdefF_d (X := Nil) (nilX _) (H.l 1 rfl) (((H.robLL 1 0 rfl rfl (by decide)).imp fun _ h => Blk.rd h).wk2) (((H.robLL 1 3 rfl rfl (by decide)).imp fun _ h => Blk.rd h).wk2) rfl), ?_⟩
  rintro w9 ⟨hO, hB⟩
  replace H := H.called 1 rfl hO hB
  refine ⟨[_, _], ⟨⟨_, rfl, run_loadVar_one TrydT.ag23 (by exact Blk.segAt (H.l 1 rfl) (Seg.all _) rfl)⟩, ⟨_, rfl, run_loadVar_one TrydT.ag4 (by exact Blk.segAt (H.l 0 rfl) (Seg.all _) rfl)⟩, trivial⟩, ?_⟩
  refine ⟨(Tr.leaf a q u s), c0, false, rfl, ?_, ?_, ?_, H.toOut1, H.o 0 rfl, ?_⟩
  · rw [show rmM [e] k = [e] by simp [rmM, ← hqe, hqk], grow_one]; exact hT
  · simp [hasM, getM, ← hqe, hqk]
  · exact fun _ => ⟨rfl, rfl⟩
  · exact H.giveO (H.rob 1 rfl)


theorem rm_join {m : List En} {k : List UInt8} {d : Nat} (h : Pm d m) (hd : d < 256) : (bitN k d = 0 → joinS (grow (d + 1) (rmM (partM m d 0) k)) (grow (d + 1) (partM m d 1)) = grow d (rmM m k)) ∧ (bitN k d ≠ 0 → joinS (grow (d + 1) (partM m d 0)) (grow (d + 1) (rmM (partM m d 1) k)) = grow d (rmM m k)) := by
  have e := joinS_grow (rm_pm (k := k) h) hd
  rw [rmM_part, rmM_part] at e
  have hb := bitN_lt k d
  constructor
  · intro h0
    rw [rmM_other (b := 1) (by omega)] at e
    exact e
  · intro h0
    rw [rmM_other (b := 0) (by omega)] at e
    exact e
def RmOK (T : Tr) : Prop := ∀ {X : Nat → Prop} {w : World} {bh bc : Nat} {bits c0 : Int} {M : List En} {k : List UInt8} {d : Nat}, (∀ b, X b → b < w.heap.size) → Blk w bc 118 [.int .i64 c0] → Rob (fun c => X c ∨ c = bc) (HAt bh bc bits) w → Rob (fun c => X c ∨ c = bc) (TrA bits T) w → Rob (fun c => X c ∨ c = bc) Rounds w →
  0 ≤ bits ∧ bits ≤ 256 → k.length = 32 → T.er = grow d M → Pm d M → M.length ≤ 1000000000 →
  Ret Tryd.prog 66 [.pointer (some ⟨bh, 0, none⟩), T.ptr, .agg (kc k).toArray, .int .i64 (d : Int)].toArray w fun v w' => ∃ (T' : Tr) (c : Int) (f : Bool), v = .tuple [T'.ptr, .bool f].toArray ∧ T'.er = grow d (rmM M k) ∧ f = hasM M k ∧ (f = false → T' = T ∧ c = c0) ∧ Out (· = bc) w w' ∧ Blk w' bc 118 [.int .i64 c] ∧ Rob (fun c => X c ∨ c = bc) (TrA bits T') w'

theorem RmInner_s {X : Nat → Prop} {w : World} {bh bc : Nat} {bits c0 : Int} {M : List En} {k : List UInt8} {d : Nat} {a : Nat} {l r : Tr} (hX : ∀ b, X b → b < w.heap.size) (ho0 : Blk w bc 118 ([.int .i64 c0])) (hf0 : Rob (fun c_ => X c_ ∨ c_ = bc) (HAt bh bc bits) w) (hf1 : Rob (fun c_ => X c_ ∨ c_ = bc) (TrA bits (Tr.inner a l r)) w) (hf2 : Rob (fun c_ => X c_ ∨ c_ = bc) (Rounds) w) (hbits : 0 ≤ bits ∧ bits ≤ 256) (hk : k.length = 32) (hT : (Tr.inner a l r).er = grow d M) (hpm : Pm d M) (hlen : M.length ≤ 1000000000) (ihl : RmOK l) (ihr : RmOK r) :
    Ret Tryd.prog 66 [.pointer (some ⟨bh, 0, none⟩), (Tr.inner a l r).ptr, .agg (kc k).toArray, .int .i64 (d : Int)].toArray w fun v w' => ∃ (T : Tr) (c : Int) (f : Bool), v = .tuple [T.ptr, .bool f].toArray ∧ T.er = grow d (rmM M k) ∧ f = hasM M k ∧ (f = false → T = (Tr.inner a l r) ∧ c = c0) ∧ Out (· = bc) w w' ∧ Blk w' bc 118 [.int .i64 c] ∧ Rob (fun c => X c ∨ c = bc) (TrA bits T) w' := by
  refine Ret.of_bodyF (N := 57) Tryd.func66 rfl rfl (by simp) ?_
  have H := St.begin1 (b := bc) (t := 118) (l := [.int .i64 c0]) hX ho0
  replace H := H.add (rob1 hf2)
  replace H := H.add (rob1 hf1)
  replace H := H.add (rob1 hf0)
  have h2m : 2 ≤ M.length := (grow_kind hpm).1 (by rw [← hT]; rfl)
  have hd := hpm.lt h2m
  have hT2 := hT
  rw [grow_many d M hd h2m] at hT2
  have hleft : l.er = grow (d + 1) (partM M d 0) := by injection hT2
  have hright : r.er = grow (d + 1) (partM M d 1) := by injection hT2
  have hb2 := bitN_lt k d
  have hrj := rm_join (k := k) hpm hd
  have hhp := hasM_part (m := M) (k := k) (d := d)
  refine WE.seq_reg ?_
  refine WL.box (l := [(Tr.inner a l r).ptr]) H rfl (rfl) rfl ?_
  intro b5 w1 H
  refine WL.box (l := kc k) H rfl (by rfl) rfl ?_
  intro b6 w2 H
  refine WL.alloc H rfl TrydT.ze23 rfl ?_
  intro b8 w3 H
  refine WL.alloc H rfl TrydT.ze4 rfl ?_
  intro b9 w4 H
  refine WL.nil ?_
  refine WE.seq_reg ?_
  refine WL.pv (PV.makeFunc rfl) rfl ?_
  refine WL.defer rfl rfl rfl rfl rfl ?_
  refine WL.nil ?_
  refine WE.seq ?_
  refine WE.seq_reg ?_
  refine WL.load1 rfl TrydT.ag23 rfl rfl (by exact Blk.segAt (H.l 3 rfl) (Seg.all _) (by rfl)) ?_
  refine WL.call TrydT.fb39 rfl (NKind_c (T := (Tr.inner a l r)) (bits := bits) H.yylt (by exact H.rob 1 rfl) ) ?_
  rintro _ w5 ⟨rfl, hO⟩
  replace H := H.out hO
  refine WL.nil ?_
  refine WE.block ?_
  refine WE.seq_reg ?_
  refine WL.pv (PV.eql rfl rfl rfl) rfl ?_
  refine WL.as rfl rfl ?_
  refine WL.nil ?_
  refine WE.cond_f' rfl rfl ?_
  refine WE.seq_reg ?_
  refine WL.pv (PV.eql rfl rfl rfl) rfl ?_
  refine WL.as rfl rfl ?_
  refine WL.nil ?_
  refine WE.cond_t' rfl rfl ?_
  refine WE.seq_draw (.take 0 (.take 2 (.pick1 1 (.pick1 3 (.take 4 (.take 5 .done)))))) TrydT.mixed (by kernel_rfl) ?_
  replace H := H.out (Out.drew _)
  refine WP.take_read rfl rfl (RV.loadOne rfl TrydT.ag23 rfl) (by exact Blk.segAt (H.l 3 rfl) (Seg.all _) (by rfl)) ?_
  refine WP.take_read rfl rfl (RV.loadOne rfl TrydT.ag23 rfl) (by exact Blk.segAt (H.l 3 rfl) (Seg.all _) (by rfl)) ?_
  refine WP.pick1 rfl ?_
  refine WL.call TrydT.fb41 rfl (Left_c (T := (Tr.inner a l r)) (bits := bits) H.yylt (by exact H.rob 1 rfl) ) ?_
  rintro _ w6 ⟨rfl, hO⟩
  replace H := H.out hO
  refine WL.nil ⟨(List.forall_mem_cons.2 ⟨(fun _ _ => (by exact Blk.segAt (H.l 3 rfl) (Seg.all _) (by rfl))), (List.forall_mem_cons.2 ⟨(by exact (fun h => absurd (show waits _ 1 0 = false from h) (by decide +kernel))), (fun _ h => by cases h)⟩)⟩), ?_⟩
  refine WP.pick1 rfl ?_
  refine WL.call TrydT.fb43 rfl (Right2_c (T := (Tr.inner a l r)) (bits := bits) H.yylt (by exact H.rob 1 rfl) ) ?_
  rintro _ w7 ⟨rfl, hO⟩
  replace H := H.out hO
  refine WL.nil ⟨(List.forall_mem_cons.2 ⟨(by exact (fun h => absurd (show waits _ 3 2 = false from h) (by decide +kernel))), (List.forall_mem_cons.2 ⟨(by exact (fun h => absurd (show waits _ 3 0 = false from h) (by decide +kernel))), (fun _ h => by cases h)⟩)⟩), ?_⟩
  refine WP.as rfl rfl rfl ?_
  refine WP.as rfl rfl rfl ?_
  refine WP.done ?_
  refine WE.seq ?_
  refine WE.seq_reg ?_
  refine WL.loadR rfl TrydT.ag31 rfl rfl (by exact Blk.segAt (H.l 2 rfl) (Seg.all _) (by rfl)) (by (rw [TrydT.sz31]; refine congrArg some ?_; (simp only [kc_length, kw_length, List.length_replicate, List.length_append, List.length_cons, List.length_nil, cutI_length, shaOf_length, dig_length, valD_length, rootM_length]; omega))) ?_
  refine WL.mv rfl rfl ?_
  refine WL.call TrydT.fb40 rfl (bitsBit_c (k := k) (d := d) H.yylt  (by assumption) (by assumption)) ?_
  rintro _ w8 ⟨rfl, hO⟩
  replace H := H.out hO
  refine WL.pv (PV.eql rfl rfl rfl) rfl ?_
  refine WL.nil ?_
  refine WE.cond rfl (fun hc31 => ?_) (fun hc31 => ?_)
  · skip
    try simp only [decide_eq_true_eq, decide_eq_false_iff_not, ne_eq, Decidable.not_not, Bool.not_eq_true', Bool.not_eq_false', Bool.and_eq_true, Bool.or_eq_true, Bool.not_not, Bool.and_eq_false_iff, Bool.or_eq_false_iff, Int.not_lt, Int.not_le] at hc31
    have hb0 : bitN k d = 0 := by omega
    refine WE.reg ?_
    refine WL.mv rfl rfl ?_
    refine WL.mv rfl rfl ?_
    refine WL.loadR rfl TrydT.ag31 rfl rfl (by exact Blk.segAt (H.l 2 rfl) (Seg.all _) (by rfl)) (by (rw [TrydT.sz31]; refine congrArg some ?_; (simp only [kc_length, kw_length, List.length_replicate, List.length_append, List.length_cons, List.length_nil, cutI_length, shaOf_length, dig_length, valD_length, rootM_length]; omega))) ?_
    refine WL.mv rfl rfl ?_
    refine WL.pv (PV.eq (v' := .int .i64 ((d + 1 : Nat) : Int)) (PV.add64 rfl rfl rfl (by omega) (by omega)) rfl) rfl ?_
    refine WL.call TrydT.fb66 rfl (ihl (M := partM M d 0) (k := k) (d := d + 1) (bits := bits) H.yylt (H.o 0 rfl) (by exact H.robOld 0 rfl 0 rfl) (by exact (H.robOld 0 rfl 1 rfl : Rob _ (TrA bits (Tr.inner a l r)) _).imp fun _ h => TrA.left h) (by exact H.robOld 0 rfl 2 rfl) hbits hk hleft (hpm.part hd 0) (Nat.le_trans (partM_le _ _ _) hlen)) ?_
    rintro _ w9 ⟨T38, c38, f38, rfl, hT38, hf38, hn38, hO, hB, hR⟩
    replace H := H.calledOR 0 rfl hO hB hR
    refine WL.mv rfl rfl ?_
    refine WL.pv (PV.extract rfl rfl rfl) rfl ?_
    refine WL.pv (PV.extract rfl rfl rfl) rfl ?_
    refine WL.as rfl rfl ?_
    refine WL.storeL H 0 rfl rfl rfl (new := _) rfl (by exact TrydT.sz4) (by exact one_lit _ rfl) (Laid.at (Laid.all (by (simp only [kc_length, kw_length, List.length_replicate, List.length_append, List.length_cons, List.length_nil, cutI_length, shaOf_length, dig_length, valD_length, rootM_length]; done))) (by rfl)) rfl ?_
    intro w10 H
    refine WL.nil ?_
    refine WE.seq_reg ?_
    refine WL.load1 rfl TrydT.ag4 rfl rfl (by exact Blk.segAt (H.l 0 rfl) (Seg.all _) (by rfl)) ?_
    refine WL.nil ?_
    refine WE.cond rfl (fun hc50 => ?_) (fun hc50 => ?_)
    · skip
      try simp only [decide_eq_true_eq, decide_eq_false_iff_not, ne_eq, Decidable.not_not, Bool.not_eq_true', Bool.not_eq_false', Bool.and_eq_true, Bool.or_eq_true, Bool.not_not, Bool.and_eq_false_iff, Bool.or_eq_false_iff, Int.not_lt, Int.not_le] at hc50
      (obtain rfl : f38 = true := hc50)
      refine WE.reg ?_
      refine WL.mv rfl rfl ?_
      refine WL.mv rfl rfl ?_
      refine WL.mv rfl rfl ?_
      refine WL.call TrydT.fb49 rfl ((by exact Join_c (l := T38) (r := r) (bits := bits) H.yylt (H.o 0 rfl) (by exact H.robOld 0 rfl 1 rfl) (by exact H.robOld 0 rfl 0 rfl) (by exact (H.robOld 0 rfl 2 rfl : Rob _ (TrA bits (Tr.inner a l r)) _).imp fun _ h => TrA.right h) (by exact H.robOld 0 rfl 3 rfl) hbits (by rw [hT38, hright, (rm_pm (hpm.part hd 0)).cnt, (hpm.part hd 1).cnt]; have h1 := rmM_len (partM M d 0) k; have h2 := part_len M d; omega))) ?_
      rintro _ w11 ⟨Tv54, mv54, rfl, hTv54, hO, hB, hR⟩
      replace H := H.calledOR 0 rfl hO hB hR
      refine WL.storeL H 1 rfl rfl rfl (new := _) rfl (by exact TrydT.sz23) (by exact one_lit _ rfl) (Laid.at (Laid.all (by (simp only [kc_length, kw_length, List.length_replicate, List.length_append, List.length_cons, List.length_nil, cutI_length, shaOf_length, dig_length, valD_length, rootM_length]; done))) (by rfl)) rfl ?_
      intro w12 H
      refine WL.nil ?_
      refine WE.seq_draw (.take 0 (.take 1 (.pick1 2 (.pick1 3 .done)))) TrydT.mixed (by kernel_rfl) ?_
      replace H := H.out (Out.drew _)
      refine WP.take_read rfl rfl (RV.loadOne rfl TrydT.ag23 rfl) (by exact Blk.segAt (H.l 1 rfl) (Seg.all _) (by rfl)) ?_
      refine WP.take_read rfl rfl (RV.loadOne rfl TrydT.ag4 rfl) (by exact Blk.segAt (H.l 0 rfl) (Seg.all _) (by rfl)) ?_
      refine WP.pick1 rfl ?_
      refine WL.storeL H 1 rfl rfl rfl (new := _) rfl (by exact TrydT.sz23) (by exact one_lit _ rfl) (Laid.at (Laid.all (by (simp only [kc_length, kw_length, List.length_replicate, List.length_append, List.length_cons, List.length_nil, cutI_length, shaOf_length, dig_length, valD_length, rootM_length]; done))) (by rfl)) rfl ?_
      intro w13 H
      refine WL.nil ⟨(List.forall_mem_cons.2 ⟨(fun _ _ => (by exact Blk.segAt (H.l 0 rfl) (Seg.all _) (by rfl))), (List.forall_mem_cons.2 ⟨(by exact (fun h => absurd (show waits _ 2 0 = false from h) (by decide +kernel))), (fun _ h => by cases h)⟩)⟩), ?_⟩
      refine WP.pick1 rfl ?_
      refine WL.storeL H 0 rfl rfl rfl (new := _) rfl (by exact TrydT.sz4) (by exact one_lit _ rfl) (Laid.at (Laid.all (by (simp only [kc_length, kw_length, List.length_replicate, List.length_append, List.length_cons, List.length_nil, cutI_length, shaOf_length, dig_length, valD_length, rootM_length]; done))) (by rfl)) rfl ?_
      intro w14 H
      refine WL.nil ⟨(List.forall_mem_cons.2 ⟨(by exact (fun h => absurd (show waits _ 3 1 = false from h) (by decide +kernel))), (List.forall_mem_cons.2 ⟨(by exact (fun h => absurd (show waits _ 3 0 = false from h) (by decide +kernel))), (fun _ h => by cases h)⟩)⟩), ?_⟩
      refine WP.done ?_
      refine WE.ret ?_
      refine Or.inr ⟨_, _, _, _, rfl, TrydT.fb82, (by exact rmdefT_d (X := Nil) (nilX _) (H.l 1 rfl) (((H.robLL 1 0 rfl rfl (by decide)).imp fun _ h => Blk.rd h).wk2) (((H.robLL 1 3 rfl rfl (by decide)).imp fun _ h => Blk.rd h).wk2)), ?_⟩
      rintro w15 ⟨hO, hB⟩
      replace H := H.called 1 rfl hO hB
      refine ⟨[_, _], ⟨⟨_, rfl, run_loadVar_one TrydT.ag23 (by exact Blk.segAt (H.l 1 rfl) (Seg.all _) rfl)⟩, ⟨_, rfl, run_loadVar_one TrydT.ag4 (by exact Blk.segAt (H.l 0 rfl) (Seg.all _) rfl)⟩, trivial⟩, ?_⟩
      (refine ⟨Tv54, _, true, rfl, ?_, ?_, fun h => (by cases h), H.toOut1, H.o 0 rfl, H.giveO (H.rob 0 rfl)⟩; (rw [hTv54, hT38, hright]; exact hrj.1 hb0); (rw [hf38, ← hhp, hb0]))
    · skip
      try simp only [decide_eq_true_eq, decide_eq_false_iff_not, ne_eq, Decidable.not_not, Bool.not_eq_true', Bool.not_eq_false', Bool.and_eq_true, Bool.or_eq_true, Bool.not_not, Bool.and_eq_false_iff, Bool.or_eq_false_iff, Int.not_lt, Int.not_le] at hc50
      (obtain rfl : f38 = false := hc50)
      refine WE.skip ?_
      refine WE.seq_draw (.take 0 (.take 1 (.pick1 2 (.pick1 3 .done)))) TrydT.mixed (by kernel_rfl) ?_
      replace H := H.out (Out.drew _)
      refine WP.take_read rfl rfl (RV.loadOne rfl TrydT.ag23 rfl) (by exact Blk.segAt (H.l 1 rfl) (Seg.all _) (by rfl)) ?_
      refine WP.take_read rfl rfl (RV.loadOne rfl TrydT.ag4 rfl) (by exact Blk.segAt (H.l 0 rfl) (Seg.all _) (by rfl)) ?_
      refine WP.pick1 rfl ?_
      refine WL.storeL H 1 rfl rfl rfl (new := _) rfl (by exact TrydT.sz23) (by exact one_lit _ rfl) (Laid.at (Laid.all (by (simp only [kc_length, kw_length, List.length_replicate, List.length_append, List.length_cons, List.length_nil, cutI_length, shaOf_length, dig_length, valD_length, rootM_length]; done))) (by rfl)) rfl ?_
      intro w16 H
      refine WL.nil ⟨(List.forall_mem_cons.2 ⟨(fun _ _ => (by exact Blk.segAt (H.l 0 rfl) (Seg.all _) (by rfl))), (List.forall_mem_cons.2 ⟨(by exact (fun h => absurd (show waits _ 2 0 = false from h) (by decide +kernel))), (fun _ h => by cases h)⟩)⟩), ?_⟩
      refine WP.pick1 rfl ?_
      refine WL.storeL H 0 rfl rfl rfl (new := _) rfl (by exact TrydT.sz4) (by exact one_lit _ rfl) (Laid.at (Laid.all (by (simp only [kc_length, kw_length, List.length_replicate, List.length_append, List.length_cons, List.length_nil, cutI_length, shaOf_length, dig_length, valD_length, rootM_length]; done))) (by rfl)) rfl ?_
      intro w17 H
      refine WL.nil ⟨(List.forall_mem_cons.2 ⟨(by exact (fun h => absurd (show waits _ 3 1 = false from h) (by decide +kernel))), (List.forall_mem_cons.2 ⟨(by exact (fun h => absurd (show waits _ 3 0 = false from h) (by decide +kernel))), (fun _ h => by cases h)⟩)⟩), ?_⟩
      refine WP.done ?_
      refine WE.ret ?_
      refine Or.inr ⟨_, _, _, _, rfl, TrydT.fb82, (by exact rmdefF_d (X := Nil) (nilX _) (H.l 1 rfl) (((H.robLL 1 0 rfl rfl (by decide)).imp fun _ h => Blk.rd h).wk2) (((H.robLL 1 3 rfl rfl (by decide)).imp fun _ h => Blk.rd h).wk2) rfl), ?_⟩
      rintro w18 ⟨hO, hB⟩
      replace H := H.called 1 rfl hO hB
      refine ⟨[_, _], ⟨⟨_, rfl, run_loadVar_one TrydT.ag23 (by exact Blk.segAt (H.l 1 rfl) (Seg.all _) rfl)⟩, ⟨_, rfl, run_loadVar_one TrydT.ag4 (by exact Blk.segAt (H.l 0 rfl) (Seg.all _) rfl)⟩, trivial⟩, ?_⟩
      (have hh : hasM M k = false := (by rw [← hhp, hb0, ← hf38]); refine ⟨Tr.inner a l r, _, false, rfl, ?_, hh.symm, fun _ => ⟨rfl, (hn38 rfl).2⟩, H.toOut1, H.o 0 rfl, H.giveO (by exact H.rob 2 rfl)⟩; (rw [rmM_not hh]; exact hT))
  · skip
    try simp only [decide_eq_true_eq, decide_eq_false_iff_not, ne_eq, Decidable.not_not, Bool.not_eq_true', Bool.not_eq_false', Bool.and_eq_true, Bool.or_eq_true, Bool.not_not, Bool.and_eq_false_iff, Bool.or_eq_false_iff, Int.not_lt, Int.not_le] at hc31
    have hb0 : bitN k d = 1 := by omega
    refine WE.reg ?_
    refine WL.mv rfl rfl ?_
    refine WL.mv rfl rfl ?_
    refine WL.loadR rfl TrydT.ag31 rfl rfl (by exact Blk.segAt (H.l 2 rfl) (Seg.all _) (by rfl)) (by (rw [TrydT.sz31]; refine congrArg some ?_; (simp only [kc_length, kw_length, List.length_replicate, List.length_append, List.length_cons, List.length_nil, cutI_length, shaOf_length, dig_length, valD_length, rootM_length]; omega))) ?_
    refine WL.mv rfl rfl ?_
    refine WL.pv (PV.eq (v' := .int .i64 ((d + 1 : Nat) : Int)) (PV.add64 rfl rfl rfl (by omega) (by omega)) rfl) rfl ?_
    refine WL.call TrydT.fb66 rfl (ihr (M := partM M d 1) (k := k) (d := d + 1) (bits := bits) H.yylt (H.o 0 rfl) (by exact H.robOld 0 rfl 0 rfl) (by exact (H.robOld 0 rfl 1 rfl : Rob _ (TrA bits (Tr.inner a l r)) _).imp fun _ h => TrA.right h) (by exact H.robOld 0 rfl 2 rfl) hbits hk hright (hpm.part hd 1) (Nat.le_trans (partM_le _ _ _) hlen)) ?_
    rintro _ w19 ⟨T47, c47, f47, rfl, hT47, hf47, hn47, hO, hB, hR⟩
    replace H := H.calledOR 0 rfl hO hB hR
    refine WL.mv rfl rfl ?_
    refine WL.pv (PV.extract rfl rfl rfl) rfl ?_
    refine WL.pv (PV.extract rfl rfl rfl) rfl ?_
    refine WL.as rfl rfl ?_
    refine WL.storeL H 0 rfl rfl rfl (new := _) rfl (by exact TrydT.sz4) (by exact one_lit _ rfl) (Laid.at (Laid.all (by (simp only [kc_length, kw_length, List.length_replicate, List.length_append, List.length_cons, List.length_nil, cutI_length, shaOf_length, dig_length, valD_length, rootM_length]; done))) (by rfl)) rfl ?_
    intro w20 H
    refine WL.nil ?_
    refine WE.seq_reg ?_
    refine WL.load1 rfl TrydT.ag4 rfl rfl (by exact Blk.segAt (H.l 0 rfl) (Seg.all _) (by rfl)) ?_
    refine WL.nil ?_
    refine WE.cond rfl (fun hc50 => ?_) (fun hc50 => ?_)
    · skip
      try simp only [decide_eq_true_eq, decide_eq_false_iff_not, ne_eq, Decidable.not_not, Bool.not_eq_true', Bool.not_eq_false', Bool.and_eq_true, Bool.or_eq_true, Bool.not_not, Bool.and_eq_false_iff, Bool.or_eq_false_iff, Int.not_lt, Int.not_le] at hc50
      (obtain rfl : f47 = true := hc50)
      refine WE.reg ?_
      refine WL.mv rfl rfl ?_
      refine WL.mv rfl rfl ?_
      refine WL.mv rfl rfl ?_
      refine WL.call TrydT.fb49 rfl ((by exact Join_c (l := l) (r := T47) (bits := bits) H.yylt (H.o 0 rfl) (by exact H.robOld 0 rfl 1 rfl) (by exact (H.robOld 0 rfl 2 rfl : Rob _ (TrA bits (Tr.inner a l r)) _).imp fun _ h => TrA.left h) (by exact H.robOld 0 rfl 0 rfl) (by exact H.robOld 0 rfl 3 rfl) hbits (by rw [hT47, hleft, (rm_pm (hpm.part hd 1)).cnt, (hpm.part hd 0).cnt]; have h1 := rmM_len (partM M d 1) k; have h2 := part_len M d; omega))) ?_
      rintro _ w21 ⟨Tv54, mv54, rfl, hTv54, hO, hB, hR⟩
      replace H := H.calledOR 0 rfl hO hB hR
      refine WL.storeL H 1 rfl rfl rfl (new := _) rfl (by exact TrydT.sz23) (by exact one_lit _ rfl) (Laid.at (Laid.all (by (simp only [kc_length, kw_length, List.length_replicate, List.length_append, List.length_cons, List.length_nil, cutI_length, shaOf_length, dig_length, valD_length, rootM_length]; done))) (by rfl)) rfl ?_
      intro w22 H
      refine WL.nil ?_
      refine WE.seq_draw (.take 0 (.take 1 (.pick1 2 (.pick1 3 .done)))) TrydT.mixed (by kernel_rfl) ?_
      replace H := H.out (Out.drew _)
      refine WP.take_read rfl rfl (RV.loadOne rfl TrydT.ag23 rfl) (by exact Blk.segAt (H.l 1 rfl) (Seg.all _) (by rfl)) ?_
      refine WP.take_read rfl rfl (RV.loadOne rfl TrydT.ag4 rfl) (by exact Blk.segAt (H.l 0 rfl) (Seg.all _) (by rfl)) ?_
      refine WP.pick1 rfl ?_
      refine WL.storeL H 1 rfl rfl rfl (new := _) rfl (by exact TrydT.sz23) (by exact one_lit _ rfl) (Laid.at (Laid.all (by (simp only [kc_length, kw_length, List.length_replicate, List.length_append, List.length_cons, List.length_nil, cutI_length, shaOf_length, dig_length, valD_length, rootM_length]; done))) (by rfl)) rfl ?_
      intro w23 H
      refine WL.nil ⟨(List.forall_mem_cons.2 ⟨(fun _ _ => (by exact Blk.segAt (H.l 0 rfl) (Seg.all _) (by rfl))), (List.forall_mem_cons.2 ⟨(by exact (fun h => absurd (show waits _ 2 0 = false from h) (by decide +kernel))), (fun _ h => by cases h)⟩)⟩), ?_⟩
      refine WP.pick1 rfl ?_
      refine WL.storeL H 0 rfl rfl rfl (new := _) rfl (by exact TrydT.sz4) (by exact one_lit _ rfl) (Laid.at (Laid.all (by (simp only [kc_length, kw_length, List.length_replicate, List.length_append, List.length_cons, List.length_nil, cutI_length, shaOf_length, dig_length, valD_length, rootM_length]; done))) (by rfl)) rfl ?_
      intro w24 H
      refine WL.nil ⟨(List.forall_mem_cons.2 ⟨(by exact (fun h => absurd (show waits _ 3 1 = false from h) (by decide +kernel))), (List.forall_mem_cons.2 ⟨(by exact (fun h => absurd (show waits _ 3 0 = false from h) (by decide +kernel))), (fun _ h => by cases h)⟩)⟩), ?_⟩
      refine WP.done ?_
      refine WE.ret ?_
      refine Or.inr ⟨_, _, _, _, rfl, TrydT.fb82, (by exact rmdefT_d (X := Nil) (nilX _) (H.l 1 rfl) (((H.robLL 1 0 rfl rfl (by decide)).imp fun _ h => Blk.rd h).wk2) (((H.robLL 1 3 rfl rfl (by decide)).imp fun _ h => Blk.rd h).wk2)), ?_⟩
      rintro w25 ⟨hO, hB⟩
      replace H := H.called 1 rfl hO hB
      refine ⟨[_, _], ⟨⟨_, rfl, run_loadVar_one TrydT.ag23 (by exact Blk.segAt (H.l 1 rfl) (Seg.all _) rfl)⟩, ⟨_, rfl, run_loadVar_one TrydT.ag4 (by exact Blk.segAt (H.l 0 rfl) (Seg.all _) rfl)⟩, trivial⟩, ?_⟩
      (refine ⟨Tv54, _, true, rfl, ?_, ?_, fun h => (by cases h), H.toOut1, H.o 0 rfl, H.giveO (H.rob 0 rfl)⟩; (rw [hTv54, hT47, hleft]; exact hrj.2 (by omega)); (rw [hf47, ← hhp, hb0]))
    · skip
      try simp only [decide_eq_true_eq, decide_eq_false_iff_not, ne_eq, Decidable.not_not, Bool.not_eq_true', Bool.not_eq_false', Bool.and_eq_true, Bool.or_eq_true, Bool.not_not, Bool.and_eq_false_iff, Bool.or_eq_false_iff, Int.not_lt, Int.not_le] at hc50
      (obtain rfl : f47 = false := hc50)
      refine WE.skip ?_
      refine WE.seq_draw (.take 0 (.take 1 (.pick1 2 (.pick1 3 .done)))) TrydT.mixed (by kernel_rfl) ?_
      replace H := H.out (Out.drew _)
      refine WP.take_read rfl rfl (RV.loadOne rfl TrydT.ag23 rfl) (by exact Blk.segAt (H.l 1 rfl) (Seg.all _) (by rfl)) ?_
      refine WP.take_read rfl rfl (RV.loadOne rfl TrydT.ag4 rfl) (by exact Blk.segAt (H.l 0 rfl) (Seg.all _) (by rfl)) ?_
      refine WP.pick1 rfl ?_
      refine WL.storeL H 1 rfl rfl rfl (new := _) rfl (by exact TrydT.sz23) (by exact one_lit _ rfl) (Laid.at (Laid.all (by (simp only [kc_length, kw_length, List.length_replicate, List.length_append, List.length_cons, List.length_nil, cutI_length, shaOf_length, dig_length, valD_length, rootM_length]; done))) (by rfl)) rfl ?_
      intro w26 H
      refine WL.nil ⟨(List.forall_mem_cons.2 ⟨(fun _ _ => (by exact Blk.segAt (H.l 0 rfl) (Seg.all _) (by rfl))), (List.forall_mem_cons.2 ⟨(by exact (fun h => absurd (show waits _ 2 0 = false from h) (by decide +kernel))), (fun _ h => by cases h)⟩)⟩), ?_⟩
      refine WP.pick1 rfl ?_
      refine WL.storeL H 0 rfl rfl rfl (new := _) rfl (by exact TrydT.sz4) (by exact one_lit _ rfl) (Laid.at (Laid.all (by (simp only [kc_length, kw_length, List.length_replicate, List.length_append, List.length_cons, List.length_nil, cutI_length, shaOf_length, dig_length, valD_length, rootM_length]; done))) (by rfl)) rfl ?_
      intro w27 H
      refine WL.nil ⟨(List.forall_mem_cons.2 ⟨(by exact (fun h => absurd (show waits _ 3 1 = false from h) (by decide +kernel))), (List.forall_mem_cons.2 ⟨(by exact (fun h => absurd (show waits _ 3 0 = false from h) (by decide +kernel))), (fun _ h => by cases h)⟩)⟩), ?_⟩
      refine WP.done ?_
      refine WE.ret ?_
      refine Or.inr ⟨_, _, _, _, rfl, TrydT.fb82, (by exact rmdefF_d (X := Nil) (nilX _) (H.l 1 rfl) (((H.robLL 1 0 rfl rfl (by decide)).imp fun _ h => Blk.rd h).wk2) (((H.robLL 1 3 rfl rfl (by decide)).imp fun _ h => Blk.rd h).wk2) rfl), ?_⟩
      rintro w28 ⟨hO, hB⟩
      replace H := H.called 1 rfl hO hB
      refine ⟨[_, _], ⟨⟨_, rfl, run_loadVar_one TrydT.ag23 (by exact Blk.segAt (H.l 1 rfl) (Seg.all _) rfl)⟩, ⟨_, rfl, run_loadVar_one TrydT.ag4 (by exact Blk.segAt (H.l 0 rfl) (Seg.all _) rfl)⟩, trivial⟩, ?_⟩
      (have hh : hasM M k = false := (by rw [← hhp, hb0, ← hf47]); refine ⟨Tr.inner a l r, _, false, rfl, ?_, hh.symm, fun _ => ⟨rfl, (hn47 rfl).2⟩, H.toOut1, H.o 0 rfl, H.giveO (by exact H.rob 2 rfl)⟩; (rw [rmM_not hh]; exact hT))


theorem Rm_ok : ∀ T : Tr, RmOK T
  | .nil => fun hX h0 h1 _ h3 hb hk hT hp _ => RmNil_c hX h0 h1 h3 hb hk hT hp
  | .leaf a q u s => fun hX h0 h1 h2 h3 hb hk hT hp _ => by
    rename_i k _ _
    by_cases hq : q = k
    · refine (RmLeafEq_c hX h0 h1 h2 h3 hb hk hT hp hq).mono ?_
      rintro v w' ⟨T', c, f, h⟩
      exact ⟨T', c, f, h⟩
    · refine (RmLeafNe_c hX h0 h1 h2 h3 hb hk hT hp hq).mono ?_
      rintro v w' ⟨T', c, f, h⟩
      exact ⟨T', c, f, h⟩
  | .inner a l r => fun hX h0 h1 h2 h3 hb hk hT hp hl => RmInner_s hX h0 h1 h2 h3 hb hk hT hp hl (Rm_ok l) (Rm_ok r)
theorem rmAt_c {X : Nat → Prop} {w : World} {bh bc : Nat} {bits c0 : Int} {T : Tr} {M : List En} {k : List UInt8} {d : Nat} (hX : ∀ b, X b → b < w.heap.size) (ho : Blk w bc 118 [.int .i64 c0]) (hf0 : Rob (fun c => X c ∨ c = bc) (HAt bh bc bits) w) (hf1 : Rob (fun c => X c ∨ c = bc) (TrA bits T) w) (hf2 : Rob (fun c => X c ∨ c = bc) Rounds w)
    (hb : 0 ≤ bits ∧ bits ≤ 256) (hk : k.length = 32) (hT : T.er = grow d M) (hp : Pm d M) (hl : M.length ≤ 1000000000) :
    Ret Tryd.prog 66 [.pointer (some ⟨bh, 0, none⟩), T.ptr, .agg (kc k).toArray, .int .i64 (d : Int)].toArray w fun v w' => ∃ (T' : Tr) (c : Int) (f : Bool), v = .tuple [T'.ptr, .bool f].toArray ∧ T'.er = grow d (rmM M k) ∧ f = hasM M k ∧ (f = false → T' = T ∧ c = c0) ∧ Out (· = bc) w w' ∧ Blk w' bc 118 [.int .i64 c] ∧ Rob (fun c => X c ∨ c = bc) (TrA bits T') w' :=
  Rm_ok T hX ho hf0 hf1 hf2 hb hk hT hp hl

theorem Remove2_c {X : Nat → Prop} {w : World} {bh bc : Nat} {bits c0 : Int} {T : Tr} {M : List En} {k : List UInt8} (hX : ∀ b, X b → b < w.heap.size) (ho0 : Blk w bc 118 ([.int .i64 c0])) (hf0 : Rob (fun c_ => X c_ ∨ c_ = bc) (HAt bh bc bits) w) (hf1 : Rob (fun c_ => X c_ ∨ c_ = bc) (TrA bits T) w) (hf2 : Rob (fun c_ => X c_ ∨ c_ = bc) (Rounds) w) (hbits : 0 ≤ bits ∧ bits ≤ 256) (hk : k.length = 32) (hT : T.er = grow 0 M) (hpm : Pm 0 M) (hlen : M.length ≤ 1000000000) :
    Ret Tryd.prog 47 [.pointer (some ⟨bh, 0, none⟩), T.ptr, .agg (kc k).toArray].toArray w fun v w' => ∃ (T' : Tr) (c : Int) (f : Bool), v = .tuple [T'.ptr, .bool f].toArray ∧ T'.er = grow 0 (rmM M k) ∧ f = hasM M k ∧ (f = false → T' = T ∧ c = c0) ∧ Out (· = bc) w w' ∧ Blk w' bc 118 [.int .i64 c] ∧ Rob (fun c => X c ∨ c = bc) (TrA bits T') w' := by
  refine Ret.of_body (N := 14) Tryd.func47 rfl rfl (by simp) ?_
  have H := St.begin1 (b := bc) (t := 118) (l := [.int .i64 c0]) hX ho0
  replace H := H.add (rob1 hf2)
  replace H := H.add (rob1 hf1)
  replace H := H.add (rob1 hf0)
  refine WE.seq_reg ?_
  refine WL.box (l := kc k) H rfl (by rfl) rfl ?_
  intro b5 w1 H
  refine WL.as rfl rfl ?_
  refine WL.as rfl rfl ?_
  refine WL.nil ?_
  refine WE.seq_reg ?_
  refine WL.mv rfl rfl ?_
  refine WL.mv rfl rfl ?_
  refine WL.loadR rfl TrydT.ag31 rfl rfl (by exact Blk.segAt (H.l 0 rfl) (Seg.all _) (by rfl)) (by (rw [TrydT.sz31]; refine congrArg some ?_; (simp only [kc_length, kw_length, List.length_replicate, List.length_append, List.length_cons, List.length_nil, cutI_length, shaOf_length, dig_length, valD_length, rootM_length]; omega))) ?_
  refine WL.call TrydT.fb66 rfl (rmAt_c (T := T) (M := M) (k := k) (d := 0) (bits := bits) H.yylt (H.o 0 rfl) (by exact H.robOld 0 rfl 0 rfl) (by exact H.robOld 0 rfl 1 rfl) (by exact H.robOld 0 rfl 2 rfl) (by assumption) (by assumption) (by assumption) (by assumption) (by assumption)) ?_
  rintro _ w2 ⟨Tv11, cv11, fv11, rfl, hTv11, hfv11, hnv11, hO, hB, hR⟩
  replace H := H.calledOR 0 rfl hO hB hR
  refine WL.pv (PV.extract rfl rfl rfl) rfl ?_
  refine WL.pv (PV.extract rfl rfl rfl) rfl ?_
  refine WL.as rfl rfl ?_
  refine WL.as rfl rfl ?_
  refine WL.nil ?_
  refine WE.ret ?_
  refine ⟨[_, _], _, .nil _, ⟨rfl, rfl, trivial⟩, ?_⟩
  exact ⟨Tv11, cv11, fv11, rfl, hTv11, hfv11, hnv11, H.toOut1, H.o 0 rfl, H.giveO (H.rob 0 rfl)⟩

end Go.Sp.Tryd

set_option maxRecDepth 100000
set_option maxHeartbeats 1000000
set_option linter.unusedVariables false
set_option linter.unusedSimpArgs false
namespace Go.Sp.Tryd
open Go.Proofs Go.RowKit Go.Sp

def SlK (v : Value) (ks : List (List UInt8)) (w : World) : Prop := SlC w v 32 ks.length (ks.flatMap kc)
def K32 (ks : List (List UInt8)) : Prop := ∀ k ∈ ks, k.length = 32
theorem K32.take {l : List (List UInt8)} (h : K32 l) (i : Nat) : K32 (l.take i) := fun e he => h e (List.mem_of_mem_take he)
theorem kc_seg : ∀ (ks : List (List UInt8)) (hk : K32 ks) (i : Nat) (hi : i < ks.length), ((ks.flatMap kc).drop (i * 32)).take 32 = kc ks[i] := by
  intro ks
  induction ks with
  | nil => intro _ i hi; simp at hi
  | cons x ks ih =>
    intro hk i hi
    have hx := hk x (by simp)
    have hl : (kc x).length = 32 := by rw [kc_length, hx]
    cases i with
    | zero =>
      rw [List.flatMap_cons, Nat.zero_mul, List.drop_zero, List.take_left' hl]; rfl
    | succ i =>
      rw [List.flatMap_cons, show (i + 1) * 32 = 32 + i * 32 by omega, ← List.drop_drop, List.drop_left' hl]
      exact ih (fun k h => hk k (List.mem_cons_of_mem _ h)) i (by simpa using hi)
theorem SlK.rd {v : Value} {ks : List (List UInt8)} {w : World} (h : SlK v ks w) (hk : K32 ks) (i : Nat) (hi : i < ks.length) : RdA w (sAddr v (i * 32)) (kc ks[i]) := by
  have := SlC.rd h i hi
  rwa [kc_seg ks hk i hi] at this
theorem rmAll_snoc {l : List (List UInt8)} {m : List En} {i : Nat} (h : i < l.length) : (l.take (i + 1)).foldl rmM m = rmM ((l.take i).foldl rmM m) l[i] := by
  rw [List.take_succ_eq_append_getElem h, List.foldl_append]; rfl
theorem rmAll_ok : ∀ (l : List (List UInt8)) (m : List En), Srt m → KL m → Srt (l.foldl rmM m) ∧ KL (l.foldl rmM m) ∧ (l.foldl rmM m).length ≤ m.length ∧ ∀ e ∈ l.foldl rmM m, e ∈ m := by
  intro l
  induction l with
  | nil => intro m h1 h2; exact ⟨h1, h2, Nat.le_refl _, fun _ h => h⟩
  | cons x l ih =>
    intro m h1 h2
    have := ih (rmM m x) (h1.filter _) (fun e he => h2 e (List.mem_filter.1 he).1)
    exact ⟨this.1, this.2.1, Nat.le_trans this.2.2.1 (List.length_filter_le _ _), fun e he => (List.mem_filter.1 (this.2.2.2 e he)).1⟩
theorem rmM_has : ∀ {m : List En} {k : List UInt8}, Srt m → hasM m k = true → (rmM m k).length + 1 = m.length := by
  intro m
  induction m with
  | nil => intro k _ h; cases h
  | cons x m ih =>
    intro k hs h
    have h1 := List.pairwise_cons.1 hs
    by_cases hx : x.k = k
    · have : rmM (x :: m) k = m := by
        unfold rmM
        rw [List.filter_cons_of_neg (by simp [hx]), List.filter_eq_self]
        intro e he
        have := h1.1 e he
        simp
        intro hk
        rw [hx, hk] at this
        omega
      rw [this]; rfl
    · have : rmM (x :: m) k = x :: rmM m k := List.filter_cons_of_pos (by simp [hx])
      rw [this, List.length_cons, List.length_cons, ih h1.2 (by
        unfold hasM getM at h ⊢
        rw [List.find?_cons, show (x.k == k) = false by simpa using hx] at h
        exact h)]

theorem rmAll_c {X : Nat → Prop} {w : World} {bh bc : Nat} {bits c0 : Int} {T : Tr} {M : List En} {ks : List (List UInt8)} {s : Value} (hX : ∀ b, X b → b < w.heap.size) (ho0 : Blk w bc 118 ([.int .i64 c0])) (hf0 : Rob (fun c_ => X c_ ∨ c_ = bc) (HAt bh bc bits) w) (hf1 : Rob (fun c_ => X c_ ∨ c_ = bc) (TrA bits T) w) (hf2 : Rob (fun c_ => X c_ ∨ c_ = bc) (SlK s ks) w) (hf3 : Rob (fun c_ => X c_ ∨ c_ = bc) (Rounds) w) (hbits : 0 ≤ bits ∧ bits ≤ 256) (hT : T.er = grow 0 M) (hkM : KL M) (hs : Srt M) (hkl : K32 ks) (hml : M.length ≤ 100000000) (hkn : ks.length ≤ 100000000) :
    Ret Tryd.prog 48 [.pointer (some ⟨bh, 0, none⟩), T.ptr, s].toArray w fun v w' => ∃ (T : Tr) (m : Int), v = .tuple [T.ptr, .int .i64 ((M.length : Int) - (ks.foldl rmM M).length)].toArray ∧ T.er = grow 0 (ks.foldl rmM M) ∧ Out (· = bc) w w' ∧ Blk w' bc 118 [.int .i64 m] ∧ Rob (fun c => X c ∨ c = bc) (TrA bits T) w' := by
  refine Ret.of_body (N := 33) Tryd.func48 rfl rfl (by simp) ?_
  have H := St.begin1 (b := bc) (t := 118) (l := [.int .i64 c0]) hX ho0
  replace H := H.add (rob1 hf3)
  replace H := H.add (rob1 hf2)
  replace H := H.add (rob1 hf1)
  replace H := H.add (rob1 hf0)
  refine WE.seq_reg ?_
  refine WL.as rfl rfl ?_
  refine WL.as rfl rfl ?_
  refine WL.nil ?_
  refine WE.seq_reg ?_
  refine WL.as rfl rfl ?_
  refine WL.nil ?_
  refine WE.seq ?_
  refine WE.seq_reg ?_
  refine WL.mv rfl rfl ?_
  refine WL.pv (PV.lenS (by exact (H.p 2 rfl : SlK s ks _)) TrydT.sl53 rfl) rfl ?_
  refine WL.mv rfl rfl ?_
  refine WL.nil ?_
  refine WE.block ?_
  refine WE.loop (α := Nat × Tr × Nat × Int) [1, 8, 10, 11, 12, 15, 16, 17, 18, 19, 20, 21, 22, 23, 24, 25, 26, 27, 28, 29, 30] (fun g => [(15, .int .i64 g.1), (1, g.2.1.ptr), (8, .int .i64 g.2.2.1)]) (fun g wl => g.1 ≤ ks.length ∧ g.2.1.er = grow 0 ((ks.take g.1).foldl rmM M) ∧ g.2.2.1 + ((ks.take g.1).foldl rmM M).length = M.length ∧ St X w wl [Ent.blk bc 118 [.int .i64 g.2.2.2]] [] [HAt bh bc bits, TrA bits g.2.1, SlK s ks, Rounds]) (fun g => ks.length - g.1) (0, T, 0, c0) ⟨rfl, rfl, rfl, trivial⟩ ⟨Nat.zero_le _, hT, by simp, H⟩ ?_
  intro ⟨i, Tf, n, c⟩ γ0 w1 hI
  try dsimp only at hI
  obtain ⟨hi, hTf, hnf, H⟩ := hI
  refine WE.seq_reg ?_
  refine WL.pv (PV.lss rfl rfl rfl) rfl ?_
  refine WL.nil ?_
  refine WE.seq ?_
  refine WE.cond rfl (fun hc16 => ?_) (fun hc16 => ?_)
  · skip
    try simp only [decide_eq_true_eq, decide_eq_false_iff_not, ne_eq, Decidable.not_not, Bool.not_eq_true', Bool.not_eq_false', Bool.and_eq_true, Bool.or_eq_true, Bool.not_not, Bool.and_eq_false_iff, Bool.or_eq_false_iff, Int.not_lt, Int.not_le] at hc16
    have hlt : i < ks.length := by omega
    have hke := hkl _ (List.getElem_mem hlt)
    have hfo := rmAll_ok (ks.take i) M hs hkM
    refine WE.skip ?_
    refine WE.seq ?_
    refine WE.block ?_
    refine WE.seq_reg ?_
    refine WL.pv (PV.idxS rfl (by exact (H.p 2 rfl : SlK s ks _)) TrydT.sl53 TrydT.sz31 rfl rfl (by omega) (by omega)) rfl ?_
    refine WL.loadR rfl TrydT.ag31 rfl rfl (SlK.rd (by exact (H.p 2 rfl : SlK s ks _)) hkl i hlt) (by (rw [TrydT.sz31]; refine congrArg some ?_; (simp only [kc_length, kw_length, List.length_replicate, List.length_append, List.length_cons, List.length_nil, cutI_length, shaOf_length, dig_length, valD_length, rootM_length]; omega))) ?_
    refine WL.alloc H rfl TrydT.ze31 rfl ?_
    intro b10 w2 H
    refine WL.storeL H 0 rfl rfl rfl (new := kc ks[i]) rfl (by (rw [TrydT.sz31]; refine congrArg some ?_; (simp only [kc_length, kw_length, List.length_replicate, List.length_append, List.length_cons, List.length_nil, cutI_length, shaOf_length, dig_length, valD_length, rootM_length]; omega))) (by exact kc_one _) (Laid.at (Laid.all (by (simp only [kc_length, kw_length, List.length_replicate, List.length_append, List.length_cons, List.length_nil, cutI_length, shaOf_length, dig_length, valD_length, rootM_length]; omega))) (by rfl)) rfl ?_
    intro w3 H
    refine WL.nil ?_
    refine WE.seq_reg ?_
    refine WL.mv rfl rfl ?_
    refine WL.mv rfl rfl ?_
    refine WL.loadR rfl TrydT.ag31 rfl rfl (by exact Blk.segAt (H.l 0 rfl) (Seg.all _) (by rfl)) (by (rw [TrydT.sz31]; refine congrArg some ?_; (simp only [kc_length, kw_length, List.length_replicate, List.length_append, List.length_cons, List.length_nil, cutI_length, shaOf_length, dig_length, valD_length, rootM_length]; omega))) ?_
    refine WL.call TrydT.fb47 rfl (Remove2_c (T := Tf) (M := ((ks.take i).foldl rmM M)) (k := ks[i]) (bits := bits) H.yylt (H.o 0 rfl) (by exact H.robOld 0 rfl 0 rfl) (by exact H.robOld 0 rfl 1 rfl) (by exact H.robOld 0 rfl 3 rfl) hbits hke hTf (hfo.1.pm hfo.2.1) (by omega)) ?_
    rintro _ w4 ⟨Tv23, cv23, fv23, rfl, hTv23, hfv23, hnv23, hO, hB, hR⟩
    replace H := H.calledOR 0 rfl hO hB hR
    refine WL.mv rfl rfl ?_
    refine WL.pv (PV.extract rfl rfl rfl) rfl ?_
    refine WL.pv (PV.extract rfl rfl rfl) rfl ?_
    refine WL.as rfl rfl ?_
    refine WL.as rfl rfl ?_
    refine WL.nil ?_
    refine WE.seq_reg ?_
    refine WL.mv rfl rfl ?_
    refine WL.nil ?_
    refine WE.cond rfl (fun hc26 => ?_) (fun hc26 => ?_)
    · skip
      try simp only [decide_eq_true_eq, decide_eq_false_iff_not, ne_eq, Decidable.not_not, Bool.not_eq_true', Bool.not_eq_false', Bool.and_eq_true, Bool.or_eq_true, Bool.not_not, Bool.and_eq_false_iff, Bool.or_eq_false_iff, Int.not_lt, Int.not_le] at hc26
      (obtain rfl : fv23 = true := hc26)
      let n9 : Nat := n + 1
      have hn9 : n9 = n + 1 := rfl
      have hlh := rmM_has hfo.1 hfv23.symm
      refine WE.seq_reg ?_
      refine WL.mv rfl rfl ?_
      refine WL.as rfl rfl ?_
      refine WL.nil ?_
      refine WE.reg ?_
      refine WL.mv rfl rfl ?_
      refine WL.pv (PV.eq (v' := .int .i64 ((n + 1 : Nat) : Int)) (PV.add64 rfl rfl rfl (by dsimp only; omega) (by dsimp only; omega)) rfl) rfl ?_
      refine WL.as rfl rfl ?_
      refine WL.nil ?_
      refine WE.reg ?_
      refine WL.pv (PV.add64 rfl rfl rfl (by omega) (by omega)) rfl ?_
      refine WL.mv rfl rfl ?_
      refine WL.nil ?_
      replace H := H.forget 0
      exact ⟨(i + 1, Tv23, n9, cv23), (by repeat (first | with_reducible exact Off.refl _ _ | refine Off.upd rfl ?_ | refine Off.setAll rfl ?_ | refine Off.forget' rfl ?_)), ⟨rfl, rfl, rfl, trivial⟩, rfl, ⟨by dsimp only; omega, by dsimp only; rw [hTv23, rmAll_snoc hlt], (by dsimp only; rw [rmAll_snoc hlt]; omega), H.sel [1, 0, 3, 4]⟩, (by dsimp only; omega)⟩
    · skip
      try simp only [decide_eq_true_eq, decide_eq_false_iff_not, ne_eq, Decidable.not_not, Bool.not_eq_true', Bool.not_eq_false', Bool.and_eq_true, Bool.or_eq_true, Bool.not_not, Bool.and_eq_false_iff, Bool.or_eq_false_iff, Int.not_lt, Int.not_le] at hc26
      (obtain rfl : fv23 = false := hc26)
      let n9 : Nat := n
      have hn9 : n9 = n := rfl
      obtain ⟨rfl, rfl⟩ := hnv23 rfl
      have hlh := congrArg List.length (rmM_not hfv23.symm)
      refine WE.skip ?_
      refine WE.reg ?_
      refine WL.pv (PV.add64 rfl rfl rfl (by omega) (by omega)) rfl ?_
      refine WL.mv rfl rfl ?_
      refine WL.nil ?_
      replace H := H.forget 0
      exact ⟨(i + 1, Tv23, n9, cv23), (by repeat (first | with_reducible exact Off.refl _ _ | refine Off.upd rfl ?_ | refine Off.setAll rfl ?_ | refine Off.forget' rfl ?_)), ⟨rfl, rfl, rfl, trivial⟩, rfl, ⟨by dsimp only; omega, by dsimp only; rw [hTv23, rmAll_snoc hlt], (by dsimp only; rw [rmAll_snoc hlt]; omega), H.sel [1, 0, 3, 4]⟩, (by dsimp only; omega)⟩
  · skip
    try simp only [decide_eq_true_eq, decide_eq_false_iff_not, ne_eq, Decidable.not_not, Bool.not_eq_true', Bool.not_eq_false', Bool.and_eq_true, Bool.or_eq_true, Bool.not_not, Bool.and_eq_false_iff, Bool.or_eq_false_iff, Int.not_lt, Int.not_le] at hc16
    have hie : ks.take i = ks := List.take_of_length_le (by omega)
    refine WE.exit ?_
    refine WE.seq_reg ?_
    refine WL.mv rfl rfl ?_
    refine WL.mv rfl rfl ?_
    refine WL.as rfl rfl ?_
    refine WL.as rfl rfl ?_
    refine WL.nil ?_
    refine WE.ret ?_
    refine ⟨[_, _], _, .nil _, ⟨rfl, rfl, trivial⟩, ?_⟩
    refine ⟨Tf, c, ?_, ?_, H.toOut1, H.o 0 rfl, H.giveO (H.rob 1 rfl)⟩
    (rw [hie] at hnf; rw [show ((M.length : Int) - (ks.foldl rmM M).length) = (n : Int) by omega]; rfl)
    rw [hTf, hie]

end Go.Sp.Tryd

set_option maxRecDepth 100000
set_option maxHeartbeats 1000000
set_option linter.unusedVariables false
set_option linter.unusedSimpArgs false
namespace Go.Sp.Tryd
open Go.Proofs Go.RowKit Go.Sp

theorem grow10 (s2 : Value) : ∀ s1 : Value, grow 0 (rmM (putM (putM [] (En.mk (List.replicate 32 0) s1 [1])) (En.mk ((List.replicate 32 0).set 0 64) s2 [2])) (List.replicate 32 0)) = .leaf ((List.replicate 32 0).set 0 64) [2] := fun _ => by kernel_rfl
theorem has10 (s1 s2 : Value) : hasM (putM (putM [] (En.mk (List.replicate 32 0) s1 [1])) (En.mk ((List.replicate 32 0).set 0 64) s2 [2])) (List.replicate 32 0) = true := by kernel_rfl
theorem not10 (s1 s2 : Value) : hasM (putM (putM [] (En.mk (List.replicate 32 0) s1 [1])) (En.mk ((List.replicate 32 0).set 0 64) s2 [2])) ((List.replicate 32 0).set 0 1) = false := by kernel_rfl
theorem all10 (s1 s2 : Value) : grow 0 ([((List.replicate 32 0).set 0 64), (List.replicate 32 0), ((List.replicate 32 0).set 0 64)].foldl rmM (putM (putM [] (En.mk (List.replicate 32 0) s1 [1])) (En.mk ((List.replicate 32 0).set 0 64) s2 [2]))) = .nil := by kernel_rfl
theorem len10 (s1 s2 : Value) : (((putM (putM [] (En.mk (List.replicate 32 0) s1 [1])) (En.mk ((List.replicate 32 0).set 0 64) s2 [2])).length : Int) - ([((List.replicate 32 0).set 0 64), (List.replicate 32 0), ((List.replicate 32 0).set 0 64)].foldl rmM (putM (putM [] (En.mk (List.replicate 32 0) s1 [1])) (En.mk ((List.replicate 32 0).set 0 64) s2 [2]))).length) = 2 := by kernel_rfl
theorem srt10 (s1 s2 : Value) : Srt (putM (putM [] (En.mk (List.replicate 32 0) s1 [1])) (En.mk ((List.replicate 32 0).set 0 64) s2 [2])) := putM_srt (putM_srt List.Pairwise.nil (fun _ h => by cases h) (by rfl)) (putM_kl (fun _ h => by cases h) (by rfl)) (by rfl)
theorem kl10 (s1 s2 : Value) : KL (putM (putM [] (En.mk (List.replicate 32 0) s1 [1])) (En.mk ((List.replicate 32 0).set 0 64) s2 [2])) := putM_kl (putM_kl (fun _ h => by cases h) (by rfl)) (by rfl)
theorem two10 {P : En → Prop} {a b : En} (h1 : P a) (h2 : P b) : ∀ e ∈ [a, b], P e := fun e he => by
  rcases List.mem_cons.1 he with rfl | he
  · exact h1
  · rcases List.mem_cons.1 he with rfl | he
    · exact h2
    · cases he
theorem k3210 {P : List UInt8 → Prop} {a b c : List UInt8} (h1 : P a) (h2 : P b) (h3 : P c) : ∀ e ∈ [a, b, c], P e := fun e he => by
  rcases List.mem_cons.1 he with rfl | he
  · exact h1
  · rcases List.mem_cons.1 he with rfl | he
    · exact h2
    · rcases List.mem_cons.1 he with rfl | he
      · exact h3
      · cases he
theorem lenn10 (s1 s2 : Value) : (putM (putM [] (En.mk (List.replicate 32 0) s1 [1])) (En.mk ((List.replicate 32 0).set 0 64) s2 [2])).length = 2 := by kernel_rfl

theorem alive10_c {X : Nat → Prop} {w : World}  (hX : ∀ b, X b → b < w.heap.size) (hf0 : Rob X (Rounds) w) :
    Ret Tryd.prog 21 [].toArray w fun v w' => v = .bool true ∧ Out Nil w w' := by
  refine Ret.of_body (N := 76) Tryd.func21 rfl rfl (by decide +revert) ?_
  have H := St.begin hX
  replace H := H.add (rob0 hf0)
  refine WE.seq_reg ?_
  refine WL.as rfl rfl ?_
  refine WL.nil ?_
  refine WE.seq_reg ?_
  refine WL.call TrydT.fb20 rfl (Hash_c (i := 256) H.yylt  (by omega)) ?_
  rintro _ w1 ⟨bhv10, bcv10, rfl, hO, hge, hB, hR⟩
  replace H := H.pushR hO (Ent.blk bcv10 118 [.int .i64 0]) hB (fun c hc => by cases hc; exact hge) hR
  refine WL.as rfl rfl ?_
  refine WL.nil ?_
  refine WE.seq ?_
  refine WE.seq_reg ?_
  refine WL.mv rfl rfl ?_
  refine WL.pv (PV.eqlPn rfl TrydT.pt51 rfl rfl) rfl ?_
  refine WL.nil ?_
  refine WE.cond_f' rfl rfl ?_
  refine WE.skip ?_
  refine WE.seq_reg ?_
  refine WL.buildSliceF (l0 := [.int .u8 (0)]) H rfl TrydT.st32 (by decide) (zrow_one _ _) (Fl.cons rfl (by rfl) (by (simp only [kc_length, kw_length, List.length_replicate, List.length_append, List.length_cons, List.length_nil, cutI_length, shaOf_length, dig_length, valD_length, rootM_length]; done)) Laid.head Fl.nil) rfl ?_
  intro b13 w2 H
  replace H := H.freeze (i := 0) rfl
  replace H := H.add ((H.rob 0 rfl).imp fun _ h => SlB.of_blk (l := [1]) h rfl)
  refine WL.pv (PV.buildS rfl TrydT.pl34 TrydT.ze34 (Fl.cons rfl (by rfl) (by (simp only [kc_length, kw_length, List.length_replicate, List.length_append, List.length_cons, List.length_nil, cutI_length, shaOf_length, dig_length, valD_length, rootM_length]; done)) (Laid.right (Laid.all (by (simp only [kc_length, kw_length, List.length_replicate, List.length_append, List.length_cons, List.length_nil, cutI_length, shaOf_length, dig_length, valD_length, rootM_length]; done))) (by (simp only [kc_length, kw_length, List.length_replicate, List.length_append, List.length_cons, List.length_nil, cutI_length, shaOf_length, dig_length, valD_length, rootM_length]; done))) Fl.nil)) rfl ?_
  refine WL.pv (PV.buildA rfl TrydT.ar31 TrydT.sz5 TrydT.ze31 (Fl.cons rfl rfl rfl (Laid.byteA (x := 64) 0 (by simp)) Fl.nil)) rfl ?_
  refine WL.buildSliceF (l0 := [.int .u8 (0)]) H rfl TrydT.st32 (by decide) (zrow_one _ _) (Fl.cons rfl (by rfl) (by (simp only [kc_length, kw_length, List.length_replicate, List.length_append, List.length_cons, List.length_nil, cutI_length, shaOf_length, dig_length, valD_length, rootM_length]; done)) Laid.head Fl.nil) rfl ?_
  intro b16 w3 H
  replace H := H.freeze (i := 0) rfl
  replace H := H.add ((H.rob 0 rfl).imp fun _ h => SlB.of_blk (l := [2]) h rfl)
  refine WL.pv (PV.buildS rfl TrydT.pl34 TrydT.ze34 (Fl.cons rfl (by rfl) (by (simp [kc_length, kw_length, *]; done)) (Laid.left (Laid.all (by (simp [kc_length, kw_length, *]; done)))) (Fl.cons rfl (by rfl) (by (simp only [kc_length, kw_length, List.length_replicate, List.length_append, List.length_cons, List.length_nil, cutI_length, shaOf_length, dig_length, valD_length, rootM_length]; done)) (Laid.right (Laid.all (by (simp only [kc_length, kw_length, List.length_replicate, List.length_append, List.length_cons, List.length_nil, cutI_length, shaOf_length, dig_length, valD_length, rootM_length]; done))) (by (simp [kc_length, kw_length, *]; done))) Fl.nil))) rfl ?_
  refine WL.buildSliceF (l0 := ((kc (List.replicate 32 0) ++ ([.slice none 0 0])) ++ ((kc (List.replicate 32 0) ++ ([.slice none 0 0]))))) H rfl TrydT.st22 (by decide) (by rfl) (Fl.cons rfl (by rfl) (by (simp only [kc_length, kw_length, List.length_replicate, List.length_append, List.length_cons, List.length_nil, cutI_length, shaOf_length, dig_length, valD_length, rootM_length]; done)) (Laid.left (Laid.all (by (simp only [kc_length, kw_length, List.length_replicate, List.length_append, List.length_cons, List.length_nil, cutI_length, shaOf_length, dig_length, valD_length, rootM_length]; done)))) (Fl.cons rfl (by rfl) (by (simp [kc_length, kw_length, *]; done)) (Laid.right (Laid.all (by (simp [kc_length, kw_length, *]; done))) (by (simp only [kc_length, kw_length, List.length_replicate, List.length_append, List.length_cons, List.length_nil, cutI_length, shaOf_length, dig_length, valD_length, rootM_length]; done))) Fl.nil)) rfl ?_
  intro b18 w4 H
  refine WL.as rfl rfl ?_
  refine WL.nil ?_
  refine WE.seq_reg ?_
  refine WL.mv rfl rfl ?_
  refine WL.mv rfl rfl ?_
  replace H := H.freeze (i := 0) rfl
  replace H := H.add ((H.rob 0 rfl).imp fun _ h => (SlC.of_blk (n := 2) h rfl : SlE (.slice (some ⟨b18, 0, none⟩) 2 2) [(En.mk (List.replicate 32 0) (.slice (some ⟨b13, 0, none⟩) 1 1) [1]), (En.mk ((List.replicate 32 0).set 0 64) (.slice (some ⟨b16, 0, none⟩) 1 1) [2])] _))
  refine WL.call TrydT.fb34 rfl (putAll_c (T := .nil) (M := []) (l := [(En.mk (List.replicate 32 0) (.slice (some ⟨b13, 0, none⟩) 1 1) [1]), (En.mk ((List.replicate 32 0).set 0 64) (.slice (some ⟨b16, 0, none⟩) 1 1) [2])]) (s := .slice (some ⟨b18, 0, none⟩) 2 2) (bits := 256) H.yylt (H.l 0 rfl) (by exact H.robL 0 rfl 6 rfl) (fun _ _ => trivial) (by exact (H.robL 0 rfl 0 rfl : Rob _ (SlE (.slice (some ⟨b18, 0, none⟩) 2 2) [(En.mk (List.replicate 32 0) (.slice (some ⟨b13, 0, none⟩) 1 1) [1]), (En.mk ((List.replicate 32 0).set 0 64) (.slice (some ⟨b16, 0, none⟩) 1 1) [2])]) _)) (by exact (((H.robL 0 rfl 4 rfl : Rob _ (SlB _ _) _)).and ((H.robL 0 rfl 2 rfl : Rob _ (SlB _ _) _))).imp fun _ h e he => (by rcases List.mem_cons.1 he with rfl | he; exact h.1; (rcases List.mem_cons.1 he with rfl | he; exact h.2; cases he))) (by exact H.robL 0 rfl 7 rfl) (by decide) (grow_nil 0).symm (fun _ h => by cases h) List.Pairwise.nil (two10 rfl rfl) (two10 (by show (1 : Nat) ≤ _; decide) (by show (1 : Nat) ≤ _; decide)) (by show (2 : Nat) ≤ _; decide)) ?_
  rintro _ w5 ⟨Tv21, mv21, rfl, hTv21, hO, hB, hR⟩
  replace H := H.calledR 0 rfl hO hB hR
  have hT09 := hTv21
  obtain ⟨a16, b16_, a1, a2, t1, t2, rfl⟩ := T09_of hTv21
  refine WL.as rfl rfl ?_
  refine WL.nil ?_
  refine WE.seq_reg ?_
  refine WL.mv rfl rfl ?_
  refine WL.mv rfl rfl ?_
  refine WL.pv (PV.buildA rfl TrydT.ar31 TrydT.sz5 TrydT.ze31 Fl.nil) rfl ?_
  refine WL.call TrydT.fb47 rfl (Remove2_c (T := (T09 a16 b16_ a1 a2 t1 t2)) (M := (putM (putM [] (En.mk (List.replicate 32 0) (.slice (some ⟨b13, 0, none⟩) 1 1) [1])) (En.mk ((List.replicate 32 0).set 0 64) (.slice (some ⟨b16, 0, none⟩) 1 1) [2]))) (k := (List.replicate 32 0)) (bits := 256) H.yylt (H.l 0 rfl) (by exact H.robL 0 rfl 7 rfl) (by exact H.robL 0 rfl 0 rfl) (by exact H.robL 0 rfl 8 rfl) (by decide) (by rfl) hT09 ((srt10 _ _).pm (kl10 _ _)) (by rw [lenn10]; decide)) ?_
  rintro _ w6 ⟨Tv26, cv26, fv26, rfl, hTv26, hfv26, hnv26, hO, hB, hR⟩
  replace H := H.calledR 0 rfl hO hB hR
  rw [has10] at hfv26
  subst hfv26
  rw [grow10] at hTv26
  obtain ⟨a26_, s26_, rfl⟩ := Tr.leaf_of hTv26
  refine WL.mv rfl rfl ?_
  refine WL.pv (PV.extract rfl rfl rfl) rfl ?_
  refine WL.pv (PV.extract rfl rfl rfl) rfl ?_
  refine WL.as rfl rfl ?_
  refine WL.as rfl rfl ?_
  refine WL.nil ?_
  refine WE.seq_reg ?_
  refine WL.mv rfl rfl ?_
  refine WL.mv rfl rfl ?_
  refine WL.pv (PV.buildA rfl TrydT.ar31 TrydT.sz5 TrydT.ze31 (Fl.cons rfl rfl rfl (Laid.byteA (x := 1) 0 (by simp)) Fl.nil)) rfl ?_
  refine WL.call TrydT.fb47 rfl (Remove2_c (T := (T09 a16 b16_ a1 a2 t1 t2)) (M := (putM (putM [] (En.mk (List.replicate 32 0) (.slice (some ⟨b13, 0, none⟩) 1 1) [1])) (En.mk ((List.replicate 32 0).set 0 64) (.slice (some ⟨b16, 0, none⟩) 1 1) [2]))) (k := ((List.replicate 32 0).set 0 1)) (bits := 256) H.yylt (H.l 0 rfl) (by exact H.robL 0 rfl 8 rfl) (by exact H.robL 0 rfl 1 rfl) (by exact H.robL 0 rfl 9 rfl) (by decide) (by rfl) hT09 ((srt10 _ _).pm (kl10 _ _)) (by rw [lenn10]; decide)) ?_
  rintro _ w7 ⟨Tv33, cv33, fv33, rfl, hTv33, hfv33, hnv33, hO, hB, hR⟩
  replace H := H.calledR 0 rfl hO hB hR
  rw [not10] at hfv33
  subst hfv33
  obtain ⟨rfl, -⟩ := hnv33 rfl
  refine WL.mv rfl rfl ?_
  refine WL.pv (PV.extract rfl rfl rfl) rfl ?_
  refine WL.pv (PV.extract rfl rfl rfl) rfl ?_
  refine WL.as rfl rfl ?_
  refine WL.as rfl rfl ?_
  refine WL.nil ?_
  refine WE.seq_reg ?_
  refine WL.mv rfl rfl ?_
  refine WL.mv rfl rfl ?_
  refine WL.pv (PV.buildA rfl TrydT.ar31 TrydT.sz5 TrydT.ze31 (Fl.cons rfl rfl rfl (Laid.byteA (x := 64) 0 (by simp)) Fl.nil)) rfl ?_
  refine WL.pv (PV.buildA rfl TrydT.ar31 TrydT.sz5 TrydT.ze31 Fl.nil) rfl ?_
  refine WL.pv (PV.buildA rfl TrydT.ar31 TrydT.sz5 TrydT.ze31 (Fl.cons rfl rfl rfl (Laid.byteA (x := 64) 0 (by simp)) Fl.nil)) rfl ?_
  refine WL.buildSliceF (l0 := (kc (List.replicate 32 0) ++ (kc (List.replicate 32 0) ++ (kc (List.replicate 32 0))))) H rfl TrydT.st53 (by decide) (by rfl) (Fl.cons rfl (by rfl) (by (simp [kc_length, kw_length, *]; done)) (Laid.left (Laid.all (by (simp [kc_length, kw_length, *]; done)))) (Fl.cons rfl (by rfl) (by with_reducible rfl) (Laid.right (Laid.left (Laid.all (by with_reducible rfl))) (by (simp [kc_length, kw_length, *]; done))) (Fl.cons rfl (by rfl) (by (simp [kc_length, kw_length, *]; done)) (Laid.right (Laid.right (Laid.all (by (simp [kc_length, kw_length, *]; done))) (by with_reducible rfl)) (by (simp [kc_length, kw_length, *]; done))) Fl.nil))) rfl ?_
  intro b42 w8 H
  replace H := H.freeze (i := 0) rfl
  replace H := H.add ((H.rob 0 rfl).imp fun _ h => (SlC.of_blk (n := 3) h rfl : SlK (.slice (some ⟨b42, 0, none⟩) 3 3) [((List.replicate 32 0).set 0 64), (List.replicate 32 0), ((List.replicate 32 0).set 0 64)] _))
  refine WL.call TrydT.fb48 rfl (rmAll_c (T := (T09 a16 b16_ a1 a2 t1 t2)) (M := (putM (putM [] (En.mk (List.replicate 32 0) (.slice (some ⟨b13, 0, none⟩) 1 1) [1])) (En.mk ((List.replicate 32 0).set 0 64) (.slice (some ⟨b16, 0, none⟩) 1 1) [2]))) (ks := [((List.replicate 32 0).set 0 64), (List.replicate 32 0), ((List.replicate 32 0).set 0 64)]) (s := .slice (some ⟨b42, 0, none⟩) 3 3) (bits := 256) H.yylt (H.l 0 rfl) (by exact H.robL 0 rfl 11 rfl) (by exact H.robL 0 rfl 2 rfl) (by exact (H.robL 0 rfl 0 rfl : Rob _ (SlK (.slice (some ⟨b42, 0, none⟩) 3 3) [((List.replicate 32 0).set 0 64), (List.replicate 32 0), ((List.replicate 32 0).set 0 64)]) _)) (by exact H.robL 0 rfl 12 rfl) (by decide) hT09 (kl10 _ _) (srt10 _ _) (k3210 rfl rfl rfl) (by rw [lenn10]; decide) (by decide)) ?_
  rintro _ w9 ⟨Tv43, mv43, rfl, hTv43, hO, hB, hR⟩
  rw [len10]
  replace H := H.calledR 0 rfl hO hB hR
  rw [all10] at hTv43
  obtain rfl := Tr.nil_er hTv43
  refine WL.mv rfl rfl ?_
  refine WL.pv (PV.extract rfl rfl rfl) rfl ?_
  refine WL.pv (PV.extract rfl rfl rfl) rfl ?_
  refine WL.as rfl rfl ?_
  refine WL.as rfl rfl ?_
  refine WL.nil ?_
  refine WE.seq_reg ?_
  refine WL.mv rfl rfl ?_
  refine WL.call TrydT.fb39 rfl (NKind_c (T := .leaf a26_ _ _ s26_) (bits := 256) H.yylt (by exact H.rob 4 rfl) ) ?_
  rintro _ w10 ⟨rfl, hO⟩
  replace H := H.out hO
  refine WL.pv (PV.eql rfl rfl rfl) rfl ?_
  refine WL.mv rfl rfl ?_
  refine WL.known (t := 49) (c := true) rfl (by rfl) ?_
  refine WL.mv rfl rfl ?_
  refine WL.call TrydT.fb37 rfl (Entry_c (T := .leaf a26_ _ _ s26_) (bits := 256) H.yylt (by exact H.rob 4 rfl) ) ?_
  rintro _ w11 ⟨sv51, rfl, hO, hOwn⟩
  have hs1v51 := SlC.one1 (SlB.of_own hOwn)
  have hr_ := (rob_own H.yylt hOwn).imp fun _ h => SlB.of_own h
  replace H := (H.out hO).add hr_
  refine WL.pv (PV.fieldV rfl TrydT.fd34_0 rfl (PartAt.agg TrydT.ag31 (by exact TrydT.sz31) (Seg.l (Seg.all _)))) rfl ?_
  refine WL.pv (PV.buildA rfl TrydT.ar31 TrydT.sz5 TrydT.ze31 (Fl.cons rfl rfl rfl (Laid.byteA (x := 64) 0 (by simp)) Fl.nil)) rfl ?_
  refine WL.pv (PV.eqlB rfl TrydT.ar31 TrydT.in5 TrydT.sz5 (by kernel_rfl) rfl rfl (by exact rfl) (by exact rfl)) rfl ?_
  refine WL.pv (PV.pick_t rfl rfl rfl) rfl ?_
  refine WL.mv rfl rfl ?_
  refine WL.known (t := 56) (c := true) rfl (by rfl) ?_
  refine WL.mv rfl rfl ?_
  refine WL.pv (PV.pick_t rfl rfl rfl) rfl ?_
  refine WL.mv rfl rfl ?_
  refine WL.known (t := 59) (c := true) rfl (by rfl) ?_
  refine WL.mv rfl rfl ?_
  refine WL.mv rfl rfl ?_
  refine WL.pv (PV.eqlPP rfl TrydT.pt23 (by rw [TrydT.sz109]; rfl) rfl rfl) rfl ?_
  refine WL.pv (PV.pick_t rfl rfl rfl) rfl ?_
  refine WL.mv rfl rfl ?_
  refine WL.known (t := 64) (c := true) rfl (by rfl) ?_
  refine WL.mv rfl rfl ?_
  refine WL.pv (PV.not rfl rfl) rfl ?_
  refine WL.pv (PV.pick_t rfl rfl rfl) rfl ?_
  refine WL.mv rfl rfl ?_
  refine WL.known (t := 68) (c := true) rfl (by rfl) ?_
  refine WL.mv rfl rfl ?_
  refine WL.pv (PV.eqlPn rfl TrydT.pt23 rfl rfl) rfl ?_
  refine WL.pv (PV.pick_t rfl rfl rfl) rfl ?_
  refine WL.mv rfl rfl ?_
  refine WL.known (t := 72) (c := true) rfl (by rfl) ?_
  refine WL.mv rfl rfl ?_
  refine WL.pv (PV.eql rfl rfl rfl) rfl ?_
  refine WL.pv (PV.pick_t rfl rfl rfl) rfl ?_
  refine WL.as rfl rfl ?_
  refine WL.nil ?_
  refine WE.ret ?_
  refine ⟨[_], _, .nil _, ⟨rfl, trivial⟩, ?_⟩
  refine ⟨?_, H.toOut0⟩
  rfl

end Go.Sp.Tryd

