/- Walks of functions, printed by a program of this session (gen.py) from notes on each function. -/
import Derived.Test.YtcclagdjpoimaaaGreatDoorGD
set_option maxRecDepth 100000
set_option maxHeartbeats 1000000
set_option linter.unusedVariables false
set_option linter.unusedSimpArgs false
namespace Go.Sp.Tryz
open Go.Proofs Go.RowKit Go.Sp

def kv (e : En) : List UInt8 × List UInt8 := (e.k, e.v)
theorem part_kv {m m' : List En} {d b : Nat} (h : m.map kv = m'.map kv) : (partM m d b).map kv = (partM m' d b).map kv := by
  have e : ∀ l : List En, (partM l d b).map kv = (l.map kv).filter fun p => bitN p.1 d == b := fun l => by
    unfold partM
    rw [List.filter_map]; rfl
  rw [e, e, h]
theorem growS_kv : ∀ (n d : Nat) (m m' : List En), m.map kv = m'.map kv → growS n d m = growS n d m' := by
  intro n
  induction n with
  | zero =>
    intro d m m' h
    match m, m', h with
    | [], [], _ => rfl
    | [a], [b], h => simp [kv] at h; show Sh.leaf _ _ = Sh.leaf _ _; rw [h.1, h.2]
    | [_], _ :: _ :: _, h => simp at h
    | _ :: _ :: _, [_], h => simp at h
    | a :: x :: m, b :: y :: m', h => simp [kv] at h; show Sh.leaf _ _ = Sh.leaf _ _; rw [h.1.1, h.1.2]
  | succ n ih =>
    intro d m m' h
    match m, m', h with
    | [], [], _ => rfl
    | [a], [b], h => simp [kv] at h; show Sh.leaf _ _ = Sh.leaf _ _; rw [h.1, h.2]
    | [_], _ :: _ :: _, h => simp at h
    | _ :: _ :: _, [_], h => simp at h
    | a :: x :: m, b :: y :: m', h =>
      show Sh.inner _ _ = Sh.inner _ _
      rw [ih _ _ _ (part_kv h), ih _ _ _ (part_kv h)]
theorem grow_kv {d : Nat} {m m' : List En} (h : m.map kv = m'.map kv) : grow d m = grow d m' := growS_kv _ d m m' h
theorem Vals.put {m : List En} {e : En} {w : World} (h : Vals m w) (he : SlB e.s e.v w) : Vals (putM m e) w := fun x hx => by
  rcases mem_putM.1 hx with rfl | hx
  · exact he
  · exact h x hx.1
theorem ShortV.put {m : List En} {e : En} (h : ShortV m) (he : e.v.length ≤ 1000000) : ShortV (putM m e) := fun x hx => by
  rcases mem_putM.1 hx with rfl | hx
  · exact he
  · exact h x hx.1
def T09 (a b a1 a2 : Nat) (s1 s2 : Value) : Tr := .inner a (.inner b (.leaf a1 (List.replicate 32 0) [1] s1) (.leaf a2 ((List.replicate 32 0).set 0 64) [2] s2)) .nil
end Go.Sp.Tryz

set_option maxRecDepth 100000
set_option maxHeartbeats 1000000
set_option linter.unusedVariables false
set_option linter.unusedSimpArgs false
namespace Go.Sp.Tryz
open Go.Proofs Go.RowKit Go.Sp

theorem Srt.ext : ∀ {a b : List En}, Srt a → Srt b → (∀ e, e ∈ a ↔ e ∈ b) → a = b
  | [], [], _, _, _ => rfl
  | [], y :: b, _, _, h => by have := (h y).2 (by simp); cases this
  | x :: a, [], _, _, h => by have := (h x).1 (by simp); cases this
  | x :: a, y :: b, ha, hb, h => by
    have ha1 := List.pairwise_cons.1 ha
    have hb1 := List.pairwise_cons.1 hb
    have hxy : x = y := by
      rcases List.mem_cons.1 ((h x).1 (by simp)) with h1 | h1
      · exact h1
      · rcases List.mem_cons.1 ((h y).2 (by simp)) with h2 | h2
        · exact h2.symm
        · have := hb1.1 x h1; have := ha1.1 y h2; omega
    subst hxy
    congr 1
    refine Srt.ext ha1.2 hb1.2 fun e => ⟨fun he => ?_, fun he => ?_⟩
    · rcases List.mem_cons.1 ((h e).1 (List.mem_cons_of_mem _ he)) with h1 | h1
      · subst h1; have := ha1.1 e he; omega
      · exact h1
    · rcases List.mem_cons.1 ((h e).2 (List.mem_cons_of_mem _ he)) with h1 | h1
      · subst h1; have := hb1.1 e he; omega
      · exact h1
theorem Srt.at {m : List En} {k : List UInt8} {d : Nat} (h : Srt m) : ∀ i, Srt (atM k d m i)
  | 0 => h
  | i + 1 => (Srt.at h i).filter _
end Go.Sp.Tryz

set_option maxRecDepth 100000
set_option maxHeartbeats 1000000
set_option linter.unusedVariables false
set_option linter.unusedSimpArgs false
namespace Go.Sp.Tryz
open Go.Proofs Go.RowKit Go.Sp
theorem rmdefT_d {X : Nat → Prop} {w : World} {b9 b5 b8 : Nat} {N R : Value} (hX : ∀ b, X b → b < w.heap.size) (ho0 : Blk w b8 23 ([R])) (hf0 : Rob (fun c_ => X c_ ∨ c_ = b8) (fun w => RdA w ⟨b9, 0, none⟩ [.bool true]) w) (hf1 : Rob (fun c_ => X c_ ∨ c_ = b8) (fun w => RdA w ⟨b5, 0, none⟩ [N]) w) :
    RetD Tryz.prog 84 [.pointer (some ⟨b9, 0, none⟩), .pointer (some ⟨b5, 0, none⟩), .pointer (some ⟨b8, 0, none⟩)].toArray w fun w' => Out (· = b8) w w' ∧ Blk w' b8 23 [R] := by
  refine RetD.of_body (N := 6) Tryz.func84 rfl rfl (by simp) ?_
  have H := St.begin1 (b := b8) (t := 23) (l := [R]) hX ho0
  replace H := H.add (rob1 hf1)
  replace H := H.add (rob1 hf0)
  refine WE.seq_reg ?_
  refine WL.load1 rfl TryzT.ag4 rfl rfl (H.p 0 rfl) ?_
  refine WL.pv (PV.not rfl rfl) rfl ?_
  refine WL.nil ?_
  refine WE.cond_f' rfl rfl ?_
  refine WE.skip ?_
  refine ⟨rfl, ⟨[], trivial⟩, ?_⟩
  exact ⟨H.toOut1, H.o 0 rfl⟩

theorem rmdefF_d {X : Nat → Prop} {w : World} {b9 b5 b8 : Nat} {N R : Value} (hX : ∀ b, X b → b < w.heap.size) (ho0 : Blk w b8 23 ([R])) (hf0 : Rob (fun c_ => X c_ ∨ c_ = b8) (fun w => RdA w ⟨b9, 0, none⟩ [.bool false]) w) (hf1 : Rob (fun c_ => X c_ ∨ c_ = b8) (fun w => RdA w ⟨b5, 0, none⟩ [N]) w) (hN : N.oneCell' = true) :
    RetD Tryz.prog 84 [.pointer (some ⟨b9, 0, none⟩), .pointer (some ⟨b5, 0, none⟩), .pointer (some ⟨b8, 0, none⟩)].toArray w fun w' => Out (· = b8) w w' ∧ Blk w' b8 23 [N] := by
  refine RetD.of_body (N := 6) Tryz.func84 rfl rfl (by simp) ?_
  have H := St.begin1 (b := b8) (t := 23) (l := [R]) hX ho0
  replace H := H.add (rob1 hf1)
  replace H := H.add (rob1 hf0)
  refine WE.seq_reg ?_
  refine WL.load1 rfl TryzT.ag4 rfl rfl (H.p 0 rfl) ?_
  refine WL.pv (PV.not rfl rfl) rfl ?_
  refine WL.nil ?_
  refine WE.cond_t' rfl rfl ?_
  refine WE.reg ?_
  refine WL.load1 rfl TryzT.ag23 rfl rfl (H.p 1 rfl) ?_
  refine WL.storeO H 0 rfl rfl rfl (new := [N]) (cells_one hN) (by exact TryzT.sz23) (one_sing hN) (Laid.at (Laid.all (by (simp only [kc_length, kw_length, List.length_replicate, List.length_append, List.length_cons, List.length_nil, cutI_length, shaOf_length, dig_length, valD_length, rootM_length]; done))) (by rfl)) rfl ?_
  intro w1 H
  refine WL.nil ?_
  refine ⟨rfl, ⟨[], trivial⟩, ?_⟩
  exact ⟨H.toOut1, H.o 0 rfl⟩

def hasM (m : List En) (k : List UInt8) : Bool := (getM m k).isSome
theorem hasM_part {m : List En} {k : List UInt8} {d : Nat} : hasM (partM m d (bitN k d)) k = hasM m k := by unfold hasM; rw [getM_part]
theorem rmM_not {m : List En} {k : List UInt8} (h : hasM m k = false) : rmM m k = m := by
  unfold rmM
  rw [List.filter_eq_self]
  intro e he
  simp
  intro hk
  unfold hasM getM at h
  have : (m.find? fun e => e.k == k) = none := by simpa using h
  rw [List.find?_eq_none] at this
  exact this e he (by simpa using hk)

theorem RmNil_c {X : Nat → Prop} {w : World} {bh bc : Nat} {bits c0 : Int} {M : List En} {k : List UInt8} {d : Nat}  (hX : ∀ b, X b → b < w.heap.size) (ho0 : Blk w bc 108 ([.int .i64 c0])) (hf0 : Rob (fun c_ => X c_ ∨ c_ = bc) (HAt bh bc bits) w) (hf1 : Rob (fun c_ => X c_ ∨ c_ = bc) (Rounds) w) (hbits : 0 ≤ bits ∧ bits ≤ 256) (hk : k.length = 32) (hT : Tr.nil.er = grow d M) (hpm : Pm d M) :
    Ret Tryz.prog 54 [.pointer (some ⟨bh, 0, none⟩), Tr.nil.ptr, .agg (kc k).toArray, .int .i64 (d : Int)].toArray w fun v w' => ∃ (T : Tr) (c : Int) (f : Bool), v = .tuple [T.ptr, .bool f].toArray ∧ T.er = grow d (rmM M k) ∧ f = hasM M k ∧ (f = false → T = Tr.nil ∧ c = c0) ∧ Out (· = bc) w w' ∧ Blk w' bc 108 [.int .i64 c] ∧ Rob (fun c => X c ∨ c = bc) (TrA bits T) w' := by
  refine Ret.of_bodyF (N := 57) Tryz.func54 rfl rfl (by simp) ?_
  have H := St.begin1 (b := bc) (t := 108) (l := [.int .i64 c0]) hX ho0
  replace H := H.add (rob1 hf1)
  replace H := H.add (rob1 hf0)
  obtain rfl : M = [] := (by have h_ := hpm.cnt; rw [← hT] at h_; exact List.eq_nil_of_length_eq_zero h_.symm)
  refine WE.seq_reg ?_
  refine WL.box (l := [Tr.nil.ptr]) H rfl (rfl) rfl ?_
  intro b5 w1 H
  refine WL.box (l := kc k) H rfl (by rfl) rfl ?_
  intro b6 w2 H
  refine WL.alloc H rfl TryzT.ze23 rfl ?_
  intro b8 w3 H
  refine WL.alloc H rfl TryzT.ze4 rfl ?_
  intro b9 w4 H
  refine WL.nil ?_
  refine WE.seq_reg ?_
  refine WL.pv (PV.makeFunc rfl) rfl ?_
  refine WL.defer rfl rfl rfl rfl rfl ?_
  refine WL.nil ?_
  refine WE.seq ?_
  refine WE.seq_reg ?_
  refine WL.load1 rfl TryzT.ag23 rfl rfl (by exact Blk.segAt (H.l 3 rfl) (Seg.all _) (by rfl)) ?_
  refine WL.call TryzT.fb56 rfl (NKind_c (T := .nil) (bits := bits) H.yylt (by exact fun _ _ => trivial) ) ?_
  rintro _ w5 ⟨rfl, hO⟩
  replace H := H.out hO
  refine WL.nil ?_
  refine WE.block ?_
  refine WE.seq_reg ?_
  refine WL.pv (PV.eql rfl rfl rfl) rfl ?_
  refine WL.as rfl rfl ?_
  refine WL.nil ?_
  refine WE.cond_f' rfl rfl ?_
  refine WE.seq_reg ?_
  refine WL.pv (PV.eql rfl rfl rfl) rfl ?_
  refine WL.as rfl rfl ?_
  refine WL.nil ?_
  refine WE.cond_f' rfl rfl ?_
  refine WE.skip ?_
  refine WE.seq_draw (.take 0 (.take 1 (.pick1 2 (.pick1 3 .done)))) TryzT.mixed (by kernel_rfl) ?_
  replace H := H.out (Out.drew _)
  refine WP.take_read rfl rfl (RV.loadOne rfl TryzT.ag23 rfl) (by exact Blk.segAt (H.l 1 rfl) (Seg.all _) (by rfl)) ?_
  refine WP.take_read rfl rfl (RV.loadOne rfl TryzT.ag4 rfl) (by exact Blk.segAt (H.l 0 rfl) (Seg.all _) (by rfl)) ?_
  refine WP.pick1 rfl ?_
  refine WL.storeL H 1 rfl rfl rfl (new := _) rfl (by exact TryzT.sz23) (by exact one_lit _ rfl) (Laid.at (Laid.all (by (simp only [kc_length, kw_length, List.length_replicate, List.length_append, List.length_cons, List.length_nil, cutI_length, shaOf_length, dig_length, valD_length, rootM_length]; done))) (by rfl)) rfl ?_
  intro w6 H
  refine WL.nil ⟨(List.forall_mem_cons.2 ⟨(fun _ _ => (by exact Blk.segAt (H.l 0 rfl) (Seg.all _) (by rfl))), (List.forall_mem_cons.2 ⟨(by exact (fun h => absurd (show waits _ 2 0 = false from h) (by decide +kernel))), (fun _ h => by cases h)⟩)⟩), ?_⟩
  refine WP.pick1 rfl ?_
  refine WL.storeL H 0 rfl rfl rfl (new := _) rfl (by exact TryzT.sz4) (by exact one_lit _ rfl) (Laid.at (Laid.all (by (simp only [kc_length, kw_length, List.length_replicate, List.length_append, List.length_cons, List.length_nil, cutI_length, shaOf_length, dig_length, valD_length, rootM_length]; done))) (by rfl)) rfl ?_
  intro w7 H
  refine WL.nil ⟨(List.forall_mem_cons.2 ⟨(by exact (fun h => absurd (show waits _ 3 1 = false from h) (by decide +kernel))), (List.forall_mem_cons.2 ⟨(by exact (fun h => absurd (show waits _ 3 0 = false from h) (by decide +kernel))), (fun _ h => by cases h)⟩)⟩), ?_⟩
  refine WP.done ?_
  refine WE.ret ?_
  refine Or.inr ⟨_, _, _, _, rfl, TryzT.fb84, (by exact rmdefF_d (X := Nil) (nilX _) (H.l 1 rfl) (((H.robLL 1 0 rfl rfl (by decide)).imp fun _ h => Blk.rd h).wk2) (((H.robLL 1 3 rfl rfl (by decide)).imp fun _ h => Blk.rd h).wk2) rfl), ?_⟩
  rintro w8 ⟨hO, hB⟩
  replace H := H.called 1 rfl hO hB
  refine ⟨[_, _], ⟨⟨_, rfl, run_loadVar_one TryzT.ag23 (by exact Blk.segAt (H.l 1 rfl) (Seg.all _) rfl)⟩, ⟨_, rfl, run_loadVar_one TryzT.ag4 (by exact Blk.segAt (H.l 0 rfl) (Seg.all _) rfl)⟩, trivial⟩, ?_⟩
  refine ⟨.nil, c0, false, rfl, ?_, ?_, ?_, H.toOut1, H.o 0 rfl, ?_⟩
  · exact (grow_nil d).symm
  · rfl
  · exact fun _ => ⟨rfl, rfl⟩
  · exact fun _ _ => trivial

theorem RmLeafEq_c {X : Nat → Prop} {w : World} {bh bc : Nat} {bits c0 : Int} {M : List En} {k : List UInt8} {d : Nat} {a : Nat} {q u : List UInt8} {s : Value} (hX : ∀ b, X b → b < w.heap.size) (ho0 : Blk w bc 108 ([.int .i64 c0])) (hf0 : Rob (fun c_ => X c_ ∨ c_ = bc) (HAt bh bc bits) w) (hf1 : Rob (fun c_ => X c_ ∨ c_ = bc) (TrA bits (Tr.leaf a q u s)) w) (hf2 : Rob (fun c_ => X c_ ∨ c_ = bc) (Rounds) w) (hbits : 0 ≤ bits ∧ bits ≤ 256) (hk : k.length = 32) (hT : (Tr.leaf a q u s).er = grow d M) (hpm : Pm d M) (hqk : q = k) :
    Ret Tryz.prog 54 [.pointer (some ⟨bh, 0, none⟩), (Tr.leaf a q u s).ptr, .agg (kc k).toArray, .int .i64 (d : Int)].toArray w fun v w' => ∃ (T : Tr) (c : Int) (f : Bool), v = .tuple [T.ptr, .bool f].toArray ∧ T.er = grow d (rmM M k) ∧ f = hasM M k ∧ (f = false → T = (Tr.leaf a q u s) ∧ c = c0) ∧ Out (· = bc) w w' ∧ Blk w' bc 108 [.int .i64 c] ∧ Rob (fun c => X c ∨ c = bc) (TrA bits T) w' := by
  refine Ret.of_bodyF (N := 57) Tryz.func54 rfl rfl (by simp) ?_
  have H := St.begin1 (b := bc) (t := 108) (l := [.int .i64 c0]) hX ho0
  replace H := H.add (rob1 hf2)
  replace H := H.add (rob1 hf1)
  replace H := H.add (rob1 hf0)
  obtain ⟨e, rfl⟩ : ∃ e, M = [e] := by have h_ := hpm.cnt; rw [← hT] at h_; exact List.length_eq_one_iff.1 h_.symm
  rw [grow_one] at hT
  have hqe : q = e.k := by injection hT
  have hvu := valD_length bits u
  have hq : q.length = 32 := by rw [hqe]; exact hpm.kl e (by simp)
  refine WE.seq_reg ?_
  refine WL.box (l := [(Tr.leaf a q u s).ptr]) H rfl (rfl) rfl ?_
  intro b5 w1 H
  refine WL.box (l := kc k) H rfl (by rfl) rfl ?_
  intro b6 w2 H
  refine WL.alloc H rfl TryzT.ze23 rfl ?_
  intro b8 w3 H
  refine WL.alloc H rfl TryzT.ze4 rfl ?_
  intro b9 w4 H
  refine WL.nil ?_
  refine WE.seq_reg ?_
  refine WL.pv (PV.makeFunc rfl) rfl ?_
  refine WL.defer rfl rfl rfl rfl rfl ?_
  refine WL.nil ?_
  refine WE.seq ?_
  refine WE.seq_reg ?_
  refine WL.load1 rfl TryzT.ag23 rfl rfl (by exact Blk.segAt (H.l 3 rfl) (Seg.all _) (by rfl)) ?_
  refine WL.call TryzT.fb56 rfl (NKind_c (T := (Tr.leaf a q u s)) (bits := bits) H.yylt (by exact H.rob 1 rfl) ) ?_
  rintro _ w5 ⟨rfl, hO⟩
  replace H := H.out hO
  refine WL.nil ?_
  refine WE.block ?_
  refine WE.seq_reg ?_
  refine WL.pv (PV.eql rfl rfl rfl) rfl ?_
  refine WL.as rfl rfl ?_
  refine WL.nil ?_
  refine WE.cond_t' rfl rfl ?_
  refine WE.seq_draw (.take 0 (.take 3 (.pick1 1 (.take 2 (.take 4 (.pick1 5 (.pick1 6 .done))))))) TryzT.mixed (by kernel_rfl) ?_
  replace H := H.out (Out.drew _)
  refine WP.take_read rfl rfl (RV.loadOne rfl TryzT.ag23 rfl) (by exact Blk.segAt (H.l 3 rfl) (Seg.all _) (by rfl)) ?_
  refine WP.readA rfl rfl rfl TryzT.ag31 rfl (by exact Blk.segAt (H.l 2 rfl) (Seg.all _) (by rfl)) (by (rw [TryzT.sz31]; refine congrArg some ?_; (simp only [kc_length, kw_length, List.length_replicate, List.length_append, List.length_cons, List.length_nil, cutI_length, shaOf_length, dig_length, valD_length, rootM_length]; omega))) ?_
  refine WP.pick1 rfl ?_
  refine WL.call TryzT.fb62 rfl (show Ret _ _ _ _ (fun v w' => v = .agg (kc q ++ kc (valD bits u)).toArray ∧ Out Nil _ w') from Leaf2_c (T := (Tr.leaf a q u s)) (bits := bits) H.yylt (H.rob 1 rfl)) ?_
  rintro _ w6 ⟨rfl, hO⟩
  replace H := H.out hO
  refine WL.nil ⟨(List.forall_mem_cons.2 ⟨(fun _ _ => (by exact Blk.segAt (H.l 2 rfl) (Seg.all _) (by rfl))), (List.forall_mem_cons.2 ⟨(by exact (fun h => absurd (show waits _ 1 0 = false from h) (by decide +kernel))), (fun _ h => by cases h)⟩)⟩), ?_⟩
  refine WP.take_pure rfl rfl (PV.fieldV rfl TryzT.fd93_0 rfl (PartAt.agg TryzT.ag31 (by (rw [TryzT.sz31]; refine congrArg some ?_; (simp only [kc_length, kw_length, List.length_replicate, List.length_append, List.length_cons, List.length_nil, cutI_length, shaOf_length, dig_length, valD_length, rootM_length]; omega))) (Seg.l (Seg.all _)))) ?_
  refine WP.take_pure rfl rfl (PV.eq (v' := .bool true) (PV.eqlB rfl TryzT.ar31 TryzT.in5 TryzT.sz5 (by kernel_rfl) rfl rfl hq hk) (by simp [hqk])) ?_
  refine WP.pick1 rfl ?_
  refine WL.storeL H 1 rfl rfl rfl (new := _) rfl (by exact TryzT.sz23) (by exact one_lit _ rfl) (Laid.at (Laid.all (by (simp only [kc_length, kw_length, List.length_replicate, List.length_append, List.length_cons, List.length_nil, cutI_length, shaOf_length, dig_length, valD_length, rootM_length]; done))) (by rfl)) rfl ?_
  intro w7 H
  refine WL.nil ⟨(List.forall_mem_cons.2 ⟨(fun _ _ => (by exact Blk.segAt (H.l 2 rfl) (Seg.all _) (by rfl))), (List.forall_mem_cons.2 ⟨(by exact (fun h => absurd (show waits _ 5 0 = false from h) (by decide +kernel))), (fun _ h => by cases h)⟩)⟩), ?_⟩
  refine WP.pick1 rfl ?_
  refine WL.storeL H 0 rfl rfl rfl (new := _) rfl (by exact TryzT.sz4) (by exact one_lit _ rfl) (Laid.at (Laid.all (by (simp only [kc_length, kw_length, List.length_replicate, List.length_append, List.length_cons, List.length_nil, cutI_length, shaOf_length, dig_length, valD_length, rootM_length]; done))) (by rfl)) rfl ?_
  intro w8 H
  refine WL.nil ⟨(List.forall_mem_cons.2 ⟨(by exact (fun h => absurd (show waits _ 6 3 = false from h) (by decide +kernel))), (List.forall_mem_cons.2 ⟨(by exact (fun h => absurd (show waits _ 6 0 = false from h) (by decide +kernel))), (fun _ h => by cases h)⟩)⟩), ?_⟩
  refine WP.done ?_
  refine WE.ret ?_
  refine Or.inr ⟨_, _, _, _, rfl, TryzT.fb84, (by exact rmdefT_d (X := Nil) (nilX _) (H.l 1 rfl) (((H.robLL 1 0 rfl rfl (by decide)).imp fun _ h => Blk.rd h).wk2) (((H.robLL 1 3 rfl rfl (by decide)).imp fun _ h => Blk.rd h).wk2)), ?_⟩
  rintro w9 ⟨hO, hB⟩
  replace H := H.called 1 rfl hO hB
  refine ⟨[_, _], ⟨⟨_, rfl, run_loadVar_one TryzT.ag23 (by exact Blk.segAt (H.l 1 rfl) (Seg.all _) rfl)⟩, ⟨_, rfl, run_loadVar_one TryzT.ag4 (by exact Blk.segAt (H.l 0 rfl) (Seg.all _) rfl)⟩, trivial⟩, ?_⟩
  refine ⟨.nil, c0, true, rfl, ?_, ?_, ?_, H.toOut1, H.o 0 rfl, ?_⟩
  · rw [show rmM [e] k = [] by simp [rmM, ← hqe, hqk], grow_nil]; rfl
  · simp [hasM, getM, ← hqe, hqk]
  · exact fun h => by cases h
  · exact fun _ _ => trivial

theorem RmLeafNe_c {X : Nat → Prop} {w : World} {bh bc : Nat} {bits c0 : Int} {M : List En} {k : List UInt8} {d : Nat} {a : Nat} {q u : List UInt8} {s : Value} (hX : ∀ b, X b → b < w.heap.size) (ho0 : Blk w bc 108 ([.int .i64 c0])) (hf0 : Rob (fun c_ => X c_ ∨ c_ = bc) (HAt bh bc bits) w) (hf1 : Rob (fun c_ => X c_ ∨ c_ = bc) (TrA bits (Tr.leaf a q u s)) w) (hf2 : Rob (fun c_ => X c_ ∨ c_ = bc) (Rounds) w) (hbits : 0 ≤ bits ∧ bits ≤ 256) (hk : k.length = 32) (hT : (Tr.leaf a q u s).er = grow d M) (hpm : Pm d M) (hqk : q ≠ k) :
    Ret Tryz.prog 54 [.pointer (some ⟨bh, 0, none⟩), (Tr.leaf a q u s).ptr, .agg (kc k).toArray, .int .i64 (d : Int)].toArray w fun v w' => ∃ (T : Tr) (c : Int) (f : Bool), v = .tuple [T.ptr, .bool f].toArray ∧ T.er = grow d (rmM M k) ∧ f = hasM M k ∧ (f = false → T = (Tr.leaf a q u s) ∧ c = c0) ∧ Out (· = bc) w w' ∧ Blk w' bc 108 [.int .i64 c] ∧ Rob (fun c => X c ∨ c = bc) (TrA bits T) w' := by
  refine Ret.of_bodyF (N := 57) Tryz.func54 rfl rfl (by simp) ?_
  have H := St.begin1 (b := bc) (t := 108) (l := [.int .i64 c0]) hX ho0
  replace H := H.add (rob1 hf2)
  replace H := H.add (rob1 hf1)
  replace H := H.add (rob1 hf0)
  obtain ⟨e, rfl⟩ : ∃ e, M = [e] := by have h_ := hpm.cnt; rw [← hT] at h_; exact List.length_eq_one_iff.1 h_.symm
  rw [grow_one] at hT
  have hqe : q = e.k := by injection hT
  have hvu := valD_length bits u
  have hq : q.length = 32 := by rw [hqe]; exact hpm.kl e (by simp)
  refine WE.seq_reg ?_
  refine WL.box (l := [(Tr.leaf a q u s).ptr]) H rfl (rfl) rfl ?_
  intro b5 w1 H
  refine WL.box (l := kc k) H rfl (by rfl) rfl ?_
  intro b6 w2 H
  refine WL.alloc H rfl TryzT.ze23 rfl ?_
  intro b8 w3 H
  refine WL.alloc H rfl TryzT.ze4 rfl ?_
  intro b9 w4 H
  refine WL.nil ?_
  refine WE.seq_reg ?_
  refine WL.pv (PV.makeFunc rfl) rfl ?_
  refine WL.defer rfl rfl rfl rfl rfl ?_
  refine WL.nil ?_
  refine WE.seq ?_
  refine WE.seq_reg ?_
  refine WL.load1 rfl TryzT.ag23 rfl rfl (by exact Blk.segAt (H.l 3 rfl) (Seg.all _) (by rfl)) ?_
  refine WL.call TryzT.fb56 rfl (NKind_c (T := (Tr.leaf a q u s)) (bits := bits) H.yylt (by exact H.rob 1 rfl) ) ?_
  rintro _ w5 ⟨rfl, hO⟩
  replace H := H.out hO
  refine WL.nil ?_
  refine WE.block ?_
  refine WE.seq_reg ?_
  refine WL.pv (PV.eql rfl rfl rfl) rfl ?_
  refine WL.as rfl rfl ?_
  refine WL.nil ?_
  refine WE.cond_t' rfl rfl ?_
  refine WE.seq_draw (.take 0 (.take 3 (.pick1 1 (.take 2 (.take 4 (.pick1 5 (.pick1 6 .done))))))) TryzT.mixed (by kernel_rfl) ?_
  replace H := H.out (Out.drew _)
  refine WP.take_read rfl rfl (RV.loadOne rfl TryzT.ag23 rfl) (by exact Blk.segAt (H.l 3 rfl) (Seg.all _) (by rfl)) ?_
  refine WP.readA rfl rfl rfl TryzT.ag31 rfl (by exact Blk.segAt (H.l 2 rfl) (Seg.all _) (by rfl)) (by (rw [TryzT.sz31]; refine congrArg some ?_; (simp only [kc_length, kw_length, List.length_replicate, List.length_append, List.length_cons, List.length_nil, cutI_length, shaOf_length, dig_length, valD_length, rootM_length]; omega))) ?_
  refine WP.pick1 rfl ?_
  refine WL.call TryzT.fb62 rfl (show Ret _ _ _ _ (fun v w' => v = .agg (kc q ++ kc (valD bits u)).toArray ∧ Out Nil _ w') from Leaf2_c (T := (Tr.leaf a q u s)) (bits := bits) H.yylt (H.rob 1 rfl)) ?_
  rintro _ w6 ⟨rfl, hO⟩
  replace H := H.out hO
  refine WL.nil ⟨(List.forall_mem_cons.2 ⟨(fun _ _ => (by exact Blk.segAt (H.l 2 rfl) (Seg.all _) (by rfl))), (List.forall_mem_cons.2 ⟨(by exact (fun h => absurd (show waits _ 1 0 = false from h) (by decide +kernel))), (fun _ h => by cases h)⟩)⟩), ?_⟩
  refine WP.take_pure rfl rfl (PV.fieldV rfl TryzT.fd93_0 rfl (PartAt.agg TryzT.ag31 (by (rw [TryzT.sz31]; refine congrArg some ?_; (simp only [kc_length, kw_length, List.length_replicate, List.length_append, List.length_cons, List.length_nil, cutI_length, shaOf_length, dig_length, valD_length, rootM_length]; omega))) (Seg.l (Seg.all _)))) ?_
  refine WP.take_pure rfl rfl (PV.eq (v' := .bool false) (PV.eqlB rfl TryzT.ar31 TryzT.in5 TryzT.sz5 (by kernel_rfl) rfl rfl hq hk) (by simp [hqk])) ?_
  refine WP.pick1 rfl ?_
  refine WL.storeL H 1 rfl rfl rfl (new := _) rfl (by exact TryzT.sz23) (by exact one_lit _ rfl) (Laid.at (Laid.all (by (simp only [kc_length, kw_length, List.length_replicate, List.length_append, List.length_cons, List.length_nil, cutI_length, shaOf_length, dig_length, valD_length, rootM_length]; done))) (by rfl)) rfl ?_
  intro w7 H
  refine WL.nil ⟨(List.forall_mem_cons.2 ⟨(fun _ _ => (by exact Blk.segAt (H.l 2 rfl) (Seg.all _) (by rfl))), (List.forall_mem_cons.2 ⟨(by exact (fun h => absurd (show waits _ 5 0 = false from h) (by decide +kernel))), (fun _ h => by cases h)⟩)⟩), ?_⟩
  refine WP.pick1 rfl ?_
  refine WL.storeL H 0 rfl rfl rfl (new := _) rfl (by exact TryzT.sz4) (by exact one_lit _ rfl) (Laid.at (Laid.all (by (simp only [kc_length, kw_length, List.length_replicate, List.length_append, List.length_cons, List.length_nil, cutI_length, shaOf_length, dig_length, valD_length, rootM_length]; done))) (by rfl)) rfl ?_
  intro w8 H
  refine WL.nil ⟨(List.forall_mem_cons.2 ⟨(by exact (fun h => absurd (show waits _ 6 3 = false from h) (by decide +kernel))), (List.forall_mem_cons.2 ⟨(by exact (fun h => absurd (show waits _ 6 0 = false from h) (by decide +kernel))), (fun _ h => by cases h)⟩)⟩), ?_⟩
  refine WP.done ?_
  refine WE.ret ?_
  refine Or.inr ⟨_, _, _, _, rfl, TryzT.fb84, (by exact rmdefF_d (X := Nil) (nilX _) (H.l 1 rfl) (((H.robLL 1 0 rfl rfl (by decide)).imp fun _ h => Blk.rd h).wk2) (((H.robLL 1 3 rfl rfl (by decide)).imp fun _ h => Blk.rd h).wk2) rfl), ?_⟩
  rintro w9 ⟨hO, hB⟩
  replace H := H.called 1 rfl hO hB
  refine ⟨[_, _], ⟨⟨_, rfl, run_loadVar_one TryzT.ag23 (by exact Blk.segAt (H.l 1 rfl) (Seg.all _) rfl)⟩, ⟨_, rfl, run_loadVar_one TryzT.ag4 (by exact Blk.segAt (H.l 0 rfl) (Seg.all _) rfl)⟩, trivial⟩, ?_⟩
  refine ⟨(Tr.leaf a q u s), c0, false, rfl, ?_, ?_, ?_, H.toOut1, H.o 0 rfl, ?_⟩
  · rw [show rmM [e] k = [e] by simp [rmM, ← hqe, hqk], grow_one]; exact hT
  · simp [hasM, getM, ← hqe, hqk]
  · exact fun _ => ⟨rfl, rfl⟩
  · exact H.giveO (H.rob 1 rfl)

theorem rm_join {m : List En} {k : List UInt8} {d : Nat} (h : Pm d m) (hd : d < 256) : (bitN k d = 0 → joinS (grow (d + 1) (rmM (partM m d 0) k)) (grow (d + 1) (partM m d 1)) = grow d (rmM m k)) ∧ (bitN k d ≠ 0 → joinS (grow (d + 1) (partM m d 0)) (grow (d + 1) (rmM (partM m d 1) k)) = grow d (rmM m k)) := by
  have e := joinS_grow (rm_pm (k := k) h) hd
  rw [rmM_part, rmM_part] at e
  have hb := bitN_lt k d
  constructor
  · intro h0
    rw [rmM_other (b := 1) (by omega)] at e
    exact e
  · intro h0
    rw [rmM_other (b := 0) (by omega)] at e
    exact e
def RmOK (T : Tr) : Prop := ∀ {X : Nat → Prop} {w : World} {bh bc : Nat} {bits c0 : Int} {M : List En} {k : List UInt8} {d : Nat}, (∀ b, X b → b < w.heap.size) → Blk w bc 108 [.int .i64 c0] → Rob (fun c => X c ∨ c = bc) (HAt bh bc bits) w → Rob (fun c => X c ∨ c = bc) (TrA bits T) w → Rob (fun c => X c ∨ c = bc) Rounds w →
  0 ≤ bits ∧ bits ≤ 256 → k.length = 32 → T.er = grow d M → Pm d M → M.length ≤ 1000000000 →
  Ret Tryz.prog 54 [.pointer (some ⟨bh, 0, none⟩), T.ptr, .agg (kc k).toArray, .int .i64 (d : Int)].toArray w fun v w' => ∃ (T' : Tr) (c : Int) (f : Bool), v = .tuple [T'.ptr, .bool f].toArray ∧ T'.er = grow d (rmM M k) ∧ f = hasM M k ∧ (f = false → T' = T ∧ c = c0) ∧ Out (· = bc) w w' ∧ Blk w' bc 108 [.int .i64 c] ∧ Rob (fun c => X c ∨ c = bc) (TrA bits T') w'

theorem RmInner_s {X : Nat → Prop} {w : World} {bh bc : Nat} {bits c0 : Int} {M : List En} {k : List UInt8} {d : Nat} {a : Nat} {l r : Tr} (hX : ∀ b, X b → b < w.heap.size) (ho0 : Blk w bc 108 ([.int .i64 c0])) (hf0 : Rob (fun c_ => X c_ ∨ c_ = bc) (HAt bh bc bits) w) (hf1 : Rob (fun c_ => X c_ ∨ c_ = bc) (TrA bits (Tr.inner a l r)) w) (hf2 : Rob (fun c_ => X c_ ∨ c_ = bc) (Rounds) w) (hbits : 0 ≤ bits ∧ bits ≤ 256) (hk : k.length = 32) (hT : (Tr.inner a l r).er = grow d M) (hpm : Pm d M) (hlen : M.length ≤ 1000000000) (ihl : RmOK l) (ihr : RmOK r) :
    Ret Tryz.prog 54 [.pointer (some ⟨bh, 0, none⟩), (Tr.inner a l r).ptr, .agg (kc k).toArray, .int .i64 (d : Int)].toArray w fun v w' => ∃ (T : Tr) (c : Int) (f : Bool), v = .tuple [T.ptr, .bool f].toArray ∧ T.er = grow d (rmM M k) ∧ f = hasM M k ∧ (f = false → T = (Tr.inner a l r) ∧ c = c0) ∧ Out (· = bc) w w' ∧ Blk w' bc 108 [.int .i64 c] ∧ Rob (fun c => X c ∨ c = bc) (TrA bits T) w' := by
  refine Ret.of_bodyF (N := 57) Tryz.func54 rfl rfl (by simp) ?_
  have H := St.begin1 (b := bc) (t := 108) (l := [.int .i64 c0]) hX ho0
  replace H := H.add (rob1 hf2)
  replace H := H.add (rob1 hf1)
  replace H := H.add (rob1 hf0)
  have h2m : 2 ≤ M.length := (grow_kind hpm).1 (by rw [← hT]; rfl)
  have hd := hpm.lt h2m
  have hT2 := hT
  rw [grow_many d M hd h2m] at hT2
  have hleft : l.er = grow (d + 1) (partM M d 0) := by injection hT2
  have hright : r.er = grow (d + 1) (partM M d 1) := by injection hT2
  have hb2 := bitN_lt k d
  have hrj := rm_join (k := k) hpm hd
  have hhp := hasM_part (m := M) (k := k) (d := d)
  refine WE.seq_reg ?_
  refine WL.box (l := [(Tr.inner a l r).ptr]) H rfl (rfl) rfl ?_
  intro b5 w1 H
  refine WL.box (l := kc k) H rfl (by rfl) rfl ?_
  intro b6 w2 H
  refine WL.alloc H rfl TryzT.ze23 rfl ?_
  intro b8 w3 H
  refine WL.alloc H rfl TryzT.ze4 rfl ?_
  intro b9 w4 H
  refine WL.nil ?_
  refine WE.seq_reg ?_
  refine WL.pv (PV.makeFunc rfl) rfl ?_
  refine WL.defer rfl rfl rfl rfl rfl ?_
  refine WL.nil ?_
  refine WE.seq ?_
  refine WE.seq_reg ?_
  refine WL.load1 rfl TryzT.ag23 rfl rfl (by exact Blk.segAt (H.l 3 rfl) (Seg.all _) (by rfl)) ?_
  refine WL.call TryzT.fb56 rfl (NKind_c (T := (Tr.inner a l r)) (bits := bits) H.yylt (by exact H.rob 1 rfl) ) ?_
  rintro _ w5 ⟨rfl, hO⟩
  replace H := H.out hO
  refine WL.nil ?_
  refine WE.block ?_
  refine WE.seq_reg ?_
  refine WL.pv (PV.eql rfl rfl rfl) rfl ?_
  refine WL.as rfl rfl ?_
  refine WL.nil ?_
  refine WE.cond_f' rfl rfl ?_
  refine WE.seq_reg ?_
  refine WL.pv (PV.eql rfl rfl rfl) rfl ?_
  refine WL.as rfl rfl ?_
  refine WL.nil ?_
  refine WE.cond_t' rfl rfl ?_
  refine WE.seq_draw (.take 0 (.take 2 (.pick1 1 (.pick1 3 (.take 4 (.take 5 .done)))))) TryzT.mixed (by kernel_rfl) ?_
  replace H := H.out (Out.drew _)
  refine WP.take_read rfl rfl (RV.loadOne rfl TryzT.ag23 rfl) (by exact Blk.segAt (H.l 3 rfl) (Seg.all _) (by rfl)) ?_
  refine WP.take_read rfl rfl (RV.loadOne rfl TryzT.ag23 rfl) (by exact Blk.segAt (H.l 3 rfl) (Seg.all _) (by rfl)) ?_
  refine WP.pick1 rfl ?_
  refine WL.call TryzT.fb85 rfl (Left_c (T := (Tr.inner a l r)) (bits := bits) H.yylt (by exact H.rob 1 rfl) ) ?_
  rintro _ w6 ⟨rfl, hO⟩
  replace H := H.out hO
  refine WL.nil ⟨(List.forall_mem_cons.2 ⟨(fun _ _ => (by exact Blk.segAt (H.l 3 rfl) (Seg.all _) (by rfl))), (List.forall_mem_cons.2 ⟨(by exact (fun h => absurd (show waits _ 1 0 = false from h) (by decide +kernel))), (fun _ h => by cases h)⟩)⟩), ?_⟩
  refine WP.pick1 rfl ?_
  refine WL.call TryzT.fb86 rfl (Right2_c (T := (Tr.inner a l r)) (bits := bits) H.yylt (by exact H.rob 1 rfl) ) ?_
  rintro _ w7 ⟨rfl, hO⟩
  replace H := H.out hO
  refine WL.nil ⟨(List.forall_mem_cons.2 ⟨(by exact (fun h => absurd (show waits _ 3 2 = false from h) (by decide +kernel))), (List.forall_mem_cons.2 ⟨(by exact (fun h => absurd (show waits _ 3 0 = false from h) (by decide +kernel))), (fun _ h => by cases h)⟩)⟩), ?_⟩
  refine WP.as rfl rfl rfl ?_
  refine WP.as rfl rfl rfl ?_
  refine WP.done ?_
  refine WE.seq ?_
  refine WE.seq_reg ?_
  refine WL.loadR rfl TryzT.ag31 rfl rfl (by exact Blk.segAt (H.l 2 rfl) (Seg.all _) (by rfl)) (by (rw [TryzT.sz31]; refine congrArg some ?_; (simp only [kc_length, kw_length, List.length_replicate, List.length_append, List.length_cons, List.length_nil, cutI_length, shaOf_length, dig_length, valD_length, rootM_length]; omega))) ?_
  refine WL.mv rfl rfl ?_
  refine WL.call TryzT.fb87 rfl (bitsBit_c (k := k) (d := d) H.yylt  (by assumption) (by assumption)) ?_
  rintro _ w8 ⟨rfl, hO⟩
  replace H := H.out hO
  refine WL.pv (PV.eql rfl rfl rfl) rfl ?_
  refine WL.nil ?_
  refine WE.cond rfl (fun hc31 => ?_) (fun hc31 => ?_)
  · skip
    try simp only [decide_eq_true_eq, decide_eq_false_iff_not, ne_eq, Decidable.not_not, Bool.not_eq_true', Bool.not_eq_false', Bool.and_eq_true, Bool.or_eq_true, Bool.not_not, Bool.and_eq_false_iff, Bool.or_eq_false_iff, Int.not_lt, Int.not_le] at hc31
    have hb0 : bitN k d = 0 := by omega
    refine WE.reg ?_
    refine WL.mv rfl rfl ?_
    refine WL.mv rfl rfl ?_
    refine WL.loadR rfl TryzT.ag31 rfl rfl (by exact Blk.segAt (H.l 2 rfl) (Seg.all _) (by rfl)) (by (rw [TryzT.sz31]; refine congrArg some ?_; (simp only [kc_length, kw_length, List.length_replicate, List.length_append, List.length_cons, List.length_nil, cutI_length, shaOf_length, dig_length, valD_length, rootM_length]; omega))) ?_
    refine WL.mv rfl rfl ?_
    refine WL.pv (PV.eq (v' := .int .i64 ((d + 1 : Nat) : Int)) (PV.add64 rfl rfl rfl (by omega) (by omega)) rfl) rfl ?_
    refine WL.call TryzT.fb54 rfl (ihl (M := partM M d 0) (k := k) (d := d + 1) (bits := bits) H.yylt (H.o 0 rfl) (by exact H.robOld 0 rfl 0 rfl) (by exact (H.robOld 0 rfl 1 rfl : Rob _ (TrA bits (Tr.inner a l r)) _).imp fun _ h => TrA.left h) (by exact H.robOld 0 rfl 2 rfl) hbits hk hleft (hpm.part hd 0) (Nat.le_trans (partM_le _ _ _) hlen)) ?_
    rintro _ w9 ⟨T38, c38, f38, rfl, hT38, hf38, hn38, hO, hB, hR⟩
    replace H := H.calledOR 0 rfl hO hB hR
    refine WL.mv rfl rfl ?_
    refine WL.pv (PV.extract rfl rfl rfl) rfl ?_
    refine WL.pv (PV.extract rfl rfl rfl) rfl ?_
    refine WL.as rfl rfl ?_
    refine WL.storeL H 0 rfl rfl rfl (new := _) rfl (by exact TryzT.sz4) (by exact one_lit _ rfl) (Laid.at (Laid.all (by (simp only [kc_length, kw_length, List.length_replicate, List.length_append, List.length_cons, List.length_nil, cutI_length, shaOf_length, dig_length, valD_length, rootM_length]; done))) (by rfl)) rfl ?_
    intro w10 H
    refine WL.nil ?_
    refine WE.seq_reg ?_
    refine WL.load1 rfl TryzT.ag4 rfl rfl (by exact Blk.segAt (H.l 0 rfl) (Seg.all _) (by rfl)) ?_
    refine WL.nil ?_
    refine WE.cond rfl (fun hc50 => ?_) (fun hc50 => ?_)
    · skip
      try simp only [decide_eq_true_eq, decide_eq_false_iff_not, ne_eq, Decidable.not_not, Bool.not_eq_true', Bool.not_eq_false', Bool.and_eq_true, Bool.or_eq_true, Bool.not_not, Bool.and_eq_false_iff, Bool.or_eq_false_iff, Int.not_lt, Int.not_le] at hc50
      (obtain rfl : f38 = true := hc50)
      refine WE.reg ?_
      refine WL.mv rfl rfl ?_
      refine WL.mv rfl rfl ?_
      refine WL.mv rfl rfl ?_
      refine WL.call TryzT.fb59 rfl ((by exact Join_c (l := T38) (r := r) (bits := bits) H.yylt (H.o 0 rfl) (by exact H.robOld 0 rfl 1 rfl) (by exact H.robOld 0 rfl 0 rfl) (by exact (H.robOld 0 rfl 2 rfl : Rob _ (TrA bits (Tr.inner a l r)) _).imp fun _ h => TrA.right h) (by exact H.robOld 0 rfl 3 rfl) hbits (by rw [hT38, hright, (rm_pm (hpm.part hd 0)).cnt, (hpm.part hd 1).cnt]; have h1 := rmM_len (partM M d 0) k; have h2 := part_len M d; omega))) ?_
      rintro _ w11 ⟨Tv54, mv54, rfl, hTv54, hO, hB, hR⟩
      replace H := H.calledOR 0 rfl hO hB hR
      refine WL.storeL H 1 rfl rfl rfl (new := _) rfl (by exact TryzT.sz23) (by exact one_lit _ rfl) (Laid.at (Laid.all (by (simp only [kc_length, kw_length, List.length_replicate, List.length_append, List.length_cons, List.length_nil, cutI_length, shaOf_length, dig_length, valD_length, rootM_length]; done))) (by rfl)) rfl ?_
      intro w12 H
      refine WL.nil ?_
      refine WE.seq_draw (.take 0 (.take 1 (.pick1 2 (.pick1 3 .done)))) TryzT.mixed (by kernel_rfl) ?_
      replace H := H.out (Out.drew _)
      refine WP.take_read rfl rfl (RV.loadOne rfl TryzT.ag23 rfl) (by exact Blk.segAt (H.l 1 rfl) (Seg.all _) (by rfl)) ?_
      refine WP.take_read rfl rfl (RV.loadOne rfl TryzT.ag4 rfl) (by exact Blk.segAt (H.l 0 rfl) (Seg.all _) (by rfl)) ?_
      refine WP.pick1 rfl ?_
      refine WL.storeL H 1 rfl rfl rfl (new := _) rfl (by exact TryzT.sz23) (by exact one_lit _ rfl) (Laid.at (Laid.all (by (simp only [kc_length, kw_length, List.length_replicate, List.length_append, List.length_cons, List.length_nil, cutI_length, shaOf_length, dig_length, valD_length, rootM_length]; done))) (by rfl)) rfl ?_
      intro w13 H
      refine WL.nil ⟨(List.forall_mem_cons.2 ⟨(fun _ _ => (by exact Blk.segAt (H.l 0 rfl) (Seg.all _) (by rfl))), (List.forall_mem_cons.2 ⟨(by exact (fun h => absurd (show waits _ 2 0 = false from h) (by decide +kernel))), (fun _ h => by cases h)⟩)⟩), ?_⟩
      refine WP.pick1 rfl ?_
      refine WL.storeL H 0 rfl rfl rfl (new := _) rfl (by exact TryzT.sz4) (by exact one_lit _ rfl) (Laid.at (Laid.all (by (simp only [kc_length, kw_length, List.length_replicate, List.length_append, List.length_cons, List.length_nil, cutI_length, shaOf_length, dig_length, valD_length, rootM_length]; done))) (by rfl)) rfl ?_
      intro w14 H
      refine WL.nil ⟨(List.forall_mem_cons.2 ⟨(by exact (fun h => absurd (show waits _ 3 1 = false from h) (by decide +kernel))), (List.forall_mem_cons.2 ⟨(by exact (fun h => absurd (show waits _ 3 0 = false from h) (by decide +kernel))), (fun _ h => by cases h)⟩)⟩), ?_⟩
      refine WP.done ?_
      refine WE.ret ?_
      refine Or.inr ⟨_, _, _, _, rfl, TryzT.fb84, (by exact rmdefT_d (X := Nil) (nilX _) (H.l 1 rfl) (((H.robLL 1 0 rfl rfl (by decide)).imp fun _ h => Blk.rd h).wk2) (((H.robLL 1 3 rfl rfl (by decide)).imp fun _ h => Blk.rd h).wk2)), ?_⟩
      rintro w15 ⟨hO, hB⟩
      replace H := H.called 1 rfl hO hB
      refine ⟨[_, _], ⟨⟨_, rfl, run_loadVar_one TryzT.ag23 (by exact Blk.segAt (H.l 1 rfl) (Seg.all _) rfl)⟩, ⟨_, rfl, run_loadVar_one TryzT.ag4 (by exact Blk.segAt (H.l 0 rfl) (Seg.all _) rfl)⟩, trivial⟩, ?_⟩
      (refine ⟨Tv54, _, true, rfl, ?_, ?_, fun h => (by cases h), H.toOut1, H.o 0 rfl, H.giveO (H.rob 0 rfl)⟩; (rw [hTv54, hT38, hright]; exact hrj.1 hb0); (rw [hf38, ← hhp, hb0]))
    · skip
      try simp only [decide_eq_true_eq, decide_eq_false_iff_not, ne_eq, Decidable.not_not, Bool.not_eq_true', Bool.not_eq_false', Bool.and_eq_true, Bool.or_eq_true, Bool.not_not, Bool.and_eq_false_iff, Bool.or_eq_false_iff, Int.not_lt, Int.not_le] at hc50
      (obtain rfl : f38 = false := hc50)
      refine WE.skip ?_
      refine WE.seq_draw (.take 0 (.take 1 (.pick1 2 (.pick1 3 .done)))) TryzT.mixed (by kernel_rfl) ?_
      replace H := H.out (Out.drew _)
      refine WP.take_read rfl rfl (RV.loadOne rfl TryzT.ag23 rfl) (by exact Blk.segAt (H.l 1 rfl) (Seg.all _) (by rfl)) ?_
      refine WP.take_read rfl rfl (RV.loadOne rfl TryzT.ag4 rfl) (by exact Blk.segAt (H.l 0 rfl) (Seg.all _) (by rfl)) ?_
      refine WP.pick1 rfl ?_
      refine WL.storeL H 1 rfl rfl rfl (new := _) rfl (by exact TryzT.sz23) (by exact one_lit _ rfl) (Laid.at (Laid.all (by (simp only [kc_length, kw_length, List.length_replicate, List.length_append, List.length_cons, List.length_nil, cutI_length, shaOf_length, dig_length, valD_length, rootM_length]; done))) (by rfl)) rfl ?_
      intro w16 H
      refine WL.nil ⟨(List.forall_mem_cons.2 ⟨(fun _ _ => (by exact Blk.segAt (H.l 0 rfl) (Seg.all _) (by rfl))), (List.forall_mem_cons.2 ⟨(by exact (fun h => absurd (show waits _ 2 0 = false from h) (by decide +kernel))), (fun _ h => by cases h)⟩)⟩), ?_⟩
      refine WP.pick1 rfl ?_
      refine WL.storeL H 0 rfl rfl rfl (new := _) rfl (by exact TryzT.sz4) (by exact one_lit _ rfl) (Laid.at (Laid.all (by (simp only [kc_length, kw_length, List.length_replicate, List.length_append, List.length_cons, List.length_nil, cutI_length, shaOf_length, dig_length, valD_length, rootM_length]; done))) (by rfl)) rfl ?_
      intro w17 H
      refine WL.nil ⟨(List.forall_mem_cons.2 ⟨(by exact (fun h => absurd (show waits _ 3 1 = false from h) (by decide +kernel))), (List.forall_mem_cons.2 ⟨(by exact (fun h => absurd (show waits _ 3 0 = false from h) (by decide +kernel))), (fun _ h => by cases h)⟩)⟩), ?_⟩
      refine WP.done ?_
      refine WE.ret ?_
      refine Or.inr ⟨_, _, _, _, rfl, TryzT.fb84, (by exact rmdefF_d (X := Nil) (nilX _) (H.l 1 rfl) (((H.robLL 1 0 rfl rfl (by decide)).imp fun _ h => Blk.rd h).wk2) (((H.robLL 1 3 rfl rfl (by decide)).imp fun _ h => Blk.rd h).wk2) rfl), ?_⟩
      rintro w18 ⟨hO, hB⟩
      replace H := H.called 1 rfl hO hB
      refine ⟨[_, _], ⟨⟨_, rfl, run_loadVar_one TryzT.ag23 (by exact Blk.segAt (H.l 1 rfl) (Seg.all _) rfl)⟩, ⟨_, rfl, run_loadVar_one TryzT.ag4 (by exact Blk.segAt (H.l 0 rfl) (Seg.all _) rfl)⟩, trivial⟩, ?_⟩
      (have hh : hasM M k = false := (by rw [← hhp, hb0, ← hf38]); refine ⟨Tr.inner a l r, _, false, rfl, ?_, hh.symm, fun _ => ⟨rfl, (hn38 rfl).2⟩, H.toOut1, H.o 0 rfl, H.giveO (by exact H.rob 2 rfl)⟩; (rw [rmM_not hh]; exact hT))
  · skip
    try simp only [decide_eq_true_eq, decide_eq_false_iff_not, ne_eq, Decidable.not_not, Bool.not_eq_true', Bool.not_eq_false', Bool.and_eq_true, Bool.or_eq_true, Bool.not_not, Bool.and_eq_false_iff, Bool.or_eq_false_iff, Int.not_lt, Int.not_le] at hc31
    have hb0 : bitN k d = 1 := by omega
    refine WE.reg ?_
    refine WL.mv rfl rfl ?_
    refine WL.mv rfl rfl ?_
    refine WL.loadR rfl TryzT.ag31 rfl rfl (by exact Blk.segAt (H.l 2 rfl) (Seg.all _) (by rfl)) (by (rw [TryzT.sz31]; refine congrArg some ?_; (simp only [kc_length, kw_length, List.length_replicate, List.length_append, List.length_cons, List.length_nil, cutI_length, shaOf_length, dig_length, valD_length, rootM_length]; omega))) ?_
    refine WL.mv rfl rfl ?_
    refine WL.pv (PV.eq (v' := .int .i64 ((d + 1 : Nat) : Int)) (PV.add64 rfl rfl rfl (by omega) (by omega)) rfl) rfl ?_
    refine WL.call TryzT.fb54 rfl (ihr (M := partM M d 1) (k := k) (d := d + 1) (bits := bits) H.yylt (H.o 0 rfl) (by exact H.robOld 0 rfl 0 rfl) (by exact (H.robOld 0 rfl 1 rfl : Rob _ (TrA bits (Tr.inner a l r)) _).imp fun _ h => TrA.right h) (by exact H.robOld 0 rfl 2 rfl) hbits hk hright (hpm.part hd 1) (Nat.le_trans (partM_le _ _ _) hlen)) ?_
    rintro _ w19 ⟨T47, c47, f47, rfl, hT47, hf47, hn47, hO, hB, hR⟩
    replace H := H.calledOR 0 rfl hO hB hR
    refine WL.mv rfl rfl ?_
    refine WL.pv (PV.extract rfl rfl rfl) rfl ?_
    refine WL.pv (PV.extract rfl rfl rfl) rfl ?_
    refine WL.as rfl rfl ?_
    refine WL.storeL H 0 rfl rfl rfl (new := _) rfl (by exact TryzT.sz4) (by exact one_lit _ rfl) (Laid.at (Laid.all (by (simp only [kc_length, kw_length, List.length_replicate, List.length_append, List.length_cons, List.length_nil, cutI_length, shaOf_length, dig_length, valD_length, rootM_length]; done))) (by rfl)) rfl ?_
    intro w20 H
    refine WL.nil ?_
    refine WE.seq_reg ?_
    refine WL.load1 rfl TryzT.ag4 rfl rfl (by exact Blk.segAt (H.l 0 rfl) (Seg.all _) (by rfl)) ?_
    refine WL.nil ?_
    refine WE.cond rfl (fun hc50 => ?_) (fun hc50 => ?_)
    · skip
      try simp only [decide_eq_true_eq, decide_eq_false_iff_not, ne_eq, Decidable.not_not, Bool.not_eq_true', Bool.not_eq_false', Bool.and_eq_true, Bool.or_eq_true, Bool.not_not, Bool.and_eq_false_iff, Bool.or_eq_false_iff, Int.not_lt, Int.not_le] at hc50
      (obtain rfl : f47 = true := hc50)
      refine WE.reg ?_
      refine WL.mv rfl rfl ?_
      refine WL.mv rfl rfl ?_
      refine WL.mv rfl rfl ?_
      refine WL.call TryzT.fb59 rfl ((by exact Join_c (l := l) (r := T47) (bits := bits) H.yylt (H.o 0 rfl) (by exact H.robOld 0 rfl 1 rfl) (by exact (H.robOld 0 rfl 2 rfl : Rob _ (TrA bits (Tr.inner a l r)) _).imp fun _ h => TrA.left h) (by exact H.robOld 0 rfl 0 rfl) (by exact H.robOld 0 rfl 3 rfl) hbits (by rw [hT47, hleft, (rm_pm (hpm.part hd 1)).cnt, (hpm.part hd 0).cnt]; have h1 := rmM_len (partM M d 1) k; have h2 := part_len M d; omega))) ?_
      rintro _ w21 ⟨Tv54, mv54, rfl, hTv54, hO, hB, hR⟩
      replace H := H.calledOR 0 rfl hO hB hR
      refine WL.storeL H 1 rfl rfl rfl (new := _) rfl (by exact TryzT.sz23) (by exact one_lit _ rfl) (Laid.at (Laid.all (by (simp only [kc_length, kw_length, List.length_replicate, List.length_append, List.length_cons, List.length_nil, cutI_length, shaOf_length, dig_length, valD_length, rootM_length]; done))) (by rfl)) rfl ?_
      intro w22 H
      refine WL.nil ?_
      refine WE.seq_draw (.take 0 (.take 1 (.pick1 2 (.pick1 3 .done)))) TryzT.mixed (by kernel_rfl) ?_
      replace H := H.out (Out.drew _)
      refine WP.take_read rfl rfl (RV.loadOne rfl TryzT.ag23 rfl) (by exact Blk.segAt (H.l 1 rfl) (Seg.all _) (by rfl)) ?_
      refine WP.take_read rfl rfl (RV.loadOne rfl TryzT.ag4 rfl) (by exact Blk.segAt (H.l 0 rfl) (Seg.all _) (by rfl)) ?_
      refine WP.pick1 rfl ?_
      refine WL.storeL H 1 rfl rfl rfl (new := _) rfl (by exact TryzT.sz23) (by exact one_lit _ rfl) (Laid.at (Laid.all (by (simp only [kc_length, kw_length, List.length_replicate, List.length_append, List.length_cons, List.length_nil, cutI_length, shaOf_length, dig_length, valD_length, rootM_length]; done))) (by rfl)) rfl ?_
      intro w23 H
      refine WL.nil ⟨(List.forall_mem_cons.2 ⟨(fun _ _ => (by exact Blk.segAt (H.l 0 rfl) (Seg.all _) (by rfl))), (List.forall_mem_cons.2 ⟨(by exact (fun h => absurd (show waits _ 2 0 = false from h) (by decide +kernel))), (fun _ h => by cases h)⟩)⟩), ?_⟩
      refine WP.pick1 rfl ?_
      refine WL.storeL H 0 rfl rfl rfl (new := _) rfl (by exact TryzT.sz4) (by exact one_lit _ rfl) (Laid.at (Laid.all (by (simp only [kc_length, kw_length, List.length_replicate, List.length_append, List.length_cons, List.length_nil, cutI_length, shaOf_length, dig_length, valD_length, rootM_length]; done))) (by rfl)) rfl ?_
      intro w24 H
      refine WL.nil ⟨(List.forall_mem_cons.2 ⟨(by exact (fun h => absurd (show waits _ 3 1 = false from h) (by decide +kernel))), (List.forall_mem_cons.2 ⟨(by exact (fun h => absurd (show waits _ 3 0 = false from h) (by decide +kernel))), (fun _ h => by cases h)⟩)⟩), ?_⟩
      refine WP.done ?_
      refine WE.ret ?_
      refine Or.inr ⟨_, _, _, _, rfl, TryzT.fb84, (by exact rmdefT_d (X := Nil) (nilX _) (H.l 1 rfl) (((H.robLL 1 0 rfl rfl (by decide)).imp fun _ h => Blk.rd h).wk2) (((H.robLL 1 3 rfl rfl (by decide)).imp fun _ h => Blk.rd h).wk2)), ?_⟩
      rintro w25 ⟨hO, hB⟩
      replace H := H.called 1 rfl hO hB
      refine ⟨[_, _], ⟨⟨_, rfl, run_loadVar_one TryzT.ag23 (by exact Blk.segAt (H.l 1 rfl) (Seg.all _) rfl)⟩, ⟨_, rfl, run_loadVar_one TryzT.ag4 (by exact Blk.segAt (H.l 0 rfl) (Seg.all _) rfl)⟩, trivial⟩, ?_⟩
      (refine ⟨Tv54, _, true, rfl, ?_, ?_, fun h => (by cases h), H.toOut1, H.o 0 rfl, H.giveO (H.rob 0 rfl)⟩; (rw [hTv54, hT47, hleft]; exact hrj.2 (by omega)); (rw [hf47, ← hhp, hb0]))
    · skip
      try simp only [decide_eq_true_eq, decide_eq_false_iff_not, ne_eq, Decidable.not_not, Bool.not_eq_true', Bool.not_eq_false', Bool.and_eq_true, Bool.or_eq_true, Bool.not_not, Bool.and_eq_false_iff, Bool.or_eq_false_iff, Int.not_lt, Int.not_le] at hc50
      (obtain rfl : f47 = false := hc50)
      refine WE.skip ?_
      refine WE.seq_draw (.take 0 (.take 1 (.pick1 2 (.pick1 3 .done)))) TryzT.mixed (by kernel_rfl) ?_
      replace H := H.out (Out.drew _)
      refine WP.take_read rfl rfl (RV.loadOne rfl TryzT.ag23 rfl) (by exact Blk.segAt (H.l 1 rfl) (Seg.all _) (by rfl)) ?_
      refine WP.take_read rfl rfl (RV.loadOne rfl TryzT.ag4 rfl) (by exact Blk.segAt (H.l 0 rfl) (Seg.all _) (by rfl)) ?_
      refine WP.pick1 rfl ?_
      refine WL.storeL H 1 rfl rfl rfl (new := _) rfl (by exact TryzT.sz23) (by exact one_lit _ rfl) (Laid.at (Laid.all (by (simp only [kc_length, kw_length, List.length_replicate, List.length_append, List.length_cons, List.length_nil, cutI_length, shaOf_length, dig_length, valD_length, rootM_length]; done))) (by rfl)) rfl ?_
      intro w26 H
      refine WL.nil ⟨(List.forall_mem_cons.2 ⟨(fun _ _ => (by exact Blk.segAt (H.l 0 rfl) (Seg.all _) (by rfl))), (List.forall_mem_cons.2 ⟨(by exact (fun h => absurd (show waits _ 2 0 = false from h) (by decide +kernel))), (fun _ h => by cases h)⟩)⟩), ?_⟩
      refine WP.pick1 rfl ?_
      refine WL.storeL H 0 rfl rfl rfl (new := _) rfl (by exact TryzT.sz4) (by exact one_lit _ rfl) (Laid.at (Laid.all (by (simp only [kc_length, kw_length, List.length_replicate, List.length_append, List.length_cons, List.length_nil, cutI_length, shaOf_length, dig_length, valD_length, rootM_length]; done))) (by rfl)) rfl ?_
      intro w27 H
      refine WL.nil ⟨(List.forall_mem_cons.2 ⟨(by exact (fun h => absurd (show waits _ 3 1 = false from h) (by decide +kernel))), (List.forall_mem_cons.2 ⟨(by exact (fun h => absurd (show waits _ 3 0 = false from h) (by decide +kernel))), (fun _ h => by cases h)⟩)⟩), ?_⟩
      refine WP.done ?_
      refine WE.ret ?_
      refine Or.inr ⟨_, _, _, _, rfl, TryzT.fb84, (by exact rmdefF_d (X := Nil) (nilX _) (H.l 1 rfl) (((H.robLL 1 0 rfl rfl (by decide)).imp fun _ h => Blk.rd h).wk2) (((H.robLL 1 3 rfl rfl (by decide)).imp fun _ h => Blk.rd h).wk2) rfl), ?_⟩
      rintro w28 ⟨hO, hB⟩
      replace H := H.called 1 rfl hO hB
      refine ⟨[_, _], ⟨⟨_, rfl, run_loadVar_one TryzT.ag23 (by exact Blk.segAt (H.l 1 rfl) (Seg.all _) rfl)⟩, ⟨_, rfl, run_loadVar_one TryzT.ag4 (by exact Blk.segAt (H.l 0 rfl) (Seg.all _) rfl)⟩, trivial⟩, ?_⟩
      (have hh : hasM M k = false := (by rw [← hhp, hb0, ← hf47]); refine ⟨Tr.inner a l r, _, false, rfl, ?_, hh.symm, fun _ => ⟨rfl, (hn47 rfl).2⟩, H.toOut1, H.o 0 rfl, H.giveO (by exact H.rob 2 rfl)⟩; (rw [rmM_not hh]; exact hT))

theorem Rm_ok : ∀ T : Tr, RmOK T
  | .nil => fun hX h0 h1 _ h3 hb hk hT hp _ => RmNil_c hX h0 h1 h3 hb hk hT hp
  | .leaf a q u s => fun hX h0 h1 h2 h3 hb hk hT hp _ => by
    rename_i k _ _
    by_cases hq : q = k
    · refine (RmLeafEq_c hX h0 h1 h2 h3 hb hk hT hp hq).mono ?_
      rintro v w' ⟨T', c, f, h⟩
      exact ⟨T', c, f, h⟩
    · refine (RmLeafNe_c hX h0 h1 h2 h3 hb hk hT hp hq).mono ?_
      rintro v w' ⟨T', c, f, h⟩
      exact ⟨T', c, f, h⟩
  | .inner a l r => fun hX h0 h1 h2 h3 hb hk hT hp hl => RmInner_s hX h0 h1 h2 h3 hb hk hT hp hl (Rm_ok l) (Rm_ok r)
theorem rmAt_c {X : Nat → Prop} {w : World} {bh bc : Nat} {bits c0 : Int} {T : Tr} {M : List En} {k : List UInt8} {d : Nat} (hX : ∀ b, X b → b < w.heap.size) (ho : Blk w bc 108 [.int .i64 c0]) (hf0 : Rob (fun c => X c ∨ c = bc) (HAt bh bc bits) w) (hf1 : Rob (fun c => X c ∨ c = bc) (TrA bits T) w) (hf2 : Rob (fun c => X c ∨ c = bc) Rounds w)
    (hb : 0 ≤ bits ∧ bits ≤ 256) (hk : k.length = 32) (hT : T.er = grow d M) (hp : Pm d M) (hl : M.length ≤ 1000000000) :
    Ret Tryz.prog 54 [.pointer (some ⟨bh, 0, none⟩), T.ptr, .agg (kc k).toArray, .int .i64 (d : Int)].toArray w fun v w' => ∃ (T' : Tr) (c : Int) (f : Bool), v = .tuple [T'.ptr, .bool f].toArray ∧ T'.er = grow d (rmM M k) ∧ f = hasM M k ∧ (f = false → T' = T ∧ c = c0) ∧ Out (· = bc) w w' ∧ Blk w' bc 108 [.int .i64 c] ∧ Rob (fun c => X c ∨ c = bc) (TrA bits T') w' :=
  Rm_ok T hX ho hf0 hf1 hf2 hb hk hT hp hl

theorem Remove2_c {X : Nat → Prop} {w : World} {bh bc : Nat} {bits c0 : Int} {T : Tr} {M : List En} {k : List UInt8} (hX : ∀ b, X b → b < w.heap.size) (ho0 : Blk w bc 108 ([.int .i64 c0])) (hf0 : Rob (fun c_ => X c_ ∨ c_ = bc) (HAt bh bc bits) w) (hf1 : Rob (fun c_ => X c_ ∨ c_ = bc) (TrA bits T) w) (hf2 : Rob (fun c_ => X c_ ∨ c_ = bc) (Rounds) w) (hbits : 0 ≤ bits ∧ bits ≤ 256) (hk : k.length = 32) (hT : T.er = grow 0 M) (hpm : Pm 0 M) (hlen : M.length ≤ 1000000000) :
    Ret Tryz.prog 25 [.pointer (some ⟨bh, 0, none⟩), T.ptr, .agg (kc k).toArray].toArray w fun v w' => ∃ (T' : Tr) (c : Int) (f : Bool), v = .tuple [T'.ptr, .bool f].toArray ∧ T'.er = grow 0 (rmM M k) ∧ f = hasM M k ∧ (f = false → T' = T ∧ c = c0) ∧ Out (· = bc) w w' ∧ Blk w' bc 108 [.int .i64 c] ∧ Rob (fun c => X c ∨ c = bc) (TrA bits T') w' := by
  refine Ret.of_body (N := 14) Tryz.func25 rfl rfl (by simp) ?_
  have H := St.begin1 (b := bc) (t := 108) (l := [.int .i64 c0]) hX ho0
  replace H := H.add (rob1 hf2)
  replace H := H.add (rob1 hf1)
  replace H := H.add (rob1 hf0)
  refine WE.seq_reg ?_
  refine WL.box (l := kc k) H rfl (by rfl) rfl ?_
  intro b5 w1 H
  refine WL.as rfl rfl ?_
  refine WL.as rfl rfl ?_
  refine WL.nil ?_
  refine WE.seq_reg ?_
  refine WL.mv rfl rfl ?_
  refine WL.mv rfl rfl ?_
  refine WL.loadR rfl TryzT.ag31 rfl rfl (by exact Blk.segAt (H.l 0 rfl) (Seg.all _) (by rfl)) (by (rw [TryzT.sz31]; refine congrArg some ?_; (simp only [kc_length, kw_length, List.length_replicate, List.length_append, List.length_cons, List.length_nil, cutI_length, shaOf_length, dig_length, valD_length, rootM_length]; omega))) ?_
  refine WL.call TryzT.fb54 rfl (rmAt_c (T := T) (M := M) (k := k) (d := 0) (bits := bits) H.yylt (H.o 0 rfl) (by exact H.robOld 0 rfl 0 rfl) (by exact H.robOld 0 rfl 1 rfl) (by exact H.robOld 0 rfl 2 rfl) (by assumption) (by assumption) (by assumption) (by assumption) (by assumption)) ?_
  rintro _ w2 ⟨Tv11, cv11, fv11, rfl, hTv11, hfv11, hnv11, hO, hB, hR⟩
  replace H := H.calledOR 0 rfl hO hB hR
  refine WL.pv (PV.extract rfl rfl rfl) rfl ?_
  refine WL.pv (PV.extract rfl rfl rfl) rfl ?_
  refine WL.as rfl rfl ?_
  refine WL.as rfl rfl ?_
  refine WL.nil ?_
  refine WE.ret ?_
  refine ⟨[_, _], _, .nil _, ⟨rfl, rfl, trivial⟩, ?_⟩
  exact ⟨Tv11, cv11, fv11, rfl, hTv11, hfv11, hnv11, H.toOut1, H.o 0 rfl, H.giveO (H.rob 0 rfl)⟩

end Go.Sp.Tryz

set_option maxRecDepth 100000
set_option maxHeartbeats 1000000
set_option linter.unusedVariables false
set_option linter.unusedSimpArgs false
namespace Go.Sp.Tryz
open Go.Proofs Go.RowKit Go.Sp

def SlK (v : Value) (ks : List (List UInt8)) (w : World) : Prop := SlC w v 32 ks.length (ks.flatMap kc)
def K32 (ks : List (List UInt8)) : Prop := ∀ k ∈ ks, k.length = 32
theorem K32.take {l : List (List UInt8)} (h : K32 l) (i : Nat) : K32 (l.take i) := fun e he => h e (List.mem_of_mem_take he)
theorem kc_seg : ∀ (ks : List (List UInt8)) (hk : K32 ks) (i : Nat) (hi : i < ks.length), ((ks.flatMap kc).drop (i * 32)).take 32 = kc ks[i] := by
  intro ks
  induction ks with
  | nil => intro _ i hi; simp at hi
  | cons x ks ih =>
    intro hk i hi
    have hx := hk x (by simp)
    have hl : (kc x).length = 32 := by rw [kc_length, hx]
    cases i with
    | zero =>
      rw [List.flatMap_cons, Nat.zero_mul, List.drop_zero, List.take_left' hl]; rfl
    | succ i =>
      rw [List.flatMap_cons, show (i + 1) * 32 = 32 + i * 32 by omega, ← List.drop_drop, List.drop_left' hl]
      exact ih (fun k h => hk k (List.mem_cons_of_mem _ h)) i (by simpa using hi)
theorem SlK.rd {v : Value} {ks : List (List UInt8)} {w : World} (h : SlK v ks w) (hk : K32 ks) (i : Nat) (hi : i < ks.length) : RdA w (sAddr v (i * 32)) (kc ks[i]) := by
  have := SlC.rd h i hi
  rwa [kc_seg ks hk i hi] at this
end Go.Sp.Tryz

set_option maxRecDepth 100000
set_option maxHeartbeats 1000000
set_option linter.unusedVariables false
set_option linter.unusedSimpArgs false
namespace Go.Sp.Tryz
open Go.Proofs Go.RowKit Go.Sp

end Go.Sp.Tryz

