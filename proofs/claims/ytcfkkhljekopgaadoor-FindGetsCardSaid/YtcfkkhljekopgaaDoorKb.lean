/- Walks of functions, printed by a program of this session (gen.py) from notes on each function. -/
import Derived.Test.YtcfkkhljekopgaaDoorKa
set_option maxRecDepth 100000
set_option maxHeartbeats 1000000
set_option linter.unusedVariables false
set_option linter.unusedSimpArgs false
namespace Go.Sp.Tryd
open Go.Proofs Go.RowKit Go.Sp

theorem TrA.fin {bits : Int} {T : Tr} {w : World} {k : List UInt8} (h : TrA bits T w) : TrA bits (T.fin k) w := h.atN _
def Tr.getV (T : Tr) (k : List UInt8) : Option (List UInt8) := match T.fin k with
  | .leaf _ q v _ => if q = k then some v else none
  | _ => none

theorem GetA_c {X : Nat → Prop} {w : World} {bits : Int} {T : Tr} {k : List UInt8} (hX : ∀ b, X b → b < w.heap.size) (hf0 : Rob X (TrA bits T) w) (hk : k.length = 32) (hfit : T.er.fit 0) (hkd : (T.fin k).er.kind ≠ 1) :
    Ret Tryd.prog 49 [T.ptr, .agg (kc k).toArray].toArray w fun v w' => v = .tuple [.slice none 0 0, .bool false].toArray ∧ Out Nil w w' := by
  refine Ret.of_body (N := 27) Tryd.func49 rfl rfl (by simp) ?_
  have H := St.begin hX
  replace H := H.add (rob0 hf0)
  have hkl : (T.fin k).key.length = 32 := TrA.key_length (TrA.fin (hf0.here))
  have hvl := TrA.vlen (TrA.fin (k := k) (hf0.here))
  refine WE.seq_reg ?_
  refine WL.box (l := kc k) H rfl (by rfl) rfl ?_
  intro b3 w1 H
  refine WL.as rfl rfl ?_
  refine WL.as rfl rfl ?_
  refine WL.nil ?_
  refine WE.seq_reg ?_
  refine WL.mv rfl rfl ?_
  refine WL.loadR rfl TrydT.ag36 rfl rfl (by exact Blk.segAt (H.l 0 rfl) (Seg.all _) (by rfl)) (by (rw [TrydT.sz36]; refine congrArg some ?_; (simp only [kc_length, kw_length, List.length_replicate, List.length_append, List.length_cons, List.length_nil, cutI_length, shaOf_length, dig_length, valD_length, rootM_length]; omega))) ?_
  refine WL.call TrydT.fb46 rfl (Locate_c (T := T) (k := k) (bits := bits) H.yylt (by exact H.rob 0 rfl) (by assumption) (by assumption)) ?_
  rintro _ w2 ⟨rfl, hO⟩
  replace H := H.out hO
  refine WL.mv rfl rfl ?_
  refine WL.pv (PV.extract rfl rfl rfl) rfl ?_
  refine WL.pv (PV.extract rfl rfl rfl) rfl ?_
  refine WL.as rfl rfl ?_
  refine WL.as rfl rfl ?_
  refine WL.nil ?_
  refine WE.seq ?_
  refine WE.seq_draw (.take 0 (.pick1 1 (.take 2 (.take 3 (.take 4 (.take 7 (.pick1 5 (.take 6 (.take 8 (.take 9 .done)))))))))) TrydT.mixed (by kernel_rfl) ?_
  replace H := H.out (Out.drew _)
  refine WP.mv rfl rfl rfl ?_
  refine WP.pick1 rfl ?_
  refine WL.call TrydT.fb40 rfl (NKind_c (T := T.fin k) (bits := bits) H.yylt (by exact (H.rob 0 rfl).imp fun _ h => h.fin) ) ?_
  rintro _ w3 ⟨rfl, hO⟩
  replace H := H.out hO
  refine WL.nil ⟨(fun _ h => by cases h), ?_⟩
  refine WP.take_pure rfl rfl (PV.neq rfl rfl rfl) ?_
  refine WP.mv rfl rfl rfl ?_
  refine WP.known (t := 17) (c := true) rfl (by simp [hkd]) ?_
  refine WP.take_off rfl rfl ?_
  refine WP.take_off rfl rfl ?_
  refine WP.pick1 rfl ?_
  refine WL.off rfl ?_
  refine WL.nil ⟨(fun _ h => by cases h), ?_⟩
  refine WP.take_off rfl rfl ?_
  refine WP.take_off rfl rfl ?_
  refine WP.take_pure rfl rfl (PV.pick_t rfl rfl rfl) ?_
  refine WP.done ?_
  refine WE.cond_t rfl ?_
  refine WE.seq_reg ?_
  refine WL.as rfl rfl ?_
  refine WL.as rfl rfl ?_
  refine WL.nil ?_
  refine WE.ret ?_
  refine ⟨[_, _], _, .nil _, ⟨rfl, rfl, trivial⟩, ?_⟩
  exact ⟨rfl, H.toOut0⟩

theorem GetB_c {X : Nat → Prop} {w : World} {bits : Int} {T : Tr} {k : List UInt8} (hX : ∀ b, X b → b < w.heap.size) (hf0 : Rob X (TrA bits T) w) (hk : k.length = 32) (hfit : T.er.fit 0) (hkd : (T.fin k).er.kind = 1) (hkey : (T.fin k).key ≠ k) :
    Ret Tryd.prog 49 [T.ptr, .agg (kc k).toArray].toArray w fun v w' => v = .tuple [.slice none 0 0, .bool false].toArray ∧ Out Nil w w' := by
  refine Ret.of_body (N := 27) Tryd.func49 rfl rfl (by simp) ?_
  have H := St.begin hX
  replace H := H.add (rob0 hf0)
  have hkl : (T.fin k).key.length = 32 := TrA.key_length (TrA.fin (hf0.here))
  have hvl := TrA.vlen (TrA.fin (k := k) (hf0.here))
  refine WE.seq_reg ?_
  refine WL.box (l := kc k) H rfl (by rfl) rfl ?_
  intro b3 w1 H
  refine WL.as rfl rfl ?_
  refine WL.as rfl rfl ?_
  refine WL.nil ?_
  refine WE.seq_reg ?_
  refine WL.mv rfl rfl ?_
  refine WL.loadR rfl TrydT.ag36 rfl rfl (by exact Blk.segAt (H.l 0 rfl) (Seg.all _) (by rfl)) (by (rw [TrydT.sz36]; refine congrArg some ?_; (simp only [kc_length, kw_length, List.length_replicate, List.length_append, List.length_cons, List.length_nil, cutI_length, shaOf_length, dig_length, valD_length, rootM_length]; omega))) ?_
  refine WL.call TrydT.fb46 rfl (Locate_c (T := T) (k := k) (bits := bits) H.yylt (by exact H.rob 0 rfl) (by assumption) (by assumption)) ?_
  rintro _ w2 ⟨rfl, hO⟩
  replace H := H.out hO
  refine WL.mv rfl rfl ?_
  refine WL.pv (PV.extract rfl rfl rfl) rfl ?_
  refine WL.pv (PV.extract rfl rfl rfl) rfl ?_
  refine WL.as rfl rfl ?_
  refine WL.as rfl rfl ?_
  refine WL.nil ?_
  refine WE.seq ?_
  refine WE.seq_draw (.take 0 (.pick1 1 (.take 2 (.take 3 (.take 4 (.take 7 (.pick1 5 (.take 6 (.take 8 (.take 9 .done)))))))))) TrydT.mixed (by kernel_rfl) ?_
  replace H := H.out (Out.drew _)
  refine WP.mv rfl rfl rfl ?_
  refine WP.pick1 rfl ?_
  refine WL.call TrydT.fb40 rfl (NKind_c (T := T.fin k) (bits := bits) H.yylt (by exact (H.rob 0 rfl).imp fun _ h => h.fin) ) ?_
  rintro _ w3 ⟨rfl, hO⟩
  replace H := H.out hO
  refine WL.nil ⟨(fun _ h => by cases h), ?_⟩
  refine WP.take_pure rfl rfl (PV.neq rfl rfl rfl) ?_
  refine WP.mv rfl rfl rfl ?_
  refine WP.known (t := 17) (c := false) rfl (by simp [hkd]) ?_
  refine WP.mv rfl rfl rfl ?_
  refine WP.readA rfl rfl rfl TrydT.ag36 rfl (by exact Blk.segAt (H.l 0 rfl) (Seg.all _) (by rfl)) (by (rw [TrydT.sz36]; refine congrArg some ?_; (simp only [kc_length, kw_length, List.length_replicate, List.length_append, List.length_cons, List.length_nil, cutI_length, shaOf_length, dig_length, valD_length, rootM_length]; omega))) ?_
  refine WP.pick1 rfl ?_
  refine WL.call TrydT.fb39 rfl (Leaf2_c (T := T.fin k) (bits := bits) H.yylt (by exact (H.rob 0 rfl).imp fun _ h => h.fin) ) ?_
  rintro _ w4 ⟨rfl, hO⟩
  replace H := H.out hO
  refine WL.nil ⟨(List.forall_mem_cons.2 ⟨(fun _ _ => (by exact Blk.segAt (H.l 0 rfl) (Seg.all _) (by rfl))), (fun _ h => by cases h)⟩), ?_⟩
  refine WP.take_pure rfl rfl (PV.fieldV rfl TrydT.fd38_0 rfl (PartAt.agg TrydT.ag36 (by (rw [TrydT.sz36]; refine congrArg some ?_; (simp only [kc_length, kw_length, List.length_replicate, List.length_append, List.length_cons, List.length_nil, cutI_length, shaOf_length, dig_length, valD_length, rootM_length]; omega))) (Seg.l (Seg.all _)))) ?_
  refine WP.take_pure rfl rfl (PV.neqB rfl TrydT.ar36 TrydT.in5 TrydT.sz5 (by kernel_rfl) rfl rfl (by assumption) (by assumption)) ?_
  refine WP.take_pure rfl rfl (PV.pick_f rfl rfl rfl) ?_
  refine WP.done ?_
  refine WE.cond_t' rfl (by simp [hkey]) ?_
  refine WE.seq_reg ?_
  refine WL.as rfl rfl ?_
  refine WL.as rfl rfl ?_
  refine WL.nil ?_
  refine WE.ret ?_
  refine ⟨[_, _], _, .nil _, ⟨rfl, rfl, trivial⟩, ?_⟩
  exact ⟨rfl, H.toOut0⟩

theorem GetC_c {X : Nat → Prop} {w : World} {bits : Int} {T : Tr} {k : List UInt8} (hX : ∀ b, X b → b < w.heap.size) (hf0 : Rob X (TrA bits T) w) (hk : k.length = 32) (hfit : T.er.fit 0) (hkd : (T.fin k).er.kind = 1) (hkey : (T.fin k).key = k) :
    Ret Tryd.prog 49 [T.ptr, .agg (kc k).toArray].toArray w fun v w' => ∃ s, v = .tuple [s, .bool true].toArray ∧ Out Nil w w' ∧ w'.ownsRow w.heap.size 5 1 s (T.fin k).val.length (kc (T.fin k).val) := by
  refine Ret.of_body (N := 27) Tryd.func49 rfl rfl (by simp) ?_
  have H := St.begin hX
  replace H := H.add (rob0 hf0)
  have hkl : (T.fin k).key.length = 32 := TrA.key_length (TrA.fin (hf0.here))
  have hvl := TrA.vlen (TrA.fin (k := k) (hf0.here))
  refine WE.seq_reg ?_
  refine WL.box (l := kc k) H rfl (by rfl) rfl ?_
  intro b3 w1 H
  refine WL.as rfl rfl ?_
  refine WL.as rfl rfl ?_
  refine WL.nil ?_
  refine WE.seq_reg ?_
  refine WL.mv rfl rfl ?_
  refine WL.loadR rfl TrydT.ag36 rfl rfl (by exact Blk.segAt (H.l 0 rfl) (Seg.all _) (by rfl)) (by (rw [TrydT.sz36]; refine congrArg some ?_; (simp only [kc_length, kw_length, List.length_replicate, List.length_append, List.length_cons, List.length_nil, cutI_length, shaOf_length, dig_length, valD_length, rootM_length]; omega))) ?_
  refine WL.call TrydT.fb46 rfl (Locate_c (T := T) (k := k) (bits := bits) H.yylt (by exact H.rob 0 rfl) (by assumption) (by assumption)) ?_
  rintro _ w2 ⟨rfl, hO⟩
  replace H := H.out hO
  refine WL.mv rfl rfl ?_
  refine WL.pv (PV.extract rfl rfl rfl) rfl ?_
  refine WL.pv (PV.extract rfl rfl rfl) rfl ?_
  refine WL.as rfl rfl ?_
  refine WL.as rfl rfl ?_
  refine WL.nil ?_
  refine WE.seq ?_
  refine WE.seq_draw (.take 0 (.pick1 1 (.take 2 (.take 3 (.take 4 (.take 7 (.pick1 5 (.take 6 (.take 8 (.take 9 .done)))))))))) TrydT.mixed (by kernel_rfl) ?_
  replace H := H.out (Out.drew _)
  refine WP.mv rfl rfl rfl ?_
  refine WP.pick1 rfl ?_
  refine WL.call TrydT.fb40 rfl (NKind_c (T := T.fin k) (bits := bits) H.yylt (by exact (H.rob 0 rfl).imp fun _ h => h.fin) ) ?_
  rintro _ w3 ⟨rfl, hO⟩
  replace H := H.out hO
  refine WL.nil ⟨(fun _ h => by cases h), ?_⟩
  refine WP.take_pure rfl rfl (PV.neq rfl rfl rfl) ?_
  refine WP.mv rfl rfl rfl ?_
  refine WP.known (t := 17) (c := false) rfl (by simp [hkd]) ?_
  refine WP.mv rfl rfl rfl ?_
  refine WP.readA rfl rfl rfl TrydT.ag36 rfl (by exact Blk.segAt (H.l 0 rfl) (Seg.all _) (by rfl)) (by (rw [TrydT.sz36]; refine congrArg some ?_; (simp only [kc_length, kw_length, List.length_replicate, List.length_append, List.length_cons, List.length_nil, cutI_length, shaOf_length, dig_length, valD_length, rootM_length]; omega))) ?_
  refine WP.pick1 rfl ?_
  refine WL.call TrydT.fb39 rfl (Leaf2_c (T := T.fin k) (bits := bits) H.yylt (by exact (H.rob 0 rfl).imp fun _ h => h.fin) ) ?_
  rintro _ w4 ⟨rfl, hO⟩
  replace H := H.out hO
  refine WL.nil ⟨(List.forall_mem_cons.2 ⟨(fun _ _ => (by exact Blk.segAt (H.l 0 rfl) (Seg.all _) (by rfl))), (fun _ h => by cases h)⟩), ?_⟩
  refine WP.take_pure rfl rfl (PV.fieldV rfl TrydT.fd38_0 rfl (PartAt.agg TrydT.ag36 (by (rw [TrydT.sz36]; refine congrArg some ?_; (simp only [kc_length, kw_length, List.length_replicate, List.length_append, List.length_cons, List.length_nil, cutI_length, shaOf_length, dig_length, valD_length, rootM_length]; omega))) (Seg.l (Seg.all _)))) ?_
  refine WP.take_pure rfl rfl (PV.neqB rfl TrydT.ar36 TrydT.in5 TrydT.sz5 (by kernel_rfl) rfl rfl (by assumption) (by assumption)) ?_
  refine WP.take_pure rfl rfl (PV.pick_f rfl rfl rfl) ?_
  refine WP.done ?_
  refine WE.cond_f' rfl (by simp [hkey]) ?_
  refine WE.skip ?_
  refine WE.seq_reg ?_
  refine WL.mv rfl rfl ?_
  refine WL.call TrydT.fb37 rfl (Entry_c (T := T.fin k) (bits := bits) H.yylt (by exact (H.rob 0 rfl).imp fun _ h => h.fin)) ?_
  rintro _ w5 ⟨s4, rfl, hO, hOwn⟩
  replace H := H.push hO (Ent.osl w.heap.size s4 5 1 _ _) (ownsRow_base hOwn H.size) (fun b hb => (hOwn.lt b hb).1)
  refine WL.pv (PV.fieldV rfl TrydT.fd52_1 rfl (PartAt.one TrydT.ag33 (Seg.r (Seg.all _) (by (simp only [kc_length, kw_length, List.length_replicate, List.length_append, List.length_cons, List.length_nil, cutI_length, shaOf_length, dig_length, valD_length, rootM_length]; omega))))) rfl ?_
  refine WL.as rfl rfl ?_
  refine WL.as rfl rfl ?_
  refine WL.nil ?_
  refine WE.ret ?_
  refine ⟨[_, _], _, .nil _, ⟨rfl, rfl, trivial⟩, ?_⟩
  exact ⟨s4, rfl, H.toOut0, H.l 0 rfl⟩


theorem GetNo_c {X : Nat → Prop} {w : World} {bits : Int} {T : Tr} {k : List UInt8} (hX : ∀ b, X b → b < w.heap.size) (hf0 : Rob X (TrA bits T) w) (hk : k.length = 32) (hfit : T.er.fit 0) (hg : T.getV k = none) :
    Ret Tryd.prog 49 [T.ptr, .agg (kc k).toArray].toArray w fun v w' => v = .tuple [.slice none 0 0, .bool false].toArray ∧ Out Nil w w' := by
  by_cases h1 : (T.fin k).er.kind = 1
  · refine GetB_c hX hf0 hk hfit h1 fun h2 => ?_
    obtain ⟨a, q, v, s, e⟩ := Tr.kind1 h1
    unfold Tr.getV at hg
    rw [e] at hg h2
    exact absurd hg (by simp [show q = k from h2])
  · exact GetA_c hX hf0 hk hfit h1
theorem GetYes_c {X : Nat → Prop} {w : World} {bits : Int} {T : Tr} {k v0 : List UInt8} (hX : ∀ b, X b → b < w.heap.size) (hf0 : Rob X (TrA bits T) w) (hk : k.length = 32) (hfit : T.er.fit 0) (hg : T.getV k = some v0) :
    Ret Tryd.prog 49 [T.ptr, .agg (kc k).toArray].toArray w fun v w' => ∃ s, v = .tuple [s, .bool true].toArray ∧ Out Nil w w' ∧ w'.ownsRow w.heap.size 5 1 s v0.length (kc v0) := by
  have h : (T.fin k).er.kind = 1 ∧ (T.fin k).key = k ∧ (T.fin k).val = v0 := by
    unfold Tr.getV at hg
    cases e : T.fin k with
    | nil => rw [e] at hg; cases hg
    | inner => rw [e] at hg; cases hg
    | leaf a q v s =>
      rw [e] at hg
      dsimp only at hg
      split at hg
      · injection hg with hg; exact ⟨rfl, by assumption, hg⟩
      · cases hg
  have := GetC_c hX hf0 hk hfit h.1 h.2.1
  rw [h.2.2] at this
  exact this
theorem getV_map {T : Tr} {m : List En} {k : List UInt8} (hT : T.er = grow 0 m) (hp : Pm 0 m) : T.getV k = (getM m k).map (·.v) := by
  have h := at_er (k := k) hT hp _ (Nat.le_refl _)
  have hl := at_end (k := k) hT hp
  rw [← getM_at (k := k) (d := 0) (T.dp k 0)]
  have hf : (T.fin k).er = _ := h.1
  unfold Tr.getV
  match hm : atM k 0 m (T.dp k 0), hl with
  | [], _ =>
    rw [hm, grow_nil] at hf
    rw [Tr.nil_er hf]
    rfl
  | [e], _ =>
    rw [hm, grow_one] at hf
    obtain ⟨a, s, e2⟩ := Tr.leaf_of hf
    rw [e2]
    by_cases hk : e.k = k
    · simp [getM, hk]
    · simp [getM, hk]
  | _ :: _ :: _, h => simp at h

end Go.Sp.Tryd
