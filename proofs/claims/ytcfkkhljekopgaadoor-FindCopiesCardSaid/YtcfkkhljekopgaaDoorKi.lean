/- Walks of functions, printed by a program of this session (gen.py) from notes on each function. -/
import Derived.Test.YtcfkkhljekopgaaDoorKh
set_option maxRecDepth 100000
set_option maxHeartbeats 1000000
set_option linter.unusedVariables false
set_option linter.unusedSimpArgs false
namespace Go.Sp.Tryd
open Go.Proofs Go.RowKit Go.Sp

theorem grow08 (s1 s2 : Value) : grow 0 [En.mk (List.replicate 32 0) s1 [1], En.mk ((List.replicate 32 0).set 0 128) s2 [2]] = .inner (.leaf (List.replicate 32 0) [1]) (.leaf ((List.replicate 32 0).set 0 128) [2]) := by kernel_rfl
theorem pm08 (s1 s2 : Value) : Pm 0 [En.mk (List.replicate 32 0) s1 [1], En.mk ((List.replicate 32 0).set 0 128) s2 [2]] :=
  Pm.zero (fun e he => by simp at he; rcases he with rfl | rfl <;> rfl) (by simp [List.pairwise_cons]; decide)
theorem pm08a (s1 : Value) : Pm 0 [En.mk (List.replicate 32 0) s1 [1]] :=
  Pm.zero (fun e he => by simp at he; subst he; rfl) (by simp)
def T08 (a a1 a2 : Nat) (s1 s2 : Value) : Tr := .inner a (.leaf a1 (List.replicate 32 0) [1] s1) (.leaf a2 ((List.replicate 32 0).set 0 128) [2] s2)
theorem fit08 (a a1 a2 : Nat) (s1 s2 : Value) : (T08 a a1 a2 s1 s2).er.fit 0 := ⟨by decide, trivial, trivial⟩
theorem dp08 (a a1 a2 : Nat) (s1 s2 : Value) : (T08 a a1 a2 s1 s2).dp (List.replicate 32 0) 0 = 1 := by kernel_rfl
theorem dp08b (a a1 a2 : Nat) (s1 s2 : Value) : (T08 a a1 a2 s1 s2).dp ((List.replicate 32 0).set 0 128) 0 = 1 := by kernel_rfl
theorem fin08 (a a1 a2 : Nat) (s1 s2 : Value) : (T08 a a1 a2 s1 s2).fin (List.replicate 32 0) = .leaf a1 (List.replicate 32 0) [1] s1 := by kernel_rfl
theorem fin08b (a a1 a2 : Nat) (s1 s2 : Value) : (T08 a a1 a2 s1 s2).fin ((List.replicate 32 0).set 0 128) = .leaf a2 ((List.replicate 32 0).set 0 128) [2] s2 := by kernel_rfl
theorem get08 (a a1 a2 : Nat) (s1 s2 : Value) : (T08 a a1 a2 s1 s2).getV ((List.replicate 32 0).set 0 128) = some [2] := by unfold Tr.getV; rw [fin08b]; rfl
theorem get08n (a a1 a2 : Nat) (s1 s2 : Value) : (T08 a a1 a2 s1 s2).getV ((List.replicate 32 0).set 0 129) = none := by
  have h : (T08 a a1 a2 s1 s2).fin ((List.replicate 32 0).set 0 129) = .leaf a2 ((List.replicate 32 0).set 0 128) [2] s2 := by kernel_rfl
  unfold Tr.getV; rw [h]
  exact if_neg (by decide)
theorem und08 (a a1 a2 : Nat) (s1 s2 : Value) : (T08 a a1 a2 s1 s2).und ((List.replicate 32 0).set 0 128) 256 = .leaf a2 ((List.replicate 32 0).set 0 128) [2] s2 := by
  unfold Tr.und
  rw [dp08b, if_neg (by decide), fin08b, if_neg]
  rintro ⟨_, h⟩
  have := (comN_full (a := ((List.replicate 32 0).set 0 128)) (b := ((List.replicate 32 0).set 0 128)) (by decide) (by decide)).2 rfl
  exact absurd (show comN ((List.replicate 32 0).set 0 128) ((List.replicate 32 0).set 0 128) < 256 from h) (by omega)
theorem T08_of {T : Tr} {s1 s2 : Value} (h : T.er = grow 0 [En.mk (List.replicate 32 0) s1 [1], En.mk ((List.replicate 32 0).set 0 128) s2 [2]]) : ∃ a a1 a2 t1 t2, T = T08 a a1 a2 t1 t2 := by
  rw [grow08] at h
  obtain ⟨a, l, r, rfl, h1, h2⟩ := Tr.inner_of h
  obtain ⟨a1, t1, rfl⟩ := Tr.leaf_of h1
  obtain ⟨a2, t2, rfl⟩ := Tr.leaf_of h2
  exact ⟨a, a1, a2, t1, t2, rfl⟩

theorem alive08_c {X : Nat → Prop} {w : World}  (hX : ∀ b, X b → b < w.heap.size) (hf0 : Rob X (Rounds) w) :
    Ret Tryd.prog 45 [].toArray w fun v w' => v = .bool true ∧ Out Nil w w' := by
  refine Ret.of_body (N := 104) Tryd.func45 rfl rfl (by decide +revert) ?_
  have H := St.begin hX
  replace H := H.add (rob0 hf0)
  refine WE.seq_reg ?_
  refine WL.as rfl rfl ?_
  refine WL.nil ?_
  refine WE.seq_reg ?_
  refine WL.call TrydT.fb27 rfl (Hash_c (i := 8) H.yylt  (by omega)) ?_
  rintro _ w1 ⟨bhv12, bcv12, rfl, hO, hge, hB, hR⟩
  replace H := H.pushR hO (Ent.blk bcv12 86 [.int .i64 0]) hB (fun c hc => by cases hc; exact hge) hR
  refine WL.as rfl rfl ?_
  refine WL.nil ?_
  refine WE.seq ?_
  refine WE.seq_reg ?_
  refine WL.mv rfl rfl ?_
  refine WL.pv (PV.eqlPn rfl TrydT.pt24 rfl rfl) rfl ?_
  refine WL.nil ?_
  refine WE.cond_f' rfl rfl ?_
  refine WE.skip ?_
  refine WE.seq_reg ?_
  refine WL.buildSliceF (l0 := [.int .u8 (0)]) H rfl TrydT.st33 (by decide) (zrow_one _ _) (Fl.cons rfl (by rfl) (by (simp only [kc_length, kw_length, List.length_replicate, List.length_append, List.length_cons, List.length_nil, cutI_length, shaOf_length, dig_length, valD_length, rootM_length]; done)) Laid.head Fl.nil) rfl ?_
  intro b15 w2 H
  replace H := H.freeze (i := 0) rfl
  replace H := H.add ((H.rob 0 rfl).imp fun _ h => SlB.of_blk (l := [1]) h rfl)
  refine WL.pv (PV.buildS rfl TrydT.pl52 TrydT.ze52 (Fl.cons rfl (by rfl) (by (simp only [kc_length, kw_length, List.length_replicate, List.length_append, List.length_cons, List.length_nil, cutI_length, shaOf_length, dig_length, valD_length, rootM_length]; done)) (Laid.right (Laid.all (by (simp only [kc_length, kw_length, List.length_replicate, List.length_append, List.length_cons, List.length_nil, cutI_length, shaOf_length, dig_length, valD_length, rootM_length]; done))) (by (simp only [kc_length, kw_length, List.length_replicate, List.length_append, List.length_cons, List.length_nil, cutI_length, shaOf_length, dig_length, valD_length, rootM_length]; done))) Fl.nil)) rfl ?_
  refine WL.pv (PV.buildA rfl TrydT.ar36 TrydT.sz5 TrydT.ze36 (Fl.cons rfl rfl rfl (Laid.byteA (x := 128) 0 (by simp)) Fl.nil)) rfl ?_
  refine WL.buildSliceF (l0 := [.int .u8 (0)]) H rfl TrydT.st33 (by decide) (zrow_one _ _) (Fl.cons rfl (by rfl) (by (simp only [kc_length, kw_length, List.length_replicate, List.length_append, List.length_cons, List.length_nil, cutI_length, shaOf_length, dig_length, valD_length, rootM_length]; done)) Laid.head Fl.nil) rfl ?_
  intro b18 w3 H
  replace H := H.freeze (i := 0) rfl
  replace H := H.add ((H.rob 0 rfl).imp fun _ h => SlB.of_blk (l := [2]) h rfl)
  refine WL.pv (PV.buildS rfl TrydT.pl52 TrydT.ze52 (Fl.cons rfl (by rfl) (by (simp [kc_length, kw_length, *]; done)) (Laid.left (Laid.all (by (simp [kc_length, kw_length, *]; done)))) (Fl.cons rfl (by rfl) (by (simp only [kc_length, kw_length, List.length_replicate, List.length_append, List.length_cons, List.length_nil, cutI_length, shaOf_length, dig_length, valD_length, rootM_length]; done)) (Laid.right (Laid.all (by (simp only [kc_length, kw_length, List.length_replicate, List.length_append, List.length_cons, List.length_nil, cutI_length, shaOf_length, dig_length, valD_length, rootM_length]; done))) (by (simp [kc_length, kw_length, *]; done))) Fl.nil))) rfl ?_
  refine WL.buildSliceF (l0 := ((kc (List.replicate 32 0) ++ ([.slice none 0 0])) ++ ((kc (List.replicate 32 0) ++ ([.slice none 0 0]))))) H rfl TrydT.st42 (by decide) (by rfl) (Fl.cons rfl (by rfl) (by (simp only [kc_length, kw_length, List.length_replicate, List.length_append, List.length_cons, List.length_nil, cutI_length, shaOf_length, dig_length, valD_length, rootM_length]; done)) (Laid.left (Laid.all (by (simp only [kc_length, kw_length, List.length_replicate, List.length_append, List.length_cons, List.length_nil, cutI_length, shaOf_length, dig_length, valD_length, rootM_length]; done)))) (Fl.cons rfl (by rfl) (by (simp [kc_length, kw_length, *]; done)) (Laid.right (Laid.all (by (simp [kc_length, kw_length, *]; done))) (by (simp only [kc_length, kw_length, List.length_replicate, List.length_append, List.length_cons, List.length_nil, cutI_length, shaOf_length, dig_length, valD_length, rootM_length]; done))) Fl.nil)) rfl ?_
  intro b20 w4 H
  replace H := H.freeze (i := 0) rfl
  have hS1 : Rob _ (SlE (.slice (some ⟨b20, 0, none⟩) 2 2) [(En.mk (List.replicate 32 0) (.slice (some ⟨b15, 0, none⟩) 1 1) [1]), (En.mk ((List.replicate 32 0).set 0 128) (.slice (some ⟨b18, 0, none⟩) 1 1) [2])]) _ := (H.rob 0 rfl).imp fun _ h => SlC.of_blk (n := 2) h rfl
  have hV1 : Rob _ (Vals [(En.mk (List.replicate 32 0) (.slice (some ⟨b15, 0, none⟩) 1 1) [1]), (En.mk ((List.replicate 32 0).set 0 128) (.slice (some ⟨b18, 0, none⟩) 1 1) [2])]) _ := ((H.rob 3 rfl).and (H.rob 1 rfl)).imp fun _ h e he => by simp at he; rcases he with rfl | rfl; exact h.1; exact h.2
  replace H := (H.add hV1).add hS1
  refine WL.as rfl rfl ?_
  refine WL.nil ?_
  refine WE.seq_reg ?_
  refine WL.mv rfl rfl ?_
  refine WL.mv rfl rfl ?_
  refine WL.call TrydT.fb32 rfl (GrowT_c (m := [(En.mk (List.replicate 32 0) (.slice (some ⟨b15, 0, none⟩) 1 1) [1]), (En.mk ((List.replicate 32 0).set 0 128) (.slice (some ⟨b18, 0, none⟩) 1 1) [2])]) (d := 0) (bits := 8) H.yylt (H.l 0 rfl) (by exact H.robL 0 rfl 7 rfl) (by exact H.robL 0 rfl 0 rfl) (by exact H.robL 0 rfl 1 rfl) (by exact H.robL 0 rfl 8 rfl) (pm08 _ _) (by simp) (fun e he => by simp at he; rcases he with rfl | rfl <;> simp) (by decide)) ?_
  rintro _ w5 ⟨Tv23, mv23, rfl, hTv23, hO, hB, hR⟩
  replace H := H.calledR 0 rfl hO hB hR
  obtain ⟨a23, a1, a2, t1, t2, rfl⟩ := T08_of hTv23
  refine WL.as rfl rfl ?_
  refine WL.nil ?_
  refine WE.seq_reg ?_
  refine WL.mv rfl rfl ?_
  refine WL.pv (PV.buildA rfl TrydT.ar36 TrydT.sz5 TrydT.ze36 Fl.nil) rfl ?_
  refine WL.call TrydT.fb46 rfl (Locate_c (T := (T08 a23 a1 a2 t1 t2)) (k := (List.replicate 32 0)) (bits := 8) H.yylt (by exact H.rob 0 rfl) (by decide) (fit08 _ _ _ _ _)) ?_
  rintro _ w6 ⟨rfl, hO⟩
  replace H := H.out hO
  refine WL.mv rfl rfl ?_
  refine WL.pv (PV.extract rfl rfl rfl) rfl ?_
  refine WL.pv (PV.extract rfl rfl rfl) rfl ?_
  refine WL.as rfl rfl ?_
  refine WL.as rfl rfl ?_
  refine WL.nil ?_
  refine WE.seq_reg ?_
  refine WL.mv rfl rfl ?_
  refine WL.mv rfl rfl ?_
  refine WL.pv (PV.subH rfl (by exact H.p 1 rfl : SlE _ [(En.mk (List.replicate 32 0) (.slice (some ⟨b15, 0, none⟩) 1 1) [1]), (En.mk ((List.replicate 32 0).set 0 128) (.slice (some ⟨b18, 0, none⟩) 1 1) [2])] _) TrydT.sl42 TrydT.sz52 rfl rfl (by decide) (by simp)) rfl ?_
  have hS2 : Rob _ (SlE (subSl (.slice (some ⟨b20, 0, none⟩) 2 2) 33 0 1) [(En.mk (List.replicate 32 0) (.slice (some ⟨b15, 0, none⟩) 1 1) [1])]) _ := (H.rob 1 rfl).imp fun _ h => (SlC.sub (lo := 0) (hi := 1) h (by decide) (by simp) : SlC _ _ 33 1 _)
  have hV2 : Rob _ (Vals [(En.mk (List.replicate 32 0) (.slice (some ⟨b15, 0, none⟩) 1 1) [1])]) _ := (H.rob 2 rfl).imp fun _ h e he => h e (by simp at he; simp [he])
  replace H := (H.add hV2).add hS2
  refine WL.call TrydT.fb32 rfl (GrowT_c (m := [(En.mk (List.replicate 32 0) (.slice (some ⟨b15, 0, none⟩) 1 1) [1])]) (d := 0) (bits := 8) H.yylt (H.l 0 rfl) (by exact H.robL 0 rfl 10 rfl) (by exact H.robL 0 rfl 0 rfl) (by exact H.robL 0 rfl 1 rfl) (by exact H.robL 0 rfl 11 rfl) (pm08a _) (by simp) (fun e he => by simp at he; subst he; simp) (by decide)) ?_
  rintro _ w7 ⟨Tv34, mv34, rfl, hTv34, hO, hB, hR⟩
  replace H := H.calledR 0 rfl hO hB hR
  rw [grow_one] at hTv34
  obtain ⟨a34, s34, rfl⟩ := Tr.leaf_of hTv34
  refine WL.pv (PV.buildA rfl TrydT.ar36 TrydT.sz5 TrydT.ze36 (Fl.cons rfl rfl rfl (Laid.byteA (x := 77) 0 (by simp)) Fl.nil)) rfl ?_
  refine WL.call TrydT.fb46 rfl (Locate_c (T := .leaf a34 _ _ s34) (k := ((List.replicate 32 0).set 0 77)) (bits := 8) H.yylt (by exact H.rob 0 rfl) (by decide) trivial) ?_
  rintro _ w8 ⟨rfl, hO⟩
  replace H := H.out hO
  refine WL.mv rfl rfl ?_
  refine WL.pv (PV.extract rfl rfl rfl) rfl ?_
  refine WL.pv (PV.extract rfl rfl rfl) rfl ?_
  refine WL.as rfl rfl ?_
  refine WL.as rfl rfl ?_
  refine WL.nil ?_
  refine WE.seq_reg ?_
  refine WL.mv rfl rfl ?_
  refine WL.pv (PV.buildA rfl TrydT.ar36 TrydT.sz5 TrydT.ze36 (Fl.cons rfl rfl rfl (Laid.byteA (x := 128) 0 (by simp)) Fl.nil)) rfl ?_
  refine WL.call TrydT.fb49 rfl (GetYes_c (T := (T08 a23 a1 a2 t1 t2)) (k := ((List.replicate 32 0).set 0 128)) (bits := 8) H.yylt (by exact H.rob 3 rfl) (by decide) (fit08 _ _ _ _ _) (get08 _ _ _ _ _)) ?_
  rintro _ w9 ⟨s42, rfl, hO, hOwn⟩
  have hs42 := (rob_own H.yylt hOwn).imp fun _ h => SlB.of_own h
  replace H := (H.out hO).add hs42
  refine WL.mv rfl rfl ?_
  refine WL.pv (PV.extract rfl rfl rfl) rfl ?_
  refine WL.pv (PV.extract rfl rfl rfl) rfl ?_
  refine WL.as rfl rfl ?_
  refine WL.as rfl rfl ?_
  refine WL.nil ?_
  refine WE.seq_reg ?_
  refine WL.mv rfl rfl ?_
  refine WL.pv (PV.buildA rfl TrydT.ar36 TrydT.sz5 TrydT.ze36 (Fl.cons rfl rfl rfl (Laid.byteA (x := 129) 0 (by simp)) Fl.nil)) rfl ?_
  refine WL.call TrydT.fb49 rfl (GetNo_c (T := (T08 a23 a1 a2 t1 t2)) (k := ((List.replicate 32 0).set 0 129)) (bits := 8) H.yylt (by exact H.rob 4 rfl) (by decide) (fit08 _ _ _ _ _) (get08n _ _ _ _ _)) ?_
  rintro _ w10 ⟨rfl, hO⟩
  replace H := H.out hO
  refine WL.mv rfl rfl ?_
  refine WL.pv (PV.extract rfl rfl rfl) rfl ?_
  refine WL.pv (PV.extract rfl rfl rfl) rfl ?_
  refine WL.as rfl rfl ?_
  refine WL.as rfl rfl ?_
  refine WL.nil ?_
  refine WE.seq_reg ?_
  refine WL.mv rfl rfl ?_
  refine WL.pv (PV.neqPn rfl TrydT.pt47 rfl rfl) rfl ?_
  refine WL.mv rfl rfl ?_
  refine WL.known (t := 53) (c := true) rfl (by (rw [fin08]; rfl)) ?_
  refine WL.mv rfl rfl ?_
  refine WL.call TrydT.fb40 rfl (NKind_c (T := (T08 a23 a1 a2 t1 t2).fin (List.replicate 32 0)) (bits := 8) H.yylt (by exact (H.rob 4 rfl).imp fun _ h => h.fin)) ?_
  rintro _ w11 ⟨rfl, hO⟩
  replace H := H.out hO
  refine WL.pv (PV.eql rfl rfl rfl) rfl ?_
  refine WL.pv (PV.pick_t rfl rfl rfl) rfl ?_
  refine WL.mv rfl rfl ?_
  refine WL.known (t := 58) (c := true) rfl (by (rw [fin08]; rfl)) ?_
  refine WL.mv rfl rfl ?_
  refine WL.pv (PV.eql rfl rfl rfl) rfl ?_
  refine WL.pv (PV.pick_t rfl rfl rfl) rfl ?_
  refine WL.mv rfl rfl ?_
  refine WL.known (t := 62) (c := true) rfl (by (rw [dp08]; rfl)) ?_
  refine WL.mv rfl rfl ?_
  refine WL.pv (PV.buildA rfl TrydT.ar36 TrydT.sz5 TrydT.ze36 Fl.nil) rfl ?_
  refine WL.call TrydT.fb51 rfl (Siblings_c (T := (T08 a23 a1 a2 t1 t2)) (k := (List.replicate 32 0)) (bits := 8) H.yylt (by exact H.rob 4 rfl) (by decide) (fit08 _ _ _ _ _)) ?_
  rintro v65 w12 ⟨hO, hR⟩
  replace H := (H.out hO).add hR
  refine WL.pv (PV.lenS (H.p 0 rfl) TrydT.sl73 rfl) rfl ?_
  refine WL.pv (PV.eql rfl rfl rfl) rfl ?_
  refine WL.pv (PV.pick_t rfl rfl rfl) rfl ?_
  refine WL.mv rfl rfl ?_
  refine WL.known (t := 69) (c := true) rfl (by (rw [sibL_len, dp08]; rfl)) ?_
  refine WL.mv rfl rfl ?_
  refine WL.pv (PV.buildA rfl TrydT.ar36 TrydT.sz5 TrydT.ze36 Fl.nil) rfl ?_
  refine WL.call TrydT.fb53 rfl (Way_c (T := (T08 a23 a1 a2 t1 t2)) (k := (List.replicate 32 0)) (bits := 8) H.yylt (by exact H.rob 5 rfl) (by decide) (fit08 _ _ _ _ _)) ?_
  rintro v72 w13 ⟨hO, hR⟩
  replace H := (H.out hO).add hR
  refine WL.pv (PV.lenS (H.p 0 rfl) TrydT.sl73 rfl) rfl ?_
  refine WL.pv (PV.eql rfl rfl rfl) rfl ?_
  refine WL.pv (PV.pick_t rfl rfl rfl) rfl ?_
  refine WL.mv rfl rfl ?_
  refine WL.known (t := 76) (c := true) rfl (by (rw [wayL_len, dp08]; rfl)) ?_
  refine WL.mv rfl rfl ?_
  refine WL.pv (PV.eql rfl rfl rfl) rfl ?_
  refine WL.pv (PV.pick_t rfl rfl rfl) rfl ?_
  refine WL.mv rfl rfl ?_
  refine WL.known (t := 80) (c := true) rfl (by rfl) ?_
  refine WL.mv rfl rfl ?_
  refine WL.pv (PV.lenS (H.p 2 rfl) TrydT.sl33 rfl) rfl ?_
  refine WL.pv (PV.eql rfl rfl rfl) rfl ?_
  refine WL.pv (PV.pick_t rfl rfl rfl) rfl ?_
  refine WL.mv rfl rfl ?_
  refine WL.known (t := 85) (c := true) rfl (by rfl) ?_
  refine WL.mv rfl rfl ?_
  refine WL.pv (PV.pick_t rfl rfl rfl) rfl ?_
  refine WL.mv rfl rfl ?_
  refine WL.known (t := 88) (c := true) rfl (by rfl) ?_
  refine WL.mv rfl rfl ?_
  refine WL.pv (PV.not rfl rfl) rfl ?_
  refine WL.pv (PV.pick_t rfl rfl rfl) rfl ?_
  refine WL.mv rfl rfl ?_
  refine WL.known (t := 92) (c := true) rfl (by rfl) ?_
  refine WL.mv rfl rfl ?_
  refine WL.call TrydT.fb55 rfl (Child_c (T := (T08 a23 a1 a2 t1 t2)) (bits := 8) (b := 0) H.yylt (by exact H.rob 6 rfl) ) ?_
  rintro _ w14 ⟨rfl, hO⟩
  replace H := H.out hO
  refine WL.pv (PV.neqPn rfl TrydT.pt47 rfl rfl) rfl ?_
  refine WL.pv (PV.pick_t rfl rfl rfl) rfl ?_
  refine WL.mv rfl rfl ?_
  refine WL.known (t := 97) (c := true) rfl (by rfl) ?_
  refine WL.mv rfl rfl ?_
  refine WL.pv (PV.buildA rfl TrydT.ar36 TrydT.sz5 TrydT.ze36 (Fl.cons rfl rfl rfl (Laid.byteA (x := 128) 0 (by simp)) Fl.nil)) rfl ?_
  refine WL.call TrydT.fb57 rfl (Under_c (T := (T08 a23 a1 a2 t1 t2)) (k := ((List.replicate 32 0).set 0 128)) (bits := 8) (c := 256) H.yylt (by exact H.rob 6 rfl) (by decide) (fit08 _ _ _ _ _) (by decide)) ?_
  rintro _ w15 ⟨rfl, hO⟩
  replace H := H.out hO
  refine WL.call TrydT.fb40 rfl (NKind_c (T := (T08 a23 a1 a2 t1 t2).und ((List.replicate 32 0).set 0 128) 256) (bits := 8) H.yylt (by exact (H.rob 6 rfl).imp fun _ h => und_A h)) ?_
  rintro _ w16 ⟨rfl, hO⟩
  replace H := H.out hO
  refine WL.pv (PV.eql rfl rfl rfl) rfl ?_
  refine WL.pv (PV.pick_t rfl rfl rfl) rfl ?_
  refine WL.as rfl rfl ?_
  refine WL.nil ?_
  refine WE.ret ?_
  refine ⟨[_], _, .nil _, ⟨rfl, trivial⟩, ?_⟩
  refine ⟨?_, H.toOut0⟩
  show Value.bool _ = Value.bool true
  (rw [und08]; rfl)

end Go.Sp.Tryd
