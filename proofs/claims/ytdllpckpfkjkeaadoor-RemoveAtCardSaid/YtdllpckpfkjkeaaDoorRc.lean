/- Walks of functions, printed by a program of this session (gen.py) from notes on each function. -/
import Derived.Test.YtdllpckpfkjkeaaDoorRb
set_option maxRecDepth 100000
set_option maxHeartbeats 1000000
set_option linter.unusedVariables false
set_option linter.unusedSimpArgs false
namespace Go.Sp.Tryd
open Go.Proofs Go.RowKit Go.Sp

theorem grow10 (s2 : Value) : ∀ s1 : Value, grow 0 (rmM (putM (putM [] (En.mk (List.replicate 32 0) s1 [1])) (En.mk ((List.replicate 32 0).set 0 64) s2 [2])) (List.replicate 32 0)) = .leaf ((List.replicate 32 0).set 0 64) [2] := fun _ => by kernel_rfl
theorem has10 (s1 s2 : Value) : hasM (putM (putM [] (En.mk (List.replicate 32 0) s1 [1])) (En.mk ((List.replicate 32 0).set 0 64) s2 [2])) (List.replicate 32 0) = true := by kernel_rfl
theorem not10 (s1 s2 : Value) : hasM (putM (putM [] (En.mk (List.replicate 32 0) s1 [1])) (En.mk ((List.replicate 32 0).set 0 64) s2 [2])) ((List.replicate 32 0).set 0 1) = false := by kernel_rfl
theorem all10 (s1 s2 : Value) : grow 0 ([((List.replicate 32 0).set 0 64), (List.replicate 32 0), ((List.replicate 32 0).set 0 64)].foldl rmM (putM (putM [] (En.mk (List.replicate 32 0) s1 [1])) (En.mk ((List.replicate 32 0).set 0 64) s2 [2]))) = .nil := by kernel_rfl
theorem len10 (s1 s2 : Value) : (((putM (putM [] (En.mk (List.replicate 32 0) s1 [1])) (En.mk ((List.replicate 32 0).set 0 64) s2 [2])).length : Int) - ([((List.replicate 32 0).set 0 64), (List.replicate 32 0), ((List.replicate 32 0).set 0 64)].foldl rmM (putM (putM [] (En.mk (List.replicate 32 0) s1 [1])) (En.mk ((List.replicate 32 0).set 0 64) s2 [2]))).length) = 2 := by kernel_rfl
theorem srt10 (s1 s2 : Value) : Srt (putM (putM [] (En.mk (List.replicate 32 0) s1 [1])) (En.mk ((List.replicate 32 0).set 0 64) s2 [2])) := putM_srt (putM_srt List.Pairwise.nil (fun _ h => by cases h) (by rfl)) (putM_kl (fun _ h => by cases h) (by rfl)) (by rfl)
theorem kl10 (s1 s2 : Value) : KL (putM (putM [] (En.mk (List.replicate 32 0) s1 [1])) (En.mk ((List.replicate 32 0).set 0 64) s2 [2])) := putM_kl (putM_kl (fun _ h => by cases h) (by rfl)) (by rfl)
theorem two10 {P : En → Prop} {a b : En} (h1 : P a) (h2 : P b) : ∀ e ∈ [a, b], P e := fun e he => by
  rcases List.mem_cons.1 he with rfl | he
  · exact h1
  · rcases List.mem_cons.1 he with rfl | he
    · exact h2
    · cases he
theorem k3210 {P : List UInt8 → Prop} {a b c : List UInt8} (h1 : P a) (h2 : P b) (h3 : P c) : ∀ e ∈ [a, b, c], P e := fun e he => by
  rcases List.mem_cons.1 he with rfl | he
  · exact h1
  · rcases List.mem_cons.1 he with rfl | he
    · exact h2
    · rcases List.mem_cons.1 he with rfl | he
      · exact h3
      · cases he
theorem lenn10 (s1 s2 : Value) : (putM (putM [] (En.mk (List.replicate 32 0) s1 [1])) (En.mk ((List.replicate 32 0).set 0 64) s2 [2])).length = 2 := by kernel_rfl

theorem alive10_c {X : Nat → Prop} {w : World}  (hX : ∀ b, X b → b < w.heap.size) (hf0 : Rob X (Rounds) w) :
    Ret Tryd.prog 34 [].toArray w fun v w' => v = .bool true ∧ Out Nil w w' := by
  refine Ret.of_body (N := 76) Tryd.func34 rfl rfl (by decide +revert) ?_
  have H := St.begin hX
  replace H := H.add (rob0 hf0)
  refine WE.seq_reg ?_
  refine WL.as rfl rfl ?_
  refine WL.nil ?_
  refine WE.seq_reg ?_
  refine WL.call TrydT.fb16 rfl (Hash_c (i := 256) H.yylt  (by omega)) ?_
  rintro _ w1 ⟨bhv10, bcv10, rfl, hO, hge, hB, hR⟩
  replace H := H.pushR hO (Ent.blk bcv10 127 [.int .i64 0]) hB (fun c hc => by cases hc; exact hge) hR
  refine WL.as rfl rfl ?_
  refine WL.nil ?_
  refine WE.seq ?_
  refine WE.seq_reg ?_
  refine WL.mv rfl rfl ?_
  refine WL.pv (PV.eqlPn rfl TrydT.pt32 rfl rfl) rfl ?_
  refine WL.nil ?_
  refine WE.cond_f' rfl rfl ?_
  refine WE.skip ?_
  refine WE.seq_reg ?_
  refine WL.buildSliceF (l0 := [.int .u8 (0)]) H rfl TrydT.st25 (by decide) (zrow_one _ _) (Fl.cons rfl (by rfl) (by (simp only [kc_length, kw_length, List.length_replicate, List.length_append, List.length_cons, List.length_nil, cutI_length, shaOf_length, dig_length, valD_length, rootM_length]; done)) Laid.head Fl.nil) rfl ?_
  intro b13 w2 H
  replace H := H.freeze (i := 0) rfl
  replace H := H.add ((H.rob 0 rfl).imp fun _ h => SlB.of_blk (l := [1]) h rfl)
  refine WL.pv (PV.buildS rfl TrydT.pl27 TrydT.ze27 (Fl.cons rfl (by rfl) (by (simp only [kc_length, kw_length, List.length_replicate, List.length_append, List.length_cons, List.length_nil, cutI_length, shaOf_length, dig_length, valD_length, rootM_length]; done)) (Laid.right (Laid.all (by (simp only [kc_length, kw_length, List.length_replicate, List.length_append, List.length_cons, List.length_nil, cutI_length, shaOf_length, dig_length, valD_length, rootM_length]; done))) (by (simp only [kc_length, kw_length, List.length_replicate, List.length_append, List.length_cons, List.length_nil, cutI_length, shaOf_length, dig_length, valD_length, rootM_length]; done))) Fl.nil)) rfl ?_
  refine WL.pv (PV.buildA rfl TrydT.ar24 TrydT.sz5 TrydT.ze24 (Fl.cons rfl rfl rfl (Laid.byteA (x := 64) 0 (by simp)) Fl.nil)) rfl ?_
  refine WL.buildSliceF (l0 := [.int .u8 (0)]) H rfl TrydT.st25 (by decide) (zrow_one _ _) (Fl.cons rfl (by rfl) (by (simp only [kc_length, kw_length, List.length_replicate, List.length_append, List.length_cons, List.length_nil, cutI_length, shaOf_length, dig_length, valD_length, rootM_length]; done)) Laid.head Fl.nil) rfl ?_
  intro b16 w3 H
  replace H := H.freeze (i := 0) rfl
  replace H := H.add ((H.rob 0 rfl).imp fun _ h => SlB.of_blk (l := [2]) h rfl)
  refine WL.pv (PV.buildS rfl TrydT.pl27 TrydT.ze27 (Fl.cons rfl (by rfl) (by (simp [kc_length, kw_length, *]; done)) (Laid.left (Laid.all (by (simp [kc_length, kw_length, *]; done)))) (Fl.cons rfl (by rfl) (by (simp only [kc_length, kw_length, List.length_replicate, List.length_append, List.length_cons, List.length_nil, cutI_length, shaOf_length, dig_length, valD_length, rootM_length]; done)) (Laid.right (Laid.all (by (simp only [kc_length, kw_length, List.length_replicate, List.length_append, List.length_cons, List.length_nil, cutI_length, shaOf_length, dig_length, valD_length, rootM_length]; done))) (by (simp [kc_length, kw_length, *]; done))) Fl.nil))) rfl ?_
  refine WL.buildSliceF (l0 := ((kc (List.replicate 32 0) ++ ([.slice none 0 0])) ++ ((kc (List.replicate 32 0) ++ ([.slice none 0 0]))))) H rfl TrydT.st22 (by decide) (by rfl) (Fl.cons rfl (by rfl) (by (simp only [kc_length, kw_length, List.length_replicate, List.length_append, List.length_cons, List.length_nil, cutI_length, shaOf_length, dig_length, valD_length, rootM_length]; done)) (Laid.left (Laid.all (by (simp only [kc_length, kw_length, List.length_replicate, List.length_append, List.length_cons, List.length_nil, cutI_length, shaOf_length, dig_length, valD_length, rootM_length]; done)))) (Fl.cons rfl (by rfl) (by (simp [kc_length, kw_length, *]; done)) (Laid.right (Laid.all (by (simp [kc_length, kw_length, *]; done))) (by (simp only [kc_length, kw_length, List.length_replicate, List.length_append, List.length_cons, List.length_nil, cutI_length, shaOf_length, dig_length, valD_length, rootM_length]; done))) Fl.nil)) rfl ?_
  intro b18 w4 H
  refine WL.as rfl rfl ?_
  refine WL.nil ?_
  refine WE.seq_reg ?_
  refine WL.mv rfl rfl ?_
  refine WL.mv rfl rfl ?_
  replace H := H.freeze (i := 0) rfl
  replace H := H.add ((H.rob 0 rfl).imp fun _ h => (SlC.of_blk (n := 2) h rfl : SlE (.slice (some ⟨b18, 0, none⟩) 2 2) [(En.mk (List.replicate 32 0) (.slice (some ⟨b13, 0, none⟩) 1 1) [1]), (En.mk ((List.replicate 32 0).set 0 64) (.slice (some ⟨b16, 0, none⟩) 1 1) [2])] _))
  refine WL.call TrydT.fb30 rfl (putAll_c (T := .nil) (M := []) (l := [(En.mk (List.replicate 32 0) (.slice (some ⟨b13, 0, none⟩) 1 1) [1]), (En.mk ((List.replicate 32 0).set 0 64) (.slice (some ⟨b16, 0, none⟩) 1 1) [2])]) (s := .slice (some ⟨b18, 0, none⟩) 2 2) (bits := 256) H.yylt (H.l 0 rfl) (by exact H.robL 0 rfl 6 rfl) (fun _ _ => trivial) (by exact (H.robL 0 rfl 0 rfl : Rob _ (SlE (.slice (some ⟨b18, 0, none⟩) 2 2) [(En.mk (List.replicate 32 0) (.slice (some ⟨b13, 0, none⟩) 1 1) [1]), (En.mk ((List.replicate 32 0).set 0 64) (.slice (some ⟨b16, 0, none⟩) 1 1) [2])]) _)) (by exact (((H.robL 0 rfl 4 rfl : Rob _ (SlB _ _) _)).and ((H.robL 0 rfl 2 rfl : Rob _ (SlB _ _) _))).imp fun _ h e he => (by rcases List.mem_cons.1 he with rfl | he; exact h.1; (rcases List.mem_cons.1 he with rfl | he; exact h.2; cases he))) (by exact H.robL 0 rfl 7 rfl) (by decide) (grow_nil 0).symm (fun _ h => by cases h) List.Pairwise.nil (two10 rfl rfl) (two10 (by show (1 : Nat) ≤ _; decide) (by show (1 : Nat) ≤ _; decide)) (by show (2 : Nat) ≤ _; decide)) ?_
  rintro _ w5 ⟨Tv21, mv21, rfl, hTv21, hO, hB, hR⟩
  replace H := H.calledR 0 rfl hO hB hR
  have hT09 := hTv21
  obtain ⟨a16, b16_, a1, a2, t1, t2, rfl⟩ := T09_of hTv21
  refine WL.as rfl rfl ?_
  refine WL.nil ?_
  refine WE.seq_reg ?_
  refine WL.mv rfl rfl ?_
  refine WL.mv rfl rfl ?_
  refine WL.pv (PV.buildA rfl TrydT.ar24 TrydT.sz5 TrydT.ze24 Fl.nil) rfl ?_
  refine WL.call TrydT.fb36 rfl (Remove2_c (T := (T09 a16 b16_ a1 a2 t1 t2)) (M := (putM (putM [] (En.mk (List.replicate 32 0) (.slice (some ⟨b13, 0, none⟩) 1 1) [1])) (En.mk ((List.replicate 32 0).set 0 64) (.slice (some ⟨b16, 0, none⟩) 1 1) [2]))) (k := (List.replicate 32 0)) (bits := 256) H.yylt (H.l 0 rfl) (by exact H.robL 0 rfl 7 rfl) (by exact H.robL 0 rfl 0 rfl) (by exact H.robL 0 rfl 8 rfl) (by decide) (by rfl) hT09 ((srt10 _ _).pm (kl10 _ _)) (by rw [lenn10]; decide)) ?_
  rintro _ w6 ⟨Tv26, cv26, fv26, rfl, hTv26, hfv26, hnv26, hO, hB, hR⟩
  replace H := H.calledR 0 rfl hO hB hR
  rw [has10] at hfv26
  subst hfv26
  rw [grow10] at hTv26
  obtain ⟨a26_, s26_, rfl⟩ := Tr.leaf_of hTv26
  refine WL.mv rfl rfl ?_
  refine WL.pv (PV.extract rfl rfl rfl) rfl ?_
  refine WL.pv (PV.extract rfl rfl rfl) rfl ?_
  refine WL.as rfl rfl ?_
  refine WL.as rfl rfl ?_
  refine WL.nil ?_
  refine WE.seq_reg ?_
  refine WL.mv rfl rfl ?_
  refine WL.mv rfl rfl ?_
  refine WL.pv (PV.buildA rfl TrydT.ar24 TrydT.sz5 TrydT.ze24 (Fl.cons rfl rfl rfl (Laid.byteA (x := 1) 0 (by simp)) Fl.nil)) rfl ?_
  refine WL.call TrydT.fb36 rfl (Remove2_c (T := (T09 a16 b16_ a1 a2 t1 t2)) (M := (putM (putM [] (En.mk (List.replicate 32 0) (.slice (some ⟨b13, 0, none⟩) 1 1) [1])) (En.mk ((List.replicate 32 0).set 0 64) (.slice (some ⟨b16, 0, none⟩) 1 1) [2]))) (k := ((List.replicate 32 0).set 0 1)) (bits := 256) H.yylt (H.l 0 rfl) (by exact H.robL 0 rfl 8 rfl) (by exact H.robL 0 rfl 1 rfl) (by exact H.robL 0 rfl 9 rfl) (by decide) (by rfl) hT09 ((srt10 _ _).pm (kl10 _ _)) (by rw [lenn10]; decide)) ?_
  rintro _ w7 ⟨Tv33, cv33, fv33, rfl, hTv33, hfv33, hnv33, hO, hB, hR⟩
  replace H := H.calledR 0 rfl hO hB hR
  rw [not10] at hfv33
  subst hfv33
  obtain ⟨rfl, -⟩ := hnv33 rfl
  refine WL.mv rfl rfl ?_
  refine WL.pv (PV.extract rfl rfl rfl) rfl ?_
  refine WL.pv (PV.extract rfl rfl rfl) rfl ?_
  refine WL.as rfl rfl ?_
  refine WL.as rfl rfl ?_
  refine WL.nil ?_
  refine WE.seq_reg ?_
  refine WL.mv rfl rfl ?_
  refine WL.mv rfl rfl ?_
  refine WL.pv (PV.buildA rfl TrydT.ar24 TrydT.sz5 TrydT.ze24 (Fl.cons rfl rfl rfl (Laid.byteA (x := 64) 0 (by simp)) Fl.nil)) rfl ?_
  refine WL.pv (PV.buildA rfl TrydT.ar24 TrydT.sz5 TrydT.ze24 Fl.nil) rfl ?_
  refine WL.pv (PV.buildA rfl TrydT.ar24 TrydT.sz5 TrydT.ze24 (Fl.cons rfl rfl rfl (Laid.byteA (x := 64) 0 (by simp)) Fl.nil)) rfl ?_
  refine WL.buildSliceF (l0 := (kc (List.replicate 32 0) ++ (kc (List.replicate 32 0) ++ (kc (List.replicate 32 0))))) H rfl TrydT.st72 (by decide) (by rfl) (Fl.cons rfl (by rfl) (by (simp [kc_length, kw_length, *]; done)) (Laid.left (Laid.all (by (simp [kc_length, kw_length, *]; done)))) (Fl.cons rfl (by rfl) (by with_reducible rfl) (Laid.right (Laid.left (Laid.all (by with_reducible rfl))) (by (simp [kc_length, kw_length, *]; done))) (Fl.cons rfl (by rfl) (by (simp [kc_length, kw_length, *]; done)) (Laid.right (Laid.right (Laid.all (by (simp [kc_length, kw_length, *]; done))) (by with_reducible rfl)) (by (simp [kc_length, kw_length, *]; done))) Fl.nil))) rfl ?_
  intro b42 w8 H
  replace H := H.freeze (i := 0) rfl
  replace H := H.add ((H.rob 0 rfl).imp fun _ h => (SlC.of_blk (n := 3) h rfl : SlK (.slice (some ⟨b42, 0, none⟩) 3 3) [((List.replicate 32 0).set 0 64), (List.replicate 32 0), ((List.replicate 32 0).set 0 64)] _))
  refine WL.call TrydT.fb41 rfl (rmAll_c (T := (T09 a16 b16_ a1 a2 t1 t2)) (M := (putM (putM [] (En.mk (List.replicate 32 0) (.slice (some ⟨b13, 0, none⟩) 1 1) [1])) (En.mk ((List.replicate 32 0).set 0 64) (.slice (some ⟨b16, 0, none⟩) 1 1) [2]))) (ks := [((List.replicate 32 0).set 0 64), (List.replicate 32 0), ((List.replicate 32 0).set 0 64)]) (s := .slice (some ⟨b42, 0, none⟩) 3 3) (bits := 256) H.yylt (H.l 0 rfl) (by exact H.robL 0 rfl 11 rfl) (by exact H.robL 0 rfl 2 rfl) (by exact (H.robL 0 rfl 0 rfl : Rob _ (SlK (.slice (some ⟨b42, 0, none⟩) 3 3) [((List.replicate 32 0).set 0 64), (List.replicate 32 0), ((List.replicate 32 0).set 0 64)]) _)) (by exact H.robL 0 rfl 12 rfl) (by decide) hT09 (kl10 _ _) (srt10 _ _) (k3210 rfl rfl rfl) (by rw [lenn10]; decide) (by decide)) ?_
  rintro _ w9 ⟨Tv43, mv43, rfl, hTv43, hO, hB, hR⟩
  rw [len10]
  replace H := H.calledR 0 rfl hO hB hR
  rw [all10] at hTv43
  obtain rfl := Tr.nil_er hTv43
  refine WL.mv rfl rfl ?_
  refine WL.pv (PV.extract rfl rfl rfl) rfl ?_
  refine WL.pv (PV.extract rfl rfl rfl) rfl ?_
  refine WL.as rfl rfl ?_
  refine WL.as rfl rfl ?_
  refine WL.nil ?_
  refine WE.seq_reg ?_
  refine WL.mv rfl rfl ?_
  refine WL.call TrydT.fb51 rfl (NKind_c (T := .leaf a26_ _ _ s26_) (bits := 256) H.yylt (by exact H.rob 4 rfl) ) ?_
  rintro _ w10 ⟨rfl, hO⟩
  replace H := H.out hO
  refine WL.pv (PV.eql rfl rfl rfl) rfl ?_
  refine WL.mv rfl rfl ?_
  refine WL.known (t := 49) (c := true) rfl (by rfl) ?_
  refine WL.mv rfl rfl ?_
  refine WL.call TrydT.fb77 rfl (Entry_c (T := .leaf a26_ _ _ s26_) (bits := 256) H.yylt (by exact H.rob 4 rfl) ) ?_
  rintro _ w11 ⟨sv51, rfl, hO, hOwn⟩
  have hs1v51 := SlC.one1 (SlB.of_own hOwn)
  have hr_ := (rob_own H.yylt hOwn).imp fun _ h => SlB.of_own h
  replace H := (H.out hO).add hr_
  refine WL.pv (PV.fieldV rfl TrydT.fd27_0 rfl (PartAt.agg TrydT.ag24 (by exact TrydT.sz24) (Seg.l (Seg.all _)))) rfl ?_
  refine WL.pv (PV.buildA rfl TrydT.ar24 TrydT.sz5 TrydT.ze24 (Fl.cons rfl rfl rfl (Laid.byteA (x := 64) 0 (by simp)) Fl.nil)) rfl ?_
  refine WL.pv (PV.eqlB rfl TrydT.ar24 TrydT.in5 TrydT.sz5 (by kernel_rfl) rfl rfl (by exact rfl) (by exact rfl)) rfl ?_
  refine WL.pv (PV.pick_t rfl rfl rfl) rfl ?_
  refine WL.mv rfl rfl ?_
  refine WL.known (t := 56) (c := true) rfl (by rfl) ?_
  refine WL.mv rfl rfl ?_
  refine WL.pv (PV.pick_t rfl rfl rfl) rfl ?_
  refine WL.mv rfl rfl ?_
  refine WL.known (t := 59) (c := true) rfl (by rfl) ?_
  refine WL.mv rfl rfl ?_
  refine WL.mv rfl rfl ?_
  refine WL.pv (PV.eqlPP rfl TrydT.pt29 (by rw [TrydT.sz96]; rfl) rfl rfl) rfl ?_
  refine WL.pv (PV.pick_t rfl rfl rfl) rfl ?_
  refine WL.mv rfl rfl ?_
  refine WL.known (t := 64) (c := true) rfl (by rfl) ?_
  refine WL.mv rfl rfl ?_
  refine WL.pv (PV.not rfl rfl) rfl ?_
  refine WL.pv (PV.pick_t rfl rfl rfl) rfl ?_
  refine WL.mv rfl rfl ?_
  refine WL.known (t := 68) (c := true) rfl (by rfl) ?_
  refine WL.mv rfl rfl ?_
  refine WL.pv (PV.eqlPn rfl TrydT.pt29 rfl rfl) rfl ?_
  refine WL.pv (PV.pick_t rfl rfl rfl) rfl ?_
  refine WL.mv rfl rfl ?_
  refine WL.known (t := 72) (c := true) rfl (by rfl) ?_
  refine WL.mv rfl rfl ?_
  refine WL.pv (PV.eql rfl rfl rfl) rfl ?_
  refine WL.pv (PV.pick_t rfl rfl rfl) rfl ?_
  refine WL.as rfl rfl ?_
  refine WL.nil ?_
  refine WE.ret ?_
  refine ⟨[_], _, .nil _, ⟨rfl, trivial⟩, ?_⟩
  refine ⟨?_, H.toOut0⟩
  rfl

end Go.Sp.Tryd
